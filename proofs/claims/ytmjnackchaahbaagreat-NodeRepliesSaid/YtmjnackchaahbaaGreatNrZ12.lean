/- Part 12 of the texts that the walk leans on: the machine, the walks, the plain laws. -/
import Derived.Test.YtmjnackchaahbaaGreatNrZ11
set_option linter.unusedSimpArgs false
set_option linter.unusedVariables false
namespace Go.Proofs.YtmjnackchaahbaaGreat
open Go.RowKit

theorem nL (C:List eR):((inl C).drop 0).take (C.length*2)=inl C:=List.take_of_length_le (by rw [List.drop_zero,bP];exact Nat.le_refl _)
theorem lu (C:List eR):0+C.length*2≤(inl C).length:=by rw [bP,Nat.zero_add];exact Nat.le_refl _
theorem zl (l:List Tx) (n:Nat) (hn:l.length=n) (h1:n≤1000) (hd:l.Nodup) (i:Nat) (hi:i < n):Spec Tryz.prog 122 (ba [.sl n (fj l), .v (bt (l.getD i []))] []) (aP (.v (.int .i64 (i:Int))) []):=by
 refine Spec.ofN Tryz.func122 rfl Tryz.ntmps122 rfl ?_
 refine am (be rfl (aj (aq (am (be rfl (aj (ay ?_)))))))
 refine bu (α:=Nat) (fun k=> k≤n∧k≤i) 19 [(0,_),(1,_)] [] (fun k=> [(5, .v (.int .i64 (k:Int)))]) (fun k=> []) [] [] (fun k=> n - k) 0 ?_ (by
  refine Le.mkJ [] [] rfl ?_ ?_ trivial trivial ?_
  ·exact ⟨(iS rfl),(iV rfl),(cr ag),trivial⟩
  ·exact trivial
  kernel_rfl) ?_
 ·exact ⟨Nat.zero_le _,Nat.zero_le _⟩
 intro k hk
 obtain ⟨hk,hki⟩:=hk
 refine aU fun K4 hK4=> ?_
 refine am (aX rfl (eV rfl (ai (bp _ aa rfl) (ai (bn _ _ rfl rfl rfl) (aj (aR rfl (fun hc9=> ?_) (fun hc9=> ?_)))))))
 ·skip
  refine br (hK4 _ ?_)
  clear hK4;try clear K4
  refine aq (ay (am (eV rfl (aX rfl (ai (bo _ _ aa rfl rfl _ rfl ab (by (simp only [aL,bf,bh,bw,bv,bH,bz,bP];omega)) (by exact Nat.mul_one _)) ?_)))))
  refine ai (bO _ aa rfl (by exact jP _ _ ab) rfl) ?_
  refine eh rfl (ai (aV _ _ Tryz.underlying9 rfl rfl rfl) (aj (aR rfl (fun hc17=> ?_) (fun hc17=> ?_))))
  ·skip
   have he:k=i:=mL hd ab ab hc17
   refine am (aX rfl (be rfl (aj (aG (rx rfl rfl ?_)))))
   rw [he]
  have he:k≠i:=fun e=> hc17 (by rw [e])
  refine cw (an (aX rfl (ai (aZ _ _ rfl rfl (bF ab)) ?_)))
  refine be rfl (aJ (⟨k+1,?_,?_,?_⟩))
  ·exact ⟨by omega,by omega⟩
  ·skip
   refine Le.mkJ [] [] rfl ?_ ?_ trivial trivial ?_
   ·exact ⟨(iS rfl),(iV rfl),(cr ag),trivial⟩
   ·exact trivial
   kernel_rfl
  omega
 exact absurd hki ab
theorem pk:Spec Tryz.prog 123 (ba [] []) (aP (.sl 9 (fj bltT)) []):=by
 refine Spec.ofN Tryz.func123 rfl Tryz.ntmps123 rfl ?_
 refine am (ai (bq _ fA) (aj (am (ai (bi _ _ aa rfl ag (by (simp <;> rfl)) ah rfl) ?_))))
 exact kE rfl (aj (aG (pY rfl rfl)))
theorem zV:Spec Tryz.prog 126 (ba [.v (bt [43])] []) (aP (.sl (Bo.add).code.length (inl (Bo.add).code)) []):=by
 refine Spec.ofN Tryz.func126 rfl Tryz.ntmps126 rfl ?_
 refine am (ai (bq _ fA) (aj (aq (am (eh rfl (aj (ay (am (ai (aV (r:=true) _ _ Tryz.underlying9 rfl rfl rfl) (cp rfl ?_))))))))))
 refine aj (bL rfl rfl (am (ai (aM _ aa rfl (by exact eS)) ?_)))
 refine ai (bi _ _ aa rfl ag (by (simp <;> rfl)) ah rfl) ?_
 exact kE rfl (aj (aG (pY rfl rfl)))
theorem Da:Spec Tryz.prog 126 (ba [.v (bt [45])] []) (aP (.sl (Bo.sub).code.length (inl (Bo.sub).code)) []):=by
 refine Spec.ofN Tryz.func126 rfl Tryz.ntmps126 rfl ?_
 refine am (ai (bq _ fA) (aj (aq (am (eh rfl (aj (ay (am (ai (aV (r:=false) _ _ Tryz.underlying9 rfl rfl rfl) (cp rfl ?_))))))))))
 refine aj (aW rfl rfl (am (ai (aV (r:=true) _ _ Tryz.underlying9 rfl rfl rfl) (cp rfl (aj (bL rfl rfl (am (ai (aM _ aa rfl (by exact eS)) ?_))))))))
 refine ai (bi _ _ aa rfl ag (by (simp <;> rfl)) ah rfl) ?_
 exact kE rfl (aj (aG (pY rfl rfl)))
theorem CK:Spec Tryz.prog 126 (ba [.v (bt [42])] []) (aP (.sl (Bo.mul).code.length (inl (Bo.mul).code)) []):=by
 refine Spec.ofN Tryz.func126 rfl Tryz.ntmps126 rfl ?_
 refine am (ai (bq _ fA) (aj (aq (am (eh rfl (aj (ay (am (ai (aV (r:=false) _ _ Tryz.underlying9 rfl rfl rfl) (cp rfl ?_))))))))))
 refine aj (aW rfl rfl (am (ai (aV (r:=false) _ _ Tryz.underlying9 rfl rfl rfl) (cp rfl (aj (aW rfl rfl (am (ai (aV (r:=true) _ _ Tryz.underlying9 rfl rfl rfl) (cp rfl (aj ?_))))))))))
 refine bL rfl rfl (am (ai (aM _ aa rfl (by exact eS)) ?_))
 refine ai (bi _ _ aa rfl ag (by (simp <;> rfl)) ah rfl) ?_
 exact kE rfl (aj (aG (pY rfl rfl)))
theorem zU:Spec Tryz.prog 126 (ba [.v (bt [47])] []) (aP (.sl (Bo.div).code.length (inl (Bo.div).code)) []):=by
 refine Spec.ofN Tryz.func126 rfl Tryz.ntmps126 rfl ?_
 refine am (ai (bq _ fA) (aj (aq (am (eh rfl (aj (ay (am (ai (aV (r:=false) _ _ Tryz.underlying9 rfl rfl rfl) (cp rfl ?_))))))))))
 refine aj (aW rfl rfl (am (ai (aV (r:=false) _ _ Tryz.underlying9 rfl rfl rfl) (cp rfl (aj (aW rfl rfl (am (ai (aV (r:=false) _ _ Tryz.underlying9 rfl rfl rfl) (cp rfl (aj ?_))))))))))
 refine aW rfl rfl (am (ai (aV (r:=true) _ _ Tryz.underlying9 rfl rfl rfl) (cp rfl (aj (bL rfl rfl (am (ai (aM _ aa rfl (by exact eS)) ?_)))))))
 refine ai (bi _ _ aa rfl ag (by (simp <;> rfl)) ah rfl) ?_
 exact kE rfl (aj (aG (pY rfl rfl)))
theorem FR:Spec Tryz.prog 126 (ba [.v (bt [60])] []) (aP (.sl (Bo.lt).code.length (inl (Bo.lt).code)) []):=by
 refine Spec.ofN Tryz.func126 rfl Tryz.ntmps126 rfl ?_
 refine am (ai (bq _ fA) (aj (aq (am (eh rfl (aj (ay (am (ai (aV (r:=false) _ _ Tryz.underlying9 rfl rfl rfl) (cp rfl ?_))))))))))
 refine aj (aW rfl rfl (am (ai (aV (r:=false) _ _ Tryz.underlying9 rfl rfl rfl) (cp rfl (aj (aW rfl rfl (am (ai (aV (r:=false) _ _ Tryz.underlying9 rfl rfl rfl) (cp rfl (aj ?_))))))))))
 refine aW rfl rfl (am (ai (aV (r:=false) _ _ Tryz.underlying9 rfl rfl rfl) (cp rfl (aj (aW rfl rfl (am (ai (aV (r:=true) _ _ Tryz.underlying9 rfl rfl rfl) (cp rfl (aj (bL rfl rfl ?_))))))))))
 refine am (ai (aM _ aa rfl (by exact eS)) ?_)
 refine ai (bi _ _ aa rfl ag (by (simp <;> rfl)) ah rfl) ?_
 exact kE rfl (aj (aG (pY rfl rfl)))
theorem Eb:Spec Tryz.prog 126 (ba [.v (bt [60,61])] []) (aP (.sl (Bo.le).code.length (inl (Bo.le).code)) []):=by
 refine Spec.ofN Tryz.func126 rfl Tryz.ntmps126 rfl ?_
 refine am (ai (bq _ fA) (aj (aq (am (eh rfl (aj (ay (am (ai (aV (r:=false) _ _ Tryz.underlying9 rfl rfl rfl) (cp rfl ?_))))))))))
 refine aj (aW rfl rfl (am (ai (aV (r:=false) _ _ Tryz.underlying9 rfl rfl rfl) (cp rfl (aj (aW rfl rfl (am (ai (aV (r:=false) _ _ Tryz.underlying9 rfl rfl rfl) (cp rfl (aj ?_))))))))))
 refine aW rfl rfl (am (ai (aV (r:=false) _ _ Tryz.underlying9 rfl rfl rfl) (cp rfl (aj (aW rfl rfl (am (ai (aV (r:=false) _ _ Tryz.underlying9 rfl rfl rfl) (cp rfl (aj (aW rfl rfl ?_))))))))))
 refine am (ai (aV (r:=true) _ _ Tryz.underlying9 rfl rfl rfl) (cp rfl (aj (bL rfl rfl (am (ai (aM _ aa rfl (by exact eS)) ?_))))))
 refine ai (bi _ _ aa rfl ag (by (simp <;> rfl)) ah rfl) ?_
 exact kE rfl (aj (aG (pY rfl rfl)))
theorem EK:Spec Tryz.prog 126 (ba [.v (bt [61,61])] []) (aP (.sl (Bo.eq).code.length (inl (Bo.eq).code)) []):=by
 refine Spec.ofN Tryz.func126 rfl Tryz.ntmps126 rfl ?_
 refine am (ai (bq _ fA) (aj (aq (am (eh rfl (aj (ay (am (ai (aV (r:=false) _ _ Tryz.underlying9 rfl rfl rfl) (cp rfl ?_))))))))))
 refine aj (aW rfl rfl (am (ai (aV (r:=false) _ _ Tryz.underlying9 rfl rfl rfl) (cp rfl (aj (aW rfl rfl (am (ai (aV (r:=false) _ _ Tryz.underlying9 rfl rfl rfl) (cp rfl (aj ?_))))))))))
 refine aW rfl rfl (am (ai (aV (r:=false) _ _ Tryz.underlying9 rfl rfl rfl) (cp rfl (aj (aW rfl rfl (am (ai (aV (r:=false) _ _ Tryz.underlying9 rfl rfl rfl) (cp rfl (aj (aW rfl rfl ?_))))))))))
 refine am (ai (aV (r:=false) _ _ Tryz.underlying9 rfl rfl rfl) (cp rfl (aj (aW rfl rfl (am (ai (aV (r:=true) _ _ Tryz.underlying9 rfl rfl rfl) (cp rfl (aj (bL rfl rfl (aq ?_))))))))))
 refine aN (σ':=aE 45 [] [] [] []) kp ?_
 refine an (ai (aM _ aa rfl (by exact eS)) ?_)
 refine ai (bi _ _ aa rfl ag (by (simp <;> rfl)) ah rfl) ?_
 exact kE rfl (aj (aG (pY rfl rfl)))
theorem Ef:Spec Tryz.prog 126 (ba [.v (bt [62])] []) (aP (.sl (Bo.gt).code.length (inl (Bo.gt).code)) []):=by
 refine Spec.ofN Tryz.func126 rfl Tryz.ntmps126 rfl ?_
 refine am (ai (bq _ fA) (aj (aq (am (eh rfl (aj (ay (am (ai (aV (r:=false) _ _ Tryz.underlying9 rfl rfl rfl) (cp rfl ?_))))))))))
 refine aj (aW rfl rfl (am (ai (aV (r:=false) _ _ Tryz.underlying9 rfl rfl rfl) (cp rfl (aj (aW rfl rfl (am (ai (aV (r:=false) _ _ Tryz.underlying9 rfl rfl rfl) (cp rfl (aj ?_))))))))))
 refine aW rfl rfl (am (ai (aV (r:=false) _ _ Tryz.underlying9 rfl rfl rfl) (cp rfl (aj (aW rfl rfl (am (ai (aV (r:=false) _ _ Tryz.underlying9 rfl rfl rfl) (cp rfl (aj (aW rfl rfl ?_))))))))))
 refine am (ai (aV (r:=false) _ _ Tryz.underlying9 rfl rfl rfl) (cp rfl (aj (aW rfl rfl (am (ai (aV (r:=false) _ _ Tryz.underlying9 rfl rfl rfl) (cp rfl (aj (aW rfl rfl (aq ?_))))))))))
 refine aN (σ':=aE 45 [(3,_)] [] [] []) kp ?_
 refine an (ai (aV (r:=true) _ _ Tryz.underlying9 rfl rfl rfl) (cp rfl (aj (bL rfl rfl (am (ai (aM _ aa rfl (by exact eS)) ?_))))))
 refine ai (aM _ aa rfl (by exact eS)) ?_
 refine ai (bi _ _ aa rfl ag (by (simp <;> rfl)) ah rfl) ?_
 exact kE rfl (aj (aG (pY rfl rfl)))
theorem Fg:Spec Tryz.prog 126 (ba [.v (bt [62,61])] []) (aP (.sl (Bo.ge).code.length (inl (Bo.ge).code)) []):=by
 refine Spec.ofN Tryz.func126 rfl Tryz.ntmps126 rfl ?_
 refine am (ai (bq _ fA) (aj (aq (am (eh rfl (aj (ay (am (ai (aV (r:=false) _ _ Tryz.underlying9 rfl rfl rfl) (cp rfl ?_))))))))))
 refine aj (aW rfl rfl (am (ai (aV (r:=false) _ _ Tryz.underlying9 rfl rfl rfl) (cp rfl (aj (aW rfl rfl (am (ai (aV (r:=false) _ _ Tryz.underlying9 rfl rfl rfl) (cp rfl (aj ?_))))))))))
 refine aW rfl rfl (am (ai (aV (r:=false) _ _ Tryz.underlying9 rfl rfl rfl) (cp rfl (aj (aW rfl rfl (am (ai (aV (r:=false) _ _ Tryz.underlying9 rfl rfl rfl) (cp rfl (aj (aW rfl rfl ?_))))))))))
 refine am (ai (aV (r:=false) _ _ Tryz.underlying9 rfl rfl rfl) (cp rfl (aj (aW rfl rfl (am (ai (aV (r:=false) _ _ Tryz.underlying9 rfl rfl rfl) (cp rfl (aj (aW rfl rfl (aq ?_))))))))))
 refine aN (σ':=aE 45 [(3,_)] [] [] []) kp ?_
 refine an (ai (aV (r:=false) _ _ Tryz.underlying9 rfl rfl rfl) (cp rfl (aj (aW rfl rfl (am (ai (aV (r:=true) _ _ Tryz.underlying9 rfl rfl rfl) (cp rfl (aj (bL rfl rfl (am ?_))))))))))
 refine ai (aM _ aa rfl (by exact eS)) ?_
 refine ai (aM _ aa rfl (by exact eS)) ?_
 refine ai (bi _ _ aa rfl ag (by (simp <;> rfl)) ah rfl) ?_
 exact kE rfl (aj (aG (pY rfl rfl)))
theorem EF:Spec Tryz.prog 126 (ba [.v (bt [33,61])] []) (aP (.sl (Bo.ne).code.length (inl (Bo.ne).code)) []):=by
 refine Spec.ofN Tryz.func126 rfl Tryz.ntmps126 rfl ?_
 refine am (ai (bq _ fA) (aj (aq (am (eh rfl (aj (ay (am (ai (aV (r:=false) _ _ Tryz.underlying9 rfl rfl rfl) (cp rfl ?_))))))))))
 refine aj (aW rfl rfl (am (ai (aV (r:=false) _ _ Tryz.underlying9 rfl rfl rfl) (cp rfl (aj (aW rfl rfl (am (ai (aV (r:=false) _ _ Tryz.underlying9 rfl rfl rfl) (cp rfl (aj ?_))))))))))
 refine aW rfl rfl (am (ai (aV (r:=false) _ _ Tryz.underlying9 rfl rfl rfl) (cp rfl (aj (aW rfl rfl (am (ai (aV (r:=false) _ _ Tryz.underlying9 rfl rfl rfl) (cp rfl (aj (aW rfl rfl ?_))))))))))
 refine am (ai (aV (r:=false) _ _ Tryz.underlying9 rfl rfl rfl) (cp rfl (aj (aW rfl rfl (am (ai (aV (r:=false) _ _ Tryz.underlying9 rfl rfl rfl) (cp rfl (aj (aW rfl rfl (aq ?_))))))))))
 refine aN (σ':=aE 45 [(3,_)] [] [] []) kp ?_
 refine an (ai (aV (r:=false) _ _ Tryz.underlying9 rfl rfl rfl) (cp rfl (aj (aW rfl rfl (am (ai (aV (r:=false) _ _ Tryz.underlying9 rfl rfl rfl) (cp rfl (aj (aW rfl rfl (cw ?_))))))))))
 refine am (ai (aM _ aa rfl (by exact eS)) ?_)
 refine ai (aM _ aa rfl (by exact eS)) ?_
 refine ai (bi _ _ aa rfl ag (by (simp <;> rfl)) ah rfl) ?_
 exact kE rfl (aj (aG (pY rfl rfl)))
theorem yz (o:Bo):Spec Tryz.prog 126 (ba [.v (bt o.txt)] []) (aP (.sl o.code.length (inl o.code)) []):=by
 cases o
 ·exact zV
 ·exact Da
 ·exact CK
 ·exact zU
 ·exact FR
 ·exact Eb
 ·exact EK
 ·exact Ef
 ·exact Fg
 exact EF

abbrev Cd:=Nat→List eR
abbrev CoS (u:AV) (d:Nd) (c:Cd):Prop:= ∀ a,a+(c a).length≤1000000→Spec Tryz.prog 91 (ba [u,pm d, .v (.int .i64 (a:Int))] []) (aP (.ref (0,8) 0 (c a).length) [((0,8), .row 48 2 (inl (c a)))])
def cY:List Cd→Nat→List eR
 | [],_=> []
 | c::cs,a=> c a++cY cs (a+(c a).length)
theorem qQ: ∀ (l m:List Cd) (a:Nat),cY (l++m) a=cY l a++cY m (a+(cY l a).length)
 | [],m,a=> by simp [cY]
 | c::l,m,a=> by simp only [List.cons_append,cY,qQ l m,List.append_assoc,List.length_append,Nat.add_assoc]
theorem xW {cs:List Cd} {j a:Nat} (h:j < cs.length):cY (cs.take (j+1)) a=cY (cs.take j) a++(cs.getD j fun _=> []) (a+(cY (cs.take j) a).length):=by
 rw [List.take_succ_eq_append_getElem h,qQ]
 simp [cY,h]
theorem ru {cs:List Cd} {j a:Nat}:(cY (cs.take j) a).length≤(cY cs a).length:=by
 conv=> rhs;rw [← List.take_append_drop j cs,qQ]
 rw [List.length_append];omega
abbrev mV (u:AV) (L:List Nd) (cs:List Cd):Prop:= ∀ j,j < L.length→CoS u (lh L j) (cs.getD j fun _=> [])
theorem Ga {u:AV}:mV u [] []:=fun j hj=> by simp at hj
theorem yC {u:AV} {d:Nd} {c:Cd} {L:List Nd} {cs:List Cd} (h:CoS u d c) (h':mV u L cs):mV u (d::L) (c::cs):=fun j hj=> by
 cases j with
 | zero=> exact h
 | succ j=> exact h' j (by simpa using hj)
section
variable {d v:List Tx} {no:Nat} {on:List PV}
abbrev uu (d v:List Tx) (no:Nat) (on:List PV):AV:= .agg [.sl d.length (fj d), .sl v.length (fj v), .sl no on]
theorem dI (L:List Nd) (cs:List Cd) (hc:cs.length=L.length) (hk:mV (uu d v no on) L cs) (a:Nat) (ha:a+(cY cs a).length≤1000000):
  Spec Tryz.prog 125 (ba [uu d v no on, .sl L.length (mK L), .v (.int .i64 (a:Int))] []) (aP (.ref (0,8) 0 (cY cs a).length) [((0,8), .row 48 2 (inl (cY cs a)))]):=by
 refine Spec.ofN Tryz.func125 rfl Tryz.ntmps125 rfl ?_
 refine aq ?_
 refine GT 1 rfl rfl fun hlen=> ?_
 unfold maxLen at hlen
 refine an (ai (aQ (3,0) _ rfl rfl) (ai (bq _ fA) (aj (am (ai (th (7,0) _ 48 2 rfl rfl) ?_)))))
 refine aj (aU fun K3 hK3=> ?_)
 refine am (be rfl (aj (ay ?_)))
 refine bu (α:=Nat) (fun j=> j≤L.length) 28 [(1,_),(2,_),(3,_)] [((3,0),_)] (fun j=> [(8, .v (.int .i64 (j:Int))),(7, .ref (7,0) 0 (cY (cs.take j) a).length)]) (fun j=> [((7,0), .row 48 2 (inl (cY (cs.take j) a)))]) [] [] (fun j=> L.length - j) 0 ?_ (by
  refine Le.mkJ [] [] rfl ?_ ?_ trivial trivial ?_
  ·exact ⟨(iS rfl),(iV rfl),(iP rfl),(cr ag),(cP rfl ag),trivial⟩
  ·exact ⟨(cm rfl rfl rfl),(fg rfl rfl rfl ag),trivial⟩
  kernel_rfl) ?_
 ·omega
 intro j hj
 have htk:(cY (cs.take j) a).length≤(cY cs a).length:=ru
 refine aU fun K5 hK5=> ?_
 refine am (aX rfl (eV rfl (ai (bp _ aa rfl) (ai (bn _ _ rfl rfl rfl) (aj (aR rfl (fun hc12=> ?_) (fun hc12=> ?_)))))))
 ·skip
  have hs:=xW (cs:=cs) (j:=j) (a:=a) ab
  have htk1:(cY (cs.take (j+1)) a).length≤(cY cs a).length:=ru
  have hsl:=congrArg List.length hs
  rw [List.length_append] at hsl
  have hcj:=hk j ab (a+(cY (cs.take j) a).length) ab
  generalize (cs.getD j fun _=> []) (a+(cY (cs.take j) a).length)=C at hs hsl hcj
  refine br (hK5 _ ?_)
  clear hK5;try clear K5
  refine aq (ay ?_)
  refine aN (σ':=aE 28 [(1,_),(2,_),(3,_),(7,_),(8,_)] [((3,0),_),((7,0),_)] [] []) kp ?_
  refine bK 11 [15,16,17,18,19,20,21,22,23,24,25] [(50,0)] ae ae rfl (aK rfl) (rfl:_=[_,_,_,_,_,_,_,_,_,_,_]) (rfl:_=[_,_]) ?_
  refine ap (_,[]) (fun τ=> aH _ dV) ?_
  refine fB rfl ?_
  refine ap (_,[]) (fun τ=> az _ aa rfl rfl rfl rfl) ?_
  refine fH rfl ?_
  refine ap (_,[]) (fun τ=> aH _ mm) ?_
  refine fQ rfl ?_
  refine ap (_,[]) (fun τ=> aH _ ek) ?_
  refine fV rfl ?_
  refine ap (_,[]) (fun τ=> bo _ _ aa rfl rfl _ rfl ab (by (simp only [aL,bf,bh,bw,bv,bH,bz,bP];omega)) ag) ?_
  refine gd rfl ?_
  refine ap (_,[]) (fun τ=> cg _ aa rfl (by exact cO _ _ ab) rfl) ?_
  refine gV rfl ?_
  refine ap (_,[]) (fun τ=> aH _ ek) ?_
  refine iG rfl ?_
  refine ap (_,[]) (fun τ=> aH _ dV) ?_
  refine jO rfl ?_
  refine ap (_,[]) (fun τ=> dg _ aa rfl rfl) ?_
  refine jW rfl ?_
  refine ap (_,[]) (fun τ=> aZ _ _ rfl rfl (bF ab)) ?_
  refine fE rfl ?_
  refine ap (_,[((50,0),_)]) (fun τ=> (bY aa [((0,8),(50,0))] ar (hcj.toI) trivial tr tr rfl rfl ae ae)) ?_
  refine gf rfl (bl ⟨rfl,?_⟩)
  refine ai (du (26,0) _ _ aa rfl rfl (bP _).symm (.ref rfl (nL _) (lu _)) ab rfl (mf _ _) hsl.symm) ?_
  refine fh rfl (dY (an (aX rfl (ai (aZ _ _ rfl rfl (bF ab)) ?_))))
  refine be rfl (aJ (⟨j+1,?_,?_,?_⟩))
  ·omega
  ·skip
   refine Le.mkJ [((7,0),(26,0))] [] rfl ?_ ?_ trivial trivial ?_
   ·exact ⟨(by repeat' (exact Lv.sl)),(by repeat' (exact Lv.v)),(dH (id:=(3,0)) rfl),(cr ag),(cP rfl ag),trivial⟩
   ·exact ⟨(fi rfl rfl rfl rfl (by repeat' (first | exact Lv.sl | exact bg | refine au ?_ ?_))),(fg rfl rfl rfl (by (rw [hs]))),trivial⟩
   kernel_rfl
  omega
 obtain rfl:j=cs.length:=by omega
 rw [List.take_length]
 refine bD (id (hK3 _ ?_))
 clear hK3;try clear K3
 exact am (gK rfl (fh rfl (aj (aG (bI (.inr rfl) rfl (.tmp dV) (Le.out [((0,8),(7,0))] [] (cP rfl rfl) rfl rfl rfl trivial ob))))))
theorem pD (N:Nd) (c:Cd) (h:CoS (uu d v no on) N c) (n:Int) (a:Nat) (ha:a+(c a).length≤1000000):
  Spec Tryz.prog 187 (ba [uu d v no on, .sl 1 (mK [N]), .v (.int .i64 n), .v (.int .i64 (a:Int))] []) (aP (.ref (0,8) 0 (c a).length) [((0,8), .row 48 2 (inl (c a)))]):=by
 have hc:=h a ha
 refine Spec.ofN Tryz.func187 rfl Tryz.ntmps187 rfl ?_
 refine am (ai (aQ (4,0) _ rfl rfl) (ai (bq _ fA) (aj (aq (am (eV rfl (ai (bp _ aa rfl) (ai (gx _ _ rfl rfl rfl) (aj (bL rfl rfl ?_))))))))))
 refine aq ?_
 refine aN (σ':=aE 21 [(1,_),(3,_),(4,_)] [((4,0),_)] [] []) kp ?_
 refine bK 5 [12,13,14,15,16] [] ae ae rfl (aK rfl) (rfl:_=[_,_,_,_,_]) (rfl:_=[_,_]) ?_
 refine ap (_,[]) (fun τ=> az _ aa rfl rfl rfl rfl) ?_
 refine fB rfl ?_
 refine ap (_,[]) (fun τ=> aH _ mm) ?_
 refine fH rfl ?_
 refine ap (_,[]) (fun τ=> bo _ _ aa rfl rfl 0 rfl ab (by simp [mK,Nd.row]) rfl) ?_
 refine fQ rfl ?_
 refine ap (_,[]) (fun τ=> cg _ aa rfl (by exact cO [N] 0 (by simp)) rfl) ?_
 refine fV rfl ?_
 refine ap (_,[]) (fun τ=> aH _ ek) ?_
 refine gd rfl (bl ⟨rfl,?_⟩)
 refine ai (cj aa [((0,8),(50,0))] ar (hc.toI) trivial tr ae) ?_
 exact fh rfl (aj (aG (bI (.inr rfl) rfl (.tmp dV) (Le.out [((0,8),(50,0))] [] (cP rfl rfl) rfl rfl rfl trivial ob))))
theorem uA (n:Int) (a:Nat):
  Spec Tryz.prog 187 (ba [uu d v no on, .sl 0 [], .v (.int .i64 n), .v (.int .i64 (a:Int))] []) (aP (.ref (0,8) 0 1) [((0,8), .row 48 2 (inl [{ op:= .push,n:=n }]))]):=by
 refine Spec.ofN Tryz.func187 rfl Tryz.ntmps187 rfl ?_
 refine am (ai (aQ (4,0) _ rfl rfl) (ai (bq _ fA) (aj (aq (am (eV rfl (ai (bp _ aa rfl) (ai (gx _ _ rfl rfl rfl) (aj (aW rfl rfl ?_))))))))))
 refine aS (am (aX rfl (ai (aM _ aa rfl (by exact eS)) ?_)))
 refine ai (kk (20,0) _ _ aa rfl ag (by (simp <;> rfl)) ah rfl rfl) ?_
 exact fh rfl (aj (aG (bI (.inr rfl) rfl (.tmp dV) (Le.out [((0,8),(20,0))] [] (cP rfl rfl) rfl rfl rfl trivial ob))))
def Gw (c y z:Cd) (a:Nat):List eR:=
 c a++[{ op:= .unl,n:=((a+(c a).length+1+(y (a+(c a).length+1)).length+1:Nat):Int) }]++y (a+(c a).length+1)++
  [{ op:= .jump,n:=((a+(c a).length+1+(y (a+(c a).length+1)).length+1+(z (a+(c a).length+1+(y (a+(c a).length+1)).length+1)).length:Nat):Int) }]++z (a+(c a).length+1+(y (a+(c a).length+1)).length+1)
abbrev NN (u:AV) (l:AV) (n:Int) (c:Cd):Prop:= ∀ a,a+(c a).length≤1000000→Spec Tryz.prog 187 (ba [u,l, .v (.int .i64 n), .v (.int .i64 (a:Int))] []) (aP (.ref (0,8) 0 (c a).length) [((0,8), .row 48 2 (inl (c a)))])
theorem lK (N:Nd) (c y z:Cd) (hc:CoS (uu d v no on) N c) (ly lz:Nat) (ys zs:List PV) (n:Int) (hy:NN (uu d v no on) (.sl ly ys) n y) (hz:NN (uu d v no on) (.sl lz zs) n z) (a:Nat) (ha:a+(Gw c y z a).length≤1000000):
  Spec Tryz.prog 124 (ba [uu d v no on,pm N, .sl ly ys, .sl lz zs, .v (.int .i64 n), .v (.int .i64 (a:Int))] []) (aP (.ref (0,8) 0 (Gw c y z a).length) [((0,8), .row 48 2 (inl (Gw c y z a)))]):=by
 have hb: ∃ b,b=Gw c y z a:=⟨_,rfl⟩
 obtain ⟨b,hb⟩:=hb
 rw [← hb] at ha ⊢
 unfold Gw at hb
 have hbl:=congrArg List.length hb
 simp only [List.length_append,List.length_cons,List.length_nil] at hbl
 have h1:=hc a ab
 generalize c a=C at h1 hb hbl
 have h2:=hy (a+C.length+1) ab
 generalize y (a+C.length+1)=Y at h2 hb hbl
 obtain ⟨f,hf⟩: ∃ f,f=a+C.length+1+Y.length+1:=⟨_,rfl⟩
 rw [← hf] at hb hbl
 have h3:=hz f ab
 generalize z f=Z at h3 hb hbl
 refine Spec.ofN Tryz.func124 rfl Tryz.ntmps124 rfl ?_
 refine am (ai (aQ (6,0) _ rfl rfl) (ai (aQ (7,0) _ rfl rfl) (ai (bq _ fA) (aj (am (ai (az _ aa rfl rfl rfl rfl) (ai (az _ aa rfl rfl rfl rfl) (aX rfl (ai (cj aa [((0,8),(50,0))] ar (h1.toI) trivial tr ae) ?_)))))))))
 refine fh rfl (aj (aU fun K3 hK3=> ?_))
 refine an (ai (az _ aa rfl rfl rfl rfl) (eV rfl (aX rfl (aX rfl (gK rfl (ai (dg _ aa rfl rfl) (ai (aZ _ _ rfl rfl (bF ab)) ?_)))))))
 refine ai (aZ _ _ rfl rfl (bF ab)) ?_
 refine ai (cj aa [((0,8),(51,0))] ar (h2.toI) trivial tr ae) ?_
 refine fh rfl (aJ (hK3 _ ?_))
 clear hK3;try clear K3
 refine aq ?_
 refine aN (σ':=aE 63 [(3,_),(4,_),(5,_),(6,_),(13,_),(14,_)] [((6,0),_),((50,0),_),((51,0),_)] [] []) kp ?_
 refine an (aX rfl (gK rfl (ai (dg _ aa rfl rfl) (ai (aZ _ _ rfl rfl (bF ab)) ?_))))
 refine ai (aZ _ _ rfl rfl (bF ab)) ?_
 refine gK rfl (ai (dg _ aa rfl rfl) (ai (aZ _ _ rfl rfl (bF ab)) ?_))
 refine ai (aZ (r:=(f:Int)) _ _ rfl rfl ((bF ab).trans ab)) ?_
 refine be rfl (aj (aU fun K5 hK5=> ?_))
 refine an (ai (az _ aa rfl rfl rfl rfl) (eV rfl (aX rfl (aX rfl (ai (cj aa [((0,8),(52,0))] ar (h3.toI) trivial tr ae) ?_)))))
 refine fh rfl (aJ (hK5 _ ?_))
 clear hK5;try clear K5
 refine aq ?_
 refine aN (σ':=aE 63 [(13,_),(14,_),(15,_),(16,_)] [((50,0),_),((51,0),_),((52,0),_)] [] []) kp ?_
 refine an (gK rfl (aX rfl (ai (aM _ aa rfl (by exact eS)) ?_)))
 refine ai (bi _ _ aa rfl ag (by (simp <;> rfl)) ah rfl) ?_
 refine ai (du (48,0) _ _ aa rfl rfl (bP _).symm (.sl rfl) ab rfl (fl _ { op:= .unl,n:=f }) (show C.length+1=(C++[({ op:= .unl,n:=f }:eR)]).length by simp)) ?_
 refine fh rfl (aj (am (gK rfl (gK rfl (ai (du (51,1) _ _ aa rfl rfl (bP _).symm (.ref rfl (nL _) (lu _)) (by simp;omega) rfl (mf _ _) (show (C++[({ op:= .unl,n:=f }:eR)]).length+Y.length=(C++[({ op:= .unl,n:=f }:eR)]++Y).length by simp;omega)) ?_)))))
 refine fh rfl (aj (am (gK rfl (aX rfl (gK rfl (ai (dg _ aa rfl rfl) (ai (aZ _ _ rfl rfl (bF ab)) ?_)))))))
 refine ai (aM _ aa rfl (by exact eS)) ?_
 refine ai (bi _ _ aa rfl ag (by (simp <;> rfl)) ah rfl) ?_
 refine ai (du (59,0) _ _ aa rfl rfl (bP _).symm (.sl rfl) (by simp;omega) rfl (fl _ { op:= .jump,n:=((f+Z.length:Nat):Int) }) (show (C++[({ op:= .unl,n:=f }:eR)]++Y).length+1=(C++[({ op:= .unl,n:=f }:eR)]++Y++[({ op:= .jump,n:=((f+Z.length:Nat):Int) }:eR)]).length by simp;omega)) ?_
 refine fh rfl (aj (aq ?_))
 refine aN (σ':=aE 63 [(13,_),(16,_)] [((52,0),_),((59,0),_)] [] []) kp ?_
 refine an (gK rfl (gK rfl (ai (du (62,0) _ _ aa rfl rfl (bP _).symm (.ref rfl (nL _) (lu _)) (by simp;omega) rfl ((mf _ _).trans (congrArg inl hb.symm)) (show _+Z.length=b.length by simp;omega)) ?_)))
 exact fh rfl (aj (aG (bI (.inr rfl) rfl (.tmp dV) (Le.out [((0,8),(62,0))] [] (cP rfl rfl) rfl rfl rfl trivial ob))))
end

section
variable {d v:List Tx} {no:Nat} {on:List PV}
theorem HK (n:Nat):CoS (uu d v no on) (nd 12 n [] []) (fun _=> [{ op:= .push,n:=(n:Int) }]):=fun a ha=> by
 refine Spec.ofN Tryz.func91 rfl Tryz.ntmps91 rfl ?_
 refine am (ai (aQ (3,0) _ rfl rfl) (ai (aQ (4,0) _ rfl rfl) (ai (bq _ fA) (aj (aq (am (bb rfl rfl rfl (cf rfl rfl rfl (aj (ay ?_))))))))))
 refine aq (iE rfl rfl rfl rfl rfl (aS (bL rfl rfl (am (bb rfl rfl rfl (cf rfl rfl rfl (ai (aM _ aa rfl (by exact eS)) ?_)))))))
 refine ai (kk (19,0) _ _ aa rfl ag (by (simp <;> rfl)) ah rfl rfl) ?_
 exact fh rfl (aj (aG (bI (.inr rfl) rfl (.tmp dV) (Le.out [((0,8),(19,0))] [] (cP rfl rfl) rfl rfl rfl trivial ob))))
theorem xD (n:Nat):CoS (uu d v no on) (nd 13 n [] []) (fun _=> [{ op:= .push,n:=(n:Int) }]):=fun a ha=> by
 refine Spec.ofN Tryz.func91 rfl Tryz.ntmps91 rfl ?_
 refine am (ai (aQ (3,0) _ rfl rfl) (ai (aQ (4,0) _ rfl rfl) (ai (bq _ fA) (aj (aq (am (bb rfl rfl rfl (cf rfl rfl rfl (aj (ay ?_))))))))))
 refine aq (cK rfl rfl rfl rfl rfl (zG rfl rfl rfl rfl rfl (am (bb rfl rfl rfl (cf rfl rfl rfl (ai (aM _ aa rfl (by exact eS)) ?_))))))
 refine ai (kk (19,0) _ _ aa rfl ag (by (simp <;> rfl)) ah rfl rfl) ?_
 exact fh rfl (aj (aG (bI (.inr rfl) rfl (.tmp dV) (Le.out [((0,8),(19,0))] [] (cP rfl rfl) rfl rfl rfl trivial ob))))
theorem Ia (hn:(d++v).Nodup) (hl:(d++v).length≤1000) (i:Nat) (hi:i < (d++v).length):CoS (uu d v no on) (nd 14 0 ((d++v).getD i []) []) (fun _=> [{ op:= .var,n:=(i:Int) }]):=fun a ha=> by
 refine Spec.ofN Tryz.func91 rfl Tryz.ntmps91 rfl ?_
 refine am (ai (aQ (3,0) _ rfl rfl) (ai (aQ (4,0) _ rfl rfl) (ai (bq _ fA) (aj (aq (am (bb rfl rfl rfl (cf rfl rfl rfl (aj (ay ?_))))))))))
 refine aq (cK rfl rfl rfl rfl rfl (ed rfl rfl rfl rfl rfl (iE rfl rfl rfl rfl rfl (am (ai (az _ aa rfl rfl rfl rfl) (bb rfl rfl rfl (ai (aF _ aa rfl rfl fy) (ai (aI aa al (my d v on no hn hl i hi) rfl rfl) ?_))))))))
 refine ai (aM _ aa rfl (by exact eS)) ?_
 refine ai (kk (27,0) _ _ aa rfl ag (by (simp <;> rfl)) ah rfl rfl) ?_
 exact fh rfl (aj (aG (bI (.inr rfl) rfl (.tmp dV) (Le.out [((0,8),(27,0))] [] (cP rfl rfl) rfl rfl rfl trivial ob))))
theorem El (k:Nat) (hk:k < 9):CoS (uu d v no on) (nd 15 0 (bltT.getD k []) []) (fun _=> [{ op:= .name,n:=(k:Int) }]):=fun a ha=> by
 refine Spec.ofN Tryz.func91 rfl Tryz.ntmps91 rfl ?_
 refine am (ai (aQ (3,0) _ rfl rfl) (ai (aQ (4,0) _ rfl rfl) (ai (bq _ fA) (aj (aq (am (bb rfl rfl rfl (cf rfl rfl rfl (aj (ay ?_))))))))))
 refine aq (cK rfl rfl rfl rfl rfl (ed rfl rfl rfl rfl rfl (cK rfl rfl rfl rfl rfl (iE rfl rfl rfl rfl rfl (aq ?_)))))
 refine aN (σ':=aE 211 [(4,_)] [((4,0),_)] [] []) kp ?_
 refine bK 6 [30,31,32,33,34,35] [(35,0)] ae ae rfl (aK rfl) (rfl:_=[_,_,_,_,_,_]) (rfl:_=[_]) ?_
 refine ap (_,[]) (fun τ=> (aI aa (by repeat' (exact cV)) (pk) rfl rfl)) ?_
 refine fB rfl ?_
 refine ap (_,[]) (fun τ=> aA _ aa rfl rfl rfl) ?_
 refine fH rfl ?_
 refine ap (_,[]) (fun τ=> aF _ aa rfl rfl fy) ?_
 refine fQ rfl ?_
 refine ap (_,[]) (fun τ=> (aI aa al (zl bltT 9 rfl ab ah k hk) rfl rfl)) ?_
 refine fV rfl ?_
 refine ap (_,[]) (fun τ=> aM _ aa rfl (by exact eS)) ?_
 refine gd rfl ?_
 refine ap (_,[((35,0),_)]) (fun τ=> kk (35,0) _ _ aa rfl ag (by (simp <;> rfl)) ah rfl rfl) ?_
 refine gV rfl (bl ⟨rfl,?_⟩)
 exact fh rfl (aj (aG (bI (.inr rfl) rfl (.tmp dV) (Le.out [((0,8),(35,0))] [] (cP rfl rfl) rfl rfl rfl trivial ob))))
theorem As (n:Nat):CoS (uu d v no on) (nd 5 n [] []) (fun _=> [{ op:= .timer,n:=(n:Int) }]):=fun a ha=> by
 refine Spec.ofN Tryz.func91 rfl Tryz.ntmps91 rfl ?_
 refine am (ai (aQ (3,0) _ rfl rfl) (ai (aQ (4,0) _ rfl rfl) (ai (bq _ fA) (aj (aq (am (bb rfl rfl rfl (cf rfl rfl rfl (aj (ay ?_))))))))))
 refine aq (cK rfl rfl rfl rfl rfl (ed rfl rfl rfl rfl rfl ?_))
 iterate 3 refine cK rfl rfl rfl rfl rfl ?_
 refine aq ?_
 refine aN (σ':=aE 211 [(2,_),(3,_),(4,_),(12,_)] [((3,0),_),((4,0),_)] [] []) kp ?_
 refine zG rfl rfl rfl rfl rfl (am (bb rfl rfl rfl (cf rfl rfl rfl (ai (aM _ aa rfl (by exact eS)) ?_))))
 refine ai (kk (56,0) _ _ aa rfl ag (by (simp <;> rfl)) ah rfl rfl) ?_
 exact fh rfl (aj (aG (bI (.inr rfl) rfl (.tmp dV) (Le.out [((0,8),(56,0))] [] (cP rfl rfl) rfl rfl rfl trivial ob))))
theorem xH (n:Nat):CoS (uu d v no on) (nd 6 n [] []) (fun _=> [{ op:= .cancel,n:=(n:Int) }]):=fun a ha=> by
 refine Spec.ofN Tryz.func91 rfl Tryz.ntmps91 rfl ?_
 refine am (ai (aQ (3,0) _ rfl rfl) (ai (aQ (4,0) _ rfl rfl) (ai (bq _ fA) (aj (aq (am (bb rfl rfl rfl (cf rfl rfl rfl (aj (ay ?_))))))))))
 refine aq (cK rfl rfl rfl rfl rfl (ed rfl rfl rfl rfl rfl ?_))
 iterate 3 refine cK rfl rfl rfl rfl rfl ?_
 refine aq ?_
 refine aN (σ':=aE 211 [(2,_),(3,_),(4,_),(12,_)] [((3,0),_),((4,0),_)] [] []) kp ?_
 refine ed rfl rfl rfl rfl rfl (iE rfl rfl rfl rfl rfl (am (bb rfl rfl rfl (cf rfl rfl rfl (ai (aM _ aa rfl (by exact eS)) ?_)))))
 refine ai (kk (62,0) _ _ aa rfl ag (by (simp <;> rfl)) ah rfl rfl) ?_
 exact fh rfl (aj (aG (bI (.inr rfl) rfl (.tmp dV) (Le.out [((0,8),(62,0))] [] (cP rfl rfl) rfl rfl rfl trivial ob))))
theorem co_sync:CoS (uu d v no on) (nd 7 0 [] []) (fun _=> [{ op:= .sync }]):=fun a ha=> by
 refine Spec.ofN Tryz.func91 rfl Tryz.ntmps91 rfl ?_
 refine am (ai (aQ (3,0) _ rfl rfl) (ai (aQ (4,0) _ rfl rfl) (ai (bq _ fA) (aj (aq (am (bb rfl rfl rfl (cf rfl rfl rfl (aj (ay ?_))))))))))
 refine aq (cK rfl rfl rfl rfl rfl (ed rfl rfl rfl rfl rfl ?_))
 iterate 3 refine cK rfl rfl rfl rfl rfl ?_
 refine aq ?_
 refine aN (σ':=aE 211 [(2,_),(3,_),(4,_),(12,_)] [((3,0),_),((4,0),_)] [] []) kp ?_
 refine ed rfl rfl rfl rfl rfl (cK rfl rfl rfl rfl rfl (iE rfl rfl rfl rfl rfl (am (ai (aM _ aa rfl (by exact eS)) ?_))))
 refine ai (kk (66,0) _ _ aa rfl ag (by (simp <;> rfl)) ah rfl rfl) ?_
 exact fh rfl (aj (aG (bI (.inr rfl) rfl (.tmp dV) (Le.out [((0,8),(66,0))] [] (cP rfl rfl) rfl rfl rfl trivial ob))))
theorem co_stop:CoS (uu d v no on) (nd 10 0 [] []) (fun _=> [{ op:= .stop }]):=fun a ha=> by
 refine Spec.ofN Tryz.func91 rfl Tryz.ntmps91 rfl ?_
 refine am (ai (aQ (3,0) _ rfl rfl) (ai (aQ (4,0) _ rfl rfl) (ai (bq _ fA) (aj (aq (am (bb rfl rfl rfl (cf rfl rfl rfl (aj (ay ?_))))))))))
 refine aq (cK rfl rfl rfl rfl rfl (ed rfl rfl rfl rfl rfl ?_))
 iterate 3 refine cK rfl rfl rfl rfl rfl ?_
 refine aq ?_
 refine aN (σ':=aE 211 [(2,_),(3,_),(4,_),(12,_)] [((3,0),_),((4,0),_)] [] []) kp ?_
 refine ed rfl rfl rfl rfl rfl ?_
 iterate 2 refine cK rfl rfl rfl rfl rfl ?_
 refine iE rfl rfl rfl rfl rfl (am (ai (aM _ aa rfl (by exact eS)) ?_))
 refine ai (kk (70,0) _ _ aa rfl ag (by (simp <;> rfl)) ah rfl rfl) ?_
 exact fh rfl (aj (aG (bI (.inr rfl) rfl (.tmp dV) (Le.out [((0,8),(70,0))] [] (cP rfl rfl) rfl rfl rfl trivial ob))))
theorem Ix {c y z:Nd} {cc cy cz:Cd} (hc:CoS (uu d v no on) c cc) (hy:CoS (uu d v no on) y cy) (hz:CoS (uu d v no on) z cz):CoS (uu d v no on) (nd 2 0 [] [c,y,z]) (Gw cc cy cz):=fun a ha=> by
 have hb:=lK (on:=on) c cc cy cz hc 1 1 (mK [y]) (mK [z]) 0 (fun a ha=> pD y cy hy 0 a ha) (fun a ha=> pD z cz hz 0 a ha) a ha
 refine Spec.ofN Tryz.func91 rfl Tryz.ntmps91 rfl ?_
 refine am (ai (aQ (3,0) _ rfl rfl) (ai (aQ (4,0) _ rfl rfl) (ai (bq _ fA) (aj (aq (am (bb rfl rfl rfl (cf rfl rfl rfl (aj (ay ?_))))))))))
 refine aq (cK rfl rfl rfl rfl rfl (ed rfl rfl rfl rfl rfl ?_))
 iterate 2 refine cK rfl rfl rfl rfl rfl ?_
 refine iE rfl rfl rfl rfl rfl (aq ?_)
 refine aN (σ':=aE 211 [(2,_),(3,_),(4,_)] [((3,0),_),((4,0),_)] [] []) kp ?_
 refine bK 12 [38,39,40,41,42,43,44,45,46,47,48,49] [] ae ae rfl (aK rfl) (rfl:_=[_,_,_,_,_,_,_,_,_,_,_,_]) (rfl:_=[_,_]) ?_
 refine ap (_,[]) (fun τ=> az _ aa rfl rfl rfl rfl) ?_
 refine fB rfl ?_
 refine ap (_,[]) (fun τ=> aA _ aa rfl rfl rfl) ?_
 refine fH rfl ?_
 refine ap (_,[]) (fun τ=> aF _ aa rfl rfl eI) ?_
 refine fQ rfl ?_
 refine ap (_,[]) (fun τ=> bo _ _ aa rfl rfl 0 rfl (show 0 < 3 by omega) (Nat.le_of_ble_eq_true rfl) rfl) ?_
 refine fV rfl ?_
 refine ap (_,[]) (fun τ=> cg _ aa rfl (by exact cO [c,y,z] 0 (by simp)) rfl) ?_
 refine gd rfl ?_
 refine ap (_,[]) (fun τ=> aA _ aa rfl rfl rfl) ?_
 refine gV rfl ?_
 refine ap (_,[]) (fun τ=> aF _ aa rfl rfl eI) ?_
 refine iG rfl ?_
 refine ap (_,[]) (fun τ=> kT _ _ _ aa rfl 1 2 (.lit rfl rfl) (.lit rfl rfl) ab (show 2≤3 by omega) (show _=mK [y] from rfl) rfl) ?_
 refine jO rfl ?_
 refine ap (_,[]) (fun τ=> aA _ aa rfl rfl rfl) ?_
 refine jW rfl ?_
 refine ap (_,[]) (fun τ=> aF _ aa rfl rfl eI) ?_
 refine fE rfl ?_
 refine ap (_,[]) (fun τ=> kT _ _ _ aa rfl 2 3 (.lit rfl rfl) (.lit rfl rfl) ab (show 3≤3 by omega) (show _=mK [z] from rfl) rfl) ?_
 refine gf rfl ?_
 refine ap (_,[]) (fun τ=> aH _ ek) ?_
 refine jV rfl (bl ⟨rfl,?_⟩)
 refine ai (cj aa [((0,8),(50,0))] ar (hb.toI) trivial tr ae) ?_
 exact fh rfl (aj (aG (bI (.inr rfl) rfl (.tmp dV) (Le.out [((0,8),(50,0))] [] (cP rfl rfl) rfl rfl rfl trivial ob))))
theorem He {c y:Nd} {cc cy:Cd} (hc:CoS (uu d v no on) c cc) (hy:CoS (uu d v no on) y cy):CoS (uu d v no on) (nd 18 0 [38,38] [c,y]) (Gw cc cy (fun _=> [{ op:= .push,n:=0 }])):=fun a ha=> by
 have hb:=lK (on:=on) c cc cy (fun _=> [{ op:= .push,n:=0 }]) hc 1 0 (mK [y]) [] 0 (fun a ha=> pD y cy hy 0 a ha) (fun a _=> uA 0 a) a ha
 refine Spec.ofN Tryz.func91 rfl Tryz.ntmps91 rfl ?_
 refine am (ai (aQ (3,0) _ rfl rfl) (ai (aQ (4,0) _ rfl rfl) (ai (bq _ fA) (aj (aq (am (bb rfl rfl rfl (cf rfl rfl rfl (aj (ay ?_))))))))))
 refine aq (cK rfl rfl rfl rfl rfl (ed rfl rfl rfl rfl rfl ?_))
 iterate 3 refine cK rfl rfl rfl rfl rfl ?_
 refine aq ?_
 refine aN (σ':=aE 211 [(2,_),(3,_),(4,_),(12,_)] [((3,0),_),((4,0),_)] [] []) kp ?_
 refine ed rfl rfl rfl rfl rfl ?_
 iterate 4 refine cK rfl rfl rfl rfl rfl ?_
 refine cw (aq (am (bb rfl rfl rfl (cf rfl rfl rfl (kg rfl rfl rfl (cM rfl (ax rfl rfl (aA _ aa rfl rfl rfl) (ax rfl rfl (aF _ aa rfl rfl fy) (ax rfl rfl (aV (r:=true) _ _ Tryz.underlying9 rfl rfl rfl) (ai (aC _ _ _ rfl bN) ?_))))))))))
 refine aj (bL rfl rfl (aq ?_))
 refine aN (σ':=aE 211 [(2,_),(3,_),(4,_)] [((3,0),_),((4,0),_)] [] []) kp ?_
 refine bK 9 [119,120,121,122,123,124,125,126,127] [] ae ae rfl (aK rfl) (rfl:_=[_,_,_,_,_,_,_,_,_]) (rfl:_=[_,_]) ?_
 refine ap (_,[]) (fun τ=> az _ aa rfl rfl rfl rfl) ?_
 refine fB rfl ?_
 refine ap (_,[]) (fun τ=> aA _ aa rfl rfl rfl) ?_
 refine fH rfl ?_
 refine ap (_,[]) (fun τ=> aF _ aa rfl rfl eI) ?_
 refine fQ rfl ?_
 refine ap (_,[]) (fun τ=> bo _ _ aa rfl rfl 0 rfl (show 0 < 2 by omega) (Nat.le_of_ble_eq_true rfl) rfl) ?_
 refine fV rfl ?_
 refine ap (_,[]) (fun τ=> cg _ aa rfl (by exact cO [c,y] 0 (by simp)) rfl) ?_
 refine gd rfl ?_
 refine ap (_,[]) (fun τ=> aA _ aa rfl rfl rfl) ?_
 refine gV rfl ?_
 refine ap (_,[]) (fun τ=> aF _ aa rfl rfl eI) ?_
 refine iG rfl ?_
 refine ap (_,[]) (fun τ=> kT _ _ _ aa rfl 1 2 (.lit rfl rfl) (.lit rfl rfl) ab (show 2≤2 by omega) (show _=mK [y] from rfl) rfl) ?_
 refine jO rfl ?_
 refine ap (_,[]) (fun τ=> aH _ ek) ?_
 refine jW rfl (bl ⟨rfl,?_⟩)
 refine ai (cj aa [((0,8),(50,0))] ar (hb.toI) trivial tr ae) ?_
 exact fh rfl (aj (aG (bI (.inr rfl) rfl (.tmp dV) (Le.out [((0,8),(50,0))] [] (cP rfl rfl) rfl rfl rfl trivial ob))))
theorem Jh {c y:Nd} {cc cy:Cd} (hc:CoS (uu d v no on) c cc) (hy:CoS (uu d v no on) y cy):CoS (uu d v no on) (nd 18 0 [124,124] [c,y]) (Gw cc (fun _=> [{ op:= .push,n:=1 }]) cy):=fun a ha=> by
 have hb:=lK (on:=on) c cc (fun _=> [{ op:= .push,n:=1 }]) cy hc 0 1 [] (mK [y]) 1 (fun a _=> uA 1 a) (fun a ha=> pD y cy hy 1 a ha) a ha
 refine Spec.ofN Tryz.func91 rfl Tryz.ntmps91 rfl ?_
 refine am (ai (aQ (3,0) _ rfl rfl) (ai (aQ (4,0) _ rfl rfl) (ai (bq _ fA) (aj (aq (am (bb rfl rfl rfl (cf rfl rfl rfl (aj (ay ?_))))))))))
 refine aq (cK rfl rfl rfl rfl rfl (ed rfl rfl rfl rfl rfl ?_))
 iterate 3 refine cK rfl rfl rfl rfl rfl ?_
 refine aq ?_
 refine aN (σ':=aE 211 [(2,_),(3,_),(4,_),(12,_)] [((3,0),_),((4,0),_)] [] []) kp ?_
 refine ed rfl rfl rfl rfl rfl ?_
 iterate 4 refine cK rfl rfl rfl rfl rfl ?_
 refine cw (aq (am (bb rfl rfl rfl (cf rfl rfl rfl (kg rfl rfl rfl (cM rfl (ax rfl rfl (aA _ aa rfl rfl rfl) (ax rfl rfl (aF _ aa rfl rfl fy) (ax rfl rfl (aV (r:=false) _ _ Tryz.underlying9 rfl rfl rfl) (ai (aC _ _ _ rfl bN) ?_))))))))))
 refine aj (aW rfl rfl (aS (aq (aq ?_))))
 refine aN (σ':=aE 211 [(2,_),(3,_),(4,_)] [((3,0),_),((4,0),_)] [] []) kp ?_
 refine an (bb rfl rfl rfl (cf rfl rfl rfl (kg rfl rfl rfl (cM rfl (ax rfl rfl (aA _ aa rfl rfl rfl) (ax rfl rfl (aF _ aa rfl rfl fy) (ax rfl rfl (aV (r:=true) _ _ Tryz.underlying9 rfl rfl rfl) (ai (aC _ _ _ rfl bN) (aj (bL rfl rfl ?_))))))))))
 refine aq ?_
 refine aN (σ':=aE 211 [(2,_),(3,_),(4,_)] [((3,0),_),((4,0),_)] [] []) kp ?_
 refine bK 9 [137,138,139,140,141,142,143,144,145] [] ae ae rfl (aK rfl) (rfl:_=[_,_,_,_,_,_,_,_,_]) (rfl:_=[_,_]) ?_
 refine ap (_,[]) (fun τ=> az _ aa rfl rfl rfl rfl) ?_
 refine fB rfl ?_
 refine ap (_,[]) (fun τ=> aA _ aa rfl rfl rfl) ?_
 refine fH rfl ?_
 refine ap (_,[]) (fun τ=> aF _ aa rfl rfl eI) ?_
 refine fQ rfl ?_
 refine ap (_,[]) (fun τ=> bo _ _ aa rfl rfl 0 rfl (show 0 < 2 by omega) (Nat.le_of_ble_eq_true rfl) rfl) ?_
 refine fV rfl ?_
 refine ap (_,[]) (fun τ=> cg _ aa rfl (by exact cO [c,y] 0 (by simp)) rfl) ?_
 refine gd rfl ?_
 refine ap (_,[]) (fun τ=> aA _ aa rfl rfl rfl) ?_
 refine gV rfl ?_
 refine ap (_,[]) (fun τ=> aF _ aa rfl rfl eI) ?_
 refine iG rfl ?_
 refine ap (_,[]) (fun τ=> kT _ _ _ aa rfl 1 2 (.lit rfl rfl) (.lit rfl rfl) ab (show 2≤2 by omega) (show _=mK [y] from rfl) rfl) ?_
 refine jO rfl ?_
 refine ap (_,[]) (fun τ=> aH _ ek) ?_
 refine jW rfl (bl ⟨rfl,?_⟩)
 refine ai (cj aa [((0,8),(50,0))] ar (hb.toI) trivial tr ae) ?_
 exact fh rfl (aj (aG (bI (.inr rfl) rfl (.tmp dV) (Le.out [((0,8),(50,0))] [] (cP rfl rfl) rfl rfl rfl trivial ob))))
theorem EO {L:List Nd} {cs:List Cd} (hc:cs.length=L.length) (hk:mV (uu d v no on) L cs):CoS (uu d v no on) (nd 16 0 [] L) (fun a=> cY cs a++[{ op:= .draw }]):=fun a ha=> by
 have hl2:a+(cY cs a).length≤1000000:=by simp only [List.length_append] at ha;omega
 have hq:=dI (d:=d) (v:=v) (no:=no) (on:=on) L cs hc hk a hl2
 refine Spec.ofN Tryz.func91 rfl Tryz.ntmps91 rfl ?_
 refine am (ai (aQ (3,0) _ rfl rfl) (ai (aQ (4,0) _ rfl rfl) (ai (bq _ fA) (aj (aq (am (bb rfl rfl rfl (cf rfl rfl rfl (aj (ay ?_))))))))))
 refine aq (cK rfl rfl rfl rfl rfl (ed rfl rfl rfl rfl rfl ?_))
 iterate 3 refine cK rfl rfl rfl rfl rfl ?_
 refine aq ?_
 refine aN (σ':=aE 211 [(2,_),(3,_),(4,_),(12,_)] [((3,0),_),((4,0),_)] [] []) kp ?_
 refine ed rfl rfl rfl rfl rfl ?_
 iterate 4 refine cK rfl rfl rfl rfl rfl ?_
 refine cw (aq (am (bb rfl rfl rfl (cf rfl rfl rfl (gO rfl rfl rfl (cM rfl (aO rfl rfl ah ?_)))))))
 refine aO rfl rfl ah ?_
 refine aO rfl rfl ah ?_
 refine ai (aC _ _ _ rfl bN) (aj (aW rfl rfl (aS (aq (aq ?_)))))
 refine aN (σ':=aE 211 [(2,_),(3,_),(4,_)] [((3,0),_),((4,0),_)] [] []) kp ?_
 refine an (bb rfl rfl rfl (cf rfl rfl rfl (gO rfl rfl rfl (cM rfl (aO rfl rfl ah ?_)))))
 refine aO rfl rfl ah ?_
 refine aO rfl rfl ah ?_
 refine ai (aC _ _ _ rfl bN) (aj (aW rfl rfl (aS (am (ai (az _ aa rfl rfl rfl rfl) (bb rfl rfl rfl (fb rfl rfl rfl (aX rfl (ai (cj aa [((0,8),(50,0))] ar (hq.toI) trivial tr ae) ?_)))))))))
 refine fh rfl (aj (aq (am (bb rfl rfl rfl (cf rfl rfl rfl (aj (ay (aq ?_))))))))
 refine aN (σ':=aE 211 [(3,_),(4,_),(10,_),(153,_)] [((3,0),_),((4,0),_),((50,0),_)] [] []) kp ?_
 refine ed rfl rfl rfl rfl rfl (iE rfl rfl rfl rfl rfl (am (gK rfl (ai (aM _ aa rfl (by exact eS)) ?_))))
 refine ai (bi _ _ aa rfl ag (by (simp <;> rfl)) ah rfl) ?_
 refine ai (du (166,0) _ _ aa rfl rfl (bP _).symm (.sl rfl) ab rfl (fl _ { op:= .draw }) (show (cY cs a).length+1=(cY cs a++[({ op:= .draw }:eR)]).length by simp)) ?_
 exact fh rfl (aj (aG (bI (.inr rfl) rfl (.tmp dV) (Le.out [((0,8),(166,0))] [] (cP rfl rfl) rfl rfl rfl trivial ob))))
theorem GI {L:List Nd} {cs:List Cd} (hc:cs.length=L.length) (hk:mV (uu d v no on) L cs):CoS (uu d v no on) (nd 17 0 [45] L) (fun a=> cY cs a++[{ op:= .neg }]):=fun a ha=> by
 have hl2:a+(cY cs a).length≤1000000:=by simp only [List.length_append] at ha;omega
 have hq:=dI (d:=d) (v:=v) (no:=no) (on:=on) L cs hc hk a hl2
 refine Spec.ofN Tryz.func91 rfl Tryz.ntmps91 rfl ?_
 refine am (ai (aQ (3,0) _ rfl rfl) (ai (aQ (4,0) _ rfl rfl) (ai (bq _ fA) (aj (aq (am (bb rfl rfl rfl (cf rfl rfl rfl (aj (ay ?_))))))))))
 refine aq (cK rfl rfl rfl rfl rfl (ed rfl rfl rfl rfl rfl ?_))
 iterate 3 refine cK rfl rfl rfl rfl rfl ?_
 refine aq ?_
 refine aN (σ':=aE 211 [(2,_),(3,_),(4,_),(12,_)] [((3,0),_),((4,0),_)] [] []) kp ?_
 refine ed rfl rfl rfl rfl rfl ?_
 iterate 4 refine cK rfl rfl rfl rfl rfl ?_
 refine cw (aq (am (bb rfl rfl rfl (cf rfl rfl rfl (gO rfl rfl rfl (cM rfl (aO rfl rfl ah ?_)))))))
 refine aO rfl rfl ah ?_
 refine aO rfl rfl ah ?_
 refine ai (aC _ _ _ rfl bN) (aj (aW rfl rfl (aS (aq (aq ?_)))))
 refine aN (σ':=aE 211 [(2,_),(3,_),(4,_)] [((3,0),_),((4,0),_)] [] []) kp ?_
 refine an (bb rfl rfl rfl (cf rfl rfl rfl (gO rfl rfl rfl (cM rfl (aO rfl rfl ah ?_)))))
 refine aO rfl rfl ah ?_
 refine aO rfl rfl ah ?_
 refine ai (aC _ _ _ rfl bN) (aj (aW rfl rfl (aS (am (ai (az _ aa rfl rfl rfl rfl) (bb rfl rfl rfl (fb rfl rfl rfl (aX rfl (ai (cj aa [((0,8),(50,0))] ar (hq.toI) trivial tr ae) ?_)))))))))
 refine fh rfl (aj (aq (am (bb rfl rfl rfl (cf rfl rfl rfl (aj (ay (aq ?_))))))))
 refine aN (σ':=aE 211 [(3,_),(4,_),(10,_),(153,_)] [((3,0),_),((4,0),_),((50,0),_)] [] []) kp ?_
 refine ed rfl rfl rfl rfl rfl (cK rfl rfl rfl rfl rfl (iE rfl rfl rfl rfl rfl (aq (am (bb rfl rfl rfl (ai (aF _ aa rfl rfl fy) (ai (aV (r:=true) _ _ Tryz.underlying9 rfl rfl rfl) (aj (bL rfl rfl (am ?_))))))))))
 refine gK rfl (ai (aM _ aa rfl (by exact eS)) ?_)
 refine ai (bi _ _ aa rfl ag (by (simp <;> rfl)) ah rfl) ?_
 refine ai (du (175,0) _ _ aa rfl rfl (bP _).symm (.sl rfl) ab rfl (fl _ { op:= .neg }) (show (cY cs a).length+1=(cY cs a++[({ op:= .neg }:eR)]).length by simp)) ?_
 exact fh rfl (aj (aG (bI (.inr rfl) rfl (.tmp dV) (Le.out [((0,8),(175,0))] [] (cP rfl rfl) rfl rfl rfl trivial ob))))
theorem HN {L:List Nd} {cs:List Cd} (hc:cs.length=L.length) (hk:mV (uu d v no on) L cs):CoS (uu d v no on) (nd 17 0 [33] L) (fun a=> cY cs a++[{ op:= .not }]):=fun a ha=> by
 have hl2:a+(cY cs a).length≤1000000:=by simp only [List.length_append] at ha;omega
 have hq:=dI (d:=d) (v:=v) (no:=no) (on:=on) L cs hc hk a hl2
 refine Spec.ofN Tryz.func91 rfl Tryz.ntmps91 rfl ?_
 refine am (ai (aQ (3,0) _ rfl rfl) (ai (aQ (4,0) _ rfl rfl) (ai (bq _ fA) (aj (aq (am (bb rfl rfl rfl (cf rfl rfl rfl (aj (ay ?_))))))))))
 refine aq (cK rfl rfl rfl rfl rfl (ed rfl rfl rfl rfl rfl ?_))
 iterate 3 refine cK rfl rfl rfl rfl rfl ?_
 refine aq ?_
 refine aN (σ':=aE 211 [(2,_),(3,_),(4,_),(12,_)] [((3,0),_),((4,0),_)] [] []) kp ?_
 refine ed rfl rfl rfl rfl rfl ?_
 iterate 4 refine cK rfl rfl rfl rfl rfl ?_
 refine cw (aq (am (bb rfl rfl rfl (cf rfl rfl rfl (gO rfl rfl rfl (cM rfl (aO rfl rfl ah ?_)))))))
 refine aO rfl rfl ah ?_
 refine aO rfl rfl ah ?_
 refine ai (aC _ _ _ rfl bN) (aj (aW rfl rfl (aS (aq (aq ?_)))))
 refine aN (σ':=aE 211 [(2,_),(3,_),(4,_)] [((3,0),_),((4,0),_)] [] []) kp ?_
 refine an (bb rfl rfl rfl (cf rfl rfl rfl (gO rfl rfl rfl (cM rfl (aO rfl rfl ah ?_)))))
 refine aO rfl rfl ah ?_
 refine aO rfl rfl ah ?_
 refine ai (aC _ _ _ rfl bN) (aj (aW rfl rfl (aS (am (ai (az _ aa rfl rfl rfl rfl) (bb rfl rfl rfl (fb rfl rfl rfl (aX rfl (ai (cj aa [((0,8),(50,0))] ar (hq.toI) trivial tr ae) ?_)))))))))
 refine fh rfl (aj (aq (am (bb rfl rfl rfl (cf rfl rfl rfl (aj (ay (aq ?_))))))))
 refine aN (σ':=aE 211 [(3,_),(4,_),(10,_),(153,_)] [((3,0),_),((4,0),_),((50,0),_)] [] []) kp ?_
 refine ed rfl rfl rfl rfl rfl (cK rfl rfl rfl rfl rfl (iE rfl rfl rfl rfl rfl (aq (am (bb rfl rfl rfl (ai (aF _ aa rfl rfl fy) (ai (aV (r:=false) _ _ Tryz.underlying9 rfl rfl rfl) (aj (aW rfl rfl (aS ?_))))))))))
 refine am (gK rfl (ai (aM _ aa rfl (by exact eS)) ?_))
 refine ai (bi _ _ aa rfl ag (by (simp <;> rfl)) ah rfl) ?_
 refine ai (du (179,0) _ _ aa rfl rfl (bP _).symm (.sl rfl) ab rfl (fl _ { op:= .not }) (show (cY cs a).length+1=(cY cs a++[({ op:= .not }:eR)]).length by simp)) ?_
 exact fh rfl (aj (aG (bI (.inr rfl) rfl (.tmp dV) (Le.out [((0,8),(179,0))] [] (cP rfl rfl) rfl rfl rfl trivial ob))))
theorem xI {L:List Nd} {cs:List Cd} (hc:cs.length=L.length) (hk:mV (uu d v no on) L cs) (hn:(d++v).Nodup) (hl:(d++v).length≤1000) (i:Nat) (hi:i < (d++v).length):CoS (uu d v no on) (nd 1 0 ((d++v).getD i []) L) (fun a=> cY cs a++[{ op:= .setVar,n:=(i:Int) }]):=fun a ha=> by
 have hl2:a+(cY cs a).length≤1000000:=by simp only [List.length_append] at ha;omega
 have hq:=dI (d:=d) (v:=v) (no:=no) (on:=on) L cs hc hk a hl2
 refine Spec.ofN Tryz.func91 rfl Tryz.ntmps91 rfl ?_
 refine am (ai (aQ (3,0) _ rfl rfl) (ai (aQ (4,0) _ rfl rfl) (ai (bq _ fA) (aj (aq (am (bb rfl rfl rfl (cf rfl rfl rfl (aj (ay ?_))))))))))
 refine aq (cK rfl rfl rfl rfl rfl (ed rfl rfl rfl rfl rfl ?_))
 iterate 3 refine cK rfl rfl rfl rfl rfl ?_
 refine aq ?_
 refine aN (σ':=aE 211 [(2,_),(3,_),(4,_),(12,_)] [((3,0),_),((4,0),_)] [] []) kp ?_
 refine ed rfl rfl rfl rfl rfl ?_
 iterate 4 refine cK rfl rfl rfl rfl rfl ?_
 refine cw (aq (am (bb rfl rfl rfl (cf rfl rfl rfl (gO rfl rfl rfl (cM rfl (aO rfl rfl ah ?_)))))))
 refine aO rfl rfl ah ?_
 refine aO rfl rfl ah ?_
 refine ai (aC _ _ _ rfl bN) (aj (aW rfl rfl (aS (aq (aq ?_)))))
 refine aN (σ':=aE 211 [(2,_),(3,_),(4,_)] [((3,0),_),((4,0),_)] [] []) kp ?_
 refine an (bb rfl rfl rfl (cf rfl rfl rfl (gO rfl rfl rfl (cM rfl (aO rfl rfl ah ?_)))))
 refine aO rfl rfl ah ?_
 refine aO rfl rfl ah ?_
 refine ai (aC _ _ _ rfl bN) (aj (aW rfl rfl (aS (am (ai (az _ aa rfl rfl rfl rfl) (bb rfl rfl rfl (fb rfl rfl rfl (aX rfl (ai (cj aa [((0,8),(50,0))] ar (hq.toI) trivial tr ae) ?_)))))))))
 refine fh rfl (aj (aq (am (bb rfl rfl rfl (cf rfl rfl rfl (aj (ay (aq ?_))))))))
 refine aN (σ':=aE 211 [(3,_),(4,_),(10,_),(153,_)] [((3,0),_),((4,0),_),((50,0),_)] [] []) kp ?_
 refine ed rfl rfl rfl rfl rfl ?_
 iterate 2 refine cK rfl rfl rfl rfl rfl ?_
 refine iE rfl rfl rfl rfl rfl (am (gK rfl (ai (az _ aa rfl rfl rfl rfl) (bb rfl rfl rfl (ai (aF _ aa rfl rfl fy) (ai (aI aa al (my d v on no hn hl i hi) rfl rfl) ?_))))))
 refine ai (aM _ aa rfl (by exact eS)) ?_
 refine ai (bi _ _ aa rfl ag (by (simp <;> rfl)) ah rfl) ?_
 refine ai (du (189,0) _ _ aa rfl rfl (bP _).symm (.sl rfl) ab rfl (fl _ { op:= .setVar,n:=(i:Int) }) (show (cY cs a).length+1=(cY cs a++[({ op:= .setVar,n:=(i:Int) }:eR)]).length by simp)) ?_
 exact fh rfl (aj (aG (bI (.inr rfl) rfl (.tmp dV) (Le.out [((0,8),(189,0))] [] (cP rfl rfl) rfl rfl rfl trivial ob))))
theorem EE {L:List Nd} {cs:List Cd} (hc:cs.length=L.length) (hk:mV (uu d v no on) L cs) (n:Nat):CoS (uu d v no on) (nd 4 n [] L) (fun a=> cY cs a++[{ op:= .send,n:=(n:Int) }]):=fun a ha=> by
 have hl2:a+(cY cs a).length≤1000000:=by simp only [List.length_append] at ha;omega
 have hq:=dI (d:=d) (v:=v) (no:=no) (on:=on) L cs hc hk a hl2
 refine Spec.ofN Tryz.func91 rfl Tryz.ntmps91 rfl ?_
 refine am (ai (aQ (3,0) _ rfl rfl) (ai (aQ (4,0) _ rfl rfl) (ai (bq _ fA) (aj (aq (am (bb rfl rfl rfl (cf rfl rfl rfl (aj (ay ?_))))))))))
 refine aq (cK rfl rfl rfl rfl rfl (ed rfl rfl rfl rfl rfl ?_))
 iterate 3 refine cK rfl rfl rfl rfl rfl ?_
 refine aq ?_
 refine aN (σ':=aE 211 [(2,_),(3,_),(4,_),(12,_)] [((3,0),_),((4,0),_)] [] []) kp ?_
 refine ed rfl rfl rfl rfl rfl ?_
 iterate 4 refine cK rfl rfl rfl rfl rfl ?_
 refine cw (aq (am (bb rfl rfl rfl (cf rfl rfl rfl (gO rfl rfl rfl (cM rfl (aO rfl rfl ah ?_)))))))
 refine aO rfl rfl ah ?_
 refine aO rfl rfl ah ?_
 refine ai (aC _ _ _ rfl bN) (aj (aW rfl rfl (aS (aq (aq ?_)))))
 refine aN (σ':=aE 211 [(2,_),(3,_),(4,_)] [((3,0),_),((4,0),_)] [] []) kp ?_
 refine an (bb rfl rfl rfl (cf rfl rfl rfl (gO rfl rfl rfl (cM rfl (aO rfl rfl ah ?_)))))
 refine aO rfl rfl ah ?_
 refine aO rfl rfl ah ?_
 refine ai (aC _ _ _ rfl bN) (aj (aW rfl rfl (aS (am (ai (az _ aa rfl rfl rfl rfl) (bb rfl rfl rfl (fb rfl rfl rfl (aX rfl (ai (cj aa [((0,8),(50,0))] ar (hq.toI) trivial tr ae) ?_)))))))))
 refine fh rfl (aj (aq (am (bb rfl rfl rfl (cf rfl rfl rfl (aj (ay (aq ?_))))))))
 refine aN (σ':=aE 211 [(3,_),(4,_),(10,_),(153,_)] [((3,0),_),((4,0),_),((50,0),_)] [] []) kp ?_
 refine ed rfl rfl rfl rfl rfl ?_
 iterate 3 refine cK rfl rfl rfl rfl rfl ?_
 refine iE rfl rfl rfl rfl rfl (am (gK rfl (bb rfl rfl rfl (cf rfl rfl rfl (ai (aM _ aa rfl (by exact eS)) ?_)))))
 refine ai (bi _ _ aa rfl ag (by (simp <;> rfl)) ah rfl) ?_
 refine ai (du (197,0) _ _ aa rfl rfl (bP _).symm (.sl rfl) ab rfl (fl _ { op:= .send,n:=(n:Int) }) (show (cY cs a).length+1=(cY cs a++[({ op:= .send,n:=(n:Int) }:eR)]).length by simp)) ?_
 exact fh rfl (aj (aG (bI (.inr rfl) rfl (.tmp dV) (Le.out [((0,8),(197,0))] [] (cP rfl rfl) rfl rfl rfl trivial ob))))
theorem zT {L:List Nd} {cs:List Cd} (hc:cs.length=L.length) (hk:mV (uu d v no on) L cs):CoS (uu d v no on) (nd 8 0 [] L) (fun a=> cY cs a++[{ op:= .reply }]):=fun a ha=> by
 have hl2:a+(cY cs a).length≤1000000:=by simp only [List.length_append] at ha;omega
 have hq:=dI (d:=d) (v:=v) (no:=no) (on:=on) L cs hc hk a hl2
 refine Spec.ofN Tryz.func91 rfl Tryz.ntmps91 rfl ?_
 refine am (ai (aQ (3,0) _ rfl rfl) (ai (aQ (4,0) _ rfl rfl) (ai (bq _ fA) (aj (aq (am (bb rfl rfl rfl (cf rfl rfl rfl (aj (ay ?_))))))))))
 refine aq (cK rfl rfl rfl rfl rfl (ed rfl rfl rfl rfl rfl ?_))
 iterate 3 refine cK rfl rfl rfl rfl rfl ?_
 refine aq ?_
 refine aN (σ':=aE 211 [(2,_),(3,_),(4,_),(12,_)] [((3,0),_),((4,0),_)] [] []) kp ?_
 refine ed rfl rfl rfl rfl rfl ?_
 iterate 4 refine cK rfl rfl rfl rfl rfl ?_
 refine cw (aq (am (bb rfl rfl rfl (cf rfl rfl rfl (gO rfl rfl rfl (cM rfl (aO rfl rfl ah ?_)))))))
 refine aO rfl rfl ah ?_
 refine aO rfl rfl ah ?_
 refine ai (aC _ _ _ rfl bN) (aj (aW rfl rfl (aS (aq (aq ?_)))))
 refine aN (σ':=aE 211 [(2,_),(3,_),(4,_)] [((3,0),_),((4,0),_)] [] []) kp ?_
 refine an (bb rfl rfl rfl (cf rfl rfl rfl (gO rfl rfl rfl (cM rfl (aO rfl rfl ah ?_)))))
 refine aO rfl rfl ah ?_
 refine aO rfl rfl ah ?_
 refine ai (aC _ _ _ rfl bN) (aj (aW rfl rfl (aS (am (ai (az _ aa rfl rfl rfl rfl) (bb rfl rfl rfl (fb rfl rfl rfl (aX rfl (ai (cj aa [((0,8),(50,0))] ar (hq.toI) trivial tr ae) ?_)))))))))
 refine fh rfl (aj (aq (am (bb rfl rfl rfl (cf rfl rfl rfl (aj (ay (aq ?_))))))))
 refine aN (σ':=aE 211 [(3,_),(4,_),(10,_),(153,_)] [((3,0),_),((4,0),_),((50,0),_)] [] []) kp ?_
 refine ed rfl rfl rfl rfl rfl ?_
 iterate 4 refine cK rfl rfl rfl rfl rfl ?_
 refine iE rfl rfl rfl rfl rfl (am (gK rfl (ai (aM _ aa rfl (by exact eS)) ?_)))
 refine ai (bi _ _ aa rfl ag (by (simp <;> rfl)) ah rfl) ?_
 refine ai (du (203,0) _ _ aa rfl rfl (bP _).symm (.sl rfl) ab rfl (fl _ { op:= .reply }) (show (cY cs a).length+1=(cY cs a++[({ op:= .reply }:eR)]).length by simp)) ?_
 exact fh rfl (aj (aG (bI (.inr rfl) rfl (.tmp dV) (Le.out [((0,8),(203,0))] [] (cP rfl rfl) rfl rfl rfl trivial ob))))
theorem Ec {L:List Nd} {cs:List Cd} (hc:cs.length=L.length) (hk:mV (uu d v no on) L cs):CoS (uu d v no on) (nd 9 0 [] L) (fun a=> cY cs a++[{ op:= .fail }]):=fun a ha=> by
 have hl2:a+(cY cs a).length≤1000000:=by simp only [List.length_append] at ha;omega
 have hq:=dI (d:=d) (v:=v) (no:=no) (on:=on) L cs hc hk a hl2
 refine Spec.ofN Tryz.func91 rfl Tryz.ntmps91 rfl ?_
 refine am (ai (aQ (3,0) _ rfl rfl) (ai (aQ (4,0) _ rfl rfl) (ai (bq _ fA) (aj (aq (am (bb rfl rfl rfl (cf rfl rfl rfl (aj (ay ?_))))))))))
 refine aq (cK rfl rfl rfl rfl rfl (ed rfl rfl rfl rfl rfl ?_))
 iterate 3 refine cK rfl rfl rfl rfl rfl ?_
 refine aq ?_
 refine aN (σ':=aE 211 [(2,_),(3,_),(4,_),(12,_)] [((3,0),_),((4,0),_)] [] []) kp ?_
 refine ed rfl rfl rfl rfl rfl ?_
 iterate 4 refine cK rfl rfl rfl rfl rfl ?_
 refine cw (aq (am (bb rfl rfl rfl (cf rfl rfl rfl (gO rfl rfl rfl (cM rfl (aO rfl rfl ah ?_)))))))
 refine aO rfl rfl ah ?_
 refine aO rfl rfl ah ?_
 refine ai (aC _ _ _ rfl bN) (aj (aW rfl rfl (aS (aq (aq ?_)))))
 refine aN (σ':=aE 211 [(2,_),(3,_),(4,_)] [((3,0),_),((4,0),_)] [] []) kp ?_
 refine an (bb rfl rfl rfl (cf rfl rfl rfl (gO rfl rfl rfl (cM rfl (aO rfl rfl ah ?_)))))
 refine aO rfl rfl ah ?_
 refine aO rfl rfl ah ?_
 refine ai (aC _ _ _ rfl bN) (aj (aW rfl rfl (aS (am (ai (az _ aa rfl rfl rfl rfl) (bb rfl rfl rfl (fb rfl rfl rfl (aX rfl (ai (cj aa [((0,8),(50,0))] ar (hq.toI) trivial tr ae) ?_)))))))))
 refine fh rfl (aj (aq (am (bb rfl rfl rfl (cf rfl rfl rfl (aj (ay (aq ?_))))))))
 refine aN (σ':=aE 211 [(3,_),(4,_),(10,_),(153,_)] [((3,0),_),((4,0),_),((50,0),_)] [] []) kp ?_
 refine ed rfl rfl rfl rfl rfl ?_
 iterate 5 refine cK rfl rfl rfl rfl rfl ?_
 refine iE rfl rfl rfl rfl rfl (am (gK rfl (ai (aM _ aa rfl (by exact eS)) ?_)))
 refine ai (bi _ _ aa rfl ag (by (simp <;> rfl)) ah rfl) ?_
 refine ai (du (209,0) _ _ aa rfl rfl (bP _).symm (.sl rfl) ab rfl (fl _ { op:= .fail }) (show (cY cs a).length+1=(cY cs a++[({ op:= .fail }:eR)]).length by simp)) ?_
 exact fh rfl (aj (aG (bI (.inr rfl) rfl (.tmp dV) (Le.out [((0,8),(209,0))] [] (cP rfl rfl) rfl rfl rfl trivial ob))))
theorem BN {L:List Nd} {cs:List Cd} (hc:cs.length=L.length) (hk:mV (uu d v no on) L cs):CoS (uu d v no on) (nd 11 0 [] L) (fun a=> cY cs a):=fun a ha=> by
 have hl2:a+(cY cs a).length≤1000000:=ha
 have hq:=dI (d:=d) (v:=v) (no:=no) (on:=on) L cs hc hk a hl2
 refine Spec.ofN Tryz.func91 rfl Tryz.ntmps91 rfl ?_
 refine am (ai (aQ (3,0) _ rfl rfl) (ai (aQ (4,0) _ rfl rfl) (ai (bq _ fA) (aj (aq (am (bb rfl rfl rfl (cf rfl rfl rfl (aj (ay ?_))))))))))
 refine aq (cK rfl rfl rfl rfl rfl (ed rfl rfl rfl rfl rfl ?_))
 iterate 3 refine cK rfl rfl rfl rfl rfl ?_
 refine aq ?_
 refine aN (σ':=aE 211 [(2,_),(3,_),(4,_),(12,_)] [((3,0),_),((4,0),_)] [] []) kp ?_
 refine ed rfl rfl rfl rfl rfl ?_
 iterate 4 refine cK rfl rfl rfl rfl rfl ?_
 refine cw (aq (am (bb rfl rfl rfl (cf rfl rfl rfl (gO rfl rfl rfl (cM rfl (aO rfl rfl ah ?_)))))))
 refine aO rfl rfl ah ?_
 refine aO rfl rfl ah ?_
 refine ai (aC _ _ _ rfl bN) (aj (aW rfl rfl (aS (aq (aq ?_)))))
 refine aN (σ':=aE 211 [(2,_),(3,_),(4,_)] [((3,0),_),((4,0),_)] [] []) kp ?_
 refine an (bb rfl rfl rfl (cf rfl rfl rfl (gO rfl rfl rfl (cM rfl (aO rfl rfl ah ?_)))))
 refine aO rfl rfl ah ?_
 refine aO rfl rfl ah ?_
 refine ai (aC _ _ _ rfl bN) (aj (aW rfl rfl (aS (am (ai (az _ aa rfl rfl rfl rfl) (bb rfl rfl rfl (fb rfl rfl rfl (aX rfl (ai (cj aa [((0,8),(50,0))] ar (hq.toI) trivial tr ae) ?_)))))))))
 refine fh rfl (aj (aq (am (bb rfl rfl rfl (cf rfl rfl rfl (aj (ay (aq ?_))))))))
 refine aN (σ':=aE 211 [(3,_),(4,_),(10,_),(153,_)] [((3,0),_),((4,0),_),((50,0),_)] [] []) kp ?_
 refine ed rfl rfl rfl rfl rfl ?_
 iterate 6 refine cK rfl rfl rfl rfl rfl ?_
 exact cw (am (gK rfl (fh rfl (aj (aG (bI (.inr rfl) rfl (.tmp dV) (Le.out [((0,8),(50,0))] [] (cP rfl rfl) rfl rfl rfl trivial ob)))))))
theorem IG {L:List Nd} {cs:List Cd} (hc:cs.length=L.length) (hk:mV (uu d v no on) L cs) (o:Bo):CoS (uu d v no on) (nd 18 0 o.txt L) (fun a=> cY cs a++o.code):=fun a ha=> by
 have hol:o.code.length≤2:=by cases o <;> decide
 have hs1:o.txt≠[38,38]:=by cases o <;> decide
 have hs2:o.txt≠[124,124]:=by cases o <;> decide
 have hl2:a+(cY cs a).length≤1000000:=by simp only [List.length_append] at ha;omega
 have hq:=dI (d:=d) (v:=v) (no:=no) (on:=on) L cs hc hk a hl2
 refine Spec.ofN Tryz.func91 rfl Tryz.ntmps91 rfl ?_
 refine am (ai (aQ (3,0) _ rfl rfl) (ai (aQ (4,0) _ rfl rfl) (ai (bq _ fA) (aj (aq (am (bb rfl rfl rfl (cf rfl rfl rfl (aj (ay ?_))))))))))
 refine aq (cK rfl rfl rfl rfl rfl (ed rfl rfl rfl rfl rfl ?_))
 iterate 3 refine cK rfl rfl rfl rfl rfl ?_
 refine aq ?_
 refine aN (σ':=aE 211 [(2,_),(3,_),(4,_),(12,_)] [((3,0),_),((4,0),_)] [] []) kp ?_
 refine ed rfl rfl rfl rfl rfl ?_
 iterate 4 refine cK rfl rfl rfl rfl rfl ?_
 refine cw (aq (am (bb rfl rfl rfl (cf rfl rfl rfl (kg rfl rfl rfl (cM rfl (ax rfl rfl (aA _ aa rfl rfl rfl) (ax rfl rfl (aF _ aa rfl rfl fy) (ax rfl rfl (aV (r:=false) _ _ Tryz.underlying9 rfl rfl (beq_eq_false_iff_ne.2 hs1)) ?_)))))))))
 refine ai (aC _ _ _ rfl bN) (aj (aW rfl rfl (aS (aq (aq ?_)))))
 refine aN (σ':=aE 211 [(2,_),(3,_),(4,_)] [((3,0),_),((4,0),_)] [] []) kp ?_
 refine an (bb rfl rfl rfl (cf rfl rfl rfl (kg rfl rfl rfl (cM rfl (ax rfl rfl (aA _ aa rfl rfl rfl) (ax rfl rfl (aF _ aa rfl rfl fy) (ax rfl rfl (aV (r:=false) _ _ Tryz.underlying9 rfl rfl (beq_eq_false_iff_ne.2 hs2)) ?_)))))))
 refine ai (aC _ _ _ rfl bN) (aj (aW rfl rfl (aS (am (ai (az _ aa rfl rfl rfl rfl) (bb rfl rfl rfl (fb rfl rfl rfl (aX rfl (ai (cj aa [((0,8),(50,0))] ar (hq.toI) trivial tr ae) ?_)))))))))
 refine fh rfl (aj (aq (am (bb rfl rfl rfl (cf rfl rfl rfl (aj (ay (aq ?_))))))))
 refine aN (σ':=aE 211 [(3,_),(4,_),(10,_),(153,_)] [((3,0),_),((4,0),_),((50,0),_)] [] []) kp ?_
 refine zG rfl rfl rfl rfl rfl (am (gK rfl (bb rfl rfl rfl (ai (aF _ aa rfl rfl fy) (ai (aI aa al (yz o) rfl rfl) ?_)))))
 refine ai (du (160,0) _ _ aa rfl rfl (bP _).symm (.sl (bP _)) ab rfl (mf _ _) (show (cY cs a).length+o.code.length=(cY cs a++o.code).length by simp)) ?_
 exact fh rfl (aj (aG (bI (.inr rfl) rfl (.tmp dV) (Le.out [((0,8),(160,0))] [] (cP rfl rfl) rfl rfl rfl trivial ob))))
def Lc (c y:Cd) (a:Nat):List eR:=c a++[{ op:= .unl,n:=((a+(c a).length+(y (a+(c a).length+1)).length+2:Nat):Int) }]++y (a+(c a).length+1)++[{ op:= .jump,n:=(a:Int) }]
theorem AE {c y:Nd} {cc cy:Cd} (hc:CoS (uu d v no on) c cc) (hy:CoS (uu d v no on) y cy):CoS (uu d v no on) (nd 3 0 [] [c,y]) (Lc cc cy):=fun a ha=> by
 obtain ⟨b,hb⟩: ∃ b,b=Lc cc cy a:=⟨_,rfl⟩
 rw [← hb] at ha ⊢
 unfold Lc at hb
 have hbl:=congrArg List.length hb
 simp only [List.length_append,List.length_cons,List.length_nil] at hbl
 have h1:=hc a ab
 generalize cc a=C at h1 hb hbl
 have h2:=hy (a+C.length+1) ab
 generalize cy (a+C.length+1)=Y at h2 hb hbl
 refine Spec.ofN Tryz.func91 rfl Tryz.ntmps91 rfl ?_
 refine am (ai (aQ (3,0) _ rfl rfl) (ai (aQ (4,0) _ rfl rfl) (ai (bq _ fA) (aj (aq (am (bb rfl rfl rfl (cf rfl rfl rfl (aj (ay ?_))))))))))
 refine aq (cK rfl rfl rfl rfl rfl (ed rfl rfl rfl rfl rfl ?_))
 iterate 3 refine cK rfl rfl rfl rfl rfl ?_
 refine aq ?_
 refine aN (σ':=aE 211 [(2,_),(3,_),(4,_),(12,_)] [((3,0),_),((4,0),_)] [] []) kp ?_
 refine ed rfl rfl rfl rfl rfl ?_
 iterate 3 refine cK rfl rfl rfl rfl rfl ?_
 refine iE rfl rfl rfl rfl rfl (aq ?_)
 refine aN (σ':=aE 211 [(2,_),(3,_),(4,_)] [((3,0),_),((4,0),_)] [] []) kp ?_
 refine bK 6 [73,74,75,76,77,78] [] ae ae rfl (aK rfl) (rfl:_=[_,_,_,_,_,_]) (rfl:_=[_,_]) ?_
 refine ap (_,[]) (fun τ=> az _ aa rfl rfl rfl rfl) ?_
 refine fB rfl ?_
 refine ap (_,[]) (fun τ=> aA _ aa rfl rfl rfl) ?_
 refine fH rfl ?_
 refine ap (_,[]) (fun τ=> aF _ aa rfl rfl eI) ?_
 refine fQ rfl ?_
 refine ap (_,[]) (fun τ=> bo _ _ aa rfl rfl 0 rfl (show 0 < 2 by omega) (Nat.le_of_ble_eq_true rfl) rfl) ?_
 refine fV rfl ?_
 refine ap (_,[]) (fun τ=> cg _ aa rfl (by exact cO [c,y] 0 (by simp)) rfl) ?_
 refine gd rfl ?_
 refine ap (_,[]) (fun τ=> aH _ ek) ?_
 refine gV rfl (bl ⟨rfl,?_⟩)
 refine ai (cj aa [((0,8),(50,0))] ar (h1.toI) trivial tr ae) ?_
 refine fh rfl (aj (aU fun K15 hK15=> ?_))
 refine aN (σ':=aE 211 [(2,_),(3,_),(4,_),(7,_)] [((3,0),_),((4,0),_),((50,0),_)] [] []) kp ?_
 refine bK 10 [80,81,82,83,84,85,86,87,88,89] [] ae ae rfl (aK rfl) (rfl:_=[_,_,_,_,_,_,_,_,_,_]) (rfl:_=[_,_]) ?_
 refine ap (_,[]) (fun τ=> az _ aa rfl rfl rfl rfl) ?_
 refine fB rfl ?_
 refine ap (_,[]) (fun τ=> aA _ aa rfl rfl rfl) ?_
 refine fH rfl ?_
 refine ap (_,[]) (fun τ=> aF _ aa rfl rfl eI) ?_
 refine fQ rfl ?_
 refine ap (_,[]) (fun τ=> bo _ _ aa rfl rfl 1 rfl (show 1 < 2 by omega) (Nat.le_of_ble_eq_true rfl) rfl) ?_
 refine fV rfl ?_
 refine ap (_,[]) (fun τ=> cg _ aa rfl (by exact cO [c,y] 1 (by simp)) rfl) ?_
 refine gd rfl ?_
 refine ap (_,[]) (fun τ=> aH _ ek) ?_
 refine gV rfl ?_
 refine ap (_,[]) (fun τ=> aH _ dV) ?_
 refine iG rfl ?_
 refine ap (_,[]) (fun τ=> dg _ aa rfl rfl) ?_
 refine jO rfl ?_
 refine ap (_,[]) (fun τ=> aZ _ _ rfl rfl (bF ab)) ?_
 refine jW rfl ?_
 refine ap (_,[]) (fun τ=> aZ _ _ rfl rfl (bF ab)) ?_
 refine fE rfl (bl ⟨rfl,?_⟩)
 refine ai (cj aa [((0,8),(51,0))] ar (h2.toI) trivial tr ae) ?_
 refine fh rfl (aJ (hK15 _ ?_))
 clear hK15;try clear K15
 refine am (gK rfl (aX rfl (gK rfl (ai (dg _ aa rfl rfl) (ai (aZ _ _ rfl rfl (bF ab)) ?_)))))
 refine gK rfl (ai (dg _ aa rfl rfl) (ai (aZ _ _ rfl rfl (bF ab)) ?_))
 refine ai (aZ (r:=((a+C.length+Y.length+2:Nat):Int)) _ _ rfl rfl ((bF ab).trans ab)) ?_
 refine ai (aM _ aa rfl (by exact eS)) ?_
 refine ai (bi _ _ aa rfl ag (by (simp <;> rfl)) ah rfl) ?_
 refine ai (du (102,0) _ _ aa rfl rfl (bP _).symm (.sl rfl) ab rfl (fl _ { op:= .unl,n:=((a+C.length+Y.length+2:Nat):Int) }) (show C.length+1=(C++[({ op:= .unl,n:=((a+C.length+Y.length+2:Nat):Int) }:eR)]).length by simp)) ?_
 refine fh rfl (aj (aq ?_))
 refine aN (σ':=aE 211 [(2,_),(8,_),(9,_)] [((51,0),_),((102,0),_)] [] []) kp ?_
 refine an (gK rfl (gK rfl (ai (du (105,0) _ _ aa rfl rfl (bP _).symm (.ref rfl (nL _) (lu _)) (by simp;omega) rfl (mf _ _) (show (C++[({ op:= .unl,n:=((a+C.length+Y.length+2:Nat):Int) }:eR)]).length+Y.length=(C++[({ op:= .unl,n:=((a+C.length+Y.length+2:Nat):Int) }:eR)]++Y).length by simp;omega)) ?_)))
 refine fh rfl (aj (am (gK rfl (aX rfl (ai (aM _ aa rfl (by exact eS)) ?_)))))
 refine ai (bi _ _ aa rfl ag (by (simp <;> rfl)) ah rfl) ?_
 refine ai (du (110,0) _ _ aa rfl rfl (bP _).symm (.sl rfl) (by simp;omega) rfl ((fl _ { op:= .jump,n:=(a:Int) }).trans (congrArg inl hb.symm)) (show _+1=b.length by simp;omega)) ?_
 exact fh rfl (aj (aG (bI (.inr rfl) rfl (.tmp dV) (Le.out [((0,8),(110,0))] [] (cP rfl rfl) rfl rfl rfl trivial ob))))
end

def jC:Ex→Bool
 | .int n=> decide (0≤n) | .bool _=> true | .var _=> true | .name _=> true
 | .draw e=> jC e | .neg e=> jC e | .not e=> jC e
 | .bin _ a b=> jC a && jC b
 | .and a b=> jC a && jC b
 | .or a b=> jC a && jC b
mutual
def xG:Sm→Bool
 | .assign _ e=> jC e
 | .send t _ a b=> jC t && jC a && jC b
 | .timer _=> true | .cancel _=> true | .sync=> true | .stop=> true
 | .reply a b=> jC a && jC b
 | .fail e=> jC e
 | .loop c b=> jC c && sJ b
 | .ite c a b=> jC c && sJ a && sJ b
def sJ:Bk→Bool
 | .nil=> true
 | .cons s b=> xG s && sJ b
end
section
variable {d v:List Tx} {no:Nat} {on:List PV}
abbrev Kg (d v:List Tx) (no:Nat) (on:List PV) (N:Nd) (c:Cd):Prop:=CoS (uu d v no on) N c
theorem CoS.cong {u:AV} {N:Nd} {c c':Cd} (h:CoS u N c) (e: ∀ a,c a=c' a):CoS u N c':=by
 rw [show c'=c from funext fun a=> (e a).symm];exact h
theorem eo (hn:(d++v).Nodup) (hl:(d++v).length≤1000): ∀ e:Ex,hY (d++v).length e→jC e=true→Kg d v no on (eL (d++v) e) (bE e)
 | .int n,_,hp=> by
  have hp:=of_decide_eq_true hp
  have:=HK (d:=d) (v:=v) (no:=no) (on:=on) n.toNat
  exact this.cong fun a=> by rw [Int.toNat_of_nonneg hp];rfl
 | .bool b,_,_=> by
  cases b
  ·exact xD 0
  exact xD 1
 | .var i,h,_=> Ia hn hl i h
 | .name k,h,_=> El k h
 | .draw e,h,hp=> (EO rfl (yC (eo hn hl e h hp) Ga)).cong fun a=> by simp [bE,cY]
 | .neg e,h,hp=> (GI rfl (yC (eo hn hl e h hp) Ga)).cong fun a=> by simp [bE,cY]
 | .not e,h,hp=> (HN rfl (yC (eo hn hl e h hp) Ga)).cong fun a=> by simp [bE,cY]
 | .bin o x y,h,hp=> by
  simp only [jC,Bool.and_eq_true] at hp
  exact (IG rfl (yC (eo hn hl x h.1 hp.1) (yC (eo hn hl y h.2 hp.2) Ga)) o).cong fun a=> by simp [bE,cY]
 | .and x y,h,hp=> by
  simp only [jC,Bool.and_eq_true] at hp
  exact (He (eo hn hl x h.1 hp.1) (eo hn hl y h.2 hp.2)).cong fun a=> rfl
 | .or x y,h,hp=> by
  simp only [jC,Bool.and_eq_true] at hp
  exact (Jh (eo hn hl x h.1 hp.1) (eo hn hl y h.2 hp.2)).cong fun a=> rfl
def EV:Bk→List Cd
 | .nil=> []
 | .cons s b=> dv s::EV b
theorem wZ (nm:List Tx): ∀ b:Bk,(EV b).length=(jc nm b).length
 | .nil=> by simp [EV,jc]
 | .cons s b=> by simp [EV,jc,wZ nm b]
theorem xd: ∀ (b:Bk) (a:Nat),cY (EV b) a=dT b a
 | .nil,a=> by simp [EV,cY,dT]
 | .cons s b,a=> by simp only [EV,cY,dT,xd b]
theorem nk {b:Bk} (h:mV (uu d v no on) (jc (d++v) b) (EV b)):Kg d v no on (iX (d++v) b) (dT b):=(BN (wZ _ b) h).cong (xd b)
mutual
theorem Gd (hn:(d++v).Nodup) (hl:(d++v).length≤1000): ∀ s:Sm,gI (d++v).length s→xG s=true→Kg d v no on (Gi (d++v) s) (dv s)
 | .assign i e,h,hp=> by rw [gI] at h;exact (xI rfl (yC (eo hn hl e h.2 hp) Ga) hn hl i h.1).cong fun a=> by simp [dv,cY]
 | .send t k x y,h,hp=> by
  rw [gI] at h
  simp only [xG,Bool.and_eq_true] at hp
  exact (EE rfl (yC (eo hn hl t h.2.1 hp.1.1) (yC (eo hn hl x h.2.2.1 hp.1.2) (yC (eo hn hl y h.2.2.2 hp.2) Ga))) k).cong fun a=> by simp [dv,cY,Nat.add_assoc]
 | .timer k,_,_=> (As k).cong fun a=> by rw [dv]
 | .cancel k,_,_=> (xH k).cong fun a=> by rw [dv]
 | .sync,_,_=> co_sync.cong fun a=> by rw [dv]
 | .stop,_,_=> co_stop.cong fun a=> by rw [dv]
 | .reply x y,h,hp=> by
  rw [gI] at h
  simp only [xG,Bool.and_eq_true] at hp
  exact (zT rfl (yC (eo hn hl x h.1 hp.1) (yC (eo hn hl y h.2 hp.2) Ga))).cong fun a=> by simp [dv,cY]
 | .fail e,h,hp=> by rw [gI] at h;exact (Ec rfl (yC (eo hn hl e h hp) Ga)).cong fun a=> by simp [dv,cY]
 | .loop c b,h,hp=> by
  rw [gI] at h
  simp only [xG,Bool.and_eq_true] at hp
  exact (AE (eo hn hl c h.1 hp.1) (nk (nw hn hl b h.2 hp.2))).cong fun a=> by rw [dv];rfl
 | .ite c x y,h,hp=> by
  rw [gI] at h
  simp only [xG,Bool.and_eq_true] at hp
  exact (Ix (eo hn hl c h.1 hp.1.1) (nk (nw hn hl x h.2.1 hp.1.2)) (nk (nw hn hl y h.2.2 hp.2))).cong fun a=> by rw [dv];rfl
theorem nw (hn:(d++v).Nodup) (hl:(d++v).length≤1000): ∀ b:Bk,lj (d++v).length b→sJ b=true→mV (uu d v no on) (jc (d++v) b) (EV b)
 | .nil,_,_=> Ga
 | .cons s b,h,hp=> by
  rw [lj] at h
  simp only [sJ,Bool.and_eq_true] at hp
  exact yC (Gd hn hl s h.1 hp.1) (nw hn hl b h.2 hp.2)
end
theorem Gc (hn:(d++v).Nodup) (hl:(d++v).length≤1000) (b:Bk) (h:lj (d++v).length b) (hp:sJ b=true):Kg d v no on (iX (d++v) b) (dT b):=nk (nw hn hl b h hp)
end
end Go.Proofs.YtmjnackchaahbaaGreat
