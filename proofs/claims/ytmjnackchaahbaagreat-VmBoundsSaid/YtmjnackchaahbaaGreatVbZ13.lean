/- Part 13 of the texts that the walk leans on: the machine, the walks, the plain laws. -/
import Derived.Test.YtmjnackchaahbaaGreatVbZ12
set_option linter.unusedSimpArgs false
set_option linter.unusedVariables false
namespace Go.Proofs.YtmjnackchaahbaaGreat
open Go.RowKit

section
variable {d v:List Tx} {no:Nat} {on:List PV}
theorem CL (n:Nat):CoS (uu d v no on) (nd 12 n [] []) (fun _=> [{ op:= .push,n:=(n:Int) }]):=fun a ha=> by
 refine Spec.ofN Tryz.func91 rfl Tryz.ntmps91 rfl ?_
 refine am (ai (bk (3,0) _ rfl rfl) (ai (bk (4,0) _ rfl rfl) (ai (bG _ (rfl:_=AV.v (.slice _ _ _))) (aj (ap (am (bA rfl rfl rfl (cC rfl rfl rfl (aj (au ?_))))))))))
 refine ap (eL rfl rfl rfl rfl rfl (aJ (bD rfl rfl (am (bA rfl rfl rfl (cC rfl rfl rfl (ai (aA _ aa rfl (by exact (rfl:_=some [_,_]))) ?_)))))))
 refine ai (jZ (19,0) _ _ aa rfl ag (by (simp <;> rfl)) ah rfl rfl) ?_
 exact fa rfl (aj (aC (aY (.inr rfl) rfl (.tmp (rfl:_=AV.ref _ _ _)) (Le.out [((0,8),(19,0))] [] (dh rfl rfl) rfl rfl rfl trivial ob))))
theorem uf (n:Nat):CoS (uu d v no on) (nd 13 n [] []) (fun _=> [{ op:= .push,n:=(n:Int) }]):=fun a ha=> by
 refine Spec.ofN Tryz.func91 rfl Tryz.ntmps91 rfl ?_
 refine am (ai (bk (3,0) _ rfl rfl) (ai (bk (4,0) _ rfl rfl) (ai (bG _ (rfl:_=AV.v (.slice _ _ _))) (aj (ap (am (bA rfl rfl rfl (cC rfl rfl rfl (aj (au ?_))))))))))
 refine ap (bQ rfl rfl rfl rfl rfl (oN rfl rfl rfl rfl rfl (am (bA rfl rfl rfl (cC rfl rfl rfl (ai (aA _ aa rfl (by exact (rfl:_=some [_,_]))) ?_))))))
 refine ai (jZ (19,0) _ _ aa rfl ag (by (simp <;> rfl)) ah rfl rfl) ?_
 exact fa rfl (aj (aC (aY (.inr rfl) rfl (.tmp (rfl:_=AV.ref _ _ _)) (Le.out [((0,8),(19,0))] [] (dh rfl rfl) rfl rfl rfl trivial ob))))
theorem DY (hn:(d++v).Nodup) (hl:(d++v).length≤1000) (i:Nat) (hi:i < (d++v).length):CoS (uu d v no on) (nd 14 0 ((d++v).getD i []) []) (fun _=> [{ op:= .var,n:=(i:Int) }]):=fun a ha=> by
 refine Spec.ofN Tryz.func91 rfl Tryz.ntmps91 rfl ?_
 refine am (ai (bk (3,0) _ rfl rfl) (ai (bk (4,0) _ rfl rfl) (ai (bG _ (rfl:_=AV.v (.slice _ _ _))) (aj (ap (am (bA rfl rfl rfl (cC rfl rfl rfl (aj (au ?_))))))))))
 refine ap (bQ rfl rfl rfl rfl rfl (cj rfl rfl rfl rfl rfl (eL rfl rfl rfl rfl rfl (am (ai (aR _ aa rfl rfl rfl rfl) (bA rfl rfl rfl (ai (aK _ aa rfl rfl (rfl:_=some (AV.v (.string _)))) (ai (aL aa al (kV d v on no hn hl i hi) rfl rfl) ?_))))))))
 refine ai (aA _ aa rfl (by exact (rfl:_=some [_,_]))) ?_
 refine ai (jZ (27,0) _ _ aa rfl ag (by (simp <;> rfl)) ah rfl rfl) ?_
 exact fa rfl (aj (aC (aY (.inr rfl) rfl (.tmp (rfl:_=AV.ref _ _ _)) (Le.out [((0,8),(27,0))] [] (dh rfl rfl) rfl rfl rfl trivial ob))))
theorem zF (k:Nat) (hk:k < 9):CoS (uu d v no on) (nd 15 0 (bltT.getD k []) []) (fun _=> [{ op:= .name,n:=(k:Int) }]):=fun a ha=> by
 refine Spec.ofN Tryz.func91 rfl Tryz.ntmps91 rfl ?_
 refine am (ai (bk (3,0) _ rfl rfl) (ai (bk (4,0) _ rfl rfl) (ai (bG _ (rfl:_=AV.v (.slice _ _ _))) (aj (ap (am (bA rfl rfl rfl (cC rfl rfl rfl (aj (au ?_))))))))))
 refine ap (bQ rfl rfl rfl rfl rfl (cj rfl rfl rfl rfl rfl (bQ rfl rfl rfl rfl rfl (eL rfl rfl rfl rfl rfl (ap ?_)))))
 refine aN (σ':=aB 211 [(4,_)] [((4,0),_)] [] []) kp ?_
 refine bF 6 [30,31,32,33,34,35] [(35,0)] ae ae rfl (aM rfl) (rfl:_=[_,_,_,_,_,_]) (rfl:_=[_]) ?_
 refine aq (_,[]) (fun τ=> (aL aa (by repeat' (exact dN)) (mU) rfl rfl)) ?_
 refine eJ rfl ?_
 refine aq (_,[]) (fun τ=> aH _ aa rfl rfl rfl) ?_
 refine eK rfl ?_
 refine aq (_,[]) (fun τ=> aK _ aa rfl rfl (rfl:_=some (AV.v (.string _)))) ?_
 refine eH rfl ?_
 refine aq (_,[]) (fun τ=> (aL aa al (vF bltT 9 rfl ab ah k hk) rfl rfl)) ?_
 refine eS rfl ?_
 refine aq (_,[]) (fun τ=> aA _ aa rfl (by exact (rfl:_=some [_,_]))) ?_
 refine eZ rfl ?_
 refine aq (_,[((35,0),_)]) (fun τ=> jZ (35,0) _ _ aa rfl ag (by (simp <;> rfl)) ah rfl rfl) ?_
 refine fH rfl (bh ⟨rfl,?_⟩)
 exact fa rfl (aj (aC (aY (.inr rfl) rfl (.tmp (rfl:_=AV.ref _ _ _)) (Le.out [((0,8),(35,0))] [] (dh rfl rfl) rfl rfl rfl trivial ob))))
theorem yQ (n:Nat):CoS (uu d v no on) (nd 5 n [] []) (fun _=> [{ op:= .timer,n:=(n:Int) }]):=fun a ha=> by
 refine Spec.ofN Tryz.func91 rfl Tryz.ntmps91 rfl ?_
 refine am (ai (bk (3,0) _ rfl rfl) (ai (bk (4,0) _ rfl rfl) (ai (bG _ (rfl:_=AV.v (.slice _ _ _))) (aj (ap (am (bA rfl rfl rfl (cC rfl rfl rfl (aj (au ?_))))))))))
 refine ap (bQ rfl rfl rfl rfl rfl (cj rfl rfl rfl rfl rfl ?_))
 iterate 3 refine bQ rfl rfl rfl rfl rfl ?_
 refine ap ?_
 refine aN (σ':=aB 211 [(2,_),(3,_),(4,_),(12,_)] [((3,0),_),((4,0),_)] [] []) kp ?_
 refine oN rfl rfl rfl rfl rfl (am (bA rfl rfl rfl (cC rfl rfl rfl (ai (aA _ aa rfl (by exact (rfl:_=some [_,_]))) ?_))))
 refine ai (jZ (56,0) _ _ aa rfl ag (by (simp <;> rfl)) ah rfl rfl) ?_
 exact fa rfl (aj (aC (aY (.inr rfl) rfl (.tmp (rfl:_=AV.ref _ _ _)) (Le.out [((0,8),(56,0))] [] (dh rfl rfl) rfl rfl rfl trivial ob))))
theorem vp (n:Nat):CoS (uu d v no on) (nd 6 n [] []) (fun _=> [{ op:= .cancel,n:=(n:Int) }]):=fun a ha=> by
 refine Spec.ofN Tryz.func91 rfl Tryz.ntmps91 rfl ?_
 refine am (ai (bk (3,0) _ rfl rfl) (ai (bk (4,0) _ rfl rfl) (ai (bG _ (rfl:_=AV.v (.slice _ _ _))) (aj (ap (am (bA rfl rfl rfl (cC rfl rfl rfl (aj (au ?_))))))))))
 refine ap (bQ rfl rfl rfl rfl rfl (cj rfl rfl rfl rfl rfl ?_))
 iterate 3 refine bQ rfl rfl rfl rfl rfl ?_
 refine ap ?_
 refine aN (σ':=aB 211 [(2,_),(3,_),(4,_),(12,_)] [((3,0),_),((4,0),_)] [] []) kp ?_
 refine cj rfl rfl rfl rfl rfl (eL rfl rfl rfl rfl rfl (am (bA rfl rfl rfl (cC rfl rfl rfl (ai (aA _ aa rfl (by exact (rfl:_=some [_,_]))) ?_)))))
 refine ai (jZ (62,0) _ _ aa rfl ag (by (simp <;> rfl)) ah rfl rfl) ?_
 exact fa rfl (aj (aC (aY (.inr rfl) rfl (.tmp (rfl:_=AV.ref _ _ _)) (Le.out [((0,8),(62,0))] [] (dh rfl rfl) rfl rfl rfl trivial ob))))
theorem co_sync:CoS (uu d v no on) (nd 7 0 [] []) (fun _=> [{ op:= .sync }]):=fun a ha=> by
 refine Spec.ofN Tryz.func91 rfl Tryz.ntmps91 rfl ?_
 refine am (ai (bk (3,0) _ rfl rfl) (ai (bk (4,0) _ rfl rfl) (ai (bG _ (rfl:_=AV.v (.slice _ _ _))) (aj (ap (am (bA rfl rfl rfl (cC rfl rfl rfl (aj (au ?_))))))))))
 refine ap (bQ rfl rfl rfl rfl rfl (cj rfl rfl rfl rfl rfl ?_))
 iterate 3 refine bQ rfl rfl rfl rfl rfl ?_
 refine ap ?_
 refine aN (σ':=aB 211 [(2,_),(3,_),(4,_),(12,_)] [((3,0),_),((4,0),_)] [] []) kp ?_
 refine cj rfl rfl rfl rfl rfl (bQ rfl rfl rfl rfl rfl (eL rfl rfl rfl rfl rfl (am (ai (aA _ aa rfl (by exact (rfl:_=some [_,_]))) ?_))))
 refine ai (jZ (66,0) _ _ aa rfl ag (by (simp <;> rfl)) ah rfl rfl) ?_
 exact fa rfl (aj (aC (aY (.inr rfl) rfl (.tmp (rfl:_=AV.ref _ _ _)) (Le.out [((0,8),(66,0))] [] (dh rfl rfl) rfl rfl rfl trivial ob))))
theorem co_stop:CoS (uu d v no on) (nd 10 0 [] []) (fun _=> [{ op:= .stop }]):=fun a ha=> by
 refine Spec.ofN Tryz.func91 rfl Tryz.ntmps91 rfl ?_
 refine am (ai (bk (3,0) _ rfl rfl) (ai (bk (4,0) _ rfl rfl) (ai (bG _ (rfl:_=AV.v (.slice _ _ _))) (aj (ap (am (bA rfl rfl rfl (cC rfl rfl rfl (aj (au ?_))))))))))
 refine ap (bQ rfl rfl rfl rfl rfl (cj rfl rfl rfl rfl rfl ?_))
 iterate 3 refine bQ rfl rfl rfl rfl rfl ?_
 refine ap ?_
 refine aN (σ':=aB 211 [(2,_),(3,_),(4,_),(12,_)] [((3,0),_),((4,0),_)] [] []) kp ?_
 refine cj rfl rfl rfl rfl rfl ?_
 iterate 2 refine bQ rfl rfl rfl rfl rfl ?_
 refine eL rfl rfl rfl rfl rfl (am (ai (aA _ aa rfl (by exact (rfl:_=some [_,_]))) ?_))
 refine ai (jZ (70,0) _ _ aa rfl ag (by (simp <;> rfl)) ah rfl rfl) ?_
 exact fa rfl (aj (aC (aY (.inr rfl) rfl (.tmp (rfl:_=AV.ref _ _ _)) (Le.out [((0,8),(70,0))] [] (dh rfl rfl) rfl rfl rfl trivial ob))))
theorem Dy {c y z:Nd} {cc cy cz:Cd} (hc:CoS (uu d v no on) c cc) (hy:CoS (uu d v no on) y cy) (hz:CoS (uu d v no on) z cz):CoS (uu d v no on) (nd 2 0 [] [c,y,z]) (Ch cc cy cz):=fun a ha=> by
 have hb:=jO (on:=on) c cc cy cz hc 1 1 (kB [y]) (kB [z]) 0 (fun a ha=> ng y cy hy 0 a ha) (fun a ha=> ng z cz hz 0 a ha) a ha
 refine Spec.ofN Tryz.func91 rfl Tryz.ntmps91 rfl ?_
 refine am (ai (bk (3,0) _ rfl rfl) (ai (bk (4,0) _ rfl rfl) (ai (bG _ (rfl:_=AV.v (.slice _ _ _))) (aj (ap (am (bA rfl rfl rfl (cC rfl rfl rfl (aj (au ?_))))))))))
 refine ap (bQ rfl rfl rfl rfl rfl (cj rfl rfl rfl rfl rfl ?_))
 iterate 2 refine bQ rfl rfl rfl rfl rfl ?_
 refine eL rfl rfl rfl rfl rfl (ap ?_)
 refine aN (σ':=aB 211 [(2,_),(3,_),(4,_)] [((3,0),_),((4,0),_)] [] []) kp ?_
 refine bF 12 [38,39,40,41,42,43,44,45,46,47,48,49] [] ae ae rfl (aM rfl) (rfl:_=[_,_,_,_,_,_,_,_,_,_,_,_]) (rfl:_=[_,_]) ?_
 refine aq (_,[]) (fun τ=> aR _ aa rfl rfl rfl rfl) ?_
 refine eJ rfl ?_
 refine aq (_,[]) (fun τ=> aH _ aa rfl rfl rfl) ?_
 refine eK rfl ?_
 refine aq (_,[]) (fun τ=> aK _ aa rfl rfl (rfl:_=some (AV.sl _ _))) ?_
 refine eH rfl ?_
 refine aq (_,[]) (fun τ=> bf _ _ aa rfl rfl 0 rfl (show 0 < 3 by omega) (Nat.le_of_ble_eq_true rfl) rfl) ?_
 refine eS rfl ?_
 refine aq (_,[]) (fun τ=> cd _ aa rfl (by exact cH [c,y,z] 0 (by simp)) rfl) ?_
 refine eZ rfl ?_
 refine aq (_,[]) (fun τ=> aH _ aa rfl rfl rfl) ?_
 refine fH rfl ?_
 refine aq (_,[]) (fun τ=> aK _ aa rfl rfl (rfl:_=some (AV.sl _ _))) ?_
 refine gF rfl ?_
 refine aq (_,[]) (fun τ=> lc _ _ _ aa rfl 1 2 (.lit rfl rfl) (.lit rfl rfl) ab (show 2≤3 by omega) (show _=kB [y] from rfl) rfl) ?_
 refine kv rfl ?_
 refine aq (_,[]) (fun τ=> aH _ aa rfl rfl rfl) ?_
 refine ko rfl ?_
 refine aq (_,[]) (fun τ=> aK _ aa rfl rfl (rfl:_=some (AV.sl _ _))) ?_
 refine gj rfl ?_
 refine aq (_,[]) (fun τ=> lc _ _ _ aa rfl 2 3 (.lit rfl rfl) (.lit rfl rfl) ab (show 3≤3 by omega) (show _=kB [z] from rfl) rfl) ?_
 refine gH rfl ?_
 refine aq (_,[]) (fun τ=> aE _ (rfl:_=AV.v (.int _ _))) ?_
 refine lf rfl (bh ⟨rfl,?_⟩)
 refine ai (dm aa [((0,8),(50,0))] ar (hb.toI) trivial tr ae) ?_
 exact fa rfl (aj (aC (aY (.inr rfl) rfl (.tmp (rfl:_=AV.ref _ _ _)) (Le.out [((0,8),(50,0))] [] (dh rfl rfl) rfl rfl rfl trivial ob))))
theorem Er {c y:Nd} {cc cy:Cd} (hc:CoS (uu d v no on) c cc) (hy:CoS (uu d v no on) y cy):CoS (uu d v no on) (nd 18 0 [38,38] [c,y]) (Ch cc cy (fun _=> [{ op:= .push,n:=0 }])):=fun a ha=> by
 have hb:=jO (on:=on) c cc cy (fun _=> [{ op:= .push,n:=0 }]) hc 1 0 (kB [y]) [] 0 (fun a ha=> ng y cy hy 0 a ha) (fun a _=> sk 0 a) a ha
 refine Spec.ofN Tryz.func91 rfl Tryz.ntmps91 rfl ?_
 refine am (ai (bk (3,0) _ rfl rfl) (ai (bk (4,0) _ rfl rfl) (ai (bG _ (rfl:_=AV.v (.slice _ _ _))) (aj (ap (am (bA rfl rfl rfl (cC rfl rfl rfl (aj (au ?_))))))))))
 refine ap (bQ rfl rfl rfl rfl rfl (cj rfl rfl rfl rfl rfl ?_))
 iterate 3 refine bQ rfl rfl rfl rfl rfl ?_
 refine ap ?_
 refine aN (σ':=aB 211 [(2,_),(3,_),(4,_),(12,_)] [((3,0),_),((4,0),_)] [] []) kp ?_
 refine cj rfl rfl rfl rfl rfl ?_
 iterate 4 refine bQ rfl rfl rfl rfl rfl ?_
 refine bZ (ap (am (bA rfl rfl rfl (cC rfl rfl rfl (iY rfl rfl rfl (cJ rfl (ax rfl rfl (aH _ aa rfl rfl rfl) (ax rfl rfl (aK _ aa rfl rfl (rfl:_=some (AV.v (.string _)))) (ax rfl rfl (aU (r:=true) _ _ Tryz.underlying9 rfl rfl rfl) (ai (aD _ _ _ rfl (rfl:_=AV.v (.bool _))) ?_))))))))))
 refine aj (bD rfl rfl (ap ?_))
 refine aN (σ':=aB 211 [(2,_),(3,_),(4,_)] [((3,0),_),((4,0),_)] [] []) kp ?_
 refine bF 9 [119,120,121,122,123,124,125,126,127] [] ae ae rfl (aM rfl) (rfl:_=[_,_,_,_,_,_,_,_,_]) (rfl:_=[_,_]) ?_
 refine aq (_,[]) (fun τ=> aR _ aa rfl rfl rfl rfl) ?_
 refine eJ rfl ?_
 refine aq (_,[]) (fun τ=> aH _ aa rfl rfl rfl) ?_
 refine eK rfl ?_
 refine aq (_,[]) (fun τ=> aK _ aa rfl rfl (rfl:_=some (AV.sl _ _))) ?_
 refine eH rfl ?_
 refine aq (_,[]) (fun τ=> bf _ _ aa rfl rfl 0 rfl (show 0 < 2 by omega) (Nat.le_of_ble_eq_true rfl) rfl) ?_
 refine eS rfl ?_
 refine aq (_,[]) (fun τ=> cd _ aa rfl (by exact cH [c,y] 0 (by simp)) rfl) ?_
 refine eZ rfl ?_
 refine aq (_,[]) (fun τ=> aH _ aa rfl rfl rfl) ?_
 refine fH rfl ?_
 refine aq (_,[]) (fun τ=> aK _ aa rfl rfl (rfl:_=some (AV.sl _ _))) ?_
 refine gF rfl ?_
 refine aq (_,[]) (fun τ=> lc _ _ _ aa rfl 1 2 (.lit rfl rfl) (.lit rfl rfl) ab (show 2≤2 by omega) (show _=kB [y] from rfl) rfl) ?_
 refine kv rfl ?_
 refine aq (_,[]) (fun τ=> aE _ (rfl:_=AV.v (.int _ _))) ?_
 refine ko rfl (bh ⟨rfl,?_⟩)
 refine ai (dm aa [((0,8),(50,0))] ar (hb.toI) trivial tr ae) ?_
 exact fa rfl (aj (aC (aY (.inr rfl) rfl (.tmp (rfl:_=AV.ref _ _ _)) (Le.out [((0,8),(50,0))] [] (dh rfl rfl) rfl rfl rfl trivial ob))))
theorem FG {c y:Nd} {cc cy:Cd} (hc:CoS (uu d v no on) c cc) (hy:CoS (uu d v no on) y cy):CoS (uu d v no on) (nd 18 0 [124,124] [c,y]) (Ch cc (fun _=> [{ op:= .push,n:=1 }]) cy):=fun a ha=> by
 have hb:=jO (on:=on) c cc (fun _=> [{ op:= .push,n:=1 }]) cy hc 0 1 [] (kB [y]) 1 (fun a _=> sk 1 a) (fun a ha=> ng y cy hy 1 a ha) a ha
 refine Spec.ofN Tryz.func91 rfl Tryz.ntmps91 rfl ?_
 refine am (ai (bk (3,0) _ rfl rfl) (ai (bk (4,0) _ rfl rfl) (ai (bG _ (rfl:_=AV.v (.slice _ _ _))) (aj (ap (am (bA rfl rfl rfl (cC rfl rfl rfl (aj (au ?_))))))))))
 refine ap (bQ rfl rfl rfl rfl rfl (cj rfl rfl rfl rfl rfl ?_))
 iterate 3 refine bQ rfl rfl rfl rfl rfl ?_
 refine ap ?_
 refine aN (σ':=aB 211 [(2,_),(3,_),(4,_),(12,_)] [((3,0),_),((4,0),_)] [] []) kp ?_
 refine cj rfl rfl rfl rfl rfl ?_
 iterate 4 refine bQ rfl rfl rfl rfl rfl ?_
 refine bZ (ap (am (bA rfl rfl rfl (cC rfl rfl rfl (iY rfl rfl rfl (cJ rfl (ax rfl rfl (aH _ aa rfl rfl rfl) (ax rfl rfl (aK _ aa rfl rfl (rfl:_=some (AV.v (.string _)))) (ax rfl rfl (aU (r:=false) _ _ Tryz.underlying9 rfl rfl rfl) (ai (aD _ _ _ rfl (rfl:_=AV.v (.bool _))) ?_))))))))))
 refine aj (aP rfl rfl (aJ (ap (ap ?_))))
 refine aN (σ':=aB 211 [(2,_),(3,_),(4,_)] [((3,0),_),((4,0),_)] [] []) kp ?_
 refine an (bA rfl rfl rfl (cC rfl rfl rfl (iY rfl rfl rfl (cJ rfl (ax rfl rfl (aH _ aa rfl rfl rfl) (ax rfl rfl (aK _ aa rfl rfl (rfl:_=some (AV.v (.string _)))) (ax rfl rfl (aU (r:=true) _ _ Tryz.underlying9 rfl rfl rfl) (ai (aD _ _ _ rfl (rfl:_=AV.v (.bool _))) (aj (bD rfl rfl ?_))))))))))
 refine ap ?_
 refine aN (σ':=aB 211 [(2,_),(3,_),(4,_)] [((3,0),_),((4,0),_)] [] []) kp ?_
 refine bF 9 [137,138,139,140,141,142,143,144,145] [] ae ae rfl (aM rfl) (rfl:_=[_,_,_,_,_,_,_,_,_]) (rfl:_=[_,_]) ?_
 refine aq (_,[]) (fun τ=> aR _ aa rfl rfl rfl rfl) ?_
 refine eJ rfl ?_
 refine aq (_,[]) (fun τ=> aH _ aa rfl rfl rfl) ?_
 refine eK rfl ?_
 refine aq (_,[]) (fun τ=> aK _ aa rfl rfl (rfl:_=some (AV.sl _ _))) ?_
 refine eH rfl ?_
 refine aq (_,[]) (fun τ=> bf _ _ aa rfl rfl 0 rfl (show 0 < 2 by omega) (Nat.le_of_ble_eq_true rfl) rfl) ?_
 refine eS rfl ?_
 refine aq (_,[]) (fun τ=> cd _ aa rfl (by exact cH [c,y] 0 (by simp)) rfl) ?_
 refine eZ rfl ?_
 refine aq (_,[]) (fun τ=> aH _ aa rfl rfl rfl) ?_
 refine fH rfl ?_
 refine aq (_,[]) (fun τ=> aK _ aa rfl rfl (rfl:_=some (AV.sl _ _))) ?_
 refine gF rfl ?_
 refine aq (_,[]) (fun τ=> lc _ _ _ aa rfl 1 2 (.lit rfl rfl) (.lit rfl rfl) ab (show 2≤2 by omega) (show _=kB [y] from rfl) rfl) ?_
 refine kv rfl ?_
 refine aq (_,[]) (fun τ=> aE _ (rfl:_=AV.v (.int _ _))) ?_
 refine ko rfl (bh ⟨rfl,?_⟩)
 refine ai (dm aa [((0,8),(50,0))] ar (hb.toI) trivial tr ae) ?_
 exact fa rfl (aj (aC (aY (.inr rfl) rfl (.tmp (rfl:_=AV.ref _ _ _)) (Le.out [((0,8),(50,0))] [] (dh rfl rfl) rfl rfl rfl trivial ob))))
theorem Ce {L:List Nd} {cs:List Cd} (hc:cs.length=L.length) (hk:kT (uu d v no on) L cs):CoS (uu d v no on) (nd 16 0 [] L) (fun a=> cM cs a++[{ op:= .draw }]):=fun a ha=> by
 have hl2:a+(cM cs a).length≤1000000:=by simp only [List.length_append] at ha;omega
 have hq:=dv (d:=d) (v:=v) (no:=no) (on:=on) L cs hc hk a hl2
 refine Spec.ofN Tryz.func91 rfl Tryz.ntmps91 rfl ?_
 refine am (ai (bk (3,0) _ rfl rfl) (ai (bk (4,0) _ rfl rfl) (ai (bG _ (rfl:_=AV.v (.slice _ _ _))) (aj (ap (am (bA rfl rfl rfl (cC rfl rfl rfl (aj (au ?_))))))))))
 refine ap (bQ rfl rfl rfl rfl rfl (cj rfl rfl rfl rfl rfl ?_))
 iterate 3 refine bQ rfl rfl rfl rfl rfl ?_
 refine ap ?_
 refine aN (σ':=aB 211 [(2,_),(3,_),(4,_),(12,_)] [((3,0),_),((4,0),_)] [] []) kp ?_
 refine cj rfl rfl rfl rfl rfl ?_
 iterate 4 refine bQ rfl rfl rfl rfl rfl ?_
 refine bZ (ap (am (bA rfl rfl rfl (cC rfl rfl rfl (eG rfl rfl rfl (cJ rfl (aW rfl rfl ah ?_)))))))
 refine aW rfl rfl ah ?_
 refine aW rfl rfl ah ?_
 refine ai (aD _ _ _ rfl (rfl:_=AV.v (.bool _))) (aj (aP rfl rfl (aJ (ap (ap ?_)))))
 refine aN (σ':=aB 211 [(2,_),(3,_),(4,_)] [((3,0),_),((4,0),_)] [] []) kp ?_
 refine an (bA rfl rfl rfl (cC rfl rfl rfl (eG rfl rfl rfl (cJ rfl (aW rfl rfl ah ?_)))))
 refine aW rfl rfl ah ?_
 refine aW rfl rfl ah ?_
 refine ai (aD _ _ _ rfl (rfl:_=AV.v (.bool _))) (aj (aP rfl rfl (aJ (am (ai (aR _ aa rfl rfl rfl rfl) (bA rfl rfl rfl (fh rfl rfl rfl (aQ rfl (ai (dm aa [((0,8),(50,0))] ar (hq.toI) trivial tr ae) ?_)))))))))
 refine fa rfl (aj (ap (am (bA rfl rfl rfl (cC rfl rfl rfl (aj (au (ap ?_))))))))
 refine aN (σ':=aB 211 [(3,_),(4,_),(10,_),(153,_)] [((3,0),_),((4,0),_),((50,0),_)] [] []) kp ?_
 refine cj rfl rfl rfl rfl rfl (eL rfl rfl rfl rfl rfl (am (gG rfl (ai (aA _ aa rfl (by exact (rfl:_=some [_,_]))) ?_))))
 refine ai (aV _ _ aa rfl ag (by (simp <;> rfl)) ah rfl) ?_
 refine ai (dl (166,0) _ _ aa rfl rfl (bM _).symm (.sl rfl) ab rfl (ey _ { op:= .draw }) (show (cM cs a).length+1=(cM cs a++[({ op:= .draw }:eu)]).length by simp)) ?_
 exact fa rfl (aj (aC (aY (.inr rfl) rfl (.tmp (rfl:_=AV.ref _ _ _)) (Le.out [((0,8),(166,0))] [] (dh rfl rfl) rfl rfl rfl trivial ob))))
theorem CV {L:List Nd} {cs:List Cd} (hc:cs.length=L.length) (hk:kT (uu d v no on) L cs):CoS (uu d v no on) (nd 17 0 [45] L) (fun a=> cM cs a++[{ op:= .neg }]):=fun a ha=> by
 have hl2:a+(cM cs a).length≤1000000:=by simp only [List.length_append] at ha;omega
 have hq:=dv (d:=d) (v:=v) (no:=no) (on:=on) L cs hc hk a hl2
 refine Spec.ofN Tryz.func91 rfl Tryz.ntmps91 rfl ?_
 refine am (ai (bk (3,0) _ rfl rfl) (ai (bk (4,0) _ rfl rfl) (ai (bG _ (rfl:_=AV.v (.slice _ _ _))) (aj (ap (am (bA rfl rfl rfl (cC rfl rfl rfl (aj (au ?_))))))))))
 refine ap (bQ rfl rfl rfl rfl rfl (cj rfl rfl rfl rfl rfl ?_))
 iterate 3 refine bQ rfl rfl rfl rfl rfl ?_
 refine ap ?_
 refine aN (σ':=aB 211 [(2,_),(3,_),(4,_),(12,_)] [((3,0),_),((4,0),_)] [] []) kp ?_
 refine cj rfl rfl rfl rfl rfl ?_
 iterate 4 refine bQ rfl rfl rfl rfl rfl ?_
 refine bZ (ap (am (bA rfl rfl rfl (cC rfl rfl rfl (eG rfl rfl rfl (cJ rfl (aW rfl rfl ah ?_)))))))
 refine aW rfl rfl ah ?_
 refine aW rfl rfl ah ?_
 refine ai (aD _ _ _ rfl (rfl:_=AV.v (.bool _))) (aj (aP rfl rfl (aJ (ap (ap ?_)))))
 refine aN (σ':=aB 211 [(2,_),(3,_),(4,_)] [((3,0),_),((4,0),_)] [] []) kp ?_
 refine an (bA rfl rfl rfl (cC rfl rfl rfl (eG rfl rfl rfl (cJ rfl (aW rfl rfl ah ?_)))))
 refine aW rfl rfl ah ?_
 refine aW rfl rfl ah ?_
 refine ai (aD _ _ _ rfl (rfl:_=AV.v (.bool _))) (aj (aP rfl rfl (aJ (am (ai (aR _ aa rfl rfl rfl rfl) (bA rfl rfl rfl (fh rfl rfl rfl (aQ rfl (ai (dm aa [((0,8),(50,0))] ar (hq.toI) trivial tr ae) ?_)))))))))
 refine fa rfl (aj (ap (am (bA rfl rfl rfl (cC rfl rfl rfl (aj (au (ap ?_))))))))
 refine aN (σ':=aB 211 [(3,_),(4,_),(10,_),(153,_)] [((3,0),_),((4,0),_),((50,0),_)] [] []) kp ?_
 refine cj rfl rfl rfl rfl rfl (bQ rfl rfl rfl rfl rfl (eL rfl rfl rfl rfl rfl (ap (am (bA rfl rfl rfl (ai (aK _ aa rfl rfl (rfl:_=some (AV.v (.string _)))) (ai (aU (r:=true) _ _ Tryz.underlying9 rfl rfl rfl) (aj (bD rfl rfl (am ?_))))))))))
 refine gG rfl (ai (aA _ aa rfl (by exact (rfl:_=some [_,_]))) ?_)
 refine ai (aV _ _ aa rfl ag (by (simp <;> rfl)) ah rfl) ?_
 refine ai (dl (175,0) _ _ aa rfl rfl (bM _).symm (.sl rfl) ab rfl (ey _ { op:= .neg }) (show (cM cs a).length+1=(cM cs a++[({ op:= .neg }:eu)]).length by simp)) ?_
 exact fa rfl (aj (aC (aY (.inr rfl) rfl (.tmp (rfl:_=AV.ref _ _ _)) (Le.out [((0,8),(175,0))] [] (dh rfl rfl) rfl rfl rfl trivial ob))))
theorem CC {L:List Nd} {cs:List Cd} (hc:cs.length=L.length) (hk:kT (uu d v no on) L cs):CoS (uu d v no on) (nd 17 0 [33] L) (fun a=> cM cs a++[{ op:= .not }]):=fun a ha=> by
 have hl2:a+(cM cs a).length≤1000000:=by simp only [List.length_append] at ha;omega
 have hq:=dv (d:=d) (v:=v) (no:=no) (on:=on) L cs hc hk a hl2
 refine Spec.ofN Tryz.func91 rfl Tryz.ntmps91 rfl ?_
 refine am (ai (bk (3,0) _ rfl rfl) (ai (bk (4,0) _ rfl rfl) (ai (bG _ (rfl:_=AV.v (.slice _ _ _))) (aj (ap (am (bA rfl rfl rfl (cC rfl rfl rfl (aj (au ?_))))))))))
 refine ap (bQ rfl rfl rfl rfl rfl (cj rfl rfl rfl rfl rfl ?_))
 iterate 3 refine bQ rfl rfl rfl rfl rfl ?_
 refine ap ?_
 refine aN (σ':=aB 211 [(2,_),(3,_),(4,_),(12,_)] [((3,0),_),((4,0),_)] [] []) kp ?_
 refine cj rfl rfl rfl rfl rfl ?_
 iterate 4 refine bQ rfl rfl rfl rfl rfl ?_
 refine bZ (ap (am (bA rfl rfl rfl (cC rfl rfl rfl (eG rfl rfl rfl (cJ rfl (aW rfl rfl ah ?_)))))))
 refine aW rfl rfl ah ?_
 refine aW rfl rfl ah ?_
 refine ai (aD _ _ _ rfl (rfl:_=AV.v (.bool _))) (aj (aP rfl rfl (aJ (ap (ap ?_)))))
 refine aN (σ':=aB 211 [(2,_),(3,_),(4,_)] [((3,0),_),((4,0),_)] [] []) kp ?_
 refine an (bA rfl rfl rfl (cC rfl rfl rfl (eG rfl rfl rfl (cJ rfl (aW rfl rfl ah ?_)))))
 refine aW rfl rfl ah ?_
 refine aW rfl rfl ah ?_
 refine ai (aD _ _ _ rfl (rfl:_=AV.v (.bool _))) (aj (aP rfl rfl (aJ (am (ai (aR _ aa rfl rfl rfl rfl) (bA rfl rfl rfl (fh rfl rfl rfl (aQ rfl (ai (dm aa [((0,8),(50,0))] ar (hq.toI) trivial tr ae) ?_)))))))))
 refine fa rfl (aj (ap (am (bA rfl rfl rfl (cC rfl rfl rfl (aj (au (ap ?_))))))))
 refine aN (σ':=aB 211 [(3,_),(4,_),(10,_),(153,_)] [((3,0),_),((4,0),_),((50,0),_)] [] []) kp ?_
 refine cj rfl rfl rfl rfl rfl (bQ rfl rfl rfl rfl rfl (eL rfl rfl rfl rfl rfl (ap (am (bA rfl rfl rfl (ai (aK _ aa rfl rfl (rfl:_=some (AV.v (.string _)))) (ai (aU (r:=false) _ _ Tryz.underlying9 rfl rfl rfl) (aj (aP rfl rfl (aJ ?_))))))))))
 refine am (gG rfl (ai (aA _ aa rfl (by exact (rfl:_=some [_,_]))) ?_))
 refine ai (aV _ _ aa rfl ag (by (simp <;> rfl)) ah rfl) ?_
 refine ai (dl (179,0) _ _ aa rfl rfl (bM _).symm (.sl rfl) ab rfl (ey _ { op:= .not }) (show (cM cs a).length+1=(cM cs a++[({ op:= .not }:eu)]).length by simp)) ?_
 exact fa rfl (aj (aC (aY (.inr rfl) rfl (.tmp (rfl:_=AV.ref _ _ _)) (Le.out [((0,8),(179,0))] [] (dh rfl rfl) rfl rfl rfl trivial ob))))
theorem wq {L:List Nd} {cs:List Cd} (hc:cs.length=L.length) (hk:kT (uu d v no on) L cs) (hn:(d++v).Nodup) (hl:(d++v).length≤1000) (i:Nat) (hi:i < (d++v).length):CoS (uu d v no on) (nd 1 0 ((d++v).getD i []) L) (fun a=> cM cs a++[{ op:= .setVar,n:=(i:Int) }]):=fun a ha=> by
 have hl2:a+(cM cs a).length≤1000000:=by simp only [List.length_append] at ha;omega
 have hq:=dv (d:=d) (v:=v) (no:=no) (on:=on) L cs hc hk a hl2
 refine Spec.ofN Tryz.func91 rfl Tryz.ntmps91 rfl ?_
 refine am (ai (bk (3,0) _ rfl rfl) (ai (bk (4,0) _ rfl rfl) (ai (bG _ (rfl:_=AV.v (.slice _ _ _))) (aj (ap (am (bA rfl rfl rfl (cC rfl rfl rfl (aj (au ?_))))))))))
 refine ap (bQ rfl rfl rfl rfl rfl (cj rfl rfl rfl rfl rfl ?_))
 iterate 3 refine bQ rfl rfl rfl rfl rfl ?_
 refine ap ?_
 refine aN (σ':=aB 211 [(2,_),(3,_),(4,_),(12,_)] [((3,0),_),((4,0),_)] [] []) kp ?_
 refine cj rfl rfl rfl rfl rfl ?_
 iterate 4 refine bQ rfl rfl rfl rfl rfl ?_
 refine bZ (ap (am (bA rfl rfl rfl (cC rfl rfl rfl (eG rfl rfl rfl (cJ rfl (aW rfl rfl ah ?_)))))))
 refine aW rfl rfl ah ?_
 refine aW rfl rfl ah ?_
 refine ai (aD _ _ _ rfl (rfl:_=AV.v (.bool _))) (aj (aP rfl rfl (aJ (ap (ap ?_)))))
 refine aN (σ':=aB 211 [(2,_),(3,_),(4,_)] [((3,0),_),((4,0),_)] [] []) kp ?_
 refine an (bA rfl rfl rfl (cC rfl rfl rfl (eG rfl rfl rfl (cJ rfl (aW rfl rfl ah ?_)))))
 refine aW rfl rfl ah ?_
 refine aW rfl rfl ah ?_
 refine ai (aD _ _ _ rfl (rfl:_=AV.v (.bool _))) (aj (aP rfl rfl (aJ (am (ai (aR _ aa rfl rfl rfl rfl) (bA rfl rfl rfl (fh rfl rfl rfl (aQ rfl (ai (dm aa [((0,8),(50,0))] ar (hq.toI) trivial tr ae) ?_)))))))))
 refine fa rfl (aj (ap (am (bA rfl rfl rfl (cC rfl rfl rfl (aj (au (ap ?_))))))))
 refine aN (σ':=aB 211 [(3,_),(4,_),(10,_),(153,_)] [((3,0),_),((4,0),_),((50,0),_)] [] []) kp ?_
 refine cj rfl rfl rfl rfl rfl ?_
 iterate 2 refine bQ rfl rfl rfl rfl rfl ?_
 refine eL rfl rfl rfl rfl rfl (am (gG rfl (ai (aR _ aa rfl rfl rfl rfl) (bA rfl rfl rfl (ai (aK _ aa rfl rfl (rfl:_=some (AV.v (.string _)))) (ai (aL aa al (kV d v on no hn hl i hi) rfl rfl) ?_))))))
 refine ai (aA _ aa rfl (by exact (rfl:_=some [_,_]))) ?_
 refine ai (aV _ _ aa rfl ag (by (simp <;> rfl)) ah rfl) ?_
 refine ai (dl (189,0) _ _ aa rfl rfl (bM _).symm (.sl rfl) ab rfl (ey _ { op:= .setVar,n:=(i:Int) }) (show (cM cs a).length+1=(cM cs a++[({ op:= .setVar,n:=(i:Int) }:eu)]).length by simp)) ?_
 exact fa rfl (aj (aC (aY (.inr rfl) rfl (.tmp (rfl:_=AV.ref _ _ _)) (Le.out [((0,8),(189,0))] [] (dh rfl rfl) rfl rfl rfl trivial ob))))
theorem zE {L:List Nd} {cs:List Cd} (hc:cs.length=L.length) (hk:kT (uu d v no on) L cs) (n:Nat):CoS (uu d v no on) (nd 4 n [] L) (fun a=> cM cs a++[{ op:= .send,n:=(n:Int) }]):=fun a ha=> by
 have hl2:a+(cM cs a).length≤1000000:=by simp only [List.length_append] at ha;omega
 have hq:=dv (d:=d) (v:=v) (no:=no) (on:=on) L cs hc hk a hl2
 refine Spec.ofN Tryz.func91 rfl Tryz.ntmps91 rfl ?_
 refine am (ai (bk (3,0) _ rfl rfl) (ai (bk (4,0) _ rfl rfl) (ai (bG _ (rfl:_=AV.v (.slice _ _ _))) (aj (ap (am (bA rfl rfl rfl (cC rfl rfl rfl (aj (au ?_))))))))))
 refine ap (bQ rfl rfl rfl rfl rfl (cj rfl rfl rfl rfl rfl ?_))
 iterate 3 refine bQ rfl rfl rfl rfl rfl ?_
 refine ap ?_
 refine aN (σ':=aB 211 [(2,_),(3,_),(4,_),(12,_)] [((3,0),_),((4,0),_)] [] []) kp ?_
 refine cj rfl rfl rfl rfl rfl ?_
 iterate 4 refine bQ rfl rfl rfl rfl rfl ?_
 refine bZ (ap (am (bA rfl rfl rfl (cC rfl rfl rfl (eG rfl rfl rfl (cJ rfl (aW rfl rfl ah ?_)))))))
 refine aW rfl rfl ah ?_
 refine aW rfl rfl ah ?_
 refine ai (aD _ _ _ rfl (rfl:_=AV.v (.bool _))) (aj (aP rfl rfl (aJ (ap (ap ?_)))))
 refine aN (σ':=aB 211 [(2,_),(3,_),(4,_)] [((3,0),_),((4,0),_)] [] []) kp ?_
 refine an (bA rfl rfl rfl (cC rfl rfl rfl (eG rfl rfl rfl (cJ rfl (aW rfl rfl ah ?_)))))
 refine aW rfl rfl ah ?_
 refine aW rfl rfl ah ?_
 refine ai (aD _ _ _ rfl (rfl:_=AV.v (.bool _))) (aj (aP rfl rfl (aJ (am (ai (aR _ aa rfl rfl rfl rfl) (bA rfl rfl rfl (fh rfl rfl rfl (aQ rfl (ai (dm aa [((0,8),(50,0))] ar (hq.toI) trivial tr ae) ?_)))))))))
 refine fa rfl (aj (ap (am (bA rfl rfl rfl (cC rfl rfl rfl (aj (au (ap ?_))))))))
 refine aN (σ':=aB 211 [(3,_),(4,_),(10,_),(153,_)] [((3,0),_),((4,0),_),((50,0),_)] [] []) kp ?_
 refine cj rfl rfl rfl rfl rfl ?_
 iterate 3 refine bQ rfl rfl rfl rfl rfl ?_
 refine eL rfl rfl rfl rfl rfl (am (gG rfl (bA rfl rfl rfl (cC rfl rfl rfl (ai (aA _ aa rfl (by exact (rfl:_=some [_,_]))) ?_)))))
 refine ai (aV _ _ aa rfl ag (by (simp <;> rfl)) ah rfl) ?_
 refine ai (dl (197,0) _ _ aa rfl rfl (bM _).symm (.sl rfl) ab rfl (ey _ { op:= .send,n:=(n:Int) }) (show (cM cs a).length+1=(cM cs a++[({ op:= .send,n:=(n:Int) }:eu)]).length by simp)) ?_
 exact fa rfl (aj (aC (aY (.inr rfl) rfl (.tmp (rfl:_=AV.ref _ _ _)) (Le.out [((0,8),(197,0))] [] (dh rfl rfl) rfl rfl rfl trivial ob))))
theorem yG {L:List Nd} {cs:List Cd} (hc:cs.length=L.length) (hk:kT (uu d v no on) L cs):CoS (uu d v no on) (nd 8 0 [] L) (fun a=> cM cs a++[{ op:= .reply }]):=fun a ha=> by
 have hl2:a+(cM cs a).length≤1000000:=by simp only [List.length_append] at ha;omega
 have hq:=dv (d:=d) (v:=v) (no:=no) (on:=on) L cs hc hk a hl2
 refine Spec.ofN Tryz.func91 rfl Tryz.ntmps91 rfl ?_
 refine am (ai (bk (3,0) _ rfl rfl) (ai (bk (4,0) _ rfl rfl) (ai (bG _ (rfl:_=AV.v (.slice _ _ _))) (aj (ap (am (bA rfl rfl rfl (cC rfl rfl rfl (aj (au ?_))))))))))
 refine ap (bQ rfl rfl rfl rfl rfl (cj rfl rfl rfl rfl rfl ?_))
 iterate 3 refine bQ rfl rfl rfl rfl rfl ?_
 refine ap ?_
 refine aN (σ':=aB 211 [(2,_),(3,_),(4,_),(12,_)] [((3,0),_),((4,0),_)] [] []) kp ?_
 refine cj rfl rfl rfl rfl rfl ?_
 iterate 4 refine bQ rfl rfl rfl rfl rfl ?_
 refine bZ (ap (am (bA rfl rfl rfl (cC rfl rfl rfl (eG rfl rfl rfl (cJ rfl (aW rfl rfl ah ?_)))))))
 refine aW rfl rfl ah ?_
 refine aW rfl rfl ah ?_
 refine ai (aD _ _ _ rfl (rfl:_=AV.v (.bool _))) (aj (aP rfl rfl (aJ (ap (ap ?_)))))
 refine aN (σ':=aB 211 [(2,_),(3,_),(4,_)] [((3,0),_),((4,0),_)] [] []) kp ?_
 refine an (bA rfl rfl rfl (cC rfl rfl rfl (eG rfl rfl rfl (cJ rfl (aW rfl rfl ah ?_)))))
 refine aW rfl rfl ah ?_
 refine aW rfl rfl ah ?_
 refine ai (aD _ _ _ rfl (rfl:_=AV.v (.bool _))) (aj (aP rfl rfl (aJ (am (ai (aR _ aa rfl rfl rfl rfl) (bA rfl rfl rfl (fh rfl rfl rfl (aQ rfl (ai (dm aa [((0,8),(50,0))] ar (hq.toI) trivial tr ae) ?_)))))))))
 refine fa rfl (aj (ap (am (bA rfl rfl rfl (cC rfl rfl rfl (aj (au (ap ?_))))))))
 refine aN (σ':=aB 211 [(3,_),(4,_),(10,_),(153,_)] [((3,0),_),((4,0),_),((50,0),_)] [] []) kp ?_
 refine cj rfl rfl rfl rfl rfl ?_
 iterate 4 refine bQ rfl rfl rfl rfl rfl ?_
 refine eL rfl rfl rfl rfl rfl (am (gG rfl (ai (aA _ aa rfl (by exact (rfl:_=some [_,_]))) ?_)))
 refine ai (aV _ _ aa rfl ag (by (simp <;> rfl)) ah rfl) ?_
 refine ai (dl (203,0) _ _ aa rfl rfl (bM _).symm (.sl rfl) ab rfl (ey _ { op:= .reply }) (show (cM cs a).length+1=(cM cs a++[({ op:= .reply }:eu)]).length by simp)) ?_
 exact fa rfl (aj (aC (aY (.inr rfl) rfl (.tmp (rfl:_=AV.ref _ _ _)) (Le.out [((0,8),(203,0))] [] (dh rfl rfl) rfl rfl rfl trivial ob))))
theorem AN {L:List Nd} {cs:List Cd} (hc:cs.length=L.length) (hk:kT (uu d v no on) L cs):CoS (uu d v no on) (nd 9 0 [] L) (fun a=> cM cs a++[{ op:= .fail }]):=fun a ha=> by
 have hl2:a+(cM cs a).length≤1000000:=by simp only [List.length_append] at ha;omega
 have hq:=dv (d:=d) (v:=v) (no:=no) (on:=on) L cs hc hk a hl2
 refine Spec.ofN Tryz.func91 rfl Tryz.ntmps91 rfl ?_
 refine am (ai (bk (3,0) _ rfl rfl) (ai (bk (4,0) _ rfl rfl) (ai (bG _ (rfl:_=AV.v (.slice _ _ _))) (aj (ap (am (bA rfl rfl rfl (cC rfl rfl rfl (aj (au ?_))))))))))
 refine ap (bQ rfl rfl rfl rfl rfl (cj rfl rfl rfl rfl rfl ?_))
 iterate 3 refine bQ rfl rfl rfl rfl rfl ?_
 refine ap ?_
 refine aN (σ':=aB 211 [(2,_),(3,_),(4,_),(12,_)] [((3,0),_),((4,0),_)] [] []) kp ?_
 refine cj rfl rfl rfl rfl rfl ?_
 iterate 4 refine bQ rfl rfl rfl rfl rfl ?_
 refine bZ (ap (am (bA rfl rfl rfl (cC rfl rfl rfl (eG rfl rfl rfl (cJ rfl (aW rfl rfl ah ?_)))))))
 refine aW rfl rfl ah ?_
 refine aW rfl rfl ah ?_
 refine ai (aD _ _ _ rfl (rfl:_=AV.v (.bool _))) (aj (aP rfl rfl (aJ (ap (ap ?_)))))
 refine aN (σ':=aB 211 [(2,_),(3,_),(4,_)] [((3,0),_),((4,0),_)] [] []) kp ?_
 refine an (bA rfl rfl rfl (cC rfl rfl rfl (eG rfl rfl rfl (cJ rfl (aW rfl rfl ah ?_)))))
 refine aW rfl rfl ah ?_
 refine aW rfl rfl ah ?_
 refine ai (aD _ _ _ rfl (rfl:_=AV.v (.bool _))) (aj (aP rfl rfl (aJ (am (ai (aR _ aa rfl rfl rfl rfl) (bA rfl rfl rfl (fh rfl rfl rfl (aQ rfl (ai (dm aa [((0,8),(50,0))] ar (hq.toI) trivial tr ae) ?_)))))))))
 refine fa rfl (aj (ap (am (bA rfl rfl rfl (cC rfl rfl rfl (aj (au (ap ?_))))))))
 refine aN (σ':=aB 211 [(3,_),(4,_),(10,_),(153,_)] [((3,0),_),((4,0),_),((50,0),_)] [] []) kp ?_
 refine cj rfl rfl rfl rfl rfl ?_
 iterate 5 refine bQ rfl rfl rfl rfl rfl ?_
 refine eL rfl rfl rfl rfl rfl (am (gG rfl (ai (aA _ aa rfl (by exact (rfl:_=some [_,_]))) ?_)))
 refine ai (aV _ _ aa rfl ag (by (simp <;> rfl)) ah rfl) ?_
 refine ai (dl (209,0) _ _ aa rfl rfl (bM _).symm (.sl rfl) ab rfl (ey _ { op:= .fail }) (show (cM cs a).length+1=(cM cs a++[({ op:= .fail }:eu)]).length by simp)) ?_
 exact fa rfl (aj (aC (aY (.inr rfl) rfl (.tmp (rfl:_=AV.ref _ _ _)) (Le.out [((0,8),(209,0))] [] (dh rfl rfl) rfl rfl rfl trivial ob))))
theorem yL {L:List Nd} {cs:List Cd} (hc:cs.length=L.length) (hk:kT (uu d v no on) L cs):CoS (uu d v no on) (nd 11 0 [] L) (fun a=> cM cs a):=fun a ha=> by
 have hl2:a+(cM cs a).length≤1000000:=ha
 have hq:=dv (d:=d) (v:=v) (no:=no) (on:=on) L cs hc hk a hl2
 refine Spec.ofN Tryz.func91 rfl Tryz.ntmps91 rfl ?_
 refine am (ai (bk (3,0) _ rfl rfl) (ai (bk (4,0) _ rfl rfl) (ai (bG _ (rfl:_=AV.v (.slice _ _ _))) (aj (ap (am (bA rfl rfl rfl (cC rfl rfl rfl (aj (au ?_))))))))))
 refine ap (bQ rfl rfl rfl rfl rfl (cj rfl rfl rfl rfl rfl ?_))
 iterate 3 refine bQ rfl rfl rfl rfl rfl ?_
 refine ap ?_
 refine aN (σ':=aB 211 [(2,_),(3,_),(4,_),(12,_)] [((3,0),_),((4,0),_)] [] []) kp ?_
 refine cj rfl rfl rfl rfl rfl ?_
 iterate 4 refine bQ rfl rfl rfl rfl rfl ?_
 refine bZ (ap (am (bA rfl rfl rfl (cC rfl rfl rfl (eG rfl rfl rfl (cJ rfl (aW rfl rfl ah ?_)))))))
 refine aW rfl rfl ah ?_
 refine aW rfl rfl ah ?_
 refine ai (aD _ _ _ rfl (rfl:_=AV.v (.bool _))) (aj (aP rfl rfl (aJ (ap (ap ?_)))))
 refine aN (σ':=aB 211 [(2,_),(3,_),(4,_)] [((3,0),_),((4,0),_)] [] []) kp ?_
 refine an (bA rfl rfl rfl (cC rfl rfl rfl (eG rfl rfl rfl (cJ rfl (aW rfl rfl ah ?_)))))
 refine aW rfl rfl ah ?_
 refine aW rfl rfl ah ?_
 refine ai (aD _ _ _ rfl (rfl:_=AV.v (.bool _))) (aj (aP rfl rfl (aJ (am (ai (aR _ aa rfl rfl rfl rfl) (bA rfl rfl rfl (fh rfl rfl rfl (aQ rfl (ai (dm aa [((0,8),(50,0))] ar (hq.toI) trivial tr ae) ?_)))))))))
 refine fa rfl (aj (ap (am (bA rfl rfl rfl (cC rfl rfl rfl (aj (au (ap ?_))))))))
 refine aN (σ':=aB 211 [(3,_),(4,_),(10,_),(153,_)] [((3,0),_),((4,0),_),((50,0),_)] [] []) kp ?_
 refine cj rfl rfl rfl rfl rfl ?_
 iterate 6 refine bQ rfl rfl rfl rfl rfl ?_
 exact bZ (am (gG rfl (fa rfl (aj (aC (aY (.inr rfl) rfl (.tmp (rfl:_=AV.ref _ _ _)) (Le.out [((0,8),(50,0))] [] (dh rfl rfl) rfl rfl rfl trivial ob)))))))
theorem DO {L:List Nd} {cs:List Cd} (hc:cs.length=L.length) (hk:kT (uu d v no on) L cs) (o:Bo):CoS (uu d v no on) (nd 18 0 o.txt L) (fun a=> cM cs a++o.code):=fun a ha=> by
 have hol:o.code.length≤2:=by cases o <;> decide
 have hs1:o.txt≠[38,38]:=by cases o <;> decide
 have hs2:o.txt≠[124,124]:=by cases o <;> decide
 have hl2:a+(cM cs a).length≤1000000:=by simp only [List.length_append] at ha;omega
 have hq:=dv (d:=d) (v:=v) (no:=no) (on:=on) L cs hc hk a hl2
 refine Spec.ofN Tryz.func91 rfl Tryz.ntmps91 rfl ?_
 refine am (ai (bk (3,0) _ rfl rfl) (ai (bk (4,0) _ rfl rfl) (ai (bG _ (rfl:_=AV.v (.slice _ _ _))) (aj (ap (am (bA rfl rfl rfl (cC rfl rfl rfl (aj (au ?_))))))))))
 refine ap (bQ rfl rfl rfl rfl rfl (cj rfl rfl rfl rfl rfl ?_))
 iterate 3 refine bQ rfl rfl rfl rfl rfl ?_
 refine ap ?_
 refine aN (σ':=aB 211 [(2,_),(3,_),(4,_),(12,_)] [((3,0),_),((4,0),_)] [] []) kp ?_
 refine cj rfl rfl rfl rfl rfl ?_
 iterate 4 refine bQ rfl rfl rfl rfl rfl ?_
 refine bZ (ap (am (bA rfl rfl rfl (cC rfl rfl rfl (iY rfl rfl rfl (cJ rfl (ax rfl rfl (aH _ aa rfl rfl rfl) (ax rfl rfl (aK _ aa rfl rfl (rfl:_=some (AV.v (.string _)))) (ax rfl rfl (aU (r:=false) _ _ Tryz.underlying9 rfl rfl (beq_eq_false_iff_ne.2 hs1)) ?_)))))))))
 refine ai (aD _ _ _ rfl (rfl:_=AV.v (.bool _))) (aj (aP rfl rfl (aJ (ap (ap ?_)))))
 refine aN (σ':=aB 211 [(2,_),(3,_),(4,_)] [((3,0),_),((4,0),_)] [] []) kp ?_
 refine an (bA rfl rfl rfl (cC rfl rfl rfl (iY rfl rfl rfl (cJ rfl (ax rfl rfl (aH _ aa rfl rfl rfl) (ax rfl rfl (aK _ aa rfl rfl (rfl:_=some (AV.v (.string _)))) (ax rfl rfl (aU (r:=false) _ _ Tryz.underlying9 rfl rfl (beq_eq_false_iff_ne.2 hs2)) ?_)))))))
 refine ai (aD _ _ _ rfl (rfl:_=AV.v (.bool _))) (aj (aP rfl rfl (aJ (am (ai (aR _ aa rfl rfl rfl rfl) (bA rfl rfl rfl (fh rfl rfl rfl (aQ rfl (ai (dm aa [((0,8),(50,0))] ar (hq.toI) trivial tr ae) ?_)))))))))
 refine fa rfl (aj (ap (am (bA rfl rfl rfl (cC rfl rfl rfl (aj (au (ap ?_))))))))
 refine aN (σ':=aB 211 [(3,_),(4,_),(10,_),(153,_)] [((3,0),_),((4,0),_),((50,0),_)] [] []) kp ?_
 refine oN rfl rfl rfl rfl rfl (am (gG rfl (bA rfl rfl rfl (ai (aK _ aa rfl rfl (rfl:_=some (AV.v (.string _)))) (ai (aL aa al (wt o) rfl rfl) ?_)))))
 refine ai (dl (160,0) _ _ aa rfl rfl (bM _).symm (.sl (bM _)) ab rfl (kj _ _) (show (cM cs a).length+o.code.length=(cM cs a++o.code).length by simp)) ?_
 exact fa rfl (aj (aC (aY (.inr rfl) rfl (.tmp (rfl:_=AV.ref _ _ _)) (Le.out [((0,8),(160,0))] [] (dh rfl rfl) rfl rfl rfl trivial ob))))
def MA (c y:Cd) (a:Nat):List eu:=c a++[{ op:= .unl,n:=((a+(c a).length+(y (a+(c a).length+1)).length+2:Nat):Int) }]++y (a+(c a).length+1)++[{ op:= .jump,n:=(a:Int) }]
theorem wN {c y:Nd} {cc cy:Cd} (hc:CoS (uu d v no on) c cc) (hy:CoS (uu d v no on) y cy):CoS (uu d v no on) (nd 3 0 [] [c,y]) (MA cc cy):=fun a ha=> by
 obtain ⟨b,hb⟩: ∃ b,b=MA cc cy a:=⟨_,rfl⟩
 rw [← hb] at ha ⊢
 unfold MA at hb
 have hbl:=congrArg List.length hb
 simp only [List.length_append,List.length_cons,List.length_nil] at hbl
 have h1:=hc a ab
 generalize cc a=C at h1 hb hbl
 have h2:=hy (a+C.length+1) ab
 generalize cy (a+C.length+1)=Y at h2 hb hbl
 refine Spec.ofN Tryz.func91 rfl Tryz.ntmps91 rfl ?_
 refine am (ai (bk (3,0) _ rfl rfl) (ai (bk (4,0) _ rfl rfl) (ai (bG _ (rfl:_=AV.v (.slice _ _ _))) (aj (ap (am (bA rfl rfl rfl (cC rfl rfl rfl (aj (au ?_))))))))))
 refine ap (bQ rfl rfl rfl rfl rfl (cj rfl rfl rfl rfl rfl ?_))
 iterate 3 refine bQ rfl rfl rfl rfl rfl ?_
 refine ap ?_
 refine aN (σ':=aB 211 [(2,_),(3,_),(4,_),(12,_)] [((3,0),_),((4,0),_)] [] []) kp ?_
 refine cj rfl rfl rfl rfl rfl ?_
 iterate 3 refine bQ rfl rfl rfl rfl rfl ?_
 refine eL rfl rfl rfl rfl rfl (ap ?_)
 refine aN (σ':=aB 211 [(2,_),(3,_),(4,_)] [((3,0),_),((4,0),_)] [] []) kp ?_
 refine bF 6 [73,74,75,76,77,78] [] ae ae rfl (aM rfl) (rfl:_=[_,_,_,_,_,_]) (rfl:_=[_,_]) ?_
 refine aq (_,[]) (fun τ=> aR _ aa rfl rfl rfl rfl) ?_
 refine eJ rfl ?_
 refine aq (_,[]) (fun τ=> aH _ aa rfl rfl rfl) ?_
 refine eK rfl ?_
 refine aq (_,[]) (fun τ=> aK _ aa rfl rfl (rfl:_=some (AV.sl _ _))) ?_
 refine eH rfl ?_
 refine aq (_,[]) (fun τ=> bf _ _ aa rfl rfl 0 rfl (show 0 < 2 by omega) (Nat.le_of_ble_eq_true rfl) rfl) ?_
 refine eS rfl ?_
 refine aq (_,[]) (fun τ=> cd _ aa rfl (by exact cH [c,y] 0 (by simp)) rfl) ?_
 refine eZ rfl ?_
 refine aq (_,[]) (fun τ=> aE _ (rfl:_=AV.v (.int _ _))) ?_
 refine fH rfl (bh ⟨rfl,?_⟩)
 refine ai (dm aa [((0,8),(50,0))] ar (h1.toI) trivial tr ae) ?_
 refine fa rfl (aj (aF fun K15 hK15=> ?_))
 refine aN (σ':=aB 211 [(2,_),(3,_),(4,_),(7,_)] [((3,0),_),((4,0),_),((50,0),_)] [] []) kp ?_
 refine bF 10 [80,81,82,83,84,85,86,87,88,89] [] ae ae rfl (aM rfl) (rfl:_=[_,_,_,_,_,_,_,_,_,_]) (rfl:_=[_,_]) ?_
 refine aq (_,[]) (fun τ=> aR _ aa rfl rfl rfl rfl) ?_
 refine eJ rfl ?_
 refine aq (_,[]) (fun τ=> aH _ aa rfl rfl rfl) ?_
 refine eK rfl ?_
 refine aq (_,[]) (fun τ=> aK _ aa rfl rfl (rfl:_=some (AV.sl _ _))) ?_
 refine eH rfl ?_
 refine aq (_,[]) (fun τ=> bf _ _ aa rfl rfl 1 rfl (show 1 < 2 by omega) (Nat.le_of_ble_eq_true rfl) rfl) ?_
 refine eS rfl ?_
 refine aq (_,[]) (fun τ=> cd _ aa rfl (by exact cH [c,y] 1 (by simp)) rfl) ?_
 refine eZ rfl ?_
 refine aq (_,[]) (fun τ=> aE _ (rfl:_=AV.v (.int _ _))) ?_
 refine fH rfl ?_
 refine aq (_,[]) (fun τ=> aE _ (rfl:_=AV.ref _ _ _)) ?_
 refine gF rfl ?_
 refine aq (_,[]) (fun τ=> dA _ aa rfl rfl) ?_
 refine kv rfl ?_
 refine aq (_,[]) (fun τ=> bc _ _ rfl rfl (bq ab)) ?_
 refine ko rfl ?_
 refine aq (_,[]) (fun τ=> bc _ _ rfl rfl (bq ab)) ?_
 refine gj rfl (bh ⟨rfl,?_⟩)
 refine ai (dm aa [((0,8),(51,0))] ar (h2.toI) trivial tr ae) ?_
 refine fa rfl (az (hK15 _ ?_))
 clear hK15;try clear K15
 refine am (gG rfl (aQ rfl (gG rfl (ai (dA _ aa rfl rfl) (ai (bc _ _ rfl rfl (bq ab)) ?_)))))
 refine gG rfl (ai (dA _ aa rfl rfl) (ai (bc _ _ rfl rfl (bq ab)) ?_))
 refine ai (bc (r:=((a+C.length+Y.length+2:Nat):Int)) _ _ rfl rfl ((bq ab).trans ab)) ?_
 refine ai (aA _ aa rfl (by exact (rfl:_=some [_,_]))) ?_
 refine ai (aV _ _ aa rfl ag (by (simp <;> rfl)) ah rfl) ?_
 refine ai (dl (102,0) _ _ aa rfl rfl (bM _).symm (.sl rfl) ab rfl (ey _ { op:= .unl,n:=((a+C.length+Y.length+2:Nat):Int) }) (show C.length+1=(C++[({ op:= .unl,n:=((a+C.length+Y.length+2:Nat):Int) }:eu)]).length by simp)) ?_
 refine fa rfl (aj (ap ?_))
 refine aN (σ':=aB 211 [(2,_),(8,_),(9,_)] [((51,0),_),((102,0),_)] [] []) kp ?_
 refine an (gG rfl (gG rfl (ai (dl (105,0) _ _ aa rfl rfl (bM _).symm (.ref rfl (lI _) (jD _)) (by simp;omega) rfl (kj _ _) (show (C++[({ op:= .unl,n:=((a+C.length+Y.length+2:Nat):Int) }:eu)]).length+Y.length=(C++[({ op:= .unl,n:=((a+C.length+Y.length+2:Nat):Int) }:eu)]++Y).length by simp;omega)) ?_)))
 refine fa rfl (aj (am (gG rfl (aQ rfl (ai (aA _ aa rfl (by exact (rfl:_=some [_,_]))) ?_)))))
 refine ai (aV _ _ aa rfl ag (by (simp <;> rfl)) ah rfl) ?_
 refine ai (dl (110,0) _ _ aa rfl rfl (bM _).symm (.sl rfl) (by simp;omega) rfl ((ey _ { op:= .jump,n:=(a:Int) }).trans (congrArg inl hb.symm)) (show _+1=b.length by simp;omega)) ?_
 exact fa rfl (aj (aC (aY (.inr rfl) rfl (.tmp (rfl:_=AV.ref _ _ _)) (Le.out [((0,8),(110,0))] [] (dh rfl rfl) rfl rfl rfl trivial ob))))
end

def gm:Ex→Bool
 | .int n=> decide (0≤n) | .bool _=> true | .var _=> true | .name _=> true
 | .draw e=> gm e | .neg e=> gm e | .not e=> gm e
 | .bin _ a b=> gm a && gm b
 | .and a b=> gm a && gm b
 | .or a b=> gm a && gm b
mutual
def oU:Sm→Bool
 | .assign _ e=> gm e
 | .send t _ a b=> gm t && gm a && gm b
 | .timer _=> true | .cancel _=> true | .sync=> true | .stop=> true
 | .reply a b=> gm a && gm b
 | .fail e=> gm e
 | .loop c b=> gm c && mV b
 | .ite c a b=> gm c && mV a && mV b
def mV:Bk→Bool
 | .nil=> true
 | .cons s b=> oU s && mV b
end
section
variable {d v:List Tx} {no:Nat} {on:List PV}
abbrev Jh (d v:List Tx) (no:Nat) (on:List PV) (N:Nd) (c:Cd):Prop:=CoS (uu d v no on) N c
theorem CoS.cong {u:AV} {N:Nd} {c c':Cd} (h:CoS u N c) (e: ∀ a,c a=c' a):CoS u N c':=by
 rw [show c'=c from funext fun a=> (e a).symm];exact h
theorem dP (hn:(d++v).Nodup) (hl:(d++v).length≤1000): ∀ e:Ex,fq (d++v).length e→gm e=true→Jh d v no on (dR (d++v) e) (bm e)
 | .int n,_,hp=> by
  have hp:=of_decide_eq_true hp
  have:=CL (d:=d) (v:=v) (no:=no) (on:=on) n.toNat
  exact this.cong fun a=> by rw [Int.toNat_of_nonneg hp];rfl
 | .bool b,_,_=> by
  cases b
  ·exact uf 0
  ·exact uf 1
 | .var i,h,_=> DY hn hl i h
 | .name k,h,_=> zF k h
 | .draw e,h,hp=> (Ce rfl (wg (dP hn hl e h hp) BN)).cong fun a=> by simp [bm,cM]
 | .neg e,h,hp=> (CV rfl (wg (dP hn hl e h hp) BN)).cong fun a=> by simp [bm,cM]
 | .not e,h,hp=> (CC rfl (wg (dP hn hl e h hp) BN)).cong fun a=> by simp [bm,cM]
 | .bin o x y,h,hp=> by
  simp only [gm,Bool.and_eq_true] at hp
  exact (DO rfl (wg (dP hn hl x h.1 hp.1) (wg (dP hn hl y h.2 hp.2) BN)) o).cong fun a=> by simp [bm,cM]
 | .and x y,h,hp=> by
  simp only [gm,Bool.and_eq_true] at hp
  exact (Er (dP hn hl x h.1 hp.1) (dP hn hl y h.2 hp.2)).cong fun a=> rfl
 | .or x y,h,hp=> by
  simp only [gm,Bool.and_eq_true] at hp
  exact (FG (dP hn hl x h.1 hp.1) (dP hn hl y h.2 hp.2)).cong fun a=> rfl
def BC:Bk→List Cd
 | .nil=> []
 | .cons s b=> co s::BC b
theorem tQ (nm:List Tx): ∀ b:Bk,(BC b).length=(fW nm b).length
 | .nil=> by simp [BC,fW]
 | .cons s b=> by simp [BC,fW,tQ nm b]
theorem tY: ∀ (b:Bk) (a:Nat),cM (BC b) a=cV b a
 | .nil,a=> by simp [BC,cM,cV]
 | .cons s b,a=> by simp only [BC,cM,cV,tY b]
theorem lD {b:Bk} (h:kT (uu d v no on) (fW (d++v) b) (BC b)):Jh d v no on (jy (d++v) b) (cV b):=(yL (tQ _ b) h).cong (tY b)
mutual
theorem Bd (hn:(d++v).Nodup) (hl:(d++v).length≤1000): ∀ s:Sm,eW (d++v).length s→oU s=true→Jh d v no on (nG (d++v) s) (co s)
 | .assign i e,h,hp=> by rw [eW] at h;exact (wq rfl (wg (dP hn hl e h.2 hp) BN) hn hl i h.1).cong fun a=> by simp [co,cM]
 | .send t k x y,h,hp=> by
  rw [eW] at h
  simp only [oU,Bool.and_eq_true] at hp
  exact (zE rfl (wg (dP hn hl t h.2.1 hp.1.1) (wg (dP hn hl x h.2.2.1 hp.1.2) (wg (dP hn hl y h.2.2.2 hp.2) BN))) k).cong fun a=> by simp [co,cM,Nat.add_assoc]
 | .timer k,_,_=> (yQ k).cong fun a=> by rw [co]
 | .cancel k,_,_=> (vp k).cong fun a=> by rw [co]
 | .sync,_,_=> co_sync.cong fun a=> by rw [co]
 | .stop,_,_=> co_stop.cong fun a=> by rw [co]
 | .reply x y,h,hp=> by
  rw [eW] at h
  simp only [oU,Bool.and_eq_true] at hp
  exact (yG rfl (wg (dP hn hl x h.1 hp.1) (wg (dP hn hl y h.2 hp.2) BN))).cong fun a=> by simp [co,cM]
 | .fail e,h,hp=> by rw [eW] at h;exact (AN rfl (wg (dP hn hl e h hp) BN)).cong fun a=> by simp [co,cM]
 | .loop c b,h,hp=> by
  rw [eW] at h
  simp only [oU,Bool.and_eq_true] at hp
  exact (wN (dP hn hl c h.1 hp.1) (lD (lp hn hl b h.2 hp.2))).cong fun a=> by rw [co];rfl
 | .ite c x y,h,hp=> by
  rw [eW] at h
  simp only [oU,Bool.and_eq_true] at hp
  exact (Dy (dP hn hl c h.1 hp.1.1) (lD (lp hn hl x h.2.1 hp.1.2)) (lD (lp hn hl y h.2.2 hp.2))).cong fun a=> by rw [co];rfl
theorem lp (hn:(d++v).Nodup) (hl:(d++v).length≤1000): ∀ b:Bk,ie (d++v).length b→mV b=true→kT (uu d v no on) (fW (d++v) b) (BC b)
 | .nil,_,_=> BN
 | .cons s b,h,hp=> by
  rw [ie] at h
  simp only [mV,Bool.and_eq_true] at hp
  exact wg (Bd hn hl s h.1 hp.1) (lp hn hl b h.2 hp.2)
end
theorem zH (hn:(d++v).Nodup) (hl:(d++v).length≤1000) (b:Bk) (h:ie (d++v).length b) (hp:mV b=true):Jh d v no on (jy (d++v) b) (cV b):=lD (lp hn hl b h hp)
end

abbrev Dt (c:AV) (e:Nat→Int) (d v:Int):List AV:=[c, .v (.int .i64 (e 0)), .v (.int .i64 (e 1)), .v (.int .i64 (e 2)), .v (.int .i64 (e 3)), .v (.int .i64 (e 4)), .v (.int .i64 (e 5)), .v (.int .i64 (e 6)), .v (.int .i64 (e 7)), .v (.int .i64 (e 8)), .v (.int .i64 (e 9)), .v (.int .i64 (e 10)), .v (.int .i64 (e 11)), .v (.int .i64 (e 12)), .v (.int .i64 (e 13)), .v (.int .i64 (e 14)), .v (.int .i64 (e 15)), .v (.int .i64 (e 16)), .v (.int .i64 (e 17)), .v (.int .i64 (e 18)), .v (.int .i64 (e 19)), .v (.int .i64 (e 20)), .v (.int .i64 (e 21)), .v (.int .i64 (e 22)), .v (.int .i64 (e 23)), .v (.int .i64 (e 24)), .v (.int .i64 (e 25)), .v (.int .i64 (e 26)), .v (.int .i64 (e 27)), .v (.int .i64 (e 28)), .v (.int .i64 (e 29)), .v (.int .i64 (e 30)), .v (.int .i64 (e 31)), .v (.int .i64 (e 32)), .v (.int .i64 (e 33)), .v (.int .i64 (e 34)), .v (.int .i64 (e 35)), .v (.int .i64 (e 36)), .v (.int .i64 (e 37)), .v (.int .i64 (e 38)), .v (.int .i64 (e 39)), .v (.int .i64 d), .v (.int .i64 v)]
abbrev Aa (n:Nat) (xs:List PV) (e:Nat→Int) (d v:Int):List AV:=Dt (.sl n xs) e d v
def oQ (e:Nat→Int) (h:Nat) (x:Int):Nat→Int:=fun k=> if k=h then x else e k
theorem qd (c:AV) (e:Nat→Int) (d v:Int) (h:Nat) (hh:h < 40) (x:Int):fj (Dt c e d v) (1+h) [.v (.int .i64 x)]=Dt c (oQ e h x) d v:=by
 rcases h with _ | _ | _ | _ | _ | _ | _ | _ | _ | _ | _ | _ | _ | _ | _ | _ | _ | _ | _ | _ | _ | _ | _ | _ | _ | _ | _ | _ | _ | _ | _ | _ | _ | _ | _ | _ | _ | _ | _ | _ | h
 all_goals first | rfl | omega
theorem qk (n:Nat) (xs:List PV) (e:Nat→Int) (d v:Int) (h:Nat) (hh:h < 40):(Aa n xs e d v)[1+h]? =some (.v (.int .i64 (e h))):=by
 rcases h with _ | _ | _ | _ | _ | _ | _ | _ | _ | _ | _ | _ | _ | _ | _ | _ | _ | _ | _ | _ | _ | _ | _ | _ | _ | _ | _ | _ | _ | _ | _ | _ | _ | _ | _ | _ | _ | _ | _ | _ | h
 all_goals first | rfl | omega
def Cu (l:List Nat):List PV:=l.map fun (x:Nat)=> .v (.int .i64 (x:Int))
@[simp] theorem ed (l:List Nat):(Cu l).length=l.length:=by simp [Cu]
theorem AF (l:List Nat) (k:Nat) (h:k < l.length):(Cu l)[k]? =some (.v (.int .i64 (l.getD k 0:Int))):=by simp [Cu,h]
theorem uM:Spec Tryz.prog 106 (bj [.v (.int .i64 1)] []) (aX (.v (.int .i64 0)) []):=by
 refine Spec.ofN Tryz.func106 rfl Tryz.ntmps106 rfl ?_
 refine am (aZ rfl (aj (ap (am (aQ rfl (aj (au (ap (eL rfl rfl rfl rfl rfl (aJ ?_))))))))))
 exact bD rfl rfl (am (aZ rfl (aj (aC (aY (.inr rfl) rfl (.tmp (rfl:_=AV.v _)) (Le.out [] [] .v rfl rfl rfl trivial trivial))))))
theorem wG:Spec Tryz.prog 106 (bj [.v (.int .i64 2)] []) (aX (.v (.int .i64 0)) []):=by
 refine Spec.ofN Tryz.func106 rfl Tryz.ntmps106 rfl ?_
 refine am (aZ rfl (aj (ap (am (aQ rfl (aj (au (ap (bQ rfl rfl rfl rfl rfl (eL rfl rfl rfl rfl rfl ?_))))))))))
 exact aJ (bD rfl rfl (am (aZ rfl (aj (aC (aY (.inr rfl) rfl (.tmp (rfl:_=AV.v _)) (Le.out [] [] .v rfl rfl rfl trivial trivial)))))))
theorem ro:Spec Tryz.prog 106 (bj [.v (.int .i64 3)] []) (aX (.v (.int .i64 1)) []):=by
 refine Spec.ofN Tryz.func106 rfl Tryz.ntmps106 rfl ?_
 refine am (aZ rfl (aj (ap (am (aQ rfl (aj (au (ap ?_))))))))
 iterate 7 refine bQ rfl rfl rfl rfl rfl ?_
 refine aN (σ':=aB 31 [(3,_)] [] [] []) kp ?_
 refine cj rfl rfl rfl rfl rfl (ap ?_)
 iterate 3 refine bQ rfl rfl rfl rfl rfl ?_
 exact eL rfl rfl rfl rfl rfl (aJ (bD rfl rfl (am (aZ rfl (aj (aC (aY (.inr rfl) rfl (.tmp (rfl:_=AV.v _)) (Le.out [] [] .v rfl rfl rfl trivial trivial))))))))
theorem vd:Spec Tryz.prog 106 (bj [.v (.int .i64 4)] []) (aX (.v (.int .i64 0)) []):=by
 refine Spec.ofN Tryz.func106 rfl Tryz.ntmps106 rfl ?_
 refine am (aZ rfl (aj (ap (am (aQ rfl (aj (au (ap ?_))))))))
 iterate 2 refine bQ rfl rfl rfl rfl rfl ?_
 exact eL rfl rfl rfl rfl rfl (aJ (bD rfl rfl (am (aZ rfl (aj (aC (aY (.inr rfl) rfl (.tmp (rfl:_=AV.v _)) (Le.out [] [] .v rfl rfl rfl trivial trivial))))))))
theorem vm:Spec Tryz.prog 106 (bj [.v (.int .i64 5)] []) (aX (.v (.int .i64 1)) []):=by
 refine Spec.ofN Tryz.func106 rfl Tryz.ntmps106 rfl ?_
 refine am (aZ rfl (aj (ap (am (aQ rfl (aj (au (ap ?_))))))))
 iterate 7 refine bQ rfl rfl rfl rfl rfl ?_
 refine aN (σ':=aB 31 [(3,_)] [] [] []) kp ?_
 exact cj rfl rfl rfl rfl rfl (ap (eL rfl rfl rfl rfl rfl (aJ (bD rfl rfl (am (aZ rfl (aj (aC (aY (.inr rfl) rfl (.tmp (rfl:_=AV.v _)) (Le.out [] [] .v rfl rfl rfl trivial trivial))))))))))
theorem yx:Spec Tryz.prog 106 (bj [.v (.int .i64 6)] []) (aX (.v (.int .i64 2)) []):=by
 refine Spec.ofN Tryz.func106 rfl Tryz.ntmps106 rfl ?_
 refine am (aZ rfl (aj (ap (am (aQ rfl (aj (au (ap ?_))))))))
 iterate 7 refine bQ rfl rfl rfl rfl rfl ?_
 refine aN (σ':=aB 31 [(3,_)] [] [] []) kp ?_
 refine cj rfl rfl rfl rfl rfl (ap ?_)
 iterate 5 refine bQ rfl rfl rfl rfl rfl ?_
 refine cj rfl rfl rfl rfl rfl (ap (eL rfl rfl rfl rfl rfl (aJ (bD rfl rfl (ap ?_)))))
 refine aN (σ':=aB 31 [] [] [] []) kp ?_
 exact an (aZ rfl (aj (aC (aY (.inr rfl) rfl (.tmp (rfl:_=AV.v _)) (Le.out [] [] .v rfl rfl rfl trivial trivial)))))
theorem wW:Spec Tryz.prog 106 (bj [.v (.int .i64 7)] []) (aX (.v (.int .i64 2)) []):=by
 refine Spec.ofN Tryz.func106 rfl Tryz.ntmps106 rfl ?_
 refine am (aZ rfl (aj (ap (am (aQ rfl (aj (au (ap ?_))))))))
 iterate 7 refine bQ rfl rfl rfl rfl rfl ?_
 refine aN (σ':=aB 31 [(3,_)] [] [] []) kp ?_
 refine cj rfl rfl rfl rfl rfl (ap ?_)
 iterate 5 refine bQ rfl rfl rfl rfl rfl ?_
 refine cj rfl rfl rfl rfl rfl (ap (bQ rfl rfl rfl rfl rfl (ap ?_)))
 refine aN (σ':=aB 31 [(3,_)] [] [] []) kp ?_
 exact oN rfl rfl rfl rfl rfl (aJ (bD rfl rfl (am (aZ rfl (aj (aC (aY (.inr rfl) rfl (.tmp (rfl:_=AV.v _)) (Le.out [] [] .v rfl rfl rfl trivial trivial))))))))
theorem xz:Spec Tryz.prog 106 (bj [.v (.int .i64 8)] []) (aX (.v (.int .i64 2)) []):=by
 refine Spec.ofN Tryz.func106 rfl Tryz.ntmps106 rfl ?_
 refine am (aZ rfl (aj (ap (am (aQ rfl (aj (au (ap ?_))))))))
 iterate 7 refine bQ rfl rfl rfl rfl rfl ?_
 refine aN (σ':=aB 31 [(3,_)] [] [] []) kp ?_
 refine cj rfl rfl rfl rfl rfl (ap ?_)
 iterate 5 refine bQ rfl rfl rfl rfl rfl ?_
 refine cj rfl rfl rfl rfl rfl (ap (bQ rfl rfl rfl rfl rfl (ap ?_)))
 refine aN (σ':=aB 31 [(3,_)] [] [] []) kp ?_
 exact cj rfl rfl rfl rfl rfl (eL rfl rfl rfl rfl rfl (aJ (bD rfl rfl (am (aZ rfl (aj (aC (aY (.inr rfl) rfl (.tmp (rfl:_=AV.v _)) (Le.out [] [] .v rfl rfl rfl trivial trivial)))))))))
theorem yR:Spec Tryz.prog 106 (bj [.v (.int .i64 9)] []) (aX (.v (.int .i64 2)) []):=by
 refine Spec.ofN Tryz.func106 rfl Tryz.ntmps106 rfl ?_
 refine am (aZ rfl (aj (ap (am (aQ rfl (aj (au (ap ?_))))))))
 iterate 7 refine bQ rfl rfl rfl rfl rfl ?_
 refine aN (σ':=aB 31 [(3,_)] [] [] []) kp ?_
 refine cj rfl rfl rfl rfl rfl (ap ?_)
 iterate 5 refine bQ rfl rfl rfl rfl rfl ?_
 refine cj rfl rfl rfl rfl rfl (ap (bQ rfl rfl rfl rfl rfl (ap ?_)))
 refine aN (σ':=aB 31 [(3,_)] [] [] []) kp ?_
 exact cj rfl rfl rfl rfl rfl (bQ rfl rfl rfl rfl rfl (eL rfl rfl rfl rfl rfl (aJ (bD rfl rfl (am (aZ rfl (aj (aC (aY (.inr rfl) rfl (.tmp (rfl:_=AV.v _)) (Le.out [] [] .v rfl rfl rfl trivial trivial))))))))))
theorem xo:Spec Tryz.prog 106 (bj [.v (.int .i64 10)] []) (aX (.v (.int .i64 1)) []):=by
 refine Spec.ofN Tryz.func106 rfl Tryz.ntmps106 rfl ?_
 refine am (aZ rfl (aj (ap (am (aQ rfl (aj (au (ap ?_))))))))
 iterate 7 refine bQ rfl rfl rfl rfl rfl ?_
 refine aN (σ':=aB 31 [(3,_)] [] [] []) kp ?_
 exact cj rfl rfl rfl rfl rfl (ap (bQ rfl rfl rfl rfl rfl (eL rfl rfl rfl rfl rfl (aJ (bD rfl rfl (am (aZ rfl (aj (aC (aY (.inr rfl) rfl (.tmp (rfl:_=AV.v _)) (Le.out [] [] .v rfl rfl rfl trivial trivial)))))))))))
theorem Bv:Spec Tryz.prog 106 (bj [.v (.int .i64 11)] []) (aX (.v (.int .i64 2)) []):=by
 refine Spec.ofN Tryz.func106 rfl Tryz.ntmps106 rfl ?_
 refine am (aZ rfl (aj (ap (am (aQ rfl (aj (au (ap ?_))))))))
 iterate 7 refine bQ rfl rfl rfl rfl rfl ?_
 refine aN (σ':=aB 31 [(3,_)] [] [] []) kp ?_
 refine cj rfl rfl rfl rfl rfl (ap ?_)
 iterate 5 refine bQ rfl rfl rfl rfl rfl ?_
 refine cj rfl rfl rfl rfl rfl (ap (bQ rfl rfl rfl rfl rfl (ap ?_)))
 refine aN (σ':=aB 31 [(3,_)] [] [] []) kp ?_
 refine cj rfl rfl rfl rfl rfl ?_
 iterate 2 refine bQ rfl rfl rfl rfl rfl ?_
 exact eL rfl rfl rfl rfl rfl (aJ (bD rfl rfl (am (aZ rfl (aj (aC (aY (.inr rfl) rfl (.tmp (rfl:_=AV.v _)) (Le.out [] [] .v rfl rfl rfl trivial trivial))))))))
theorem Cb:Spec Tryz.prog 106 (bj [.v (.int .i64 12)] []) (aX (.v (.int .i64 2)) []):=by
 refine Spec.ofN Tryz.func106 rfl Tryz.ntmps106 rfl ?_
 refine am (aZ rfl (aj (ap (am (aQ rfl (aj (au (ap ?_))))))))
 iterate 7 refine bQ rfl rfl rfl rfl rfl ?_
 refine aN (σ':=aB 31 [(3,_)] [] [] []) kp ?_
 refine cj rfl rfl rfl rfl rfl (ap ?_)
 iterate 5 refine bQ rfl rfl rfl rfl rfl ?_
 refine cj rfl rfl rfl rfl rfl (ap (bQ rfl rfl rfl rfl rfl (ap ?_)))
 refine aN (σ':=aB 31 [(3,_)] [] [] []) kp ?_
 refine cj rfl rfl rfl rfl rfl ?_
 iterate 3 refine bQ rfl rfl rfl rfl rfl ?_
 exact eL rfl rfl rfl rfl rfl (aJ (bD rfl rfl (am (aZ rfl (aj (aC (aY (.inr rfl) rfl (.tmp (rfl:_=AV.v _)) (Le.out [] [] .v rfl rfl rfl trivial trivial))))))))
theorem Bx:Spec Tryz.prog 106 (bj [.v (.int .i64 13)] []) (aX (.v (.int .i64 2)) []):=by
 refine Spec.ofN Tryz.func106 rfl Tryz.ntmps106 rfl ?_
 refine am (aZ rfl (aj (ap (am (aQ rfl (aj (au (ap ?_))))))))
 iterate 7 refine bQ rfl rfl rfl rfl rfl ?_
 refine aN (σ':=aB 31 [(3,_)] [] [] []) kp ?_
 refine cj rfl rfl rfl rfl rfl (ap ?_)
 iterate 5 refine bQ rfl rfl rfl rfl rfl ?_
 refine cj rfl rfl rfl rfl rfl (ap (bQ rfl rfl rfl rfl rfl (ap ?_)))
 refine aN (σ':=aB 31 [(3,_)] [] [] []) kp ?_
 refine cj rfl rfl rfl rfl rfl ?_
 iterate 4 refine bQ rfl rfl rfl rfl rfl ?_
 exact eL rfl rfl rfl rfl rfl (aJ (bD rfl rfl (am (aZ rfl (aj (aC (aY (.inr rfl) rfl (.tmp (rfl:_=AV.v _)) (Le.out [] [] .v rfl rfl rfl trivial trivial))))))))
theorem ze:Spec Tryz.prog 106 (bj [.v (.int .i64 14)] []) (aX (.v (.int .i64 1)) []):=by
 refine Spec.ofN Tryz.func106 rfl Tryz.ntmps106 rfl ?_
 refine am (aZ rfl (aj (ap (am (aQ rfl (aj (au (ap ?_))))))))
 iterate 7 refine bQ rfl rfl rfl rfl rfl ?_
 refine aN (σ':=aB 31 [(3,_)] [] [] []) kp ?_
 refine cj rfl rfl rfl rfl rfl (ap ?_)
 iterate 2 refine bQ rfl rfl rfl rfl rfl ?_
 exact eL rfl rfl rfl rfl rfl (aJ (bD rfl rfl (am (aZ rfl (aj (aC (aY (.inr rfl) rfl (.tmp (rfl:_=AV.v _)) (Le.out [] [] .v rfl rfl rfl trivial trivial))))))))
theorem we:Spec Tryz.prog 106 (bj [.v (.int .i64 15)] []) (aX (.v (.int .i64 0)) []):=by
 refine Spec.ofN Tryz.func106 rfl Tryz.ntmps106 rfl ?_
 refine am (aZ rfl (aj (ap (am (aQ rfl (aj (au (ap ?_))))))))
 iterate 3 refine bQ rfl rfl rfl rfl rfl ?_
 exact eL rfl rfl rfl rfl rfl (aJ (bD rfl rfl (am (aZ rfl (aj (aC (aY (.inr rfl) rfl (.tmp (rfl:_=AV.v _)) (Le.out [] [] .v rfl rfl rfl trivial trivial))))))))
theorem wE:Spec Tryz.prog 106 (bj [.v (.int .i64 16)] []) (aX (.v (.int .i64 1)) []):=by
 refine Spec.ofN Tryz.func106 rfl Tryz.ntmps106 rfl ?_
 refine am (aZ rfl (aj (ap (am (aQ rfl (aj (au (ap ?_))))))))
 iterate 7 refine bQ rfl rfl rfl rfl rfl ?_
 refine aN (σ':=aB 31 [(3,_)] [] [] []) kp ?_
 refine cj rfl rfl rfl rfl rfl (ap ?_)
 iterate 4 refine bQ rfl rfl rfl rfl rfl ?_
 exact eL rfl rfl rfl rfl rfl (aJ (bD rfl rfl (am (aZ rfl (aj (aC (aY (.inr rfl) rfl (.tmp (rfl:_=AV.v _)) (Le.out [] [] .v rfl rfl rfl trivial trivial))))))))
theorem uH:Spec Tryz.prog 106 (bj [.v (.int .i64 17)] []) (aX (.v (.int .i64 3)) []):=by
 refine Spec.ofN Tryz.func106 rfl Tryz.ntmps106 rfl ?_
 refine am (aZ rfl (aj (ap (am (aQ rfl (aj (au (ap ?_))))))))
 iterate 7 refine bQ rfl rfl rfl rfl rfl ?_
 refine aN (σ':=aB 31 [(3,_)] [] [] []) kp ?_
 refine cj rfl rfl rfl rfl rfl (ap ?_)
 iterate 5 refine bQ rfl rfl rfl rfl rfl ?_
 refine cj rfl rfl rfl rfl rfl (ap (bQ rfl rfl rfl rfl rfl (ap ?_)))
 refine aN (σ':=aB 31 [(3,_)] [] [] []) kp ?_
 refine cj rfl rfl rfl rfl rfl ?_
 iterate 5 refine bQ rfl rfl rfl rfl rfl ?_
 refine cj rfl rfl rfl rfl rfl (eL rfl rfl rfl rfl rfl (ap ?_))
 refine aN (σ':=aB 31 [] [] [] []) kp ?_
 exact an (aZ rfl (aj (aC (aY (.inr rfl) rfl (.tmp (rfl:_=AV.v _)) (Le.out [] [] .v rfl rfl rfl trivial trivial)))))
theorem sG:Spec Tryz.prog 106 (bj [.v (.int .i64 18)] []) (aX (.v (.int .i64 0)) []):=by
 refine Spec.ofN Tryz.func106 rfl Tryz.ntmps106 rfl ?_
 refine am (aZ rfl (aj (ap (am (aQ rfl (aj (au (ap ?_))))))))
 iterate 4 refine bQ rfl rfl rfl rfl rfl ?_
 exact eL rfl rfl rfl rfl rfl (aJ (bD rfl rfl (am (aZ rfl (aj (aC (aY (.inr rfl) rfl (.tmp (rfl:_=AV.v _)) (Le.out [] [] .v rfl rfl rfl trivial trivial))))))))
theorem rJ:Spec Tryz.prog 106 (bj [.v (.int .i64 19)] []) (aX (.v (.int .i64 0)) []):=by
 refine Spec.ofN Tryz.func106 rfl Tryz.ntmps106 rfl ?_
 refine am (aZ rfl (aj (ap (am (aQ rfl (aj (au (ap ?_))))))))
 iterate 5 refine bQ rfl rfl rfl rfl rfl ?_
 exact eL rfl rfl rfl rfl rfl (aJ (bD rfl rfl (am (aZ rfl (aj (aC (aY (.inr rfl) rfl (.tmp (rfl:_=AV.v _)) (Le.out [] [] .v rfl rfl rfl trivial trivial))))))))
theorem vu:Spec Tryz.prog 106 (bj [.v (.int .i64 20)] []) (aX (.v (.int .i64 0)) []):=by
 refine Spec.ofN Tryz.func106 rfl Tryz.ntmps106 rfl ?_
 refine am (aZ rfl (aj (ap (am (aQ rfl (aj (au (ap ?_))))))))
 iterate 6 refine bQ rfl rfl rfl rfl rfl ?_
 refine eL rfl rfl rfl rfl rfl (aJ (bD rfl rfl (ap ?_)))
 refine aN (σ':=aB 31 [] [] [] []) kp ?_
 exact an (aZ rfl (aj (aC (aY (.inr rfl) rfl (.tmp (rfl:_=AV.v _)) (Le.out [] [] .v rfl rfl rfl trivial trivial)))))
theorem sZ:Spec Tryz.prog 106 (bj [.v (.int .i64 21)] []) (aX (.v (.int .i64 2)) []):=by
 refine Spec.ofN Tryz.func106 rfl Tryz.ntmps106 rfl ?_
 refine am (aZ rfl (aj (ap (am (aQ rfl (aj (au (ap ?_))))))))
 iterate 7 refine bQ rfl rfl rfl rfl rfl ?_
 refine aN (σ':=aB 31 [(3,_)] [] [] []) kp ?_
 refine cj rfl rfl rfl rfl rfl (ap ?_)
 iterate 5 refine bQ rfl rfl rfl rfl rfl ?_
 refine cj rfl rfl rfl rfl rfl (ap (bQ rfl rfl rfl rfl rfl (ap ?_)))
 refine aN (σ':=aB 31 [(3,_)] [] [] []) kp ?_
 refine cj rfl rfl rfl rfl rfl ?_
 iterate 5 refine bQ rfl rfl rfl rfl rfl ?_
 exact oN rfl rfl rfl rfl rfl (am (aZ rfl (aj (aC (aY (.inr rfl) rfl (.tmp (rfl:_=AV.v _)) (Le.out [] [] .v rfl rfl rfl trivial trivial))))))
theorem vq:Spec Tryz.prog 106 (bj [.v (.int .i64 22)] []) (aX (.v (.int .i64 1)) []):=by
 refine Spec.ofN Tryz.func106 rfl Tryz.ntmps106 rfl ?_
 refine am (aZ rfl (aj (ap (am (aQ rfl (aj (au (ap ?_))))))))
 iterate 7 refine bQ rfl rfl rfl rfl rfl ?_
 refine aN (σ':=aB 31 [(3,_)] [] [] []) kp ?_
 refine cj rfl rfl rfl rfl rfl (ap ?_)
 iterate 5 refine bQ rfl rfl rfl rfl rfl ?_
 exact oN rfl rfl rfl rfl rfl (am (aZ rfl (aj (aC (aY (.inr rfl) rfl (.tmp (rfl:_=AV.v _)) (Le.out [] [] .v rfl rfl rfl trivial trivial))))))
theorem wh:Spec Tryz.prog 106 (bj [.v (.int .i64 23)] []) (aX (.v (.int .i64 0)) []):=by
 refine Spec.ofN Tryz.func106 rfl Tryz.ntmps106 rfl ?_
 refine am (aZ rfl (aj (ap (am (aQ rfl (aj (au (ap ?_))))))))
 iterate 7 refine bQ rfl rfl rfl rfl rfl ?_
 refine aN (σ':=aB 31 [(3,_)] [] [] []) kp ?_
 exact oN rfl rfl rfl rfl rfl (am (aZ rfl (aj (aC (aY (.inr rfl) rfl (.tmp (rfl:_=AV.v _)) (Le.out [] [] .v rfl rfl rfl trivial trivial))))))
theorem pR (o:Opc):Spec Tryz.prog 106 (bj [.v (.int .i64 (o.num:Int))] []) (aX (.v (.int .i64 (o.pops:Int))) []):=by
 cases o
 ·exact uM
 ·exact wG
 ·exact ro
 ·exact vd
 ·exact vm
 ·exact yx
 ·exact wW
 ·exact xz
 ·exact yR
 ·exact xo
 ·exact Bv
 ·exact Cb
 ·exact Bx
 ·exact ze
 ·exact we
 ·exact wE
 ·exact uH
 ·exact sG
 ·exact rJ
 ·exact vu
 ·exact sZ
 ·exact vq
 ·exact wh
theorem vH:Spec Tryz.prog 107 (bj [.v (.int .i64 1)] []) (aX (.v (.int .i64 1)) []):=by
 refine Spec.ofN Tryz.func107 rfl Tryz.ntmps107 rfl ?_
 refine am (aZ rfl (aj (ap (am (aQ rfl (aj (au (ap (eL rfl rfl rfl rfl rfl (aJ ?_))))))))))
 exact bD rfl rfl (am (aZ rfl (aj (aC (aY (.inr rfl) rfl (.tmp (rfl:_=AV.v _)) (Le.out [] [] .v rfl rfl rfl trivial trivial))))))
theorem yf:Spec Tryz.prog 107 (bj [.v (.int .i64 2)] []) (aX (.v (.int .i64 1)) []):=by
 refine Spec.ofN Tryz.func107 rfl Tryz.ntmps107 rfl ?_
 refine am (aZ rfl (aj (ap (am (aQ rfl (aj (au (ap (bQ rfl rfl rfl rfl rfl (eL rfl rfl rfl rfl rfl ?_))))))))))
 exact aJ (bD rfl rfl (am (aZ rfl (aj (aC (aY (.inr rfl) rfl (.tmp (rfl:_=AV.v _)) (Le.out [] [] .v rfl rfl rfl trivial trivial)))))))
theorem su:Spec Tryz.prog 107 (bj [.v (.int .i64 3)] []) (aX (.v (.int .i64 0)) []):=by
 refine Spec.ofN Tryz.func107 rfl Tryz.ntmps107 rfl ?_
 refine am (aZ rfl (aj (ap (am (aQ rfl (aj (au (ap ?_))))))))
 iterate 7 refine bQ rfl rfl rfl rfl rfl ?_
 refine ap ?_
 refine aN (σ':=aB 18 [(3,_)] [] [] []) kp ?_
 refine cj rfl rfl rfl rfl rfl ?_
 iterate 4 refine bQ rfl rfl rfl rfl rfl ?_
 exact cj rfl rfl rfl rfl rfl (bZ (am (aZ rfl (aj (aC (aY (.inr rfl) rfl (.tmp (rfl:_=AV.v _)) (Le.out [] [] .v rfl rfl rfl trivial trivial)))))))
theorem wm:Spec Tryz.prog 107 (bj [.v (.int .i64 4)] []) (aX (.v (.int .i64 1)) []):=by
 refine Spec.ofN Tryz.func107 rfl Tryz.ntmps107 rfl ?_
 refine am (aZ rfl (aj (ap (am (aQ rfl (aj (au (ap ?_))))))))
 iterate 2 refine bQ rfl rfl rfl rfl rfl ?_
 exact eL rfl rfl rfl rfl rfl (aJ (bD rfl rfl (am (aZ rfl (aj (aC (aY (.inr rfl) rfl (.tmp (rfl:_=AV.v _)) (Le.out [] [] .v rfl rfl rfl trivial trivial))))))))
theorem vh:Spec Tryz.prog 107 (bj [.v (.int .i64 5)] []) (aX (.v (.int .i64 1)) []):=by
 refine Spec.ofN Tryz.func107 rfl Tryz.ntmps107 rfl ?_
 refine am (aZ rfl (aj (ap (am (aQ rfl (aj (au (ap ?_))))))))
 iterate 3 refine bQ rfl rfl rfl rfl rfl ?_
 exact eL rfl rfl rfl rfl rfl (aJ (bD rfl rfl (am (aZ rfl (aj (aC (aY (.inr rfl) rfl (.tmp (rfl:_=AV.v _)) (Le.out [] [] .v rfl rfl rfl trivial trivial))))))))
theorem ye:Spec Tryz.prog 107 (bj [.v (.int .i64 6)] []) (aX (.v (.int .i64 1)) []):=by
 refine Spec.ofN Tryz.func107 rfl Tryz.ntmps107 rfl ?_
 refine am (aZ rfl (aj (ap (am (aQ rfl (aj (au (ap ?_))))))))
 iterate 6 refine bQ rfl rfl rfl rfl rfl ?_
 refine eL rfl rfl rfl rfl rfl (aJ (bD rfl rfl (ap ?_)))
 refine aN (σ':=aB 18 [] [] [] []) kp ?_
 exact an (aZ rfl (aj (aC (aY (.inr rfl) rfl (.tmp (rfl:_=AV.v _)) (Le.out [] [] .v rfl rfl rfl trivial trivial)))))
theorem xm:Spec Tryz.prog 107 (bj [.v (.int .i64 7)] []) (aX (.v (.int .i64 1)) []):=by
 refine Spec.ofN Tryz.func107 rfl Tryz.ntmps107 rfl ?_
 refine am (aZ rfl (aj (ap (am (aQ rfl (aj (au (ap ?_))))))))
 iterate 7 refine bQ rfl rfl rfl rfl rfl ?_
 refine ap ?_
 refine aN (σ':=aB 18 [(3,_)] [] [] []) kp ?_
 exact oN rfl rfl rfl rfl rfl (aJ (bD rfl rfl (am (aZ rfl (aj (aC (aY (.inr rfl) rfl (.tmp (rfl:_=AV.v _)) (Le.out [] [] .v rfl rfl rfl trivial trivial))))))))
theorem za:Spec Tryz.prog 107 (bj [.v (.int .i64 8)] []) (aX (.v (.int .i64 1)) []):=by
 refine Spec.ofN Tryz.func107 rfl Tryz.ntmps107 rfl ?_
 refine am (aZ rfl (aj (ap (am (aQ rfl (aj (au (ap ?_))))))))
 iterate 7 refine bQ rfl rfl rfl rfl rfl ?_
 refine ap ?_
 refine aN (σ':=aB 18 [(3,_)] [] [] []) kp ?_
 exact cj rfl rfl rfl rfl rfl (eL rfl rfl rfl rfl rfl (aJ (bD rfl rfl (am (aZ rfl (aj (aC (aY (.inr rfl) rfl (.tmp (rfl:_=AV.v _)) (Le.out [] [] .v rfl rfl rfl trivial trivial)))))))))
theorem wR:Spec Tryz.prog 107 (bj [.v (.int .i64 9)] []) (aX (.v (.int .i64 1)) []):=by
 refine Spec.ofN Tryz.func107 rfl Tryz.ntmps107 rfl ?_
 refine am (aZ rfl (aj (ap (am (aQ rfl (aj (au (ap ?_))))))))
 iterate 7 refine bQ rfl rfl rfl rfl rfl ?_
 refine ap ?_
 refine aN (σ':=aB 18 [(3,_)] [] [] []) kp ?_
 exact cj rfl rfl rfl rfl rfl (bQ rfl rfl rfl rfl rfl (eL rfl rfl rfl rfl rfl (aJ (bD rfl rfl (am (aZ rfl (aj (aC (aY (.inr rfl) rfl (.tmp (rfl:_=AV.v _)) (Le.out [] [] .v rfl rfl rfl trivial trivial))))))))))
theorem zp:Spec Tryz.prog 107 (bj [.v (.int .i64 10)] []) (aX (.v (.int .i64 1)) []):=by
 refine Spec.ofN Tryz.func107 rfl Tryz.ntmps107 rfl ?_
 refine am (aZ rfl (aj (ap (am (aQ rfl (aj (au (ap ?_))))))))
 iterate 4 refine bQ rfl rfl rfl rfl rfl ?_
 exact eL rfl rfl rfl rfl rfl (aJ (bD rfl rfl (am (aZ rfl (aj (aC (aY (.inr rfl) rfl (.tmp (rfl:_=AV.v _)) (Le.out [] [] .v rfl rfl rfl trivial trivial))))))))
theorem AK:Spec Tryz.prog 107 (bj [.v (.int .i64 11)] []) (aX (.v (.int .i64 1)) []):=by
 refine Spec.ofN Tryz.func107 rfl Tryz.ntmps107 rfl ?_
 refine am (aZ rfl (aj (ap (am (aQ rfl (aj (au (ap ?_))))))))
 iterate 7 refine bQ rfl rfl rfl rfl rfl ?_
 refine ap ?_
 refine aN (σ':=aB 18 [(3,_)] [] [] []) kp ?_
 refine cj rfl rfl rfl rfl rfl ?_
 iterate 2 refine bQ rfl rfl rfl rfl rfl ?_
 exact eL rfl rfl rfl rfl rfl (aJ (bD rfl rfl (am (aZ rfl (aj (aC (aY (.inr rfl) rfl (.tmp (rfl:_=AV.v _)) (Le.out [] [] .v rfl rfl rfl trivial trivial))))))))
theorem Bn:Spec Tryz.prog 107 (bj [.v (.int .i64 12)] []) (aX (.v (.int .i64 1)) []):=by
 refine Spec.ofN Tryz.func107 rfl Tryz.ntmps107 rfl ?_
 refine am (aZ rfl (aj (ap (am (aQ rfl (aj (au (ap ?_))))))))
 iterate 7 refine bQ rfl rfl rfl rfl rfl ?_
 refine ap ?_
 refine aN (σ':=aB 18 [(3,_)] [] [] []) kp ?_
 refine cj rfl rfl rfl rfl rfl ?_
 iterate 3 refine bQ rfl rfl rfl rfl rfl ?_
 exact eL rfl rfl rfl rfl rfl (aJ (bD rfl rfl (am (aZ rfl (aj (aC (aY (.inr rfl) rfl (.tmp (rfl:_=AV.v _)) (Le.out [] [] .v rfl rfl rfl trivial trivial))))))))
theorem Be:Spec Tryz.prog 107 (bj [.v (.int .i64 13)] []) (aX (.v (.int .i64 1)) []):=by
 refine Spec.ofN Tryz.func107 rfl Tryz.ntmps107 rfl ?_
 refine am (aZ rfl (aj (ap (am (aQ rfl (aj (au (ap ?_))))))))
 iterate 7 refine bQ rfl rfl rfl rfl rfl ?_
 refine ap ?_
 refine aN (σ':=aB 18 [(3,_)] [] [] []) kp ?_
 refine cj rfl rfl rfl rfl rfl ?_
 iterate 4 refine bQ rfl rfl rfl rfl rfl ?_
 exact oN rfl rfl rfl rfl rfl (am (aZ rfl (aj (aC (aY (.inr rfl) rfl (.tmp (rfl:_=AV.v _)) (Le.out [] [] .v rfl rfl rfl trivial trivial))))))
theorem yM:Spec Tryz.prog 107 (bj [.v (.int .i64 14)] []) (aX (.v (.int .i64 1)) []):=by
 refine Spec.ofN Tryz.func107 rfl Tryz.ntmps107 rfl ?_
 refine am (aZ rfl (aj (ap (am (aQ rfl (aj (au (ap ?_))))))))
 iterate 5 refine bQ rfl rfl rfl rfl rfl ?_
 exact eL rfl rfl rfl rfl rfl (aJ (bD rfl rfl (am (aZ rfl (aj (aC (aY (.inr rfl) rfl (.tmp (rfl:_=AV.v _)) (Le.out [] [] .v rfl rfl rfl trivial trivial))))))))
theorem uS:Spec Tryz.prog 107 (bj [.v (.int .i64 15)] []) (aX (.v (.int .i64 0)) []):=by
 refine Spec.ofN Tryz.func107 rfl Tryz.ntmps107 rfl ?_
 refine am (aZ rfl (aj (ap (am (aQ rfl (aj (au (ap ?_))))))))
 iterate 7 refine bQ rfl rfl rfl rfl rfl ?_
 refine ap ?_
 refine aN (σ':=aB 18 [(3,_)] [] [] []) kp ?_
 refine cj rfl rfl rfl rfl rfl ?_
 iterate 4 refine bQ rfl rfl rfl rfl rfl ?_
 exact cj rfl rfl rfl rfl rfl (bZ (am (aZ rfl (aj (aC (aY (.inr rfl) rfl (.tmp (rfl:_=AV.v _)) (Le.out [] [] .v rfl rfl rfl trivial trivial)))))))
theorem xI:Spec Tryz.prog 107 (bj [.v (.int .i64 16)] []) (aX (.v (.int .i64 0)) []):=by
 refine Spec.ofN Tryz.func107 rfl Tryz.ntmps107 rfl ?_
 refine am (aZ rfl (aj (ap (am (aQ rfl (aj (au (ap ?_))))))))
 iterate 7 refine bQ rfl rfl rfl rfl rfl ?_
 refine ap ?_
 refine aN (σ':=aB 18 [(3,_)] [] [] []) kp ?_
 refine cj rfl rfl rfl rfl rfl ?_
 iterate 4 refine bQ rfl rfl rfl rfl rfl ?_
 exact cj rfl rfl rfl rfl rfl (bZ (am (aZ rfl (aj (aC (aY (.inr rfl) rfl (.tmp (rfl:_=AV.v _)) (Le.out [] [] .v rfl rfl rfl trivial trivial)))))))
theorem vr:Spec Tryz.prog 107 (bj [.v (.int .i64 17)] []) (aX (.v (.int .i64 0)) []):=by
 refine Spec.ofN Tryz.func107 rfl Tryz.ntmps107 rfl ?_
 refine am (aZ rfl (aj (ap (am (aQ rfl (aj (au (ap ?_))))))))
 iterate 7 refine bQ rfl rfl rfl rfl rfl ?_
 refine ap ?_
 refine aN (σ':=aB 18 [(3,_)] [] [] []) kp ?_
 refine cj rfl rfl rfl rfl rfl ?_
 iterate 4 refine bQ rfl rfl rfl rfl rfl ?_
 exact cj rfl rfl rfl rfl rfl (bZ (am (aZ rfl (aj (aC (aY (.inr rfl) rfl (.tmp (rfl:_=AV.v _)) (Le.out [] [] .v rfl rfl rfl trivial trivial)))))))
theorem tj:Spec Tryz.prog 107 (bj [.v (.int .i64 18)] []) (aX (.v (.int .i64 0)) []):=by
 refine Spec.ofN Tryz.func107 rfl Tryz.ntmps107 rfl ?_
 refine am (aZ rfl (aj (ap (am (aQ rfl (aj (au (ap ?_))))))))
 iterate 7 refine bQ rfl rfl rfl rfl rfl ?_
 refine ap ?_
 refine aN (σ':=aB 18 [(3,_)] [] [] []) kp ?_
 refine cj rfl rfl rfl rfl rfl ?_
 iterate 4 refine bQ rfl rfl rfl rfl rfl ?_
 exact cj rfl rfl rfl rfl rfl (bZ (am (aZ rfl (aj (aC (aY (.inr rfl) rfl (.tmp (rfl:_=AV.v _)) (Le.out [] [] .v rfl rfl rfl trivial trivial)))))))
theorem rX:Spec Tryz.prog 107 (bj [.v (.int .i64 19)] []) (aX (.v (.int .i64 0)) []):=by
 refine Spec.ofN Tryz.func107 rfl Tryz.ntmps107 rfl ?_
 refine am (aZ rfl (aj (ap (am (aQ rfl (aj (au (ap ?_))))))))
 iterate 7 refine bQ rfl rfl rfl rfl rfl ?_
 refine ap ?_
 refine aN (σ':=aB 18 [(3,_)] [] [] []) kp ?_
 refine cj rfl rfl rfl rfl rfl ?_
 iterate 4 refine bQ rfl rfl rfl rfl rfl ?_
 exact cj rfl rfl rfl rfl rfl (bZ (am (aZ rfl (aj (aC (aY (.inr rfl) rfl (.tmp (rfl:_=AV.v _)) (Le.out [] [] .v rfl rfl rfl trivial trivial)))))))
theorem vX:Spec Tryz.prog 107 (bj [.v (.int .i64 20)] []) (aX (.v (.int .i64 0)) []):=by
 refine Spec.ofN Tryz.func107 rfl Tryz.ntmps107 rfl ?_
 refine am (aZ rfl (aj (ap (am (aQ rfl (aj (au (ap ?_))))))))
 iterate 7 refine bQ rfl rfl rfl rfl rfl ?_
 refine ap ?_
 refine aN (σ':=aB 18 [(3,_)] [] [] []) kp ?_
 refine cj rfl rfl rfl rfl rfl ?_
 iterate 4 refine bQ rfl rfl rfl rfl rfl ?_
 exact cj rfl rfl rfl rfl rfl (bZ (am (aZ rfl (aj (aC (aY (.inr rfl) rfl (.tmp (rfl:_=AV.v _)) (Le.out [] [] .v rfl rfl rfl trivial trivial)))))))
theorem tz:Spec Tryz.prog 107 (bj [.v (.int .i64 21)] []) (aX (.v (.int .i64 0)) []):=by
 refine Spec.ofN Tryz.func107 rfl Tryz.ntmps107 rfl ?_
 refine am (aZ rfl (aj (ap (am (aQ rfl (aj (au (ap ?_))))))))
 iterate 7 refine bQ rfl rfl rfl rfl rfl ?_
 refine ap ?_
 refine aN (σ':=aB 18 [(3,_)] [] [] []) kp ?_
 refine cj rfl rfl rfl rfl rfl ?_
 iterate 4 refine bQ rfl rfl rfl rfl rfl ?_
 exact cj rfl rfl rfl rfl rfl (bZ (am (aZ rfl (aj (aC (aY (.inr rfl) rfl (.tmp (rfl:_=AV.v _)) (Le.out [] [] .v rfl rfl rfl trivial trivial)))))))
theorem vV:Spec Tryz.prog 107 (bj [.v (.int .i64 22)] []) (aX (.v (.int .i64 0)) []):=by
 refine Spec.ofN Tryz.func107 rfl Tryz.ntmps107 rfl ?_
 refine am (aZ rfl (aj (ap (am (aQ rfl (aj (au (ap ?_))))))))
 iterate 7 refine bQ rfl rfl rfl rfl rfl ?_
 refine ap ?_
 refine aN (σ':=aB 18 [(3,_)] [] [] []) kp ?_
 refine cj rfl rfl rfl rfl rfl ?_
 iterate 4 refine bQ rfl rfl rfl rfl rfl ?_
 exact cj rfl rfl rfl rfl rfl (bZ (am (aZ rfl (aj (aC (aY (.inr rfl) rfl (.tmp (rfl:_=AV.v _)) (Le.out [] [] .v rfl rfl rfl trivial trivial)))))))
theorem vc:Spec Tryz.prog 107 (bj [.v (.int .i64 23)] []) (aX (.v (.int .i64 0)) []):=by
 refine Spec.ofN Tryz.func107 rfl Tryz.ntmps107 rfl ?_
 refine am (aZ rfl (aj (ap (am (aQ rfl (aj (au (ap ?_))))))))
 iterate 7 refine bQ rfl rfl rfl rfl rfl ?_
 refine ap ?_
 refine aN (σ':=aB 18 [(3,_)] [] [] []) kp ?_
 refine cj rfl rfl rfl rfl rfl ?_
 iterate 4 refine bQ rfl rfl rfl rfl rfl ?_
 exact cj rfl rfl rfl rfl rfl (bZ (am (aZ rfl (aj (aC (aY (.inr rfl) rfl (.tmp (rfl:_=AV.v _)) (Le.out [] [] .v rfl rfl rfl trivial trivial)))))))
theorem pb (o:Opc):Spec Tryz.prog 107 (bj [.v (.int .i64 (o.num:Int))] []) (aX (.v (.int .i64 (o.puts:Int))) []):=by
 cases o
 ·exact vH
 ·exact yf
 ·exact su
 ·exact wm
 ·exact vh
 ·exact ye
 ·exact xm
 ·exact za
 ·exact wR
 ·exact zp
 ·exact AK
 ·exact Bn
 ·exact Be
 ·exact yM
 ·exact uS
 ·exact xI
 ·exact vr
 ·exact tj
 ·exact rX
 ·exact vX
 ·exact tz
 ·exact vV
 ·exact vc
theorem opn_stop {o:Opc}:(o.num:Int)=23↔o= .stop:=by cases o <;> simp [Opc.num]
theorem opn_jump {o:Opc}:(o.num:Int)=15↔o= .jump:=by cases o <;> simp [Opc.num]
theorem opn_unl {o:Opc}:(o.num:Int)=16↔o= .unl:=by cases o <;> simp [Opc.num]
theorem vM (C:List eu) (e:Nat→Int) (dd vv:Int) (i:Nat) (hC:C.length≤1000000) (hi:i < C.length) (hn:(cO C i).op= .jump∨(cO C i).op= .unl→0≤(cO C i).n):
  Spec Tryz.prog 73 (bj [.agg (Aa C.length (inl C) e dd vv), .v (.int .i64 (i:Int))] []) (aX (.sl (dz i (cO C i)).length (Cu (dz i (cO C i)))) []):=by
 obtain ⟨x,hx⟩: ∃ x,x=cO C i:=⟨_,rfl⟩
 have hg0:=lQ C i hi
 have hg1:=xi C i hi
 rw [← hx] at hn hg0 hg1 ⊢
 clear hx
 obtain ⟨o,n⟩:=x
 simp only at hn hg0 hg1
 refine Spec.ofN Tryz.func73 rfl Tryz.ntmps73 rfl ?_
 refine am (ai (bk (2,0) _ rfl rfl) (ai (bG _ (rfl:_=AV.v (.slice _ _ _))) (aj (ap (am (bA rfl rfl rfl (fh rfl rfl rfl (aQ rfl (ai (bf _ _ aa rfl rfl _ rfl ab (by (simp only [ba,bn,bl,bC,bz,bJ,bB,bM,ed];omega)) ag) ?_)))))))))
 refine ai (di _ aa rfl rfl) (ai (bH _ aa rfl (by exact hg0) rfl) ?_)
 refine aj (au (am (ai (bP _ _ rfl rfl rfl) (ct rfl (aj (aT rfl (fun hc11=> ?_) (fun hc11=> ?_)))))))
 ·skip
  obtain rfl:=opn_stop.1 hc11
  exact am (ai (bG _ (rfl:_=AV.v (.slice _ _ _))) (aj (aC (aY (.inr rfl) rfl (.tmp (rfl:_=AV.v _)) (Le.out [] [] .nil rfl rfl rfl trivial trivial)))))
 ·skip
  refine am (ai (bP _ _ rfl rfl rfl) (ct rfl (aj (aT rfl (fun hc13=> ?_) (fun hc13=> ?_)))))
  ·skip
   obtain rfl:=opn_jump.1 hc13
   have hn:=hn (.inl rfl)
   refine am (bA rfl rfl rfl (fh rfl rfl rfl (aQ rfl (ai (bf _ _ aa rfl rfl _ rfl ab (by (simp only [ba,bn,bl,bC,bz,bJ,bB,bM,ed];omega)) ag) ?_))))
   refine ai (di _ aa rfl rfl) (ai (bH _ aa rfl (by exact hg1) rfl) ?_)
   refine ai (aV _ _ aa rfl ag (by (simp <;> rfl)) ah rfl) ?_
   exact kJ rfl (aj (aC (aY (.inr rfl) rfl (.tmp (rfl:_=AV.sl _ _)) (Le.out [] [] (ix rfl (by simp [Cu,dz,Int.toNat_of_nonneg hn])) rfl rfl rfl trivial trivial))))
  ·skip
   refine am (ai (bP _ _ rfl rfl rfl) (ct rfl (aj (aT rfl (fun hc22=> ?_) (fun hc22=> ?_)))))
   ·skip
    obtain rfl:=opn_unl.1 hc22
    have hn:=hn (.inr rfl)
    refine am (aQ rfl (ai (bc _ _ rfl rfl (bq ab)) ?_))
    refine bA rfl rfl rfl (fh rfl rfl rfl (aQ rfl (ai (bf _ _ aa rfl rfl _ rfl ab (by (simp only [ba,bn,bl,bC,bz,bJ,bB,bM,ed];omega)) ag) ?_)))
    refine ai (di _ aa rfl rfl) (ai (bH _ aa rfl (by exact hg1) rfl) ?_)
    refine ai (aV _ _ aa rfl ag (by (simp <;> rfl)) ah rfl) ?_
    exact kJ rfl (aj (aC (aY (.inr rfl) rfl (.tmp (rfl:_=AV.sl _ _)) (Le.out [] [] (ix rfl (by simp [Cu,dz,Int.toNat_of_nonneg hn])) rfl rfl rfl trivial trivial))))
   ·skip
    have hs:dz i ⟨o,n⟩=[i+1]:=by
     unfold dz
     have h1:o≠ .stop:=fun e=> hc11 (opn_stop.2 e)
     have h2:o≠ .jump:=fun e=> hc13 (opn_jump.2 e)
     have h3:o≠ .unl:=fun e=> hc22 (opn_unl.2 e)
     cases o <;> first | rfl | exact absurd rfl h1 | exact absurd rfl h2 | exact absurd rfl h3
    refine bZ (am (aQ rfl (ai (bc _ _ rfl rfl (bq ab)) ?_)))
    refine ai (aV _ _ aa rfl ag (by (simp <;> rfl)) ah rfl) ?_
    refine kJ rfl (aj (aC ?_))
    rw [hs]
    exact aY (.inr rfl) rfl (.tmp (rfl:_=AV.sl _ _)) (Le.out [] [] (ix rfl (by simp [Cu])) rfl rfl rfl trivial trivial)
instance RA:Arr Tryz.prog 24 40 1:=Arr.of Tryz.underlying24 ae
instance Sh:Arr Tryz.prog 30 9 1:=Arr.of Tryz.underlying30 ae
instance TQ:Arr Tryz.prog 44 2 1:=Arr.of Tryz.underlying44 ae
instance Sq:Arr Tryz.prog 81 41 1:=Arr.of Tryz.underlying81 ae
instance Ri:Arr Tryz.prog 173 24 1:=Arr.of Tryz.underlying173 ae
instance Nh:Arr Tryz.prog 278 0 1:=Arr.of Tryz.underlying278 ae
end Go.Proofs.YtmjnackchaahbaaGreat
