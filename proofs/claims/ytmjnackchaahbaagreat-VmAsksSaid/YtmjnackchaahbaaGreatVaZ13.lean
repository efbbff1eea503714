/- Part 13 of the texts that the walk leans on: the machine, the walks, the plain laws. -/
import Derived.Test.YtmjnackchaahbaaGreatVaZ12
set_option linter.unusedSimpArgs false
set_option linter.unusedVariables false
namespace Go.Proofs.YtmjnackchaahbaaGreat
open Go.RowKit

section
variable {d v:List Tx} {no:Nat} {on:List PV}
theorem DW (n:Nat):CoS (uu d v no on) (nd 12 n [] []) (fun _=> [{ op:= .push,n:=(n:Int) }]):=fun a ha=> by
 refine Spec.ofN Tryz.func91 rfl Tryz.ntmps91 rfl ?_
 refine am (ai (bk (3,0) _ rfl rfl) (ai (bk (4,0) _ rfl rfl) (ai (bH _ (rfl:_=AV.v (.slice _ _ _))) (aj (aq (am (bF rfl rfl rfl (cI rfl rfl rfl (aj (au ?_))))))))))
 refine aq (eN rfl rfl rfl rfl rfl (aI (bD rfl rfl (am (bF rfl rfl rfl (cI rfl rfl rfl (ai (aA _ aa rfl (by exact (rfl:_=some [_,_]))) ?_)))))))
 refine ai (kf (19,0) _ _ aa rfl ag (by (simp <;> rfl)) ah rfl rfl) ?_
 exact eZ rfl (aj (aC (aY (.inr rfl) rfl (.tmp (rfl:_=AV.ref _ _ _)) (Le.out [((0,8),(19,0))] [] (dc rfl rfl) rfl rfl rfl trivial ob))))
theorem um (n:Nat):CoS (uu d v no on) (nd 13 n [] []) (fun _=> [{ op:= .push,n:=(n:Int) }]):=fun a ha=> by
 refine Spec.ofN Tryz.func91 rfl Tryz.ntmps91 rfl ?_
 refine am (ai (bk (3,0) _ rfl rfl) (ai (bk (4,0) _ rfl rfl) (ai (bH _ (rfl:_=AV.v (.slice _ _ _))) (aj (aq (am (bF rfl rfl rfl (cI rfl rfl rfl (aj (au ?_))))))))))
 refine aq (bP rfl rfl rfl rfl rfl (oR rfl rfl rfl rfl rfl (am (bF rfl rfl rfl (cI rfl rfl rfl (ai (aA _ aa rfl (by exact (rfl:_=some [_,_]))) ?_))))))
 refine ai (kf (19,0) _ _ aa rfl ag (by (simp <;> rfl)) ah rfl rfl) ?_
 exact eZ rfl (aj (aC (aY (.inr rfl) rfl (.tmp (rfl:_=AV.ref _ _ _)) (Le.out [((0,8),(19,0))] [] (dc rfl rfl) rfl rfl rfl trivial ob))))
theorem CX (hn:(d++v).Nodup) (hl:(d++v).length≤1000) (i:Nat) (hi:i < (d++v).length):CoS (uu d v no on) (nd 14 0 ((d++v).getD i []) []) (fun _=> [{ op:= .var,n:=(i:Int) }]):=fun a ha=> by
 refine Spec.ofN Tryz.func91 rfl Tryz.ntmps91 rfl ?_
 refine am (ai (bk (3,0) _ rfl rfl) (ai (bk (4,0) _ rfl rfl) (ai (bH _ (rfl:_=AV.v (.slice _ _ _))) (aj (aq (am (bF rfl rfl rfl (cI rfl rfl rfl (aj (au ?_))))))))))
 refine aq (bP rfl rfl rfl rfl rfl (cd rfl rfl rfl rfl rfl (eN rfl rfl rfl rfl rfl (am (ai (aP _ aa rfl rfl rfl rfl) (bF rfl rfl rfl (ai (aN _ aa rfl rfl (rfl:_=some (AV.v (.string _)))) (ai (aJ aa al (lj d v on no hn hl i hi) rfl rfl) ?_))))))))
 refine ai (aA _ aa rfl (by exact (rfl:_=some [_,_]))) ?_
 refine ai (kf (27,0) _ _ aa rfl ag (by (simp <;> rfl)) ah rfl rfl) ?_
 exact eZ rfl (aj (aC (aY (.inr rfl) rfl (.tmp (rfl:_=AV.ref _ _ _)) (Le.out [((0,8),(27,0))] [] (dc rfl rfl) rfl rfl rfl trivial ob))))
theorem BK (k:Nat) (hk:k < 9):CoS (uu d v no on) (nd 15 0 (bltT.getD k []) []) (fun _=> [{ op:= .name,n:=(k:Int) }]):=fun a ha=> by
 refine Spec.ofN Tryz.func91 rfl Tryz.ntmps91 rfl ?_
 refine am (ai (bk (3,0) _ rfl rfl) (ai (bk (4,0) _ rfl rfl) (ai (bH _ (rfl:_=AV.v (.slice _ _ _))) (aj (aq (am (bF rfl rfl rfl (cI rfl rfl rfl (aj (au ?_))))))))))
 refine aq (bP rfl rfl rfl rfl rfl (cd rfl rfl rfl rfl rfl (bP rfl rfl rfl rfl rfl (eN rfl rfl rfl rfl rfl (aq ?_)))))
 refine aM (σ':=aB 211 [(4,_)] [((4,0),_)] [] []) kp ?_
 refine bE 6 [30,31,32,33,34,35] [(35,0)] ae ae rfl (aL rfl) (rfl:_=[_,_,_,_,_,_]) (rfl:_=[_]) ?_
 refine ap (_,[]) (fun τ=> (aJ aa (by repeat' (exact dK)) (mY) rfl rfl)) ?_
 refine eL rfl ?_
 refine ap (_,[]) (fun τ=> aK _ aa rfl rfl rfl) ?_
 refine eK rfl ?_
 refine ap (_,[]) (fun τ=> aN _ aa rfl rfl (rfl:_=some (AV.v (.string _)))) ?_
 refine eM rfl ?_
 refine ap (_,[]) (fun τ=> (aJ aa al (wq bltT 9 rfl ab ah k hk) rfl rfl)) ?_
 refine eP rfl ?_
 refine ap (_,[]) (fun τ=> aA _ aa rfl (by exact (rfl:_=some [_,_]))) ?_
 refine fe rfl ?_
 refine ap (_,[((35,0),_)]) (fun τ=> kf (35,0) _ _ aa rfl ag (by (simp <;> rfl)) ah rfl rfl) ?_
 refine fB rfl (bh ⟨rfl,?_⟩)
 exact eZ rfl (aj (aC (aY (.inr rfl) rfl (.tmp (rfl:_=AV.ref _ _ _)) (Le.out [((0,8),(35,0))] [] (dc rfl rfl) rfl rfl rfl trivial ob))))
theorem xb (n:Nat):CoS (uu d v no on) (nd 5 n [] []) (fun _=> [{ op:= .timer,n:=(n:Int) }]):=fun a ha=> by
 refine Spec.ofN Tryz.func91 rfl Tryz.ntmps91 rfl ?_
 refine am (ai (bk (3,0) _ rfl rfl) (ai (bk (4,0) _ rfl rfl) (ai (bH _ (rfl:_=AV.v (.slice _ _ _))) (aj (aq (am (bF rfl rfl rfl (cI rfl rfl rfl (aj (au ?_))))))))))
 refine aq (bP rfl rfl rfl rfl rfl (cd rfl rfl rfl rfl rfl ?_))
 iterate 3 refine bP rfl rfl rfl rfl rfl ?_
 refine aq ?_
 refine aM (σ':=aB 211 [(2,_),(3,_),(4,_),(12,_)] [((3,0),_),((4,0),_)] [] []) kp ?_
 refine oR rfl rfl rfl rfl rfl (am (bF rfl rfl rfl (cI rfl rfl rfl (ai (aA _ aa rfl (by exact (rfl:_=some [_,_]))) ?_))))
 refine ai (kf (56,0) _ _ aa rfl ag (by (simp <;> rfl)) ah rfl rfl) ?_
 exact eZ rfl (aj (aC (aY (.inr rfl) rfl (.tmp (rfl:_=AV.ref _ _ _)) (Le.out [((0,8),(56,0))] [] (dc rfl rfl) rfl rfl rfl trivial ob))))
theorem wy (n:Nat):CoS (uu d v no on) (nd 6 n [] []) (fun _=> [{ op:= .cancel,n:=(n:Int) }]):=fun a ha=> by
 refine Spec.ofN Tryz.func91 rfl Tryz.ntmps91 rfl ?_
 refine am (ai (bk (3,0) _ rfl rfl) (ai (bk (4,0) _ rfl rfl) (ai (bH _ (rfl:_=AV.v (.slice _ _ _))) (aj (aq (am (bF rfl rfl rfl (cI rfl rfl rfl (aj (au ?_))))))))))
 refine aq (bP rfl rfl rfl rfl rfl (cd rfl rfl rfl rfl rfl ?_))
 iterate 3 refine bP rfl rfl rfl rfl rfl ?_
 refine aq ?_
 refine aM (σ':=aB 211 [(2,_),(3,_),(4,_),(12,_)] [((3,0),_),((4,0),_)] [] []) kp ?_
 refine cd rfl rfl rfl rfl rfl (eN rfl rfl rfl rfl rfl (am (bF rfl rfl rfl (cI rfl rfl rfl (ai (aA _ aa rfl (by exact (rfl:_=some [_,_]))) ?_)))))
 refine ai (kf (62,0) _ _ aa rfl ag (by (simp <;> rfl)) ah rfl rfl) ?_
 exact eZ rfl (aj (aC (aY (.inr rfl) rfl (.tmp (rfl:_=AV.ref _ _ _)) (Le.out [((0,8),(62,0))] [] (dc rfl rfl) rfl rfl rfl trivial ob))))
theorem co_sync:CoS (uu d v no on) (nd 7 0 [] []) (fun _=> [{ op:= .sync }]):=fun a ha=> by
 refine Spec.ofN Tryz.func91 rfl Tryz.ntmps91 rfl ?_
 refine am (ai (bk (3,0) _ rfl rfl) (ai (bk (4,0) _ rfl rfl) (ai (bH _ (rfl:_=AV.v (.slice _ _ _))) (aj (aq (am (bF rfl rfl rfl (cI rfl rfl rfl (aj (au ?_))))))))))
 refine aq (bP rfl rfl rfl rfl rfl (cd rfl rfl rfl rfl rfl ?_))
 iterate 3 refine bP rfl rfl rfl rfl rfl ?_
 refine aq ?_
 refine aM (σ':=aB 211 [(2,_),(3,_),(4,_),(12,_)] [((3,0),_),((4,0),_)] [] []) kp ?_
 refine cd rfl rfl rfl rfl rfl (bP rfl rfl rfl rfl rfl (eN rfl rfl rfl rfl rfl (am (ai (aA _ aa rfl (by exact (rfl:_=some [_,_]))) ?_))))
 refine ai (kf (66,0) _ _ aa rfl ag (by (simp <;> rfl)) ah rfl rfl) ?_
 exact eZ rfl (aj (aC (aY (.inr rfl) rfl (.tmp (rfl:_=AV.ref _ _ _)) (Le.out [((0,8),(66,0))] [] (dc rfl rfl) rfl rfl rfl trivial ob))))
theorem co_stop:CoS (uu d v no on) (nd 10 0 [] []) (fun _=> [{ op:= .stop }]):=fun a ha=> by
 refine Spec.ofN Tryz.func91 rfl Tryz.ntmps91 rfl ?_
 refine am (ai (bk (3,0) _ rfl rfl) (ai (bk (4,0) _ rfl rfl) (ai (bH _ (rfl:_=AV.v (.slice _ _ _))) (aj (aq (am (bF rfl rfl rfl (cI rfl rfl rfl (aj (au ?_))))))))))
 refine aq (bP rfl rfl rfl rfl rfl (cd rfl rfl rfl rfl rfl ?_))
 iterate 3 refine bP rfl rfl rfl rfl rfl ?_
 refine aq ?_
 refine aM (σ':=aB 211 [(2,_),(3,_),(4,_),(12,_)] [((3,0),_),((4,0),_)] [] []) kp ?_
 refine cd rfl rfl rfl rfl rfl ?_
 iterate 2 refine bP rfl rfl rfl rfl rfl ?_
 refine eN rfl rfl rfl rfl rfl (am (ai (aA _ aa rfl (by exact (rfl:_=some [_,_]))) ?_))
 refine ai (kf (70,0) _ _ aa rfl ag (by (simp <;> rfl)) ah rfl rfl) ?_
 exact eZ rfl (aj (aC (aY (.inr rfl) rfl (.tmp (rfl:_=AV.ref _ _ _)) (Le.out [((0,8),(70,0))] [] (dc rfl rfl) rfl rfl rfl trivial ob))))
theorem DB {c y z:Nd} {cc cy cz:Cd} (hc:CoS (uu d v no on) c cc) (hy:CoS (uu d v no on) y cy) (hz:CoS (uu d v no on) z cz):CoS (uu d v no on) (nd 2 0 [] [c,y,z]) (CE cc cy cz):=fun a ha=> by
 have hb:=jT (on:=on) c cc cy cz hc 1 1 (kL [y]) (kL [z]) 0 (fun a ha=> nq y cy hy 0 a ha) (fun a ha=> nq z cz hz 0 a ha) a ha
 refine Spec.ofN Tryz.func91 rfl Tryz.ntmps91 rfl ?_
 refine am (ai (bk (3,0) _ rfl rfl) (ai (bk (4,0) _ rfl rfl) (ai (bH _ (rfl:_=AV.v (.slice _ _ _))) (aj (aq (am (bF rfl rfl rfl (cI rfl rfl rfl (aj (au ?_))))))))))
 refine aq (bP rfl rfl rfl rfl rfl (cd rfl rfl rfl rfl rfl ?_))
 iterate 2 refine bP rfl rfl rfl rfl rfl ?_
 refine eN rfl rfl rfl rfl rfl (aq ?_)
 refine aM (σ':=aB 211 [(2,_),(3,_),(4,_)] [((3,0),_),((4,0),_)] [] []) kp ?_
 refine bE 12 [38,39,40,41,42,43,44,45,46,47,48,49] [] ae ae rfl (aL rfl) (rfl:_=[_,_,_,_,_,_,_,_,_,_,_,_]) (rfl:_=[_,_]) ?_
 refine ap (_,[]) (fun τ=> aP _ aa rfl rfl rfl rfl) ?_
 refine eL rfl ?_
 refine ap (_,[]) (fun τ=> aK _ aa rfl rfl rfl) ?_
 refine eK rfl ?_
 refine ap (_,[]) (fun τ=> aN _ aa rfl rfl (rfl:_=some (AV.sl _ _))) ?_
 refine eM rfl ?_
 refine ap (_,[]) (fun τ=> bf _ _ aa rfl rfl 0 rfl (show 0 < 3 by omega) (Nat.le_of_ble_eq_true rfl) rfl) ?_
 refine eP rfl ?_
 refine ap (_,[]) (fun τ=> cg _ aa rfl (by exact cE [c,y,z] 0 (by simp)) rfl) ?_
 refine fe rfl ?_
 refine ap (_,[]) (fun τ=> aK _ aa rfl rfl rfl) ?_
 refine fB rfl ?_
 refine ap (_,[]) (fun τ=> aN _ aa rfl rfl (rfl:_=some (AV.sl _ _))) ?_
 refine gy rfl ?_
 refine ap (_,[]) (fun τ=> kQ _ _ _ aa rfl 1 2 (.lit rfl rfl) (.lit rfl rfl) ab (show 2≤3 by omega) (show _=kL [y] from rfl) rfl) ?_
 refine jS rfl ?_
 refine ap (_,[]) (fun τ=> aK _ aa rfl rfl rfl) ?_
 refine kd rfl ?_
 refine ap (_,[]) (fun τ=> aN _ aa rfl rfl (rfl:_=some (AV.sl _ _))) ?_
 refine fW rfl ?_
 refine ap (_,[]) (fun τ=> kQ _ _ _ aa rfl 2 3 (.lit rfl rfl) (.lit rfl rfl) ab (show 3≤3 by omega) (show _=kL [z] from rfl) rfl) ?_
 refine gA rfl ?_
 refine ap (_,[]) (fun τ=> aD _ (rfl:_=AV.v (.int _ _))) ?_
 refine kA rfl (bh ⟨rfl,?_⟩)
 refine ai (dk aa [((0,8),(50,0))] ar (hb.toI) trivial tr ae) ?_
 exact eZ rfl (aj (aC (aY (.inr rfl) rfl (.tmp (rfl:_=AV.ref _ _ _)) (Le.out [((0,8),(50,0))] [] (dc rfl rfl) rfl rfl rfl trivial ob))))
theorem DK {c y:Nd} {cc cy:Cd} (hc:CoS (uu d v no on) c cc) (hy:CoS (uu d v no on) y cy):CoS (uu d v no on) (nd 18 0 [38,38] [c,y]) (CE cc cy (fun _=> [{ op:= .push,n:=0 }])):=fun a ha=> by
 have hb:=jT (on:=on) c cc cy (fun _=> [{ op:= .push,n:=0 }]) hc 1 0 (kL [y]) [] 0 (fun a ha=> nq y cy hy 0 a ha) (fun a _=> sg 0 a) a ha
 refine Spec.ofN Tryz.func91 rfl Tryz.ntmps91 rfl ?_
 refine am (ai (bk (3,0) _ rfl rfl) (ai (bk (4,0) _ rfl rfl) (ai (bH _ (rfl:_=AV.v (.slice _ _ _))) (aj (aq (am (bF rfl rfl rfl (cI rfl rfl rfl (aj (au ?_))))))))))
 refine aq (bP rfl rfl rfl rfl rfl (cd rfl rfl rfl rfl rfl ?_))
 iterate 3 refine bP rfl rfl rfl rfl rfl ?_
 refine aq ?_
 refine aM (σ':=aB 211 [(2,_),(3,_),(4,_),(12,_)] [((3,0),_),((4,0),_)] [] []) kp ?_
 refine cd rfl rfl rfl rfl rfl ?_
 iterate 4 refine bP rfl rfl rfl rfl rfl ?_
 refine cf (aq (am (bF rfl rfl rfl (cI rfl rfl rfl (jc rfl rfl rfl (cH rfl (ax rfl rfl (aK _ aa rfl rfl rfl) (ax rfl rfl (aN _ aa rfl rfl (rfl:_=some (AV.v (.string _)))) (ax rfl rfl (aT (r:=true) _ _ Tryz.underlying9 rfl rfl rfl) (ai (aF _ _ _ rfl (rfl:_=AV.v (.bool _))) ?_))))))))))
 refine aj (bD rfl rfl (aq ?_))
 refine aM (σ':=aB 211 [(2,_),(3,_),(4,_)] [((3,0),_),((4,0),_)] [] []) kp ?_
 refine bE 9 [119,120,121,122,123,124,125,126,127] [] ae ae rfl (aL rfl) (rfl:_=[_,_,_,_,_,_,_,_,_]) (rfl:_=[_,_]) ?_
 refine ap (_,[]) (fun τ=> aP _ aa rfl rfl rfl rfl) ?_
 refine eL rfl ?_
 refine ap (_,[]) (fun τ=> aK _ aa rfl rfl rfl) ?_
 refine eK rfl ?_
 refine ap (_,[]) (fun τ=> aN _ aa rfl rfl (rfl:_=some (AV.sl _ _))) ?_
 refine eM rfl ?_
 refine ap (_,[]) (fun τ=> bf _ _ aa rfl rfl 0 rfl (show 0 < 2 by omega) (Nat.le_of_ble_eq_true rfl) rfl) ?_
 refine eP rfl ?_
 refine ap (_,[]) (fun τ=> cg _ aa rfl (by exact cE [c,y] 0 (by simp)) rfl) ?_
 refine fe rfl ?_
 refine ap (_,[]) (fun τ=> aK _ aa rfl rfl rfl) ?_
 refine fB rfl ?_
 refine ap (_,[]) (fun τ=> aN _ aa rfl rfl (rfl:_=some (AV.sl _ _))) ?_
 refine gy rfl ?_
 refine ap (_,[]) (fun τ=> kQ _ _ _ aa rfl 1 2 (.lit rfl rfl) (.lit rfl rfl) ab (show 2≤2 by omega) (show _=kL [y] from rfl) rfl) ?_
 refine jS rfl ?_
 refine ap (_,[]) (fun τ=> aD _ (rfl:_=AV.v (.int _ _))) ?_
 refine kd rfl (bh ⟨rfl,?_⟩)
 refine ai (dk aa [((0,8),(50,0))] ar (hb.toI) trivial tr ae) ?_
 exact eZ rfl (aj (aC (aY (.inr rfl) rfl (.tmp (rfl:_=AV.ref _ _ _)) (Le.out [((0,8),(50,0))] [] (dc rfl rfl) rfl rfl rfl trivial ob))))
theorem FI {c y:Nd} {cc cy:Cd} (hc:CoS (uu d v no on) c cc) (hy:CoS (uu d v no on) y cy):CoS (uu d v no on) (nd 18 0 [124,124] [c,y]) (CE cc (fun _=> [{ op:= .push,n:=1 }]) cy):=fun a ha=> by
 have hb:=jT (on:=on) c cc (fun _=> [{ op:= .push,n:=1 }]) cy hc 0 1 [] (kL [y]) 1 (fun a _=> sg 1 a) (fun a ha=> nq y cy hy 1 a ha) a ha
 refine Spec.ofN Tryz.func91 rfl Tryz.ntmps91 rfl ?_
 refine am (ai (bk (3,0) _ rfl rfl) (ai (bk (4,0) _ rfl rfl) (ai (bH _ (rfl:_=AV.v (.slice _ _ _))) (aj (aq (am (bF rfl rfl rfl (cI rfl rfl rfl (aj (au ?_))))))))))
 refine aq (bP rfl rfl rfl rfl rfl (cd rfl rfl rfl rfl rfl ?_))
 iterate 3 refine bP rfl rfl rfl rfl rfl ?_
 refine aq ?_
 refine aM (σ':=aB 211 [(2,_),(3,_),(4,_),(12,_)] [((3,0),_),((4,0),_)] [] []) kp ?_
 refine cd rfl rfl rfl rfl rfl ?_
 iterate 4 refine bP rfl rfl rfl rfl rfl ?_
 refine cf (aq (am (bF rfl rfl rfl (cI rfl rfl rfl (jc rfl rfl rfl (cH rfl (ax rfl rfl (aK _ aa rfl rfl rfl) (ax rfl rfl (aN _ aa rfl rfl (rfl:_=some (AV.v (.string _)))) (ax rfl rfl (aT (r:=false) _ _ Tryz.underlying9 rfl rfl rfl) (ai (aF _ _ _ rfl (rfl:_=AV.v (.bool _))) ?_))))))))))
 refine aj (aQ rfl rfl (aI (aq (aq ?_))))
 refine aM (σ':=aB 211 [(2,_),(3,_),(4,_)] [((3,0),_),((4,0),_)] [] []) kp ?_
 refine an (bF rfl rfl rfl (cI rfl rfl rfl (jc rfl rfl rfl (cH rfl (ax rfl rfl (aK _ aa rfl rfl rfl) (ax rfl rfl (aN _ aa rfl rfl (rfl:_=some (AV.v (.string _)))) (ax rfl rfl (aT (r:=true) _ _ Tryz.underlying9 rfl rfl rfl) (ai (aF _ _ _ rfl (rfl:_=AV.v (.bool _))) (aj (bD rfl rfl ?_))))))))))
 refine aq ?_
 refine aM (σ':=aB 211 [(2,_),(3,_),(4,_)] [((3,0),_),((4,0),_)] [] []) kp ?_
 refine bE 9 [137,138,139,140,141,142,143,144,145] [] ae ae rfl (aL rfl) (rfl:_=[_,_,_,_,_,_,_,_,_]) (rfl:_=[_,_]) ?_
 refine ap (_,[]) (fun τ=> aP _ aa rfl rfl rfl rfl) ?_
 refine eL rfl ?_
 refine ap (_,[]) (fun τ=> aK _ aa rfl rfl rfl) ?_
 refine eK rfl ?_
 refine ap (_,[]) (fun τ=> aN _ aa rfl rfl (rfl:_=some (AV.sl _ _))) ?_
 refine eM rfl ?_
 refine ap (_,[]) (fun τ=> bf _ _ aa rfl rfl 0 rfl (show 0 < 2 by omega) (Nat.le_of_ble_eq_true rfl) rfl) ?_
 refine eP rfl ?_
 refine ap (_,[]) (fun τ=> cg _ aa rfl (by exact cE [c,y] 0 (by simp)) rfl) ?_
 refine fe rfl ?_
 refine ap (_,[]) (fun τ=> aK _ aa rfl rfl rfl) ?_
 refine fB rfl ?_
 refine ap (_,[]) (fun τ=> aN _ aa rfl rfl (rfl:_=some (AV.sl _ _))) ?_
 refine gy rfl ?_
 refine ap (_,[]) (fun τ=> kQ _ _ _ aa rfl 1 2 (.lit rfl rfl) (.lit rfl rfl) ab (show 2≤2 by omega) (show _=kL [y] from rfl) rfl) ?_
 refine jS rfl ?_
 refine ap (_,[]) (fun τ=> aD _ (rfl:_=AV.v (.int _ _))) ?_
 refine kd rfl (bh ⟨rfl,?_⟩)
 refine ai (dk aa [((0,8),(50,0))] ar (hb.toI) trivial tr ae) ?_
 exact eZ rfl (aj (aC (aY (.inr rfl) rfl (.tmp (rfl:_=AV.ref _ _ _)) (Le.out [((0,8),(50,0))] [] (dc rfl rfl) rfl rfl rfl trivial ob))))
theorem Bp {L:List Nd} {cs:List Cd} (hc:cs.length=L.length) (hk:kY (uu d v no on) L cs):CoS (uu d v no on) (nd 16 0 [] L) (fun a=> cM cs a++[{ op:= .draw }]):=fun a ha=> by
 have hl2:a+(cM cs a).length≤1000000:=by simp only [List.length_append] at ha;omega
 have hq:=dw (d:=d) (v:=v) (no:=no) (on:=on) L cs hc hk a hl2
 refine Spec.ofN Tryz.func91 rfl Tryz.ntmps91 rfl ?_
 refine am (ai (bk (3,0) _ rfl rfl) (ai (bk (4,0) _ rfl rfl) (ai (bH _ (rfl:_=AV.v (.slice _ _ _))) (aj (aq (am (bF rfl rfl rfl (cI rfl rfl rfl (aj (au ?_))))))))))
 refine aq (bP rfl rfl rfl rfl rfl (cd rfl rfl rfl rfl rfl ?_))
 iterate 3 refine bP rfl rfl rfl rfl rfl ?_
 refine aq ?_
 refine aM (σ':=aB 211 [(2,_),(3,_),(4,_),(12,_)] [((3,0),_),((4,0),_)] [] []) kp ?_
 refine cd rfl rfl rfl rfl rfl ?_
 iterate 4 refine bP rfl rfl rfl rfl rfl ?_
 refine cf (aq (am (bF rfl rfl rfl (cI rfl rfl rfl (eI rfl rfl rfl (cH rfl (aX rfl rfl ah ?_)))))))
 refine aX rfl rfl ah ?_
 refine aX rfl rfl ah ?_
 refine ai (aF _ _ _ rfl (rfl:_=AV.v (.bool _))) (aj (aQ rfl rfl (aI (aq (aq ?_)))))
 refine aM (σ':=aB 211 [(2,_),(3,_),(4,_)] [((3,0),_),((4,0),_)] [] []) kp ?_
 refine an (bF rfl rfl rfl (cI rfl rfl rfl (eI rfl rfl rfl (cH rfl (aX rfl rfl ah ?_)))))
 refine aX rfl rfl ah ?_
 refine aX rfl rfl ah ?_
 refine ai (aF _ _ _ rfl (rfl:_=AV.v (.bool _))) (aj (aQ rfl rfl (aI (am (ai (aP _ aa rfl rfl rfl rfl) (bF rfl rfl rfl (fK rfl rfl rfl (aR rfl (ai (dk aa [((0,8),(50,0))] ar (hq.toI) trivial tr ae) ?_)))))))))
 refine eZ rfl (aj (aq (am (bF rfl rfl rfl (cI rfl rfl rfl (aj (au (aq ?_))))))))
 refine aM (σ':=aB 211 [(3,_),(4,_),(10,_),(153,_)] [((3,0),_),((4,0),_),((50,0),_)] [] []) kp ?_
 refine cd rfl rfl rfl rfl rfl (eN rfl rfl rfl rfl rfl (am (gG rfl (ai (aA _ aa rfl (by exact (rfl:_=some [_,_]))) ?_))))
 refine ai (aU _ _ aa rfl ag (by (simp <;> rfl)) ah rfl) ?_
 refine ai (dg (166,0) _ _ aa rfl rfl (bK _).symm (.sl rfl) ab rfl (ey _ { op:= .draw }) (show (cM cs a).length+1=(cM cs a++[({ op:= .draw }:ek)]).length by simp)) ?_
 exact eZ rfl (aj (aC (aY (.inr rfl) rfl (.tmp (rfl:_=AV.ref _ _ _)) (Le.out [((0,8),(166,0))] [] (dc rfl rfl) rfl rfl rfl trivial ob))))
theorem Dw {L:List Nd} {cs:List Cd} (hc:cs.length=L.length) (hk:kY (uu d v no on) L cs):CoS (uu d v no on) (nd 17 0 [45] L) (fun a=> cM cs a++[{ op:= .neg }]):=fun a ha=> by
 have hl2:a+(cM cs a).length≤1000000:=by simp only [List.length_append] at ha;omega
 have hq:=dw (d:=d) (v:=v) (no:=no) (on:=on) L cs hc hk a hl2
 refine Spec.ofN Tryz.func91 rfl Tryz.ntmps91 rfl ?_
 refine am (ai (bk (3,0) _ rfl rfl) (ai (bk (4,0) _ rfl rfl) (ai (bH _ (rfl:_=AV.v (.slice _ _ _))) (aj (aq (am (bF rfl rfl rfl (cI rfl rfl rfl (aj (au ?_))))))))))
 refine aq (bP rfl rfl rfl rfl rfl (cd rfl rfl rfl rfl rfl ?_))
 iterate 3 refine bP rfl rfl rfl rfl rfl ?_
 refine aq ?_
 refine aM (σ':=aB 211 [(2,_),(3,_),(4,_),(12,_)] [((3,0),_),((4,0),_)] [] []) kp ?_
 refine cd rfl rfl rfl rfl rfl ?_
 iterate 4 refine bP rfl rfl rfl rfl rfl ?_
 refine cf (aq (am (bF rfl rfl rfl (cI rfl rfl rfl (eI rfl rfl rfl (cH rfl (aX rfl rfl ah ?_)))))))
 refine aX rfl rfl ah ?_
 refine aX rfl rfl ah ?_
 refine ai (aF _ _ _ rfl (rfl:_=AV.v (.bool _))) (aj (aQ rfl rfl (aI (aq (aq ?_)))))
 refine aM (σ':=aB 211 [(2,_),(3,_),(4,_)] [((3,0),_),((4,0),_)] [] []) kp ?_
 refine an (bF rfl rfl rfl (cI rfl rfl rfl (eI rfl rfl rfl (cH rfl (aX rfl rfl ah ?_)))))
 refine aX rfl rfl ah ?_
 refine aX rfl rfl ah ?_
 refine ai (aF _ _ _ rfl (rfl:_=AV.v (.bool _))) (aj (aQ rfl rfl (aI (am (ai (aP _ aa rfl rfl rfl rfl) (bF rfl rfl rfl (fK rfl rfl rfl (aR rfl (ai (dk aa [((0,8),(50,0))] ar (hq.toI) trivial tr ae) ?_)))))))))
 refine eZ rfl (aj (aq (am (bF rfl rfl rfl (cI rfl rfl rfl (aj (au (aq ?_))))))))
 refine aM (σ':=aB 211 [(3,_),(4,_),(10,_),(153,_)] [((3,0),_),((4,0),_),((50,0),_)] [] []) kp ?_
 refine cd rfl rfl rfl rfl rfl (bP rfl rfl rfl rfl rfl (eN rfl rfl rfl rfl rfl (aq (am (bF rfl rfl rfl (ai (aN _ aa rfl rfl (rfl:_=some (AV.v (.string _)))) (ai (aT (r:=true) _ _ Tryz.underlying9 rfl rfl rfl) (aj (bD rfl rfl (am ?_))))))))))
 refine gG rfl (ai (aA _ aa rfl (by exact (rfl:_=some [_,_]))) ?_)
 refine ai (aU _ _ aa rfl ag (by (simp <;> rfl)) ah rfl) ?_
 refine ai (dg (175,0) _ _ aa rfl rfl (bK _).symm (.sl rfl) ab rfl (ey _ { op:= .neg }) (show (cM cs a).length+1=(cM cs a++[({ op:= .neg }:ek)]).length by simp)) ?_
 exact eZ rfl (aj (aC (aY (.inr rfl) rfl (.tmp (rfl:_=AV.ref _ _ _)) (Le.out [((0,8),(175,0))] [] (dc rfl rfl) rfl rfl rfl trivial ob))))
theorem Ea {L:List Nd} {cs:List Cd} (hc:cs.length=L.length) (hk:kY (uu d v no on) L cs):CoS (uu d v no on) (nd 17 0 [33] L) (fun a=> cM cs a++[{ op:= .not }]):=fun a ha=> by
 have hl2:a+(cM cs a).length≤1000000:=by simp only [List.length_append] at ha;omega
 have hq:=dw (d:=d) (v:=v) (no:=no) (on:=on) L cs hc hk a hl2
 refine Spec.ofN Tryz.func91 rfl Tryz.ntmps91 rfl ?_
 refine am (ai (bk (3,0) _ rfl rfl) (ai (bk (4,0) _ rfl rfl) (ai (bH _ (rfl:_=AV.v (.slice _ _ _))) (aj (aq (am (bF rfl rfl rfl (cI rfl rfl rfl (aj (au ?_))))))))))
 refine aq (bP rfl rfl rfl rfl rfl (cd rfl rfl rfl rfl rfl ?_))
 iterate 3 refine bP rfl rfl rfl rfl rfl ?_
 refine aq ?_
 refine aM (σ':=aB 211 [(2,_),(3,_),(4,_),(12,_)] [((3,0),_),((4,0),_)] [] []) kp ?_
 refine cd rfl rfl rfl rfl rfl ?_
 iterate 4 refine bP rfl rfl rfl rfl rfl ?_
 refine cf (aq (am (bF rfl rfl rfl (cI rfl rfl rfl (eI rfl rfl rfl (cH rfl (aX rfl rfl ah ?_)))))))
 refine aX rfl rfl ah ?_
 refine aX rfl rfl ah ?_
 refine ai (aF _ _ _ rfl (rfl:_=AV.v (.bool _))) (aj (aQ rfl rfl (aI (aq (aq ?_)))))
 refine aM (σ':=aB 211 [(2,_),(3,_),(4,_)] [((3,0),_),((4,0),_)] [] []) kp ?_
 refine an (bF rfl rfl rfl (cI rfl rfl rfl (eI rfl rfl rfl (cH rfl (aX rfl rfl ah ?_)))))
 refine aX rfl rfl ah ?_
 refine aX rfl rfl ah ?_
 refine ai (aF _ _ _ rfl (rfl:_=AV.v (.bool _))) (aj (aQ rfl rfl (aI (am (ai (aP _ aa rfl rfl rfl rfl) (bF rfl rfl rfl (fK rfl rfl rfl (aR rfl (ai (dk aa [((0,8),(50,0))] ar (hq.toI) trivial tr ae) ?_)))))))))
 refine eZ rfl (aj (aq (am (bF rfl rfl rfl (cI rfl rfl rfl (aj (au (aq ?_))))))))
 refine aM (σ':=aB 211 [(3,_),(4,_),(10,_),(153,_)] [((3,0),_),((4,0),_),((50,0),_)] [] []) kp ?_
 refine cd rfl rfl rfl rfl rfl (bP rfl rfl rfl rfl rfl (eN rfl rfl rfl rfl rfl (aq (am (bF rfl rfl rfl (ai (aN _ aa rfl rfl (rfl:_=some (AV.v (.string _)))) (ai (aT (r:=false) _ _ Tryz.underlying9 rfl rfl rfl) (aj (aQ rfl rfl (aI ?_))))))))))
 refine am (gG rfl (ai (aA _ aa rfl (by exact (rfl:_=some [_,_]))) ?_))
 refine ai (aU _ _ aa rfl ag (by (simp <;> rfl)) ah rfl) ?_
 refine ai (dg (179,0) _ _ aa rfl rfl (bK _).symm (.sl rfl) ab rfl (ey _ { op:= .not }) (show (cM cs a).length+1=(cM cs a++[({ op:= .not }:ek)]).length by simp)) ?_
 exact eZ rfl (aj (aC (aY (.inr rfl) rfl (.tmp (rfl:_=AV.ref _ _ _)) (Le.out [((0,8),(179,0))] [] (dc rfl rfl) rfl rfl rfl trivial ob))))
theorem vh {L:List Nd} {cs:List Cd} (hc:cs.length=L.length) (hk:kY (uu d v no on) L cs) (hn:(d++v).Nodup) (hl:(d++v).length≤1000) (i:Nat) (hi:i < (d++v).length):CoS (uu d v no on) (nd 1 0 ((d++v).getD i []) L) (fun a=> cM cs a++[{ op:= .setVar,n:=(i:Int) }]):=fun a ha=> by
 have hl2:a+(cM cs a).length≤1000000:=by simp only [List.length_append] at ha;omega
 have hq:=dw (d:=d) (v:=v) (no:=no) (on:=on) L cs hc hk a hl2
 refine Spec.ofN Tryz.func91 rfl Tryz.ntmps91 rfl ?_
 refine am (ai (bk (3,0) _ rfl rfl) (ai (bk (4,0) _ rfl rfl) (ai (bH _ (rfl:_=AV.v (.slice _ _ _))) (aj (aq (am (bF rfl rfl rfl (cI rfl rfl rfl (aj (au ?_))))))))))
 refine aq (bP rfl rfl rfl rfl rfl (cd rfl rfl rfl rfl rfl ?_))
 iterate 3 refine bP rfl rfl rfl rfl rfl ?_
 refine aq ?_
 refine aM (σ':=aB 211 [(2,_),(3,_),(4,_),(12,_)] [((3,0),_),((4,0),_)] [] []) kp ?_
 refine cd rfl rfl rfl rfl rfl ?_
 iterate 4 refine bP rfl rfl rfl rfl rfl ?_
 refine cf (aq (am (bF rfl rfl rfl (cI rfl rfl rfl (eI rfl rfl rfl (cH rfl (aX rfl rfl ah ?_)))))))
 refine aX rfl rfl ah ?_
 refine aX rfl rfl ah ?_
 refine ai (aF _ _ _ rfl (rfl:_=AV.v (.bool _))) (aj (aQ rfl rfl (aI (aq (aq ?_)))))
 refine aM (σ':=aB 211 [(2,_),(3,_),(4,_)] [((3,0),_),((4,0),_)] [] []) kp ?_
 refine an (bF rfl rfl rfl (cI rfl rfl rfl (eI rfl rfl rfl (cH rfl (aX rfl rfl ah ?_)))))
 refine aX rfl rfl ah ?_
 refine aX rfl rfl ah ?_
 refine ai (aF _ _ _ rfl (rfl:_=AV.v (.bool _))) (aj (aQ rfl rfl (aI (am (ai (aP _ aa rfl rfl rfl rfl) (bF rfl rfl rfl (fK rfl rfl rfl (aR rfl (ai (dk aa [((0,8),(50,0))] ar (hq.toI) trivial tr ae) ?_)))))))))
 refine eZ rfl (aj (aq (am (bF rfl rfl rfl (cI rfl rfl rfl (aj (au (aq ?_))))))))
 refine aM (σ':=aB 211 [(3,_),(4,_),(10,_),(153,_)] [((3,0),_),((4,0),_),((50,0),_)] [] []) kp ?_
 refine cd rfl rfl rfl rfl rfl ?_
 iterate 2 refine bP rfl rfl rfl rfl rfl ?_
 refine eN rfl rfl rfl rfl rfl (am (gG rfl (ai (aP _ aa rfl rfl rfl rfl) (bF rfl rfl rfl (ai (aN _ aa rfl rfl (rfl:_=some (AV.v (.string _)))) (ai (aJ aa al (lj d v on no hn hl i hi) rfl rfl) ?_))))))
 refine ai (aA _ aa rfl (by exact (rfl:_=some [_,_]))) ?_
 refine ai (aU _ _ aa rfl ag (by (simp <;> rfl)) ah rfl) ?_
 refine ai (dg (189,0) _ _ aa rfl rfl (bK _).symm (.sl rfl) ab rfl (ey _ { op:= .setVar,n:=(i:Int) }) (show (cM cs a).length+1=(cM cs a++[({ op:= .setVar,n:=(i:Int) }:ek)]).length by simp)) ?_
 exact eZ rfl (aj (aC (aY (.inr rfl) rfl (.tmp (rfl:_=AV.ref _ _ _)) (Le.out [((0,8),(189,0))] [] (dc rfl rfl) rfl rfl rfl trivial ob))))
theorem AI {L:List Nd} {cs:List Cd} (hc:cs.length=L.length) (hk:kY (uu d v no on) L cs) (n:Nat):CoS (uu d v no on) (nd 4 n [] L) (fun a=> cM cs a++[{ op:= .send,n:=(n:Int) }]):=fun a ha=> by
 have hl2:a+(cM cs a).length≤1000000:=by simp only [List.length_append] at ha;omega
 have hq:=dw (d:=d) (v:=v) (no:=no) (on:=on) L cs hc hk a hl2
 refine Spec.ofN Tryz.func91 rfl Tryz.ntmps91 rfl ?_
 refine am (ai (bk (3,0) _ rfl rfl) (ai (bk (4,0) _ rfl rfl) (ai (bH _ (rfl:_=AV.v (.slice _ _ _))) (aj (aq (am (bF rfl rfl rfl (cI rfl rfl rfl (aj (au ?_))))))))))
 refine aq (bP rfl rfl rfl rfl rfl (cd rfl rfl rfl rfl rfl ?_))
 iterate 3 refine bP rfl rfl rfl rfl rfl ?_
 refine aq ?_
 refine aM (σ':=aB 211 [(2,_),(3,_),(4,_),(12,_)] [((3,0),_),((4,0),_)] [] []) kp ?_
 refine cd rfl rfl rfl rfl rfl ?_
 iterate 4 refine bP rfl rfl rfl rfl rfl ?_
 refine cf (aq (am (bF rfl rfl rfl (cI rfl rfl rfl (eI rfl rfl rfl (cH rfl (aX rfl rfl ah ?_)))))))
 refine aX rfl rfl ah ?_
 refine aX rfl rfl ah ?_
 refine ai (aF _ _ _ rfl (rfl:_=AV.v (.bool _))) (aj (aQ rfl rfl (aI (aq (aq ?_)))))
 refine aM (σ':=aB 211 [(2,_),(3,_),(4,_)] [((3,0),_),((4,0),_)] [] []) kp ?_
 refine an (bF rfl rfl rfl (cI rfl rfl rfl (eI rfl rfl rfl (cH rfl (aX rfl rfl ah ?_)))))
 refine aX rfl rfl ah ?_
 refine aX rfl rfl ah ?_
 refine ai (aF _ _ _ rfl (rfl:_=AV.v (.bool _))) (aj (aQ rfl rfl (aI (am (ai (aP _ aa rfl rfl rfl rfl) (bF rfl rfl rfl (fK rfl rfl rfl (aR rfl (ai (dk aa [((0,8),(50,0))] ar (hq.toI) trivial tr ae) ?_)))))))))
 refine eZ rfl (aj (aq (am (bF rfl rfl rfl (cI rfl rfl rfl (aj (au (aq ?_))))))))
 refine aM (σ':=aB 211 [(3,_),(4,_),(10,_),(153,_)] [((3,0),_),((4,0),_),((50,0),_)] [] []) kp ?_
 refine cd rfl rfl rfl rfl rfl ?_
 iterate 3 refine bP rfl rfl rfl rfl rfl ?_
 refine eN rfl rfl rfl rfl rfl (am (gG rfl (bF rfl rfl rfl (cI rfl rfl rfl (ai (aA _ aa rfl (by exact (rfl:_=some [_,_]))) ?_)))))
 refine ai (aU _ _ aa rfl ag (by (simp <;> rfl)) ah rfl) ?_
 refine ai (dg (197,0) _ _ aa rfl rfl (bK _).symm (.sl rfl) ab rfl (ey _ { op:= .send,n:=(n:Int) }) (show (cM cs a).length+1=(cM cs a++[({ op:= .send,n:=(n:Int) }:ek)]).length by simp)) ?_
 exact eZ rfl (aj (aC (aY (.inr rfl) rfl (.tmp (rfl:_=AV.ref _ _ _)) (Le.out [((0,8),(197,0))] [] (dc rfl rfl) rfl rfl rfl trivial ob))))
theorem xI {L:List Nd} {cs:List Cd} (hc:cs.length=L.length) (hk:kY (uu d v no on) L cs):CoS (uu d v no on) (nd 8 0 [] L) (fun a=> cM cs a++[{ op:= .reply }]):=fun a ha=> by
 have hl2:a+(cM cs a).length≤1000000:=by simp only [List.length_append] at ha;omega
 have hq:=dw (d:=d) (v:=v) (no:=no) (on:=on) L cs hc hk a hl2
 refine Spec.ofN Tryz.func91 rfl Tryz.ntmps91 rfl ?_
 refine am (ai (bk (3,0) _ rfl rfl) (ai (bk (4,0) _ rfl rfl) (ai (bH _ (rfl:_=AV.v (.slice _ _ _))) (aj (aq (am (bF rfl rfl rfl (cI rfl rfl rfl (aj (au ?_))))))))))
 refine aq (bP rfl rfl rfl rfl rfl (cd rfl rfl rfl rfl rfl ?_))
 iterate 3 refine bP rfl rfl rfl rfl rfl ?_
 refine aq ?_
 refine aM (σ':=aB 211 [(2,_),(3,_),(4,_),(12,_)] [((3,0),_),((4,0),_)] [] []) kp ?_
 refine cd rfl rfl rfl rfl rfl ?_
 iterate 4 refine bP rfl rfl rfl rfl rfl ?_
 refine cf (aq (am (bF rfl rfl rfl (cI rfl rfl rfl (eI rfl rfl rfl (cH rfl (aX rfl rfl ah ?_)))))))
 refine aX rfl rfl ah ?_
 refine aX rfl rfl ah ?_
 refine ai (aF _ _ _ rfl (rfl:_=AV.v (.bool _))) (aj (aQ rfl rfl (aI (aq (aq ?_)))))
 refine aM (σ':=aB 211 [(2,_),(3,_),(4,_)] [((3,0),_),((4,0),_)] [] []) kp ?_
 refine an (bF rfl rfl rfl (cI rfl rfl rfl (eI rfl rfl rfl (cH rfl (aX rfl rfl ah ?_)))))
 refine aX rfl rfl ah ?_
 refine aX rfl rfl ah ?_
 refine ai (aF _ _ _ rfl (rfl:_=AV.v (.bool _))) (aj (aQ rfl rfl (aI (am (ai (aP _ aa rfl rfl rfl rfl) (bF rfl rfl rfl (fK rfl rfl rfl (aR rfl (ai (dk aa [((0,8),(50,0))] ar (hq.toI) trivial tr ae) ?_)))))))))
 refine eZ rfl (aj (aq (am (bF rfl rfl rfl (cI rfl rfl rfl (aj (au (aq ?_))))))))
 refine aM (σ':=aB 211 [(3,_),(4,_),(10,_),(153,_)] [((3,0),_),((4,0),_),((50,0),_)] [] []) kp ?_
 refine cd rfl rfl rfl rfl rfl ?_
 iterate 4 refine bP rfl rfl rfl rfl rfl ?_
 refine eN rfl rfl rfl rfl rfl (am (gG rfl (ai (aA _ aa rfl (by exact (rfl:_=some [_,_]))) ?_)))
 refine ai (aU _ _ aa rfl ag (by (simp <;> rfl)) ah rfl) ?_
 refine ai (dg (203,0) _ _ aa rfl rfl (bK _).symm (.sl rfl) ab rfl (ey _ { op:= .reply }) (show (cM cs a).length+1=(cM cs a++[({ op:= .reply }:ek)]).length by simp)) ?_
 exact eZ rfl (aj (aC (aY (.inr rfl) rfl (.tmp (rfl:_=AV.ref _ _ _)) (Le.out [((0,8),(203,0))] [] (dc rfl rfl) rfl rfl rfl trivial ob))))
theorem AZ {L:List Nd} {cs:List Cd} (hc:cs.length=L.length) (hk:kY (uu d v no on) L cs):CoS (uu d v no on) (nd 9 0 [] L) (fun a=> cM cs a++[{ op:= .fail }]):=fun a ha=> by
 have hl2:a+(cM cs a).length≤1000000:=by simp only [List.length_append] at ha;omega
 have hq:=dw (d:=d) (v:=v) (no:=no) (on:=on) L cs hc hk a hl2
 refine Spec.ofN Tryz.func91 rfl Tryz.ntmps91 rfl ?_
 refine am (ai (bk (3,0) _ rfl rfl) (ai (bk (4,0) _ rfl rfl) (ai (bH _ (rfl:_=AV.v (.slice _ _ _))) (aj (aq (am (bF rfl rfl rfl (cI rfl rfl rfl (aj (au ?_))))))))))
 refine aq (bP rfl rfl rfl rfl rfl (cd rfl rfl rfl rfl rfl ?_))
 iterate 3 refine bP rfl rfl rfl rfl rfl ?_
 refine aq ?_
 refine aM (σ':=aB 211 [(2,_),(3,_),(4,_),(12,_)] [((3,0),_),((4,0),_)] [] []) kp ?_
 refine cd rfl rfl rfl rfl rfl ?_
 iterate 4 refine bP rfl rfl rfl rfl rfl ?_
 refine cf (aq (am (bF rfl rfl rfl (cI rfl rfl rfl (eI rfl rfl rfl (cH rfl (aX rfl rfl ah ?_)))))))
 refine aX rfl rfl ah ?_
 refine aX rfl rfl ah ?_
 refine ai (aF _ _ _ rfl (rfl:_=AV.v (.bool _))) (aj (aQ rfl rfl (aI (aq (aq ?_)))))
 refine aM (σ':=aB 211 [(2,_),(3,_),(4,_)] [((3,0),_),((4,0),_)] [] []) kp ?_
 refine an (bF rfl rfl rfl (cI rfl rfl rfl (eI rfl rfl rfl (cH rfl (aX rfl rfl ah ?_)))))
 refine aX rfl rfl ah ?_
 refine aX rfl rfl ah ?_
 refine ai (aF _ _ _ rfl (rfl:_=AV.v (.bool _))) (aj (aQ rfl rfl (aI (am (ai (aP _ aa rfl rfl rfl rfl) (bF rfl rfl rfl (fK rfl rfl rfl (aR rfl (ai (dk aa [((0,8),(50,0))] ar (hq.toI) trivial tr ae) ?_)))))))))
 refine eZ rfl (aj (aq (am (bF rfl rfl rfl (cI rfl rfl rfl (aj (au (aq ?_))))))))
 refine aM (σ':=aB 211 [(3,_),(4,_),(10,_),(153,_)] [((3,0),_),((4,0),_),((50,0),_)] [] []) kp ?_
 refine cd rfl rfl rfl rfl rfl ?_
 iterate 5 refine bP rfl rfl rfl rfl rfl ?_
 refine eN rfl rfl rfl rfl rfl (am (gG rfl (ai (aA _ aa rfl (by exact (rfl:_=some [_,_]))) ?_)))
 refine ai (aU _ _ aa rfl ag (by (simp <;> rfl)) ah rfl) ?_
 refine ai (dg (209,0) _ _ aa rfl rfl (bK _).symm (.sl rfl) ab rfl (ey _ { op:= .fail }) (show (cM cs a).length+1=(cM cs a++[({ op:= .fail }:ek)]).length by simp)) ?_
 exact eZ rfl (aj (aC (aY (.inr rfl) rfl (.tmp (rfl:_=AV.ref _ _ _)) (Le.out [((0,8),(209,0))] [] (dc rfl rfl) rfl rfl rfl trivial ob))))
theorem xY {L:List Nd} {cs:List Cd} (hc:cs.length=L.length) (hk:kY (uu d v no on) L cs):CoS (uu d v no on) (nd 11 0 [] L) (fun a=> cM cs a):=fun a ha=> by
 have hl2:a+(cM cs a).length≤1000000:=ha
 have hq:=dw (d:=d) (v:=v) (no:=no) (on:=on) L cs hc hk a hl2
 refine Spec.ofN Tryz.func91 rfl Tryz.ntmps91 rfl ?_
 refine am (ai (bk (3,0) _ rfl rfl) (ai (bk (4,0) _ rfl rfl) (ai (bH _ (rfl:_=AV.v (.slice _ _ _))) (aj (aq (am (bF rfl rfl rfl (cI rfl rfl rfl (aj (au ?_))))))))))
 refine aq (bP rfl rfl rfl rfl rfl (cd rfl rfl rfl rfl rfl ?_))
 iterate 3 refine bP rfl rfl rfl rfl rfl ?_
 refine aq ?_
 refine aM (σ':=aB 211 [(2,_),(3,_),(4,_),(12,_)] [((3,0),_),((4,0),_)] [] []) kp ?_
 refine cd rfl rfl rfl rfl rfl ?_
 iterate 4 refine bP rfl rfl rfl rfl rfl ?_
 refine cf (aq (am (bF rfl rfl rfl (cI rfl rfl rfl (eI rfl rfl rfl (cH rfl (aX rfl rfl ah ?_)))))))
 refine aX rfl rfl ah ?_
 refine aX rfl rfl ah ?_
 refine ai (aF _ _ _ rfl (rfl:_=AV.v (.bool _))) (aj (aQ rfl rfl (aI (aq (aq ?_)))))
 refine aM (σ':=aB 211 [(2,_),(3,_),(4,_)] [((3,0),_),((4,0),_)] [] []) kp ?_
 refine an (bF rfl rfl rfl (cI rfl rfl rfl (eI rfl rfl rfl (cH rfl (aX rfl rfl ah ?_)))))
 refine aX rfl rfl ah ?_
 refine aX rfl rfl ah ?_
 refine ai (aF _ _ _ rfl (rfl:_=AV.v (.bool _))) (aj (aQ rfl rfl (aI (am (ai (aP _ aa rfl rfl rfl rfl) (bF rfl rfl rfl (fK rfl rfl rfl (aR rfl (ai (dk aa [((0,8),(50,0))] ar (hq.toI) trivial tr ae) ?_)))))))))
 refine eZ rfl (aj (aq (am (bF rfl rfl rfl (cI rfl rfl rfl (aj (au (aq ?_))))))))
 refine aM (σ':=aB 211 [(3,_),(4,_),(10,_),(153,_)] [((3,0),_),((4,0),_),((50,0),_)] [] []) kp ?_
 refine cd rfl rfl rfl rfl rfl ?_
 iterate 6 refine bP rfl rfl rfl rfl rfl ?_
 exact cf (am (gG rfl (eZ rfl (aj (aC (aY (.inr rfl) rfl (.tmp (rfl:_=AV.ref _ _ _)) (Le.out [((0,8),(50,0))] [] (dc rfl rfl) rfl rfl rfl trivial ob)))))))
theorem CO {L:List Nd} {cs:List Cd} (hc:cs.length=L.length) (hk:kY (uu d v no on) L cs) (o:Bo):CoS (uu d v no on) (nd 18 0 o.txt L) (fun a=> cM cs a++o.code):=fun a ha=> by
 have hol:o.code.length≤2:=by cases o <;> decide
 have hs1:o.txt≠[38,38]:=by cases o <;> decide
 have hs2:o.txt≠[124,124]:=by cases o <;> decide
 have hl2:a+(cM cs a).length≤1000000:=by simp only [List.length_append] at ha;omega
 have hq:=dw (d:=d) (v:=v) (no:=no) (on:=on) L cs hc hk a hl2
 refine Spec.ofN Tryz.func91 rfl Tryz.ntmps91 rfl ?_
 refine am (ai (bk (3,0) _ rfl rfl) (ai (bk (4,0) _ rfl rfl) (ai (bH _ (rfl:_=AV.v (.slice _ _ _))) (aj (aq (am (bF rfl rfl rfl (cI rfl rfl rfl (aj (au ?_))))))))))
 refine aq (bP rfl rfl rfl rfl rfl (cd rfl rfl rfl rfl rfl ?_))
 iterate 3 refine bP rfl rfl rfl rfl rfl ?_
 refine aq ?_
 refine aM (σ':=aB 211 [(2,_),(3,_),(4,_),(12,_)] [((3,0),_),((4,0),_)] [] []) kp ?_
 refine cd rfl rfl rfl rfl rfl ?_
 iterate 4 refine bP rfl rfl rfl rfl rfl ?_
 refine cf (aq (am (bF rfl rfl rfl (cI rfl rfl rfl (jc rfl rfl rfl (cH rfl (ax rfl rfl (aK _ aa rfl rfl rfl) (ax rfl rfl (aN _ aa rfl rfl (rfl:_=some (AV.v (.string _)))) (ax rfl rfl (aT (r:=false) _ _ Tryz.underlying9 rfl rfl (beq_eq_false_iff_ne.2 hs1)) ?_)))))))))
 refine ai (aF _ _ _ rfl (rfl:_=AV.v (.bool _))) (aj (aQ rfl rfl (aI (aq (aq ?_)))))
 refine aM (σ':=aB 211 [(2,_),(3,_),(4,_)] [((3,0),_),((4,0),_)] [] []) kp ?_
 refine an (bF rfl rfl rfl (cI rfl rfl rfl (jc rfl rfl rfl (cH rfl (ax rfl rfl (aK _ aa rfl rfl rfl) (ax rfl rfl (aN _ aa rfl rfl (rfl:_=some (AV.v (.string _)))) (ax rfl rfl (aT (r:=false) _ _ Tryz.underlying9 rfl rfl (beq_eq_false_iff_ne.2 hs2)) ?_)))))))
 refine ai (aF _ _ _ rfl (rfl:_=AV.v (.bool _))) (aj (aQ rfl rfl (aI (am (ai (aP _ aa rfl rfl rfl rfl) (bF rfl rfl rfl (fK rfl rfl rfl (aR rfl (ai (dk aa [((0,8),(50,0))] ar (hq.toI) trivial tr ae) ?_)))))))))
 refine eZ rfl (aj (aq (am (bF rfl rfl rfl (cI rfl rfl rfl (aj (au (aq ?_))))))))
 refine aM (σ':=aB 211 [(3,_),(4,_),(10,_),(153,_)] [((3,0),_),((4,0),_),((50,0),_)] [] []) kp ?_
 refine oR rfl rfl rfl rfl rfl (am (gG rfl (bF rfl rfl rfl (ai (aN _ aa rfl rfl (rfl:_=some (AV.v (.string _)))) (ai (aJ aa al (wd o) rfl rfl) ?_)))))
 refine ai (dg (160,0) _ _ aa rfl rfl (bK _).symm (.sl (bK _)) ab rfl (kw _ _) (show (cM cs a).length+o.code.length=(cM cs a++o.code).length by simp)) ?_
 exact eZ rfl (aj (aC (aY (.inr rfl) rfl (.tmp (rfl:_=AV.ref _ _ _)) (Le.out [((0,8),(160,0))] [] (dc rfl rfl) rfl rfl rfl trivial ob))))
def JH (c y:Cd) (a:Nat):List ek:=c a++[{ op:= .unl,n:=((a+(c a).length+(y (a+(c a).length+1)).length+2:Nat):Int) }]++y (a+(c a).length+1)++[{ op:= .jump,n:=(a:Int) }]
theorem yC {c y:Nd} {cc cy:Cd} (hc:CoS (uu d v no on) c cc) (hy:CoS (uu d v no on) y cy):CoS (uu d v no on) (nd 3 0 [] [c,y]) (JH cc cy):=fun a ha=> by
 obtain ⟨b,hb⟩: ∃ b,b=JH cc cy a:=⟨_,rfl⟩
 rw [← hb] at ha ⊢
 unfold JH at hb
 have hbl:=congrArg List.length hb
 simp only [List.length_append,List.length_cons,List.length_nil] at hbl
 have h1:=hc a ab
 generalize cc a=C at h1 hb hbl
 have h2:=hy (a+C.length+1) ab
 generalize cy (a+C.length+1)=Y at h2 hb hbl
 refine Spec.ofN Tryz.func91 rfl Tryz.ntmps91 rfl ?_
 refine am (ai (bk (3,0) _ rfl rfl) (ai (bk (4,0) _ rfl rfl) (ai (bH _ (rfl:_=AV.v (.slice _ _ _))) (aj (aq (am (bF rfl rfl rfl (cI rfl rfl rfl (aj (au ?_))))))))))
 refine aq (bP rfl rfl rfl rfl rfl (cd rfl rfl rfl rfl rfl ?_))
 iterate 3 refine bP rfl rfl rfl rfl rfl ?_
 refine aq ?_
 refine aM (σ':=aB 211 [(2,_),(3,_),(4,_),(12,_)] [((3,0),_),((4,0),_)] [] []) kp ?_
 refine cd rfl rfl rfl rfl rfl ?_
 iterate 3 refine bP rfl rfl rfl rfl rfl ?_
 refine eN rfl rfl rfl rfl rfl (aq ?_)
 refine aM (σ':=aB 211 [(2,_),(3,_),(4,_)] [((3,0),_),((4,0),_)] [] []) kp ?_
 refine bE 6 [73,74,75,76,77,78] [] ae ae rfl (aL rfl) (rfl:_=[_,_,_,_,_,_]) (rfl:_=[_,_]) ?_
 refine ap (_,[]) (fun τ=> aP _ aa rfl rfl rfl rfl) ?_
 refine eL rfl ?_
 refine ap (_,[]) (fun τ=> aK _ aa rfl rfl rfl) ?_
 refine eK rfl ?_
 refine ap (_,[]) (fun τ=> aN _ aa rfl rfl (rfl:_=some (AV.sl _ _))) ?_
 refine eM rfl ?_
 refine ap (_,[]) (fun τ=> bf _ _ aa rfl rfl 0 rfl (show 0 < 2 by omega) (Nat.le_of_ble_eq_true rfl) rfl) ?_
 refine eP rfl ?_
 refine ap (_,[]) (fun τ=> cg _ aa rfl (by exact cE [c,y] 0 (by simp)) rfl) ?_
 refine fe rfl ?_
 refine ap (_,[]) (fun τ=> aD _ (rfl:_=AV.v (.int _ _))) ?_
 refine fB rfl (bh ⟨rfl,?_⟩)
 refine ai (dk aa [((0,8),(50,0))] ar (h1.toI) trivial tr ae) ?_
 refine eZ rfl (aj (aG fun K15 hK15=> ?_))
 refine aM (σ':=aB 211 [(2,_),(3,_),(4,_),(7,_)] [((3,0),_),((4,0),_),((50,0),_)] [] []) kp ?_
 refine bE 10 [80,81,82,83,84,85,86,87,88,89] [] ae ae rfl (aL rfl) (rfl:_=[_,_,_,_,_,_,_,_,_,_]) (rfl:_=[_,_]) ?_
 refine ap (_,[]) (fun τ=> aP _ aa rfl rfl rfl rfl) ?_
 refine eL rfl ?_
 refine ap (_,[]) (fun τ=> aK _ aa rfl rfl rfl) ?_
 refine eK rfl ?_
 refine ap (_,[]) (fun τ=> aN _ aa rfl rfl (rfl:_=some (AV.sl _ _))) ?_
 refine eM rfl ?_
 refine ap (_,[]) (fun τ=> bf _ _ aa rfl rfl 1 rfl (show 1 < 2 by omega) (Nat.le_of_ble_eq_true rfl) rfl) ?_
 refine eP rfl ?_
 refine ap (_,[]) (fun τ=> cg _ aa rfl (by exact cE [c,y] 1 (by simp)) rfl) ?_
 refine fe rfl ?_
 refine ap (_,[]) (fun τ=> aD _ (rfl:_=AV.v (.int _ _))) ?_
 refine fB rfl ?_
 refine ap (_,[]) (fun τ=> aD _ (rfl:_=AV.ref _ _ _)) ?_
 refine gy rfl ?_
 refine ap (_,[]) (fun τ=> dz _ aa rfl rfl) ?_
 refine jS rfl ?_
 refine ap (_,[]) (fun τ=> bc _ _ rfl rfl (bq ab)) ?_
 refine kd rfl ?_
 refine ap (_,[]) (fun τ=> bc _ _ rfl rfl (bq ab)) ?_
 refine fW rfl (bh ⟨rfl,?_⟩)
 refine ai (dk aa [((0,8),(51,0))] ar (h2.toI) trivial tr ae) ?_
 refine eZ rfl (az (hK15 _ ?_))
 clear hK15;try clear K15
 refine am (gG rfl (aR rfl (gG rfl (ai (dz _ aa rfl rfl) (ai (bc _ _ rfl rfl (bq ab)) ?_)))))
 refine gG rfl (ai (dz _ aa rfl rfl) (ai (bc _ _ rfl rfl (bq ab)) ?_))
 refine ai (bc (r:=((a+C.length+Y.length+2:Nat):Int)) _ _ rfl rfl ((bq ab).trans ab)) ?_
 refine ai (aA _ aa rfl (by exact (rfl:_=some [_,_]))) ?_
 refine ai (aU _ _ aa rfl ag (by (simp <;> rfl)) ah rfl) ?_
 refine ai (dg (102,0) _ _ aa rfl rfl (bK _).symm (.sl rfl) ab rfl (ey _ { op:= .unl,n:=((a+C.length+Y.length+2:Nat):Int) }) (show C.length+1=(C++[({ op:= .unl,n:=((a+C.length+Y.length+2:Nat):Int) }:ek)]).length by simp)) ?_
 refine eZ rfl (aj (aq ?_))
 refine aM (σ':=aB 211 [(2,_),(8,_),(9,_)] [((51,0),_),((102,0),_)] [] []) kp ?_
 refine an (gG rfl (gG rfl (ai (dg (105,0) _ _ aa rfl rfl (bK _).symm (.ref rfl (lm _) (jC _)) (by simp;omega) rfl (kw _ _) (show (C++[({ op:= .unl,n:=((a+C.length+Y.length+2:Nat):Int) }:ek)]).length+Y.length=(C++[({ op:= .unl,n:=((a+C.length+Y.length+2:Nat):Int) }:ek)]++Y).length by simp;omega)) ?_)))
 refine eZ rfl (aj (am (gG rfl (aR rfl (ai (aA _ aa rfl (by exact (rfl:_=some [_,_]))) ?_)))))
 refine ai (aU _ _ aa rfl ag (by (simp <;> rfl)) ah rfl) ?_
 refine ai (dg (110,0) _ _ aa rfl rfl (bK _).symm (.sl rfl) (by simp;omega) rfl ((ey _ { op:= .jump,n:=(a:Int) }).trans (congrArg inl hb.symm)) (show _+1=b.length by simp;omega)) ?_
 exact eZ rfl (aj (aC (aY (.inr rfl) rfl (.tmp (rfl:_=AV.ref _ _ _)) (Le.out [((0,8),(110,0))] [] (dc rfl rfl) rfl rfl rfl trivial ob))))
end

def gm:Ex→Bool
 | .int n=> decide (0≤n) | .bool _=> true | .var _=> true | .name _=> true
 | .draw e=> gm e | .neg e=> gm e | .not e=> gm e
 | .bin _ a b=> gm a && gm b
 | .and a b=> gm a && gm b
 | .or a b=> gm a && gm b
mutual
def oQ:Sm→Bool
 | .assign _ e=> gm e
 | .send t _ a b=> gm t && gm a && gm b
 | .timer _=> true | .cancel _=> true | .sync=> true | .stop=> true
 | .reply a b=> gm a && gm b
 | .fail e=> gm e
 | .loop c b=> gm c && mW b
 | .ite c a b=> gm c && mW a && mW b
def mW:Bk→Bool
 | .nil=> true
 | .cons s b=> oQ s && mW b
end
section
variable {d v:List Tx} {no:Nat} {on:List PV}
abbrev IA (d v:List Tx) (no:Nat) (on:List PV) (N:Nd) (c:Cd):Prop:=CoS (uu d v no on) N c
theorem CoS.cong {u:AV} {N:Nd} {c c':Cd} (h:CoS u N c) (e: ∀ a,c a=c' a):CoS u N c':=by
 rw [show c'=c from funext fun a=> (e a).symm];exact h
theorem dP (hn:(d++v).Nodup) (hl:(d++v).length≤1000): ∀ e:Ex,ft (d++v).length e→gm e=true→IA d v no on (dT (d++v) e) (bn e)
 | .int n,_,hp=> by
  have hp:=of_decide_eq_true hp
  have:=DW (d:=d) (v:=v) (no:=no) (on:=on) n.toNat
  exact this.cong fun a=> by rw [Int.toNat_of_nonneg hp];rfl
 | .bool b,_,_=> by
  cases b
  ·exact um 0
  ·exact um 1
 | .var i,h,_=> CX hn hl i h
 | .name k,h,_=> BK k h
 | .draw e,h,hp=> (Bp rfl (vL (dP hn hl e h hp) BU)).cong fun a=> by simp [bn,cM]
 | .neg e,h,hp=> (Dw rfl (vL (dP hn hl e h hp) BU)).cong fun a=> by simp [bn,cM]
 | .not e,h,hp=> (Ea rfl (vL (dP hn hl e h hp) BU)).cong fun a=> by simp [bn,cM]
 | .bin o x y,h,hp=> by
  simp only [gm,Bool.and_eq_true] at hp
  exact (CO rfl (vL (dP hn hl x h.1 hp.1) (vL (dP hn hl y h.2 hp.2) BU)) o).cong fun a=> by simp [bn,cM]
 | .and x y,h,hp=> by
  simp only [gm,Bool.and_eq_true] at hp
  exact (DK (dP hn hl x h.1 hp.1) (dP hn hl y h.2 hp.2)).cong fun a=> rfl
 | .or x y,h,hp=> by
  simp only [gm,Bool.and_eq_true] at hp
  exact (FI (dP hn hl x h.1 hp.1) (dP hn hl y h.2 hp.2)).cong fun a=> rfl
def BI:Bk→List Cd
 | .nil=> []
 | .cons s b=> ci s::BI b
theorem ub (nm:List Tx): ∀ b:Bk,(BI b).length=(fX nm b).length
 | .nil=> by simp [BI,fX]
 | .cons s b=> by simp [BI,fX,ub nm b]
theorem uE: ∀ (b:Bk) (a:Nat),cM (BI b) a=cW b a
 | .nil,a=> by simp [BI,cM,cW]
 | .cons s b,a=> by simp only [BI,cM,cW,uE b]
theorem lU {b:Bk} (h:kY (uu d v no on) (fX (d++v) b) (BI b)):IA d v no on (jB (d++v) b) (cW b):=(xY (ub _ b) h).cong (uE b)
mutual
theorem BO (hn:(d++v).Nodup) (hl:(d++v).length≤1000): ∀ s:Sm,eY (d++v).length s→oQ s=true→IA d v no on (od (d++v) s) (ci s)
 | .assign i e,h,hp=> by rw [eY] at h;exact (vh rfl (vL (dP hn hl e h.2 hp) BU) hn hl i h.1).cong fun a=> by simp [ci,cM]
 | .send t k x y,h,hp=> by
  rw [eY] at h
  simp only [oQ,Bool.and_eq_true] at hp
  exact (AI rfl (vL (dP hn hl t h.2.1 hp.1.1) (vL (dP hn hl x h.2.2.1 hp.1.2) (vL (dP hn hl y h.2.2.2 hp.2) BU))) k).cong fun a=> by simp [ci,cM,Nat.add_assoc]
 | .timer k,_,_=> (xb k).cong fun a=> by rw [ci]
 | .cancel k,_,_=> (wy k).cong fun a=> by rw [ci]
 | .sync,_,_=> co_sync.cong fun a=> by rw [ci]
 | .stop,_,_=> co_stop.cong fun a=> by rw [ci]
 | .reply x y,h,hp=> by
  rw [eY] at h
  simp only [oQ,Bool.and_eq_true] at hp
  exact (xI rfl (vL (dP hn hl x h.1 hp.1) (vL (dP hn hl y h.2 hp.2) BU))).cong fun a=> by simp [ci,cM]
 | .fail e,h,hp=> by rw [eY] at h;exact (AZ rfl (vL (dP hn hl e h hp) BU)).cong fun a=> by simp [ci,cM]
 | .loop c b,h,hp=> by
  rw [eY] at h
  simp only [oQ,Bool.and_eq_true] at hp
  exact (yC (dP hn hl c h.1 hp.1) (lU (lY hn hl b h.2 hp.2))).cong fun a=> by rw [ci];rfl
 | .ite c x y,h,hp=> by
  rw [eY] at h
  simp only [oQ,Bool.and_eq_true] at hp
  exact (DB (dP hn hl c h.1 hp.1.1) (lU (lY hn hl x h.2.1 hp.1.2)) (lU (lY hn hl y h.2.2 hp.2))).cong fun a=> by rw [ci];rfl
theorem lY (hn:(d++v).Nodup) (hl:(d++v).length≤1000): ∀ b:Bk,ii (d++v).length b→mW b=true→kY (uu d v no on) (fX (d++v) b) (BI b)
 | .nil,_,_=> BU
 | .cons s b,h,hp=> by
  rw [ii] at h
  simp only [mW,Bool.and_eq_true] at hp
  exact vL (BO hn hl s h.1 hp.1) (lY hn hl b h.2 hp.2)
end
theorem Bz (hn:(d++v).Nodup) (hl:(d++v).length≤1000) (b:Bk) (h:ii (d++v).length b) (hp:mW b=true):IA d v no on (jB (d++v) b) (cW b):=lU (lY hn hl b h hp)
end

abbrev En (c:AV) (e:Nat→Int) (d v:Int):List AV:=[c, .v (.int .i64 (e 0)), .v (.int .i64 (e 1)), .v (.int .i64 (e 2)), .v (.int .i64 (e 3)), .v (.int .i64 (e 4)), .v (.int .i64 (e 5)), .v (.int .i64 (e 6)), .v (.int .i64 (e 7)), .v (.int .i64 (e 8)), .v (.int .i64 (e 9)), .v (.int .i64 (e 10)), .v (.int .i64 (e 11)), .v (.int .i64 (e 12)), .v (.int .i64 (e 13)), .v (.int .i64 (e 14)), .v (.int .i64 (e 15)), .v (.int .i64 (e 16)), .v (.int .i64 (e 17)), .v (.int .i64 (e 18)), .v (.int .i64 (e 19)), .v (.int .i64 (e 20)), .v (.int .i64 (e 21)), .v (.int .i64 (e 22)), .v (.int .i64 (e 23)), .v (.int .i64 (e 24)), .v (.int .i64 (e 25)), .v (.int .i64 (e 26)), .v (.int .i64 (e 27)), .v (.int .i64 (e 28)), .v (.int .i64 (e 29)), .v (.int .i64 (e 30)), .v (.int .i64 (e 31)), .v (.int .i64 (e 32)), .v (.int .i64 (e 33)), .v (.int .i64 (e 34)), .v (.int .i64 (e 35)), .v (.int .i64 (e 36)), .v (.int .i64 (e 37)), .v (.int .i64 (e 38)), .v (.int .i64 (e 39)), .v (.int .i64 d), .v (.int .i64 v)]
abbrev Ax (n:Nat) (xs:List PV) (e:Nat→Int) (d v:Int):List AV:=En (.sl n xs) e d v
def oX (e:Nat→Int) (h:Nat) (x:Int):Nat→Int:=fun k=> if k=h then x else e k
theorem qn (c:AV) (e:Nat→Int) (d v:Int) (h:Nat) (hh:h < 40) (x:Int):fq (En c e d v) (1+h) [.v (.int .i64 x)]=En c (oX e h x) d v:=by
 rcases h with _ | _ | _ | _ | _ | _ | _ | _ | _ | _ | _ | _ | _ | _ | _ | _ | _ | _ | _ | _ | _ | _ | _ | _ | _ | _ | _ | _ | _ | _ | _ | _ | _ | _ | _ | _ | _ | _ | _ | _ | h
 all_goals first | rfl | omega
theorem qH (n:Nat) (xs:List PV) (e:Nat→Int) (d v:Int) (h:Nat) (hh:h < 40):(Ax n xs e d v)[1+h]? =some (.v (.int .i64 (e h))):=by
 rcases h with _ | _ | _ | _ | _ | _ | _ | _ | _ | _ | _ | _ | _ | _ | _ | _ | _ | _ | _ | _ | _ | _ | _ | _ | _ | _ | _ | _ | _ | _ | _ | _ | _ | _ | _ | _ | _ | _ | _ | _ | h
 all_goals first | rfl | omega
def CH (l:List Nat):List PV:=l.map fun (x:Nat)=> .v (.int .i64 (x:Int))
@[simp] theorem ec (l:List Nat):(CH l).length=l.length:=by simp [CH]
theorem Av (l:List Nat) (k:Nat) (h:k < l.length):(CH l)[k]? =some (.v (.int .i64 (l.getD k 0:Int))):=by simp [CH,h]
theorem vB:Spec Tryz.prog 106 (bi [.v (.int .i64 1)] []) (aW (.v (.int .i64 0)) []):=by
 refine Spec.ofN Tryz.func106 rfl Tryz.ntmps106 rfl ?_
 refine am (ba rfl (aj (aq (am (aR rfl (aj (au (aq (eN rfl rfl rfl rfl rfl (aI ?_))))))))))
 exact bD rfl rfl (am (ba rfl (aj (aC (aY (.inr rfl) rfl (.tmp (rfl:_=AV.v _)) (Le.out [] [] .v rfl rfl rfl trivial trivial))))))
theorem xr:Spec Tryz.prog 106 (bi [.v (.int .i64 2)] []) (aW (.v (.int .i64 0)) []):=by
 refine Spec.ofN Tryz.func106 rfl Tryz.ntmps106 rfl ?_
 refine am (ba rfl (aj (aq (am (aR rfl (aj (au (aq (bP rfl rfl rfl rfl rfl (eN rfl rfl rfl rfl rfl ?_))))))))))
 exact aI (bD rfl rfl (am (ba rfl (aj (aC (aY (.inr rfl) rfl (.tmp (rfl:_=AV.v _)) (Le.out [] [] .v rfl rfl rfl trivial trivial)))))))
theorem sA:Spec Tryz.prog 106 (bi [.v (.int .i64 3)] []) (aW (.v (.int .i64 1)) []):=by
 refine Spec.ofN Tryz.func106 rfl Tryz.ntmps106 rfl ?_
 refine am (ba rfl (aj (aq (am (aR rfl (aj (au (aq ?_))))))))
 iterate 7 refine bP rfl rfl rfl rfl rfl ?_
 refine aM (σ':=aB 31 [(3,_)] [] [] []) kp ?_
 refine cd rfl rfl rfl rfl rfl (aq ?_)
 iterate 3 refine bP rfl rfl rfl rfl rfl ?_
 exact eN rfl rfl rfl rfl rfl (aI (bD rfl rfl (am (ba rfl (aj (aC (aY (.inr rfl) rfl (.tmp (rfl:_=AV.v _)) (Le.out [] [] .v rfl rfl rfl trivial trivial))))))))
theorem vg:Spec Tryz.prog 106 (bi [.v (.int .i64 4)] []) (aW (.v (.int .i64 0)) []):=by
 refine Spec.ofN Tryz.func106 rfl Tryz.ntmps106 rfl ?_
 refine am (ba rfl (aj (aq (am (aR rfl (aj (au (aq ?_))))))))
 iterate 2 refine bP rfl rfl rfl rfl rfl ?_
 exact eN rfl rfl rfl rfl rfl (aI (bD rfl rfl (am (ba rfl (aj (aC (aY (.inr rfl) rfl (.tmp (rfl:_=AV.v _)) (Le.out [] [] .v rfl rfl rfl trivial trivial))))))))
theorem vb:Spec Tryz.prog 106 (bi [.v (.int .i64 5)] []) (aW (.v (.int .i64 1)) []):=by
 refine Spec.ofN Tryz.func106 rfl Tryz.ntmps106 rfl ?_
 refine am (ba rfl (aj (aq (am (aR rfl (aj (au (aq ?_))))))))
 iterate 7 refine bP rfl rfl rfl rfl rfl ?_
 refine aM (σ':=aB 31 [(3,_)] [] [] []) kp ?_
 exact cd rfl rfl rfl rfl rfl (aq (eN rfl rfl rfl rfl rfl (aI (bD rfl rfl (am (ba rfl (aj (aC (aY (.inr rfl) rfl (.tmp (rfl:_=AV.v _)) (Le.out [] [] .v rfl rfl rfl trivial trivial))))))))))
theorem wP:Spec Tryz.prog 106 (bi [.v (.int .i64 6)] []) (aW (.v (.int .i64 2)) []):=by
 refine Spec.ofN Tryz.func106 rfl Tryz.ntmps106 rfl ?_
 refine am (ba rfl (aj (aq (am (aR rfl (aj (au (aq ?_))))))))
 iterate 7 refine bP rfl rfl rfl rfl rfl ?_
 refine aM (σ':=aB 31 [(3,_)] [] [] []) kp ?_
 refine cd rfl rfl rfl rfl rfl (aq ?_)
 iterate 5 refine bP rfl rfl rfl rfl rfl ?_
 refine cd rfl rfl rfl rfl rfl (aq (eN rfl rfl rfl rfl rfl (aI (bD rfl rfl (aq ?_)))))
 refine aM (σ':=aB 31 [] [] [] []) kp ?_
 exact an (ba rfl (aj (aC (aY (.inr rfl) rfl (.tmp (rfl:_=AV.v _)) (Le.out [] [] .v rfl rfl rfl trivial trivial)))))
theorem yY:Spec Tryz.prog 106 (bi [.v (.int .i64 7)] []) (aW (.v (.int .i64 2)) []):=by
 refine Spec.ofN Tryz.func106 rfl Tryz.ntmps106 rfl ?_
 refine am (ba rfl (aj (aq (am (aR rfl (aj (au (aq ?_))))))))
 iterate 7 refine bP rfl rfl rfl rfl rfl ?_
 refine aM (σ':=aB 31 [(3,_)] [] [] []) kp ?_
 refine cd rfl rfl rfl rfl rfl (aq ?_)
 iterate 5 refine bP rfl rfl rfl rfl rfl ?_
 refine cd rfl rfl rfl rfl rfl (aq (bP rfl rfl rfl rfl rfl (aq ?_)))
 refine aM (σ':=aB 31 [(3,_)] [] [] []) kp ?_
 exact oR rfl rfl rfl rfl rfl (aI (bD rfl rfl (am (ba rfl (aj (aC (aY (.inr rfl) rfl (.tmp (rfl:_=AV.v _)) (Le.out [] [] .v rfl rfl rfl trivial trivial))))))))
theorem yn:Spec Tryz.prog 106 (bi [.v (.int .i64 8)] []) (aW (.v (.int .i64 2)) []):=by
 refine Spec.ofN Tryz.func106 rfl Tryz.ntmps106 rfl ?_
 refine am (ba rfl (aj (aq (am (aR rfl (aj (au (aq ?_))))))))
 iterate 7 refine bP rfl rfl rfl rfl rfl ?_
 refine aM (σ':=aB 31 [(3,_)] [] [] []) kp ?_
 refine cd rfl rfl rfl rfl rfl (aq ?_)
 iterate 5 refine bP rfl rfl rfl rfl rfl ?_
 refine cd rfl rfl rfl rfl rfl (aq (bP rfl rfl rfl rfl rfl (aq ?_)))
 refine aM (σ':=aB 31 [(3,_)] [] [] []) kp ?_
 exact cd rfl rfl rfl rfl rfl (eN rfl rfl rfl rfl rfl (aI (bD rfl rfl (am (ba rfl (aj (aC (aY (.inr rfl) rfl (.tmp (rfl:_=AV.v _)) (Le.out [] [] .v rfl rfl rfl trivial trivial)))))))))
theorem yp:Spec Tryz.prog 106 (bi [.v (.int .i64 9)] []) (aW (.v (.int .i64 2)) []):=by
 refine Spec.ofN Tryz.func106 rfl Tryz.ntmps106 rfl ?_
 refine am (ba rfl (aj (aq (am (aR rfl (aj (au (aq ?_))))))))
 iterate 7 refine bP rfl rfl rfl rfl rfl ?_
 refine aM (σ':=aB 31 [(3,_)] [] [] []) kp ?_
 refine cd rfl rfl rfl rfl rfl (aq ?_)
 iterate 5 refine bP rfl rfl rfl rfl rfl ?_
 refine cd rfl rfl rfl rfl rfl (aq (bP rfl rfl rfl rfl rfl (aq ?_)))
 refine aM (σ':=aB 31 [(3,_)] [] [] []) kp ?_
 exact cd rfl rfl rfl rfl rfl (bP rfl rfl rfl rfl rfl (eN rfl rfl rfl rfl rfl (aI (bD rfl rfl (am (ba rfl (aj (aC (aY (.inr rfl) rfl (.tmp (rfl:_=AV.v _)) (Le.out [] [] .v rfl rfl rfl trivial trivial))))))))))
theorem wX:Spec Tryz.prog 106 (bi [.v (.int .i64 10)] []) (aW (.v (.int .i64 1)) []):=by
 refine Spec.ofN Tryz.func106 rfl Tryz.ntmps106 rfl ?_
 refine am (ba rfl (aj (aq (am (aR rfl (aj (au (aq ?_))))))))
 iterate 7 refine bP rfl rfl rfl rfl rfl ?_
 refine aM (σ':=aB 31 [(3,_)] [] [] []) kp ?_
 exact cd rfl rfl rfl rfl rfl (aq (bP rfl rfl rfl rfl rfl (eN rfl rfl rfl rfl rfl (aI (bD rfl rfl (am (ba rfl (aj (aC (aY (.inr rfl) rfl (.tmp (rfl:_=AV.v _)) (Le.out [] [] .v rfl rfl rfl trivial trivial)))))))))))
theorem Aq:Spec Tryz.prog 106 (bi [.v (.int .i64 11)] []) (aW (.v (.int .i64 2)) []):=by
 refine Spec.ofN Tryz.func106 rfl Tryz.ntmps106 rfl ?_
 refine am (ba rfl (aj (aq (am (aR rfl (aj (au (aq ?_))))))))
 iterate 7 refine bP rfl rfl rfl rfl rfl ?_
 refine aM (σ':=aB 31 [(3,_)] [] [] []) kp ?_
 refine cd rfl rfl rfl rfl rfl (aq ?_)
 iterate 5 refine bP rfl rfl rfl rfl rfl ?_
 refine cd rfl rfl rfl rfl rfl (aq (bP rfl rfl rfl rfl rfl (aq ?_)))
 refine aM (σ':=aB 31 [(3,_)] [] [] []) kp ?_
 refine cd rfl rfl rfl rfl rfl ?_
 iterate 2 refine bP rfl rfl rfl rfl rfl ?_
 exact eN rfl rfl rfl rfl rfl (aI (bD rfl rfl (am (ba rfl (aj (aC (aY (.inr rfl) rfl (.tmp (rfl:_=AV.v _)) (Le.out [] [] .v rfl rfl rfl trivial trivial))))))))
theorem AT:Spec Tryz.prog 106 (bi [.v (.int .i64 12)] []) (aW (.v (.int .i64 2)) []):=by
 refine Spec.ofN Tryz.func106 rfl Tryz.ntmps106 rfl ?_
 refine am (ba rfl (aj (aq (am (aR rfl (aj (au (aq ?_))))))))
 iterate 7 refine bP rfl rfl rfl rfl rfl ?_
 refine aM (σ':=aB 31 [(3,_)] [] [] []) kp ?_
 refine cd rfl rfl rfl rfl rfl (aq ?_)
 iterate 5 refine bP rfl rfl rfl rfl rfl ?_
 refine cd rfl rfl rfl rfl rfl (aq (bP rfl rfl rfl rfl rfl (aq ?_)))
 refine aM (σ':=aB 31 [(3,_)] [] [] []) kp ?_
 refine cd rfl rfl rfl rfl rfl ?_
 iterate 3 refine bP rfl rfl rfl rfl rfl ?_
 exact eN rfl rfl rfl rfl rfl (aI (bD rfl rfl (am (ba rfl (aj (aC (aY (.inr rfl) rfl (.tmp (rfl:_=AV.v _)) (Le.out [] [] .v rfl rfl rfl trivial trivial))))))))
theorem zK:Spec Tryz.prog 106 (bi [.v (.int .i64 13)] []) (aW (.v (.int .i64 2)) []):=by
 refine Spec.ofN Tryz.func106 rfl Tryz.ntmps106 rfl ?_
 refine am (ba rfl (aj (aq (am (aR rfl (aj (au (aq ?_))))))))
 iterate 7 refine bP rfl rfl rfl rfl rfl ?_
 refine aM (σ':=aB 31 [(3,_)] [] [] []) kp ?_
 refine cd rfl rfl rfl rfl rfl (aq ?_)
 iterate 5 refine bP rfl rfl rfl rfl rfl ?_
 refine cd rfl rfl rfl rfl rfl (aq (bP rfl rfl rfl rfl rfl (aq ?_)))
 refine aM (σ':=aB 31 [(3,_)] [] [] []) kp ?_
 refine cd rfl rfl rfl rfl rfl ?_
 iterate 4 refine bP rfl rfl rfl rfl rfl ?_
 exact eN rfl rfl rfl rfl rfl (aI (bD rfl rfl (am (ba rfl (aj (aC (aY (.inr rfl) rfl (.tmp (rfl:_=AV.v _)) (Le.out [] [] .v rfl rfl rfl trivial trivial))))))))
theorem xV:Spec Tryz.prog 106 (bi [.v (.int .i64 14)] []) (aW (.v (.int .i64 1)) []):=by
 refine Spec.ofN Tryz.func106 rfl Tryz.ntmps106 rfl ?_
 refine am (ba rfl (aj (aq (am (aR rfl (aj (au (aq ?_))))))))
 iterate 7 refine bP rfl rfl rfl rfl rfl ?_
 refine aM (σ':=aB 31 [(3,_)] [] [] []) kp ?_
 refine cd rfl rfl rfl rfl rfl (aq ?_)
 iterate 2 refine bP rfl rfl rfl rfl rfl ?_
 exact eN rfl rfl rfl rfl rfl (aI (bD rfl rfl (am (ba rfl (aj (aC (aY (.inr rfl) rfl (.tmp (rfl:_=AV.v _)) (Le.out [] [] .v rfl rfl rfl trivial trivial))))))))
theorem vo:Spec Tryz.prog 106 (bi [.v (.int .i64 15)] []) (aW (.v (.int .i64 0)) []):=by
 refine Spec.ofN Tryz.func106 rfl Tryz.ntmps106 rfl ?_
 refine am (ba rfl (aj (aq (am (aR rfl (aj (au (aq ?_))))))))
 iterate 3 refine bP rfl rfl rfl rfl rfl ?_
 exact eN rfl rfl rfl rfl rfl (aI (bD rfl rfl (am (ba rfl (aj (aC (aY (.inr rfl) rfl (.tmp (rfl:_=AV.v _)) (Le.out [] [] .v rfl rfl rfl trivial trivial))))))))
theorem yf:Spec Tryz.prog 106 (bi [.v (.int .i64 16)] []) (aW (.v (.int .i64 1)) []):=by
 refine Spec.ofN Tryz.func106 rfl Tryz.ntmps106 rfl ?_
 refine am (ba rfl (aj (aq (am (aR rfl (aj (au (aq ?_))))))))
 iterate 7 refine bP rfl rfl rfl rfl rfl ?_
 refine aM (σ':=aB 31 [(3,_)] [] [] []) kp ?_
 refine cd rfl rfl rfl rfl rfl (aq ?_)
 iterate 4 refine bP rfl rfl rfl rfl rfl ?_
 exact eN rfl rfl rfl rfl rfl (aI (bD rfl rfl (am (ba rfl (aj (aC (aY (.inr rfl) rfl (.tmp (rfl:_=AV.v _)) (Le.out [] [] .v rfl rfl rfl trivial trivial))))))))
theorem uS:Spec Tryz.prog 106 (bi [.v (.int .i64 17)] []) (aW (.v (.int .i64 3)) []):=by
 refine Spec.ofN Tryz.func106 rfl Tryz.ntmps106 rfl ?_
 refine am (ba rfl (aj (aq (am (aR rfl (aj (au (aq ?_))))))))
 iterate 7 refine bP rfl rfl rfl rfl rfl ?_
 refine aM (σ':=aB 31 [(3,_)] [] [] []) kp ?_
 refine cd rfl rfl rfl rfl rfl (aq ?_)
 iterate 5 refine bP rfl rfl rfl rfl rfl ?_
 refine cd rfl rfl rfl rfl rfl (aq (bP rfl rfl rfl rfl rfl (aq ?_)))
 refine aM (σ':=aB 31 [(3,_)] [] [] []) kp ?_
 refine cd rfl rfl rfl rfl rfl ?_
 iterate 5 refine bP rfl rfl rfl rfl rfl ?_
 refine cd rfl rfl rfl rfl rfl (eN rfl rfl rfl rfl rfl (aq ?_))
 refine aM (σ':=aB 31 [] [] [] []) kp ?_
 exact an (ba rfl (aj (aC (aY (.inr rfl) rfl (.tmp (rfl:_=AV.v _)) (Le.out [] [] .v rfl rfl rfl trivial trivial)))))
theorem sH:Spec Tryz.prog 106 (bi [.v (.int .i64 18)] []) (aW (.v (.int .i64 0)) []):=by
 refine Spec.ofN Tryz.func106 rfl Tryz.ntmps106 rfl ?_
 refine am (ba rfl (aj (aq (am (aR rfl (aj (au (aq ?_))))))))
 iterate 4 refine bP rfl rfl rfl rfl rfl ?_
 exact eN rfl rfl rfl rfl rfl (aI (bD rfl rfl (am (ba rfl (aj (aC (aY (.inr rfl) rfl (.tmp (rfl:_=AV.v _)) (Le.out [] [] .v rfl rfl rfl trivial trivial))))))))
theorem qW:Spec Tryz.prog 106 (bi [.v (.int .i64 19)] []) (aW (.v (.int .i64 0)) []):=by
 refine Spec.ofN Tryz.func106 rfl Tryz.ntmps106 rfl ?_
 refine am (ba rfl (aj (aq (am (aR rfl (aj (au (aq ?_))))))))
 iterate 5 refine bP rfl rfl rfl rfl rfl ?_
 exact eN rfl rfl rfl rfl rfl (aI (bD rfl rfl (am (ba rfl (aj (aC (aY (.inr rfl) rfl (.tmp (rfl:_=AV.v _)) (Le.out [] [] .v rfl rfl rfl trivial trivial))))))))
theorem wh:Spec Tryz.prog 106 (bi [.v (.int .i64 20)] []) (aW (.v (.int .i64 0)) []):=by
 refine Spec.ofN Tryz.func106 rfl Tryz.ntmps106 rfl ?_
 refine am (ba rfl (aj (aq (am (aR rfl (aj (au (aq ?_))))))))
 iterate 6 refine bP rfl rfl rfl rfl rfl ?_
 refine eN rfl rfl rfl rfl rfl (aI (bD rfl rfl (aq ?_)))
 refine aM (σ':=aB 31 [] [] [] []) kp ?_
 exact an (ba rfl (aj (aC (aY (.inr rfl) rfl (.tmp (rfl:_=AV.v _)) (Le.out [] [] .v rfl rfl rfl trivial trivial)))))
theorem th:Spec Tryz.prog 106 (bi [.v (.int .i64 21)] []) (aW (.v (.int .i64 2)) []):=by
 refine Spec.ofN Tryz.func106 rfl Tryz.ntmps106 rfl ?_
 refine am (ba rfl (aj (aq (am (aR rfl (aj (au (aq ?_))))))))
 iterate 7 refine bP rfl rfl rfl rfl rfl ?_
 refine aM (σ':=aB 31 [(3,_)] [] [] []) kp ?_
 refine cd rfl rfl rfl rfl rfl (aq ?_)
 iterate 5 refine bP rfl rfl rfl rfl rfl ?_
 refine cd rfl rfl rfl rfl rfl (aq (bP rfl rfl rfl rfl rfl (aq ?_)))
 refine aM (σ':=aB 31 [(3,_)] [] [] []) kp ?_
 refine cd rfl rfl rfl rfl rfl ?_
 iterate 5 refine bP rfl rfl rfl rfl rfl ?_
 exact oR rfl rfl rfl rfl rfl (am (ba rfl (aj (aC (aY (.inr rfl) rfl (.tmp (rfl:_=AV.v _)) (Le.out [] [] .v rfl rfl rfl trivial trivial))))))
theorem uX:Spec Tryz.prog 106 (bi [.v (.int .i64 22)] []) (aW (.v (.int .i64 1)) []):=by
 refine Spec.ofN Tryz.func106 rfl Tryz.ntmps106 rfl ?_
 refine am (ba rfl (aj (aq (am (aR rfl (aj (au (aq ?_))))))))
 iterate 7 refine bP rfl rfl rfl rfl rfl ?_
 refine aM (σ':=aB 31 [(3,_)] [] [] []) kp ?_
 refine cd rfl rfl rfl rfl rfl (aq ?_)
 iterate 5 refine bP rfl rfl rfl rfl rfl ?_
 exact oR rfl rfl rfl rfl rfl (am (ba rfl (aj (aC (aY (.inr rfl) rfl (.tmp (rfl:_=AV.v _)) (Le.out [] [] .v rfl rfl rfl trivial trivial))))))
theorem uP:Spec Tryz.prog 106 (bi [.v (.int .i64 23)] []) (aW (.v (.int .i64 0)) []):=by
 refine Spec.ofN Tryz.func106 rfl Tryz.ntmps106 rfl ?_
 refine am (ba rfl (aj (aq (am (aR rfl (aj (au (aq ?_))))))))
 iterate 7 refine bP rfl rfl rfl rfl rfl ?_
 refine aM (σ':=aB 31 [(3,_)] [] [] []) kp ?_
 exact oR rfl rfl rfl rfl rfl (am (ba rfl (aj (aC (aY (.inr rfl) rfl (.tmp (rfl:_=AV.v _)) (Le.out [] [] .v rfl rfl rfl trivial trivial))))))
theorem pI (o:Opc):Spec Tryz.prog 106 (bi [.v (.int .i64 (o.num:Int))] []) (aW (.v (.int .i64 (o.pops:Int))) []):=by
 cases o
 ·exact vB
 ·exact xr
 ·exact sA
 ·exact vg
 ·exact vb
 ·exact wP
 ·exact yY
 ·exact yn
 ·exact yp
 ·exact wX
 ·exact Aq
 ·exact AT
 ·exact zK
 ·exact xV
 ·exact vo
 ·exact yf
 ·exact uS
 ·exact sH
 ·exact qW
 ·exact wh
 ·exact th
 ·exact uX
 ·exact uP
theorem vH:Spec Tryz.prog 107 (bi [.v (.int .i64 1)] []) (aW (.v (.int .i64 1)) []):=by
 refine Spec.ofN Tryz.func107 rfl Tryz.ntmps107 rfl ?_
 refine am (ba rfl (aj (aq (am (aR rfl (aj (au (aq (eN rfl rfl rfl rfl rfl (aI ?_))))))))))
 exact bD rfl rfl (am (ba rfl (aj (aC (aY (.inr rfl) rfl (.tmp (rfl:_=AV.v _)) (Le.out [] [] .v rfl rfl rfl trivial trivial))))))
theorem wL:Spec Tryz.prog 107 (bi [.v (.int .i64 2)] []) (aW (.v (.int .i64 1)) []):=by
 refine Spec.ofN Tryz.func107 rfl Tryz.ntmps107 rfl ?_
 refine am (ba rfl (aj (aq (am (aR rfl (aj (au (aq (bP rfl rfl rfl rfl rfl (eN rfl rfl rfl rfl rfl ?_))))))))))
 exact aI (bD rfl rfl (am (ba rfl (aj (aC (aY (.inr rfl) rfl (.tmp (rfl:_=AV.v _)) (Le.out [] [] .v rfl rfl rfl trivial trivial)))))))
theorem rR:Spec Tryz.prog 107 (bi [.v (.int .i64 3)] []) (aW (.v (.int .i64 0)) []):=by
 refine Spec.ofN Tryz.func107 rfl Tryz.ntmps107 rfl ?_
 refine am (ba rfl (aj (aq (am (aR rfl (aj (au (aq ?_))))))))
 iterate 7 refine bP rfl rfl rfl rfl rfl ?_
 refine aq ?_
 refine aM (σ':=aB 18 [(3,_)] [] [] []) kp ?_
 refine cd rfl rfl rfl rfl rfl ?_
 iterate 4 refine bP rfl rfl rfl rfl rfl ?_
 exact cd rfl rfl rfl rfl rfl (cf (am (ba rfl (aj (aC (aY (.inr rfl) rfl (.tmp (rfl:_=AV.v _)) (Le.out [] [] .v rfl rfl rfl trivial trivial)))))))
theorem uZ:Spec Tryz.prog 107 (bi [.v (.int .i64 4)] []) (aW (.v (.int .i64 1)) []):=by
 refine Spec.ofN Tryz.func107 rfl Tryz.ntmps107 rfl ?_
 refine am (ba rfl (aj (aq (am (aR rfl (aj (au (aq ?_))))))))
 iterate 2 refine bP rfl rfl rfl rfl rfl ?_
 exact eN rfl rfl rfl rfl rfl (aI (bD rfl rfl (am (ba rfl (aj (aC (aY (.inr rfl) rfl (.tmp (rfl:_=AV.v _)) (Le.out [] [] .v rfl rfl rfl trivial trivial))))))))
theorem vi:Spec Tryz.prog 107 (bi [.v (.int .i64 5)] []) (aW (.v (.int .i64 1)) []):=by
 refine Spec.ofN Tryz.func107 rfl Tryz.ntmps107 rfl ?_
 refine am (ba rfl (aj (aq (am (aR rfl (aj (au (aq ?_))))))))
 iterate 3 refine bP rfl rfl rfl rfl rfl ?_
 exact eN rfl rfl rfl rfl rfl (aI (bD rfl rfl (am (ba rfl (aj (aC (aY (.inr rfl) rfl (.tmp (rfl:_=AV.v _)) (Le.out [] [] .v rfl rfl rfl trivial trivial))))))))
theorem yj:Spec Tryz.prog 107 (bi [.v (.int .i64 6)] []) (aW (.v (.int .i64 1)) []):=by
 refine Spec.ofN Tryz.func107 rfl Tryz.ntmps107 rfl ?_
 refine am (ba rfl (aj (aq (am (aR rfl (aj (au (aq ?_))))))))
 iterate 6 refine bP rfl rfl rfl rfl rfl ?_
 refine eN rfl rfl rfl rfl rfl (aI (bD rfl rfl (aq ?_)))
 refine aM (σ':=aB 18 [] [] [] []) kp ?_
 exact an (ba rfl (aj (aC (aY (.inr rfl) rfl (.tmp (rfl:_=AV.v _)) (Le.out [] [] .v rfl rfl rfl trivial trivial)))))
theorem xF:Spec Tryz.prog 107 (bi [.v (.int .i64 7)] []) (aW (.v (.int .i64 1)) []):=by
 refine Spec.ofN Tryz.func107 rfl Tryz.ntmps107 rfl ?_
 refine am (ba rfl (aj (aq (am (aR rfl (aj (au (aq ?_))))))))
 iterate 7 refine bP rfl rfl rfl rfl rfl ?_
 refine aq ?_
 refine aM (σ':=aB 18 [(3,_)] [] [] []) kp ?_
 exact oR rfl rfl rfl rfl rfl (aI (bD rfl rfl (am (ba rfl (aj (aC (aY (.inr rfl) rfl (.tmp (rfl:_=AV.v _)) (Le.out [] [] .v rfl rfl rfl trivial trivial))))))))
theorem yt:Spec Tryz.prog 107 (bi [.v (.int .i64 8)] []) (aW (.v (.int .i64 1)) []):=by
 refine Spec.ofN Tryz.func107 rfl Tryz.ntmps107 rfl ?_
 refine am (ba rfl (aj (aq (am (aR rfl (aj (au (aq ?_))))))))
 iterate 7 refine bP rfl rfl rfl rfl rfl ?_
 refine aq ?_
 refine aM (σ':=aB 18 [(3,_)] [] [] []) kp ?_
 exact cd rfl rfl rfl rfl rfl (eN rfl rfl rfl rfl rfl (aI (bD rfl rfl (am (ba rfl (aj (aC (aY (.inr rfl) rfl (.tmp (rfl:_=AV.v _)) (Le.out [] [] .v rfl rfl rfl trivial trivial)))))))))
theorem zb:Spec Tryz.prog 107 (bi [.v (.int .i64 9)] []) (aW (.v (.int .i64 1)) []):=by
 refine Spec.ofN Tryz.func107 rfl Tryz.ntmps107 rfl ?_
 refine am (ba rfl (aj (aq (am (aR rfl (aj (au (aq ?_))))))))
 iterate 7 refine bP rfl rfl rfl rfl rfl ?_
 refine aq ?_
 refine aM (σ':=aB 18 [(3,_)] [] [] []) kp ?_
 exact cd rfl rfl rfl rfl rfl (bP rfl rfl rfl rfl rfl (eN rfl rfl rfl rfl rfl (aI (bD rfl rfl (am (ba rfl (aj (aC (aY (.inr rfl) rfl (.tmp (rfl:_=AV.v _)) (Le.out [] [] .v rfl rfl rfl trivial trivial))))))))))
theorem xn:Spec Tryz.prog 107 (bi [.v (.int .i64 10)] []) (aW (.v (.int .i64 1)) []):=by
 refine Spec.ofN Tryz.func107 rfl Tryz.ntmps107 rfl ?_
 refine am (ba rfl (aj (aq (am (aR rfl (aj (au (aq ?_))))))))
 iterate 4 refine bP rfl rfl rfl rfl rfl ?_
 exact eN rfl rfl rfl rfl rfl (aI (bD rfl rfl (am (ba rfl (aj (aC (aY (.inr rfl) rfl (.tmp (rfl:_=AV.v _)) (Le.out [] [] .v rfl rfl rfl trivial trivial))))))))
theorem AY:Spec Tryz.prog 107 (bi [.v (.int .i64 11)] []) (aW (.v (.int .i64 1)) []):=by
 refine Spec.ofN Tryz.func107 rfl Tryz.ntmps107 rfl ?_
 refine am (ba rfl (aj (aq (am (aR rfl (aj (au (aq ?_))))))))
 iterate 7 refine bP rfl rfl rfl rfl rfl ?_
 refine aq ?_
 refine aM (σ':=aB 18 [(3,_)] [] [] []) kp ?_
 refine cd rfl rfl rfl rfl rfl ?_
 iterate 2 refine bP rfl rfl rfl rfl rfl ?_
 exact eN rfl rfl rfl rfl rfl (aI (bD rfl rfl (am (ba rfl (aj (aC (aY (.inr rfl) rfl (.tmp (rfl:_=AV.v _)) (Le.out [] [] .v rfl rfl rfl trivial trivial))))))))
theorem BF:Spec Tryz.prog 107 (bi [.v (.int .i64 12)] []) (aW (.v (.int .i64 1)) []):=by
 refine Spec.ofN Tryz.func107 rfl Tryz.ntmps107 rfl ?_
 refine am (ba rfl (aj (aq (am (aR rfl (aj (au (aq ?_))))))))
 iterate 7 refine bP rfl rfl rfl rfl rfl ?_
 refine aq ?_
 refine aM (σ':=aB 18 [(3,_)] [] [] []) kp ?_
 refine cd rfl rfl rfl rfl rfl ?_
 iterate 3 refine bP rfl rfl rfl rfl rfl ?_
 exact eN rfl rfl rfl rfl rfl (aI (bD rfl rfl (am (ba rfl (aj (aC (aY (.inr rfl) rfl (.tmp (rfl:_=AV.v _)) (Le.out [] [] .v rfl rfl rfl trivial trivial))))))))
theorem Ba:Spec Tryz.prog 107 (bi [.v (.int .i64 13)] []) (aW (.v (.int .i64 1)) []):=by
 refine Spec.ofN Tryz.func107 rfl Tryz.ntmps107 rfl ?_
 refine am (ba rfl (aj (aq (am (aR rfl (aj (au (aq ?_))))))))
 iterate 7 refine bP rfl rfl rfl rfl rfl ?_
 refine aq ?_
 refine aM (σ':=aB 18 [(3,_)] [] [] []) kp ?_
 refine cd rfl rfl rfl rfl rfl ?_
 iterate 4 refine bP rfl rfl rfl rfl rfl ?_
 exact oR rfl rfl rfl rfl rfl (am (ba rfl (aj (aC (aY (.inr rfl) rfl (.tmp (rfl:_=AV.v _)) (Le.out [] [] .v rfl rfl rfl trivial trivial))))))
theorem wI:Spec Tryz.prog 107 (bi [.v (.int .i64 14)] []) (aW (.v (.int .i64 1)) []):=by
 refine Spec.ofN Tryz.func107 rfl Tryz.ntmps107 rfl ?_
 refine am (ba rfl (aj (aq (am (aR rfl (aj (au (aq ?_))))))))
 iterate 5 refine bP rfl rfl rfl rfl rfl ?_
 exact eN rfl rfl rfl rfl rfl (aI (bD rfl rfl (am (ba rfl (aj (aC (aY (.inr rfl) rfl (.tmp (rfl:_=AV.v _)) (Le.out [] [] .v rfl rfl rfl trivial trivial))))))))
theorem vN:Spec Tryz.prog 107 (bi [.v (.int .i64 15)] []) (aW (.v (.int .i64 0)) []):=by
 refine Spec.ofN Tryz.func107 rfl Tryz.ntmps107 rfl ?_
 refine am (ba rfl (aj (aq (am (aR rfl (aj (au (aq ?_))))))))
 iterate 7 refine bP rfl rfl rfl rfl rfl ?_
 refine aq ?_
 refine aM (σ':=aB 18 [(3,_)] [] [] []) kp ?_
 refine cd rfl rfl rfl rfl rfl ?_
 iterate 4 refine bP rfl rfl rfl rfl rfl ?_
 exact cd rfl rfl rfl rfl rfl (cf (am (ba rfl (aj (aC (aY (.inr rfl) rfl (.tmp (rfl:_=AV.v _)) (Le.out [] [] .v rfl rfl rfl trivial trivial)))))))
theorem xz:Spec Tryz.prog 107 (bi [.v (.int .i64 16)] []) (aW (.v (.int .i64 0)) []):=by
 refine Spec.ofN Tryz.func107 rfl Tryz.ntmps107 rfl ?_
 refine am (ba rfl (aj (aq (am (aR rfl (aj (au (aq ?_))))))))
 iterate 7 refine bP rfl rfl rfl rfl rfl ?_
 refine aq ?_
 refine aM (σ':=aB 18 [(3,_)] [] [] []) kp ?_
 refine cd rfl rfl rfl rfl rfl ?_
 iterate 4 refine bP rfl rfl rfl rfl rfl ?_
 exact cd rfl rfl rfl rfl rfl (cf (am (ba rfl (aj (aC (aY (.inr rfl) rfl (.tmp (rfl:_=AV.v _)) (Le.out [] [] .v rfl rfl rfl trivial trivial)))))))
theorem vD:Spec Tryz.prog 107 (bi [.v (.int .i64 17)] []) (aW (.v (.int .i64 0)) []):=by
 refine Spec.ofN Tryz.func107 rfl Tryz.ntmps107 rfl ?_
 refine am (ba rfl (aj (aq (am (aR rfl (aj (au (aq ?_))))))))
 iterate 7 refine bP rfl rfl rfl rfl rfl ?_
 refine aq ?_
 refine aM (σ':=aB 18 [(3,_)] [] [] []) kp ?_
 refine cd rfl rfl rfl rfl rfl ?_
 iterate 4 refine bP rfl rfl rfl rfl rfl ?_
 exact cd rfl rfl rfl rfl rfl (cf (am (ba rfl (aj (aC (aY (.inr rfl) rfl (.tmp (rfl:_=AV.v _)) (Le.out [] [] .v rfl rfl rfl trivial trivial)))))))
theorem sY:Spec Tryz.prog 107 (bi [.v (.int .i64 18)] []) (aW (.v (.int .i64 0)) []):=by
 refine Spec.ofN Tryz.func107 rfl Tryz.ntmps107 rfl ?_
 refine am (ba rfl (aj (aq (am (aR rfl (aj (au (aq ?_))))))))
 iterate 7 refine bP rfl rfl rfl rfl rfl ?_
 refine aq ?_
 refine aM (σ':=aB 18 [(3,_)] [] [] []) kp ?_
 refine cd rfl rfl rfl rfl rfl ?_
 iterate 4 refine bP rfl rfl rfl rfl rfl ?_
 exact cd rfl rfl rfl rfl rfl (cf (am (ba rfl (aj (aC (aY (.inr rfl) rfl (.tmp (rfl:_=AV.v _)) (Le.out [] [] .v rfl rfl rfl trivial trivial)))))))
theorem rM:Spec Tryz.prog 107 (bi [.v (.int .i64 19)] []) (aW (.v (.int .i64 0)) []):=by
 refine Spec.ofN Tryz.func107 rfl Tryz.ntmps107 rfl ?_
 refine am (ba rfl (aj (aq (am (aR rfl (aj (au (aq ?_))))))))
 iterate 7 refine bP rfl rfl rfl rfl rfl ?_
 refine aq ?_
 refine aM (σ':=aB 18 [(3,_)] [] [] []) kp ?_
 refine cd rfl rfl rfl rfl rfl ?_
 iterate 4 refine bP rfl rfl rfl rfl rfl ?_
 exact cd rfl rfl rfl rfl rfl (cf (am (ba rfl (aj (aC (aY (.inr rfl) rfl (.tmp (rfl:_=AV.v _)) (Le.out [] [] .v rfl rfl rfl trivial trivial)))))))
theorem vm:Spec Tryz.prog 107 (bi [.v (.int .i64 20)] []) (aW (.v (.int .i64 0)) []):=by
 refine Spec.ofN Tryz.func107 rfl Tryz.ntmps107 rfl ?_
 refine am (ba rfl (aj (aq (am (aR rfl (aj (au (aq ?_))))))))
 iterate 7 refine bP rfl rfl rfl rfl rfl ?_
 refine aq ?_
 refine aM (σ':=aB 18 [(3,_)] [] [] []) kp ?_
 refine cd rfl rfl rfl rfl rfl ?_
 iterate 4 refine bP rfl rfl rfl rfl rfl ?_
 exact cd rfl rfl rfl rfl rfl (cf (am (ba rfl (aj (aC (aY (.inr rfl) rfl (.tmp (rfl:_=AV.v _)) (Le.out [] [] .v rfl rfl rfl trivial trivial)))))))
theorem tw:Spec Tryz.prog 107 (bi [.v (.int .i64 21)] []) (aW (.v (.int .i64 0)) []):=by
 refine Spec.ofN Tryz.func107 rfl Tryz.ntmps107 rfl ?_
 refine am (ba rfl (aj (aq (am (aR rfl (aj (au (aq ?_))))))))
 iterate 7 refine bP rfl rfl rfl rfl rfl ?_
 refine aq ?_
 refine aM (σ':=aB 18 [(3,_)] [] [] []) kp ?_
 refine cd rfl rfl rfl rfl rfl ?_
 iterate 4 refine bP rfl rfl rfl rfl rfl ?_
 exact cd rfl rfl rfl rfl rfl (cf (am (ba rfl (aj (aC (aY (.inr rfl) rfl (.tmp (rfl:_=AV.v _)) (Le.out [] [] .v rfl rfl rfl trivial trivial)))))))
theorem uV:Spec Tryz.prog 107 (bi [.v (.int .i64 22)] []) (aW (.v (.int .i64 0)) []):=by
 refine Spec.ofN Tryz.func107 rfl Tryz.ntmps107 rfl ?_
 refine am (ba rfl (aj (aq (am (aR rfl (aj (au (aq ?_))))))))
 iterate 7 refine bP rfl rfl rfl rfl rfl ?_
 refine aq ?_
 refine aM (σ':=aB 18 [(3,_)] [] [] []) kp ?_
 refine cd rfl rfl rfl rfl rfl ?_
 iterate 4 refine bP rfl rfl rfl rfl rfl ?_
 exact cd rfl rfl rfl rfl rfl (cf (am (ba rfl (aj (aC (aY (.inr rfl) rfl (.tmp (rfl:_=AV.v _)) (Le.out [] [] .v rfl rfl rfl trivial trivial)))))))
theorem vQ:Spec Tryz.prog 107 (bi [.v (.int .i64 23)] []) (aW (.v (.int .i64 0)) []):=by
 refine Spec.ofN Tryz.func107 rfl Tryz.ntmps107 rfl ?_
 refine am (ba rfl (aj (aq (am (aR rfl (aj (au (aq ?_))))))))
 iterate 7 refine bP rfl rfl rfl rfl rfl ?_
 refine aq ?_
 refine aM (σ':=aB 18 [(3,_)] [] [] []) kp ?_
 refine cd rfl rfl rfl rfl rfl ?_
 iterate 4 refine bP rfl rfl rfl rfl rfl ?_
 exact cd rfl rfl rfl rfl rfl (cf (am (ba rfl (aj (aC (aY (.inr rfl) rfl (.tmp (rfl:_=AV.v _)) (Le.out [] [] .v rfl rfl rfl trivial trivial)))))))
theorem pJ (o:Opc):Spec Tryz.prog 107 (bi [.v (.int .i64 (o.num:Int))] []) (aW (.v (.int .i64 (o.puts:Int))) []):=by
 cases o
 ·exact vH
 ·exact wL
 ·exact rR
 ·exact uZ
 ·exact vi
 ·exact yj
 ·exact xF
 ·exact yt
 ·exact zb
 ·exact xn
 ·exact AY
 ·exact BF
 ·exact Ba
 ·exact wI
 ·exact vN
 ·exact xz
 ·exact vD
 ·exact sY
 ·exact rM
 ·exact vm
 ·exact tw
 ·exact uV
 ·exact vQ
theorem opn_stop {o:Opc}:(o.num:Int)=23↔o= .stop:=by cases o <;> simp [Opc.num]
theorem opn_jump {o:Opc}:(o.num:Int)=15↔o= .jump:=by cases o <;> simp [Opc.num]
theorem opn_unl {o:Opc}:(o.num:Int)=16↔o= .unl:=by cases o <;> simp [Opc.num]
theorem wa (C:List ek) (e:Nat→Int) (dd vv:Int) (i:Nat) (hC:C.length≤1000000) (hi:i < C.length) (hn:(cK C i).op= .jump∨(cK C i).op= .unl→0≤(cK C i).n):
  Spec Tryz.prog 73 (bi [.agg (Ax C.length (inl C) e dd vv), .v (.int .i64 (i:Int))] []) (aW (.sl (dy i (cK C i)).length (CH (dy i (cK C i)))) []):=by
 obtain ⟨x,hx⟩: ∃ x,x=cK C i:=⟨_,rfl⟩
 have hg0:=lV C i hi
 have hg1:=zc C i hi
 rw [← hx] at hn hg0 hg1 ⊢
 clear hx
 obtain ⟨o,n⟩:=x
 simp only at hn hg0 hg1
 refine Spec.ofN Tryz.func73 rfl Tryz.ntmps73 rfl ?_
 refine am (ai (bk (2,0) _ rfl rfl) (ai (bH _ (rfl:_=AV.v (.slice _ _ _))) (aj (aq (am (bF rfl rfl rfl (fK rfl rfl rfl (aR rfl (ai (bf _ _ aa rfl rfl _ rfl ab (by (simp only [aZ,bm,bl,bw,bv,bJ,bz,bK,ec];omega)) ag) ?_)))))))))
 refine ai (di _ aa rfl rfl) (ai (bB _ aa rfl (by exact hg0) rfl) ?_)
 refine aj (au (am (ai (bR _ _ rfl rfl rfl) (cq rfl (aj (aV rfl (fun hc11=> ?_) (fun hc11=> ?_)))))))
 ·skip
  obtain rfl:=opn_stop.1 hc11
  exact am (ai (bH _ (rfl:_=AV.v (.slice _ _ _))) (aj (aC (aY (.inr rfl) rfl (.tmp (rfl:_=AV.v _)) (Le.out [] [] .nil rfl rfl rfl trivial trivial)))))
 ·skip
  refine am (ai (bR _ _ rfl rfl rfl) (cq rfl (aj (aV rfl (fun hc13=> ?_) (fun hc13=> ?_)))))
  ·skip
   obtain rfl:=opn_jump.1 hc13
   have hn:=hn (.inl rfl)
   refine am (bF rfl rfl rfl (fK rfl rfl rfl (aR rfl (ai (bf _ _ aa rfl rfl _ rfl ab (by (simp only [aZ,bm,bl,bw,bv,bJ,bz,bK,ec];omega)) ag) ?_))))
   refine ai (di _ aa rfl rfl) (ai (bB _ aa rfl (by exact hg1) rfl) ?_)
   refine ai (aU _ _ aa rfl ag (by (simp <;> rfl)) ah rfl) ?_
   exact jO rfl (aj (aC (aY (.inr rfl) rfl (.tmp (rfl:_=AV.sl _ _)) (Le.out [] [] (iO rfl (by simp [CH,dy,Int.toNat_of_nonneg hn])) rfl rfl rfl trivial trivial))))
  ·skip
   refine am (ai (bR _ _ rfl rfl rfl) (cq rfl (aj (aV rfl (fun hc22=> ?_) (fun hc22=> ?_)))))
   ·skip
    obtain rfl:=opn_unl.1 hc22
    have hn:=hn (.inr rfl)
    refine am (aR rfl (ai (bc _ _ rfl rfl (bq ab)) ?_))
    refine bF rfl rfl rfl (fK rfl rfl rfl (aR rfl (ai (bf _ _ aa rfl rfl _ rfl ab (by (simp only [aZ,bm,bl,bw,bv,bJ,bz,bK,ec];omega)) ag) ?_)))
    refine ai (di _ aa rfl rfl) (ai (bB _ aa rfl (by exact hg1) rfl) ?_)
    refine ai (aU _ _ aa rfl ag (by (simp <;> rfl)) ah rfl) ?_
    exact jO rfl (aj (aC (aY (.inr rfl) rfl (.tmp (rfl:_=AV.sl _ _)) (Le.out [] [] (iO rfl (by simp [CH,dy,Int.toNat_of_nonneg hn])) rfl rfl rfl trivial trivial))))
   ·skip
    have hs:dy i ⟨o,n⟩=[i+1]:=by
     unfold dy
     have h1:o≠ .stop:=fun e=> hc11 (opn_stop.2 e)
     have h2:o≠ .jump:=fun e=> hc13 (opn_jump.2 e)
     have h3:o≠ .unl:=fun e=> hc22 (opn_unl.2 e)
     cases o <;> first | rfl | exact absurd rfl h1 | exact absurd rfl h2 | exact absurd rfl h3
    refine cf (am (aR rfl (ai (bc _ _ rfl rfl (bq ab)) ?_)))
    refine ai (aU _ _ aa rfl ag (by (simp <;> rfl)) ah rfl) ?_
    refine jO rfl (aj (aC ?_))
    rw [hs]
    exact aY (.inr rfl) rfl (.tmp (rfl:_=AV.sl _ _)) (Le.out [] [] (iO rfl (by simp [CH])) rfl rfl rfl trivial trivial)
instance RK:Arr Tryz.prog 24 40 1:=Arr.of Tryz.underlying24 ae
instance RN:Arr Tryz.prog 30 9 1:=Arr.of Tryz.underlying30 ae
instance Sy:Arr Tryz.prog 44 2 1:=Arr.of Tryz.underlying44 ae
instance Sn:Arr Tryz.prog 81 41 1:=Arr.of Tryz.underlying81 ae
instance NL:Arr Tryz.prog 173 24 1:=Arr.of Tryz.underlying173 ae
instance Rj:Arr Tryz.prog 278 0 1:=Arr.of Tryz.underlying278 ae
end Go.Proofs.YtmjnackchaahbaaGreat
