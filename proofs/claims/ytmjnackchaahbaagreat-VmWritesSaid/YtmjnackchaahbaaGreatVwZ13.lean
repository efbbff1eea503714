/- Part 13 of the texts that the walk leans on: the machine, the walks, the plain laws. -/
import Derived.Test.YtmjnackchaahbaaGreatVwZ12
set_option linter.unusedSimpArgs false
set_option linter.unusedVariables false
namespace Go.Proofs.YtmjnackchaahbaaGreat
open Go.RowKit

section
variable {d v:List Tx} {no:Nat} {on:List PV}
theorem CU (n:Nat):CoS (uu d v no on) (nd 12 n [] []) (fun _=> [{ op:= .push,n:=(n:Int) }]):=fun a ha=> by
 refine Spec.ofN Tryz.func91 rfl Tryz.ntmps91 rfl ?_
 refine am (ai (bk (3,0) _ rfl rfl) (ai (bk (4,0) _ rfl rfl) (ai (bH _ (rfl:_=AV.v (.slice _ _ _))) (aj (aq (am (bE rfl rfl rfl (cH rfl rfl rfl (aj (au ?_))))))))))
 refine aq (eL rfl rfl rfl rfl rfl (aI (bF rfl rfl (am (bE rfl rfl rfl (cH rfl rfl rfl (ai (aA _ aa rfl (by exact (rfl:_=some [_,_]))) ?_)))))))
 refine ai (js (19,0) _ _ aa rfl ag (by (simp <;> rfl)) ah rfl rfl) ?_
 exact eX rfl (aj (aC (aY (.inr rfl) rfl (.tmp (rfl:_=AV.ref _ _ _)) (Le.out [((0,8),(19,0))] [] (dj rfl rfl) rfl rfl rfl trivial ob))))
theorem tV (n:Nat):CoS (uu d v no on) (nd 13 n [] []) (fun _=> [{ op:= .push,n:=(n:Int) }]):=fun a ha=> by
 refine Spec.ofN Tryz.func91 rfl Tryz.ntmps91 rfl ?_
 refine am (ai (bk (3,0) _ rfl rfl) (ai (bk (4,0) _ rfl rfl) (ai (bH _ (rfl:_=AV.v (.slice _ _ _))) (aj (aq (am (bE rfl rfl rfl (cH rfl rfl rfl (aj (au ?_))))))))))
 refine aq (bQ rfl rfl rfl rfl rfl (oW rfl rfl rfl rfl rfl (am (bE rfl rfl rfl (cH rfl rfl rfl (ai (aA _ aa rfl (by exact (rfl:_=some [_,_]))) ?_))))))
 refine ai (js (19,0) _ _ aa rfl ag (by (simp <;> rfl)) ah rfl rfl) ?_
 exact eX rfl (aj (aC (aY (.inr rfl) rfl (.tmp (rfl:_=AV.ref _ _ _)) (Le.out [((0,8),(19,0))] [] (dj rfl rfl) rfl rfl rfl trivial ob))))
theorem Eg (hn:(d++v).Nodup) (hl:(d++v).length≤1000) (i:Nat) (hi:i < (d++v).length):CoS (uu d v no on) (nd 14 0 ((d++v).getD i []) []) (fun _=> [{ op:= .var,n:=(i:Int) }]):=fun a ha=> by
 refine Spec.ofN Tryz.func91 rfl Tryz.ntmps91 rfl ?_
 refine am (ai (bk (3,0) _ rfl rfl) (ai (bk (4,0) _ rfl rfl) (ai (bH _ (rfl:_=AV.v (.slice _ _ _))) (aj (aq (am (bE rfl rfl rfl (cH rfl rfl rfl (aj (au ?_))))))))))
 refine aq (bQ rfl rfl rfl rfl rfl (cd rfl rfl rfl rfl rfl (eL rfl rfl rfl rfl rfl (am (ai (aR _ aa rfl rfl rfl rfl) (bE rfl rfl rfl (ai (aN _ aa rfl rfl (rfl:_=some (AV.v (.string _)))) (ai (aK aa al (kU d v on no hn hl i hi) rfl rfl) ?_))))))))
 refine ai (aA _ aa rfl (by exact (rfl:_=some [_,_]))) ?_
 refine ai (js (27,0) _ _ aa rfl ag (by (simp <;> rfl)) ah rfl rfl) ?_
 exact eX rfl (aj (aC (aY (.inr rfl) rfl (.tmp (rfl:_=AV.ref _ _ _)) (Le.out [((0,8),(27,0))] [] (dj rfl rfl) rfl rfl rfl trivial ob))))
theorem AM (k:Nat) (hk:k < 9):CoS (uu d v no on) (nd 15 0 (bltT.getD k []) []) (fun _=> [{ op:= .name,n:=(k:Int) }]):=fun a ha=> by
 refine Spec.ofN Tryz.func91 rfl Tryz.ntmps91 rfl ?_
 refine am (ai (bk (3,0) _ rfl rfl) (ai (bk (4,0) _ rfl rfl) (ai (bH _ (rfl:_=AV.v (.slice _ _ _))) (aj (aq (am (bE rfl rfl rfl (cH rfl rfl rfl (aj (au ?_))))))))))
 refine aq (bQ rfl rfl rfl rfl rfl (cd rfl rfl rfl rfl rfl (bQ rfl rfl rfl rfl rfl (eL rfl rfl rfl rfl rfl (aq ?_)))))
 refine aM (σ':=aB 211 [(4,_)] [((4,0),_)] [] []) kp ?_
 refine bG 6 [30,31,32,33,34,35] [(35,0)] ae ae rfl (aL rfl) (rfl:_=[_,_,_,_,_,_]) (rfl:_=[_]) ?_
 refine ap (_,[]) (fun τ=> (aK aa (by repeat' (exact dM)) (mQ) rfl rfl)) ?_
 refine eH rfl ?_
 refine ap (_,[]) (fun τ=> aJ _ aa rfl rfl rfl) ?_
 refine eG rfl ?_
 refine ap (_,[]) (fun τ=> aN _ aa rfl rfl (rfl:_=some (AV.v (.string _)))) ?_
 refine eI rfl ?_
 refine ap (_,[]) (fun τ=> (aK aa al (vF bltT 9 rfl ab ah k hk) rfl rfl)) ?_
 refine eQ rfl ?_
 refine ap (_,[]) (fun τ=> aA _ aa rfl (by exact (rfl:_=some [_,_]))) ?_
 refine fb rfl ?_
 refine ap (_,[((35,0),_)]) (fun τ=> js (35,0) _ _ aa rfl ag (by (simp <;> rfl)) ah rfl rfl) ?_
 refine fB rfl (bh ⟨rfl,?_⟩)
 exact eX rfl (aj (aC (aY (.inr rfl) rfl (.tmp (rfl:_=AV.ref _ _ _)) (Le.out [((0,8),(35,0))] [] (dj rfl rfl) rfl rfl rfl trivial ob))))
theorem yJ (n:Nat):CoS (uu d v no on) (nd 5 n [] []) (fun _=> [{ op:= .timer,n:=(n:Int) }]):=fun a ha=> by
 refine Spec.ofN Tryz.func91 rfl Tryz.ntmps91 rfl ?_
 refine am (ai (bk (3,0) _ rfl rfl) (ai (bk (4,0) _ rfl rfl) (ai (bH _ (rfl:_=AV.v (.slice _ _ _))) (aj (aq (am (bE rfl rfl rfl (cH rfl rfl rfl (aj (au ?_))))))))))
 refine aq (bQ rfl rfl rfl rfl rfl (cd rfl rfl rfl rfl rfl ?_))
 iterate 3 refine bQ rfl rfl rfl rfl rfl ?_
 refine aq ?_
 refine aM (σ':=aB 211 [(2,_),(3,_),(4,_),(12,_)] [((3,0),_),((4,0),_)] [] []) kp ?_
 refine oW rfl rfl rfl rfl rfl (am (bE rfl rfl rfl (cH rfl rfl rfl (ai (aA _ aa rfl (by exact (rfl:_=some [_,_]))) ?_))))
 refine ai (js (56,0) _ _ aa rfl ag (by (simp <;> rfl)) ah rfl rfl) ?_
 exact eX rfl (aj (aC (aY (.inr rfl) rfl (.tmp (rfl:_=AV.ref _ _ _)) (Le.out [((0,8),(56,0))] [] (dj rfl rfl) rfl rfl rfl trivial ob))))
theorem uA (n:Nat):CoS (uu d v no on) (nd 6 n [] []) (fun _=> [{ op:= .cancel,n:=(n:Int) }]):=fun a ha=> by
 refine Spec.ofN Tryz.func91 rfl Tryz.ntmps91 rfl ?_
 refine am (ai (bk (3,0) _ rfl rfl) (ai (bk (4,0) _ rfl rfl) (ai (bH _ (rfl:_=AV.v (.slice _ _ _))) (aj (aq (am (bE rfl rfl rfl (cH rfl rfl rfl (aj (au ?_))))))))))
 refine aq (bQ rfl rfl rfl rfl rfl (cd rfl rfl rfl rfl rfl ?_))
 iterate 3 refine bQ rfl rfl rfl rfl rfl ?_
 refine aq ?_
 refine aM (σ':=aB 211 [(2,_),(3,_),(4,_),(12,_)] [((3,0),_),((4,0),_)] [] []) kp ?_
 refine cd rfl rfl rfl rfl rfl (eL rfl rfl rfl rfl rfl (am (bE rfl rfl rfl (cH rfl rfl rfl (ai (aA _ aa rfl (by exact (rfl:_=some [_,_]))) ?_)))))
 refine ai (js (62,0) _ _ aa rfl ag (by (simp <;> rfl)) ah rfl rfl) ?_
 exact eX rfl (aj (aC (aY (.inr rfl) rfl (.tmp (rfl:_=AV.ref _ _ _)) (Le.out [((0,8),(62,0))] [] (dj rfl rfl) rfl rfl rfl trivial ob))))
theorem co_sync:CoS (uu d v no on) (nd 7 0 [] []) (fun _=> [{ op:= .sync }]):=fun a ha=> by
 refine Spec.ofN Tryz.func91 rfl Tryz.ntmps91 rfl ?_
 refine am (ai (bk (3,0) _ rfl rfl) (ai (bk (4,0) _ rfl rfl) (ai (bH _ (rfl:_=AV.v (.slice _ _ _))) (aj (aq (am (bE rfl rfl rfl (cH rfl rfl rfl (aj (au ?_))))))))))
 refine aq (bQ rfl rfl rfl rfl rfl (cd rfl rfl rfl rfl rfl ?_))
 iterate 3 refine bQ rfl rfl rfl rfl rfl ?_
 refine aq ?_
 refine aM (σ':=aB 211 [(2,_),(3,_),(4,_),(12,_)] [((3,0),_),((4,0),_)] [] []) kp ?_
 refine cd rfl rfl rfl rfl rfl (bQ rfl rfl rfl rfl rfl (eL rfl rfl rfl rfl rfl (am (ai (aA _ aa rfl (by exact (rfl:_=some [_,_]))) ?_))))
 refine ai (js (66,0) _ _ aa rfl ag (by (simp <;> rfl)) ah rfl rfl) ?_
 exact eX rfl (aj (aC (aY (.inr rfl) rfl (.tmp (rfl:_=AV.ref _ _ _)) (Le.out [((0,8),(66,0))] [] (dj rfl rfl) rfl rfl rfl trivial ob))))
theorem co_stop:CoS (uu d v no on) (nd 10 0 [] []) (fun _=> [{ op:= .stop }]):=fun a ha=> by
 refine Spec.ofN Tryz.func91 rfl Tryz.ntmps91 rfl ?_
 refine am (ai (bk (3,0) _ rfl rfl) (ai (bk (4,0) _ rfl rfl) (ai (bH _ (rfl:_=AV.v (.slice _ _ _))) (aj (aq (am (bE rfl rfl rfl (cH rfl rfl rfl (aj (au ?_))))))))))
 refine aq (bQ rfl rfl rfl rfl rfl (cd rfl rfl rfl rfl rfl ?_))
 iterate 3 refine bQ rfl rfl rfl rfl rfl ?_
 refine aq ?_
 refine aM (σ':=aB 211 [(2,_),(3,_),(4,_),(12,_)] [((3,0),_),((4,0),_)] [] []) kp ?_
 refine cd rfl rfl rfl rfl rfl ?_
 iterate 2 refine bQ rfl rfl rfl rfl rfl ?_
 refine eL rfl rfl rfl rfl rfl (am (ai (aA _ aa rfl (by exact (rfl:_=some [_,_]))) ?_))
 refine ai (js (70,0) _ _ aa rfl ag (by (simp <;> rfl)) ah rfl rfl) ?_
 exact eX rfl (aj (aC (aY (.inr rfl) rfl (.tmp (rfl:_=AV.ref _ _ _)) (Le.out [((0,8),(70,0))] [] (dj rfl rfl) rfl rfl rfl trivial ob))))
theorem CA {c y z:Nd} {cc cy cz:Cd} (hc:CoS (uu d v no on) c cc) (hy:CoS (uu d v no on) y cy) (hz:CoS (uu d v no on) z cz):CoS (uu d v no on) (nd 2 0 [] [c,y,z]) (Cq cc cy cz):=fun a ha=> by
 have hb:=kb (on:=on) c cc cy cz hc 1 1 (kB [y]) (kB [z]) 0 (fun a ha=> nf y cy hy 0 a ha) (fun a ha=> nf z cz hz 0 a ha) a ha
 refine Spec.ofN Tryz.func91 rfl Tryz.ntmps91 rfl ?_
 refine am (ai (bk (3,0) _ rfl rfl) (ai (bk (4,0) _ rfl rfl) (ai (bH _ (rfl:_=AV.v (.slice _ _ _))) (aj (aq (am (bE rfl rfl rfl (cH rfl rfl rfl (aj (au ?_))))))))))
 refine aq (bQ rfl rfl rfl rfl rfl (cd rfl rfl rfl rfl rfl ?_))
 iterate 2 refine bQ rfl rfl rfl rfl rfl ?_
 refine eL rfl rfl rfl rfl rfl (aq ?_)
 refine aM (σ':=aB 211 [(2,_),(3,_),(4,_)] [((3,0),_),((4,0),_)] [] []) kp ?_
 refine bG 12 [38,39,40,41,42,43,44,45,46,47,48,49] [] ae ae rfl (aL rfl) (rfl:_=[_,_,_,_,_,_,_,_,_,_,_,_]) (rfl:_=[_,_]) ?_
 refine ap (_,[]) (fun τ=> aR _ aa rfl rfl rfl rfl) ?_
 refine eH rfl ?_
 refine ap (_,[]) (fun τ=> aJ _ aa rfl rfl rfl) ?_
 refine eG rfl ?_
 refine ap (_,[]) (fun τ=> aN _ aa rfl rfl (rfl:_=some (AV.sl _ _))) ?_
 refine eI rfl ?_
 refine ap (_,[]) (fun τ=> bf _ _ aa rfl rfl 0 rfl (show 0 < 3 by omega) (Nat.le_of_ble_eq_true rfl) rfl) ?_
 refine eQ rfl ?_
 refine ap (_,[]) (fun τ=> cg _ aa rfl (by exact cF [c,y,z] 0 (by simp)) rfl) ?_
 refine fb rfl ?_
 refine ap (_,[]) (fun τ=> aJ _ aa rfl rfl rfl) ?_
 refine fB rfl ?_
 refine ap (_,[]) (fun τ=> aN _ aa rfl rfl (rfl:_=some (AV.sl _ _))) ?_
 refine gD rfl ?_
 refine ap (_,[]) (fun τ=> jh _ _ _ aa rfl 1 2 (.lit rfl rfl) (.lit rfl rfl) ab (show 2≤3 by omega) (show _=kB [y] from rfl) rfl) ?_
 refine jL rfl ?_
 refine ap (_,[]) (fun τ=> aJ _ aa rfl rfl rfl) ?_
 refine jF rfl ?_
 refine ap (_,[]) (fun τ=> aN _ aa rfl rfl (rfl:_=some (AV.sl _ _))) ?_
 refine fV rfl ?_
 refine ap (_,[]) (fun τ=> jh _ _ _ aa rfl 2 3 (.lit rfl rfl) (.lit rfl rfl) ab (show 3≤3 by omega) (show _=kB [z] from rfl) rfl) ?_
 refine gB rfl ?_
 refine ap (_,[]) (fun τ=> aD _ (rfl:_=AV.v (.int _ _))) ?_
 refine kz rfl (bh ⟨rfl,?_⟩)
 refine ai (dl aa [((0,8),(50,0))] ar (hb.toI) trivial tr ae) ?_
 exact eX rfl (aj (aC (aY (.inr rfl) rfl (.tmp (rfl:_=AV.ref _ _ _)) (Le.out [((0,8),(50,0))] [] (dj rfl rfl) rfl rfl rfl trivial ob))))
theorem CL {c y:Nd} {cc cy:Cd} (hc:CoS (uu d v no on) c cc) (hy:CoS (uu d v no on) y cy):CoS (uu d v no on) (nd 18 0 [38,38] [c,y]) (Cq cc cy (fun _=> [{ op:= .push,n:=0 }])):=fun a ha=> by
 have hb:=kb (on:=on) c cc cy (fun _=> [{ op:= .push,n:=0 }]) hc 1 0 (kB [y]) [] 0 (fun a ha=> nf y cy hy 0 a ha) (fun a _=> sg 0 a) a ha
 refine Spec.ofN Tryz.func91 rfl Tryz.ntmps91 rfl ?_
 refine am (ai (bk (3,0) _ rfl rfl) (ai (bk (4,0) _ rfl rfl) (ai (bH _ (rfl:_=AV.v (.slice _ _ _))) (aj (aq (am (bE rfl rfl rfl (cH rfl rfl rfl (aj (au ?_))))))))))
 refine aq (bQ rfl rfl rfl rfl rfl (cd rfl rfl rfl rfl rfl ?_))
 iterate 3 refine bQ rfl rfl rfl rfl rfl ?_
 refine aq ?_
 refine aM (σ':=aB 211 [(2,_),(3,_),(4,_),(12,_)] [((3,0),_),((4,0),_)] [] []) kp ?_
 refine cd rfl rfl rfl rfl rfl ?_
 iterate 4 refine bQ rfl rfl rfl rfl rfl ?_
 refine cf (aq (am (bE rfl rfl rfl (cH rfl rfl rfl (iX rfl rfl rfl (cP rfl (ay rfl rfl (aJ _ aa rfl rfl rfl) (ay rfl rfl (aN _ aa rfl rfl (rfl:_=some (AV.v (.string _)))) (ay rfl rfl (aT (r:=true) _ _ Tryz.underlying9 rfl rfl rfl) (ai (aG _ _ _ rfl (rfl:_=AV.v (.bool _))) ?_))))))))))
 refine aj (bF rfl rfl (aq ?_))
 refine aM (σ':=aB 211 [(2,_),(3,_),(4,_)] [((3,0),_),((4,0),_)] [] []) kp ?_
 refine bG 9 [119,120,121,122,123,124,125,126,127] [] ae ae rfl (aL rfl) (rfl:_=[_,_,_,_,_,_,_,_,_]) (rfl:_=[_,_]) ?_
 refine ap (_,[]) (fun τ=> aR _ aa rfl rfl rfl rfl) ?_
 refine eH rfl ?_
 refine ap (_,[]) (fun τ=> aJ _ aa rfl rfl rfl) ?_
 refine eG rfl ?_
 refine ap (_,[]) (fun τ=> aN _ aa rfl rfl (rfl:_=some (AV.sl _ _))) ?_
 refine eI rfl ?_
 refine ap (_,[]) (fun τ=> bf _ _ aa rfl rfl 0 rfl (show 0 < 2 by omega) (Nat.le_of_ble_eq_true rfl) rfl) ?_
 refine eQ rfl ?_
 refine ap (_,[]) (fun τ=> cg _ aa rfl (by exact cF [c,y] 0 (by simp)) rfl) ?_
 refine fb rfl ?_
 refine ap (_,[]) (fun τ=> aJ _ aa rfl rfl rfl) ?_
 refine fB rfl ?_
 refine ap (_,[]) (fun τ=> aN _ aa rfl rfl (rfl:_=some (AV.sl _ _))) ?_
 refine gD rfl ?_
 refine ap (_,[]) (fun τ=> jh _ _ _ aa rfl 1 2 (.lit rfl rfl) (.lit rfl rfl) ab (show 2≤2 by omega) (show _=kB [y] from rfl) rfl) ?_
 refine jL rfl ?_
 refine ap (_,[]) (fun τ=> aD _ (rfl:_=AV.v (.int _ _))) ?_
 refine jF rfl (bh ⟨rfl,?_⟩)
 refine ai (dl aa [((0,8),(50,0))] ar (hb.toI) trivial tr ae) ?_
 exact eX rfl (aj (aC (aY (.inr rfl) rfl (.tmp (rfl:_=AV.ref _ _ _)) (Le.out [((0,8),(50,0))] [] (dj rfl rfl) rfl rfl rfl trivial ob))))
theorem Ga {c y:Nd} {cc cy:Cd} (hc:CoS (uu d v no on) c cc) (hy:CoS (uu d v no on) y cy):CoS (uu d v no on) (nd 18 0 [124,124] [c,y]) (Cq cc (fun _=> [{ op:= .push,n:=1 }]) cy):=fun a ha=> by
 have hb:=kb (on:=on) c cc (fun _=> [{ op:= .push,n:=1 }]) cy hc 0 1 [] (kB [y]) 1 (fun a _=> sg 1 a) (fun a ha=> nf y cy hy 1 a ha) a ha
 refine Spec.ofN Tryz.func91 rfl Tryz.ntmps91 rfl ?_
 refine am (ai (bk (3,0) _ rfl rfl) (ai (bk (4,0) _ rfl rfl) (ai (bH _ (rfl:_=AV.v (.slice _ _ _))) (aj (aq (am (bE rfl rfl rfl (cH rfl rfl rfl (aj (au ?_))))))))))
 refine aq (bQ rfl rfl rfl rfl rfl (cd rfl rfl rfl rfl rfl ?_))
 iterate 3 refine bQ rfl rfl rfl rfl rfl ?_
 refine aq ?_
 refine aM (σ':=aB 211 [(2,_),(3,_),(4,_),(12,_)] [((3,0),_),((4,0),_)] [] []) kp ?_
 refine cd rfl rfl rfl rfl rfl ?_
 iterate 4 refine bQ rfl rfl rfl rfl rfl ?_
 refine cf (aq (am (bE rfl rfl rfl (cH rfl rfl rfl (iX rfl rfl rfl (cP rfl (ay rfl rfl (aJ _ aa rfl rfl rfl) (ay rfl rfl (aN _ aa rfl rfl (rfl:_=some (AV.v (.string _)))) (ay rfl rfl (aT (r:=false) _ _ Tryz.underlying9 rfl rfl rfl) (ai (aG _ _ _ rfl (rfl:_=AV.v (.bool _))) ?_))))))))))
 refine aj (aP rfl rfl (aI (aq (aq ?_))))
 refine aM (σ':=aB 211 [(2,_),(3,_),(4,_)] [((3,0),_),((4,0),_)] [] []) kp ?_
 refine an (bE rfl rfl rfl (cH rfl rfl rfl (iX rfl rfl rfl (cP rfl (ay rfl rfl (aJ _ aa rfl rfl rfl) (ay rfl rfl (aN _ aa rfl rfl (rfl:_=some (AV.v (.string _)))) (ay rfl rfl (aT (r:=true) _ _ Tryz.underlying9 rfl rfl rfl) (ai (aG _ _ _ rfl (rfl:_=AV.v (.bool _))) (aj (bF rfl rfl ?_))))))))))
 refine aq ?_
 refine aM (σ':=aB 211 [(2,_),(3,_),(4,_)] [((3,0),_),((4,0),_)] [] []) kp ?_
 refine bG 9 [137,138,139,140,141,142,143,144,145] [] ae ae rfl (aL rfl) (rfl:_=[_,_,_,_,_,_,_,_,_]) (rfl:_=[_,_]) ?_
 refine ap (_,[]) (fun τ=> aR _ aa rfl rfl rfl rfl) ?_
 refine eH rfl ?_
 refine ap (_,[]) (fun τ=> aJ _ aa rfl rfl rfl) ?_
 refine eG rfl ?_
 refine ap (_,[]) (fun τ=> aN _ aa rfl rfl (rfl:_=some (AV.sl _ _))) ?_
 refine eI rfl ?_
 refine ap (_,[]) (fun τ=> bf _ _ aa rfl rfl 0 rfl (show 0 < 2 by omega) (Nat.le_of_ble_eq_true rfl) rfl) ?_
 refine eQ rfl ?_
 refine ap (_,[]) (fun τ=> cg _ aa rfl (by exact cF [c,y] 0 (by simp)) rfl) ?_
 refine fb rfl ?_
 refine ap (_,[]) (fun τ=> aJ _ aa rfl rfl rfl) ?_
 refine fB rfl ?_
 refine ap (_,[]) (fun τ=> aN _ aa rfl rfl (rfl:_=some (AV.sl _ _))) ?_
 refine gD rfl ?_
 refine ap (_,[]) (fun τ=> jh _ _ _ aa rfl 1 2 (.lit rfl rfl) (.lit rfl rfl) ab (show 2≤2 by omega) (show _=kB [y] from rfl) rfl) ?_
 refine jL rfl ?_
 refine ap (_,[]) (fun τ=> aD _ (rfl:_=AV.v (.int _ _))) ?_
 refine jF rfl (bh ⟨rfl,?_⟩)
 refine ai (dl aa [((0,8),(50,0))] ar (hb.toI) trivial tr ae) ?_
 exact eX rfl (aj (aC (aY (.inr rfl) rfl (.tmp (rfl:_=AV.ref _ _ _)) (Le.out [((0,8),(50,0))] [] (dj rfl rfl) rfl rfl rfl trivial ob))))
theorem Aa {L:List Nd} {cs:List Cd} (hc:cs.length=L.length) (hk:la (uu d v no on) L cs):CoS (uu d v no on) (nd 16 0 [] L) (fun a=> cN cs a++[{ op:= .draw }]):=fun a ha=> by
 have hl2:a+(cN cs a).length≤1000000:=by simp only [List.length_append] at ha;omega
 have hq:=dx (d:=d) (v:=v) (no:=no) (on:=on) L cs hc hk a hl2
 refine Spec.ofN Tryz.func91 rfl Tryz.ntmps91 rfl ?_
 refine am (ai (bk (3,0) _ rfl rfl) (ai (bk (4,0) _ rfl rfl) (ai (bH _ (rfl:_=AV.v (.slice _ _ _))) (aj (aq (am (bE rfl rfl rfl (cH rfl rfl rfl (aj (au ?_))))))))))
 refine aq (bQ rfl rfl rfl rfl rfl (cd rfl rfl rfl rfl rfl ?_))
 iterate 3 refine bQ rfl rfl rfl rfl rfl ?_
 refine aq ?_
 refine aM (σ':=aB 211 [(2,_),(3,_),(4,_),(12,_)] [((3,0),_),((4,0),_)] [] []) kp ?_
 refine cd rfl rfl rfl rfl rfl ?_
 iterate 4 refine bQ rfl rfl rfl rfl rfl ?_
 refine cf (aq (am (bE rfl rfl rfl (cH rfl rfl rfl (eF rfl rfl rfl (cP rfl (aX rfl rfl ah ?_)))))))
 refine aX rfl rfl ah ?_
 refine aX rfl rfl ah ?_
 refine ai (aG _ _ _ rfl (rfl:_=AV.v (.bool _))) (aj (aP rfl rfl (aI (aq (aq ?_)))))
 refine aM (σ':=aB 211 [(2,_),(3,_),(4,_)] [((3,0),_),((4,0),_)] [] []) kp ?_
 refine an (bE rfl rfl rfl (cH rfl rfl rfl (eF rfl rfl rfl (cP rfl (aX rfl rfl ah ?_)))))
 refine aX rfl rfl ah ?_
 refine aX rfl rfl ah ?_
 refine ai (aG _ _ _ rfl (rfl:_=AV.v (.bool _))) (aj (aP rfl rfl (aI (am (ai (aR _ aa rfl rfl rfl rfl) (bE rfl rfl rfl (fg rfl rfl rfl (aQ rfl (ai (dl aa [((0,8),(50,0))] ar (hq.toI) trivial tr ae) ?_)))))))))
 refine eX rfl (aj (aq (am (bE rfl rfl rfl (cH rfl rfl rfl (aj (au (aq ?_))))))))
 refine aM (σ':=aB 211 [(3,_),(4,_),(10,_),(153,_)] [((3,0),_),((4,0),_),((50,0),_)] [] []) kp ?_
 refine cd rfl rfl rfl rfl rfl (eL rfl rfl rfl rfl rfl (am (gF rfl (ai (aA _ aa rfl (by exact (rfl:_=some [_,_]))) ?_))))
 refine ai (aV _ _ aa rfl ag (by (simp <;> rfl)) ah rfl) ?_
 refine ai (dh (166,0) _ _ aa rfl rfl (bK _).symm (.sl rfl) ab rfl (ey _ { op:= .draw }) (show (cN cs a).length+1=(cN cs a++[({ op:= .draw }:eu)]).length by simp)) ?_
 exact eX rfl (aj (aC (aY (.inr rfl) rfl (.tmp (rfl:_=AV.ref _ _ _)) (Le.out [((0,8),(166,0))] [] (dj rfl rfl) rfl rfl rfl trivial ob))))
theorem Dw {L:List Nd} {cs:List Cd} (hc:cs.length=L.length) (hk:la (uu d v no on) L cs):CoS (uu d v no on) (nd 17 0 [45] L) (fun a=> cN cs a++[{ op:= .neg }]):=fun a ha=> by
 have hl2:a+(cN cs a).length≤1000000:=by simp only [List.length_append] at ha;omega
 have hq:=dx (d:=d) (v:=v) (no:=no) (on:=on) L cs hc hk a hl2
 refine Spec.ofN Tryz.func91 rfl Tryz.ntmps91 rfl ?_
 refine am (ai (bk (3,0) _ rfl rfl) (ai (bk (4,0) _ rfl rfl) (ai (bH _ (rfl:_=AV.v (.slice _ _ _))) (aj (aq (am (bE rfl rfl rfl (cH rfl rfl rfl (aj (au ?_))))))))))
 refine aq (bQ rfl rfl rfl rfl rfl (cd rfl rfl rfl rfl rfl ?_))
 iterate 3 refine bQ rfl rfl rfl rfl rfl ?_
 refine aq ?_
 refine aM (σ':=aB 211 [(2,_),(3,_),(4,_),(12,_)] [((3,0),_),((4,0),_)] [] []) kp ?_
 refine cd rfl rfl rfl rfl rfl ?_
 iterate 4 refine bQ rfl rfl rfl rfl rfl ?_
 refine cf (aq (am (bE rfl rfl rfl (cH rfl rfl rfl (eF rfl rfl rfl (cP rfl (aX rfl rfl ah ?_)))))))
 refine aX rfl rfl ah ?_
 refine aX rfl rfl ah ?_
 refine ai (aG _ _ _ rfl (rfl:_=AV.v (.bool _))) (aj (aP rfl rfl (aI (aq (aq ?_)))))
 refine aM (σ':=aB 211 [(2,_),(3,_),(4,_)] [((3,0),_),((4,0),_)] [] []) kp ?_
 refine an (bE rfl rfl rfl (cH rfl rfl rfl (eF rfl rfl rfl (cP rfl (aX rfl rfl ah ?_)))))
 refine aX rfl rfl ah ?_
 refine aX rfl rfl ah ?_
 refine ai (aG _ _ _ rfl (rfl:_=AV.v (.bool _))) (aj (aP rfl rfl (aI (am (ai (aR _ aa rfl rfl rfl rfl) (bE rfl rfl rfl (fg rfl rfl rfl (aQ rfl (ai (dl aa [((0,8),(50,0))] ar (hq.toI) trivial tr ae) ?_)))))))))
 refine eX rfl (aj (aq (am (bE rfl rfl rfl (cH rfl rfl rfl (aj (au (aq ?_))))))))
 refine aM (σ':=aB 211 [(3,_),(4,_),(10,_),(153,_)] [((3,0),_),((4,0),_),((50,0),_)] [] []) kp ?_
 refine cd rfl rfl rfl rfl rfl (bQ rfl rfl rfl rfl rfl (eL rfl rfl rfl rfl rfl (aq (am (bE rfl rfl rfl (ai (aN _ aa rfl rfl (rfl:_=some (AV.v (.string _)))) (ai (aT (r:=true) _ _ Tryz.underlying9 rfl rfl rfl) (aj (bF rfl rfl (am ?_))))))))))
 refine gF rfl (ai (aA _ aa rfl (by exact (rfl:_=some [_,_]))) ?_)
 refine ai (aV _ _ aa rfl ag (by (simp <;> rfl)) ah rfl) ?_
 refine ai (dh (175,0) _ _ aa rfl rfl (bK _).symm (.sl rfl) ab rfl (ey _ { op:= .neg }) (show (cN cs a).length+1=(cN cs a++[({ op:= .neg }:eu)]).length by simp)) ?_
 exact eX rfl (aj (aC (aY (.inr rfl) rfl (.tmp (rfl:_=AV.ref _ _ _)) (Le.out [((0,8),(175,0))] [] (dj rfl rfl) rfl rfl rfl trivial ob))))
theorem Du {L:List Nd} {cs:List Cd} (hc:cs.length=L.length) (hk:la (uu d v no on) L cs):CoS (uu d v no on) (nd 17 0 [33] L) (fun a=> cN cs a++[{ op:= .not }]):=fun a ha=> by
 have hl2:a+(cN cs a).length≤1000000:=by simp only [List.length_append] at ha;omega
 have hq:=dx (d:=d) (v:=v) (no:=no) (on:=on) L cs hc hk a hl2
 refine Spec.ofN Tryz.func91 rfl Tryz.ntmps91 rfl ?_
 refine am (ai (bk (3,0) _ rfl rfl) (ai (bk (4,0) _ rfl rfl) (ai (bH _ (rfl:_=AV.v (.slice _ _ _))) (aj (aq (am (bE rfl rfl rfl (cH rfl rfl rfl (aj (au ?_))))))))))
 refine aq (bQ rfl rfl rfl rfl rfl (cd rfl rfl rfl rfl rfl ?_))
 iterate 3 refine bQ rfl rfl rfl rfl rfl ?_
 refine aq ?_
 refine aM (σ':=aB 211 [(2,_),(3,_),(4,_),(12,_)] [((3,0),_),((4,0),_)] [] []) kp ?_
 refine cd rfl rfl rfl rfl rfl ?_
 iterate 4 refine bQ rfl rfl rfl rfl rfl ?_
 refine cf (aq (am (bE rfl rfl rfl (cH rfl rfl rfl (eF rfl rfl rfl (cP rfl (aX rfl rfl ah ?_)))))))
 refine aX rfl rfl ah ?_
 refine aX rfl rfl ah ?_
 refine ai (aG _ _ _ rfl (rfl:_=AV.v (.bool _))) (aj (aP rfl rfl (aI (aq (aq ?_)))))
 refine aM (σ':=aB 211 [(2,_),(3,_),(4,_)] [((3,0),_),((4,0),_)] [] []) kp ?_
 refine an (bE rfl rfl rfl (cH rfl rfl rfl (eF rfl rfl rfl (cP rfl (aX rfl rfl ah ?_)))))
 refine aX rfl rfl ah ?_
 refine aX rfl rfl ah ?_
 refine ai (aG _ _ _ rfl (rfl:_=AV.v (.bool _))) (aj (aP rfl rfl (aI (am (ai (aR _ aa rfl rfl rfl rfl) (bE rfl rfl rfl (fg rfl rfl rfl (aQ rfl (ai (dl aa [((0,8),(50,0))] ar (hq.toI) trivial tr ae) ?_)))))))))
 refine eX rfl (aj (aq (am (bE rfl rfl rfl (cH rfl rfl rfl (aj (au (aq ?_))))))))
 refine aM (σ':=aB 211 [(3,_),(4,_),(10,_),(153,_)] [((3,0),_),((4,0),_),((50,0),_)] [] []) kp ?_
 refine cd rfl rfl rfl rfl rfl (bQ rfl rfl rfl rfl rfl (eL rfl rfl rfl rfl rfl (aq (am (bE rfl rfl rfl (ai (aN _ aa rfl rfl (rfl:_=some (AV.v (.string _)))) (ai (aT (r:=false) _ _ Tryz.underlying9 rfl rfl rfl) (aj (aP rfl rfl (aI ?_))))))))))
 refine am (gF rfl (ai (aA _ aa rfl (by exact (rfl:_=some [_,_]))) ?_))
 refine ai (aV _ _ aa rfl ag (by (simp <;> rfl)) ah rfl) ?_
 refine ai (dh (179,0) _ _ aa rfl rfl (bK _).symm (.sl rfl) ab rfl (ey _ { op:= .not }) (show (cN cs a).length+1=(cN cs a++[({ op:= .not }:eu)]).length by simp)) ?_
 exact eX rfl (aj (aC (aY (.inr rfl) rfl (.tmp (rfl:_=AV.ref _ _ _)) (Le.out [((0,8),(179,0))] [] (dj rfl rfl) rfl rfl rfl trivial ob))))
theorem uE {L:List Nd} {cs:List Cd} (hc:cs.length=L.length) (hk:la (uu d v no on) L cs) (hn:(d++v).Nodup) (hl:(d++v).length≤1000) (i:Nat) (hi:i < (d++v).length):CoS (uu d v no on) (nd 1 0 ((d++v).getD i []) L) (fun a=> cN cs a++[{ op:= .setVar,n:=(i:Int) }]):=fun a ha=> by
 have hl2:a+(cN cs a).length≤1000000:=by simp only [List.length_append] at ha;omega
 have hq:=dx (d:=d) (v:=v) (no:=no) (on:=on) L cs hc hk a hl2
 refine Spec.ofN Tryz.func91 rfl Tryz.ntmps91 rfl ?_
 refine am (ai (bk (3,0) _ rfl rfl) (ai (bk (4,0) _ rfl rfl) (ai (bH _ (rfl:_=AV.v (.slice _ _ _))) (aj (aq (am (bE rfl rfl rfl (cH rfl rfl rfl (aj (au ?_))))))))))
 refine aq (bQ rfl rfl rfl rfl rfl (cd rfl rfl rfl rfl rfl ?_))
 iterate 3 refine bQ rfl rfl rfl rfl rfl ?_
 refine aq ?_
 refine aM (σ':=aB 211 [(2,_),(3,_),(4,_),(12,_)] [((3,0),_),((4,0),_)] [] []) kp ?_
 refine cd rfl rfl rfl rfl rfl ?_
 iterate 4 refine bQ rfl rfl rfl rfl rfl ?_
 refine cf (aq (am (bE rfl rfl rfl (cH rfl rfl rfl (eF rfl rfl rfl (cP rfl (aX rfl rfl ah ?_)))))))
 refine aX rfl rfl ah ?_
 refine aX rfl rfl ah ?_
 refine ai (aG _ _ _ rfl (rfl:_=AV.v (.bool _))) (aj (aP rfl rfl (aI (aq (aq ?_)))))
 refine aM (σ':=aB 211 [(2,_),(3,_),(4,_)] [((3,0),_),((4,0),_)] [] []) kp ?_
 refine an (bE rfl rfl rfl (cH rfl rfl rfl (eF rfl rfl rfl (cP rfl (aX rfl rfl ah ?_)))))
 refine aX rfl rfl ah ?_
 refine aX rfl rfl ah ?_
 refine ai (aG _ _ _ rfl (rfl:_=AV.v (.bool _))) (aj (aP rfl rfl (aI (am (ai (aR _ aa rfl rfl rfl rfl) (bE rfl rfl rfl (fg rfl rfl rfl (aQ rfl (ai (dl aa [((0,8),(50,0))] ar (hq.toI) trivial tr ae) ?_)))))))))
 refine eX rfl (aj (aq (am (bE rfl rfl rfl (cH rfl rfl rfl (aj (au (aq ?_))))))))
 refine aM (σ':=aB 211 [(3,_),(4,_),(10,_),(153,_)] [((3,0),_),((4,0),_),((50,0),_)] [] []) kp ?_
 refine cd rfl rfl rfl rfl rfl ?_
 iterate 2 refine bQ rfl rfl rfl rfl rfl ?_
 refine eL rfl rfl rfl rfl rfl (am (gF rfl (ai (aR _ aa rfl rfl rfl rfl) (bE rfl rfl rfl (ai (aN _ aa rfl rfl (rfl:_=some (AV.v (.string _)))) (ai (aK aa al (kU d v on no hn hl i hi) rfl rfl) ?_))))))
 refine ai (aA _ aa rfl (by exact (rfl:_=some [_,_]))) ?_
 refine ai (aV _ _ aa rfl ag (by (simp <;> rfl)) ah rfl) ?_
 refine ai (dh (189,0) _ _ aa rfl rfl (bK _).symm (.sl rfl) ab rfl (ey _ { op:= .setVar,n:=(i:Int) }) (show (cN cs a).length+1=(cN cs a++[({ op:= .setVar,n:=(i:Int) }:eu)]).length by simp)) ?_
 exact eX rfl (aj (aC (aY (.inr rfl) rfl (.tmp (rfl:_=AV.ref _ _ _)) (Le.out [((0,8),(189,0))] [] (dj rfl rfl) rfl rfl rfl trivial ob))))
theorem zS {L:List Nd} {cs:List Cd} (hc:cs.length=L.length) (hk:la (uu d v no on) L cs) (n:Nat):CoS (uu d v no on) (nd 4 n [] L) (fun a=> cN cs a++[{ op:= .send,n:=(n:Int) }]):=fun a ha=> by
 have hl2:a+(cN cs a).length≤1000000:=by simp only [List.length_append] at ha;omega
 have hq:=dx (d:=d) (v:=v) (no:=no) (on:=on) L cs hc hk a hl2
 refine Spec.ofN Tryz.func91 rfl Tryz.ntmps91 rfl ?_
 refine am (ai (bk (3,0) _ rfl rfl) (ai (bk (4,0) _ rfl rfl) (ai (bH _ (rfl:_=AV.v (.slice _ _ _))) (aj (aq (am (bE rfl rfl rfl (cH rfl rfl rfl (aj (au ?_))))))))))
 refine aq (bQ rfl rfl rfl rfl rfl (cd rfl rfl rfl rfl rfl ?_))
 iterate 3 refine bQ rfl rfl rfl rfl rfl ?_
 refine aq ?_
 refine aM (σ':=aB 211 [(2,_),(3,_),(4,_),(12,_)] [((3,0),_),((4,0),_)] [] []) kp ?_
 refine cd rfl rfl rfl rfl rfl ?_
 iterate 4 refine bQ rfl rfl rfl rfl rfl ?_
 refine cf (aq (am (bE rfl rfl rfl (cH rfl rfl rfl (eF rfl rfl rfl (cP rfl (aX rfl rfl ah ?_)))))))
 refine aX rfl rfl ah ?_
 refine aX rfl rfl ah ?_
 refine ai (aG _ _ _ rfl (rfl:_=AV.v (.bool _))) (aj (aP rfl rfl (aI (aq (aq ?_)))))
 refine aM (σ':=aB 211 [(2,_),(3,_),(4,_)] [((3,0),_),((4,0),_)] [] []) kp ?_
 refine an (bE rfl rfl rfl (cH rfl rfl rfl (eF rfl rfl rfl (cP rfl (aX rfl rfl ah ?_)))))
 refine aX rfl rfl ah ?_
 refine aX rfl rfl ah ?_
 refine ai (aG _ _ _ rfl (rfl:_=AV.v (.bool _))) (aj (aP rfl rfl (aI (am (ai (aR _ aa rfl rfl rfl rfl) (bE rfl rfl rfl (fg rfl rfl rfl (aQ rfl (ai (dl aa [((0,8),(50,0))] ar (hq.toI) trivial tr ae) ?_)))))))))
 refine eX rfl (aj (aq (am (bE rfl rfl rfl (cH rfl rfl rfl (aj (au (aq ?_))))))))
 refine aM (σ':=aB 211 [(3,_),(4,_),(10,_),(153,_)] [((3,0),_),((4,0),_),((50,0),_)] [] []) kp ?_
 refine cd rfl rfl rfl rfl rfl ?_
 iterate 3 refine bQ rfl rfl rfl rfl rfl ?_
 refine eL rfl rfl rfl rfl rfl (am (gF rfl (bE rfl rfl rfl (cH rfl rfl rfl (ai (aA _ aa rfl (by exact (rfl:_=some [_,_]))) ?_)))))
 refine ai (aV _ _ aa rfl ag (by (simp <;> rfl)) ah rfl) ?_
 refine ai (dh (197,0) _ _ aa rfl rfl (bK _).symm (.sl rfl) ab rfl (ey _ { op:= .send,n:=(n:Int) }) (show (cN cs a).length+1=(cN cs a++[({ op:= .send,n:=(n:Int) }:eu)]).length by simp)) ?_
 exact eX rfl (aj (aC (aY (.inr rfl) rfl (.tmp (rfl:_=AV.ref _ _ _)) (Le.out [((0,8),(197,0))] [] (dj rfl rfl) rfl rfl rfl trivial ob))))
theorem yS {L:List Nd} {cs:List Cd} (hc:cs.length=L.length) (hk:la (uu d v no on) L cs):CoS (uu d v no on) (nd 8 0 [] L) (fun a=> cN cs a++[{ op:= .reply }]):=fun a ha=> by
 have hl2:a+(cN cs a).length≤1000000:=by simp only [List.length_append] at ha;omega
 have hq:=dx (d:=d) (v:=v) (no:=no) (on:=on) L cs hc hk a hl2
 refine Spec.ofN Tryz.func91 rfl Tryz.ntmps91 rfl ?_
 refine am (ai (bk (3,0) _ rfl rfl) (ai (bk (4,0) _ rfl rfl) (ai (bH _ (rfl:_=AV.v (.slice _ _ _))) (aj (aq (am (bE rfl rfl rfl (cH rfl rfl rfl (aj (au ?_))))))))))
 refine aq (bQ rfl rfl rfl rfl rfl (cd rfl rfl rfl rfl rfl ?_))
 iterate 3 refine bQ rfl rfl rfl rfl rfl ?_
 refine aq ?_
 refine aM (σ':=aB 211 [(2,_),(3,_),(4,_),(12,_)] [((3,0),_),((4,0),_)] [] []) kp ?_
 refine cd rfl rfl rfl rfl rfl ?_
 iterate 4 refine bQ rfl rfl rfl rfl rfl ?_
 refine cf (aq (am (bE rfl rfl rfl (cH rfl rfl rfl (eF rfl rfl rfl (cP rfl (aX rfl rfl ah ?_)))))))
 refine aX rfl rfl ah ?_
 refine aX rfl rfl ah ?_
 refine ai (aG _ _ _ rfl (rfl:_=AV.v (.bool _))) (aj (aP rfl rfl (aI (aq (aq ?_)))))
 refine aM (σ':=aB 211 [(2,_),(3,_),(4,_)] [((3,0),_),((4,0),_)] [] []) kp ?_
 refine an (bE rfl rfl rfl (cH rfl rfl rfl (eF rfl rfl rfl (cP rfl (aX rfl rfl ah ?_)))))
 refine aX rfl rfl ah ?_
 refine aX rfl rfl ah ?_
 refine ai (aG _ _ _ rfl (rfl:_=AV.v (.bool _))) (aj (aP rfl rfl (aI (am (ai (aR _ aa rfl rfl rfl rfl) (bE rfl rfl rfl (fg rfl rfl rfl (aQ rfl (ai (dl aa [((0,8),(50,0))] ar (hq.toI) trivial tr ae) ?_)))))))))
 refine eX rfl (aj (aq (am (bE rfl rfl rfl (cH rfl rfl rfl (aj (au (aq ?_))))))))
 refine aM (σ':=aB 211 [(3,_),(4,_),(10,_),(153,_)] [((3,0),_),((4,0),_),((50,0),_)] [] []) kp ?_
 refine cd rfl rfl rfl rfl rfl ?_
 iterate 4 refine bQ rfl rfl rfl rfl rfl ?_
 refine eL rfl rfl rfl rfl rfl (am (gF rfl (ai (aA _ aa rfl (by exact (rfl:_=some [_,_]))) ?_)))
 refine ai (aV _ _ aa rfl ag (by (simp <;> rfl)) ah rfl) ?_
 refine ai (dh (203,0) _ _ aa rfl rfl (bK _).symm (.sl rfl) ab rfl (ey _ { op:= .reply }) (show (cN cs a).length+1=(cN cs a++[({ op:= .reply }:eu)]).length by simp)) ?_
 exact eX rfl (aj (aC (aY (.inr rfl) rfl (.tmp (rfl:_=AV.ref _ _ _)) (Le.out [((0,8),(203,0))] [] (dj rfl rfl) rfl rfl rfl trivial ob))))
theorem Ay {L:List Nd} {cs:List Cd} (hc:cs.length=L.length) (hk:la (uu d v no on) L cs):CoS (uu d v no on) (nd 9 0 [] L) (fun a=> cN cs a++[{ op:= .fail }]):=fun a ha=> by
 have hl2:a+(cN cs a).length≤1000000:=by simp only [List.length_append] at ha;omega
 have hq:=dx (d:=d) (v:=v) (no:=no) (on:=on) L cs hc hk a hl2
 refine Spec.ofN Tryz.func91 rfl Tryz.ntmps91 rfl ?_
 refine am (ai (bk (3,0) _ rfl rfl) (ai (bk (4,0) _ rfl rfl) (ai (bH _ (rfl:_=AV.v (.slice _ _ _))) (aj (aq (am (bE rfl rfl rfl (cH rfl rfl rfl (aj (au ?_))))))))))
 refine aq (bQ rfl rfl rfl rfl rfl (cd rfl rfl rfl rfl rfl ?_))
 iterate 3 refine bQ rfl rfl rfl rfl rfl ?_
 refine aq ?_
 refine aM (σ':=aB 211 [(2,_),(3,_),(4,_),(12,_)] [((3,0),_),((4,0),_)] [] []) kp ?_
 refine cd rfl rfl rfl rfl rfl ?_
 iterate 4 refine bQ rfl rfl rfl rfl rfl ?_
 refine cf (aq (am (bE rfl rfl rfl (cH rfl rfl rfl (eF rfl rfl rfl (cP rfl (aX rfl rfl ah ?_)))))))
 refine aX rfl rfl ah ?_
 refine aX rfl rfl ah ?_
 refine ai (aG _ _ _ rfl (rfl:_=AV.v (.bool _))) (aj (aP rfl rfl (aI (aq (aq ?_)))))
 refine aM (σ':=aB 211 [(2,_),(3,_),(4,_)] [((3,0),_),((4,0),_)] [] []) kp ?_
 refine an (bE rfl rfl rfl (cH rfl rfl rfl (eF rfl rfl rfl (cP rfl (aX rfl rfl ah ?_)))))
 refine aX rfl rfl ah ?_
 refine aX rfl rfl ah ?_
 refine ai (aG _ _ _ rfl (rfl:_=AV.v (.bool _))) (aj (aP rfl rfl (aI (am (ai (aR _ aa rfl rfl rfl rfl) (bE rfl rfl rfl (fg rfl rfl rfl (aQ rfl (ai (dl aa [((0,8),(50,0))] ar (hq.toI) trivial tr ae) ?_)))))))))
 refine eX rfl (aj (aq (am (bE rfl rfl rfl (cH rfl rfl rfl (aj (au (aq ?_))))))))
 refine aM (σ':=aB 211 [(3,_),(4,_),(10,_),(153,_)] [((3,0),_),((4,0),_),((50,0),_)] [] []) kp ?_
 refine cd rfl rfl rfl rfl rfl ?_
 iterate 5 refine bQ rfl rfl rfl rfl rfl ?_
 refine eL rfl rfl rfl rfl rfl (am (gF rfl (ai (aA _ aa rfl (by exact (rfl:_=some [_,_]))) ?_)))
 refine ai (aV _ _ aa rfl ag (by (simp <;> rfl)) ah rfl) ?_
 refine ai (dh (209,0) _ _ aa rfl rfl (bK _).symm (.sl rfl) ab rfl (ey _ { op:= .fail }) (show (cN cs a).length+1=(cN cs a++[({ op:= .fail }:eu)]).length by simp)) ?_
 exact eX rfl (aj (aC (aY (.inr rfl) rfl (.tmp (rfl:_=AV.ref _ _ _)) (Le.out [((0,8),(209,0))] [] (dj rfl rfl) rfl rfl rfl trivial ob))))
theorem yG {L:List Nd} {cs:List Cd} (hc:cs.length=L.length) (hk:la (uu d v no on) L cs):CoS (uu d v no on) (nd 11 0 [] L) (fun a=> cN cs a):=fun a ha=> by
 have hl2:a+(cN cs a).length≤1000000:=ha
 have hq:=dx (d:=d) (v:=v) (no:=no) (on:=on) L cs hc hk a hl2
 refine Spec.ofN Tryz.func91 rfl Tryz.ntmps91 rfl ?_
 refine am (ai (bk (3,0) _ rfl rfl) (ai (bk (4,0) _ rfl rfl) (ai (bH _ (rfl:_=AV.v (.slice _ _ _))) (aj (aq (am (bE rfl rfl rfl (cH rfl rfl rfl (aj (au ?_))))))))))
 refine aq (bQ rfl rfl rfl rfl rfl (cd rfl rfl rfl rfl rfl ?_))
 iterate 3 refine bQ rfl rfl rfl rfl rfl ?_
 refine aq ?_
 refine aM (σ':=aB 211 [(2,_),(3,_),(4,_),(12,_)] [((3,0),_),((4,0),_)] [] []) kp ?_
 refine cd rfl rfl rfl rfl rfl ?_
 iterate 4 refine bQ rfl rfl rfl rfl rfl ?_
 refine cf (aq (am (bE rfl rfl rfl (cH rfl rfl rfl (eF rfl rfl rfl (cP rfl (aX rfl rfl ah ?_)))))))
 refine aX rfl rfl ah ?_
 refine aX rfl rfl ah ?_
 refine ai (aG _ _ _ rfl (rfl:_=AV.v (.bool _))) (aj (aP rfl rfl (aI (aq (aq ?_)))))
 refine aM (σ':=aB 211 [(2,_),(3,_),(4,_)] [((3,0),_),((4,0),_)] [] []) kp ?_
 refine an (bE rfl rfl rfl (cH rfl rfl rfl (eF rfl rfl rfl (cP rfl (aX rfl rfl ah ?_)))))
 refine aX rfl rfl ah ?_
 refine aX rfl rfl ah ?_
 refine ai (aG _ _ _ rfl (rfl:_=AV.v (.bool _))) (aj (aP rfl rfl (aI (am (ai (aR _ aa rfl rfl rfl rfl) (bE rfl rfl rfl (fg rfl rfl rfl (aQ rfl (ai (dl aa [((0,8),(50,0))] ar (hq.toI) trivial tr ae) ?_)))))))))
 refine eX rfl (aj (aq (am (bE rfl rfl rfl (cH rfl rfl rfl (aj (au (aq ?_))))))))
 refine aM (σ':=aB 211 [(3,_),(4,_),(10,_),(153,_)] [((3,0),_),((4,0),_),((50,0),_)] [] []) kp ?_
 refine cd rfl rfl rfl rfl rfl ?_
 iterate 6 refine bQ rfl rfl rfl rfl rfl ?_
 exact cf (am (gF rfl (eX rfl (aj (aC (aY (.inr rfl) rfl (.tmp (rfl:_=AV.ref _ _ _)) (Le.out [((0,8),(50,0))] [] (dj rfl rfl) rfl rfl rfl trivial ob)))))))
theorem DJ {L:List Nd} {cs:List Cd} (hc:cs.length=L.length) (hk:la (uu d v no on) L cs) (o:Bo):CoS (uu d v no on) (nd 18 0 o.txt L) (fun a=> cN cs a++o.code):=fun a ha=> by
 have hol:o.code.length≤2:=by cases o <;> decide
 have hs1:o.txt≠[38,38]:=by cases o <;> decide
 have hs2:o.txt≠[124,124]:=by cases o <;> decide
 have hl2:a+(cN cs a).length≤1000000:=by simp only [List.length_append] at ha;omega
 have hq:=dx (d:=d) (v:=v) (no:=no) (on:=on) L cs hc hk a hl2
 refine Spec.ofN Tryz.func91 rfl Tryz.ntmps91 rfl ?_
 refine am (ai (bk (3,0) _ rfl rfl) (ai (bk (4,0) _ rfl rfl) (ai (bH _ (rfl:_=AV.v (.slice _ _ _))) (aj (aq (am (bE rfl rfl rfl (cH rfl rfl rfl (aj (au ?_))))))))))
 refine aq (bQ rfl rfl rfl rfl rfl (cd rfl rfl rfl rfl rfl ?_))
 iterate 3 refine bQ rfl rfl rfl rfl rfl ?_
 refine aq ?_
 refine aM (σ':=aB 211 [(2,_),(3,_),(4,_),(12,_)] [((3,0),_),((4,0),_)] [] []) kp ?_
 refine cd rfl rfl rfl rfl rfl ?_
 iterate 4 refine bQ rfl rfl rfl rfl rfl ?_
 refine cf (aq (am (bE rfl rfl rfl (cH rfl rfl rfl (iX rfl rfl rfl (cP rfl (ay rfl rfl (aJ _ aa rfl rfl rfl) (ay rfl rfl (aN _ aa rfl rfl (rfl:_=some (AV.v (.string _)))) (ay rfl rfl (aT (r:=false) _ _ Tryz.underlying9 rfl rfl (beq_eq_false_iff_ne.2 hs1)) ?_)))))))))
 refine ai (aG _ _ _ rfl (rfl:_=AV.v (.bool _))) (aj (aP rfl rfl (aI (aq (aq ?_)))))
 refine aM (σ':=aB 211 [(2,_),(3,_),(4,_)] [((3,0),_),((4,0),_)] [] []) kp ?_
 refine an (bE rfl rfl rfl (cH rfl rfl rfl (iX rfl rfl rfl (cP rfl (ay rfl rfl (aJ _ aa rfl rfl rfl) (ay rfl rfl (aN _ aa rfl rfl (rfl:_=some (AV.v (.string _)))) (ay rfl rfl (aT (r:=false) _ _ Tryz.underlying9 rfl rfl (beq_eq_false_iff_ne.2 hs2)) ?_)))))))
 refine ai (aG _ _ _ rfl (rfl:_=AV.v (.bool _))) (aj (aP rfl rfl (aI (am (ai (aR _ aa rfl rfl rfl rfl) (bE rfl rfl rfl (fg rfl rfl rfl (aQ rfl (ai (dl aa [((0,8),(50,0))] ar (hq.toI) trivial tr ae) ?_)))))))))
 refine eX rfl (aj (aq (am (bE rfl rfl rfl (cH rfl rfl rfl (aj (au (aq ?_))))))))
 refine aM (σ':=aB 211 [(3,_),(4,_),(10,_),(153,_)] [((3,0),_),((4,0),_),((50,0),_)] [] []) kp ?_
 refine oW rfl rfl rfl rfl rfl (am (gF rfl (bE rfl rfl rfl (ai (aN _ aa rfl rfl (rfl:_=some (AV.v (.string _)))) (ai (aK aa al (vz o) rfl rfl) ?_)))))
 refine ai (dh (160,0) _ _ aa rfl rfl (bK _).symm (.sl (bK _)) ab rfl (ko _ _) (show (cN cs a).length+o.code.length=(cN cs a++o.code).length by simp)) ?_
 exact eX rfl (aj (aC (aY (.inr rfl) rfl (.tmp (rfl:_=AV.ref _ _ _)) (Le.out [((0,8),(160,0))] [] (dj rfl rfl) rfl rfl rfl trivial ob))))
def Kv (c y:Cd) (a:Nat):List eu:=c a++[{ op:= .unl,n:=((a+(c a).length+(y (a+(c a).length+1)).length+2:Nat):Int) }]++y (a+(c a).length+1)++[{ op:= .jump,n:=(a:Int) }]
theorem yj {c y:Nd} {cc cy:Cd} (hc:CoS (uu d v no on) c cc) (hy:CoS (uu d v no on) y cy):CoS (uu d v no on) (nd 3 0 [] [c,y]) (Kv cc cy):=fun a ha=> by
 obtain ⟨b,hb⟩: ∃ b,b=Kv cc cy a:=⟨_,rfl⟩
 rw [← hb] at ha ⊢
 unfold Kv at hb
 have hbl:=congrArg List.length hb
 simp only [List.length_append,List.length_cons,List.length_nil] at hbl
 have h1:=hc a ab
 generalize cc a=C at h1 hb hbl
 have h2:=hy (a+C.length+1) ab
 generalize cy (a+C.length+1)=Y at h2 hb hbl
 refine Spec.ofN Tryz.func91 rfl Tryz.ntmps91 rfl ?_
 refine am (ai (bk (3,0) _ rfl rfl) (ai (bk (4,0) _ rfl rfl) (ai (bH _ (rfl:_=AV.v (.slice _ _ _))) (aj (aq (am (bE rfl rfl rfl (cH rfl rfl rfl (aj (au ?_))))))))))
 refine aq (bQ rfl rfl rfl rfl rfl (cd rfl rfl rfl rfl rfl ?_))
 iterate 3 refine bQ rfl rfl rfl rfl rfl ?_
 refine aq ?_
 refine aM (σ':=aB 211 [(2,_),(3,_),(4,_),(12,_)] [((3,0),_),((4,0),_)] [] []) kp ?_
 refine cd rfl rfl rfl rfl rfl ?_
 iterate 3 refine bQ rfl rfl rfl rfl rfl ?_
 refine eL rfl rfl rfl rfl rfl (aq ?_)
 refine aM (σ':=aB 211 [(2,_),(3,_),(4,_)] [((3,0),_),((4,0),_)] [] []) kp ?_
 refine bG 6 [73,74,75,76,77,78] [] ae ae rfl (aL rfl) (rfl:_=[_,_,_,_,_,_]) (rfl:_=[_,_]) ?_
 refine ap (_,[]) (fun τ=> aR _ aa rfl rfl rfl rfl) ?_
 refine eH rfl ?_
 refine ap (_,[]) (fun τ=> aJ _ aa rfl rfl rfl) ?_
 refine eG rfl ?_
 refine ap (_,[]) (fun τ=> aN _ aa rfl rfl (rfl:_=some (AV.sl _ _))) ?_
 refine eI rfl ?_
 refine ap (_,[]) (fun τ=> bf _ _ aa rfl rfl 0 rfl (show 0 < 2 by omega) (Nat.le_of_ble_eq_true rfl) rfl) ?_
 refine eQ rfl ?_
 refine ap (_,[]) (fun τ=> cg _ aa rfl (by exact cF [c,y] 0 (by simp)) rfl) ?_
 refine fb rfl ?_
 refine ap (_,[]) (fun τ=> aD _ (rfl:_=AV.v (.int _ _))) ?_
 refine fB rfl (bh ⟨rfl,?_⟩)
 refine ai (dl aa [((0,8),(50,0))] ar (h1.toI) trivial tr ae) ?_
 refine eX rfl (aj (aF fun K15 hK15=> ?_))
 refine aM (σ':=aB 211 [(2,_),(3,_),(4,_),(7,_)] [((3,0),_),((4,0),_),((50,0),_)] [] []) kp ?_
 refine bG 10 [80,81,82,83,84,85,86,87,88,89] [] ae ae rfl (aL rfl) (rfl:_=[_,_,_,_,_,_,_,_,_,_]) (rfl:_=[_,_]) ?_
 refine ap (_,[]) (fun τ=> aR _ aa rfl rfl rfl rfl) ?_
 refine eH rfl ?_
 refine ap (_,[]) (fun τ=> aJ _ aa rfl rfl rfl) ?_
 refine eG rfl ?_
 refine ap (_,[]) (fun τ=> aN _ aa rfl rfl (rfl:_=some (AV.sl _ _))) ?_
 refine eI rfl ?_
 refine ap (_,[]) (fun τ=> bf _ _ aa rfl rfl 1 rfl (show 1 < 2 by omega) (Nat.le_of_ble_eq_true rfl) rfl) ?_
 refine eQ rfl ?_
 refine ap (_,[]) (fun τ=> cg _ aa rfl (by exact cF [c,y] 1 (by simp)) rfl) ?_
 refine fb rfl ?_
 refine ap (_,[]) (fun τ=> aD _ (rfl:_=AV.v (.int _ _))) ?_
 refine fB rfl ?_
 refine ap (_,[]) (fun τ=> aD _ (rfl:_=AV.ref _ _ _)) ?_
 refine gD rfl ?_
 refine ap (_,[]) (fun τ=> dv _ aa rfl rfl) ?_
 refine jL rfl ?_
 refine ap (_,[]) (fun τ=> be _ _ rfl rfl (bq ab)) ?_
 refine jF rfl ?_
 refine ap (_,[]) (fun τ=> be _ _ rfl rfl (bq ab)) ?_
 refine fV rfl (bh ⟨rfl,?_⟩)
 refine ai (dl aa [((0,8),(51,0))] ar (h2.toI) trivial tr ae) ?_
 refine eX rfl (az (hK15 _ ?_))
 clear hK15;try clear K15
 refine am (gF rfl (aQ rfl (gF rfl (ai (dv _ aa rfl rfl) (ai (be _ _ rfl rfl (bq ab)) ?_)))))
 refine gF rfl (ai (dv _ aa rfl rfl) (ai (be _ _ rfl rfl (bq ab)) ?_))
 refine ai (be (r:=((a+C.length+Y.length+2:Nat):Int)) _ _ rfl rfl ((bq ab).trans ab)) ?_
 refine ai (aA _ aa rfl (by exact (rfl:_=some [_,_]))) ?_
 refine ai (aV _ _ aa rfl ag (by (simp <;> rfl)) ah rfl) ?_
 refine ai (dh (102,0) _ _ aa rfl rfl (bK _).symm (.sl rfl) ab rfl (ey _ { op:= .unl,n:=((a+C.length+Y.length+2:Nat):Int) }) (show C.length+1=(C++[({ op:= .unl,n:=((a+C.length+Y.length+2:Nat):Int) }:eu)]).length by simp)) ?_
 refine eX rfl (aj (aq ?_))
 refine aM (σ':=aB 211 [(2,_),(8,_),(9,_)] [((51,0),_),((102,0),_)] [] []) kp ?_
 refine an (gF rfl (gF rfl (ai (dh (105,0) _ _ aa rfl rfl (bK _).symm (.ref rfl (lZ _) (jG _)) (by simp;omega) rfl (ko _ _) (show (C++[({ op:= .unl,n:=((a+C.length+Y.length+2:Nat):Int) }:eu)]).length+Y.length=(C++[({ op:= .unl,n:=((a+C.length+Y.length+2:Nat):Int) }:eu)]++Y).length by simp;omega)) ?_)))
 refine eX rfl (aj (am (gF rfl (aQ rfl (ai (aA _ aa rfl (by exact (rfl:_=some [_,_]))) ?_)))))
 refine ai (aV _ _ aa rfl ag (by (simp <;> rfl)) ah rfl) ?_
 refine ai (dh (110,0) _ _ aa rfl rfl (bK _).symm (.sl rfl) (by simp;omega) rfl ((ey _ { op:= .jump,n:=(a:Int) }).trans (congrArg inl hb.symm)) (show _+1=b.length by simp;omega)) ?_
 exact eX rfl (aj (aC (aY (.inr rfl) rfl (.tmp (rfl:_=AV.ref _ _ _)) (Le.out [((0,8),(110,0))] [] (dj rfl rfl) rfl rfl rfl trivial ob))))
end

def gj:Ex→Bool
 | .int n=> decide (0≤n) | .bool _=> true | .var _=> true | .name _=> true
 | .draw e=> gj e | .neg e=> gj e | .not e=> gj e
 | .bin _ a b=> gj a && gj b
 | .and a b=> gj a && gj b
 | .or a b=> gj a && gj b
mutual
def oL:Sm→Bool
 | .assign _ e=> gj e
 | .send t _ a b=> gj t && gj a && gj b
 | .timer _=> true | .cancel _=> true | .sync=> true | .stop=> true
 | .reply a b=> gj a && gj b
 | .fail e=> gj e
 | .loop c b=> gj c && mV b
 | .ite c a b=> gj c && mV a && mV b
def mV:Bk→Bool
 | .nil=> true
 | .cons s b=> oL s && mV b
end
section
variable {d v:List Tx} {no:Nat} {on:List PV}
abbrev IW (d v:List Tx) (no:Nat) (on:List PV) (N:Nd) (c:Cd):Prop:=CoS (uu d v no on) N c
theorem CoS.cong {u:AV} {N:Nd} {c c':Cd} (h:CoS u N c) (e: ∀ a,c a=c' a):CoS u N c':=by
 rw [show c'=c from funext fun a=> (e a).symm];exact h
theorem dO (hn:(d++v).Nodup) (hl:(d++v).length≤1000): ∀ e:Ex,fl (d++v).length e→gj e=true→IW d v no on (dP (d++v) e) (bn e)
 | .int n,_,hp=> by
  have hp:=of_decide_eq_true hp
  have:=CU (d:=d) (v:=v) (no:=no) (on:=on) n.toNat
  exact this.cong fun a=> by rw [Int.toNat_of_nonneg hp];rfl
 | .bool b,_,_=> by
  cases b
  ·exact tV 0
  ·exact tV 1
 | .var i,h,_=> Eg hn hl i h
 | .name k,h,_=> AM k h
 | .draw e,h,hp=> (Aa rfl (uH (dO hn hl e h hp) AS)).cong fun a=> by simp [bn,cN]
 | .neg e,h,hp=> (Dw rfl (uH (dO hn hl e h hp) AS)).cong fun a=> by simp [bn,cN]
 | .not e,h,hp=> (Du rfl (uH (dO hn hl e h hp) AS)).cong fun a=> by simp [bn,cN]
 | .bin o x y,h,hp=> by
  simp only [gj,Bool.and_eq_true] at hp
  exact (DJ rfl (uH (dO hn hl x h.1 hp.1) (uH (dO hn hl y h.2 hp.2) AS)) o).cong fun a=> by simp [bn,cN]
 | .and x y,h,hp=> by
  simp only [gj,Bool.and_eq_true] at hp
  exact (CL (dO hn hl x h.1 hp.1) (dO hn hl y h.2 hp.2)).cong fun a=> rfl
 | .or x y,h,hp=> by
  simp only [gj,Bool.and_eq_true] at hp
  exact (Ga (dO hn hl x h.1 hp.1) (dO hn hl y h.2 hp.2)).cong fun a=> rfl
def zC:Bk→List Cd
 | .nil=> []
 | .cons s b=> cj s::zC b
theorem ug (nm:List Tx): ∀ b:Bk,(zC b).length=(fU nm b).length
 | .nil=> by simp [zC,fU]
 | .cons s b=> by simp [zC,fU,ug nm b]
theorem tK: ∀ (b:Bk) (a:Nat),cN (zC b) a=cV b a
 | .nil,a=> by simp [zC,cN,cV]
 | .cons s b,a=> by simp only [zC,cN,cV,tK b]
theorem lB {b:Bk} (h:la (uu d v no on) (fU (d++v) b) (zC b)):IW d v no on (jz (d++v) b) (cV b):=(yG (ug _ b) h).cong (tK b)
mutual
theorem BW (hn:(d++v).Nodup) (hl:(d++v).length≤1000): ∀ s:Sm,eY (d++v).length s→oL s=true→IW d v no on (oA (d++v) s) (cj s)
 | .assign i e,h,hp=> by rw [eY] at h;exact (uE rfl (uH (dO hn hl e h.2 hp) AS) hn hl i h.1).cong fun a=> by simp [cj,cN]
 | .send t k x y,h,hp=> by
  rw [eY] at h
  simp only [oL,Bool.and_eq_true] at hp
  exact (zS rfl (uH (dO hn hl t h.2.1 hp.1.1) (uH (dO hn hl x h.2.2.1 hp.1.2) (uH (dO hn hl y h.2.2.2 hp.2) AS))) k).cong fun a=> by simp [cj,cN,Nat.add_assoc]
 | .timer k,_,_=> (yJ k).cong fun a=> by rw [cj]
 | .cancel k,_,_=> (uA k).cong fun a=> by rw [cj]
 | .sync,_,_=> co_sync.cong fun a=> by rw [cj]
 | .stop,_,_=> co_stop.cong fun a=> by rw [cj]
 | .reply x y,h,hp=> by
  rw [eY] at h
  simp only [oL,Bool.and_eq_true] at hp
  exact (yS rfl (uH (dO hn hl x h.1 hp.1) (uH (dO hn hl y h.2 hp.2) AS))).cong fun a=> by simp [cj,cN]
 | .fail e,h,hp=> by rw [eY] at h;exact (Ay rfl (uH (dO hn hl e h hp) AS)).cong fun a=> by simp [cj,cN]
 | .loop c b,h,hp=> by
  rw [eY] at h
  simp only [oL,Bool.and_eq_true] at hp
  exact (yj (dO hn hl c h.1 hp.1) (lB (lF hn hl b h.2 hp.2))).cong fun a=> by rw [cj];rfl
 | .ite c x y,h,hp=> by
  rw [eY] at h
  simp only [oL,Bool.and_eq_true] at hp
  exact (CA (dO hn hl c h.1 hp.1.1) (lB (lF hn hl x h.2.1 hp.1.2)) (lB (lF hn hl y h.2.2 hp.2))).cong fun a=> by rw [cj];rfl
theorem lF (hn:(d++v).Nodup) (hl:(d++v).length≤1000): ∀ b:Bk,ia (d++v).length b→mV b=true→la (uu d v no on) (fU (d++v) b) (zC b)
 | .nil,_,_=> AS
 | .cons s b,h,hp=> by
  rw [ia] at h
  simp only [mV,Bool.and_eq_true] at hp
  exact uH (BW hn hl s h.1 hp.1) (lF hn hl b h.2 hp.2)
end
theorem zO (hn:(d++v).Nodup) (hl:(d++v).length≤1000) (b:Bk) (h:ia (d++v).length b) (hp:mV b=true):IW d v no on (jz (d++v) b) (cV b):=lB (lF hn hl b h hp)
end

abbrev DE (c:AV) (e:Nat→Int) (d v:Int):List AV:=[c, .v (.int .i64 (e 0)), .v (.int .i64 (e 1)), .v (.int .i64 (e 2)), .v (.int .i64 (e 3)), .v (.int .i64 (e 4)), .v (.int .i64 (e 5)), .v (.int .i64 (e 6)), .v (.int .i64 (e 7)), .v (.int .i64 (e 8)), .v (.int .i64 (e 9)), .v (.int .i64 (e 10)), .v (.int .i64 (e 11)), .v (.int .i64 (e 12)), .v (.int .i64 (e 13)), .v (.int .i64 (e 14)), .v (.int .i64 (e 15)), .v (.int .i64 (e 16)), .v (.int .i64 (e 17)), .v (.int .i64 (e 18)), .v (.int .i64 (e 19)), .v (.int .i64 (e 20)), .v (.int .i64 (e 21)), .v (.int .i64 (e 22)), .v (.int .i64 (e 23)), .v (.int .i64 (e 24)), .v (.int .i64 (e 25)), .v (.int .i64 (e 26)), .v (.int .i64 (e 27)), .v (.int .i64 (e 28)), .v (.int .i64 (e 29)), .v (.int .i64 (e 30)), .v (.int .i64 (e 31)), .v (.int .i64 (e 32)), .v (.int .i64 (e 33)), .v (.int .i64 (e 34)), .v (.int .i64 (e 35)), .v (.int .i64 (e 36)), .v (.int .i64 (e 37)), .v (.int .i64 (e 38)), .v (.int .i64 (e 39)), .v (.int .i64 d), .v (.int .i64 v)]
abbrev BK (n:Nat) (xs:List PV) (e:Nat→Int) (d v:Int):List AV:=DE (.sl n xs) e d v
def oR (e:Nat→Int) (h:Nat) (x:Int):Nat→Int:=fun k=> if k=h then x else e k
theorem qf (c:AV) (e:Nat→Int) (d v:Int) (h:Nat) (hh:h < 40) (x:Int):fm (DE c e d v) (1+h) [.v (.int .i64 x)]=DE c (oR e h x) d v:=by
 rcases h with _ | _ | _ | _ | _ | _ | _ | _ | _ | _ | _ | _ | _ | _ | _ | _ | _ | _ | _ | _ | _ | _ | _ | _ | _ | _ | _ | _ | _ | _ | _ | _ | _ | _ | _ | _ | _ | _ | _ | _ | h
 all_goals first | rfl | omega
theorem ql (n:Nat) (xs:List PV) (e:Nat→Int) (d v:Int) (h:Nat) (hh:h < 40):(BK n xs e d v)[1+h]? =some (.v (.int .i64 (e h))):=by
 rcases h with _ | _ | _ | _ | _ | _ | _ | _ | _ | _ | _ | _ | _ | _ | _ | _ | _ | _ | _ | _ | _ | _ | _ | _ | _ | _ | _ | _ | _ | _ | _ | _ | _ | _ | _ | _ | _ | _ | _ | _ | h
 all_goals first | rfl | omega
def Cf (l:List Nat):List PV:=l.map fun (x:Nat)=> .v (.int .i64 (x:Int))
@[simp] theorem ec (l:List Nat):(Cf l).length=l.length:=by simp [Cf]
theorem Ap (l:List Nat) (k:Nat) (h:k < l.length):(Cf l)[k]? =some (.v (.int .i64 (l.getD k 0:Int))):=by simp [Cf,h]
theorem vt:Spec Tryz.prog 106 (bj [.v (.int .i64 1)] []) (aW (.v (.int .i64 0)) []):=by
 refine Spec.ofN Tryz.func106 rfl Tryz.ntmps106 rfl ?_
 refine am (ba rfl (aj (aq (am (aQ rfl (aj (au (aq (eL rfl rfl rfl rfl rfl (aI ?_))))))))))
 exact bF rfl rfl (am (ba rfl (aj (aC (aY (.inr rfl) rfl (.tmp (rfl:_=AV.v _)) (Le.out [] [] .v rfl rfl rfl trivial trivial))))))
theorem wJ:Spec Tryz.prog 106 (bj [.v (.int .i64 2)] []) (aW (.v (.int .i64 0)) []):=by
 refine Spec.ofN Tryz.func106 rfl Tryz.ntmps106 rfl ?_
 refine am (ba rfl (aj (aq (am (aQ rfl (aj (au (aq (bQ rfl rfl rfl rfl rfl (eL rfl rfl rfl rfl rfl ?_))))))))))
 exact aI (bF rfl rfl (am (ba rfl (aj (aC (aY (.inr rfl) rfl (.tmp (rfl:_=AV.v _)) (Le.out [] [] .v rfl rfl rfl trivial trivial)))))))
theorem rP:Spec Tryz.prog 106 (bj [.v (.int .i64 3)] []) (aW (.v (.int .i64 1)) []):=by
 refine Spec.ofN Tryz.func106 rfl Tryz.ntmps106 rfl ?_
 refine am (ba rfl (aj (aq (am (aQ rfl (aj (au (aq ?_))))))))
 iterate 7 refine bQ rfl rfl rfl rfl rfl ?_
 refine aM (σ':=aB 31 [(3,_)] [] [] []) kp ?_
 refine cd rfl rfl rfl rfl rfl (aq ?_)
 iterate 3 refine bQ rfl rfl rfl rfl rfl ?_
 exact eL rfl rfl rfl rfl rfl (aI (bF rfl rfl (am (ba rfl (aj (aC (aY (.inr rfl) rfl (.tmp (rfl:_=AV.v _)) (Le.out [] [] .v rfl rfl rfl trivial trivial))))))))
theorem vu:Spec Tryz.prog 106 (bj [.v (.int .i64 4)] []) (aW (.v (.int .i64 0)) []):=by
 refine Spec.ofN Tryz.func106 rfl Tryz.ntmps106 rfl ?_
 refine am (ba rfl (aj (aq (am (aQ rfl (aj (au (aq ?_))))))))
 iterate 2 refine bQ rfl rfl rfl rfl rfl ?_
 exact eL rfl rfl rfl rfl rfl (aI (bF rfl rfl (am (ba rfl (aj (aC (aY (.inr rfl) rfl (.tmp (rfl:_=AV.v _)) (Le.out [] [] .v rfl rfl rfl trivial trivial))))))))
theorem wi:Spec Tryz.prog 106 (bj [.v (.int .i64 5)] []) (aW (.v (.int .i64 1)) []):=by
 refine Spec.ofN Tryz.func106 rfl Tryz.ntmps106 rfl ?_
 refine am (ba rfl (aj (aq (am (aQ rfl (aj (au (aq ?_))))))))
 iterate 7 refine bQ rfl rfl rfl rfl rfl ?_
 refine aM (σ':=aB 31 [(3,_)] [] [] []) kp ?_
 exact cd rfl rfl rfl rfl rfl (aq (eL rfl rfl rfl rfl rfl (aI (bF rfl rfl (am (ba rfl (aj (aC (aY (.inr rfl) rfl (.tmp (rfl:_=AV.v _)) (Le.out [] [] .v rfl rfl rfl trivial trivial))))))))))
theorem xG:Spec Tryz.prog 106 (bj [.v (.int .i64 6)] []) (aW (.v (.int .i64 2)) []):=by
 refine Spec.ofN Tryz.func106 rfl Tryz.ntmps106 rfl ?_
 refine am (ba rfl (aj (aq (am (aQ rfl (aj (au (aq ?_))))))))
 iterate 7 refine bQ rfl rfl rfl rfl rfl ?_
 refine aM (σ':=aB 31 [(3,_)] [] [] []) kp ?_
 refine cd rfl rfl rfl rfl rfl (aq ?_)
 iterate 5 refine bQ rfl rfl rfl rfl rfl ?_
 refine cd rfl rfl rfl rfl rfl (aq (eL rfl rfl rfl rfl rfl (aI (bF rfl rfl (aq ?_)))))
 refine aM (σ':=aB 31 [] [] [] []) kp ?_
 exact an (ba rfl (aj (aC (aY (.inr rfl) rfl (.tmp (rfl:_=AV.v _)) (Le.out [] [] .v rfl rfl rfl trivial trivial)))))
theorem xR:Spec Tryz.prog 106 (bj [.v (.int .i64 7)] []) (aW (.v (.int .i64 2)) []):=by
 refine Spec.ofN Tryz.func106 rfl Tryz.ntmps106 rfl ?_
 refine am (ba rfl (aj (aq (am (aQ rfl (aj (au (aq ?_))))))))
 iterate 7 refine bQ rfl rfl rfl rfl rfl ?_
 refine aM (σ':=aB 31 [(3,_)] [] [] []) kp ?_
 refine cd rfl rfl rfl rfl rfl (aq ?_)
 iterate 5 refine bQ rfl rfl rfl rfl rfl ?_
 refine cd rfl rfl rfl rfl rfl (aq (bQ rfl rfl rfl rfl rfl (aq ?_)))
 refine aM (σ':=aB 31 [(3,_)] [] [] []) kp ?_
 exact oW rfl rfl rfl rfl rfl (aI (bF rfl rfl (am (ba rfl (aj (aC (aY (.inr rfl) rfl (.tmp (rfl:_=AV.v _)) (Le.out [] [] .v rfl rfl rfl trivial trivial))))))))
theorem xi:Spec Tryz.prog 106 (bj [.v (.int .i64 8)] []) (aW (.v (.int .i64 2)) []):=by
 refine Spec.ofN Tryz.func106 rfl Tryz.ntmps106 rfl ?_
 refine am (ba rfl (aj (aq (am (aQ rfl (aj (au (aq ?_))))))))
 iterate 7 refine bQ rfl rfl rfl rfl rfl ?_
 refine aM (σ':=aB 31 [(3,_)] [] [] []) kp ?_
 refine cd rfl rfl rfl rfl rfl (aq ?_)
 iterate 5 refine bQ rfl rfl rfl rfl rfl ?_
 refine cd rfl rfl rfl rfl rfl (aq (bQ rfl rfl rfl rfl rfl (aq ?_)))
 refine aM (σ':=aB 31 [(3,_)] [] [] []) kp ?_
 exact cd rfl rfl rfl rfl rfl (eL rfl rfl rfl rfl rfl (aI (bF rfl rfl (am (ba rfl (aj (aC (aY (.inr rfl) rfl (.tmp (rfl:_=AV.v _)) (Le.out [] [] .v rfl rfl rfl trivial trivial)))))))))
theorem yT:Spec Tryz.prog 106 (bj [.v (.int .i64 9)] []) (aW (.v (.int .i64 2)) []):=by
 refine Spec.ofN Tryz.func106 rfl Tryz.ntmps106 rfl ?_
 refine am (ba rfl (aj (aq (am (aQ rfl (aj (au (aq ?_))))))))
 iterate 7 refine bQ rfl rfl rfl rfl rfl ?_
 refine aM (σ':=aB 31 [(3,_)] [] [] []) kp ?_
 refine cd rfl rfl rfl rfl rfl (aq ?_)
 iterate 5 refine bQ rfl rfl rfl rfl rfl ?_
 refine cd rfl rfl rfl rfl rfl (aq (bQ rfl rfl rfl rfl rfl (aq ?_)))
 refine aM (σ':=aB 31 [(3,_)] [] [] []) kp ?_
 exact cd rfl rfl rfl rfl rfl (bQ rfl rfl rfl rfl rfl (eL rfl rfl rfl rfl rfl (aI (bF rfl rfl (am (ba rfl (aj (aC (aY (.inr rfl) rfl (.tmp (rfl:_=AV.v _)) (Le.out [] [] .v rfl rfl rfl trivial trivial))))))))))
theorem xc:Spec Tryz.prog 106 (bj [.v (.int .i64 10)] []) (aW (.v (.int .i64 1)) []):=by
 refine Spec.ofN Tryz.func106 rfl Tryz.ntmps106 rfl ?_
 refine am (ba rfl (aj (aq (am (aQ rfl (aj (au (aq ?_))))))))
 iterate 7 refine bQ rfl rfl rfl rfl rfl ?_
 refine aM (σ':=aB 31 [(3,_)] [] [] []) kp ?_
 exact cd rfl rfl rfl rfl rfl (aq (bQ rfl rfl rfl rfl rfl (eL rfl rfl rfl rfl rfl (aI (bF rfl rfl (am (ba rfl (aj (aC (aY (.inr rfl) rfl (.tmp (rfl:_=AV.v _)) (Le.out [] [] .v rfl rfl rfl trivial trivial)))))))))))
theorem Bz:Spec Tryz.prog 106 (bj [.v (.int .i64 11)] []) (aW (.v (.int .i64 2)) []):=by
 refine Spec.ofN Tryz.func106 rfl Tryz.ntmps106 rfl ?_
 refine am (ba rfl (aj (aq (am (aQ rfl (aj (au (aq ?_))))))))
 iterate 7 refine bQ rfl rfl rfl rfl rfl ?_
 refine aM (σ':=aB 31 [(3,_)] [] [] []) kp ?_
 refine cd rfl rfl rfl rfl rfl (aq ?_)
 iterate 5 refine bQ rfl rfl rfl rfl rfl ?_
 refine cd rfl rfl rfl rfl rfl (aq (bQ rfl rfl rfl rfl rfl (aq ?_)))
 refine aM (σ':=aB 31 [(3,_)] [] [] []) kp ?_
 refine cd rfl rfl rfl rfl rfl ?_
 iterate 2 refine bQ rfl rfl rfl rfl rfl ?_
 exact eL rfl rfl rfl rfl rfl (aI (bF rfl rfl (am (ba rfl (aj (aC (aY (.inr rfl) rfl (.tmp (rfl:_=AV.v _)) (Le.out [] [] .v rfl rfl rfl trivial trivial))))))))
theorem Bn:Spec Tryz.prog 106 (bj [.v (.int .i64 12)] []) (aW (.v (.int .i64 2)) []):=by
 refine Spec.ofN Tryz.func106 rfl Tryz.ntmps106 rfl ?_
 refine am (ba rfl (aj (aq (am (aQ rfl (aj (au (aq ?_))))))))
 iterate 7 refine bQ rfl rfl rfl rfl rfl ?_
 refine aM (σ':=aB 31 [(3,_)] [] [] []) kp ?_
 refine cd rfl rfl rfl rfl rfl (aq ?_)
 iterate 5 refine bQ rfl rfl rfl rfl rfl ?_
 refine cd rfl rfl rfl rfl rfl (aq (bQ rfl rfl rfl rfl rfl (aq ?_)))
 refine aM (σ':=aB 31 [(3,_)] [] [] []) kp ?_
 refine cd rfl rfl rfl rfl rfl ?_
 iterate 3 refine bQ rfl rfl rfl rfl rfl ?_
 exact eL rfl rfl rfl rfl rfl (aI (bF rfl rfl (am (ba rfl (aj (aC (aY (.inr rfl) rfl (.tmp (rfl:_=AV.v _)) (Le.out [] [] .v rfl rfl rfl trivial trivial))))))))
theorem BJ:Spec Tryz.prog 106 (bj [.v (.int .i64 13)] []) (aW (.v (.int .i64 2)) []):=by
 refine Spec.ofN Tryz.func106 rfl Tryz.ntmps106 rfl ?_
 refine am (ba rfl (aj (aq (am (aQ rfl (aj (au (aq ?_))))))))
 iterate 7 refine bQ rfl rfl rfl rfl rfl ?_
 refine aM (σ':=aB 31 [(3,_)] [] [] []) kp ?_
 refine cd rfl rfl rfl rfl rfl (aq ?_)
 iterate 5 refine bQ rfl rfl rfl rfl rfl ?_
 refine cd rfl rfl rfl rfl rfl (aq (bQ rfl rfl rfl rfl rfl (aq ?_)))
 refine aM (σ':=aB 31 [(3,_)] [] [] []) kp ?_
 refine cd rfl rfl rfl rfl rfl ?_
 iterate 4 refine bQ rfl rfl rfl rfl rfl ?_
 exact eL rfl rfl rfl rfl rfl (aI (bF rfl rfl (am (ba rfl (aj (aC (aY (.inr rfl) rfl (.tmp (rfl:_=AV.v _)) (Le.out [] [] .v rfl rfl rfl trivial trivial))))))))
theorem zb:Spec Tryz.prog 106 (bj [.v (.int .i64 14)] []) (aW (.v (.int .i64 1)) []):=by
 refine Spec.ofN Tryz.func106 rfl Tryz.ntmps106 rfl ?_
 refine am (ba rfl (aj (aq (am (aQ rfl (aj (au (aq ?_))))))))
 iterate 7 refine bQ rfl rfl rfl rfl rfl ?_
 refine aM (σ':=aB 31 [(3,_)] [] [] []) kp ?_
 refine cd rfl rfl rfl rfl rfl (aq ?_)
 iterate 2 refine bQ rfl rfl rfl rfl rfl ?_
 exact eL rfl rfl rfl rfl rfl (aI (bF rfl rfl (am (ba rfl (aj (aC (aY (.inr rfl) rfl (.tmp (rfl:_=AV.v _)) (Le.out [] [] .v rfl rfl rfl trivial trivial))))))))
theorem vp:Spec Tryz.prog 106 (bj [.v (.int .i64 15)] []) (aW (.v (.int .i64 0)) []):=by
 refine Spec.ofN Tryz.func106 rfl Tryz.ntmps106 rfl ?_
 refine am (ba rfl (aj (aq (am (aQ rfl (aj (au (aq ?_))))))))
 iterate 3 refine bQ rfl rfl rfl rfl rfl ?_
 exact eL rfl rfl rfl rfl rfl (aI (bF rfl rfl (am (ba rfl (aj (aC (aY (.inr rfl) rfl (.tmp (rfl:_=AV.v _)) (Le.out [] [] .v rfl rfl rfl trivial trivial))))))))
theorem yb:Spec Tryz.prog 106 (bj [.v (.int .i64 16)] []) (aW (.v (.int .i64 1)) []):=by
 refine Spec.ofN Tryz.func106 rfl Tryz.ntmps106 rfl ?_
 refine am (ba rfl (aj (aq (am (aQ rfl (aj (au (aq ?_))))))))
 iterate 7 refine bQ rfl rfl rfl rfl rfl ?_
 refine aM (σ':=aB 31 [(3,_)] [] [] []) kp ?_
 refine cd rfl rfl rfl rfl rfl (aq ?_)
 iterate 4 refine bQ rfl rfl rfl rfl rfl ?_
 exact eL rfl rfl rfl rfl rfl (aI (bF rfl rfl (am (ba rfl (aj (aC (aY (.inr rfl) rfl (.tmp (rfl:_=AV.v _)) (Le.out [] [] .v rfl rfl rfl trivial trivial))))))))
theorem wa:Spec Tryz.prog 106 (bj [.v (.int .i64 17)] []) (aW (.v (.int .i64 3)) []):=by
 refine Spec.ofN Tryz.func106 rfl Tryz.ntmps106 rfl ?_
 refine am (ba rfl (aj (aq (am (aQ rfl (aj (au (aq ?_))))))))
 iterate 7 refine bQ rfl rfl rfl rfl rfl ?_
 refine aM (σ':=aB 31 [(3,_)] [] [] []) kp ?_
 refine cd rfl rfl rfl rfl rfl (aq ?_)
 iterate 5 refine bQ rfl rfl rfl rfl rfl ?_
 refine cd rfl rfl rfl rfl rfl (aq (bQ rfl rfl rfl rfl rfl (aq ?_)))
 refine aM (σ':=aB 31 [(3,_)] [] [] []) kp ?_
 refine cd rfl rfl rfl rfl rfl ?_
 iterate 5 refine bQ rfl rfl rfl rfl rfl ?_
 refine cd rfl rfl rfl rfl rfl (eL rfl rfl rfl rfl rfl (aq ?_))
 refine aM (σ':=aB 31 [] [] [] []) kp ?_
 exact an (ba rfl (aj (aC (aY (.inr rfl) rfl (.tmp (rfl:_=AV.v _)) (Le.out [] [] .v rfl rfl rfl trivial trivial)))))
theorem sN:Spec Tryz.prog 106 (bj [.v (.int .i64 18)] []) (aW (.v (.int .i64 0)) []):=by
 refine Spec.ofN Tryz.func106 rfl Tryz.ntmps106 rfl ?_
 refine am (ba rfl (aj (aq (am (aQ rfl (aj (au (aq ?_))))))))
 iterate 4 refine bQ rfl rfl rfl rfl rfl ?_
 exact eL rfl rfl rfl rfl rfl (aI (bF rfl rfl (am (ba rfl (aj (aC (aY (.inr rfl) rfl (.tmp (rfl:_=AV.v _)) (Le.out [] [] .v rfl rfl rfl trivial trivial))))))))
theorem rA:Spec Tryz.prog 106 (bj [.v (.int .i64 19)] []) (aW (.v (.int .i64 0)) []):=by
 refine Spec.ofN Tryz.func106 rfl Tryz.ntmps106 rfl ?_
 refine am (ba rfl (aj (aq (am (aQ rfl (aj (au (aq ?_))))))))
 iterate 5 refine bQ rfl rfl rfl rfl rfl ?_
 exact eL rfl rfl rfl rfl rfl (aI (bF rfl rfl (am (ba rfl (aj (aC (aY (.inr rfl) rfl (.tmp (rfl:_=AV.v _)) (Le.out [] [] .v rfl rfl rfl trivial trivial))))))))
theorem vV:Spec Tryz.prog 106 (bj [.v (.int .i64 20)] []) (aW (.v (.int .i64 0)) []):=by
 refine Spec.ofN Tryz.func106 rfl Tryz.ntmps106 rfl ?_
 refine am (ba rfl (aj (aq (am (aQ rfl (aj (au (aq ?_))))))))
 iterate 6 refine bQ rfl rfl rfl rfl rfl ?_
 refine eL rfl rfl rfl rfl rfl (aI (bF rfl rfl (aq ?_)))
 refine aM (σ':=aB 31 [] [] [] []) kp ?_
 exact an (ba rfl (aj (aC (aY (.inr rfl) rfl (.tmp (rfl:_=AV.v _)) (Le.out [] [] .v rfl rfl rfl trivial trivial)))))
theorem tD:Spec Tryz.prog 106 (bj [.v (.int .i64 21)] []) (aW (.v (.int .i64 2)) []):=by
 refine Spec.ofN Tryz.func106 rfl Tryz.ntmps106 rfl ?_
 refine am (ba rfl (aj (aq (am (aQ rfl (aj (au (aq ?_))))))))
 iterate 7 refine bQ rfl rfl rfl rfl rfl ?_
 refine aM (σ':=aB 31 [(3,_)] [] [] []) kp ?_
 refine cd rfl rfl rfl rfl rfl (aq ?_)
 iterate 5 refine bQ rfl rfl rfl rfl rfl ?_
 refine cd rfl rfl rfl rfl rfl (aq (bQ rfl rfl rfl rfl rfl (aq ?_)))
 refine aM (σ':=aB 31 [(3,_)] [] [] []) kp ?_
 refine cd rfl rfl rfl rfl rfl ?_
 iterate 5 refine bQ rfl rfl rfl rfl rfl ?_
 exact oW rfl rfl rfl rfl rfl (am (ba rfl (aj (aC (aY (.inr rfl) rfl (.tmp (rfl:_=AV.v _)) (Le.out [] [] .v rfl rfl rfl trivial trivial))))))
theorem ve:Spec Tryz.prog 106 (bj [.v (.int .i64 22)] []) (aW (.v (.int .i64 1)) []):=by
 refine Spec.ofN Tryz.func106 rfl Tryz.ntmps106 rfl ?_
 refine am (ba rfl (aj (aq (am (aQ rfl (aj (au (aq ?_))))))))
 iterate 7 refine bQ rfl rfl rfl rfl rfl ?_
 refine aM (σ':=aB 31 [(3,_)] [] [] []) kp ?_
 refine cd rfl rfl rfl rfl rfl (aq ?_)
 iterate 5 refine bQ rfl rfl rfl rfl rfl ?_
 exact oW rfl rfl rfl rfl rfl (am (ba rfl (aj (aC (aY (.inr rfl) rfl (.tmp (rfl:_=AV.v _)) (Le.out [] [] .v rfl rfl rfl trivial trivial))))))
theorem vD:Spec Tryz.prog 106 (bj [.v (.int .i64 23)] []) (aW (.v (.int .i64 0)) []):=by
 refine Spec.ofN Tryz.func106 rfl Tryz.ntmps106 rfl ?_
 refine am (ba rfl (aj (aq (am (aQ rfl (aj (au (aq ?_))))))))
 iterate 7 refine bQ rfl rfl rfl rfl rfl ?_
 refine aM (σ':=aB 31 [(3,_)] [] [] []) kp ?_
 exact oW rfl rfl rfl rfl rfl (am (ba rfl (aj (aC (aY (.inr rfl) rfl (.tmp (rfl:_=AV.v _)) (Le.out [] [] .v rfl rfl rfl trivial trivial))))))
theorem pB (o:Opc):Spec Tryz.prog 106 (bj [.v (.int .i64 (o.num:Int))] []) (aW (.v (.int .i64 (o.pops:Int))) []):=by
 cases o
 ·exact vt
 ·exact wJ
 ·exact rP
 ·exact vu
 ·exact wi
 ·exact xG
 ·exact xR
 ·exact xi
 ·exact yT
 ·exact xc
 ·exact Bz
 ·exact Bn
 ·exact BJ
 ·exact zb
 ·exact vp
 ·exact yb
 ·exact wa
 ·exact sN
 ·exact rA
 ·exact vV
 ·exact tD
 ·exact ve
 ·exact vD
theorem uS:Spec Tryz.prog 107 (bj [.v (.int .i64 1)] []) (aW (.v (.int .i64 1)) []):=by
 refine Spec.ofN Tryz.func107 rfl Tryz.ntmps107 rfl ?_
 refine am (ba rfl (aj (aq (am (aQ rfl (aj (au (aq (eL rfl rfl rfl rfl rfl (aI ?_))))))))))
 exact bF rfl rfl (am (ba rfl (aj (aC (aY (.inr rfl) rfl (.tmp (rfl:_=AV.v _)) (Le.out [] [] .v rfl rfl rfl trivial trivial))))))
theorem xk:Spec Tryz.prog 107 (bj [.v (.int .i64 2)] []) (aW (.v (.int .i64 1)) []):=by
 refine Spec.ofN Tryz.func107 rfl Tryz.ntmps107 rfl ?_
 refine am (ba rfl (aj (aq (am (aQ rfl (aj (au (aq (bQ rfl rfl rfl rfl rfl (eL rfl rfl rfl rfl rfl ?_))))))))))
 exact aI (bF rfl rfl (am (ba rfl (aj (aC (aY (.inr rfl) rfl (.tmp (rfl:_=AV.v _)) (Le.out [] [] .v rfl rfl rfl trivial trivial)))))))
theorem sh:Spec Tryz.prog 107 (bj [.v (.int .i64 3)] []) (aW (.v (.int .i64 0)) []):=by
 refine Spec.ofN Tryz.func107 rfl Tryz.ntmps107 rfl ?_
 refine am (ba rfl (aj (aq (am (aQ rfl (aj (au (aq ?_))))))))
 iterate 7 refine bQ rfl rfl rfl rfl rfl ?_
 refine aq ?_
 refine aM (σ':=aB 18 [(3,_)] [] [] []) kp ?_
 refine cd rfl rfl rfl rfl rfl ?_
 iterate 4 refine bQ rfl rfl rfl rfl rfl ?_
 exact cd rfl rfl rfl rfl rfl (cf (am (ba rfl (aj (aC (aY (.inr rfl) rfl (.tmp (rfl:_=AV.v _)) (Le.out [] [] .v rfl rfl rfl trivial trivial)))))))
theorem vh:Spec Tryz.prog 107 (bj [.v (.int .i64 4)] []) (aW (.v (.int .i64 1)) []):=by
 refine Spec.ofN Tryz.func107 rfl Tryz.ntmps107 rfl ?_
 refine am (ba rfl (aj (aq (am (aQ rfl (aj (au (aq ?_))))))))
 iterate 2 refine bQ rfl rfl rfl rfl rfl ?_
 exact eL rfl rfl rfl rfl rfl (aI (bF rfl rfl (am (ba rfl (aj (aC (aY (.inr rfl) rfl (.tmp (rfl:_=AV.v _)) (Le.out [] [] .v rfl rfl rfl trivial trivial))))))))
theorem wj:Spec Tryz.prog 107 (bj [.v (.int .i64 5)] []) (aW (.v (.int .i64 1)) []):=by
 refine Spec.ofN Tryz.func107 rfl Tryz.ntmps107 rfl ?_
 refine am (ba rfl (aj (aq (am (aQ rfl (aj (au (aq ?_))))))))
 iterate 3 refine bQ rfl rfl rfl rfl rfl ?_
 exact eL rfl rfl rfl rfl rfl (aI (bF rfl rfl (am (ba rfl (aj (aC (aY (.inr rfl) rfl (.tmp (rfl:_=AV.v _)) (Le.out [] [] .v rfl rfl rfl trivial trivial))))))))
theorem xV:Spec Tryz.prog 107 (bj [.v (.int .i64 6)] []) (aW (.v (.int .i64 1)) []):=by
 refine Spec.ofN Tryz.func107 rfl Tryz.ntmps107 rfl ?_
 refine am (ba rfl (aj (aq (am (aQ rfl (aj (au (aq ?_))))))))
 iterate 6 refine bQ rfl rfl rfl rfl rfl ?_
 refine eL rfl rfl rfl rfl rfl (aI (bF rfl rfl (aq ?_)))
 refine aM (σ':=aB 18 [] [] [] []) kp ?_
 exact an (ba rfl (aj (aC (aY (.inr rfl) rfl (.tmp (rfl:_=AV.v _)) (Le.out [] [] .v rfl rfl rfl trivial trivial)))))
theorem yy:Spec Tryz.prog 107 (bj [.v (.int .i64 7)] []) (aW (.v (.int .i64 1)) []):=by
 refine Spec.ofN Tryz.func107 rfl Tryz.ntmps107 rfl ?_
 refine am (ba rfl (aj (aq (am (aQ rfl (aj (au (aq ?_))))))))
 iterate 7 refine bQ rfl rfl rfl rfl rfl ?_
 refine aq ?_
 refine aM (σ':=aB 18 [(3,_)] [] [] []) kp ?_
 exact oW rfl rfl rfl rfl rfl (aI (bF rfl rfl (am (ba rfl (aj (aC (aY (.inr rfl) rfl (.tmp (rfl:_=AV.v _)) (Le.out [] [] .v rfl rfl rfl trivial trivial))))))))
theorem wT:Spec Tryz.prog 107 (bj [.v (.int .i64 8)] []) (aW (.v (.int .i64 1)) []):=by
 refine Spec.ofN Tryz.func107 rfl Tryz.ntmps107 rfl ?_
 refine am (ba rfl (aj (aq (am (aQ rfl (aj (au (aq ?_))))))))
 iterate 7 refine bQ rfl rfl rfl rfl rfl ?_
 refine aq ?_
 refine aM (σ':=aB 18 [(3,_)] [] [] []) kp ?_
 exact cd rfl rfl rfl rfl rfl (eL rfl rfl rfl rfl rfl (aI (bF rfl rfl (am (ba rfl (aj (aC (aY (.inr rfl) rfl (.tmp (rfl:_=AV.v _)) (Le.out [] [] .v rfl rfl rfl trivial trivial)))))))))
theorem yR:Spec Tryz.prog 107 (bj [.v (.int .i64 9)] []) (aW (.v (.int .i64 1)) []):=by
 refine Spec.ofN Tryz.func107 rfl Tryz.ntmps107 rfl ?_
 refine am (ba rfl (aj (aq (am (aQ rfl (aj (au (aq ?_))))))))
 iterate 7 refine bQ rfl rfl rfl rfl rfl ?_
 refine aq ?_
 refine aM (σ':=aB 18 [(3,_)] [] [] []) kp ?_
 exact cd rfl rfl rfl rfl rfl (bQ rfl rfl rfl rfl rfl (eL rfl rfl rfl rfl rfl (aI (bF rfl rfl (am (ba rfl (aj (aC (aY (.inr rfl) rfl (.tmp (rfl:_=AV.v _)) (Le.out [] [] .v rfl rfl rfl trivial trivial))))))))))
theorem wD:Spec Tryz.prog 107 (bj [.v (.int .i64 10)] []) (aW (.v (.int .i64 1)) []):=by
 refine Spec.ofN Tryz.func107 rfl Tryz.ntmps107 rfl ?_
 refine am (ba rfl (aj (aq (am (aQ rfl (aj (au (aq ?_))))))))
 iterate 4 refine bQ rfl rfl rfl rfl rfl ?_
 exact eL rfl rfl rfl rfl rfl (aI (bF rfl rfl (am (ba rfl (aj (aC (aY (.inr rfl) rfl (.tmp (rfl:_=AV.v _)) (Le.out [] [] .v rfl rfl rfl trivial trivial))))))))
theorem zy:Spec Tryz.prog 107 (bj [.v (.int .i64 11)] []) (aW (.v (.int .i64 1)) []):=by
 refine Spec.ofN Tryz.func107 rfl Tryz.ntmps107 rfl ?_
 refine am (ba rfl (aj (aq (am (aQ rfl (aj (au (aq ?_))))))))
 iterate 7 refine bQ rfl rfl rfl rfl rfl ?_
 refine aq ?_
 refine aM (σ':=aB 18 [(3,_)] [] [] []) kp ?_
 refine cd rfl rfl rfl rfl rfl ?_
 iterate 2 refine bQ rfl rfl rfl rfl rfl ?_
 exact eL rfl rfl rfl rfl rfl (aI (bF rfl rfl (am (ba rfl (aj (aC (aY (.inr rfl) rfl (.tmp (rfl:_=AV.v _)) (Le.out [] [] .v rfl rfl rfl trivial trivial))))))))
theorem Bc:Spec Tryz.prog 107 (bj [.v (.int .i64 12)] []) (aW (.v (.int .i64 1)) []):=by
 refine Spec.ofN Tryz.func107 rfl Tryz.ntmps107 rfl ?_
 refine am (ba rfl (aj (aq (am (aQ rfl (aj (au (aq ?_))))))))
 iterate 7 refine bQ rfl rfl rfl rfl rfl ?_
 refine aq ?_
 refine aM (σ':=aB 18 [(3,_)] [] [] []) kp ?_
 refine cd rfl rfl rfl rfl rfl ?_
 iterate 3 refine bQ rfl rfl rfl rfl rfl ?_
 exact eL rfl rfl rfl rfl rfl (aI (bF rfl rfl (am (ba rfl (aj (aC (aY (.inr rfl) rfl (.tmp (rfl:_=AV.v _)) (Le.out [] [] .v rfl rfl rfl trivial trivial))))))))
theorem Bf:Spec Tryz.prog 107 (bj [.v (.int .i64 13)] []) (aW (.v (.int .i64 1)) []):=by
 refine Spec.ofN Tryz.func107 rfl Tryz.ntmps107 rfl ?_
 refine am (ba rfl (aj (aq (am (aQ rfl (aj (au (aq ?_))))))))
 iterate 7 refine bQ rfl rfl rfl rfl rfl ?_
 refine aq ?_
 refine aM (σ':=aB 18 [(3,_)] [] [] []) kp ?_
 refine cd rfl rfl rfl rfl rfl ?_
 iterate 4 refine bQ rfl rfl rfl rfl rfl ?_
 exact oW rfl rfl rfl rfl rfl (am (ba rfl (aj (aC (aY (.inr rfl) rfl (.tmp (rfl:_=AV.v _)) (Le.out [] [] .v rfl rfl rfl trivial trivial))))))
theorem za:Spec Tryz.prog 107 (bj [.v (.int .i64 14)] []) (aW (.v (.int .i64 1)) []):=by
 refine Spec.ofN Tryz.func107 rfl Tryz.ntmps107 rfl ?_
 refine am (ba rfl (aj (aq (am (aQ rfl (aj (au (aq ?_))))))))
 iterate 5 refine bQ rfl rfl rfl rfl rfl ?_
 exact eL rfl rfl rfl rfl rfl (aI (bF rfl rfl (am (ba rfl (aj (aC (aY (.inr rfl) rfl (.tmp (rfl:_=AV.v _)) (Le.out [] [] .v rfl rfl rfl trivial trivial))))))))
theorem vR:Spec Tryz.prog 107 (bj [.v (.int .i64 15)] []) (aW (.v (.int .i64 0)) []):=by
 refine Spec.ofN Tryz.func107 rfl Tryz.ntmps107 rfl ?_
 refine am (ba rfl (aj (aq (am (aQ rfl (aj (au (aq ?_))))))))
 iterate 7 refine bQ rfl rfl rfl rfl rfl ?_
 refine aq ?_
 refine aM (σ':=aB 18 [(3,_)] [] [] []) kp ?_
 refine cd rfl rfl rfl rfl rfl ?_
 iterate 4 refine bQ rfl rfl rfl rfl rfl ?_
 exact cd rfl rfl rfl rfl rfl (cf (am (ba rfl (aj (aC (aY (.inr rfl) rfl (.tmp (rfl:_=AV.v _)) (Le.out [] [] .v rfl rfl rfl trivial trivial)))))))
theorem xm:Spec Tryz.prog 107 (bj [.v (.int .i64 16)] []) (aW (.v (.int .i64 0)) []):=by
 refine Spec.ofN Tryz.func107 rfl Tryz.ntmps107 rfl ?_
 refine am (ba rfl (aj (aq (am (aQ rfl (aj (au (aq ?_))))))))
 iterate 7 refine bQ rfl rfl rfl rfl rfl ?_
 refine aq ?_
 refine aM (σ':=aB 18 [(3,_)] [] [] []) kp ?_
 refine cd rfl rfl rfl rfl rfl ?_
 iterate 4 refine bQ rfl rfl rfl rfl rfl ?_
 exact cd rfl rfl rfl rfl rfl (cf (am (ba rfl (aj (aC (aY (.inr rfl) rfl (.tmp (rfl:_=AV.v _)) (Le.out [] [] .v rfl rfl rfl trivial trivial)))))))
theorem vL:Spec Tryz.prog 107 (bj [.v (.int .i64 17)] []) (aW (.v (.int .i64 0)) []):=by
 refine Spec.ofN Tryz.func107 rfl Tryz.ntmps107 rfl ?_
 refine am (ba rfl (aj (aq (am (aQ rfl (aj (au (aq ?_))))))))
 iterate 7 refine bQ rfl rfl rfl rfl rfl ?_
 refine aq ?_
 refine aM (σ':=aB 18 [(3,_)] [] [] []) kp ?_
 refine cd rfl rfl rfl rfl rfl ?_
 iterate 4 refine bQ rfl rfl rfl rfl rfl ?_
 exact cd rfl rfl rfl rfl rfl (cf (am (ba rfl (aj (aC (aY (.inr rfl) rfl (.tmp (rfl:_=AV.v _)) (Le.out [] [] .v rfl rfl rfl trivial trivial)))))))
theorem tb:Spec Tryz.prog 107 (bj [.v (.int .i64 18)] []) (aW (.v (.int .i64 0)) []):=by
 refine Spec.ofN Tryz.func107 rfl Tryz.ntmps107 rfl ?_
 refine am (ba rfl (aj (aq (am (aQ rfl (aj (au (aq ?_))))))))
 iterate 7 refine bQ rfl rfl rfl rfl rfl ?_
 refine aq ?_
 refine aM (σ':=aB 18 [(3,_)] [] [] []) kp ?_
 refine cd rfl rfl rfl rfl rfl ?_
 iterate 4 refine bQ rfl rfl rfl rfl rfl ?_
 exact cd rfl rfl rfl rfl rfl (cf (am (ba rfl (aj (aC (aY (.inr rfl) rfl (.tmp (rfl:_=AV.v _)) (Le.out [] [] .v rfl rfl rfl trivial trivial)))))))
theorem sy:Spec Tryz.prog 107 (bj [.v (.int .i64 19)] []) (aW (.v (.int .i64 0)) []):=by
 refine Spec.ofN Tryz.func107 rfl Tryz.ntmps107 rfl ?_
 refine am (ba rfl (aj (aq (am (aQ rfl (aj (au (aq ?_))))))))
 iterate 7 refine bQ rfl rfl rfl rfl rfl ?_
 refine aq ?_
 refine aM (σ':=aB 18 [(3,_)] [] [] []) kp ?_
 refine cd rfl rfl rfl rfl rfl ?_
 iterate 4 refine bQ rfl rfl rfl rfl rfl ?_
 exact cd rfl rfl rfl rfl rfl (cf (am (ba rfl (aj (aC (aY (.inr rfl) rfl (.tmp (rfl:_=AV.v _)) (Le.out [] [] .v rfl rfl rfl trivial trivial)))))))
theorem wk:Spec Tryz.prog 107 (bj [.v (.int .i64 20)] []) (aW (.v (.int .i64 0)) []):=by
 refine Spec.ofN Tryz.func107 rfl Tryz.ntmps107 rfl ?_
 refine am (ba rfl (aj (aq (am (aQ rfl (aj (au (aq ?_))))))))
 iterate 7 refine bQ rfl rfl rfl rfl rfl ?_
 refine aq ?_
 refine aM (σ':=aB 18 [(3,_)] [] [] []) kp ?_
 refine cd rfl rfl rfl rfl rfl ?_
 iterate 4 refine bQ rfl rfl rfl rfl rfl ?_
 exact cd rfl rfl rfl rfl rfl (cf (am (ba rfl (aj (aC (aY (.inr rfl) rfl (.tmp (rfl:_=AV.v _)) (Le.out [] [] .v rfl rfl rfl trivial trivial)))))))
theorem tq:Spec Tryz.prog 107 (bj [.v (.int .i64 21)] []) (aW (.v (.int .i64 0)) []):=by
 refine Spec.ofN Tryz.func107 rfl Tryz.ntmps107 rfl ?_
 refine am (ba rfl (aj (aq (am (aQ rfl (aj (au (aq ?_))))))))
 iterate 7 refine bQ rfl rfl rfl rfl rfl ?_
 refine aq ?_
 refine aM (σ':=aB 18 [(3,_)] [] [] []) kp ?_
 refine cd rfl rfl rfl rfl rfl ?_
 iterate 4 refine bQ rfl rfl rfl rfl rfl ?_
 exact cd rfl rfl rfl rfl rfl (cf (am (ba rfl (aj (aC (aY (.inr rfl) rfl (.tmp (rfl:_=AV.v _)) (Le.out [] [] .v rfl rfl rfl trivial trivial)))))))
theorem vE:Spec Tryz.prog 107 (bj [.v (.int .i64 22)] []) (aW (.v (.int .i64 0)) []):=by
 refine Spec.ofN Tryz.func107 rfl Tryz.ntmps107 rfl ?_
 refine am (ba rfl (aj (aq (am (aQ rfl (aj (au (aq ?_))))))))
 iterate 7 refine bQ rfl rfl rfl rfl rfl ?_
 refine aq ?_
 refine aM (σ':=aB 18 [(3,_)] [] [] []) kp ?_
 refine cd rfl rfl rfl rfl rfl ?_
 iterate 4 refine bQ rfl rfl rfl rfl rfl ?_
 exact cd rfl rfl rfl rfl rfl (cf (am (ba rfl (aj (aC (aY (.inr rfl) rfl (.tmp (rfl:_=AV.v _)) (Le.out [] [] .v rfl rfl rfl trivial trivial)))))))
theorem vA:Spec Tryz.prog 107 (bj [.v (.int .i64 23)] []) (aW (.v (.int .i64 0)) []):=by
 refine Spec.ofN Tryz.func107 rfl Tryz.ntmps107 rfl ?_
 refine am (ba rfl (aj (aq (am (aQ rfl (aj (au (aq ?_))))))))
 iterate 7 refine bQ rfl rfl rfl rfl rfl ?_
 refine aq ?_
 refine aM (σ':=aB 18 [(3,_)] [] [] []) kp ?_
 refine cd rfl rfl rfl rfl rfl ?_
 iterate 4 refine bQ rfl rfl rfl rfl rfl ?_
 exact cd rfl rfl rfl rfl rfl (cf (am (ba rfl (aj (aC (aY (.inr rfl) rfl (.tmp (rfl:_=AV.v _)) (Le.out [] [] .v rfl rfl rfl trivial trivial)))))))
theorem pt (o:Opc):Spec Tryz.prog 107 (bj [.v (.int .i64 (o.num:Int))] []) (aW (.v (.int .i64 (o.puts:Int))) []):=by
 cases o
 ·exact uS
 ·exact xk
 ·exact sh
 ·exact vh
 ·exact wj
 ·exact xV
 ·exact yy
 ·exact wT
 ·exact yR
 ·exact wD
 ·exact zy
 ·exact Bc
 ·exact Bf
 ·exact za
 ·exact vR
 ·exact xm
 ·exact vL
 ·exact tb
 ·exact sy
 ·exact wk
 ·exact tq
 ·exact vE
 ·exact vA
theorem opn_stop {o:Opc}:(o.num:Int)=23↔o= .stop:=by cases o <;> simp [Opc.num]
theorem opn_jump {o:Opc}:(o.num:Int)=15↔o= .jump:=by cases o <;> simp [Opc.num]
theorem opn_unl {o:Opc}:(o.num:Int)=16↔o= .unl:=by cases o <;> simp [Opc.num]
theorem uG (C:List eu) (e:Nat→Int) (dd vv:Int) (i:Nat) (hC:C.length≤1000000) (hi:i < C.length) (hn:(cM C i).op= .jump∨(cM C i).op= .unl→0≤(cM C i).n):
  Spec Tryz.prog 73 (bj [.agg (BK C.length (inl C) e dd vv), .v (.int .i64 (i:Int))] []) (aW (.sl (dz i (cM C i)).length (Cf (dz i (cM C i)))) []):=by
 obtain ⟨x,hx⟩: ∃ x,x=cM C i:=⟨_,rfl⟩
 have hg0:=lw C i hi
 have hg1:=wU C i hi
 rw [← hx] at hn hg0 hg1 ⊢
 clear hx
 obtain ⟨o,n⟩:=x
 simp only at hn hg0 hg1
 refine Spec.ofN Tryz.func73 rfl Tryz.ntmps73 rfl ?_
 refine am (ai (bk (2,0) _ rfl rfl) (ai (bH _ (rfl:_=AV.v (.slice _ _ _))) (aj (aq (am (bE rfl rfl rfl (fg rfl rfl rfl (aQ rfl (ai (bf _ _ aa rfl rfl _ rfl ab (by (simp only [aZ,bm,bl,bA,bv,bJ,bz,bK,ec];omega)) ag) ?_)))))))))
 refine ai (cO _ aa rfl rfl) (ai (bC _ aa rfl (by exact hg0) rfl) ?_)
 refine aj (au (am (ai (bR _ _ rfl rfl rfl) (ct rfl (aj (aU rfl (fun hc11=> ?_) (fun hc11=> ?_)))))))
 ·skip
  obtain rfl:=opn_stop.1 hc11
  exact am (ai (bH _ (rfl:_=AV.v (.slice _ _ _))) (aj (aC (aY (.inr rfl) rfl (.tmp (rfl:_=AV.v _)) (Le.out [] [] .nil rfl rfl rfl trivial trivial)))))
 ·skip
  refine am (ai (bR _ _ rfl rfl rfl) (ct rfl (aj (aU rfl (fun hc13=> ?_) (fun hc13=> ?_)))))
  ·skip
   obtain rfl:=opn_jump.1 hc13
   have hn:=hn (.inl rfl)
   refine am (bE rfl rfl rfl (fg rfl rfl rfl (aQ rfl (ai (bf _ _ aa rfl rfl _ rfl ab (by (simp only [aZ,bm,bl,bA,bv,bJ,bz,bK,ec];omega)) ag) ?_))))
   refine ai (cO _ aa rfl rfl) (ai (bC _ aa rfl (by exact hg1) rfl) ?_)
   refine ai (aV _ _ aa rfl ag (by (simp <;> rfl)) ah rfl) ?_
   exact kD rfl (aj (aC (aY (.inr rfl) rfl (.tmp (rfl:_=AV.sl _ _)) (Le.out [] [] (iB rfl (by simp [Cf,dz,Int.toNat_of_nonneg hn])) rfl rfl rfl trivial trivial))))
  ·skip
   refine am (ai (bR _ _ rfl rfl rfl) (ct rfl (aj (aU rfl (fun hc22=> ?_) (fun hc22=> ?_)))))
   ·skip
    obtain rfl:=opn_unl.1 hc22
    have hn:=hn (.inr rfl)
    refine am (aQ rfl (ai (be _ _ rfl rfl (bq ab)) ?_))
    refine bE rfl rfl rfl (fg rfl rfl rfl (aQ rfl (ai (bf _ _ aa rfl rfl _ rfl ab (by (simp only [aZ,bm,bl,bA,bv,bJ,bz,bK,ec];omega)) ag) ?_)))
    refine ai (cO _ aa rfl rfl) (ai (bC _ aa rfl (by exact hg1) rfl) ?_)
    refine ai (aV _ _ aa rfl ag (by (simp <;> rfl)) ah rfl) ?_
    exact kD rfl (aj (aC (aY (.inr rfl) rfl (.tmp (rfl:_=AV.sl _ _)) (Le.out [] [] (iB rfl (by simp [Cf,dz,Int.toNat_of_nonneg hn])) rfl rfl rfl trivial trivial))))
   ·skip
    have hs:dz i ⟨o,n⟩=[i+1]:=by
     unfold dz
     have h1:o≠ .stop:=fun e=> hc11 (opn_stop.2 e)
     have h2:o≠ .jump:=fun e=> hc13 (opn_jump.2 e)
     have h3:o≠ .unl:=fun e=> hc22 (opn_unl.2 e)
     cases o <;> first | rfl | exact absurd rfl h1 | exact absurd rfl h2 | exact absurd rfl h3
    refine cf (am (aQ rfl (ai (be _ _ rfl rfl (bq ab)) ?_)))
    refine ai (aV _ _ aa rfl ag (by (simp <;> rfl)) ah rfl) ?_
    refine kD rfl (aj (aC ?_))
    rw [hs]
    exact aY (.inr rfl) rfl (.tmp (rfl:_=AV.sl _ _)) (Le.out [] [] (iB rfl (by simp [Cf])) rfl rfl rfl trivial trivial)
instance Ta:Arr Tryz.prog 24 40 1:=Arr.of Tryz.underlying24 ae
instance So:Arr Tryz.prog 30 9 1:=Arr.of Tryz.underlying30 ae
instance SZ:Arr Tryz.prog 44 2 1:=Arr.of Tryz.underlying44 ae
instance RE:Arr Tryz.prog 81 41 1:=Arr.of Tryz.underlying81 ae
instance PL:Arr Tryz.prog 173 24 1:=Arr.of Tryz.underlying173 ae
instance OO:Arr Tryz.prog 278 0 1:=Arr.of Tryz.underlying278 ae
end Go.Proofs.YtmjnackchaahbaaGreat
