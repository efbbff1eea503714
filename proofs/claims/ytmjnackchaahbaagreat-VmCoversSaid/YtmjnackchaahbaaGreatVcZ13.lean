/- Part 13 of the texts that the walk leans on: the machine, the walks, the plain laws. -/
import Derived.Test.YtmjnackchaahbaaGreatVcZ12
set_option linter.unusedSimpArgs false
set_option linter.unusedVariables false
namespace Go.Proofs.YtmjnackchaahbaaGreat
open Go.RowKit

section
variable {d v:List Tx} {no:Nat} {on:List PV}
theorem CJ (n:Nat):CoS (uu d v no on) (nd 12 n [] []) (fun _=> [{ op:= .push,n:=(n:Int) }]):=fun a ha=> by
 refine Spec.ofN Tryz.func91 rfl Tryz.ntmps91 rfl ?_
 refine am (ai (bk (3,0) _ rfl rfl) (ai (bk (4,0) _ rfl rfl) (ai (bH _ (rfl:_=AV.v (.slice _ _ _))) (aj (aq (am (bE rfl rfl rfl (cK rfl rfl rfl (aj (au ?_))))))))))
 refine aq (eM rfl rfl rfl rfl rfl (aH (bD rfl rfl (am (bE rfl rfl rfl (cK rfl rfl rfl (ai (aA _ aa rfl (by exact (rfl:_=some [_,_]))) ?_)))))))
 refine ai (jS (19,0) _ _ aa rfl ag (by (simp <;> rfl)) ah rfl rfl) ?_
 exact eZ rfl (aj (aC (aY (.inr rfl) rfl (.tmp (rfl:_=AV.ref _ _ _)) (Le.out [((0,8),(19,0))] [] (dh rfl rfl) rfl rfl rfl trivial ob))))
theorem ub (n:Nat):CoS (uu d v no on) (nd 13 n [] []) (fun _=> [{ op:= .push,n:=(n:Int) }]):=fun a ha=> by
 refine Spec.ofN Tryz.func91 rfl Tryz.ntmps91 rfl ?_
 refine am (ai (bk (3,0) _ rfl rfl) (ai (bk (4,0) _ rfl rfl) (ai (bH _ (rfl:_=AV.v (.slice _ _ _))) (aj (aq (am (bE rfl rfl rfl (cK rfl rfl rfl (aj (au ?_))))))))))
 refine aq (bR rfl rfl rfl rfl rfl (oL rfl rfl rfl rfl rfl (am (bE rfl rfl rfl (cK rfl rfl rfl (ai (aA _ aa rfl (by exact (rfl:_=some [_,_]))) ?_))))))
 refine ai (jS (19,0) _ _ aa rfl ag (by (simp <;> rfl)) ah rfl rfl) ?_
 exact eZ rfl (aj (aC (aY (.inr rfl) rfl (.tmp (rfl:_=AV.ref _ _ _)) (Le.out [((0,8),(19,0))] [] (dh rfl rfl) rfl rfl rfl trivial ob))))
theorem CU (hn:(d++v).Nodup) (hl:(d++v).length≤1000) (i:Nat) (hi:i < (d++v).length):CoS (uu d v no on) (nd 14 0 ((d++v).getD i []) []) (fun _=> [{ op:= .var,n:=(i:Int) }]):=fun a ha=> by
 refine Spec.ofN Tryz.func91 rfl Tryz.ntmps91 rfl ?_
 refine am (ai (bk (3,0) _ rfl rfl) (ai (bk (4,0) _ rfl rfl) (ai (bH _ (rfl:_=AV.v (.slice _ _ _))) (aj (aq (am (bE rfl rfl rfl (cK rfl rfl rfl (aj (au ?_))))))))))
 refine aq (bR rfl rfl rfl rfl rfl (cd rfl rfl rfl rfl rfl (eM rfl rfl rfl rfl rfl (am (ai (aS _ aa rfl rfl rfl rfl) (bE rfl rfl rfl (ai (aM _ aa rfl rfl (rfl:_=some (AV.v (.string _)))) (ai (aK aa al (kT d v on no hn hl i hi) rfl rfl) ?_))))))))
 refine ai (aA _ aa rfl (by exact (rfl:_=some [_,_]))) ?_
 refine ai (jS (27,0) _ _ aa rfl ag (by (simp <;> rfl)) ah rfl rfl) ?_
 exact eZ rfl (aj (aC (aY (.inr rfl) rfl (.tmp (rfl:_=AV.ref _ _ _)) (Le.out [((0,8),(27,0))] [] (dh rfl rfl) rfl rfl rfl trivial ob))))
theorem BA (k:Nat) (hk:k < 9):CoS (uu d v no on) (nd 15 0 (bltT.getD k []) []) (fun _=> [{ op:= .name,n:=(k:Int) }]):=fun a ha=> by
 refine Spec.ofN Tryz.func91 rfl Tryz.ntmps91 rfl ?_
 refine am (ai (bk (3,0) _ rfl rfl) (ai (bk (4,0) _ rfl rfl) (ai (bH _ (rfl:_=AV.v (.slice _ _ _))) (aj (aq (am (bE rfl rfl rfl (cK rfl rfl rfl (aj (au ?_))))))))))
 refine aq (bR rfl rfl rfl rfl rfl (cd rfl rfl rfl rfl rfl (bR rfl rfl rfl rfl rfl (eM rfl rfl rfl rfl rfl (aq ?_)))))
 refine aN (σ':=aB 211 [(4,_)] [((4,0),_)] [] []) kp ?_
 refine bG 6 [30,31,32,33,34,35] [(35,0)] ae ae rfl (aL rfl) (rfl:_=[_,_,_,_,_,_]) (rfl:_=[_]) ?_
 refine ap (_,[]) (fun τ=> (aK aa (by repeat' (exact dL)) (mQ) rfl rfl)) ?_
 refine eK rfl ?_
 refine ap (_,[]) (fun τ=> aJ _ aa rfl rfl rfl) ?_
 refine eJ rfl ?_
 refine ap (_,[]) (fun τ=> aM _ aa rfl rfl (rfl:_=some (AV.v (.string _)))) ?_
 refine eI rfl ?_
 refine ap (_,[]) (fun τ=> (aK aa al (vc bltT 9 rfl ab ah k hk) rfl rfl)) ?_
 refine eO rfl ?_
 refine ap (_,[]) (fun τ=> aA _ aa rfl (by exact (rfl:_=some [_,_]))) ?_
 refine fa rfl ?_
 refine ap (_,[((35,0),_)]) (fun τ=> jS (35,0) _ _ aa rfl ag (by (simp <;> rfl)) ah rfl rfl) ?_
 refine fC rfl (bh ⟨rfl,?_⟩)
 exact eZ rfl (aj (aC (aY (.inr rfl) rfl (.tmp (rfl:_=AV.ref _ _ _)) (Le.out [((0,8),(35,0))] [] (dh rfl rfl) rfl rfl rfl trivial ob))))
theorem xo (n:Nat):CoS (uu d v no on) (nd 5 n [] []) (fun _=> [{ op:= .timer,n:=(n:Int) }]):=fun a ha=> by
 refine Spec.ofN Tryz.func91 rfl Tryz.ntmps91 rfl ?_
 refine am (ai (bk (3,0) _ rfl rfl) (ai (bk (4,0) _ rfl rfl) (ai (bH _ (rfl:_=AV.v (.slice _ _ _))) (aj (aq (am (bE rfl rfl rfl (cK rfl rfl rfl (aj (au ?_))))))))))
 refine aq (bR rfl rfl rfl rfl rfl (cd rfl rfl rfl rfl rfl ?_))
 iterate 3 refine bR rfl rfl rfl rfl rfl ?_
 refine aq ?_
 refine aN (σ':=aB 211 [(2,_),(3,_),(4,_),(12,_)] [((3,0),_),((4,0),_)] [] []) kp ?_
 refine oL rfl rfl rfl rfl rfl (am (bE rfl rfl rfl (cK rfl rfl rfl (ai (aA _ aa rfl (by exact (rfl:_=some [_,_]))) ?_))))
 refine ai (jS (56,0) _ _ aa rfl ag (by (simp <;> rfl)) ah rfl rfl) ?_
 exact eZ rfl (aj (aC (aY (.inr rfl) rfl (.tmp (rfl:_=AV.ref _ _ _)) (Le.out [((0,8),(56,0))] [] (dh rfl rfl) rfl rfl rfl trivial ob))))
theorem vP (n:Nat):CoS (uu d v no on) (nd 6 n [] []) (fun _=> [{ op:= .cancel,n:=(n:Int) }]):=fun a ha=> by
 refine Spec.ofN Tryz.func91 rfl Tryz.ntmps91 rfl ?_
 refine am (ai (bk (3,0) _ rfl rfl) (ai (bk (4,0) _ rfl rfl) (ai (bH _ (rfl:_=AV.v (.slice _ _ _))) (aj (aq (am (bE rfl rfl rfl (cK rfl rfl rfl (aj (au ?_))))))))))
 refine aq (bR rfl rfl rfl rfl rfl (cd rfl rfl rfl rfl rfl ?_))
 iterate 3 refine bR rfl rfl rfl rfl rfl ?_
 refine aq ?_
 refine aN (σ':=aB 211 [(2,_),(3,_),(4,_),(12,_)] [((3,0),_),((4,0),_)] [] []) kp ?_
 refine cd rfl rfl rfl rfl rfl (eM rfl rfl rfl rfl rfl (am (bE rfl rfl rfl (cK rfl rfl rfl (ai (aA _ aa rfl (by exact (rfl:_=some [_,_]))) ?_)))))
 refine ai (jS (62,0) _ _ aa rfl ag (by (simp <;> rfl)) ah rfl rfl) ?_
 exact eZ rfl (aj (aC (aY (.inr rfl) rfl (.tmp (rfl:_=AV.ref _ _ _)) (Le.out [((0,8),(62,0))] [] (dh rfl rfl) rfl rfl rfl trivial ob))))
theorem co_sync:CoS (uu d v no on) (nd 7 0 [] []) (fun _=> [{ op:= .sync }]):=fun a ha=> by
 refine Spec.ofN Tryz.func91 rfl Tryz.ntmps91 rfl ?_
 refine am (ai (bk (3,0) _ rfl rfl) (ai (bk (4,0) _ rfl rfl) (ai (bH _ (rfl:_=AV.v (.slice _ _ _))) (aj (aq (am (bE rfl rfl rfl (cK rfl rfl rfl (aj (au ?_))))))))))
 refine aq (bR rfl rfl rfl rfl rfl (cd rfl rfl rfl rfl rfl ?_))
 iterate 3 refine bR rfl rfl rfl rfl rfl ?_
 refine aq ?_
 refine aN (σ':=aB 211 [(2,_),(3,_),(4,_),(12,_)] [((3,0),_),((4,0),_)] [] []) kp ?_
 refine cd rfl rfl rfl rfl rfl (bR rfl rfl rfl rfl rfl (eM rfl rfl rfl rfl rfl (am (ai (aA _ aa rfl (by exact (rfl:_=some [_,_]))) ?_))))
 refine ai (jS (66,0) _ _ aa rfl ag (by (simp <;> rfl)) ah rfl rfl) ?_
 exact eZ rfl (aj (aC (aY (.inr rfl) rfl (.tmp (rfl:_=AV.ref _ _ _)) (Le.out [((0,8),(66,0))] [] (dh rfl rfl) rfl rfl rfl trivial ob))))
theorem co_stop:CoS (uu d v no on) (nd 10 0 [] []) (fun _=> [{ op:= .stop }]):=fun a ha=> by
 refine Spec.ofN Tryz.func91 rfl Tryz.ntmps91 rfl ?_
 refine am (ai (bk (3,0) _ rfl rfl) (ai (bk (4,0) _ rfl rfl) (ai (bH _ (rfl:_=AV.v (.slice _ _ _))) (aj (aq (am (bE rfl rfl rfl (cK rfl rfl rfl (aj (au ?_))))))))))
 refine aq (bR rfl rfl rfl rfl rfl (cd rfl rfl rfl rfl rfl ?_))
 iterate 3 refine bR rfl rfl rfl rfl rfl ?_
 refine aq ?_
 refine aN (σ':=aB 211 [(2,_),(3,_),(4,_),(12,_)] [((3,0),_),((4,0),_)] [] []) kp ?_
 refine cd rfl rfl rfl rfl rfl ?_
 iterate 2 refine bR rfl rfl rfl rfl rfl ?_
 refine eM rfl rfl rfl rfl rfl (am (ai (aA _ aa rfl (by exact (rfl:_=some [_,_]))) ?_))
 refine ai (jS (70,0) _ _ aa rfl ag (by (simp <;> rfl)) ah rfl rfl) ?_
 exact eZ rfl (aj (aC (aY (.inr rfl) rfl (.tmp (rfl:_=AV.ref _ _ _)) (Le.out [((0,8),(70,0))] [] (dh rfl rfl) rfl rfl rfl trivial ob))))
theorem CD {c y z:Nd} {cc cy cz:Cd} (hc:CoS (uu d v no on) c cc) (hy:CoS (uu d v no on) y cy) (hz:CoS (uu d v no on) z cz):CoS (uu d v no on) (nd 2 0 [] [c,y,z]) (Ce cc cy cz):=fun a ha=> by
 have hb:=jz (on:=on) c cc cy cz hc 1 1 (kC [y]) (kC [z]) 0 (fun a ha=> mX y cy hy 0 a ha) (fun a ha=> mX z cz hz 0 a ha) a ha
 refine Spec.ofN Tryz.func91 rfl Tryz.ntmps91 rfl ?_
 refine am (ai (bk (3,0) _ rfl rfl) (ai (bk (4,0) _ rfl rfl) (ai (bH _ (rfl:_=AV.v (.slice _ _ _))) (aj (aq (am (bE rfl rfl rfl (cK rfl rfl rfl (aj (au ?_))))))))))
 refine aq (bR rfl rfl rfl rfl rfl (cd rfl rfl rfl rfl rfl ?_))
 iterate 2 refine bR rfl rfl rfl rfl rfl ?_
 refine eM rfl rfl rfl rfl rfl (aq ?_)
 refine aN (σ':=aB 211 [(2,_),(3,_),(4,_)] [((3,0),_),((4,0),_)] [] []) kp ?_
 refine bG 12 [38,39,40,41,42,43,44,45,46,47,48,49] [] ae ae rfl (aL rfl) (rfl:_=[_,_,_,_,_,_,_,_,_,_,_,_]) (rfl:_=[_,_]) ?_
 refine ap (_,[]) (fun τ=> aS _ aa rfl rfl rfl rfl) ?_
 refine eK rfl ?_
 refine ap (_,[]) (fun τ=> aJ _ aa rfl rfl rfl) ?_
 refine eJ rfl ?_
 refine ap (_,[]) (fun τ=> aM _ aa rfl rfl (rfl:_=some (AV.sl _ _))) ?_
 refine eI rfl ?_
 refine ap (_,[]) (fun τ=> bf _ _ aa rfl rfl 0 rfl (show 0 < 3 by omega) (Nat.le_of_ble_eq_true rfl) rfl) ?_
 refine eO rfl ?_
 refine ap (_,[]) (fun τ=> cg _ aa rfl (by exact cG [c,y,z] 0 (by simp)) rfl) ?_
 refine fa rfl ?_
 refine ap (_,[]) (fun τ=> aJ _ aa rfl rfl rfl) ?_
 refine fC rfl ?_
 refine ap (_,[]) (fun τ=> aM _ aa rfl rfl (rfl:_=some (AV.sl _ _))) ?_
 refine gv rfl ?_
 refine ap (_,[]) (fun τ=> la _ _ _ aa rfl 1 2 (.lit rfl rfl) (.lit rfl rfl) ab (show 2≤3 by omega) (show _=kC [y] from rfl) rfl) ?_
 refine jI rfl ?_
 refine ap (_,[]) (fun τ=> aJ _ aa rfl rfl rfl) ?_
 refine jQ rfl ?_
 refine ap (_,[]) (fun τ=> aM _ aa rfl rfl (rfl:_=some (AV.sl _ _))) ?_
 refine fW rfl ?_
 refine ap (_,[]) (fun τ=> la _ _ _ aa rfl 2 3 (.lit rfl rfl) (.lit rfl rfl) ab (show 3≤3 by omega) (show _=kC [z] from rfl) rfl) ?_
 refine gx rfl ?_
 refine ap (_,[]) (fun τ=> aE _ (rfl:_=AV.v (.int _ _))) ?_
 refine kA rfl (bh ⟨rfl,?_⟩)
 refine ai (dm aa [((0,8),(50,0))] ar (hb.toI) trivial tr ae) ?_
 exact eZ rfl (aj (aC (aY (.inr rfl) rfl (.tmp (rfl:_=AV.ref _ _ _)) (Le.out [((0,8),(50,0))] [] (dh rfl rfl) rfl rfl rfl trivial ob))))
theorem De {c y:Nd} {cc cy:Cd} (hc:CoS (uu d v no on) c cc) (hy:CoS (uu d v no on) y cy):CoS (uu d v no on) (nd 18 0 [38,38] [c,y]) (Ce cc cy (fun _=> [{ op:= .push,n:=0 }])):=fun a ha=> by
 have hb:=jz (on:=on) c cc cy (fun _=> [{ op:= .push,n:=0 }]) hc 1 0 (kC [y]) [] 0 (fun a ha=> mX y cy hy 0 a ha) (fun a _=> qZ 0 a) a ha
 refine Spec.ofN Tryz.func91 rfl Tryz.ntmps91 rfl ?_
 refine am (ai (bk (3,0) _ rfl rfl) (ai (bk (4,0) _ rfl rfl) (ai (bH _ (rfl:_=AV.v (.slice _ _ _))) (aj (aq (am (bE rfl rfl rfl (cK rfl rfl rfl (aj (au ?_))))))))))
 refine aq (bR rfl rfl rfl rfl rfl (cd rfl rfl rfl rfl rfl ?_))
 iterate 3 refine bR rfl rfl rfl rfl rfl ?_
 refine aq ?_
 refine aN (σ':=aB 211 [(2,_),(3,_),(4,_),(12,_)] [((3,0),_),((4,0),_)] [] []) kp ?_
 refine cd rfl rfl rfl rfl rfl ?_
 iterate 4 refine bR rfl rfl rfl rfl rfl ?_
 refine ce (aq (am (bE rfl rfl rfl (cK rfl rfl rfl (iX rfl rfl rfl (cL rfl (ax rfl rfl (aJ _ aa rfl rfl rfl) (ax rfl rfl (aM _ aa rfl rfl (rfl:_=some (AV.v (.string _)))) (ax rfl rfl (aV (r:=true) _ _ Tryz.underlying9 rfl rfl rfl) (ai (aD _ _ _ rfl (rfl:_=AV.v (.bool _))) ?_))))))))))
 refine aj (bD rfl rfl (aq ?_))
 refine aN (σ':=aB 211 [(2,_),(3,_),(4,_)] [((3,0),_),((4,0),_)] [] []) kp ?_
 refine bG 9 [119,120,121,122,123,124,125,126,127] [] ae ae rfl (aL rfl) (rfl:_=[_,_,_,_,_,_,_,_,_]) (rfl:_=[_,_]) ?_
 refine ap (_,[]) (fun τ=> aS _ aa rfl rfl rfl rfl) ?_
 refine eK rfl ?_
 refine ap (_,[]) (fun τ=> aJ _ aa rfl rfl rfl) ?_
 refine eJ rfl ?_
 refine ap (_,[]) (fun τ=> aM _ aa rfl rfl (rfl:_=some (AV.sl _ _))) ?_
 refine eI rfl ?_
 refine ap (_,[]) (fun τ=> bf _ _ aa rfl rfl 0 rfl (show 0 < 2 by omega) (Nat.le_of_ble_eq_true rfl) rfl) ?_
 refine eO rfl ?_
 refine ap (_,[]) (fun τ=> cg _ aa rfl (by exact cG [c,y] 0 (by simp)) rfl) ?_
 refine fa rfl ?_
 refine ap (_,[]) (fun τ=> aJ _ aa rfl rfl rfl) ?_
 refine fC rfl ?_
 refine ap (_,[]) (fun τ=> aM _ aa rfl rfl (rfl:_=some (AV.sl _ _))) ?_
 refine gv rfl ?_
 refine ap (_,[]) (fun τ=> la _ _ _ aa rfl 1 2 (.lit rfl rfl) (.lit rfl rfl) ab (show 2≤2 by omega) (show _=kC [y] from rfl) rfl) ?_
 refine jI rfl ?_
 refine ap (_,[]) (fun τ=> aE _ (rfl:_=AV.v (.int _ _))) ?_
 refine jQ rfl (bh ⟨rfl,?_⟩)
 refine ai (dm aa [((0,8),(50,0))] ar (hb.toI) trivial tr ae) ?_
 exact eZ rfl (aj (aC (aY (.inr rfl) rfl (.tmp (rfl:_=AV.ref _ _ _)) (Le.out [((0,8),(50,0))] [] (dh rfl rfl) rfl rfl rfl trivial ob))))
theorem EA {c y:Nd} {cc cy:Cd} (hc:CoS (uu d v no on) c cc) (hy:CoS (uu d v no on) y cy):CoS (uu d v no on) (nd 18 0 [124,124] [c,y]) (Ce cc (fun _=> [{ op:= .push,n:=1 }]) cy):=fun a ha=> by
 have hb:=jz (on:=on) c cc (fun _=> [{ op:= .push,n:=1 }]) cy hc 0 1 [] (kC [y]) 1 (fun a _=> qZ 1 a) (fun a ha=> mX y cy hy 1 a ha) a ha
 refine Spec.ofN Tryz.func91 rfl Tryz.ntmps91 rfl ?_
 refine am (ai (bk (3,0) _ rfl rfl) (ai (bk (4,0) _ rfl rfl) (ai (bH _ (rfl:_=AV.v (.slice _ _ _))) (aj (aq (am (bE rfl rfl rfl (cK rfl rfl rfl (aj (au ?_))))))))))
 refine aq (bR rfl rfl rfl rfl rfl (cd rfl rfl rfl rfl rfl ?_))
 iterate 3 refine bR rfl rfl rfl rfl rfl ?_
 refine aq ?_
 refine aN (σ':=aB 211 [(2,_),(3,_),(4,_),(12,_)] [((3,0),_),((4,0),_)] [] []) kp ?_
 refine cd rfl rfl rfl rfl rfl ?_
 iterate 4 refine bR rfl rfl rfl rfl rfl ?_
 refine ce (aq (am (bE rfl rfl rfl (cK rfl rfl rfl (iX rfl rfl rfl (cL rfl (ax rfl rfl (aJ _ aa rfl rfl rfl) (ax rfl rfl (aM _ aa rfl rfl (rfl:_=some (AV.v (.string _)))) (ax rfl rfl (aV (r:=false) _ _ Tryz.underlying9 rfl rfl rfl) (ai (aD _ _ _ rfl (rfl:_=AV.v (.bool _))) ?_))))))))))
 refine aj (aP rfl rfl (aH (aq (aq ?_))))
 refine aN (σ':=aB 211 [(2,_),(3,_),(4,_)] [((3,0),_),((4,0),_)] [] []) kp ?_
 refine an (bE rfl rfl rfl (cK rfl rfl rfl (iX rfl rfl rfl (cL rfl (ax rfl rfl (aJ _ aa rfl rfl rfl) (ax rfl rfl (aM _ aa rfl rfl (rfl:_=some (AV.v (.string _)))) (ax rfl rfl (aV (r:=true) _ _ Tryz.underlying9 rfl rfl rfl) (ai (aD _ _ _ rfl (rfl:_=AV.v (.bool _))) (aj (bD rfl rfl ?_))))))))))
 refine aq ?_
 refine aN (σ':=aB 211 [(2,_),(3,_),(4,_)] [((3,0),_),((4,0),_)] [] []) kp ?_
 refine bG 9 [137,138,139,140,141,142,143,144,145] [] ae ae rfl (aL rfl) (rfl:_=[_,_,_,_,_,_,_,_,_]) (rfl:_=[_,_]) ?_
 refine ap (_,[]) (fun τ=> aS _ aa rfl rfl rfl rfl) ?_
 refine eK rfl ?_
 refine ap (_,[]) (fun τ=> aJ _ aa rfl rfl rfl) ?_
 refine eJ rfl ?_
 refine ap (_,[]) (fun τ=> aM _ aa rfl rfl (rfl:_=some (AV.sl _ _))) ?_
 refine eI rfl ?_
 refine ap (_,[]) (fun τ=> bf _ _ aa rfl rfl 0 rfl (show 0 < 2 by omega) (Nat.le_of_ble_eq_true rfl) rfl) ?_
 refine eO rfl ?_
 refine ap (_,[]) (fun τ=> cg _ aa rfl (by exact cG [c,y] 0 (by simp)) rfl) ?_
 refine fa rfl ?_
 refine ap (_,[]) (fun τ=> aJ _ aa rfl rfl rfl) ?_
 refine fC rfl ?_
 refine ap (_,[]) (fun τ=> aM _ aa rfl rfl (rfl:_=some (AV.sl _ _))) ?_
 refine gv rfl ?_
 refine ap (_,[]) (fun τ=> la _ _ _ aa rfl 1 2 (.lit rfl rfl) (.lit rfl rfl) ab (show 2≤2 by omega) (show _=kC [y] from rfl) rfl) ?_
 refine jI rfl ?_
 refine ap (_,[]) (fun τ=> aE _ (rfl:_=AV.v (.int _ _))) ?_
 refine jQ rfl (bh ⟨rfl,?_⟩)
 refine ai (dm aa [((0,8),(50,0))] ar (hb.toI) trivial tr ae) ?_
 exact eZ rfl (aj (aC (aY (.inr rfl) rfl (.tmp (rfl:_=AV.ref _ _ _)) (Le.out [((0,8),(50,0))] [] (dh rfl rfl) rfl rfl rfl trivial ob))))
theorem zq {L:List Nd} {cs:List Cd} (hc:cs.length=L.length) (hk:ld (uu d v no on) L cs):CoS (uu d v no on) (nd 16 0 [] L) (fun a=> cO cs a++[{ op:= .draw }]):=fun a ha=> by
 have hl2:a+(cO cs a).length≤1000000:=by simp only [List.length_append] at ha;omega
 have hq:=dw (d:=d) (v:=v) (no:=no) (on:=on) L cs hc hk a hl2
 refine Spec.ofN Tryz.func91 rfl Tryz.ntmps91 rfl ?_
 refine am (ai (bk (3,0) _ rfl rfl) (ai (bk (4,0) _ rfl rfl) (ai (bH _ (rfl:_=AV.v (.slice _ _ _))) (aj (aq (am (bE rfl rfl rfl (cK rfl rfl rfl (aj (au ?_))))))))))
 refine aq (bR rfl rfl rfl rfl rfl (cd rfl rfl rfl rfl rfl ?_))
 iterate 3 refine bR rfl rfl rfl rfl rfl ?_
 refine aq ?_
 refine aN (σ':=aB 211 [(2,_),(3,_),(4,_),(12,_)] [((3,0),_),((4,0),_)] [] []) kp ?_
 refine cd rfl rfl rfl rfl rfl ?_
 iterate 4 refine bR rfl rfl rfl rfl rfl ?_
 refine ce (aq (am (bE rfl rfl rfl (cK rfl rfl rfl (eG rfl rfl rfl (cL rfl (aR rfl rfl ah ?_)))))))
 refine aR rfl rfl ah ?_
 refine aR rfl rfl ah ?_
 refine ai (aD _ _ _ rfl (rfl:_=AV.v (.bool _))) (aj (aP rfl rfl (aH (aq (aq ?_)))))
 refine aN (σ':=aB 211 [(2,_),(3,_),(4,_)] [((3,0),_),((4,0),_)] [] []) kp ?_
 refine an (bE rfl rfl rfl (cK rfl rfl rfl (eG rfl rfl rfl (cL rfl (aR rfl rfl ah ?_)))))
 refine aR rfl rfl ah ?_
 refine aR rfl rfl ah ?_
 refine ai (aD _ _ _ rfl (rfl:_=AV.v (.bool _))) (aj (aP rfl rfl (aH (am (ai (aS _ aa rfl rfl rfl rfl) (bE rfl rfl rfl (fo rfl rfl rfl (aQ rfl (ai (dm aa [((0,8),(50,0))] ar (hq.toI) trivial tr ae) ?_)))))))))
 refine eZ rfl (aj (aq (am (bE rfl rfl rfl (cK rfl rfl rfl (aj (au (aq ?_))))))))
 refine aN (σ':=aB 211 [(3,_),(4,_),(10,_),(153,_)] [((3,0),_),((4,0),_),((50,0),_)] [] []) kp ?_
 refine cd rfl rfl rfl rfl rfl (eM rfl rfl rfl rfl rfl (am (gD rfl (ai (aA _ aa rfl (by exact (rfl:_=some [_,_]))) ?_))))
 refine ai (aW _ _ aa rfl ag (by (simp <;> rfl)) ah rfl) ?_
 refine ai (dq (166,0) _ _ aa rfl rfl (bL _).symm (.sl rfl) ab rfl (ew _ { op:= .draw }) (show (cO cs a).length+1=(cO cs a++[({ op:= .draw }:et)]).length by simp)) ?_
 exact eZ rfl (aj (aC (aY (.inr rfl) rfl (.tmp (rfl:_=AV.ref _ _ _)) (Le.out [((0,8),(166,0))] [] (dh rfl rfl) rfl rfl rfl trivial ob))))
theorem Dd {L:List Nd} {cs:List Cd} (hc:cs.length=L.length) (hk:ld (uu d v no on) L cs):CoS (uu d v no on) (nd 17 0 [45] L) (fun a=> cO cs a++[{ op:= .neg }]):=fun a ha=> by
 have hl2:a+(cO cs a).length≤1000000:=by simp only [List.length_append] at ha;omega
 have hq:=dw (d:=d) (v:=v) (no:=no) (on:=on) L cs hc hk a hl2
 refine Spec.ofN Tryz.func91 rfl Tryz.ntmps91 rfl ?_
 refine am (ai (bk (3,0) _ rfl rfl) (ai (bk (4,0) _ rfl rfl) (ai (bH _ (rfl:_=AV.v (.slice _ _ _))) (aj (aq (am (bE rfl rfl rfl (cK rfl rfl rfl (aj (au ?_))))))))))
 refine aq (bR rfl rfl rfl rfl rfl (cd rfl rfl rfl rfl rfl ?_))
 iterate 3 refine bR rfl rfl rfl rfl rfl ?_
 refine aq ?_
 refine aN (σ':=aB 211 [(2,_),(3,_),(4,_),(12,_)] [((3,0),_),((4,0),_)] [] []) kp ?_
 refine cd rfl rfl rfl rfl rfl ?_
 iterate 4 refine bR rfl rfl rfl rfl rfl ?_
 refine ce (aq (am (bE rfl rfl rfl (cK rfl rfl rfl (eG rfl rfl rfl (cL rfl (aR rfl rfl ah ?_)))))))
 refine aR rfl rfl ah ?_
 refine aR rfl rfl ah ?_
 refine ai (aD _ _ _ rfl (rfl:_=AV.v (.bool _))) (aj (aP rfl rfl (aH (aq (aq ?_)))))
 refine aN (σ':=aB 211 [(2,_),(3,_),(4,_)] [((3,0),_),((4,0),_)] [] []) kp ?_
 refine an (bE rfl rfl rfl (cK rfl rfl rfl (eG rfl rfl rfl (cL rfl (aR rfl rfl ah ?_)))))
 refine aR rfl rfl ah ?_
 refine aR rfl rfl ah ?_
 refine ai (aD _ _ _ rfl (rfl:_=AV.v (.bool _))) (aj (aP rfl rfl (aH (am (ai (aS _ aa rfl rfl rfl rfl) (bE rfl rfl rfl (fo rfl rfl rfl (aQ rfl (ai (dm aa [((0,8),(50,0))] ar (hq.toI) trivial tr ae) ?_)))))))))
 refine eZ rfl (aj (aq (am (bE rfl rfl rfl (cK rfl rfl rfl (aj (au (aq ?_))))))))
 refine aN (σ':=aB 211 [(3,_),(4,_),(10,_),(153,_)] [((3,0),_),((4,0),_),((50,0),_)] [] []) kp ?_
 refine cd rfl rfl rfl rfl rfl (bR rfl rfl rfl rfl rfl (eM rfl rfl rfl rfl rfl (aq (am (bE rfl rfl rfl (ai (aM _ aa rfl rfl (rfl:_=some (AV.v (.string _)))) (ai (aV (r:=true) _ _ Tryz.underlying9 rfl rfl rfl) (aj (bD rfl rfl (am ?_))))))))))
 refine gD rfl (ai (aA _ aa rfl (by exact (rfl:_=some [_,_]))) ?_)
 refine ai (aW _ _ aa rfl ag (by (simp <;> rfl)) ah rfl) ?_
 refine ai (dq (175,0) _ _ aa rfl rfl (bL _).symm (.sl rfl) ab rfl (ew _ { op:= .neg }) (show (cO cs a).length+1=(cO cs a++[({ op:= .neg }:et)]).length by simp)) ?_
 exact eZ rfl (aj (aC (aY (.inr rfl) rfl (.tmp (rfl:_=AV.ref _ _ _)) (Le.out [((0,8),(175,0))] [] (dh rfl rfl) rfl rfl rfl trivial ob))))
theorem Eh {L:List Nd} {cs:List Cd} (hc:cs.length=L.length) (hk:ld (uu d v no on) L cs):CoS (uu d v no on) (nd 17 0 [33] L) (fun a=> cO cs a++[{ op:= .not }]):=fun a ha=> by
 have hl2:a+(cO cs a).length≤1000000:=by simp only [List.length_append] at ha;omega
 have hq:=dw (d:=d) (v:=v) (no:=no) (on:=on) L cs hc hk a hl2
 refine Spec.ofN Tryz.func91 rfl Tryz.ntmps91 rfl ?_
 refine am (ai (bk (3,0) _ rfl rfl) (ai (bk (4,0) _ rfl rfl) (ai (bH _ (rfl:_=AV.v (.slice _ _ _))) (aj (aq (am (bE rfl rfl rfl (cK rfl rfl rfl (aj (au ?_))))))))))
 refine aq (bR rfl rfl rfl rfl rfl (cd rfl rfl rfl rfl rfl ?_))
 iterate 3 refine bR rfl rfl rfl rfl rfl ?_
 refine aq ?_
 refine aN (σ':=aB 211 [(2,_),(3,_),(4,_),(12,_)] [((3,0),_),((4,0),_)] [] []) kp ?_
 refine cd rfl rfl rfl rfl rfl ?_
 iterate 4 refine bR rfl rfl rfl rfl rfl ?_
 refine ce (aq (am (bE rfl rfl rfl (cK rfl rfl rfl (eG rfl rfl rfl (cL rfl (aR rfl rfl ah ?_)))))))
 refine aR rfl rfl ah ?_
 refine aR rfl rfl ah ?_
 refine ai (aD _ _ _ rfl (rfl:_=AV.v (.bool _))) (aj (aP rfl rfl (aH (aq (aq ?_)))))
 refine aN (σ':=aB 211 [(2,_),(3,_),(4,_)] [((3,0),_),((4,0),_)] [] []) kp ?_
 refine an (bE rfl rfl rfl (cK rfl rfl rfl (eG rfl rfl rfl (cL rfl (aR rfl rfl ah ?_)))))
 refine aR rfl rfl ah ?_
 refine aR rfl rfl ah ?_
 refine ai (aD _ _ _ rfl (rfl:_=AV.v (.bool _))) (aj (aP rfl rfl (aH (am (ai (aS _ aa rfl rfl rfl rfl) (bE rfl rfl rfl (fo rfl rfl rfl (aQ rfl (ai (dm aa [((0,8),(50,0))] ar (hq.toI) trivial tr ae) ?_)))))))))
 refine eZ rfl (aj (aq (am (bE rfl rfl rfl (cK rfl rfl rfl (aj (au (aq ?_))))))))
 refine aN (σ':=aB 211 [(3,_),(4,_),(10,_),(153,_)] [((3,0),_),((4,0),_),((50,0),_)] [] []) kp ?_
 refine cd rfl rfl rfl rfl rfl (bR rfl rfl rfl rfl rfl (eM rfl rfl rfl rfl rfl (aq (am (bE rfl rfl rfl (ai (aM _ aa rfl rfl (rfl:_=some (AV.v (.string _)))) (ai (aV (r:=false) _ _ Tryz.underlying9 rfl rfl rfl) (aj (aP rfl rfl (aH ?_))))))))))
 refine am (gD rfl (ai (aA _ aa rfl (by exact (rfl:_=some [_,_]))) ?_))
 refine ai (aW _ _ aa rfl ag (by (simp <;> rfl)) ah rfl) ?_
 refine ai (dq (179,0) _ _ aa rfl rfl (bL _).symm (.sl rfl) ab rfl (ew _ { op:= .not }) (show (cO cs a).length+1=(cO cs a++[({ op:= .not }:et)]).length by simp)) ?_
 exact eZ rfl (aj (aC (aY (.inr rfl) rfl (.tmp (rfl:_=AV.ref _ _ _)) (Le.out [((0,8),(179,0))] [] (dh rfl rfl) rfl rfl rfl trivial ob))))
theorem uV {L:List Nd} {cs:List Cd} (hc:cs.length=L.length) (hk:ld (uu d v no on) L cs) (hn:(d++v).Nodup) (hl:(d++v).length≤1000) (i:Nat) (hi:i < (d++v).length):CoS (uu d v no on) (nd 1 0 ((d++v).getD i []) L) (fun a=> cO cs a++[{ op:= .setVar,n:=(i:Int) }]):=fun a ha=> by
 have hl2:a+(cO cs a).length≤1000000:=by simp only [List.length_append] at ha;omega
 have hq:=dw (d:=d) (v:=v) (no:=no) (on:=on) L cs hc hk a hl2
 refine Spec.ofN Tryz.func91 rfl Tryz.ntmps91 rfl ?_
 refine am (ai (bk (3,0) _ rfl rfl) (ai (bk (4,0) _ rfl rfl) (ai (bH _ (rfl:_=AV.v (.slice _ _ _))) (aj (aq (am (bE rfl rfl rfl (cK rfl rfl rfl (aj (au ?_))))))))))
 refine aq (bR rfl rfl rfl rfl rfl (cd rfl rfl rfl rfl rfl ?_))
 iterate 3 refine bR rfl rfl rfl rfl rfl ?_
 refine aq ?_
 refine aN (σ':=aB 211 [(2,_),(3,_),(4,_),(12,_)] [((3,0),_),((4,0),_)] [] []) kp ?_
 refine cd rfl rfl rfl rfl rfl ?_
 iterate 4 refine bR rfl rfl rfl rfl rfl ?_
 refine ce (aq (am (bE rfl rfl rfl (cK rfl rfl rfl (eG rfl rfl rfl (cL rfl (aR rfl rfl ah ?_)))))))
 refine aR rfl rfl ah ?_
 refine aR rfl rfl ah ?_
 refine ai (aD _ _ _ rfl (rfl:_=AV.v (.bool _))) (aj (aP rfl rfl (aH (aq (aq ?_)))))
 refine aN (σ':=aB 211 [(2,_),(3,_),(4,_)] [((3,0),_),((4,0),_)] [] []) kp ?_
 refine an (bE rfl rfl rfl (cK rfl rfl rfl (eG rfl rfl rfl (cL rfl (aR rfl rfl ah ?_)))))
 refine aR rfl rfl ah ?_
 refine aR rfl rfl ah ?_
 refine ai (aD _ _ _ rfl (rfl:_=AV.v (.bool _))) (aj (aP rfl rfl (aH (am (ai (aS _ aa rfl rfl rfl rfl) (bE rfl rfl rfl (fo rfl rfl rfl (aQ rfl (ai (dm aa [((0,8),(50,0))] ar (hq.toI) trivial tr ae) ?_)))))))))
 refine eZ rfl (aj (aq (am (bE rfl rfl rfl (cK rfl rfl rfl (aj (au (aq ?_))))))))
 refine aN (σ':=aB 211 [(3,_),(4,_),(10,_),(153,_)] [((3,0),_),((4,0),_),((50,0),_)] [] []) kp ?_
 refine cd rfl rfl rfl rfl rfl ?_
 iterate 2 refine bR rfl rfl rfl rfl rfl ?_
 refine eM rfl rfl rfl rfl rfl (am (gD rfl (ai (aS _ aa rfl rfl rfl rfl) (bE rfl rfl rfl (ai (aM _ aa rfl rfl (rfl:_=some (AV.v (.string _)))) (ai (aK aa al (kT d v on no hn hl i hi) rfl rfl) ?_))))))
 refine ai (aA _ aa rfl (by exact (rfl:_=some [_,_]))) ?_
 refine ai (aW _ _ aa rfl ag (by (simp <;> rfl)) ah rfl) ?_
 refine ai (dq (189,0) _ _ aa rfl rfl (bL _).symm (.sl rfl) ab rfl (ew _ { op:= .setVar,n:=(i:Int) }) (show (cO cs a).length+1=(cO cs a++[({ op:= .setVar,n:=(i:Int) }:et)]).length by simp)) ?_
 exact eZ rfl (aj (aC (aY (.inr rfl) rfl (.tmp (rfl:_=AV.ref _ _ _)) (Le.out [((0,8),(189,0))] [] (dh rfl rfl) rfl rfl rfl trivial ob))))
theorem Bp {L:List Nd} {cs:List Cd} (hc:cs.length=L.length) (hk:ld (uu d v no on) L cs) (n:Nat):CoS (uu d v no on) (nd 4 n [] L) (fun a=> cO cs a++[{ op:= .send,n:=(n:Int) }]):=fun a ha=> by
 have hl2:a+(cO cs a).length≤1000000:=by simp only [List.length_append] at ha;omega
 have hq:=dw (d:=d) (v:=v) (no:=no) (on:=on) L cs hc hk a hl2
 refine Spec.ofN Tryz.func91 rfl Tryz.ntmps91 rfl ?_
 refine am (ai (bk (3,0) _ rfl rfl) (ai (bk (4,0) _ rfl rfl) (ai (bH _ (rfl:_=AV.v (.slice _ _ _))) (aj (aq (am (bE rfl rfl rfl (cK rfl rfl rfl (aj (au ?_))))))))))
 refine aq (bR rfl rfl rfl rfl rfl (cd rfl rfl rfl rfl rfl ?_))
 iterate 3 refine bR rfl rfl rfl rfl rfl ?_
 refine aq ?_
 refine aN (σ':=aB 211 [(2,_),(3,_),(4,_),(12,_)] [((3,0),_),((4,0),_)] [] []) kp ?_
 refine cd rfl rfl rfl rfl rfl ?_
 iterate 4 refine bR rfl rfl rfl rfl rfl ?_
 refine ce (aq (am (bE rfl rfl rfl (cK rfl rfl rfl (eG rfl rfl rfl (cL rfl (aR rfl rfl ah ?_)))))))
 refine aR rfl rfl ah ?_
 refine aR rfl rfl ah ?_
 refine ai (aD _ _ _ rfl (rfl:_=AV.v (.bool _))) (aj (aP rfl rfl (aH (aq (aq ?_)))))
 refine aN (σ':=aB 211 [(2,_),(3,_),(4,_)] [((3,0),_),((4,0),_)] [] []) kp ?_
 refine an (bE rfl rfl rfl (cK rfl rfl rfl (eG rfl rfl rfl (cL rfl (aR rfl rfl ah ?_)))))
 refine aR rfl rfl ah ?_
 refine aR rfl rfl ah ?_
 refine ai (aD _ _ _ rfl (rfl:_=AV.v (.bool _))) (aj (aP rfl rfl (aH (am (ai (aS _ aa rfl rfl rfl rfl) (bE rfl rfl rfl (fo rfl rfl rfl (aQ rfl (ai (dm aa [((0,8),(50,0))] ar (hq.toI) trivial tr ae) ?_)))))))))
 refine eZ rfl (aj (aq (am (bE rfl rfl rfl (cK rfl rfl rfl (aj (au (aq ?_))))))))
 refine aN (σ':=aB 211 [(3,_),(4,_),(10,_),(153,_)] [((3,0),_),((4,0),_),((50,0),_)] [] []) kp ?_
 refine cd rfl rfl rfl rfl rfl ?_
 iterate 3 refine bR rfl rfl rfl rfl rfl ?_
 refine eM rfl rfl rfl rfl rfl (am (gD rfl (bE rfl rfl rfl (cK rfl rfl rfl (ai (aA _ aa rfl (by exact (rfl:_=some [_,_]))) ?_)))))
 refine ai (aW _ _ aa rfl ag (by (simp <;> rfl)) ah rfl) ?_
 refine ai (dq (197,0) _ _ aa rfl rfl (bL _).symm (.sl rfl) ab rfl (ew _ { op:= .send,n:=(n:Int) }) (show (cO cs a).length+1=(cO cs a++[({ op:= .send,n:=(n:Int) }:et)]).length by simp)) ?_
 exact eZ rfl (aj (aC (aY (.inr rfl) rfl (.tmp (rfl:_=AV.ref _ _ _)) (Le.out [((0,8),(197,0))] [] (dh rfl rfl) rfl rfl rfl trivial ob))))
theorem wy {L:List Nd} {cs:List Cd} (hc:cs.length=L.length) (hk:ld (uu d v no on) L cs):CoS (uu d v no on) (nd 8 0 [] L) (fun a=> cO cs a++[{ op:= .reply }]):=fun a ha=> by
 have hl2:a+(cO cs a).length≤1000000:=by simp only [List.length_append] at ha;omega
 have hq:=dw (d:=d) (v:=v) (no:=no) (on:=on) L cs hc hk a hl2
 refine Spec.ofN Tryz.func91 rfl Tryz.ntmps91 rfl ?_
 refine am (ai (bk (3,0) _ rfl rfl) (ai (bk (4,0) _ rfl rfl) (ai (bH _ (rfl:_=AV.v (.slice _ _ _))) (aj (aq (am (bE rfl rfl rfl (cK rfl rfl rfl (aj (au ?_))))))))))
 refine aq (bR rfl rfl rfl rfl rfl (cd rfl rfl rfl rfl rfl ?_))
 iterate 3 refine bR rfl rfl rfl rfl rfl ?_
 refine aq ?_
 refine aN (σ':=aB 211 [(2,_),(3,_),(4,_),(12,_)] [((3,0),_),((4,0),_)] [] []) kp ?_
 refine cd rfl rfl rfl rfl rfl ?_
 iterate 4 refine bR rfl rfl rfl rfl rfl ?_
 refine ce (aq (am (bE rfl rfl rfl (cK rfl rfl rfl (eG rfl rfl rfl (cL rfl (aR rfl rfl ah ?_)))))))
 refine aR rfl rfl ah ?_
 refine aR rfl rfl ah ?_
 refine ai (aD _ _ _ rfl (rfl:_=AV.v (.bool _))) (aj (aP rfl rfl (aH (aq (aq ?_)))))
 refine aN (σ':=aB 211 [(2,_),(3,_),(4,_)] [((3,0),_),((4,0),_)] [] []) kp ?_
 refine an (bE rfl rfl rfl (cK rfl rfl rfl (eG rfl rfl rfl (cL rfl (aR rfl rfl ah ?_)))))
 refine aR rfl rfl ah ?_
 refine aR rfl rfl ah ?_
 refine ai (aD _ _ _ rfl (rfl:_=AV.v (.bool _))) (aj (aP rfl rfl (aH (am (ai (aS _ aa rfl rfl rfl rfl) (bE rfl rfl rfl (fo rfl rfl rfl (aQ rfl (ai (dm aa [((0,8),(50,0))] ar (hq.toI) trivial tr ae) ?_)))))))))
 refine eZ rfl (aj (aq (am (bE rfl rfl rfl (cK rfl rfl rfl (aj (au (aq ?_))))))))
 refine aN (σ':=aB 211 [(3,_),(4,_),(10,_),(153,_)] [((3,0),_),((4,0),_),((50,0),_)] [] []) kp ?_
 refine cd rfl rfl rfl rfl rfl ?_
 iterate 4 refine bR rfl rfl rfl rfl rfl ?_
 refine eM rfl rfl rfl rfl rfl (am (gD rfl (ai (aA _ aa rfl (by exact (rfl:_=some [_,_]))) ?_)))
 refine ai (aW _ _ aa rfl ag (by (simp <;> rfl)) ah rfl) ?_
 refine ai (dq (203,0) _ _ aa rfl rfl (bL _).symm (.sl rfl) ab rfl (ew _ { op:= .reply }) (show (cO cs a).length+1=(cO cs a++[({ op:= .reply }:et)]).length by simp)) ?_
 exact eZ rfl (aj (aC (aY (.inr rfl) rfl (.tmp (rfl:_=AV.ref _ _ _)) (Le.out [((0,8),(203,0))] [] (dh rfl rfl) rfl rfl rfl trivial ob))))
theorem Ad {L:List Nd} {cs:List Cd} (hc:cs.length=L.length) (hk:ld (uu d v no on) L cs):CoS (uu d v no on) (nd 9 0 [] L) (fun a=> cO cs a++[{ op:= .fail }]):=fun a ha=> by
 have hl2:a+(cO cs a).length≤1000000:=by simp only [List.length_append] at ha;omega
 have hq:=dw (d:=d) (v:=v) (no:=no) (on:=on) L cs hc hk a hl2
 refine Spec.ofN Tryz.func91 rfl Tryz.ntmps91 rfl ?_
 refine am (ai (bk (3,0) _ rfl rfl) (ai (bk (4,0) _ rfl rfl) (ai (bH _ (rfl:_=AV.v (.slice _ _ _))) (aj (aq (am (bE rfl rfl rfl (cK rfl rfl rfl (aj (au ?_))))))))))
 refine aq (bR rfl rfl rfl rfl rfl (cd rfl rfl rfl rfl rfl ?_))
 iterate 3 refine bR rfl rfl rfl rfl rfl ?_
 refine aq ?_
 refine aN (σ':=aB 211 [(2,_),(3,_),(4,_),(12,_)] [((3,0),_),((4,0),_)] [] []) kp ?_
 refine cd rfl rfl rfl rfl rfl ?_
 iterate 4 refine bR rfl rfl rfl rfl rfl ?_
 refine ce (aq (am (bE rfl rfl rfl (cK rfl rfl rfl (eG rfl rfl rfl (cL rfl (aR rfl rfl ah ?_)))))))
 refine aR rfl rfl ah ?_
 refine aR rfl rfl ah ?_
 refine ai (aD _ _ _ rfl (rfl:_=AV.v (.bool _))) (aj (aP rfl rfl (aH (aq (aq ?_)))))
 refine aN (σ':=aB 211 [(2,_),(3,_),(4,_)] [((3,0),_),((4,0),_)] [] []) kp ?_
 refine an (bE rfl rfl rfl (cK rfl rfl rfl (eG rfl rfl rfl (cL rfl (aR rfl rfl ah ?_)))))
 refine aR rfl rfl ah ?_
 refine aR rfl rfl ah ?_
 refine ai (aD _ _ _ rfl (rfl:_=AV.v (.bool _))) (aj (aP rfl rfl (aH (am (ai (aS _ aa rfl rfl rfl rfl) (bE rfl rfl rfl (fo rfl rfl rfl (aQ rfl (ai (dm aa [((0,8),(50,0))] ar (hq.toI) trivial tr ae) ?_)))))))))
 refine eZ rfl (aj (aq (am (bE rfl rfl rfl (cK rfl rfl rfl (aj (au (aq ?_))))))))
 refine aN (σ':=aB 211 [(3,_),(4,_),(10,_),(153,_)] [((3,0),_),((4,0),_),((50,0),_)] [] []) kp ?_
 refine cd rfl rfl rfl rfl rfl ?_
 iterate 5 refine bR rfl rfl rfl rfl rfl ?_
 refine eM rfl rfl rfl rfl rfl (am (gD rfl (ai (aA _ aa rfl (by exact (rfl:_=some [_,_]))) ?_)))
 refine ai (aW _ _ aa rfl ag (by (simp <;> rfl)) ah rfl) ?_
 refine ai (dq (209,0) _ _ aa rfl rfl (bL _).symm (.sl rfl) ab rfl (ew _ { op:= .fail }) (show (cO cs a).length+1=(cO cs a++[({ op:= .fail }:et)]).length by simp)) ?_
 exact eZ rfl (aj (aC (aY (.inr rfl) rfl (.tmp (rfl:_=AV.ref _ _ _)) (Le.out [((0,8),(209,0))] [] (dh rfl rfl) rfl rfl rfl trivial ob))))
theorem xC {L:List Nd} {cs:List Cd} (hc:cs.length=L.length) (hk:ld (uu d v no on) L cs):CoS (uu d v no on) (nd 11 0 [] L) (fun a=> cO cs a):=fun a ha=> by
 have hl2:a+(cO cs a).length≤1000000:=ha
 have hq:=dw (d:=d) (v:=v) (no:=no) (on:=on) L cs hc hk a hl2
 refine Spec.ofN Tryz.func91 rfl Tryz.ntmps91 rfl ?_
 refine am (ai (bk (3,0) _ rfl rfl) (ai (bk (4,0) _ rfl rfl) (ai (bH _ (rfl:_=AV.v (.slice _ _ _))) (aj (aq (am (bE rfl rfl rfl (cK rfl rfl rfl (aj (au ?_))))))))))
 refine aq (bR rfl rfl rfl rfl rfl (cd rfl rfl rfl rfl rfl ?_))
 iterate 3 refine bR rfl rfl rfl rfl rfl ?_
 refine aq ?_
 refine aN (σ':=aB 211 [(2,_),(3,_),(4,_),(12,_)] [((3,0),_),((4,0),_)] [] []) kp ?_
 refine cd rfl rfl rfl rfl rfl ?_
 iterate 4 refine bR rfl rfl rfl rfl rfl ?_
 refine ce (aq (am (bE rfl rfl rfl (cK rfl rfl rfl (eG rfl rfl rfl (cL rfl (aR rfl rfl ah ?_)))))))
 refine aR rfl rfl ah ?_
 refine aR rfl rfl ah ?_
 refine ai (aD _ _ _ rfl (rfl:_=AV.v (.bool _))) (aj (aP rfl rfl (aH (aq (aq ?_)))))
 refine aN (σ':=aB 211 [(2,_),(3,_),(4,_)] [((3,0),_),((4,0),_)] [] []) kp ?_
 refine an (bE rfl rfl rfl (cK rfl rfl rfl (eG rfl rfl rfl (cL rfl (aR rfl rfl ah ?_)))))
 refine aR rfl rfl ah ?_
 refine aR rfl rfl ah ?_
 refine ai (aD _ _ _ rfl (rfl:_=AV.v (.bool _))) (aj (aP rfl rfl (aH (am (ai (aS _ aa rfl rfl rfl rfl) (bE rfl rfl rfl (fo rfl rfl rfl (aQ rfl (ai (dm aa [((0,8),(50,0))] ar (hq.toI) trivial tr ae) ?_)))))))))
 refine eZ rfl (aj (aq (am (bE rfl rfl rfl (cK rfl rfl rfl (aj (au (aq ?_))))))))
 refine aN (σ':=aB 211 [(3,_),(4,_),(10,_),(153,_)] [((3,0),_),((4,0),_),((50,0),_)] [] []) kp ?_
 refine cd rfl rfl rfl rfl rfl ?_
 iterate 6 refine bR rfl rfl rfl rfl rfl ?_
 exact ce (am (gD rfl (eZ rfl (aj (aC (aY (.inr rfl) rfl (.tmp (rfl:_=AV.ref _ _ _)) (Le.out [((0,8),(50,0))] [] (dh rfl rfl) rfl rfl rfl trivial ob)))))))
theorem DB {L:List Nd} {cs:List Cd} (hc:cs.length=L.length) (hk:ld (uu d v no on) L cs) (o:Bo):CoS (uu d v no on) (nd 18 0 o.txt L) (fun a=> cO cs a++o.code):=fun a ha=> by
 have hol:o.code.length≤2:=by cases o <;> decide
 have hs1:o.txt≠[38,38]:=by cases o <;> decide
 have hs2:o.txt≠[124,124]:=by cases o <;> decide
 have hl2:a+(cO cs a).length≤1000000:=by simp only [List.length_append] at ha;omega
 have hq:=dw (d:=d) (v:=v) (no:=no) (on:=on) L cs hc hk a hl2
 refine Spec.ofN Tryz.func91 rfl Tryz.ntmps91 rfl ?_
 refine am (ai (bk (3,0) _ rfl rfl) (ai (bk (4,0) _ rfl rfl) (ai (bH _ (rfl:_=AV.v (.slice _ _ _))) (aj (aq (am (bE rfl rfl rfl (cK rfl rfl rfl (aj (au ?_))))))))))
 refine aq (bR rfl rfl rfl rfl rfl (cd rfl rfl rfl rfl rfl ?_))
 iterate 3 refine bR rfl rfl rfl rfl rfl ?_
 refine aq ?_
 refine aN (σ':=aB 211 [(2,_),(3,_),(4,_),(12,_)] [((3,0),_),((4,0),_)] [] []) kp ?_
 refine cd rfl rfl rfl rfl rfl ?_
 iterate 4 refine bR rfl rfl rfl rfl rfl ?_
 refine ce (aq (am (bE rfl rfl rfl (cK rfl rfl rfl (iX rfl rfl rfl (cL rfl (ax rfl rfl (aJ _ aa rfl rfl rfl) (ax rfl rfl (aM _ aa rfl rfl (rfl:_=some (AV.v (.string _)))) (ax rfl rfl (aV (r:=false) _ _ Tryz.underlying9 rfl rfl (beq_eq_false_iff_ne.2 hs1)) ?_)))))))))
 refine ai (aD _ _ _ rfl (rfl:_=AV.v (.bool _))) (aj (aP rfl rfl (aH (aq (aq ?_)))))
 refine aN (σ':=aB 211 [(2,_),(3,_),(4,_)] [((3,0),_),((4,0),_)] [] []) kp ?_
 refine an (bE rfl rfl rfl (cK rfl rfl rfl (iX rfl rfl rfl (cL rfl (ax rfl rfl (aJ _ aa rfl rfl rfl) (ax rfl rfl (aM _ aa rfl rfl (rfl:_=some (AV.v (.string _)))) (ax rfl rfl (aV (r:=false) _ _ Tryz.underlying9 rfl rfl (beq_eq_false_iff_ne.2 hs2)) ?_)))))))
 refine ai (aD _ _ _ rfl (rfl:_=AV.v (.bool _))) (aj (aP rfl rfl (aH (am (ai (aS _ aa rfl rfl rfl rfl) (bE rfl rfl rfl (fo rfl rfl rfl (aQ rfl (ai (dm aa [((0,8),(50,0))] ar (hq.toI) trivial tr ae) ?_)))))))))
 refine eZ rfl (aj (aq (am (bE rfl rfl rfl (cK rfl rfl rfl (aj (au (aq ?_))))))))
 refine aN (σ':=aB 211 [(3,_),(4,_),(10,_),(153,_)] [((3,0),_),((4,0),_),((50,0),_)] [] []) kp ?_
 refine oL rfl rfl rfl rfl rfl (am (gD rfl (bE rfl rfl rfl (ai (aM _ aa rfl rfl (rfl:_=some (AV.v (.string _)))) (ai (aK aa al (vO o) rfl rfl) ?_)))))
 refine ai (dq (160,0) _ _ aa rfl rfl (bL _).symm (.sl (bL _)) ab rfl (kv _ _) (show (cO cs a).length+o.code.length=(cO cs a++o.code).length by simp)) ?_
 exact eZ rfl (aj (aC (aY (.inr rfl) rfl (.tmp (rfl:_=AV.ref _ _ _)) (Le.out [((0,8),(160,0))] [] (dh rfl rfl) rfl rfl rfl trivial ob))))
def JO (c y:Cd) (a:Nat):List et:=c a++[{ op:= .unl,n:=((a+(c a).length+(y (a+(c a).length+1)).length+2:Nat):Int) }]++y (a+(c a).length+1)++[{ op:= .jump,n:=(a:Int) }]
theorem wT {c y:Nd} {cc cy:Cd} (hc:CoS (uu d v no on) c cc) (hy:CoS (uu d v no on) y cy):CoS (uu d v no on) (nd 3 0 [] [c,y]) (JO cc cy):=fun a ha=> by
 obtain ⟨b,hb⟩: ∃ b,b=JO cc cy a:=⟨_,rfl⟩
 rw [← hb] at ha ⊢
 unfold JO at hb
 have hbl:=congrArg List.length hb
 simp only [List.length_append,List.length_cons,List.length_nil] at hbl
 have h1:=hc a ab
 generalize cc a=C at h1 hb hbl
 have h2:=hy (a+C.length+1) ab
 generalize cy (a+C.length+1)=Y at h2 hb hbl
 refine Spec.ofN Tryz.func91 rfl Tryz.ntmps91 rfl ?_
 refine am (ai (bk (3,0) _ rfl rfl) (ai (bk (4,0) _ rfl rfl) (ai (bH _ (rfl:_=AV.v (.slice _ _ _))) (aj (aq (am (bE rfl rfl rfl (cK rfl rfl rfl (aj (au ?_))))))))))
 refine aq (bR rfl rfl rfl rfl rfl (cd rfl rfl rfl rfl rfl ?_))
 iterate 3 refine bR rfl rfl rfl rfl rfl ?_
 refine aq ?_
 refine aN (σ':=aB 211 [(2,_),(3,_),(4,_),(12,_)] [((3,0),_),((4,0),_)] [] []) kp ?_
 refine cd rfl rfl rfl rfl rfl ?_
 iterate 3 refine bR rfl rfl rfl rfl rfl ?_
 refine eM rfl rfl rfl rfl rfl (aq ?_)
 refine aN (σ':=aB 211 [(2,_),(3,_),(4,_)] [((3,0),_),((4,0),_)] [] []) kp ?_
 refine bG 6 [73,74,75,76,77,78] [] ae ae rfl (aL rfl) (rfl:_=[_,_,_,_,_,_]) (rfl:_=[_,_]) ?_
 refine ap (_,[]) (fun τ=> aS _ aa rfl rfl rfl rfl) ?_
 refine eK rfl ?_
 refine ap (_,[]) (fun τ=> aJ _ aa rfl rfl rfl) ?_
 refine eJ rfl ?_
 refine ap (_,[]) (fun τ=> aM _ aa rfl rfl (rfl:_=some (AV.sl _ _))) ?_
 refine eI rfl ?_
 refine ap (_,[]) (fun τ=> bf _ _ aa rfl rfl 0 rfl (show 0 < 2 by omega) (Nat.le_of_ble_eq_true rfl) rfl) ?_
 refine eO rfl ?_
 refine ap (_,[]) (fun τ=> cg _ aa rfl (by exact cG [c,y] 0 (by simp)) rfl) ?_
 refine fa rfl ?_
 refine ap (_,[]) (fun τ=> aE _ (rfl:_=AV.v (.int _ _))) ?_
 refine fC rfl (bh ⟨rfl,?_⟩)
 refine ai (dm aa [((0,8),(50,0))] ar (h1.toI) trivial tr ae) ?_
 refine eZ rfl (aj (aG fun K15 hK15=> ?_))
 refine aN (σ':=aB 211 [(2,_),(3,_),(4,_),(7,_)] [((3,0),_),((4,0),_),((50,0),_)] [] []) kp ?_
 refine bG 10 [80,81,82,83,84,85,86,87,88,89] [] ae ae rfl (aL rfl) (rfl:_=[_,_,_,_,_,_,_,_,_,_]) (rfl:_=[_,_]) ?_
 refine ap (_,[]) (fun τ=> aS _ aa rfl rfl rfl rfl) ?_
 refine eK rfl ?_
 refine ap (_,[]) (fun τ=> aJ _ aa rfl rfl rfl) ?_
 refine eJ rfl ?_
 refine ap (_,[]) (fun τ=> aM _ aa rfl rfl (rfl:_=some (AV.sl _ _))) ?_
 refine eI rfl ?_
 refine ap (_,[]) (fun τ=> bf _ _ aa rfl rfl 1 rfl (show 1 < 2 by omega) (Nat.le_of_ble_eq_true rfl) rfl) ?_
 refine eO rfl ?_
 refine ap (_,[]) (fun τ=> cg _ aa rfl (by exact cG [c,y] 1 (by simp)) rfl) ?_
 refine fa rfl ?_
 refine ap (_,[]) (fun τ=> aE _ (rfl:_=AV.v (.int _ _))) ?_
 refine fC rfl ?_
 refine ap (_,[]) (fun τ=> aE _ (rfl:_=AV.ref _ _ _)) ?_
 refine gv rfl ?_
 refine ap (_,[]) (fun τ=> dB _ aa rfl rfl) ?_
 refine jI rfl ?_
 refine ap (_,[]) (fun τ=> bc _ _ rfl rfl (bp ab)) ?_
 refine jQ rfl ?_
 refine ap (_,[]) (fun τ=> bc _ _ rfl rfl (bp ab)) ?_
 refine fW rfl (bh ⟨rfl,?_⟩)
 refine ai (dm aa [((0,8),(51,0))] ar (h2.toI) trivial tr ae) ?_
 refine eZ rfl (az (hK15 _ ?_))
 clear hK15;try clear K15
 refine am (gD rfl (aQ rfl (gD rfl (ai (dB _ aa rfl rfl) (ai (bc _ _ rfl rfl (bp ab)) ?_)))))
 refine gD rfl (ai (dB _ aa rfl rfl) (ai (bc _ _ rfl rfl (bp ab)) ?_))
 refine ai (bc (r:=((a+C.length+Y.length+2:Nat):Int)) _ _ rfl rfl ((bp ab).trans ab)) ?_
 refine ai (aA _ aa rfl (by exact (rfl:_=some [_,_]))) ?_
 refine ai (aW _ _ aa rfl ag (by (simp <;> rfl)) ah rfl) ?_
 refine ai (dq (102,0) _ _ aa rfl rfl (bL _).symm (.sl rfl) ab rfl (ew _ { op:= .unl,n:=((a+C.length+Y.length+2:Nat):Int) }) (show C.length+1=(C++[({ op:= .unl,n:=((a+C.length+Y.length+2:Nat):Int) }:et)]).length by simp)) ?_
 refine eZ rfl (aj (aq ?_))
 refine aN (σ':=aB 211 [(2,_),(8,_),(9,_)] [((51,0),_),((102,0),_)] [] []) kp ?_
 refine an (gD rfl (gD rfl (ai (dq (105,0) _ _ aa rfl rfl (bL _).symm (.ref rfl (lM _) (jR _)) (by simp;omega) rfl (kv _ _) (show (C++[({ op:= .unl,n:=((a+C.length+Y.length+2:Nat):Int) }:et)]).length+Y.length=(C++[({ op:= .unl,n:=((a+C.length+Y.length+2:Nat):Int) }:et)]++Y).length by simp;omega)) ?_)))
 refine eZ rfl (aj (am (gD rfl (aQ rfl (ai (aA _ aa rfl (by exact (rfl:_=some [_,_]))) ?_)))))
 refine ai (aW _ _ aa rfl ag (by (simp <;> rfl)) ah rfl) ?_
 refine ai (dq (110,0) _ _ aa rfl rfl (bL _).symm (.sl rfl) (by simp;omega) rfl ((ew _ { op:= .jump,n:=(a:Int) }).trans (congrArg inl hb.symm)) (show _+1=b.length by simp;omega)) ?_
 exact eZ rfl (aj (aC (aY (.inr rfl) rfl (.tmp (rfl:_=AV.ref _ _ _)) (Le.out [((0,8),(110,0))] [] (dh rfl rfl) rfl rfl rfl trivial ob))))
end

def gg:Ex→Bool
 | .int n=> decide (0≤n) | .bool _=> true | .var _=> true | .name _=> true
 | .draw e=> gg e | .neg e=> gg e | .not e=> gg e
 | .bin _ a b=> gg a && gg b
 | .and a b=> gg a && gg b
 | .or a b=> gg a && gg b
mutual
def oK:Sm→Bool
 | .assign _ e=> gg e
 | .send t _ a b=> gg t && gg a && gg b
 | .timer _=> true | .cancel _=> true | .sync=> true | .stop=> true
 | .reply a b=> gg a && gg b
 | .fail e=> gg e
 | .loop c b=> gg c && mP b
 | .ite c a b=> gg c && mP a && mP b
def mP:Bk→Bool
 | .nil=> true
 | .cons s b=> oK s && mP b
end
section
variable {d v:List Tx} {no:Nat} {on:List PV}
abbrev GZ (d v:List Tx) (no:Nat) (on:List PV) (N:Nd) (c:Cd):Prop:=CoS (uu d v no on) N c
theorem CoS.cong {u:AV} {N:Nd} {c c':Cd} (h:CoS u N c) (e: ∀ a,c a=c' a):CoS u N c':=by
 rw [show c'=c from funext fun a=> (e a).symm];exact h
theorem dO (hn:(d++v).Nodup) (hl:(d++v).length≤1000): ∀ e:Ex,ft (d++v).length e→gg e=true→GZ d v no on (dS (d++v) e) (bl e)
 | .int n,_,hp=> by
  have hp:=of_decide_eq_true hp
  have:=CJ (d:=d) (v:=v) (no:=no) (on:=on) n.toNat
  exact this.cong fun a=> by rw [Int.toNat_of_nonneg hp];rfl
 | .bool b,_,_=> by
  cases b
  ·exact ub 0
  ·exact ub 1
 | .var i,h,_=> CU hn hl i h
 | .name k,h,_=> BA k h
 | .draw e,h,hp=> (zq rfl (vW (dO hn hl e h hp) Ah)).cong fun a=> by simp [bl,cO]
 | .neg e,h,hp=> (Dd rfl (vW (dO hn hl e h hp) Ah)).cong fun a=> by simp [bl,cO]
 | .not e,h,hp=> (Eh rfl (vW (dO hn hl e h hp) Ah)).cong fun a=> by simp [bl,cO]
 | .bin o x y,h,hp=> by
  simp only [gg,Bool.and_eq_true] at hp
  exact (DB rfl (vW (dO hn hl x h.1 hp.1) (vW (dO hn hl y h.2 hp.2) Ah)) o).cong fun a=> by simp [bl,cO]
 | .and x y,h,hp=> by
  simp only [gg,Bool.and_eq_true] at hp
  exact (De (dO hn hl x h.1 hp.1) (dO hn hl y h.2 hp.2)).cong fun a=> rfl
 | .or x y,h,hp=> by
  simp only [gg,Bool.and_eq_true] at hp
  exact (EA (dO hn hl x h.1 hp.1) (dO hn hl y h.2 hp.2)).cong fun a=> rfl
def AC:Bk→List Cd
 | .nil=> []
 | .cons s b=> co s::AC b
theorem tJ (nm:List Tx): ∀ b:Bk,(AC b).length=(fU nm b).length
 | .nil=> by simp [AC,fU]
 | .cons s b=> by simp [AC,fU,tJ nm b]
theorem ut: ∀ (b:Bk) (a:Nat),cO (AC b) a=cW b a
 | .nil,a=> by simp [AC,cO,cW]
 | .cons s b,a=> by simp only [AC,cO,cW,ut b]
theorem lJ {b:Bk} (h:ld (uu d v no on) (fU (d++v) b) (AC b)):GZ d v no on (jy (d++v) b) (cW b):=(xC (tJ _ b) h).cong (ut b)
mutual
theorem zQ (hn:(d++v).Nodup) (hl:(d++v).length≤1000): ∀ s:Sm,eY (d++v).length s→oK s=true→GZ d v no on (nY (d++v) s) (co s)
 | .assign i e,h,hp=> by rw [eY] at h;exact (uV rfl (vW (dO hn hl e h.2 hp) Ah) hn hl i h.1).cong fun a=> by simp [co,cO]
 | .send t k x y,h,hp=> by
  rw [eY] at h
  simp only [oK,Bool.and_eq_true] at hp
  exact (Bp rfl (vW (dO hn hl t h.2.1 hp.1.1) (vW (dO hn hl x h.2.2.1 hp.1.2) (vW (dO hn hl y h.2.2.2 hp.2) Ah))) k).cong fun a=> by simp [co,cO,Nat.add_assoc]
 | .timer k,_,_=> (xo k).cong fun a=> by rw [co]
 | .cancel k,_,_=> (vP k).cong fun a=> by rw [co]
 | .sync,_,_=> co_sync.cong fun a=> by rw [co]
 | .stop,_,_=> co_stop.cong fun a=> by rw [co]
 | .reply x y,h,hp=> by
  rw [eY] at h
  simp only [oK,Bool.and_eq_true] at hp
  exact (wy rfl (vW (dO hn hl x h.1 hp.1) (vW (dO hn hl y h.2 hp.2) Ah))).cong fun a=> by simp [co,cO]
 | .fail e,h,hp=> by rw [eY] at h;exact (Ad rfl (vW (dO hn hl e h hp) Ah)).cong fun a=> by simp [co,cO]
 | .loop c b,h,hp=> by
  rw [eY] at h
  simp only [oK,Bool.and_eq_true] at hp
  exact (wT (dO hn hl c h.1 hp.1) (lJ (lN hn hl b h.2 hp.2))).cong fun a=> by rw [co];rfl
 | .ite c x y,h,hp=> by
  rw [eY] at h
  simp only [oK,Bool.and_eq_true] at hp
  exact (CD (dO hn hl c h.1 hp.1.1) (lJ (lN hn hl x h.2.1 hp.1.2)) (lJ (lN hn hl y h.2.2 hp.2))).cong fun a=> by rw [co];rfl
theorem lN (hn:(d++v).Nodup) (hl:(d++v).length≤1000): ∀ b:Bk,ia (d++v).length b→mP b=true→ld (uu d v no on) (fU (d++v) b) (AC b)
 | .nil,_,_=> Ah
 | .cons s b,h,hp=> by
  rw [ia] at h
  simp only [mP,Bool.and_eq_true] at hp
  exact vW (zQ hn hl s h.1 hp.1) (lN hn hl b h.2 hp.2)
end
theorem zU (hn:(d++v).Nodup) (hl:(d++v).length≤1000) (b:Bk) (h:ia (d++v).length b) (hp:mP b=true):GZ d v no on (jy (d++v) b) (cW b):=lJ (lN hn hl b h hp)
end

abbrev CK (c:AV) (e:Nat→Int) (d v:Int):List AV:=[c, .v (.int .i64 (e 0)), .v (.int .i64 (e 1)), .v (.int .i64 (e 2)), .v (.int .i64 (e 3)), .v (.int .i64 (e 4)), .v (.int .i64 (e 5)), .v (.int .i64 (e 6)), .v (.int .i64 (e 7)), .v (.int .i64 (e 8)), .v (.int .i64 (e 9)), .v (.int .i64 (e 10)), .v (.int .i64 (e 11)), .v (.int .i64 (e 12)), .v (.int .i64 (e 13)), .v (.int .i64 (e 14)), .v (.int .i64 (e 15)), .v (.int .i64 (e 16)), .v (.int .i64 (e 17)), .v (.int .i64 (e 18)), .v (.int .i64 (e 19)), .v (.int .i64 (e 20)), .v (.int .i64 (e 21)), .v (.int .i64 (e 22)), .v (.int .i64 (e 23)), .v (.int .i64 (e 24)), .v (.int .i64 (e 25)), .v (.int .i64 (e 26)), .v (.int .i64 (e 27)), .v (.int .i64 (e 28)), .v (.int .i64 (e 29)), .v (.int .i64 (e 30)), .v (.int .i64 (e 31)), .v (.int .i64 (e 32)), .v (.int .i64 (e 33)), .v (.int .i64 (e 34)), .v (.int .i64 (e 35)), .v (.int .i64 (e 36)), .v (.int .i64 (e 37)), .v (.int .i64 (e 38)), .v (.int .i64 (e 39)), .v (.int .i64 d), .v (.int .i64 v)]
abbrev ym (n:Nat) (xs:List PV) (e:Nat→Int) (d v:Int):List AV:=CK (.sl n xs) e d v
def oQ (e:Nat→Int) (h:Nat) (x:Int):Nat→Int:=fun k=> if k=h then x else e k
theorem qd (c:AV) (e:Nat→Int) (d v:Int) (h:Nat) (hh:h < 40) (x:Int):fj (CK c e d v) (1+h) [.v (.int .i64 x)]=CK c (oQ e h x) d v:=by
 rcases h with _ | _ | _ | _ | _ | _ | _ | _ | _ | _ | _ | _ | _ | _ | _ | _ | _ | _ | _ | _ | _ | _ | _ | _ | _ | _ | _ | _ | _ | _ | _ | _ | _ | _ | _ | _ | _ | _ | _ | _ | h
 all_goals first | rfl | omega
theorem nc (n:Nat) (xs:List PV) (e:Nat→Int) (d v:Int) (h:Nat) (hh:h < 40):(ym n xs e d v)[1+h]? =some (.v (.int .i64 (e h))):=by
 rcases h with _ | _ | _ | _ | _ | _ | _ | _ | _ | _ | _ | _ | _ | _ | _ | _ | _ | _ | _ | _ | _ | _ | _ | _ | _ | _ | _ | _ | _ | _ | _ | _ | _ | _ | _ | _ | _ | _ | _ | _ | h
 all_goals first | rfl | omega
def Cn (l:List Nat):List PV:=l.map fun (x:Nat)=> .v (.int .i64 (x:Int))
@[simp] theorem ed (l:List Nat):(Cn l).length=l.length:=by simp [Cn]
theorem BP (l:List Nat) (k:Nat) (h:k < l.length):(Cn l)[k]? =some (.v (.int .i64 (l.getD k 0:Int))):=by simp [Cn,h]
theorem vw:Spec Tryz.prog 106 (bj [.v (.int .i64 1)] []) (aX (.v (.int .i64 0)) []):=by
 refine Spec.ofN Tryz.func106 rfl Tryz.ntmps106 rfl ?_
 refine am (aZ rfl (aj (aq (am (aQ rfl (aj (au (aq (eM rfl rfl rfl rfl rfl (aH ?_))))))))))
 exact bD rfl rfl (am (aZ rfl (aj (aC (aY (.inr rfl) rfl (.tmp (rfl:_=AV.v _)) (Le.out [] [] .v rfl rfl rfl trivial trivial))))))
theorem yQ:Spec Tryz.prog 106 (bj [.v (.int .i64 2)] []) (aX (.v (.int .i64 0)) []):=by
 refine Spec.ofN Tryz.func106 rfl Tryz.ntmps106 rfl ?_
 refine am (aZ rfl (aj (aq (am (aQ rfl (aj (au (aq (bR rfl rfl rfl rfl rfl (eM rfl rfl rfl rfl rfl ?_))))))))))
 exact aH (bD rfl rfl (am (aZ rfl (aj (aC (aY (.inr rfl) rfl (.tmp (rfl:_=AV.v _)) (Le.out [] [] .v rfl rfl rfl trivial trivial)))))))
theorem sc:Spec Tryz.prog 106 (bj [.v (.int .i64 3)] []) (aX (.v (.int .i64 1)) []):=by
 refine Spec.ofN Tryz.func106 rfl Tryz.ntmps106 rfl ?_
 refine am (aZ rfl (aj (aq (am (aQ rfl (aj (au (aq ?_))))))))
 iterate 7 refine bR rfl rfl rfl rfl rfl ?_
 refine aN (σ':=aB 31 [(3,_)] [] [] []) kp ?_
 refine cd rfl rfl rfl rfl rfl (aq ?_)
 iterate 3 refine bR rfl rfl rfl rfl rfl ?_
 exact eM rfl rfl rfl rfl rfl (aH (bD rfl rfl (am (aZ rfl (aj (aC (aY (.inr rfl) rfl (.tmp (rfl:_=AV.v _)) (Le.out [] [] .v rfl rfl rfl trivial trivial))))))))
theorem vT:Spec Tryz.prog 106 (bj [.v (.int .i64 4)] []) (aX (.v (.int .i64 0)) []):=by
 refine Spec.ofN Tryz.func106 rfl Tryz.ntmps106 rfl ?_
 refine am (aZ rfl (aj (aq (am (aQ rfl (aj (au (aq ?_))))))))
 iterate 2 refine bR rfl rfl rfl rfl rfl ?_
 exact eM rfl rfl rfl rfl rfl (aH (bD rfl rfl (am (aZ rfl (aj (aC (aY (.inr rfl) rfl (.tmp (rfl:_=AV.v _)) (Le.out [] [] .v rfl rfl rfl trivial trivial))))))))
theorem vj:Spec Tryz.prog 106 (bj [.v (.int .i64 5)] []) (aX (.v (.int .i64 1)) []):=by
 refine Spec.ofN Tryz.func106 rfl Tryz.ntmps106 rfl ?_
 refine am (aZ rfl (aj (aq (am (aQ rfl (aj (au (aq ?_))))))))
 iterate 7 refine bR rfl rfl rfl rfl rfl ?_
 refine aN (σ':=aB 31 [(3,_)] [] [] []) kp ?_
 exact cd rfl rfl rfl rfl rfl (aq (eM rfl rfl rfl rfl rfl (aH (bD rfl rfl (am (aZ rfl (aj (aC (aY (.inr rfl) rfl (.tmp (rfl:_=AV.v _)) (Le.out [] [] .v rfl rfl rfl trivial trivial))))))))))
theorem xl:Spec Tryz.prog 106 (bj [.v (.int .i64 6)] []) (aX (.v (.int .i64 2)) []):=by
 refine Spec.ofN Tryz.func106 rfl Tryz.ntmps106 rfl ?_
 refine am (aZ rfl (aj (aq (am (aQ rfl (aj (au (aq ?_))))))))
 iterate 7 refine bR rfl rfl rfl rfl rfl ?_
 refine aN (σ':=aB 31 [(3,_)] [] [] []) kp ?_
 refine cd rfl rfl rfl rfl rfl (aq ?_)
 iterate 5 refine bR rfl rfl rfl rfl rfl ?_
 refine cd rfl rfl rfl rfl rfl (aq (eM rfl rfl rfl rfl rfl (aH (bD rfl rfl (aq ?_)))))
 refine aN (σ':=aB 31 [] [] [] []) kp ?_
 exact an (aZ rfl (aj (aC (aY (.inr rfl) rfl (.tmp (rfl:_=AV.v _)) (Le.out [] [] .v rfl rfl rfl trivial trivial)))))
theorem yB:Spec Tryz.prog 106 (bj [.v (.int .i64 7)] []) (aX (.v (.int .i64 2)) []):=by
 refine Spec.ofN Tryz.func106 rfl Tryz.ntmps106 rfl ?_
 refine am (aZ rfl (aj (aq (am (aQ rfl (aj (au (aq ?_))))))))
 iterate 7 refine bR rfl rfl rfl rfl rfl ?_
 refine aN (σ':=aB 31 [(3,_)] [] [] []) kp ?_
 refine cd rfl rfl rfl rfl rfl (aq ?_)
 iterate 5 refine bR rfl rfl rfl rfl rfl ?_
 refine cd rfl rfl rfl rfl rfl (aq (bR rfl rfl rfl rfl rfl (aq ?_)))
 refine aN (σ':=aB 31 [(3,_)] [] [] []) kp ?_
 exact oL rfl rfl rfl rfl rfl (aH (bD rfl rfl (am (aZ rfl (aj (aC (aY (.inr rfl) rfl (.tmp (rfl:_=AV.v _)) (Le.out [] [] .v rfl rfl rfl trivial trivial))))))))
theorem wH:Spec Tryz.prog 106 (bj [.v (.int .i64 8)] []) (aX (.v (.int .i64 2)) []):=by
 refine Spec.ofN Tryz.func106 rfl Tryz.ntmps106 rfl ?_
 refine am (aZ rfl (aj (aq (am (aQ rfl (aj (au (aq ?_))))))))
 iterate 7 refine bR rfl rfl rfl rfl rfl ?_
 refine aN (σ':=aB 31 [(3,_)] [] [] []) kp ?_
 refine cd rfl rfl rfl rfl rfl (aq ?_)
 iterate 5 refine bR rfl rfl rfl rfl rfl ?_
 refine cd rfl rfl rfl rfl rfl (aq (bR rfl rfl rfl rfl rfl (aq ?_)))
 refine aN (σ':=aB 31 [(3,_)] [] [] []) kp ?_
 exact cd rfl rfl rfl rfl rfl (eM rfl rfl rfl rfl rfl (aH (bD rfl rfl (am (aZ rfl (aj (aC (aY (.inr rfl) rfl (.tmp (rfl:_=AV.v _)) (Le.out [] [] .v rfl rfl rfl trivial trivial)))))))))
theorem yO:Spec Tryz.prog 106 (bj [.v (.int .i64 9)] []) (aX (.v (.int .i64 2)) []):=by
 refine Spec.ofN Tryz.func106 rfl Tryz.ntmps106 rfl ?_
 refine am (aZ rfl (aj (aq (am (aQ rfl (aj (au (aq ?_))))))))
 iterate 7 refine bR rfl rfl rfl rfl rfl ?_
 refine aN (σ':=aB 31 [(3,_)] [] [] []) kp ?_
 refine cd rfl rfl rfl rfl rfl (aq ?_)
 iterate 5 refine bR rfl rfl rfl rfl rfl ?_
 refine cd rfl rfl rfl rfl rfl (aq (bR rfl rfl rfl rfl rfl (aq ?_)))
 refine aN (σ':=aB 31 [(3,_)] [] [] []) kp ?_
 exact cd rfl rfl rfl rfl rfl (bR rfl rfl rfl rfl rfl (eM rfl rfl rfl rfl rfl (aH (bD rfl rfl (am (aZ rfl (aj (aC (aY (.inr rfl) rfl (.tmp (rfl:_=AV.v _)) (Le.out [] [] .v rfl rfl rfl trivial trivial))))))))))
theorem wU:Spec Tryz.prog 106 (bj [.v (.int .i64 10)] []) (aX (.v (.int .i64 1)) []):=by
 refine Spec.ofN Tryz.func106 rfl Tryz.ntmps106 rfl ?_
 refine am (aZ rfl (aj (aq (am (aQ rfl (aj (au (aq ?_))))))))
 iterate 7 refine bR rfl rfl rfl rfl rfl ?_
 refine aN (σ':=aB 31 [(3,_)] [] [] []) kp ?_
 exact cd rfl rfl rfl rfl rfl (aq (bR rfl rfl rfl rfl rfl (eM rfl rfl rfl rfl rfl (aH (bD rfl rfl (am (aZ rfl (aj (aC (aY (.inr rfl) rfl (.tmp (rfl:_=AV.v _)) (Le.out [] [] .v rfl rfl rfl trivial trivial)))))))))))
theorem Ab:Spec Tryz.prog 106 (bj [.v (.int .i64 11)] []) (aX (.v (.int .i64 2)) []):=by
 refine Spec.ofN Tryz.func106 rfl Tryz.ntmps106 rfl ?_
 refine am (aZ rfl (aj (aq (am (aQ rfl (aj (au (aq ?_))))))))
 iterate 7 refine bR rfl rfl rfl rfl rfl ?_
 refine aN (σ':=aB 31 [(3,_)] [] [] []) kp ?_
 refine cd rfl rfl rfl rfl rfl (aq ?_)
 iterate 5 refine bR rfl rfl rfl rfl rfl ?_
 refine cd rfl rfl rfl rfl rfl (aq (bR rfl rfl rfl rfl rfl (aq ?_)))
 refine aN (σ':=aB 31 [(3,_)] [] [] []) kp ?_
 refine cd rfl rfl rfl rfl rfl ?_
 iterate 2 refine bR rfl rfl rfl rfl rfl ?_
 exact eM rfl rfl rfl rfl rfl (aH (bD rfl rfl (am (aZ rfl (aj (aC (aY (.inr rfl) rfl (.tmp (rfl:_=AV.v _)) (Le.out [] [] .v rfl rfl rfl trivial trivial))))))))
theorem Bm:Spec Tryz.prog 106 (bj [.v (.int .i64 12)] []) (aX (.v (.int .i64 2)) []):=by
 refine Spec.ofN Tryz.func106 rfl Tryz.ntmps106 rfl ?_
 refine am (aZ rfl (aj (aq (am (aQ rfl (aj (au (aq ?_))))))))
 iterate 7 refine bR rfl rfl rfl rfl rfl ?_
 refine aN (σ':=aB 31 [(3,_)] [] [] []) kp ?_
 refine cd rfl rfl rfl rfl rfl (aq ?_)
 iterate 5 refine bR rfl rfl rfl rfl rfl ?_
 refine cd rfl rfl rfl rfl rfl (aq (bR rfl rfl rfl rfl rfl (aq ?_)))
 refine aN (σ':=aB 31 [(3,_)] [] [] []) kp ?_
 refine cd rfl rfl rfl rfl rfl ?_
 iterate 3 refine bR rfl rfl rfl rfl rfl ?_
 exact eM rfl rfl rfl rfl rfl (aH (bD rfl rfl (am (aZ rfl (aj (aC (aY (.inr rfl) rfl (.tmp (rfl:_=AV.v _)) (Le.out [] [] .v rfl rfl rfl trivial trivial))))))))
theorem BO:Spec Tryz.prog 106 (bj [.v (.int .i64 13)] []) (aX (.v (.int .i64 2)) []):=by
 refine Spec.ofN Tryz.func106 rfl Tryz.ntmps106 rfl ?_
 refine am (aZ rfl (aj (aq (am (aQ rfl (aj (au (aq ?_))))))))
 iterate 7 refine bR rfl rfl rfl rfl rfl ?_
 refine aN (σ':=aB 31 [(3,_)] [] [] []) kp ?_
 refine cd rfl rfl rfl rfl rfl (aq ?_)
 iterate 5 refine bR rfl rfl rfl rfl rfl ?_
 refine cd rfl rfl rfl rfl rfl (aq (bR rfl rfl rfl rfl rfl (aq ?_)))
 refine aN (σ':=aB 31 [(3,_)] [] [] []) kp ?_
 refine cd rfl rfl rfl rfl rfl ?_
 iterate 4 refine bR rfl rfl rfl rfl rfl ?_
 exact eM rfl rfl rfl rfl rfl (aH (bD rfl rfl (am (aZ rfl (aj (aC (aY (.inr rfl) rfl (.tmp (rfl:_=AV.v _)) (Le.out [] [] .v rfl rfl rfl trivial trivial))))))))
theorem zb:Spec Tryz.prog 106 (bj [.v (.int .i64 14)] []) (aX (.v (.int .i64 1)) []):=by
 refine Spec.ofN Tryz.func106 rfl Tryz.ntmps106 rfl ?_
 refine am (aZ rfl (aj (aq (am (aQ rfl (aj (au (aq ?_))))))))
 iterate 7 refine bR rfl rfl rfl rfl rfl ?_
 refine aN (σ':=aB 31 [(3,_)] [] [] []) kp ?_
 refine cd rfl rfl rfl rfl rfl (aq ?_)
 iterate 2 refine bR rfl rfl rfl rfl rfl ?_
 exact eM rfl rfl rfl rfl rfl (aH (bD rfl rfl (am (aZ rfl (aj (aC (aY (.inr rfl) rfl (.tmp (rfl:_=AV.v _)) (Le.out [] [] .v rfl rfl rfl trivial trivial))))))))
theorem ve:Spec Tryz.prog 106 (bj [.v (.int .i64 15)] []) (aX (.v (.int .i64 0)) []):=by
 refine Spec.ofN Tryz.func106 rfl Tryz.ntmps106 rfl ?_
 refine am (aZ rfl (aj (aq (am (aQ rfl (aj (au (aq ?_))))))))
 iterate 3 refine bR rfl rfl rfl rfl rfl ?_
 exact eM rfl rfl rfl rfl rfl (aH (bD rfl rfl (am (aZ rfl (aj (aC (aY (.inr rfl) rfl (.tmp (rfl:_=AV.v _)) (Le.out [] [] .v rfl rfl rfl trivial trivial))))))))
theorem xn:Spec Tryz.prog 106 (bj [.v (.int .i64 16)] []) (aX (.v (.int .i64 1)) []):=by
 refine Spec.ofN Tryz.func106 rfl Tryz.ntmps106 rfl ?_
 refine am (aZ rfl (aj (aq (am (aQ rfl (aj (au (aq ?_))))))))
 iterate 7 refine bR rfl rfl rfl rfl rfl ?_
 refine aN (σ':=aB 31 [(3,_)] [] [] []) kp ?_
 refine cd rfl rfl rfl rfl rfl (aq ?_)
 iterate 4 refine bR rfl rfl rfl rfl rfl ?_
 exact eM rfl rfl rfl rfl rfl (aH (bD rfl rfl (am (aZ rfl (aj (aC (aY (.inr rfl) rfl (.tmp (rfl:_=AV.v _)) (Le.out [] [] .v rfl rfl rfl trivial trivial))))))))
theorem vh:Spec Tryz.prog 106 (bj [.v (.int .i64 17)] []) (aX (.v (.int .i64 3)) []):=by
 refine Spec.ofN Tryz.func106 rfl Tryz.ntmps106 rfl ?_
 refine am (aZ rfl (aj (aq (am (aQ rfl (aj (au (aq ?_))))))))
 iterate 7 refine bR rfl rfl rfl rfl rfl ?_
 refine aN (σ':=aB 31 [(3,_)] [] [] []) kp ?_
 refine cd rfl rfl rfl rfl rfl (aq ?_)
 iterate 5 refine bR rfl rfl rfl rfl rfl ?_
 refine cd rfl rfl rfl rfl rfl (aq (bR rfl rfl rfl rfl rfl (aq ?_)))
 refine aN (σ':=aB 31 [(3,_)] [] [] []) kp ?_
 refine cd rfl rfl rfl rfl rfl ?_
 iterate 5 refine bR rfl rfl rfl rfl rfl ?_
 refine cd rfl rfl rfl rfl rfl (eM rfl rfl rfl rfl rfl (aq ?_))
 refine aN (σ':=aB 31 [] [] [] []) kp ?_
 exact an (aZ rfl (aj (aC (aY (.inr rfl) rfl (.tmp (rfl:_=AV.v _)) (Le.out [] [] .v rfl rfl rfl trivial trivial)))))
theorem sR:Spec Tryz.prog 106 (bj [.v (.int .i64 18)] []) (aX (.v (.int .i64 0)) []):=by
 refine Spec.ofN Tryz.func106 rfl Tryz.ntmps106 rfl ?_
 refine am (aZ rfl (aj (aq (am (aQ rfl (aj (au (aq ?_))))))))
 iterate 4 refine bR rfl rfl rfl rfl rfl ?_
 exact eM rfl rfl rfl rfl rfl (aH (bD rfl rfl (am (aZ rfl (aj (aC (aY (.inr rfl) rfl (.tmp (rfl:_=AV.v _)) (Le.out [] [] .v rfl rfl rfl trivial trivial))))))))
theorem rz:Spec Tryz.prog 106 (bj [.v (.int .i64 19)] []) (aX (.v (.int .i64 0)) []):=by
 refine Spec.ofN Tryz.func106 rfl Tryz.ntmps106 rfl ?_
 refine am (aZ rfl (aj (aq (am (aQ rfl (aj (au (aq ?_))))))))
 iterate 5 refine bR rfl rfl rfl rfl rfl ?_
 exact eM rfl rfl rfl rfl rfl (aH (bD rfl rfl (am (aZ rfl (aj (aC (aY (.inr rfl) rfl (.tmp (rfl:_=AV.v _)) (Le.out [] [] .v rfl rfl rfl trivial trivial))))))))
theorem uP:Spec Tryz.prog 106 (bj [.v (.int .i64 20)] []) (aX (.v (.int .i64 0)) []):=by
 refine Spec.ofN Tryz.func106 rfl Tryz.ntmps106 rfl ?_
 refine am (aZ rfl (aj (aq (am (aQ rfl (aj (au (aq ?_))))))))
 iterate 6 refine bR rfl rfl rfl rfl rfl ?_
 refine eM rfl rfl rfl rfl rfl (aH (bD rfl rfl (aq ?_)))
 refine aN (σ':=aB 31 [] [] [] []) kp ?_
 exact an (aZ rfl (aj (aC (aY (.inr rfl) rfl (.tmp (rfl:_=AV.v _)) (Le.out [] [] .v rfl rfl rfl trivial trivial)))))
theorem sy:Spec Tryz.prog 106 (bj [.v (.int .i64 21)] []) (aX (.v (.int .i64 2)) []):=by
 refine Spec.ofN Tryz.func106 rfl Tryz.ntmps106 rfl ?_
 refine am (aZ rfl (aj (aq (am (aQ rfl (aj (au (aq ?_))))))))
 iterate 7 refine bR rfl rfl rfl rfl rfl ?_
 refine aN (σ':=aB 31 [(3,_)] [] [] []) kp ?_
 refine cd rfl rfl rfl rfl rfl (aq ?_)
 iterate 5 refine bR rfl rfl rfl rfl rfl ?_
 refine cd rfl rfl rfl rfl rfl (aq (bR rfl rfl rfl rfl rfl (aq ?_)))
 refine aN (σ':=aB 31 [(3,_)] [] [] []) kp ?_
 refine cd rfl rfl rfl rfl rfl ?_
 iterate 5 refine bR rfl rfl rfl rfl rfl ?_
 exact oL rfl rfl rfl rfl rfl (am (aZ rfl (aj (aC (aY (.inr rfl) rfl (.tmp (rfl:_=AV.v _)) (Le.out [] [] .v rfl rfl rfl trivial trivial))))))
theorem wb:Spec Tryz.prog 106 (bj [.v (.int .i64 22)] []) (aX (.v (.int .i64 1)) []):=by
 refine Spec.ofN Tryz.func106 rfl Tryz.ntmps106 rfl ?_
 refine am (aZ rfl (aj (aq (am (aQ rfl (aj (au (aq ?_))))))))
 iterate 7 refine bR rfl rfl rfl rfl rfl ?_
 refine aN (σ':=aB 31 [(3,_)] [] [] []) kp ?_
 refine cd rfl rfl rfl rfl rfl (aq ?_)
 iterate 5 refine bR rfl rfl rfl rfl rfl ?_
 exact oL rfl rfl rfl rfl rfl (am (aZ rfl (aj (aC (aY (.inr rfl) rfl (.tmp (rfl:_=AV.v _)) (Le.out [] [] .v rfl rfl rfl trivial trivial))))))
theorem vp:Spec Tryz.prog 106 (bj [.v (.int .i64 23)] []) (aX (.v (.int .i64 0)) []):=by
 refine Spec.ofN Tryz.func106 rfl Tryz.ntmps106 rfl ?_
 refine am (aZ rfl (aj (aq (am (aQ rfl (aj (au (aq ?_))))))))
 iterate 7 refine bR rfl rfl rfl rfl rfl ?_
 refine aN (σ':=aB 31 [(3,_)] [] [] []) kp ?_
 exact oL rfl rfl rfl rfl rfl (am (aZ rfl (aj (aC (aY (.inr rfl) rfl (.tmp (rfl:_=AV.v _)) (Le.out [] [] .v rfl rfl rfl trivial trivial))))))
theorem pb (o:Opc):Spec Tryz.prog 106 (bj [.v (.int .i64 (o.num:Int))] []) (aX (.v (.int .i64 (o.pops:Int))) []):=by
 cases o
 ·exact vw
 ·exact yQ
 ·exact sc
 ·exact vT
 ·exact vj
 ·exact xl
 ·exact yB
 ·exact wH
 ·exact yO
 ·exact wU
 ·exact Ab
 ·exact Bm
 ·exact BO
 ·exact zb
 ·exact ve
 ·exact xn
 ·exact vh
 ·exact sR
 ·exact rz
 ·exact uP
 ·exact sy
 ·exact wb
 ·exact vp
theorem vD:Spec Tryz.prog 107 (bj [.v (.int .i64 1)] []) (aX (.v (.int .i64 1)) []):=by
 refine Spec.ofN Tryz.func107 rfl Tryz.ntmps107 rfl ?_
 refine am (aZ rfl (aj (aq (am (aQ rfl (aj (au (aq (eM rfl rfl rfl rfl rfl (aH ?_))))))))))
 exact bD rfl rfl (am (aZ rfl (aj (aC (aY (.inr rfl) rfl (.tmp (rfl:_=AV.v _)) (Le.out [] [] .v rfl rfl rfl trivial trivial))))))
theorem wA:Spec Tryz.prog 107 (bj [.v (.int .i64 2)] []) (aX (.v (.int .i64 1)) []):=by
 refine Spec.ofN Tryz.func107 rfl Tryz.ntmps107 rfl ?_
 refine am (aZ rfl (aj (aq (am (aQ rfl (aj (au (aq (bR rfl rfl rfl rfl rfl (eM rfl rfl rfl rfl rfl ?_))))))))))
 exact aH (bD rfl rfl (am (aZ rfl (aj (aC (aY (.inr rfl) rfl (.tmp (rfl:_=AV.v _)) (Le.out [] [] .v rfl rfl rfl trivial trivial)))))))
theorem qR:Spec Tryz.prog 107 (bj [.v (.int .i64 3)] []) (aX (.v (.int .i64 0)) []):=by
 refine Spec.ofN Tryz.func107 rfl Tryz.ntmps107 rfl ?_
 refine am (aZ rfl (aj (aq (am (aQ rfl (aj (au (aq ?_))))))))
 iterate 7 refine bR rfl rfl rfl rfl rfl ?_
 refine aq ?_
 refine aN (σ':=aB 18 [(3,_)] [] [] []) kp ?_
 refine cd rfl rfl rfl rfl rfl ?_
 iterate 4 refine bR rfl rfl rfl rfl rfl ?_
 exact cd rfl rfl rfl rfl rfl (ce (am (aZ rfl (aj (aC (aY (.inr rfl) rfl (.tmp (rfl:_=AV.v _)) (Le.out [] [] .v rfl rfl rfl trivial trivial)))))))
theorem wk:Spec Tryz.prog 107 (bj [.v (.int .i64 4)] []) (aX (.v (.int .i64 1)) []):=by
 refine Spec.ofN Tryz.func107 rfl Tryz.ntmps107 rfl ?_
 refine am (aZ rfl (aj (aq (am (aQ rfl (aj (au (aq ?_))))))))
 iterate 2 refine bR rfl rfl rfl rfl rfl ?_
 exact eM rfl rfl rfl rfl rfl (aH (bD rfl rfl (am (aZ rfl (aj (aC (aY (.inr rfl) rfl (.tmp (rfl:_=AV.v _)) (Le.out [] [] .v rfl rfl rfl trivial trivial))))))))
theorem uQ:Spec Tryz.prog 107 (bj [.v (.int .i64 5)] []) (aX (.v (.int .i64 1)) []):=by
 refine Spec.ofN Tryz.func107 rfl Tryz.ntmps107 rfl ?_
 refine am (aZ rfl (aj (aq (am (aQ rfl (aj (au (aq ?_))))))))
 iterate 3 refine bR rfl rfl rfl rfl rfl ?_
 exact eM rfl rfl rfl rfl rfl (aH (bD rfl rfl (am (aZ rfl (aj (aC (aY (.inr rfl) rfl (.tmp (rfl:_=AV.v _)) (Le.out [] [] .v rfl rfl rfl trivial trivial))))))))
theorem yG:Spec Tryz.prog 107 (bj [.v (.int .i64 6)] []) (aX (.v (.int .i64 1)) []):=by
 refine Spec.ofN Tryz.func107 rfl Tryz.ntmps107 rfl ?_
 refine am (aZ rfl (aj (aq (am (aQ rfl (aj (au (aq ?_))))))))
 iterate 6 refine bR rfl rfl rfl rfl rfl ?_
 refine eM rfl rfl rfl rfl rfl (aH (bD rfl rfl (aq ?_)))
 refine aN (σ':=aB 18 [] [] [] []) kp ?_
 exact an (aZ rfl (aj (aC (aY (.inr rfl) rfl (.tmp (rfl:_=AV.v _)) (Le.out [] [] .v rfl rfl rfl trivial trivial)))))
theorem xG:Spec Tryz.prog 107 (bj [.v (.int .i64 7)] []) (aX (.v (.int .i64 1)) []):=by
 refine Spec.ofN Tryz.func107 rfl Tryz.ntmps107 rfl ?_
 refine am (aZ rfl (aj (aq (am (aQ rfl (aj (au (aq ?_))))))))
 iterate 7 refine bR rfl rfl rfl rfl rfl ?_
 refine aq ?_
 refine aN (σ':=aB 18 [(3,_)] [] [] []) kp ?_
 exact oL rfl rfl rfl rfl rfl (aH (bD rfl rfl (am (aZ rfl (aj (aC (aY (.inr rfl) rfl (.tmp (rfl:_=AV.v _)) (Le.out [] [] .v rfl rfl rfl trivial trivial))))))))
theorem yg:Spec Tryz.prog 107 (bj [.v (.int .i64 8)] []) (aX (.v (.int .i64 1)) []):=by
 refine Spec.ofN Tryz.func107 rfl Tryz.ntmps107 rfl ?_
 refine am (aZ rfl (aj (aq (am (aQ rfl (aj (au (aq ?_))))))))
 iterate 7 refine bR rfl rfl rfl rfl rfl ?_
 refine aq ?_
 refine aN (σ':=aB 18 [(3,_)] [] [] []) kp ?_
 exact cd rfl rfl rfl rfl rfl (eM rfl rfl rfl rfl rfl (aH (bD rfl rfl (am (aZ rfl (aj (aC (aY (.inr rfl) rfl (.tmp (rfl:_=AV.v _)) (Le.out [] [] .v rfl rfl rfl trivial trivial)))))))))
theorem yd:Spec Tryz.prog 107 (bj [.v (.int .i64 9)] []) (aX (.v (.int .i64 1)) []):=by
 refine Spec.ofN Tryz.func107 rfl Tryz.ntmps107 rfl ?_
 refine am (aZ rfl (aj (aq (am (aQ rfl (aj (au (aq ?_))))))))
 iterate 7 refine bR rfl rfl rfl rfl rfl ?_
 refine aq ?_
 refine aN (σ':=aB 18 [(3,_)] [] [] []) kp ?_
 exact cd rfl rfl rfl rfl rfl (bR rfl rfl rfl rfl rfl (eM rfl rfl rfl rfl rfl (aH (bD rfl rfl (am (aZ rfl (aj (aC (aY (.inr rfl) rfl (.tmp (rfl:_=AV.v _)) (Le.out [] [] .v rfl rfl rfl trivial trivial))))))))))
theorem ww:Spec Tryz.prog 107 (bj [.v (.int .i64 10)] []) (aX (.v (.int .i64 1)) []):=by
 refine Spec.ofN Tryz.func107 rfl Tryz.ntmps107 rfl ?_
 refine am (aZ rfl (aj (aq (am (aQ rfl (aj (au (aq ?_))))))))
 iterate 4 refine bR rfl rfl rfl rfl rfl ?_
 exact eM rfl rfl rfl rfl rfl (aH (bD rfl rfl (am (aZ rfl (aj (aC (aY (.inr rfl) rfl (.tmp (rfl:_=AV.v _)) (Le.out [] [] .v rfl rfl rfl trivial trivial))))))))
theorem BJ:Spec Tryz.prog 107 (bj [.v (.int .i64 11)] []) (aX (.v (.int .i64 1)) []):=by
 refine Spec.ofN Tryz.func107 rfl Tryz.ntmps107 rfl ?_
 refine am (aZ rfl (aj (aq (am (aQ rfl (aj (au (aq ?_))))))))
 iterate 7 refine bR rfl rfl rfl rfl rfl ?_
 refine aq ?_
 refine aN (σ':=aB 18 [(3,_)] [] [] []) kp ?_
 refine cd rfl rfl rfl rfl rfl ?_
 iterate 2 refine bR rfl rfl rfl rfl rfl ?_
 exact eM rfl rfl rfl rfl rfl (aH (bD rfl rfl (am (aZ rfl (aj (aC (aY (.inr rfl) rfl (.tmp (rfl:_=AV.v _)) (Le.out [] [] .v rfl rfl rfl trivial trivial))))))))
theorem zr:Spec Tryz.prog 107 (bj [.v (.int .i64 12)] []) (aX (.v (.int .i64 1)) []):=by
 refine Spec.ofN Tryz.func107 rfl Tryz.ntmps107 rfl ?_
 refine am (aZ rfl (aj (aq (am (aQ rfl (aj (au (aq ?_))))))))
 iterate 7 refine bR rfl rfl rfl rfl rfl ?_
 refine aq ?_
 refine aN (σ':=aB 18 [(3,_)] [] [] []) kp ?_
 refine cd rfl rfl rfl rfl rfl ?_
 iterate 3 refine bR rfl rfl rfl rfl rfl ?_
 exact eM rfl rfl rfl rfl rfl (aH (bD rfl rfl (am (aZ rfl (aj (aC (aY (.inr rfl) rfl (.tmp (rfl:_=AV.v _)) (Le.out [] [] .v rfl rfl rfl trivial trivial))))))))
theorem AJ:Spec Tryz.prog 107 (bj [.v (.int .i64 13)] []) (aX (.v (.int .i64 1)) []):=by
 refine Spec.ofN Tryz.func107 rfl Tryz.ntmps107 rfl ?_
 refine am (aZ rfl (aj (aq (am (aQ rfl (aj (au (aq ?_))))))))
 iterate 7 refine bR rfl rfl rfl rfl rfl ?_
 refine aq ?_
 refine aN (σ':=aB 18 [(3,_)] [] [] []) kp ?_
 refine cd rfl rfl rfl rfl rfl ?_
 iterate 4 refine bR rfl rfl rfl rfl rfl ?_
 exact oL rfl rfl rfl rfl rfl (am (aZ rfl (aj (aC (aY (.inr rfl) rfl (.tmp (rfl:_=AV.v _)) (Le.out [] [] .v rfl rfl rfl trivial trivial))))))
theorem wS:Spec Tryz.prog 107 (bj [.v (.int .i64 14)] []) (aX (.v (.int .i64 1)) []):=by
 refine Spec.ofN Tryz.func107 rfl Tryz.ntmps107 rfl ?_
 refine am (aZ rfl (aj (aq (am (aQ rfl (aj (au (aq ?_))))))))
 iterate 5 refine bR rfl rfl rfl rfl rfl ?_
 exact eM rfl rfl rfl rfl rfl (aH (bD rfl rfl (am (aZ rfl (aj (aC (aY (.inr rfl) rfl (.tmp (rfl:_=AV.v _)) (Le.out [] [] .v rfl rfl rfl trivial trivial))))))))
theorem vE:Spec Tryz.prog 107 (bj [.v (.int .i64 15)] []) (aX (.v (.int .i64 0)) []):=by
 refine Spec.ofN Tryz.func107 rfl Tryz.ntmps107 rfl ?_
 refine am (aZ rfl (aj (aq (am (aQ rfl (aj (au (aq ?_))))))))
 iterate 7 refine bR rfl rfl rfl rfl rfl ?_
 refine aq ?_
 refine aN (σ':=aB 18 [(3,_)] [] [] []) kp ?_
 refine cd rfl rfl rfl rfl rfl ?_
 iterate 4 refine bR rfl rfl rfl rfl rfl ?_
 exact cd rfl rfl rfl rfl rfl (ce (am (aZ rfl (aj (aC (aY (.inr rfl) rfl (.tmp (rfl:_=AV.v _)) (Le.out [] [] .v rfl rfl rfl trivial trivial)))))))
theorem xi:Spec Tryz.prog 107 (bj [.v (.int .i64 16)] []) (aX (.v (.int .i64 0)) []):=by
 refine Spec.ofN Tryz.func107 rfl Tryz.ntmps107 rfl ?_
 refine am (aZ rfl (aj (aq (am (aQ rfl (aj (au (aq ?_))))))))
 iterate 7 refine bR rfl rfl rfl rfl rfl ?_
 refine aq ?_
 refine aN (σ':=aB 18 [(3,_)] [] [] []) kp ?_
 refine cd rfl rfl rfl rfl rfl ?_
 iterate 4 refine bR rfl rfl rfl rfl rfl ?_
 exact cd rfl rfl rfl rfl rfl (ce (am (aZ rfl (aj (aC (aY (.inr rfl) rfl (.tmp (rfl:_=AV.v _)) (Le.out [] [] .v rfl rfl rfl trivial trivial)))))))
theorem wg:Spec Tryz.prog 107 (bj [.v (.int .i64 17)] []) (aX (.v (.int .i64 0)) []):=by
 refine Spec.ofN Tryz.func107 rfl Tryz.ntmps107 rfl ?_
 refine am (aZ rfl (aj (aq (am (aQ rfl (aj (au (aq ?_))))))))
 iterate 7 refine bR rfl rfl rfl rfl rfl ?_
 refine aq ?_
 refine aN (σ':=aB 18 [(3,_)] [] [] []) kp ?_
 refine cd rfl rfl rfl rfl rfl ?_
 iterate 4 refine bR rfl rfl rfl rfl rfl ?_
 exact cd rfl rfl rfl rfl rfl (ce (am (aZ rfl (aj (aC (aY (.inr rfl) rfl (.tmp (rfl:_=AV.v _)) (Le.out [] [] .v rfl rfl rfl trivial trivial)))))))
theorem sT:Spec Tryz.prog 107 (bj [.v (.int .i64 18)] []) (aX (.v (.int .i64 0)) []):=by
 refine Spec.ofN Tryz.func107 rfl Tryz.ntmps107 rfl ?_
 refine am (aZ rfl (aj (aq (am (aQ rfl (aj (au (aq ?_))))))))
 iterate 7 refine bR rfl rfl rfl rfl rfl ?_
 refine aq ?_
 refine aN (σ':=aB 18 [(3,_)] [] [] []) kp ?_
 refine cd rfl rfl rfl rfl rfl ?_
 iterate 4 refine bR rfl rfl rfl rfl rfl ?_
 exact cd rfl rfl rfl rfl rfl (ce (am (aZ rfl (aj (aC (aY (.inr rfl) rfl (.tmp (rfl:_=AV.v _)) (Le.out [] [] .v rfl rfl rfl trivial trivial)))))))
theorem rS:Spec Tryz.prog 107 (bj [.v (.int .i64 19)] []) (aX (.v (.int .i64 0)) []):=by
 refine Spec.ofN Tryz.func107 rfl Tryz.ntmps107 rfl ?_
 refine am (aZ rfl (aj (aq (am (aQ rfl (aj (au (aq ?_))))))))
 iterate 7 refine bR rfl rfl rfl rfl rfl ?_
 refine aq ?_
 refine aN (σ':=aB 18 [(3,_)] [] [] []) kp ?_
 refine cd rfl rfl rfl rfl rfl ?_
 iterate 4 refine bR rfl rfl rfl rfl rfl ?_
 exact cd rfl rfl rfl rfl rfl (ce (am (aZ rfl (aj (aC (aY (.inr rfl) rfl (.tmp (rfl:_=AV.v _)) (Le.out [] [] .v rfl rfl rfl trivial trivial)))))))
theorem uO:Spec Tryz.prog 107 (bj [.v (.int .i64 20)] []) (aX (.v (.int .i64 0)) []):=by
 refine Spec.ofN Tryz.func107 rfl Tryz.ntmps107 rfl ?_
 refine am (aZ rfl (aj (aq (am (aQ rfl (aj (au (aq ?_))))))))
 iterate 7 refine bR rfl rfl rfl rfl rfl ?_
 refine aq ?_
 refine aN (σ':=aB 18 [(3,_)] [] [] []) kp ?_
 refine cd rfl rfl rfl rfl rfl ?_
 iterate 4 refine bR rfl rfl rfl rfl rfl ?_
 exact cd rfl rfl rfl rfl rfl (ce (am (aZ rfl (aj (aC (aY (.inr rfl) rfl (.tmp (rfl:_=AV.v _)) (Le.out [] [] .v rfl rfl rfl trivial trivial)))))))
theorem th:Spec Tryz.prog 107 (bj [.v (.int .i64 21)] []) (aX (.v (.int .i64 0)) []):=by
 refine Spec.ofN Tryz.func107 rfl Tryz.ntmps107 rfl ?_
 refine am (aZ rfl (aj (aq (am (aQ rfl (aj (au (aq ?_))))))))
 iterate 7 refine bR rfl rfl rfl rfl rfl ?_
 refine aq ?_
 refine aN (σ':=aB 18 [(3,_)] [] [] []) kp ?_
 refine cd rfl rfl rfl rfl rfl ?_
 iterate 4 refine bR rfl rfl rfl rfl rfl ?_
 exact cd rfl rfl rfl rfl rfl (ce (am (aZ rfl (aj (aC (aY (.inr rfl) rfl (.tmp (rfl:_=AV.v _)) (Le.out [] [] .v rfl rfl rfl trivial trivial)))))))
theorem vQ:Spec Tryz.prog 107 (bj [.v (.int .i64 22)] []) (aX (.v (.int .i64 0)) []):=by
 refine Spec.ofN Tryz.func107 rfl Tryz.ntmps107 rfl ?_
 refine am (aZ rfl (aj (aq (am (aQ rfl (aj (au (aq ?_))))))))
 iterate 7 refine bR rfl rfl rfl rfl rfl ?_
 refine aq ?_
 refine aN (σ':=aB 18 [(3,_)] [] [] []) kp ?_
 refine cd rfl rfl rfl rfl rfl ?_
 iterate 4 refine bR rfl rfl rfl rfl rfl ?_
 exact cd rfl rfl rfl rfl rfl (ce (am (aZ rfl (aj (aC (aY (.inr rfl) rfl (.tmp (rfl:_=AV.v _)) (Le.out [] [] .v rfl rfl rfl trivial trivial)))))))
theorem we:Spec Tryz.prog 107 (bj [.v (.int .i64 23)] []) (aX (.v (.int .i64 0)) []):=by
 refine Spec.ofN Tryz.func107 rfl Tryz.ntmps107 rfl ?_
 refine am (aZ rfl (aj (aq (am (aQ rfl (aj (au (aq ?_))))))))
 iterate 7 refine bR rfl rfl rfl rfl rfl ?_
 refine aq ?_
 refine aN (σ':=aB 18 [(3,_)] [] [] []) kp ?_
 refine cd rfl rfl rfl rfl rfl ?_
 iterate 4 refine bR rfl rfl rfl rfl rfl ?_
 exact cd rfl rfl rfl rfl rfl (ce (am (aZ rfl (aj (aC (aY (.inr rfl) rfl (.tmp (rfl:_=AV.v _)) (Le.out [] [] .v rfl rfl rfl trivial trivial)))))))
theorem oW (o:Opc):Spec Tryz.prog 107 (bj [.v (.int .i64 (o.num:Int))] []) (aX (.v (.int .i64 (o.puts:Int))) []):=by
 cases o
 ·exact vD
 ·exact wA
 ·exact qR
 ·exact wk
 ·exact uQ
 ·exact yG
 ·exact xG
 ·exact yg
 ·exact yd
 ·exact ww
 ·exact BJ
 ·exact zr
 ·exact AJ
 ·exact wS
 ·exact vE
 ·exact xi
 ·exact wg
 ·exact sT
 ·exact rS
 ·exact uO
 ·exact th
 ·exact vQ
 ·exact we
theorem opn_stop {o:Opc}:(o.num:Int)=23↔o= .stop:=by cases o <;> simp [Opc.num]
theorem opn_jump {o:Opc}:(o.num:Int)=15↔o= .jump:=by cases o <;> simp [Opc.num]
theorem opn_unl {o:Opc}:(o.num:Int)=16↔o= .unl:=by cases o <;> simp [Opc.num]
theorem uH (C:List et) (e:Nat→Int) (dd vv:Int) (i:Nat) (hC:C.length≤1000000) (hi:i < C.length) (hn:(cJ C i).op= .jump∨(cJ C i).op= .unl→0≤(cJ C i).n):
  Spec Tryz.prog 73 (bj [.agg (ym C.length (inl C) e dd vv), .v (.int .i64 (i:Int))] []) (aX (.sl (dA i (cJ C i)).length (Cn (dA i (cJ C i)))) []):=by
 obtain ⟨x,hx⟩: ∃ x,x=cJ C i:=⟨_,rfl⟩
 have hg0:=iu C i hi
 have hg1:=xQ C i hi
 rw [← hx] at hn hg0 hg1 ⊢
 clear hx
 obtain ⟨o,n⟩:=x
 simp only at hn hg0 hg1
 refine Spec.ofN Tryz.func73 rfl Tryz.ntmps73 rfl ?_
 refine am (ai (bk (2,0) _ rfl rfl) (ai (bH _ (rfl:_=AV.v (.slice _ _ _))) (aj (aq (am (bE rfl rfl rfl (fo rfl rfl rfl (aQ rfl (ai (bf _ _ aa rfl rfl _ rfl ab (by (simp only [ba,bn,bm,bz,bw,bJ,bA,bL,ed];omega)) ag) ?_)))))))))
 refine ai (cY _ aa rfl rfl) (ai (bC _ aa rfl (by exact hg0) rfl) ?_)
 refine aj (au (am (ai (bP _ _ rfl rfl rfl) (cm rfl (aj (aU rfl (fun hc11=> ?_) (fun hc11=> ?_)))))))
 ·skip
  obtain rfl:=opn_stop.1 hc11
  exact am (ai (bH _ (rfl:_=AV.v (.slice _ _ _))) (aj (aC (aY (.inr rfl) rfl (.tmp (rfl:_=AV.v _)) (Le.out [] [] .nil rfl rfl rfl trivial trivial)))))
 ·skip
  refine am (ai (bP _ _ rfl rfl rfl) (cm rfl (aj (aU rfl (fun hc13=> ?_) (fun hc13=> ?_)))))
  ·skip
   obtain rfl:=opn_jump.1 hc13
   have hn:=hn (.inl rfl)
   refine am (bE rfl rfl rfl (fo rfl rfl rfl (aQ rfl (ai (bf _ _ aa rfl rfl _ rfl ab (by (simp only [ba,bn,bm,bz,bw,bJ,bA,bL,ed];omega)) ag) ?_))))
   refine ai (cY _ aa rfl rfl) (ai (bC _ aa rfl (by exact hg1) rfl) ?_)
   refine ai (aW _ _ aa rfl ag (by (simp <;> rfl)) ah rfl) ?_
   exact lf rfl (aj (aC (aY (.inr rfl) rfl (.tmp (rfl:_=AV.sl _ _)) (Le.out [] [] (iw rfl (by simp [Cn,dA,Int.toNat_of_nonneg hn])) rfl rfl rfl trivial trivial))))
  ·skip
   refine am (ai (bP _ _ rfl rfl rfl) (cm rfl (aj (aU rfl (fun hc22=> ?_) (fun hc22=> ?_)))))
   ·skip
    obtain rfl:=opn_unl.1 hc22
    have hn:=hn (.inr rfl)
    refine am (aQ rfl (ai (bc _ _ rfl rfl (bp ab)) ?_))
    refine bE rfl rfl rfl (fo rfl rfl rfl (aQ rfl (ai (bf _ _ aa rfl rfl _ rfl ab (by (simp only [ba,bn,bm,bz,bw,bJ,bA,bL,ed];omega)) ag) ?_)))
    refine ai (cY _ aa rfl rfl) (ai (bC _ aa rfl (by exact hg1) rfl) ?_)
    refine ai (aW _ _ aa rfl ag (by (simp <;> rfl)) ah rfl) ?_
    exact lf rfl (aj (aC (aY (.inr rfl) rfl (.tmp (rfl:_=AV.sl _ _)) (Le.out [] [] (iw rfl (by simp [Cn,dA,Int.toNat_of_nonneg hn])) rfl rfl rfl trivial trivial))))
   ·skip
    have hs:dA i ⟨o,n⟩=[i+1]:=by
     unfold dA
     have h1:o≠ .stop:=fun e=> hc11 (opn_stop.2 e)
     have h2:o≠ .jump:=fun e=> hc13 (opn_jump.2 e)
     have h3:o≠ .unl:=fun e=> hc22 (opn_unl.2 e)
     cases o <;> first | rfl | exact absurd rfl h1 | exact absurd rfl h2 | exact absurd rfl h3
    refine ce (am (aQ rfl (ai (bc _ _ rfl rfl (bp ab)) ?_)))
    refine ai (aW _ _ aa rfl ag (by (simp <;> rfl)) ah rfl) ?_
    refine lf rfl (aj (aC ?_))
    rw [hs]
    exact aY (.inr rfl) rfl (.tmp (rfl:_=AV.sl _ _)) (Le.out [] [] (iw rfl (by simp [Cn])) rfl rfl rfl trivial trivial)
instance SZ:Arr Tryz.prog 24 40 1:=Arr.of Tryz.underlying24 ae
instance Sd:Arr Tryz.prog 30 9 1:=Arr.of Tryz.underlying30 ae
instance Tr:Arr Tryz.prog 44 2 1:=Arr.of Tryz.underlying44 ae
instance Sr:Arr Tryz.prog 81 41 1:=Arr.of Tryz.underlying81 ae
instance Po:Arr Tryz.prog 173 24 1:=Arr.of Tryz.underlying173 ae
instance NW:Arr Tryz.prog 278 0 1:=Arr.of Tryz.underlying278 ae
end Go.Proofs.YtmjnackchaahbaaGreat
