/- Part 13 of the texts that the walk leans on: the machine, the walks, the plain laws. -/
import Derived.Test.YtmjnackchaahbaaGreatVrZ12
set_option linter.unusedSimpArgs false
set_option linter.unusedVariables false
namespace Go.Proofs.YtmjnackchaahbaaGreat
open Go.RowKit

section
variable {d v:List Tx} {no:Nat} {on:List PV}
theorem DM (n:Nat):CoS (uu d v no on) (nd 12 n [] []) (fun _=> [{ op:= .push,n:=(n:Int) }]):=fun a ha=> by
 refine Spec.ofN Tryz.func91 rfl Tryz.ntmps91 rfl ?_
 refine am (ai (bm (3,0) _ rfl rfl) (ai (bm (4,0) _ rfl rfl) (ai (bJ _ (rfl:_=AV.v (.slice _ _ _))) (aj (aq (am (bz rfl rfl rfl (cI rfl rfl rfl (aj (au ?_))))))))))
 refine aq (eJ rfl rfl rfl rfl rfl (aL (bC rfl rfl (am (bz rfl rfl rfl (cI rfl rfl rfl (ai (aB _ aa rfl (by exact (rfl:_=some [_,_]))) ?_)))))))
 refine ai (kd (19,0) _ _ aa rfl ag (by (simp <;> rfl)) ah rfl rfl) ?_
 exact dY rfl (aj (aE (aX (.inr rfl) rfl (.tmp (rfl:_=AV.ref _ _ _)) (Le.out [((0,8),(19,0))] [] (cq rfl rfl) rfl rfl rfl trivial ob))))
theorem tU (n:Nat):CoS (uu d v no on) (nd 13 n [] []) (fun _=> [{ op:= .push,n:=(n:Int) }]):=fun a ha=> by
 refine Spec.ofN Tryz.func91 rfl Tryz.ntmps91 rfl ?_
 refine am (ai (bm (3,0) _ rfl rfl) (ai (bm (4,0) _ rfl rfl) (ai (bJ _ (rfl:_=AV.v (.slice _ _ _))) (aj (aq (am (bz rfl rfl rfl (cI rfl rfl rfl (aj (au ?_))))))))))
 refine aq (bS rfl rfl rfl rfl rfl (oW rfl rfl rfl rfl rfl (am (bz rfl rfl rfl (cI rfl rfl rfl (ai (aB _ aa rfl (by exact (rfl:_=some [_,_]))) ?_))))))
 refine ai (kd (19,0) _ _ aa rfl ag (by (simp <;> rfl)) ah rfl rfl) ?_
 exact dY rfl (aj (aE (aX (.inr rfl) rfl (.tmp (rfl:_=AV.ref _ _ _)) (Le.out [((0,8),(19,0))] [] (cq rfl rfl) rfl rfl rfl trivial ob))))
theorem Cj (hn:(d++v).Nodup) (hl:(d++v).length≤1000) (i:Nat) (hi:i < (d++v).length):CoS (uu d v no on) (nd 14 0 ((d++v).getD i []) []) (fun _=> [{ op:= .var,n:=(i:Int) }]):=fun a ha=> by
 refine Spec.ofN Tryz.func91 rfl Tryz.ntmps91 rfl ?_
 refine am (ai (bm (3,0) _ rfl rfl) (ai (bm (4,0) _ rfl rfl) (ai (bJ _ (rfl:_=AV.v (.slice _ _ _))) (aj (aq (am (bz rfl rfl rfl (cI rfl rfl rfl (aj (au ?_))))))))))
 refine aq (bS rfl rfl rfl rfl rfl (ck rfl rfl rfl rfl rfl (eJ rfl rfl rfl rfl rfl (am (ai (aR _ aa rfl rfl rfl rfl) (bz rfl rfl rfl (ai (aM _ aa rfl rfl (rfl:_=some (AV.v (.string _)))) (ai (aF aa al (lp d v on no hn hl i hi) rfl rfl) ?_))))))))
 refine ai (aB _ aa rfl (by exact (rfl:_=some [_,_]))) ?_
 refine ai (kd (27,0) _ _ aa rfl ag (by (simp <;> rfl)) ah rfl rfl) ?_
 exact dY rfl (aj (aE (aX (.inr rfl) rfl (.tmp (rfl:_=AV.ref _ _ _)) (Le.out [((0,8),(27,0))] [] (cq rfl rfl) rfl rfl rfl trivial ob))))
theorem zr (k:Nat) (hk:k < 9):CoS (uu d v no on) (nd 15 0 (bltT.getD k []) []) (fun _=> [{ op:= .name,n:=(k:Int) }]):=fun a ha=> by
 refine Spec.ofN Tryz.func91 rfl Tryz.ntmps91 rfl ?_
 refine am (ai (bm (3,0) _ rfl rfl) (ai (bm (4,0) _ rfl rfl) (ai (bJ _ (rfl:_=AV.v (.slice _ _ _))) (aj (aq (am (bz rfl rfl rfl (cI rfl rfl rfl (aj (au ?_))))))))))
 refine aq (bS rfl rfl rfl rfl rfl (ck rfl rfl rfl rfl rfl (bS rfl rfl rfl rfl rfl (eJ rfl rfl rfl rfl rfl (aq ?_)))))
 refine aN (σ':=aA 211 [(4,_)] [((4,0),_)] [] []) kp ?_
 refine bu 6 [30,31,32,33,34,35] [(35,0)] ae ae rfl (aK rfl) (rfl:_=[_,_,_,_,_,_]) (rfl:_=[_]) ?_
 refine ap (_,[]) (fun τ=> (aF aa (by repeat' (exact dR)) (ng) rfl rfl)) ?_
 refine el rfl ?_
 refine ap (_,[]) (fun τ=> aI _ aa rfl rfl rfl) ?_
 refine eo rfl ?_
 refine ap (_,[]) (fun τ=> aM _ aa rfl rfl (rfl:_=some (AV.v (.string _)))) ?_
 refine ep rfl ?_
 refine ap (_,[]) (fun τ=> (aF aa al (uY bltT 9 rfl ab ah k hk) rfl rfl)) ?_
 refine ew rfl ?_
 refine ap (_,[]) (fun τ=> aB _ aa rfl (by exact (rfl:_=some [_,_]))) ?_
 refine eF rfl ?_
 refine ap (_,[((35,0),_)]) (fun τ=> kd (35,0) _ _ aa rfl ag (by (simp <;> rfl)) ah rfl rfl) ?_
 refine eV rfl (bg ⟨rfl,?_⟩)
 exact dY rfl (aj (aE (aX (.inr rfl) rfl (.tmp (rfl:_=AV.ref _ _ _)) (Le.out [((0,8),(35,0))] [] (cq rfl rfl) rfl rfl rfl trivial ob))))
theorem xi (n:Nat):CoS (uu d v no on) (nd 5 n [] []) (fun _=> [{ op:= .timer,n:=(n:Int) }]):=fun a ha=> by
 refine Spec.ofN Tryz.func91 rfl Tryz.ntmps91 rfl ?_
 refine am (ai (bm (3,0) _ rfl rfl) (ai (bm (4,0) _ rfl rfl) (ai (bJ _ (rfl:_=AV.v (.slice _ _ _))) (aj (aq (am (bz rfl rfl rfl (cI rfl rfl rfl (aj (au ?_))))))))))
 refine aq (bS rfl rfl rfl rfl rfl (ck rfl rfl rfl rfl rfl ?_))
 iterate 3 refine bS rfl rfl rfl rfl rfl ?_
 refine aq ?_
 refine aN (σ':=aA 211 [(2,_),(3,_),(4,_),(12,_)] [((3,0),_),((4,0),_)] [] []) kp ?_
 refine oW rfl rfl rfl rfl rfl (am (bz rfl rfl rfl (cI rfl rfl rfl (ai (aB _ aa rfl (by exact (rfl:_=some [_,_]))) ?_))))
 refine ai (kd (56,0) _ _ aa rfl ag (by (simp <;> rfl)) ah rfl rfl) ?_
 exact dY rfl (aj (aE (aX (.inr rfl) rfl (.tmp (rfl:_=AV.ref _ _ _)) (Le.out [((0,8),(56,0))] [] (cq rfl rfl) rfl rfl rfl trivial ob))))
theorem uK (n:Nat):CoS (uu d v no on) (nd 6 n [] []) (fun _=> [{ op:= .cancel,n:=(n:Int) }]):=fun a ha=> by
 refine Spec.ofN Tryz.func91 rfl Tryz.ntmps91 rfl ?_
 refine am (ai (bm (3,0) _ rfl rfl) (ai (bm (4,0) _ rfl rfl) (ai (bJ _ (rfl:_=AV.v (.slice _ _ _))) (aj (aq (am (bz rfl rfl rfl (cI rfl rfl rfl (aj (au ?_))))))))))
 refine aq (bS rfl rfl rfl rfl rfl (ck rfl rfl rfl rfl rfl ?_))
 iterate 3 refine bS rfl rfl rfl rfl rfl ?_
 refine aq ?_
 refine aN (σ':=aA 211 [(2,_),(3,_),(4,_),(12,_)] [((3,0),_),((4,0),_)] [] []) kp ?_
 refine ck rfl rfl rfl rfl rfl (eJ rfl rfl rfl rfl rfl (am (bz rfl rfl rfl (cI rfl rfl rfl (ai (aB _ aa rfl (by exact (rfl:_=some [_,_]))) ?_)))))
 refine ai (kd (62,0) _ _ aa rfl ag (by (simp <;> rfl)) ah rfl rfl) ?_
 exact dY rfl (aj (aE (aX (.inr rfl) rfl (.tmp (rfl:_=AV.ref _ _ _)) (Le.out [((0,8),(62,0))] [] (cq rfl rfl) rfl rfl rfl trivial ob))))
theorem co_sync:CoS (uu d v no on) (nd 7 0 [] []) (fun _=> [{ op:= .sync }]):=fun a ha=> by
 refine Spec.ofN Tryz.func91 rfl Tryz.ntmps91 rfl ?_
 refine am (ai (bm (3,0) _ rfl rfl) (ai (bm (4,0) _ rfl rfl) (ai (bJ _ (rfl:_=AV.v (.slice _ _ _))) (aj (aq (am (bz rfl rfl rfl (cI rfl rfl rfl (aj (au ?_))))))))))
 refine aq (bS rfl rfl rfl rfl rfl (ck rfl rfl rfl rfl rfl ?_))
 iterate 3 refine bS rfl rfl rfl rfl rfl ?_
 refine aq ?_
 refine aN (σ':=aA 211 [(2,_),(3,_),(4,_),(12,_)] [((3,0),_),((4,0),_)] [] []) kp ?_
 refine ck rfl rfl rfl rfl rfl (bS rfl rfl rfl rfl rfl (eJ rfl rfl rfl rfl rfl (am (ai (aB _ aa rfl (by exact (rfl:_=some [_,_]))) ?_))))
 refine ai (kd (66,0) _ _ aa rfl ag (by (simp <;> rfl)) ah rfl rfl) ?_
 exact dY rfl (aj (aE (aX (.inr rfl) rfl (.tmp (rfl:_=AV.ref _ _ _)) (Le.out [((0,8),(66,0))] [] (cq rfl rfl) rfl rfl rfl trivial ob))))
theorem co_stop:CoS (uu d v no on) (nd 10 0 [] []) (fun _=> [{ op:= .stop }]):=fun a ha=> by
 refine Spec.ofN Tryz.func91 rfl Tryz.ntmps91 rfl ?_
 refine am (ai (bm (3,0) _ rfl rfl) (ai (bm (4,0) _ rfl rfl) (ai (bJ _ (rfl:_=AV.v (.slice _ _ _))) (aj (aq (am (bz rfl rfl rfl (cI rfl rfl rfl (aj (au ?_))))))))))
 refine aq (bS rfl rfl rfl rfl rfl (ck rfl rfl rfl rfl rfl ?_))
 iterate 3 refine bS rfl rfl rfl rfl rfl ?_
 refine aq ?_
 refine aN (σ':=aA 211 [(2,_),(3,_),(4,_),(12,_)] [((3,0),_),((4,0),_)] [] []) kp ?_
 refine ck rfl rfl rfl rfl rfl ?_
 iterate 2 refine bS rfl rfl rfl rfl rfl ?_
 refine eJ rfl rfl rfl rfl rfl (am (ai (aB _ aa rfl (by exact (rfl:_=some [_,_]))) ?_))
 refine ai (kd (70,0) _ _ aa rfl ag (by (simp <;> rfl)) ah rfl rfl) ?_
 exact dY rfl (aj (aE (aX (.inr rfl) rfl (.tmp (rfl:_=AV.ref _ _ _)) (Le.out [((0,8),(70,0))] [] (cq rfl rfl) rfl rfl rfl trivial ob))))
theorem DG {c y z:Nd} {cc cy cz:Cd} (hc:CoS (uu d v no on) c cc) (hy:CoS (uu d v no on) y cy) (hz:CoS (uu d v no on) z cz):CoS (uu d v no on) (nd 2 0 [] [c,y,z]) (BY cc cy cz):=fun a ha=> by
 have hb:=jY (on:=on) c cc cy cz hc 1 1 (kR [y]) (kR [z]) 0 (fun a ha=> nl y cy hy 0 a ha) (fun a ha=> nl z cz hz 0 a ha) a ha
 refine Spec.ofN Tryz.func91 rfl Tryz.ntmps91 rfl ?_
 refine am (ai (bm (3,0) _ rfl rfl) (ai (bm (4,0) _ rfl rfl) (ai (bJ _ (rfl:_=AV.v (.slice _ _ _))) (aj (aq (am (bz rfl rfl rfl (cI rfl rfl rfl (aj (au ?_))))))))))
 refine aq (bS rfl rfl rfl rfl rfl (ck rfl rfl rfl rfl rfl ?_))
 iterate 2 refine bS rfl rfl rfl rfl rfl ?_
 refine eJ rfl rfl rfl rfl rfl (aq ?_)
 refine aN (σ':=aA 211 [(2,_),(3,_),(4,_)] [((3,0),_),((4,0),_)] [] []) kp ?_
 refine bu 12 [38,39,40,41,42,43,44,45,46,47,48,49] [] ae ae rfl (aK rfl) (rfl:_=[_,_,_,_,_,_,_,_,_,_,_,_]) (rfl:_=[_,_]) ?_
 refine ap (_,[]) (fun τ=> aR _ aa rfl rfl rfl rfl) ?_
 refine el rfl ?_
 refine ap (_,[]) (fun τ=> aI _ aa rfl rfl rfl) ?_
 refine eo rfl ?_
 refine ap (_,[]) (fun τ=> aM _ aa rfl rfl (rfl:_=some (AV.sl _ _))) ?_
 refine ep rfl ?_
 refine ap (_,[]) (fun τ=> bi _ _ aa rfl rfl 0 rfl (show 0 < 3 by omega) (Nat.le_of_ble_eq_true rfl) rfl) ?_
 refine ew rfl ?_
 refine ap (_,[]) (fun τ=> cp _ aa rfl (by exact cL [c,y,z] 0 (by simp)) rfl) ?_
 refine eF rfl ?_
 refine ap (_,[]) (fun τ=> aI _ aa rfl rfl rfl) ?_
 refine eV rfl ?_
 refine ap (_,[]) (fun τ=> aM _ aa rfl rfl (rfl:_=some (AV.sl _ _))) ?_
 refine fF rfl ?_
 refine ap (_,[]) (fun τ=> jx _ _ _ aa rfl 1 2 (.lit rfl rfl) (.lit rfl rfl) ab (show 2≤3 by omega) (show _=kR [y] from rfl) rfl) ?_
 refine iu rfl ?_
 refine ap (_,[]) (fun τ=> aI _ aa rfl rfl rfl) ?_
 refine ig rfl ?_
 refine ap (_,[]) (fun τ=> aM _ aa rfl rfl (rfl:_=some (AV.sl _ _))) ?_
 refine eO rfl ?_
 refine ap (_,[]) (fun τ=> jx _ _ _ aa rfl 2 3 (.lit rfl rfl) (.lit rfl rfl) ab (show 3≤3 by omega) (show _=kR [z] from rfl) rfl) ?_
 refine fc rfl ?_
 refine ap (_,[]) (fun τ=> aC _ (rfl:_=AV.v (.int _ _))) ?_
 refine gU rfl (bg ⟨rfl,?_⟩)
 refine ai (dw aa [((0,8),(50,0))] ar (hb.toI) trivial tr ae) ?_
 exact dY rfl (aj (aE (aX (.inr rfl) rfl (.tmp (rfl:_=AV.ref _ _ _)) (Le.out [((0,8),(50,0))] [] (cq rfl rfl) rfl rfl rfl trivial ob))))
theorem Dm {c y:Nd} {cc cy:Cd} (hc:CoS (uu d v no on) c cc) (hy:CoS (uu d v no on) y cy):CoS (uu d v no on) (nd 18 0 [38,38] [c,y]) (BY cc cy (fun _=> [{ op:= .push,n:=0 }])):=fun a ha=> by
 have hb:=jY (on:=on) c cc cy (fun _=> [{ op:= .push,n:=0 }]) hc 1 0 (kR [y]) [] 0 (fun a ha=> nl y cy hy 0 a ha) (fun a _=> sh 0 a) a ha
 refine Spec.ofN Tryz.func91 rfl Tryz.ntmps91 rfl ?_
 refine am (ai (bm (3,0) _ rfl rfl) (ai (bm (4,0) _ rfl rfl) (ai (bJ _ (rfl:_=AV.v (.slice _ _ _))) (aj (aq (am (bz rfl rfl rfl (cI rfl rfl rfl (aj (au ?_))))))))))
 refine aq (bS rfl rfl rfl rfl rfl (ck rfl rfl rfl rfl rfl ?_))
 iterate 3 refine bS rfl rfl rfl rfl rfl ?_
 refine aq ?_
 refine aN (σ':=aA 211 [(2,_),(3,_),(4,_),(12,_)] [((3,0),_),((4,0),_)] [] []) kp ?_
 refine ck rfl rfl rfl rfl rfl ?_
 iterate 4 refine bS rfl rfl rfl rfl rfl ?_
 refine cf (aq (am (bz rfl rfl rfl (cI rfl rfl rfl (jq rfl rfl rfl (cM rfl (ay rfl rfl (aI _ aa rfl rfl rfl) (ay rfl rfl (aM _ aa rfl rfl (rfl:_=some (AV.v (.string _)))) (ay rfl rfl (aY (r:=true) _ _ Tryz.underlying9 rfl rfl rfl) (ai (aG _ _ _ rfl (rfl:_=AV.v (.bool _))) ?_))))))))))
 refine aj (bC rfl rfl (aq ?_))
 refine aN (σ':=aA 211 [(2,_),(3,_),(4,_)] [((3,0),_),((4,0),_)] [] []) kp ?_
 refine bu 9 [119,120,121,122,123,124,125,126,127] [] ae ae rfl (aK rfl) (rfl:_=[_,_,_,_,_,_,_,_,_]) (rfl:_=[_,_]) ?_
 refine ap (_,[]) (fun τ=> aR _ aa rfl rfl rfl rfl) ?_
 refine el rfl ?_
 refine ap (_,[]) (fun τ=> aI _ aa rfl rfl rfl) ?_
 refine eo rfl ?_
 refine ap (_,[]) (fun τ=> aM _ aa rfl rfl (rfl:_=some (AV.sl _ _))) ?_
 refine ep rfl ?_
 refine ap (_,[]) (fun τ=> bi _ _ aa rfl rfl 0 rfl (show 0 < 2 by omega) (Nat.le_of_ble_eq_true rfl) rfl) ?_
 refine ew rfl ?_
 refine ap (_,[]) (fun τ=> cp _ aa rfl (by exact cL [c,y] 0 (by simp)) rfl) ?_
 refine eF rfl ?_
 refine ap (_,[]) (fun τ=> aI _ aa rfl rfl rfl) ?_
 refine eV rfl ?_
 refine ap (_,[]) (fun τ=> aM _ aa rfl rfl (rfl:_=some (AV.sl _ _))) ?_
 refine fF rfl ?_
 refine ap (_,[]) (fun τ=> jx _ _ _ aa rfl 1 2 (.lit rfl rfl) (.lit rfl rfl) ab (show 2≤2 by omega) (show _=kR [y] from rfl) rfl) ?_
 refine iu rfl ?_
 refine ap (_,[]) (fun τ=> aC _ (rfl:_=AV.v (.int _ _))) ?_
 refine ig rfl (bg ⟨rfl,?_⟩)
 refine ai (dw aa [((0,8),(50,0))] ar (hb.toI) trivial tr ae) ?_
 exact dY rfl (aj (aE (aX (.inr rfl) rfl (.tmp (rfl:_=AV.ref _ _ _)) (Le.out [((0,8),(50,0))] [] (cq rfl rfl) rfl rfl rfl trivial ob))))
theorem EM {c y:Nd} {cc cy:Cd} (hc:CoS (uu d v no on) c cc) (hy:CoS (uu d v no on) y cy):CoS (uu d v no on) (nd 18 0 [124,124] [c,y]) (BY cc (fun _=> [{ op:= .push,n:=1 }]) cy):=fun a ha=> by
 have hb:=jY (on:=on) c cc (fun _=> [{ op:= .push,n:=1 }]) cy hc 0 1 [] (kR [y]) 1 (fun a _=> sh 1 a) (fun a ha=> nl y cy hy 1 a ha) a ha
 refine Spec.ofN Tryz.func91 rfl Tryz.ntmps91 rfl ?_
 refine am (ai (bm (3,0) _ rfl rfl) (ai (bm (4,0) _ rfl rfl) (ai (bJ _ (rfl:_=AV.v (.slice _ _ _))) (aj (aq (am (bz rfl rfl rfl (cI rfl rfl rfl (aj (au ?_))))))))))
 refine aq (bS rfl rfl rfl rfl rfl (ck rfl rfl rfl rfl rfl ?_))
 iterate 3 refine bS rfl rfl rfl rfl rfl ?_
 refine aq ?_
 refine aN (σ':=aA 211 [(2,_),(3,_),(4,_),(12,_)] [((3,0),_),((4,0),_)] [] []) kp ?_
 refine ck rfl rfl rfl rfl rfl ?_
 iterate 4 refine bS rfl rfl rfl rfl rfl ?_
 refine cf (aq (am (bz rfl rfl rfl (cI rfl rfl rfl (jq rfl rfl rfl (cM rfl (ay rfl rfl (aI _ aa rfl rfl rfl) (ay rfl rfl (aM _ aa rfl rfl (rfl:_=some (AV.v (.string _)))) (ay rfl rfl (aY (r:=false) _ _ Tryz.underlying9 rfl rfl rfl) (ai (aG _ _ _ rfl (rfl:_=AV.v (.bool _))) ?_))))))))))
 refine aj (aS rfl rfl (aL (aq (aq ?_))))
 refine aN (σ':=aA 211 [(2,_),(3,_),(4,_)] [((3,0),_),((4,0),_)] [] []) kp ?_
 refine an (bz rfl rfl rfl (cI rfl rfl rfl (jq rfl rfl rfl (cM rfl (ay rfl rfl (aI _ aa rfl rfl rfl) (ay rfl rfl (aM _ aa rfl rfl (rfl:_=some (AV.v (.string _)))) (ay rfl rfl (aY (r:=true) _ _ Tryz.underlying9 rfl rfl rfl) (ai (aG _ _ _ rfl (rfl:_=AV.v (.bool _))) (aj (bC rfl rfl ?_))))))))))
 refine aq ?_
 refine aN (σ':=aA 211 [(2,_),(3,_),(4,_)] [((3,0),_),((4,0),_)] [] []) kp ?_
 refine bu 9 [137,138,139,140,141,142,143,144,145] [] ae ae rfl (aK rfl) (rfl:_=[_,_,_,_,_,_,_,_,_]) (rfl:_=[_,_]) ?_
 refine ap (_,[]) (fun τ=> aR _ aa rfl rfl rfl rfl) ?_
 refine el rfl ?_
 refine ap (_,[]) (fun τ=> aI _ aa rfl rfl rfl) ?_
 refine eo rfl ?_
 refine ap (_,[]) (fun τ=> aM _ aa rfl rfl (rfl:_=some (AV.sl _ _))) ?_
 refine ep rfl ?_
 refine ap (_,[]) (fun τ=> bi _ _ aa rfl rfl 0 rfl (show 0 < 2 by omega) (Nat.le_of_ble_eq_true rfl) rfl) ?_
 refine ew rfl ?_
 refine ap (_,[]) (fun τ=> cp _ aa rfl (by exact cL [c,y] 0 (by simp)) rfl) ?_
 refine eF rfl ?_
 refine ap (_,[]) (fun τ=> aI _ aa rfl rfl rfl) ?_
 refine eV rfl ?_
 refine ap (_,[]) (fun τ=> aM _ aa rfl rfl (rfl:_=some (AV.sl _ _))) ?_
 refine fF rfl ?_
 refine ap (_,[]) (fun τ=> jx _ _ _ aa rfl 1 2 (.lit rfl rfl) (.lit rfl rfl) ab (show 2≤2 by omega) (show _=kR [y] from rfl) rfl) ?_
 refine iu rfl ?_
 refine ap (_,[]) (fun τ=> aC _ (rfl:_=AV.v (.int _ _))) ?_
 refine ig rfl (bg ⟨rfl,?_⟩)
 refine ai (dw aa [((0,8),(50,0))] ar (hb.toI) trivial tr ae) ?_
 exact dY rfl (aj (aE (aX (.inr rfl) rfl (.tmp (rfl:_=AV.ref _ _ _)) (Le.out [((0,8),(50,0))] [] (cq rfl rfl) rfl rfl rfl trivial ob))))
theorem AJ {L:List Nd} {cs:List Cd} (hc:cs.length=L.length) (hk:ll (uu d v no on) L cs):CoS (uu d v no on) (nd 16 0 [] L) (fun a=> cT cs a++[{ op:= .draw }]):=fun a ha=> by
 have hl2:a+(cT cs a).length≤1000000:=by simp only [List.length_append] at ha;omega
 have hq:=dF (d:=d) (v:=v) (no:=no) (on:=on) L cs hc hk a hl2
 refine Spec.ofN Tryz.func91 rfl Tryz.ntmps91 rfl ?_
 refine am (ai (bm (3,0) _ rfl rfl) (ai (bm (4,0) _ rfl rfl) (ai (bJ _ (rfl:_=AV.v (.slice _ _ _))) (aj (aq (am (bz rfl rfl rfl (cI rfl rfl rfl (aj (au ?_))))))))))
 refine aq (bS rfl rfl rfl rfl rfl (ck rfl rfl rfl rfl rfl ?_))
 iterate 3 refine bS rfl rfl rfl rfl rfl ?_
 refine aq ?_
 refine aN (σ':=aA 211 [(2,_),(3,_),(4,_),(12,_)] [((3,0),_),((4,0),_)] [] []) kp ?_
 refine ck rfl rfl rfl rfl rfl ?_
 iterate 4 refine bS rfl rfl rfl rfl rfl ?_
 refine cf (aq (am (bz rfl rfl rfl (cI rfl rfl rfl (fa rfl rfl rfl (cM rfl (aW rfl rfl ah ?_)))))))
 refine aW rfl rfl ah ?_
 refine aW rfl rfl ah ?_
 refine ai (aG _ _ _ rfl (rfl:_=AV.v (.bool _))) (aj (aS rfl rfl (aL (aq (aq ?_)))))
 refine aN (σ':=aA 211 [(2,_),(3,_),(4,_)] [((3,0),_),((4,0),_)] [] []) kp ?_
 refine an (bz rfl rfl rfl (cI rfl rfl rfl (fa rfl rfl rfl (cM rfl (aW rfl rfl ah ?_)))))
 refine aW rfl rfl ah ?_
 refine aW rfl rfl ah ?_
 refine ai (aG _ _ _ rfl (rfl:_=AV.v (.bool _))) (aj (aS rfl rfl (aL (am (ai (aR _ aa rfl rfl rfl rfl) (bz rfl rfl rfl (fA rfl rfl rfl (aP rfl (ai (dw aa [((0,8),(50,0))] ar (hq.toI) trivial tr ae) ?_)))))))))
 refine dY rfl (aj (aq (am (bz rfl rfl rfl (cI rfl rfl rfl (aj (au (aq ?_))))))))
 refine aN (σ':=aA 211 [(3,_),(4,_),(10,_),(153,_)] [((3,0),_),((4,0),_),((50,0),_)] [] []) kp ?_
 refine ck rfl rfl rfl rfl rfl (eJ rfl rfl rfl rfl rfl (am (ei rfl (ai (aB _ aa rfl (by exact (rfl:_=some [_,_]))) ?_))))
 refine ai (aU _ _ aa rfl ag (by (simp <;> rfl)) ah rfl) ?_
 refine ai (cE (166,0) _ _ aa rfl rfl (bN _).symm (.sl rfl) ab rfl (eR _ { op:= .draw }) (show (cT cs a).length+1=(cT cs a++[({ op:= .draw }:eQ)]).length by simp)) ?_
 exact dY rfl (aj (aE (aX (.inr rfl) rfl (.tmp (rfl:_=AV.ref _ _ _)) (Le.out [((0,8),(166,0))] [] (cq rfl rfl) rfl rfl rfl trivial ob))))
theorem DH {L:List Nd} {cs:List Cd} (hc:cs.length=L.length) (hk:ll (uu d v no on) L cs):CoS (uu d v no on) (nd 17 0 [45] L) (fun a=> cT cs a++[{ op:= .neg }]):=fun a ha=> by
 have hl2:a+(cT cs a).length≤1000000:=by simp only [List.length_append] at ha;omega
 have hq:=dF (d:=d) (v:=v) (no:=no) (on:=on) L cs hc hk a hl2
 refine Spec.ofN Tryz.func91 rfl Tryz.ntmps91 rfl ?_
 refine am (ai (bm (3,0) _ rfl rfl) (ai (bm (4,0) _ rfl rfl) (ai (bJ _ (rfl:_=AV.v (.slice _ _ _))) (aj (aq (am (bz rfl rfl rfl (cI rfl rfl rfl (aj (au ?_))))))))))
 refine aq (bS rfl rfl rfl rfl rfl (ck rfl rfl rfl rfl rfl ?_))
 iterate 3 refine bS rfl rfl rfl rfl rfl ?_
 refine aq ?_
 refine aN (σ':=aA 211 [(2,_),(3,_),(4,_),(12,_)] [((3,0),_),((4,0),_)] [] []) kp ?_
 refine ck rfl rfl rfl rfl rfl ?_
 iterate 4 refine bS rfl rfl rfl rfl rfl ?_
 refine cf (aq (am (bz rfl rfl rfl (cI rfl rfl rfl (fa rfl rfl rfl (cM rfl (aW rfl rfl ah ?_)))))))
 refine aW rfl rfl ah ?_
 refine aW rfl rfl ah ?_
 refine ai (aG _ _ _ rfl (rfl:_=AV.v (.bool _))) (aj (aS rfl rfl (aL (aq (aq ?_)))))
 refine aN (σ':=aA 211 [(2,_),(3,_),(4,_)] [((3,0),_),((4,0),_)] [] []) kp ?_
 refine an (bz rfl rfl rfl (cI rfl rfl rfl (fa rfl rfl rfl (cM rfl (aW rfl rfl ah ?_)))))
 refine aW rfl rfl ah ?_
 refine aW rfl rfl ah ?_
 refine ai (aG _ _ _ rfl (rfl:_=AV.v (.bool _))) (aj (aS rfl rfl (aL (am (ai (aR _ aa rfl rfl rfl rfl) (bz rfl rfl rfl (fA rfl rfl rfl (aP rfl (ai (dw aa [((0,8),(50,0))] ar (hq.toI) trivial tr ae) ?_)))))))))
 refine dY rfl (aj (aq (am (bz rfl rfl rfl (cI rfl rfl rfl (aj (au (aq ?_))))))))
 refine aN (σ':=aA 211 [(3,_),(4,_),(10,_),(153,_)] [((3,0),_),((4,0),_),((50,0),_)] [] []) kp ?_
 refine ck rfl rfl rfl rfl rfl (bS rfl rfl rfl rfl rfl (eJ rfl rfl rfl rfl rfl (aq (am (bz rfl rfl rfl (ai (aM _ aa rfl rfl (rfl:_=some (AV.v (.string _)))) (ai (aY (r:=true) _ _ Tryz.underlying9 rfl rfl rfl) (aj (bC rfl rfl (am ?_))))))))))
 refine ei rfl (ai (aB _ aa rfl (by exact (rfl:_=some [_,_]))) ?_)
 refine ai (aU _ _ aa rfl ag (by (simp <;> rfl)) ah rfl) ?_
 refine ai (cE (175,0) _ _ aa rfl rfl (bN _).symm (.sl rfl) ab rfl (eR _ { op:= .neg }) (show (cT cs a).length+1=(cT cs a++[({ op:= .neg }:eQ)]).length by simp)) ?_
 exact dY rfl (aj (aE (aX (.inr rfl) rfl (.tmp (rfl:_=AV.ref _ _ _)) (Le.out [((0,8),(175,0))] [] (cq rfl rfl) rfl rfl rfl trivial ob))))
theorem CI {L:List Nd} {cs:List Cd} (hc:cs.length=L.length) (hk:ll (uu d v no on) L cs):CoS (uu d v no on) (nd 17 0 [33] L) (fun a=> cT cs a++[{ op:= .not }]):=fun a ha=> by
 have hl2:a+(cT cs a).length≤1000000:=by simp only [List.length_append] at ha;omega
 have hq:=dF (d:=d) (v:=v) (no:=no) (on:=on) L cs hc hk a hl2
 refine Spec.ofN Tryz.func91 rfl Tryz.ntmps91 rfl ?_
 refine am (ai (bm (3,0) _ rfl rfl) (ai (bm (4,0) _ rfl rfl) (ai (bJ _ (rfl:_=AV.v (.slice _ _ _))) (aj (aq (am (bz rfl rfl rfl (cI rfl rfl rfl (aj (au ?_))))))))))
 refine aq (bS rfl rfl rfl rfl rfl (ck rfl rfl rfl rfl rfl ?_))
 iterate 3 refine bS rfl rfl rfl rfl rfl ?_
 refine aq ?_
 refine aN (σ':=aA 211 [(2,_),(3,_),(4,_),(12,_)] [((3,0),_),((4,0),_)] [] []) kp ?_
 refine ck rfl rfl rfl rfl rfl ?_
 iterate 4 refine bS rfl rfl rfl rfl rfl ?_
 refine cf (aq (am (bz rfl rfl rfl (cI rfl rfl rfl (fa rfl rfl rfl (cM rfl (aW rfl rfl ah ?_)))))))
 refine aW rfl rfl ah ?_
 refine aW rfl rfl ah ?_
 refine ai (aG _ _ _ rfl (rfl:_=AV.v (.bool _))) (aj (aS rfl rfl (aL (aq (aq ?_)))))
 refine aN (σ':=aA 211 [(2,_),(3,_),(4,_)] [((3,0),_),((4,0),_)] [] []) kp ?_
 refine an (bz rfl rfl rfl (cI rfl rfl rfl (fa rfl rfl rfl (cM rfl (aW rfl rfl ah ?_)))))
 refine aW rfl rfl ah ?_
 refine aW rfl rfl ah ?_
 refine ai (aG _ _ _ rfl (rfl:_=AV.v (.bool _))) (aj (aS rfl rfl (aL (am (ai (aR _ aa rfl rfl rfl rfl) (bz rfl rfl rfl (fA rfl rfl rfl (aP rfl (ai (dw aa [((0,8),(50,0))] ar (hq.toI) trivial tr ae) ?_)))))))))
 refine dY rfl (aj (aq (am (bz rfl rfl rfl (cI rfl rfl rfl (aj (au (aq ?_))))))))
 refine aN (σ':=aA 211 [(3,_),(4,_),(10,_),(153,_)] [((3,0),_),((4,0),_),((50,0),_)] [] []) kp ?_
 refine ck rfl rfl rfl rfl rfl (bS rfl rfl rfl rfl rfl (eJ rfl rfl rfl rfl rfl (aq (am (bz rfl rfl rfl (ai (aM _ aa rfl rfl (rfl:_=some (AV.v (.string _)))) (ai (aY (r:=false) _ _ Tryz.underlying9 rfl rfl rfl) (aj (aS rfl rfl (aL ?_))))))))))
 refine am (ei rfl (ai (aB _ aa rfl (by exact (rfl:_=some [_,_]))) ?_))
 refine ai (aU _ _ aa rfl ag (by (simp <;> rfl)) ah rfl) ?_
 refine ai (cE (179,0) _ _ aa rfl rfl (bN _).symm (.sl rfl) ab rfl (eR _ { op:= .not }) (show (cT cs a).length+1=(cT cs a++[({ op:= .not }:eQ)]).length by simp)) ?_
 exact dY rfl (aj (aE (aX (.inr rfl) rfl (.tmp (rfl:_=AV.ref _ _ _)) (Le.out [((0,8),(179,0))] [] (cq rfl rfl) rfl rfl rfl trivial ob))))
theorem uP {L:List Nd} {cs:List Cd} (hc:cs.length=L.length) (hk:ll (uu d v no on) L cs) (hn:(d++v).Nodup) (hl:(d++v).length≤1000) (i:Nat) (hi:i < (d++v).length):CoS (uu d v no on) (nd 1 0 ((d++v).getD i []) L) (fun a=> cT cs a++[{ op:= .setVar,n:=(i:Int) }]):=fun a ha=> by
 have hl2:a+(cT cs a).length≤1000000:=by simp only [List.length_append] at ha;omega
 have hq:=dF (d:=d) (v:=v) (no:=no) (on:=on) L cs hc hk a hl2
 refine Spec.ofN Tryz.func91 rfl Tryz.ntmps91 rfl ?_
 refine am (ai (bm (3,0) _ rfl rfl) (ai (bm (4,0) _ rfl rfl) (ai (bJ _ (rfl:_=AV.v (.slice _ _ _))) (aj (aq (am (bz rfl rfl rfl (cI rfl rfl rfl (aj (au ?_))))))))))
 refine aq (bS rfl rfl rfl rfl rfl (ck rfl rfl rfl rfl rfl ?_))
 iterate 3 refine bS rfl rfl rfl rfl rfl ?_
 refine aq ?_
 refine aN (σ':=aA 211 [(2,_),(3,_),(4,_),(12,_)] [((3,0),_),((4,0),_)] [] []) kp ?_
 refine ck rfl rfl rfl rfl rfl ?_
 iterate 4 refine bS rfl rfl rfl rfl rfl ?_
 refine cf (aq (am (bz rfl rfl rfl (cI rfl rfl rfl (fa rfl rfl rfl (cM rfl (aW rfl rfl ah ?_)))))))
 refine aW rfl rfl ah ?_
 refine aW rfl rfl ah ?_
 refine ai (aG _ _ _ rfl (rfl:_=AV.v (.bool _))) (aj (aS rfl rfl (aL (aq (aq ?_)))))
 refine aN (σ':=aA 211 [(2,_),(3,_),(4,_)] [((3,0),_),((4,0),_)] [] []) kp ?_
 refine an (bz rfl rfl rfl (cI rfl rfl rfl (fa rfl rfl rfl (cM rfl (aW rfl rfl ah ?_)))))
 refine aW rfl rfl ah ?_
 refine aW rfl rfl ah ?_
 refine ai (aG _ _ _ rfl (rfl:_=AV.v (.bool _))) (aj (aS rfl rfl (aL (am (ai (aR _ aa rfl rfl rfl rfl) (bz rfl rfl rfl (fA rfl rfl rfl (aP rfl (ai (dw aa [((0,8),(50,0))] ar (hq.toI) trivial tr ae) ?_)))))))))
 refine dY rfl (aj (aq (am (bz rfl rfl rfl (cI rfl rfl rfl (aj (au (aq ?_))))))))
 refine aN (σ':=aA 211 [(3,_),(4,_),(10,_),(153,_)] [((3,0),_),((4,0),_),((50,0),_)] [] []) kp ?_
 refine ck rfl rfl rfl rfl rfl ?_
 iterate 2 refine bS rfl rfl rfl rfl rfl ?_
 refine eJ rfl rfl rfl rfl rfl (am (ei rfl (ai (aR _ aa rfl rfl rfl rfl) (bz rfl rfl rfl (ai (aM _ aa rfl rfl (rfl:_=some (AV.v (.string _)))) (ai (aF aa al (lp d v on no hn hl i hi) rfl rfl) ?_))))))
 refine ai (aB _ aa rfl (by exact (rfl:_=some [_,_]))) ?_
 refine ai (aU _ _ aa rfl ag (by (simp <;> rfl)) ah rfl) ?_
 refine ai (cE (189,0) _ _ aa rfl rfl (bN _).symm (.sl rfl) ab rfl (eR _ { op:= .setVar,n:=(i:Int) }) (show (cT cs a).length+1=(cT cs a++[({ op:= .setVar,n:=(i:Int) }:eQ)]).length by simp)) ?_
 exact dY rfl (aj (aE (aX (.inr rfl) rfl (.tmp (rfl:_=AV.ref _ _ _)) (Le.out [((0,8),(189,0))] [] (cq rfl rfl) rfl rfl rfl trivial ob))))
theorem BD {L:List Nd} {cs:List Cd} (hc:cs.length=L.length) (hk:ll (uu d v no on) L cs) (n:Nat):CoS (uu d v no on) (nd 4 n [] L) (fun a=> cT cs a++[{ op:= .send,n:=(n:Int) }]):=fun a ha=> by
 have hl2:a+(cT cs a).length≤1000000:=by simp only [List.length_append] at ha;omega
 have hq:=dF (d:=d) (v:=v) (no:=no) (on:=on) L cs hc hk a hl2
 refine Spec.ofN Tryz.func91 rfl Tryz.ntmps91 rfl ?_
 refine am (ai (bm (3,0) _ rfl rfl) (ai (bm (4,0) _ rfl rfl) (ai (bJ _ (rfl:_=AV.v (.slice _ _ _))) (aj (aq (am (bz rfl rfl rfl (cI rfl rfl rfl (aj (au ?_))))))))))
 refine aq (bS rfl rfl rfl rfl rfl (ck rfl rfl rfl rfl rfl ?_))
 iterate 3 refine bS rfl rfl rfl rfl rfl ?_
 refine aq ?_
 refine aN (σ':=aA 211 [(2,_),(3,_),(4,_),(12,_)] [((3,0),_),((4,0),_)] [] []) kp ?_
 refine ck rfl rfl rfl rfl rfl ?_
 iterate 4 refine bS rfl rfl rfl rfl rfl ?_
 refine cf (aq (am (bz rfl rfl rfl (cI rfl rfl rfl (fa rfl rfl rfl (cM rfl (aW rfl rfl ah ?_)))))))
 refine aW rfl rfl ah ?_
 refine aW rfl rfl ah ?_
 refine ai (aG _ _ _ rfl (rfl:_=AV.v (.bool _))) (aj (aS rfl rfl (aL (aq (aq ?_)))))
 refine aN (σ':=aA 211 [(2,_),(3,_),(4,_)] [((3,0),_),((4,0),_)] [] []) kp ?_
 refine an (bz rfl rfl rfl (cI rfl rfl rfl (fa rfl rfl rfl (cM rfl (aW rfl rfl ah ?_)))))
 refine aW rfl rfl ah ?_
 refine aW rfl rfl ah ?_
 refine ai (aG _ _ _ rfl (rfl:_=AV.v (.bool _))) (aj (aS rfl rfl (aL (am (ai (aR _ aa rfl rfl rfl rfl) (bz rfl rfl rfl (fA rfl rfl rfl (aP rfl (ai (dw aa [((0,8),(50,0))] ar (hq.toI) trivial tr ae) ?_)))))))))
 refine dY rfl (aj (aq (am (bz rfl rfl rfl (cI rfl rfl rfl (aj (au (aq ?_))))))))
 refine aN (σ':=aA 211 [(3,_),(4,_),(10,_),(153,_)] [((3,0),_),((4,0),_),((50,0),_)] [] []) kp ?_
 refine ck rfl rfl rfl rfl rfl ?_
 iterate 3 refine bS rfl rfl rfl rfl rfl ?_
 refine eJ rfl rfl rfl rfl rfl (am (ei rfl (bz rfl rfl rfl (cI rfl rfl rfl (ai (aB _ aa rfl (by exact (rfl:_=some [_,_]))) ?_)))))
 refine ai (aU _ _ aa rfl ag (by (simp <;> rfl)) ah rfl) ?_
 refine ai (cE (197,0) _ _ aa rfl rfl (bN _).symm (.sl rfl) ab rfl (eR _ { op:= .send,n:=(n:Int) }) (show (cT cs a).length+1=(cT cs a++[({ op:= .send,n:=(n:Int) }:eQ)]).length by simp)) ?_
 exact dY rfl (aj (aE (aX (.inr rfl) rfl (.tmp (rfl:_=AV.ref _ _ _)) (Le.out [((0,8),(197,0))] [] (cq rfl rfl) rfl rfl rfl trivial ob))))
theorem wW {L:List Nd} {cs:List Cd} (hc:cs.length=L.length) (hk:ll (uu d v no on) L cs):CoS (uu d v no on) (nd 8 0 [] L) (fun a=> cT cs a++[{ op:= .reply }]):=fun a ha=> by
 have hl2:a+(cT cs a).length≤1000000:=by simp only [List.length_append] at ha;omega
 have hq:=dF (d:=d) (v:=v) (no:=no) (on:=on) L cs hc hk a hl2
 refine Spec.ofN Tryz.func91 rfl Tryz.ntmps91 rfl ?_
 refine am (ai (bm (3,0) _ rfl rfl) (ai (bm (4,0) _ rfl rfl) (ai (bJ _ (rfl:_=AV.v (.slice _ _ _))) (aj (aq (am (bz rfl rfl rfl (cI rfl rfl rfl (aj (au ?_))))))))))
 refine aq (bS rfl rfl rfl rfl rfl (ck rfl rfl rfl rfl rfl ?_))
 iterate 3 refine bS rfl rfl rfl rfl rfl ?_
 refine aq ?_
 refine aN (σ':=aA 211 [(2,_),(3,_),(4,_),(12,_)] [((3,0),_),((4,0),_)] [] []) kp ?_
 refine ck rfl rfl rfl rfl rfl ?_
 iterate 4 refine bS rfl rfl rfl rfl rfl ?_
 refine cf (aq (am (bz rfl rfl rfl (cI rfl rfl rfl (fa rfl rfl rfl (cM rfl (aW rfl rfl ah ?_)))))))
 refine aW rfl rfl ah ?_
 refine aW rfl rfl ah ?_
 refine ai (aG _ _ _ rfl (rfl:_=AV.v (.bool _))) (aj (aS rfl rfl (aL (aq (aq ?_)))))
 refine aN (σ':=aA 211 [(2,_),(3,_),(4,_)] [((3,0),_),((4,0),_)] [] []) kp ?_
 refine an (bz rfl rfl rfl (cI rfl rfl rfl (fa rfl rfl rfl (cM rfl (aW rfl rfl ah ?_)))))
 refine aW rfl rfl ah ?_
 refine aW rfl rfl ah ?_
 refine ai (aG _ _ _ rfl (rfl:_=AV.v (.bool _))) (aj (aS rfl rfl (aL (am (ai (aR _ aa rfl rfl rfl rfl) (bz rfl rfl rfl (fA rfl rfl rfl (aP rfl (ai (dw aa [((0,8),(50,0))] ar (hq.toI) trivial tr ae) ?_)))))))))
 refine dY rfl (aj (aq (am (bz rfl rfl rfl (cI rfl rfl rfl (aj (au (aq ?_))))))))
 refine aN (σ':=aA 211 [(3,_),(4,_),(10,_),(153,_)] [((3,0),_),((4,0),_),((50,0),_)] [] []) kp ?_
 refine ck rfl rfl rfl rfl rfl ?_
 iterate 4 refine bS rfl rfl rfl rfl rfl ?_
 refine eJ rfl rfl rfl rfl rfl (am (ei rfl (ai (aB _ aa rfl (by exact (rfl:_=some [_,_]))) ?_)))
 refine ai (aU _ _ aa rfl ag (by (simp <;> rfl)) ah rfl) ?_
 refine ai (cE (203,0) _ _ aa rfl rfl (bN _).symm (.sl rfl) ab rfl (eR _ { op:= .reply }) (show (cT cs a).length+1=(cT cs a++[({ op:= .reply }:eQ)]).length by simp)) ?_
 exact dY rfl (aj (aE (aX (.inr rfl) rfl (.tmp (rfl:_=AV.ref _ _ _)) (Le.out [((0,8),(203,0))] [] (cq rfl rfl) rfl rfl rfl trivial ob))))
theorem Bn {L:List Nd} {cs:List Cd} (hc:cs.length=L.length) (hk:ll (uu d v no on) L cs):CoS (uu d v no on) (nd 9 0 [] L) (fun a=> cT cs a++[{ op:= .fail }]):=fun a ha=> by
 have hl2:a+(cT cs a).length≤1000000:=by simp only [List.length_append] at ha;omega
 have hq:=dF (d:=d) (v:=v) (no:=no) (on:=on) L cs hc hk a hl2
 refine Spec.ofN Tryz.func91 rfl Tryz.ntmps91 rfl ?_
 refine am (ai (bm (3,0) _ rfl rfl) (ai (bm (4,0) _ rfl rfl) (ai (bJ _ (rfl:_=AV.v (.slice _ _ _))) (aj (aq (am (bz rfl rfl rfl (cI rfl rfl rfl (aj (au ?_))))))))))
 refine aq (bS rfl rfl rfl rfl rfl (ck rfl rfl rfl rfl rfl ?_))
 iterate 3 refine bS rfl rfl rfl rfl rfl ?_
 refine aq ?_
 refine aN (σ':=aA 211 [(2,_),(3,_),(4,_),(12,_)] [((3,0),_),((4,0),_)] [] []) kp ?_
 refine ck rfl rfl rfl rfl rfl ?_
 iterate 4 refine bS rfl rfl rfl rfl rfl ?_
 refine cf (aq (am (bz rfl rfl rfl (cI rfl rfl rfl (fa rfl rfl rfl (cM rfl (aW rfl rfl ah ?_)))))))
 refine aW rfl rfl ah ?_
 refine aW rfl rfl ah ?_
 refine ai (aG _ _ _ rfl (rfl:_=AV.v (.bool _))) (aj (aS rfl rfl (aL (aq (aq ?_)))))
 refine aN (σ':=aA 211 [(2,_),(3,_),(4,_)] [((3,0),_),((4,0),_)] [] []) kp ?_
 refine an (bz rfl rfl rfl (cI rfl rfl rfl (fa rfl rfl rfl (cM rfl (aW rfl rfl ah ?_)))))
 refine aW rfl rfl ah ?_
 refine aW rfl rfl ah ?_
 refine ai (aG _ _ _ rfl (rfl:_=AV.v (.bool _))) (aj (aS rfl rfl (aL (am (ai (aR _ aa rfl rfl rfl rfl) (bz rfl rfl rfl (fA rfl rfl rfl (aP rfl (ai (dw aa [((0,8),(50,0))] ar (hq.toI) trivial tr ae) ?_)))))))))
 refine dY rfl (aj (aq (am (bz rfl rfl rfl (cI rfl rfl rfl (aj (au (aq ?_))))))))
 refine aN (σ':=aA 211 [(3,_),(4,_),(10,_),(153,_)] [((3,0),_),((4,0),_),((50,0),_)] [] []) kp ?_
 refine ck rfl rfl rfl rfl rfl ?_
 iterate 5 refine bS rfl rfl rfl rfl rfl ?_
 refine eJ rfl rfl rfl rfl rfl (am (ei rfl (ai (aB _ aa rfl (by exact (rfl:_=some [_,_]))) ?_)))
 refine ai (aU _ _ aa rfl ag (by (simp <;> rfl)) ah rfl) ?_
 refine ai (cE (209,0) _ _ aa rfl rfl (bN _).symm (.sl rfl) ab rfl (eR _ { op:= .fail }) (show (cT cs a).length+1=(cT cs a++[({ op:= .fail }:eQ)]).length by simp)) ?_
 exact dY rfl (aj (aE (aX (.inr rfl) rfl (.tmp (rfl:_=AV.ref _ _ _)) (Le.out [((0,8),(209,0))] [] (cq rfl rfl) rfl rfl rfl trivial ob))))
theorem xy {L:List Nd} {cs:List Cd} (hc:cs.length=L.length) (hk:ll (uu d v no on) L cs):CoS (uu d v no on) (nd 11 0 [] L) (fun a=> cT cs a):=fun a ha=> by
 have hl2:a+(cT cs a).length≤1000000:=ha
 have hq:=dF (d:=d) (v:=v) (no:=no) (on:=on) L cs hc hk a hl2
 refine Spec.ofN Tryz.func91 rfl Tryz.ntmps91 rfl ?_
 refine am (ai (bm (3,0) _ rfl rfl) (ai (bm (4,0) _ rfl rfl) (ai (bJ _ (rfl:_=AV.v (.slice _ _ _))) (aj (aq (am (bz rfl rfl rfl (cI rfl rfl rfl (aj (au ?_))))))))))
 refine aq (bS rfl rfl rfl rfl rfl (ck rfl rfl rfl rfl rfl ?_))
 iterate 3 refine bS rfl rfl rfl rfl rfl ?_
 refine aq ?_
 refine aN (σ':=aA 211 [(2,_),(3,_),(4,_),(12,_)] [((3,0),_),((4,0),_)] [] []) kp ?_
 refine ck rfl rfl rfl rfl rfl ?_
 iterate 4 refine bS rfl rfl rfl rfl rfl ?_
 refine cf (aq (am (bz rfl rfl rfl (cI rfl rfl rfl (fa rfl rfl rfl (cM rfl (aW rfl rfl ah ?_)))))))
 refine aW rfl rfl ah ?_
 refine aW rfl rfl ah ?_
 refine ai (aG _ _ _ rfl (rfl:_=AV.v (.bool _))) (aj (aS rfl rfl (aL (aq (aq ?_)))))
 refine aN (σ':=aA 211 [(2,_),(3,_),(4,_)] [((3,0),_),((4,0),_)] [] []) kp ?_
 refine an (bz rfl rfl rfl (cI rfl rfl rfl (fa rfl rfl rfl (cM rfl (aW rfl rfl ah ?_)))))
 refine aW rfl rfl ah ?_
 refine aW rfl rfl ah ?_
 refine ai (aG _ _ _ rfl (rfl:_=AV.v (.bool _))) (aj (aS rfl rfl (aL (am (ai (aR _ aa rfl rfl rfl rfl) (bz rfl rfl rfl (fA rfl rfl rfl (aP rfl (ai (dw aa [((0,8),(50,0))] ar (hq.toI) trivial tr ae) ?_)))))))))
 refine dY rfl (aj (aq (am (bz rfl rfl rfl (cI rfl rfl rfl (aj (au (aq ?_))))))))
 refine aN (σ':=aA 211 [(3,_),(4,_),(10,_),(153,_)] [((3,0),_),((4,0),_),((50,0),_)] [] []) kp ?_
 refine ck rfl rfl rfl rfl rfl ?_
 iterate 6 refine bS rfl rfl rfl rfl rfl ?_
 exact cf (am (ei rfl (dY rfl (aj (aE (aX (.inr rfl) rfl (.tmp (rfl:_=AV.ref _ _ _)) (Le.out [((0,8),(50,0))] [] (cq rfl rfl) rfl rfl rfl trivial ob)))))))
theorem Dv {L:List Nd} {cs:List Cd} (hc:cs.length=L.length) (hk:ll (uu d v no on) L cs) (o:Bo):CoS (uu d v no on) (nd 18 0 o.txt L) (fun a=> cT cs a++o.code):=fun a ha=> by
 have hol:o.code.length≤2:=by cases o <;> decide
 have hs1:o.txt≠[38,38]:=by cases o <;> decide
 have hs2:o.txt≠[124,124]:=by cases o <;> decide
 have hl2:a+(cT cs a).length≤1000000:=by simp only [List.length_append] at ha;omega
 have hq:=dF (d:=d) (v:=v) (no:=no) (on:=on) L cs hc hk a hl2
 refine Spec.ofN Tryz.func91 rfl Tryz.ntmps91 rfl ?_
 refine am (ai (bm (3,0) _ rfl rfl) (ai (bm (4,0) _ rfl rfl) (ai (bJ _ (rfl:_=AV.v (.slice _ _ _))) (aj (aq (am (bz rfl rfl rfl (cI rfl rfl rfl (aj (au ?_))))))))))
 refine aq (bS rfl rfl rfl rfl rfl (ck rfl rfl rfl rfl rfl ?_))
 iterate 3 refine bS rfl rfl rfl rfl rfl ?_
 refine aq ?_
 refine aN (σ':=aA 211 [(2,_),(3,_),(4,_),(12,_)] [((3,0),_),((4,0),_)] [] []) kp ?_
 refine ck rfl rfl rfl rfl rfl ?_
 iterate 4 refine bS rfl rfl rfl rfl rfl ?_
 refine cf (aq (am (bz rfl rfl rfl (cI rfl rfl rfl (jq rfl rfl rfl (cM rfl (ay rfl rfl (aI _ aa rfl rfl rfl) (ay rfl rfl (aM _ aa rfl rfl (rfl:_=some (AV.v (.string _)))) (ay rfl rfl (aY (r:=false) _ _ Tryz.underlying9 rfl rfl (beq_eq_false_iff_ne.2 hs1)) ?_)))))))))
 refine ai (aG _ _ _ rfl (rfl:_=AV.v (.bool _))) (aj (aS rfl rfl (aL (aq (aq ?_)))))
 refine aN (σ':=aA 211 [(2,_),(3,_),(4,_)] [((3,0),_),((4,0),_)] [] []) kp ?_
 refine an (bz rfl rfl rfl (cI rfl rfl rfl (jq rfl rfl rfl (cM rfl (ay rfl rfl (aI _ aa rfl rfl rfl) (ay rfl rfl (aM _ aa rfl rfl (rfl:_=some (AV.v (.string _)))) (ay rfl rfl (aY (r:=false) _ _ Tryz.underlying9 rfl rfl (beq_eq_false_iff_ne.2 hs2)) ?_)))))))
 refine ai (aG _ _ _ rfl (rfl:_=AV.v (.bool _))) (aj (aS rfl rfl (aL (am (ai (aR _ aa rfl rfl rfl rfl) (bz rfl rfl rfl (fA rfl rfl rfl (aP rfl (ai (dw aa [((0,8),(50,0))] ar (hq.toI) trivial tr ae) ?_)))))))))
 refine dY rfl (aj (aq (am (bz rfl rfl rfl (cI rfl rfl rfl (aj (au (aq ?_))))))))
 refine aN (σ':=aA 211 [(3,_),(4,_),(10,_),(153,_)] [((3,0),_),((4,0),_),((50,0),_)] [] []) kp ?_
 refine oW rfl rfl rfl rfl rfl (am (ei rfl (bz rfl rfl rfl (ai (aM _ aa rfl rfl (rfl:_=some (AV.v (.string _)))) (ai (aF aa al (vf o) rfl rfl) ?_)))))
 refine ai (cE (160,0) _ _ aa rfl rfl (bN _).symm (.sl (bN _)) ab rfl (kL _ _) (show (cT cs a).length+o.code.length=(cT cs a++o.code).length by simp)) ?_
 exact dY rfl (aj (aE (aX (.inr rfl) rfl (.tmp (rfl:_=AV.ref _ _ _)) (Le.out [((0,8),(160,0))] [] (cq rfl rfl) rfl rfl rfl trivial ob))))
def GE (c y:Cd) (a:Nat):List eQ:=c a++[{ op:= .unl,n:=((a+(c a).length+(y (a+(c a).length+1)).length+2:Nat):Int) }]++y (a+(c a).length+1)++[{ op:= .jump,n:=(a:Int) }]
theorem xU {c y:Nd} {cc cy:Cd} (hc:CoS (uu d v no on) c cc) (hy:CoS (uu d v no on) y cy):CoS (uu d v no on) (nd 3 0 [] [c,y]) (GE cc cy):=fun a ha=> by
 obtain ⟨b,hb⟩: ∃ b,b=GE cc cy a:=⟨_,rfl⟩
 rw [← hb] at ha ⊢
 unfold GE at hb
 have hbl:=congrArg List.length hb
 simp only [List.length_append,List.length_cons,List.length_nil] at hbl
 have h1:=hc a ab
 generalize cc a=C at h1 hb hbl
 have h2:=hy (a+C.length+1) ab
 generalize cy (a+C.length+1)=Y at h2 hb hbl
 refine Spec.ofN Tryz.func91 rfl Tryz.ntmps91 rfl ?_
 refine am (ai (bm (3,0) _ rfl rfl) (ai (bm (4,0) _ rfl rfl) (ai (bJ _ (rfl:_=AV.v (.slice _ _ _))) (aj (aq (am (bz rfl rfl rfl (cI rfl rfl rfl (aj (au ?_))))))))))
 refine aq (bS rfl rfl rfl rfl rfl (ck rfl rfl rfl rfl rfl ?_))
 iterate 3 refine bS rfl rfl rfl rfl rfl ?_
 refine aq ?_
 refine aN (σ':=aA 211 [(2,_),(3,_),(4,_),(12,_)] [((3,0),_),((4,0),_)] [] []) kp ?_
 refine ck rfl rfl rfl rfl rfl ?_
 iterate 3 refine bS rfl rfl rfl rfl rfl ?_
 refine eJ rfl rfl rfl rfl rfl (aq ?_)
 refine aN (σ':=aA 211 [(2,_),(3,_),(4,_)] [((3,0),_),((4,0),_)] [] []) kp ?_
 refine bu 6 [73,74,75,76,77,78] [] ae ae rfl (aK rfl) (rfl:_=[_,_,_,_,_,_]) (rfl:_=[_,_]) ?_
 refine ap (_,[]) (fun τ=> aR _ aa rfl rfl rfl rfl) ?_
 refine el rfl ?_
 refine ap (_,[]) (fun τ=> aI _ aa rfl rfl rfl) ?_
 refine eo rfl ?_
 refine ap (_,[]) (fun τ=> aM _ aa rfl rfl (rfl:_=some (AV.sl _ _))) ?_
 refine ep rfl ?_
 refine ap (_,[]) (fun τ=> bi _ _ aa rfl rfl 0 rfl (show 0 < 2 by omega) (Nat.le_of_ble_eq_true rfl) rfl) ?_
 refine ew rfl ?_
 refine ap (_,[]) (fun τ=> cp _ aa rfl (by exact cL [c,y] 0 (by simp)) rfl) ?_
 refine eF rfl ?_
 refine ap (_,[]) (fun τ=> aC _ (rfl:_=AV.v (.int _ _))) ?_
 refine eV rfl (bg ⟨rfl,?_⟩)
 refine ai (dw aa [((0,8),(50,0))] ar (h1.toI) trivial tr ae) ?_
 refine dY rfl (aj (aH fun K15 hK15=> ?_))
 refine aN (σ':=aA 211 [(2,_),(3,_),(4,_),(7,_)] [((3,0),_),((4,0),_),((50,0),_)] [] []) kp ?_
 refine bu 10 [80,81,82,83,84,85,86,87,88,89] [] ae ae rfl (aK rfl) (rfl:_=[_,_,_,_,_,_,_,_,_,_]) (rfl:_=[_,_]) ?_
 refine ap (_,[]) (fun τ=> aR _ aa rfl rfl rfl rfl) ?_
 refine el rfl ?_
 refine ap (_,[]) (fun τ=> aI _ aa rfl rfl rfl) ?_
 refine eo rfl ?_
 refine ap (_,[]) (fun τ=> aM _ aa rfl rfl (rfl:_=some (AV.sl _ _))) ?_
 refine ep rfl ?_
 refine ap (_,[]) (fun τ=> bi _ _ aa rfl rfl 1 rfl (show 1 < 2 by omega) (Nat.le_of_ble_eq_true rfl) rfl) ?_
 refine ew rfl ?_
 refine ap (_,[]) (fun τ=> cp _ aa rfl (by exact cL [c,y] 1 (by simp)) rfl) ?_
 refine eF rfl ?_
 refine ap (_,[]) (fun τ=> aC _ (rfl:_=AV.v (.int _ _))) ?_
 refine eV rfl ?_
 refine ap (_,[]) (fun τ=> aC _ (rfl:_=AV.ref _ _ _)) ?_
 refine fF rfl ?_
 refine ap (_,[]) (fun τ=> dv _ aa rfl rfl) ?_
 refine iu rfl ?_
 refine ap (_,[]) (fun τ=> bc _ _ rfl rfl (be ab)) ?_
 refine ig rfl ?_
 refine ap (_,[]) (fun τ=> bc _ _ rfl rfl (be ab)) ?_
 refine eO rfl (bg ⟨rfl,?_⟩)
 refine ai (dw aa [((0,8),(51,0))] ar (h2.toI) trivial tr ae) ?_
 refine dY rfl (ax (hK15 _ ?_))
 clear hK15;try clear K15
 refine am (ei rfl (aP rfl (ei rfl (ai (dv _ aa rfl rfl) (ai (bc _ _ rfl rfl (be ab)) ?_)))))
 refine ei rfl (ai (dv _ aa rfl rfl) (ai (bc _ _ rfl rfl (be ab)) ?_))
 refine ai (bc (r:=((a+C.length+Y.length+2:Nat):Int)) _ _ rfl rfl ((be ab).trans ab)) ?_
 refine ai (aB _ aa rfl (by exact (rfl:_=some [_,_]))) ?_
 refine ai (aU _ _ aa rfl ag (by (simp <;> rfl)) ah rfl) ?_
 refine ai (cE (102,0) _ _ aa rfl rfl (bN _).symm (.sl rfl) ab rfl (eR _ { op:= .unl,n:=((a+C.length+Y.length+2:Nat):Int) }) (show C.length+1=(C++[({ op:= .unl,n:=((a+C.length+Y.length+2:Nat):Int) }:eQ)]).length by simp)) ?_
 refine dY rfl (aj (aq ?_))
 refine aN (σ':=aA 211 [(2,_),(8,_),(9,_)] [((51,0),_),((102,0),_)] [] []) kp ?_
 refine an (ei rfl (ei rfl (ai (cE (105,0) _ _ aa rfl rfl (bN _).symm (.ref rfl (lD _) (kr _)) (by simp;omega) rfl (kL _ _) (show (C++[({ op:= .unl,n:=((a+C.length+Y.length+2:Nat):Int) }:eQ)]).length+Y.length=(C++[({ op:= .unl,n:=((a+C.length+Y.length+2:Nat):Int) }:eQ)]++Y).length by simp;omega)) ?_)))
 refine dY rfl (aj (am (ei rfl (aP rfl (ai (aB _ aa rfl (by exact (rfl:_=some [_,_]))) ?_)))))
 refine ai (aU _ _ aa rfl ag (by (simp <;> rfl)) ah rfl) ?_
 refine ai (cE (110,0) _ _ aa rfl rfl (bN _).symm (.sl rfl) (by simp;omega) rfl ((eR _ { op:= .jump,n:=(a:Int) }).trans (congrArg inl hb.symm)) (show _+1=b.length by simp;omega)) ?_
 exact dY rfl (aj (aE (aX (.inr rfl) rfl (.tmp (rfl:_=AV.ref _ _ _)) (Le.out [((0,8),(110,0))] [] (cq rfl rfl) rfl rfl rfl trivial ob))))
end

def gp:Ex→Bool
 | .int n=> decide (0≤n) | .bool _=> true | .var _=> true | .name _=> true
 | .draw e=> gp e | .neg e=> gp e | .not e=> gp e
 | .bin _ a b=> gp a && gp b
 | .and a b=> gp a && gp b
 | .or a b=> gp a && gp b
mutual
def pa:Sm→Bool
 | .assign _ e=> gp e
 | .send t _ a b=> gp t && gp a && gp b
 | .timer _=> true | .cancel _=> true | .sync=> true | .stop=> true
 | .reply a b=> gp a && gp b
 | .fail e=> gp e
 | .loop c b=> gp c && nj b
 | .ite c a b=> gp c && nj a && nj b
def nj:Bk→Bool
 | .nil=> true
 | .cons s b=> pa s && nj b
end
section
variable {d v:List Tx} {no:Nat} {on:List PV}
abbrev Gq (d v:List Tx) (no:Nat) (on:List PV) (N:Nd) (c:Cd):Prop:=CoS (uu d v no on) N c
theorem CoS.cong {u:AV} {N:Nd} {c c':Cd} (h:CoS u N c) (e: ∀ a,c a=c' a):CoS u N c':=by
 rw [show c'=c from funext fun a=> (e a).symm];exact h
theorem dV (hn:(d++v).Nodup) (hl:(d++v).length≤1000): ∀ e:Ex,fG (d++v).length e→gp e=true→Gq d v no on (dW (d++v) e) (bs e)
 | .int n,_,hp=> by
  have hp:=of_decide_eq_true hp
  have:=DM (d:=d) (v:=v) (no:=no) (on:=on) n.toNat
  exact this.cong fun a=> by rw [Int.toNat_of_nonneg hp];rfl
 | .bool b,_,_=> by
  cases b
  ·exact tU 0
  ·exact tU 1
 | .var i,h,_=> Cj hn hl i h
 | .name k,h,_=> zr k h
 | .draw e,h,hp=> (AJ rfl (uZ (dV hn hl e h hp) zn)).cong fun a=> by simp [bs,cT]
 | .neg e,h,hp=> (DH rfl (uZ (dV hn hl e h hp) zn)).cong fun a=> by simp [bs,cT]
 | .not e,h,hp=> (CI rfl (uZ (dV hn hl e h hp) zn)).cong fun a=> by simp [bs,cT]
 | .bin o x y,h,hp=> by
  simp only [gp,Bool.and_eq_true] at hp
  exact (Dv rfl (uZ (dV hn hl x h.1 hp.1) (uZ (dV hn hl y h.2 hp.2) zn)) o).cong fun a=> by simp [bs,cT]
 | .and x y,h,hp=> by
  simp only [gp,Bool.and_eq_true] at hp
  exact (Dm (dV hn hl x h.1 hp.1) (dV hn hl y h.2 hp.2)).cong fun a=> rfl
 | .or x y,h,hp=> by
  simp only [gp,Bool.and_eq_true] at hp
  exact (EM (dV hn hl x h.1 hp.1) (dV hn hl y h.2 hp.2)).cong fun a=> rfl
def Az:Bk→List Cd
 | .nil=> []
 | .cons s b=> ct s::Az b
theorem uz (nm:List Tx): ∀ b:Bk,(Az b).length=(gi nm b).length
 | .nil=> by simp [Az,gi]
 | .cons s b=> by simp [Az,gi,uz nm b]
theorem uf: ∀ (b:Bk) (a:Nat),cT (Az b) a=de b a
 | .nil,a=> by simp [Az,cT,de]
 | .cons s b,a=> by simp only [Az,cT,de,uf b]
theorem mr {b:Bk} (h:ll (uu d v no on) (gi (d++v) b) (Az b)):Gq d v no on (jP (d++v) b) (de b):=(xy (uz _ b) h).cong (uf b)
mutual
theorem AR (hn:(d++v).Nodup) (hl:(d++v).length≤1000): ∀ s:Sm,ft (d++v).length s→pa s=true→Gq d v no on (oC (d++v) s) (ct s)
 | .assign i e,h,hp=> by rw [ft] at h;exact (uP rfl (uZ (dV hn hl e h.2 hp) zn) hn hl i h.1).cong fun a=> by simp [ct,cT]
 | .send t k x y,h,hp=> by
  rw [ft] at h
  simp only [pa,Bool.and_eq_true] at hp
  exact (BD rfl (uZ (dV hn hl t h.2.1 hp.1.1) (uZ (dV hn hl x h.2.2.1 hp.1.2) (uZ (dV hn hl y h.2.2.2 hp.2) zn))) k).cong fun a=> by simp [ct,cT,Nat.add_assoc]
 | .timer k,_,_=> (xi k).cong fun a=> by rw [ct]
 | .cancel k,_,_=> (uK k).cong fun a=> by rw [ct]
 | .sync,_,_=> co_sync.cong fun a=> by rw [ct]
 | .stop,_,_=> co_stop.cong fun a=> by rw [ct]
 | .reply x y,h,hp=> by
  rw [ft] at h
  simp only [pa,Bool.and_eq_true] at hp
  exact (wW rfl (uZ (dV hn hl x h.1 hp.1) (uZ (dV hn hl y h.2 hp.2) zn))).cong fun a=> by simp [ct,cT]
 | .fail e,h,hp=> by rw [ft] at h;exact (Bn rfl (uZ (dV hn hl e h hp) zn)).cong fun a=> by simp [ct,cT]
 | .loop c b,h,hp=> by
  rw [ft] at h
  simp only [pa,Bool.and_eq_true] at hp
  exact (xU (dV hn hl c h.1 hp.1) (mr (ms hn hl b h.2 hp.2))).cong fun a=> by rw [ct];rfl
 | .ite c x y,h,hp=> by
  rw [ft] at h
  simp only [pa,Bool.and_eq_true] at hp
  exact (DG (dV hn hl c h.1 hp.1.1) (mr (ms hn hl x h.2.1 hp.1.2)) (mr (ms hn hl y h.2.2 hp.2))).cong fun a=> by rw [ct];rfl
theorem ms (hn:(d++v).Nodup) (hl:(d++v).length≤1000): ∀ b:Bk,iB (d++v).length b→nj b=true→ll (uu d v no on) (gi (d++v) b) (Az b)
 | .nil,_,_=> zn
 | .cons s b,h,hp=> by
  rw [iB] at h
  simp only [nj,Bool.and_eq_true] at hp
  exact uZ (AR hn hl s h.1 hp.1) (ms hn hl b h.2 hp.2)
end
theorem Bp (hn:(d++v).Nodup) (hl:(d++v).length≤1000) (b:Bk) (h:iB (d++v).length b) (hp:nj b=true):Gq d v no on (jP (d++v) b) (de b):=mr (ms hn hl b h hp)
end

abbrev De (c:AV) (e:Nat→Int) (d v:Int):List AV:=[c, .v (.int .i64 (e 0)), .v (.int .i64 (e 1)), .v (.int .i64 (e 2)), .v (.int .i64 (e 3)), .v (.int .i64 (e 4)), .v (.int .i64 (e 5)), .v (.int .i64 (e 6)), .v (.int .i64 (e 7)), .v (.int .i64 (e 8)), .v (.int .i64 (e 9)), .v (.int .i64 (e 10)), .v (.int .i64 (e 11)), .v (.int .i64 (e 12)), .v (.int .i64 (e 13)), .v (.int .i64 (e 14)), .v (.int .i64 (e 15)), .v (.int .i64 (e 16)), .v (.int .i64 (e 17)), .v (.int .i64 (e 18)), .v (.int .i64 (e 19)), .v (.int .i64 (e 20)), .v (.int .i64 (e 21)), .v (.int .i64 (e 22)), .v (.int .i64 (e 23)), .v (.int .i64 (e 24)), .v (.int .i64 (e 25)), .v (.int .i64 (e 26)), .v (.int .i64 (e 27)), .v (.int .i64 (e 28)), .v (.int .i64 (e 29)), .v (.int .i64 (e 30)), .v (.int .i64 (e 31)), .v (.int .i64 (e 32)), .v (.int .i64 (e 33)), .v (.int .i64 (e 34)), .v (.int .i64 (e 35)), .v (.int .i64 (e 36)), .v (.int .i64 (e 37)), .v (.int .i64 (e 38)), .v (.int .i64 (e 39)), .v (.int .i64 d), .v (.int .i64 v)]
abbrev xx (n:Nat) (xs:List PV) (e:Nat→Int) (d v:Int):List AV:=De (.sl n xs) e d v
def oZ (e:Nat→Int) (h:Nat) (x:Int):Nat→Int:=fun k=> if k=h then x else e k
theorem qe (c:AV) (e:Nat→Int) (d v:Int) (h:Nat) (hh:h < 40) (x:Int):fC (De c e d v) (1+h) [.v (.int .i64 x)]=De c (oZ e h x) d v:=by
 rcases h with _ | _ | _ | _ | _ | _ | _ | _ | _ | _ | _ | _ | _ | _ | _ | _ | _ | _ | _ | _ | _ | _ | _ | _ | _ | _ | _ | _ | _ | _ | _ | _ | _ | _ | _ | _ | _ | _ | _ | _ | h
 all_goals first | rfl | omega
theorem lS (n:Nat) (xs:List PV) (e:Nat→Int) (d v:Int) (h:Nat) (hh:h < 40):(xx n xs e d v)[1+h]? =some (.v (.int .i64 (e h))):=by
 rcases h with _ | _ | _ | _ | _ | _ | _ | _ | _ | _ | _ | _ | _ | _ | _ | _ | _ | _ | _ | _ | _ | _ | _ | _ | _ | _ | _ | _ | _ | _ | _ | _ | _ | _ | _ | _ | _ | _ | _ | _ | h
 all_goals first | rfl | omega
def BR (l:List Nat):List PV:=l.map fun (x:Nat)=> .v (.int .i64 (x:Int))
@[simp] theorem eu (l:List Nat):(BR l).length=l.length:=by simp [BR]
theorem zp (l:List Nat) (k:Nat) (h:k < l.length):(BR l)[k]? =some (.v (.int .i64 (l.getD k 0:Int))):=by simp [BR,h]
theorem vu:Spec Tryz.prog 106 (bj [.v (.int .i64 1)] []) (aT (.v (.int .i64 0)) []):=by
 refine Spec.ofN Tryz.func106 rfl Tryz.ntmps106 rfl ?_
 refine am (ba rfl (aj (aq (am (aP rfl (aj (au (aq (eJ rfl rfl rfl rfl rfl (aL ?_))))))))))
 exact bC rfl rfl (am (ba rfl (aj (aE (aX (.inr rfl) rfl (.tmp (rfl:_=AV.v _)) (Le.out [] [] .v rfl rfl rfl trivial trivial))))))
theorem wF:Spec Tryz.prog 106 (bj [.v (.int .i64 2)] []) (aT (.v (.int .i64 0)) []):=by
 refine Spec.ofN Tryz.func106 rfl Tryz.ntmps106 rfl ?_
 refine am (ba rfl (aj (aq (am (aP rfl (aj (au (aq (bS rfl rfl rfl rfl rfl (eJ rfl rfl rfl rfl rfl ?_))))))))))
 exact aL (bC rfl rfl (am (ba rfl (aj (aE (aX (.inr rfl) rfl (.tmp (rfl:_=AV.v _)) (Le.out [] [] .v rfl rfl rfl trivial trivial)))))))
theorem rF:Spec Tryz.prog 106 (bj [.v (.int .i64 3)] []) (aT (.v (.int .i64 1)) []):=by
 refine Spec.ofN Tryz.func106 rfl Tryz.ntmps106 rfl ?_
 refine am (ba rfl (aj (aq (am (aP rfl (aj (au (aq ?_))))))))
 iterate 7 refine bS rfl rfl rfl rfl rfl ?_
 refine aN (σ':=aA 31 [(3,_)] [] [] []) kp ?_
 refine ck rfl rfl rfl rfl rfl (aq ?_)
 iterate 3 refine bS rfl rfl rfl rfl rfl ?_
 exact eJ rfl rfl rfl rfl rfl (aL (bC rfl rfl (am (ba rfl (aj (aE (aX (.inr rfl) rfl (.tmp (rfl:_=AV.v _)) (Le.out [] [] .v rfl rfl rfl trivial trivial))))))))
theorem uT:Spec Tryz.prog 106 (bj [.v (.int .i64 4)] []) (aT (.v (.int .i64 0)) []):=by
 refine Spec.ofN Tryz.func106 rfl Tryz.ntmps106 rfl ?_
 refine am (ba rfl (aj (aq (am (aP rfl (aj (au (aq ?_))))))))
 iterate 2 refine bS rfl rfl rfl rfl rfl ?_
 exact eJ rfl rfl rfl rfl rfl (aL (bC rfl rfl (am (ba rfl (aj (aE (aX (.inr rfl) rfl (.tmp (rfl:_=AV.v _)) (Le.out [] [] .v rfl rfl rfl trivial trivial))))))))
theorem vZ:Spec Tryz.prog 106 (bj [.v (.int .i64 5)] []) (aT (.v (.int .i64 1)) []):=by
 refine Spec.ofN Tryz.func106 rfl Tryz.ntmps106 rfl ?_
 refine am (ba rfl (aj (aq (am (aP rfl (aj (au (aq ?_))))))))
 iterate 7 refine bS rfl rfl rfl rfl rfl ?_
 refine aN (σ':=aA 31 [(3,_)] [] [] []) kp ?_
 exact ck rfl rfl rfl rfl rfl (aq (eJ rfl rfl rfl rfl rfl (aL (bC rfl rfl (am (ba rfl (aj (aE (aX (.inr rfl) rfl (.tmp (rfl:_=AV.v _)) (Le.out [] [] .v rfl rfl rfl trivial trivial))))))))))
theorem zd:Spec Tryz.prog 106 (bj [.v (.int .i64 6)] []) (aT (.v (.int .i64 2)) []):=by
 refine Spec.ofN Tryz.func106 rfl Tryz.ntmps106 rfl ?_
 refine am (ba rfl (aj (aq (am (aP rfl (aj (au (aq ?_))))))))
 iterate 7 refine bS rfl rfl rfl rfl rfl ?_
 refine aN (σ':=aA 31 [(3,_)] [] [] []) kp ?_
 refine ck rfl rfl rfl rfl rfl (aq ?_)
 iterate 5 refine bS rfl rfl rfl rfl rfl ?_
 refine ck rfl rfl rfl rfl rfl (aq (eJ rfl rfl rfl rfl rfl (aL (bC rfl rfl (aq ?_)))))
 refine aN (σ':=aA 31 [] [] [] []) kp ?_
 exact an (ba rfl (aj (aE (aX (.inr rfl) rfl (.tmp (rfl:_=AV.v _)) (Le.out [] [] .v rfl rfl rfl trivial trivial)))))
theorem wV:Spec Tryz.prog 106 (bj [.v (.int .i64 7)] []) (aT (.v (.int .i64 2)) []):=by
 refine Spec.ofN Tryz.func106 rfl Tryz.ntmps106 rfl ?_
 refine am (ba rfl (aj (aq (am (aP rfl (aj (au (aq ?_))))))))
 iterate 7 refine bS rfl rfl rfl rfl rfl ?_
 refine aN (σ':=aA 31 [(3,_)] [] [] []) kp ?_
 refine ck rfl rfl rfl rfl rfl (aq ?_)
 iterate 5 refine bS rfl rfl rfl rfl rfl ?_
 refine ck rfl rfl rfl rfl rfl (aq (bS rfl rfl rfl rfl rfl (aq ?_)))
 refine aN (σ':=aA 31 [(3,_)] [] [] []) kp ?_
 exact oW rfl rfl rfl rfl rfl (aL (bC rfl rfl (am (ba rfl (aj (aE (aX (.inr rfl) rfl (.tmp (rfl:_=AV.v _)) (Le.out [] [] .v rfl rfl rfl trivial trivial))))))))
theorem yx:Spec Tryz.prog 106 (bj [.v (.int .i64 8)] []) (aT (.v (.int .i64 2)) []):=by
 refine Spec.ofN Tryz.func106 rfl Tryz.ntmps106 rfl ?_
 refine am (ba rfl (aj (aq (am (aP rfl (aj (au (aq ?_))))))))
 iterate 7 refine bS rfl rfl rfl rfl rfl ?_
 refine aN (σ':=aA 31 [(3,_)] [] [] []) kp ?_
 refine ck rfl rfl rfl rfl rfl (aq ?_)
 iterate 5 refine bS rfl rfl rfl rfl rfl ?_
 refine ck rfl rfl rfl rfl rfl (aq (bS rfl rfl rfl rfl rfl (aq ?_)))
 refine aN (σ':=aA 31 [(3,_)] [] [] []) kp ?_
 exact ck rfl rfl rfl rfl rfl (eJ rfl rfl rfl rfl rfl (aL (bC rfl rfl (am (ba rfl (aj (aE (aX (.inr rfl) rfl (.tmp (rfl:_=AV.v _)) (Le.out [] [] .v rfl rfl rfl trivial trivial)))))))))
theorem yV:Spec Tryz.prog 106 (bj [.v (.int .i64 9)] []) (aT (.v (.int .i64 2)) []):=by
 refine Spec.ofN Tryz.func106 rfl Tryz.ntmps106 rfl ?_
 refine am (ba rfl (aj (aq (am (aP rfl (aj (au (aq ?_))))))))
 iterate 7 refine bS rfl rfl rfl rfl rfl ?_
 refine aN (σ':=aA 31 [(3,_)] [] [] []) kp ?_
 refine ck rfl rfl rfl rfl rfl (aq ?_)
 iterate 5 refine bS rfl rfl rfl rfl rfl ?_
 refine ck rfl rfl rfl rfl rfl (aq (bS rfl rfl rfl rfl rfl (aq ?_)))
 refine aN (σ':=aA 31 [(3,_)] [] [] []) kp ?_
 exact ck rfl rfl rfl rfl rfl (bS rfl rfl rfl rfl rfl (eJ rfl rfl rfl rfl rfl (aL (bC rfl rfl (am (ba rfl (aj (aE (aX (.inr rfl) rfl (.tmp (rfl:_=AV.v _)) (Le.out [] [] .v rfl rfl rfl trivial trivial))))))))))
theorem yN:Spec Tryz.prog 106 (bj [.v (.int .i64 10)] []) (aT (.v (.int .i64 1)) []):=by
 refine Spec.ofN Tryz.func106 rfl Tryz.ntmps106 rfl ?_
 refine am (ba rfl (aj (aq (am (aP rfl (aj (au (aq ?_))))))))
 iterate 7 refine bS rfl rfl rfl rfl rfl ?_
 refine aN (σ':=aA 31 [(3,_)] [] [] []) kp ?_
 exact ck rfl rfl rfl rfl rfl (aq (bS rfl rfl rfl rfl rfl (eJ rfl rfl rfl rfl rfl (aL (bC rfl rfl (am (ba rfl (aj (aE (aX (.inr rfl) rfl (.tmp (rfl:_=AV.v _)) (Le.out [] [] .v rfl rfl rfl trivial trivial)))))))))))
theorem Bz:Spec Tryz.prog 106 (bj [.v (.int .i64 11)] []) (aT (.v (.int .i64 2)) []):=by
 refine Spec.ofN Tryz.func106 rfl Tryz.ntmps106 rfl ?_
 refine am (ba rfl (aj (aq (am (aP rfl (aj (au (aq ?_))))))))
 iterate 7 refine bS rfl rfl rfl rfl rfl ?_
 refine aN (σ':=aA 31 [(3,_)] [] [] []) kp ?_
 refine ck rfl rfl rfl rfl rfl (aq ?_)
 iterate 5 refine bS rfl rfl rfl rfl rfl ?_
 refine ck rfl rfl rfl rfl rfl (aq (bS rfl rfl rfl rfl rfl (aq ?_)))
 refine aN (σ':=aA 31 [(3,_)] [] [] []) kp ?_
 refine ck rfl rfl rfl rfl rfl ?_
 iterate 2 refine bS rfl rfl rfl rfl rfl ?_
 exact eJ rfl rfl rfl rfl rfl (aL (bC rfl rfl (am (ba rfl (aj (aE (aX (.inr rfl) rfl (.tmp (rfl:_=AV.v _)) (Le.out [] [] .v rfl rfl rfl trivial trivial))))))))
theorem AD:Spec Tryz.prog 106 (bj [.v (.int .i64 12)] []) (aT (.v (.int .i64 2)) []):=by
 refine Spec.ofN Tryz.func106 rfl Tryz.ntmps106 rfl ?_
 refine am (ba rfl (aj (aq (am (aP rfl (aj (au (aq ?_))))))))
 iterate 7 refine bS rfl rfl rfl rfl rfl ?_
 refine aN (σ':=aA 31 [(3,_)] [] [] []) kp ?_
 refine ck rfl rfl rfl rfl rfl (aq ?_)
 iterate 5 refine bS rfl rfl rfl rfl rfl ?_
 refine ck rfl rfl rfl rfl rfl (aq (bS rfl rfl rfl rfl rfl (aq ?_)))
 refine aN (σ':=aA 31 [(3,_)] [] [] []) kp ?_
 refine ck rfl rfl rfl rfl rfl ?_
 iterate 3 refine bS rfl rfl rfl rfl rfl ?_
 exact eJ rfl rfl rfl rfl rfl (aL (bC rfl rfl (am (ba rfl (aj (aE (aX (.inr rfl) rfl (.tmp (rfl:_=AV.v _)) (Le.out [] [] .v rfl rfl rfl trivial trivial))))))))
theorem BL:Spec Tryz.prog 106 (bj [.v (.int .i64 13)] []) (aT (.v (.int .i64 2)) []):=by
 refine Spec.ofN Tryz.func106 rfl Tryz.ntmps106 rfl ?_
 refine am (ba rfl (aj (aq (am (aP rfl (aj (au (aq ?_))))))))
 iterate 7 refine bS rfl rfl rfl rfl rfl ?_
 refine aN (σ':=aA 31 [(3,_)] [] [] []) kp ?_
 refine ck rfl rfl rfl rfl rfl (aq ?_)
 iterate 5 refine bS rfl rfl rfl rfl rfl ?_
 refine ck rfl rfl rfl rfl rfl (aq (bS rfl rfl rfl rfl rfl (aq ?_)))
 refine aN (σ':=aA 31 [(3,_)] [] [] []) kp ?_
 refine ck rfl rfl rfl rfl rfl ?_
 iterate 4 refine bS rfl rfl rfl rfl rfl ?_
 exact eJ rfl rfl rfl rfl rfl (aL (bC rfl rfl (am (ba rfl (aj (aE (aX (.inr rfl) rfl (.tmp (rfl:_=AV.v _)) (Le.out [] [] .v rfl rfl rfl trivial trivial))))))))
theorem xO:Spec Tryz.prog 106 (bj [.v (.int .i64 14)] []) (aT (.v (.int .i64 1)) []):=by
 refine Spec.ofN Tryz.func106 rfl Tryz.ntmps106 rfl ?_
 refine am (ba rfl (aj (aq (am (aP rfl (aj (au (aq ?_))))))))
 iterate 7 refine bS rfl rfl rfl rfl rfl ?_
 refine aN (σ':=aA 31 [(3,_)] [] [] []) kp ?_
 refine ck rfl rfl rfl rfl rfl (aq ?_)
 iterate 2 refine bS rfl rfl rfl rfl rfl ?_
 exact eJ rfl rfl rfl rfl rfl (aL (bC rfl rfl (am (ba rfl (aj (aE (aX (.inr rfl) rfl (.tmp (rfl:_=AV.v _)) (Le.out [] [] .v rfl rfl rfl trivial trivial))))))))
theorem vI:Spec Tryz.prog 106 (bj [.v (.int .i64 15)] []) (aT (.v (.int .i64 0)) []):=by
 refine Spec.ofN Tryz.func106 rfl Tryz.ntmps106 rfl ?_
 refine am (ba rfl (aj (aq (am (aP rfl (aj (au (aq ?_))))))))
 iterate 3 refine bS rfl rfl rfl rfl rfl ?_
 exact eJ rfl rfl rfl rfl rfl (aL (bC rfl rfl (am (ba rfl (aj (aE (aX (.inr rfl) rfl (.tmp (rfl:_=AV.v _)) (Le.out [] [] .v rfl rfl rfl trivial trivial))))))))
theorem yB:Spec Tryz.prog 106 (bj [.v (.int .i64 16)] []) (aT (.v (.int .i64 1)) []):=by
 refine Spec.ofN Tryz.func106 rfl Tryz.ntmps106 rfl ?_
 refine am (ba rfl (aj (aq (am (aP rfl (aj (au (aq ?_))))))))
 iterate 7 refine bS rfl rfl rfl rfl rfl ?_
 refine aN (σ':=aA 31 [(3,_)] [] [] []) kp ?_
 refine ck rfl rfl rfl rfl rfl (aq ?_)
 iterate 4 refine bS rfl rfl rfl rfl rfl ?_
 exact eJ rfl rfl rfl rfl rfl (aL (bC rfl rfl (am (ba rfl (aj (aE (aX (.inr rfl) rfl (.tmp (rfl:_=AV.v _)) (Le.out [] [] .v rfl rfl rfl trivial trivial))))))))
theorem uS:Spec Tryz.prog 106 (bj [.v (.int .i64 17)] []) (aT (.v (.int .i64 3)) []):=by
 refine Spec.ofN Tryz.func106 rfl Tryz.ntmps106 rfl ?_
 refine am (ba rfl (aj (aq (am (aP rfl (aj (au (aq ?_))))))))
 iterate 7 refine bS rfl rfl rfl rfl rfl ?_
 refine aN (σ':=aA 31 [(3,_)] [] [] []) kp ?_
 refine ck rfl rfl rfl rfl rfl (aq ?_)
 iterate 5 refine bS rfl rfl rfl rfl rfl ?_
 refine ck rfl rfl rfl rfl rfl (aq (bS rfl rfl rfl rfl rfl (aq ?_)))
 refine aN (σ':=aA 31 [(3,_)] [] [] []) kp ?_
 refine ck rfl rfl rfl rfl rfl ?_
 iterate 5 refine bS rfl rfl rfl rfl rfl ?_
 refine ck rfl rfl rfl rfl rfl (eJ rfl rfl rfl rfl rfl (aq ?_))
 refine aN (σ':=aA 31 [] [] [] []) kp ?_
 exact an (ba rfl (aj (aE (aX (.inr rfl) rfl (.tmp (rfl:_=AV.v _)) (Le.out [] [] .v rfl rfl rfl trivial trivial)))))
theorem sR:Spec Tryz.prog 106 (bj [.v (.int .i64 18)] []) (aT (.v (.int .i64 0)) []):=by
 refine Spec.ofN Tryz.func106 rfl Tryz.ntmps106 rfl ?_
 refine am (ba rfl (aj (aq (am (aP rfl (aj (au (aq ?_))))))))
 iterate 4 refine bS rfl rfl rfl rfl rfl ?_
 exact eJ rfl rfl rfl rfl rfl (aL (bC rfl rfl (am (ba rfl (aj (aE (aX (.inr rfl) rfl (.tmp (rfl:_=AV.v _)) (Le.out [] [] .v rfl rfl rfl trivial trivial))))))))
theorem rE:Spec Tryz.prog 106 (bj [.v (.int .i64 19)] []) (aT (.v (.int .i64 0)) []):=by
 refine Spec.ofN Tryz.func106 rfl Tryz.ntmps106 rfl ?_
 refine am (ba rfl (aj (aq (am (aP rfl (aj (au (aq ?_))))))))
 iterate 5 refine bS rfl rfl rfl rfl rfl ?_
 exact eJ rfl rfl rfl rfl rfl (aL (bC rfl rfl (am (ba rfl (aj (aE (aX (.inr rfl) rfl (.tmp (rfl:_=AV.v _)) (Le.out [] [] .v rfl rfl rfl trivial trivial))))))))
theorem vg:Spec Tryz.prog 106 (bj [.v (.int .i64 20)] []) (aT (.v (.int .i64 0)) []):=by
 refine Spec.ofN Tryz.func106 rfl Tryz.ntmps106 rfl ?_
 refine am (ba rfl (aj (aq (am (aP rfl (aj (au (aq ?_))))))))
 iterate 6 refine bS rfl rfl rfl rfl rfl ?_
 refine eJ rfl rfl rfl rfl rfl (aL (bC rfl rfl (aq ?_)))
 refine aN (σ':=aA 31 [] [] [] []) kp ?_
 exact an (ba rfl (aj (aE (aX (.inr rfl) rfl (.tmp (rfl:_=AV.v _)) (Le.out [] [] .v rfl rfl rfl trivial trivial)))))
theorem tu:Spec Tryz.prog 106 (bj [.v (.int .i64 21)] []) (aT (.v (.int .i64 2)) []):=by
 refine Spec.ofN Tryz.func106 rfl Tryz.ntmps106 rfl ?_
 refine am (ba rfl (aj (aq (am (aP rfl (aj (au (aq ?_))))))))
 iterate 7 refine bS rfl rfl rfl rfl rfl ?_
 refine aN (σ':=aA 31 [(3,_)] [] [] []) kp ?_
 refine ck rfl rfl rfl rfl rfl (aq ?_)
 iterate 5 refine bS rfl rfl rfl rfl rfl ?_
 refine ck rfl rfl rfl rfl rfl (aq (bS rfl rfl rfl rfl rfl (aq ?_)))
 refine aN (σ':=aA 31 [(3,_)] [] [] []) kp ?_
 refine ck rfl rfl rfl rfl rfl ?_
 iterate 5 refine bS rfl rfl rfl rfl rfl ?_
 exact oW rfl rfl rfl rfl rfl (am (ba rfl (aj (aE (aX (.inr rfl) rfl (.tmp (rfl:_=AV.v _)) (Le.out [] [] .v rfl rfl rfl trivial trivial))))))
theorem vq:Spec Tryz.prog 106 (bj [.v (.int .i64 22)] []) (aT (.v (.int .i64 1)) []):=by
 refine Spec.ofN Tryz.func106 rfl Tryz.ntmps106 rfl ?_
 refine am (ba rfl (aj (aq (am (aP rfl (aj (au (aq ?_))))))))
 iterate 7 refine bS rfl rfl rfl rfl rfl ?_
 refine aN (σ':=aA 31 [(3,_)] [] [] []) kp ?_
 refine ck rfl rfl rfl rfl rfl (aq ?_)
 iterate 5 refine bS rfl rfl rfl rfl rfl ?_
 exact oW rfl rfl rfl rfl rfl (am (ba rfl (aj (aE (aX (.inr rfl) rfl (.tmp (rfl:_=AV.v _)) (Le.out [] [] .v rfl rfl rfl trivial trivial))))))
theorem uM:Spec Tryz.prog 106 (bj [.v (.int .i64 23)] []) (aT (.v (.int .i64 0)) []):=by
 refine Spec.ofN Tryz.func106 rfl Tryz.ntmps106 rfl ?_
 refine am (ba rfl (aj (aq (am (aP rfl (aj (au (aq ?_))))))))
 iterate 7 refine bS rfl rfl rfl rfl rfl ?_
 refine aN (σ':=aA 31 [(3,_)] [] [] []) kp ?_
 exact oW rfl rfl rfl rfl rfl (am (ba rfl (aj (aE (aX (.inr rfl) rfl (.tmp (rfl:_=AV.v _)) (Le.out [] [] .v rfl rfl rfl trivial trivial))))))
theorem pO (o:Opc):Spec Tryz.prog 106 (bj [.v (.int .i64 (o.num:Int))] []) (aT (.v (.int .i64 (o.pops:Int))) []):=by
 cases o
 ·exact vu
 ·exact wF
 ·exact rF
 ·exact uT
 ·exact vZ
 ·exact zd
 ·exact wV
 ·exact yx
 ·exact yV
 ·exact yN
 ·exact Bz
 ·exact AD
 ·exact BL
 ·exact xO
 ·exact vI
 ·exact yB
 ·exact uS
 ·exact sR
 ·exact rE
 ·exact vg
 ·exact tu
 ·exact vq
 ·exact uM
theorem vR:Spec Tryz.prog 107 (bj [.v (.int .i64 1)] []) (aT (.v (.int .i64 1)) []):=by
 refine Spec.ofN Tryz.func107 rfl Tryz.ntmps107 rfl ?_
 refine am (ba rfl (aj (aq (am (aP rfl (aj (au (aq (eJ rfl rfl rfl rfl rfl (aL ?_))))))))))
 exact bC rfl rfl (am (ba rfl (aj (aE (aX (.inr rfl) rfl (.tmp (rfl:_=AV.v _)) (Le.out [] [] .v rfl rfl rfl trivial trivial))))))
theorem yg:Spec Tryz.prog 107 (bj [.v (.int .i64 2)] []) (aT (.v (.int .i64 1)) []):=by
 refine Spec.ofN Tryz.func107 rfl Tryz.ntmps107 rfl ?_
 refine am (ba rfl (aj (aq (am (aP rfl (aj (au (aq (bS rfl rfl rfl rfl rfl (eJ rfl rfl rfl rfl rfl ?_))))))))))
 exact aL (bC rfl rfl (am (ba rfl (aj (aE (aX (.inr rfl) rfl (.tmp (rfl:_=AV.v _)) (Le.out [] [] .v rfl rfl rfl trivial trivial)))))))
theorem rD:Spec Tryz.prog 107 (bj [.v (.int .i64 3)] []) (aT (.v (.int .i64 0)) []):=by
 refine Spec.ofN Tryz.func107 rfl Tryz.ntmps107 rfl ?_
 refine am (ba rfl (aj (aq (am (aP rfl (aj (au (aq ?_))))))))
 iterate 7 refine bS rfl rfl rfl rfl rfl ?_
 refine aq ?_
 refine aN (σ':=aA 18 [(3,_)] [] [] []) kp ?_
 refine ck rfl rfl rfl rfl rfl ?_
 iterate 4 refine bS rfl rfl rfl rfl rfl ?_
 exact ck rfl rfl rfl rfl rfl (cf (am (ba rfl (aj (aE (aX (.inr rfl) rfl (.tmp (rfl:_=AV.v _)) (Le.out [] [] .v rfl rfl rfl trivial trivial)))))))
theorem uL:Spec Tryz.prog 107 (bj [.v (.int .i64 4)] []) (aT (.v (.int .i64 1)) []):=by
 refine Spec.ofN Tryz.func107 rfl Tryz.ntmps107 rfl ?_
 refine am (ba rfl (aj (aq (am (aP rfl (aj (au (aq ?_))))))))
 iterate 2 refine bS rfl rfl rfl rfl rfl ?_
 exact eJ rfl rfl rfl rfl rfl (aL (bC rfl rfl (am (ba rfl (aj (aE (aX (.inr rfl) rfl (.tmp (rfl:_=AV.v _)) (Le.out [] [] .v rfl rfl rfl trivial trivial))))))))
theorem vy:Spec Tryz.prog 107 (bj [.v (.int .i64 5)] []) (aT (.v (.int .i64 1)) []):=by
 refine Spec.ofN Tryz.func107 rfl Tryz.ntmps107 rfl ?_
 refine am (ba rfl (aj (aq (am (aP rfl (aj (au (aq ?_))))))))
 iterate 3 refine bS rfl rfl rfl rfl rfl ?_
 exact eJ rfl rfl rfl rfl rfl (aL (bC rfl rfl (am (ba rfl (aj (aE (aX (.inr rfl) rfl (.tmp (rfl:_=AV.v _)) (Le.out [] [] .v rfl rfl rfl trivial trivial))))))))
theorem xR:Spec Tryz.prog 107 (bj [.v (.int .i64 6)] []) (aT (.v (.int .i64 1)) []):=by
 refine Spec.ofN Tryz.func107 rfl Tryz.ntmps107 rfl ?_
 refine am (ba rfl (aj (aq (am (aP rfl (aj (au (aq ?_))))))))
 iterate 6 refine bS rfl rfl rfl rfl rfl ?_
 refine eJ rfl rfl rfl rfl rfl (aL (bC rfl rfl (aq ?_)))
 refine aN (σ':=aA 18 [] [] [] []) kp ?_
 exact an (ba rfl (aj (aE (aX (.inr rfl) rfl (.tmp (rfl:_=AV.v _)) (Le.out [] [] .v rfl rfl rfl trivial trivial)))))
theorem yz:Spec Tryz.prog 107 (bj [.v (.int .i64 7)] []) (aT (.v (.int .i64 1)) []):=by
 refine Spec.ofN Tryz.func107 rfl Tryz.ntmps107 rfl ?_
 refine am (ba rfl (aj (aq (am (aP rfl (aj (au (aq ?_))))))))
 iterate 7 refine bS rfl rfl rfl rfl rfl ?_
 refine aq ?_
 refine aN (σ':=aA 18 [(3,_)] [] [] []) kp ?_
 exact oW rfl rfl rfl rfl rfl (aL (bC rfl rfl (am (ba rfl (aj (aE (aX (.inr rfl) rfl (.tmp (rfl:_=AV.v _)) (Le.out [] [] .v rfl rfl rfl trivial trivial))))))))
theorem yR:Spec Tryz.prog 107 (bj [.v (.int .i64 8)] []) (aT (.v (.int .i64 1)) []):=by
 refine Spec.ofN Tryz.func107 rfl Tryz.ntmps107 rfl ?_
 refine am (ba rfl (aj (aq (am (aP rfl (aj (au (aq ?_))))))))
 iterate 7 refine bS rfl rfl rfl rfl rfl ?_
 refine aq ?_
 refine aN (σ':=aA 18 [(3,_)] [] [] []) kp ?_
 exact ck rfl rfl rfl rfl rfl (eJ rfl rfl rfl rfl rfl (aL (bC rfl rfl (am (ba rfl (aj (aE (aX (.inr rfl) rfl (.tmp (rfl:_=AV.v _)) (Le.out [] [] .v rfl rfl rfl trivial trivial)))))))))
theorem wI:Spec Tryz.prog 107 (bj [.v (.int .i64 9)] []) (aT (.v (.int .i64 1)) []):=by
 refine Spec.ofN Tryz.func107 rfl Tryz.ntmps107 rfl ?_
 refine am (ba rfl (aj (aq (am (aP rfl (aj (au (aq ?_))))))))
 iterate 7 refine bS rfl rfl rfl rfl rfl ?_
 refine aq ?_
 refine aN (σ':=aA 18 [(3,_)] [] [] []) kp ?_
 exact ck rfl rfl rfl rfl rfl (bS rfl rfl rfl rfl rfl (eJ rfl rfl rfl rfl rfl (aL (bC rfl rfl (am (ba rfl (aj (aE (aX (.inr rfl) rfl (.tmp (rfl:_=AV.v _)) (Le.out [] [] .v rfl rfl rfl trivial trivial))))))))))
theorem yQ:Spec Tryz.prog 107 (bj [.v (.int .i64 10)] []) (aT (.v (.int .i64 1)) []):=by
 refine Spec.ofN Tryz.func107 rfl Tryz.ntmps107 rfl ?_
 refine am (ba rfl (aj (aq (am (aP rfl (aj (au (aq ?_))))))))
 iterate 4 refine bS rfl rfl rfl rfl rfl ?_
 exact eJ rfl rfl rfl rfl rfl (aL (bC rfl rfl (am (ba rfl (aj (aE (aX (.inr rfl) rfl (.tmp (rfl:_=AV.v _)) (Le.out [] [] .v rfl rfl rfl trivial trivial))))))))
theorem zl:Spec Tryz.prog 107 (bj [.v (.int .i64 11)] []) (aT (.v (.int .i64 1)) []):=by
 refine Spec.ofN Tryz.func107 rfl Tryz.ntmps107 rfl ?_
 refine am (ba rfl (aj (aq (am (aP rfl (aj (au (aq ?_))))))))
 iterate 7 refine bS rfl rfl rfl rfl rfl ?_
 refine aq ?_
 refine aN (σ':=aA 18 [(3,_)] [] [] []) kp ?_
 refine ck rfl rfl rfl rfl rfl ?_
 iterate 2 refine bS rfl rfl rfl rfl rfl ?_
 exact eJ rfl rfl rfl rfl rfl (aL (bC rfl rfl (am (ba rfl (aj (aE (aX (.inr rfl) rfl (.tmp (rfl:_=AV.v _)) (Le.out [] [] .v rfl rfl rfl trivial trivial))))))))
theorem Aa:Spec Tryz.prog 107 (bj [.v (.int .i64 12)] []) (aT (.v (.int .i64 1)) []):=by
 refine Spec.ofN Tryz.func107 rfl Tryz.ntmps107 rfl ?_
 refine am (ba rfl (aj (aq (am (aP rfl (aj (au (aq ?_))))))))
 iterate 7 refine bS rfl rfl rfl rfl rfl ?_
 refine aq ?_
 refine aN (σ':=aA 18 [(3,_)] [] [] []) kp ?_
 refine ck rfl rfl rfl rfl rfl ?_
 iterate 3 refine bS rfl rfl rfl rfl rfl ?_
 exact eJ rfl rfl rfl rfl rfl (aL (bC rfl rfl (am (ba rfl (aj (aE (aX (.inr rfl) rfl (.tmp (rfl:_=AV.v _)) (Le.out [] [] .v rfl rfl rfl trivial trivial))))))))
theorem zD:Spec Tryz.prog 107 (bj [.v (.int .i64 13)] []) (aT (.v (.int .i64 1)) []):=by
 refine Spec.ofN Tryz.func107 rfl Tryz.ntmps107 rfl ?_
 refine am (ba rfl (aj (aq (am (aP rfl (aj (au (aq ?_))))))))
 iterate 7 refine bS rfl rfl rfl rfl rfl ?_
 refine aq ?_
 refine aN (σ':=aA 18 [(3,_)] [] [] []) kp ?_
 refine ck rfl rfl rfl rfl rfl ?_
 iterate 4 refine bS rfl rfl rfl rfl rfl ?_
 exact oW rfl rfl rfl rfl rfl (am (ba rfl (aj (aE (aX (.inr rfl) rfl (.tmp (rfl:_=AV.v _)) (Le.out [] [] .v rfl rfl rfl trivial trivial))))))
theorem xf:Spec Tryz.prog 107 (bj [.v (.int .i64 14)] []) (aT (.v (.int .i64 1)) []):=by
 refine Spec.ofN Tryz.func107 rfl Tryz.ntmps107 rfl ?_
 refine am (ba rfl (aj (aq (am (aP rfl (aj (au (aq ?_))))))))
 iterate 5 refine bS rfl rfl rfl rfl rfl ?_
 exact eJ rfl rfl rfl rfl rfl (aL (bC rfl rfl (am (ba rfl (aj (aE (aX (.inr rfl) rfl (.tmp (rfl:_=AV.v _)) (Le.out [] [] .v rfl rfl rfl trivial trivial))))))))
theorem vY:Spec Tryz.prog 107 (bj [.v (.int .i64 15)] []) (aT (.v (.int .i64 0)) []):=by
 refine Spec.ofN Tryz.func107 rfl Tryz.ntmps107 rfl ?_
 refine am (ba rfl (aj (aq (am (aP rfl (aj (au (aq ?_))))))))
 iterate 7 refine bS rfl rfl rfl rfl rfl ?_
 refine aq ?_
 refine aN (σ':=aA 18 [(3,_)] [] [] []) kp ?_
 refine ck rfl rfl rfl rfl rfl ?_
 iterate 4 refine bS rfl rfl rfl rfl rfl ?_
 exact ck rfl rfl rfl rfl rfl (cf (am (ba rfl (aj (aE (aX (.inr rfl) rfl (.tmp (rfl:_=AV.v _)) (Le.out [] [] .v rfl rfl rfl trivial trivial)))))))
theorem yn:Spec Tryz.prog 107 (bj [.v (.int .i64 16)] []) (aT (.v (.int .i64 0)) []):=by
 refine Spec.ofN Tryz.func107 rfl Tryz.ntmps107 rfl ?_
 refine am (ba rfl (aj (aq (am (aP rfl (aj (au (aq ?_))))))))
 iterate 7 refine bS rfl rfl rfl rfl rfl ?_
 refine aq ?_
 refine aN (σ':=aA 18 [(3,_)] [] [] []) kp ?_
 refine ck rfl rfl rfl rfl rfl ?_
 iterate 4 refine bS rfl rfl rfl rfl rfl ?_
 exact ck rfl rfl rfl rfl rfl (cf (am (ba rfl (aj (aE (aX (.inr rfl) rfl (.tmp (rfl:_=AV.v _)) (Le.out [] [] .v rfl rfl rfl trivial trivial)))))))
theorem wg:Spec Tryz.prog 107 (bj [.v (.int .i64 17)] []) (aT (.v (.int .i64 0)) []):=by
 refine Spec.ofN Tryz.func107 rfl Tryz.ntmps107 rfl ?_
 refine am (ba rfl (aj (aq (am (aP rfl (aj (au (aq ?_))))))))
 iterate 7 refine bS rfl rfl rfl rfl rfl ?_
 refine aq ?_
 refine aN (σ':=aA 18 [(3,_)] [] [] []) kp ?_
 refine ck rfl rfl rfl rfl rfl ?_
 iterate 4 refine bS rfl rfl rfl rfl rfl ?_
 exact ck rfl rfl rfl rfl rfl (cf (am (ba rfl (aj (aE (aX (.inr rfl) rfl (.tmp (rfl:_=AV.v _)) (Le.out [] [] .v rfl rfl rfl trivial trivial)))))))
theorem tp:Spec Tryz.prog 107 (bj [.v (.int .i64 18)] []) (aT (.v (.int .i64 0)) []):=by
 refine Spec.ofN Tryz.func107 rfl Tryz.ntmps107 rfl ?_
 refine am (ba rfl (aj (aq (am (aP rfl (aj (au (aq ?_))))))))
 iterate 7 refine bS rfl rfl rfl rfl rfl ?_
 refine aq ?_
 refine aN (σ':=aA 18 [(3,_)] [] [] []) kp ?_
 refine ck rfl rfl rfl rfl rfl ?_
 iterate 4 refine bS rfl rfl rfl rfl rfl ?_
 exact ck rfl rfl rfl rfl rfl (cf (am (ba rfl (aj (aE (aX (.inr rfl) rfl (.tmp (rfl:_=AV.v _)) (Le.out [] [] .v rfl rfl rfl trivial trivial)))))))
theorem sF:Spec Tryz.prog 107 (bj [.v (.int .i64 19)] []) (aT (.v (.int .i64 0)) []):=by
 refine Spec.ofN Tryz.func107 rfl Tryz.ntmps107 rfl ?_
 refine am (ba rfl (aj (aq (am (aP rfl (aj (au (aq ?_))))))))
 iterate 7 refine bS rfl rfl rfl rfl rfl ?_
 refine aq ?_
 refine aN (σ':=aA 18 [(3,_)] [] [] []) kp ?_
 refine ck rfl rfl rfl rfl rfl ?_
 iterate 4 refine bS rfl rfl rfl rfl rfl ?_
 exact ck rfl rfl rfl rfl rfl (cf (am (ba rfl (aj (aE (aX (.inr rfl) rfl (.tmp (rfl:_=AV.v _)) (Le.out [] [] .v rfl rfl rfl trivial trivial)))))))
theorem vd:Spec Tryz.prog 107 (bj [.v (.int .i64 20)] []) (aT (.v (.int .i64 0)) []):=by
 refine Spec.ofN Tryz.func107 rfl Tryz.ntmps107 rfl ?_
 refine am (ba rfl (aj (aq (am (aP rfl (aj (au (aq ?_))))))))
 iterate 7 refine bS rfl rfl rfl rfl rfl ?_
 refine aq ?_
 refine aN (σ':=aA 18 [(3,_)] [] [] []) kp ?_
 refine ck rfl rfl rfl rfl rfl ?_
 iterate 4 refine bS rfl rfl rfl rfl rfl ?_
 exact ck rfl rfl rfl rfl rfl (cf (am (ba rfl (aj (aE (aX (.inr rfl) rfl (.tmp (rfl:_=AV.v _)) (Le.out [] [] .v rfl rfl rfl trivial trivial)))))))
theorem sL:Spec Tryz.prog 107 (bj [.v (.int .i64 21)] []) (aT (.v (.int .i64 0)) []):=by
 refine Spec.ofN Tryz.func107 rfl Tryz.ntmps107 rfl ?_
 refine am (ba rfl (aj (aq (am (aP rfl (aj (au (aq ?_))))))))
 iterate 7 refine bS rfl rfl rfl rfl rfl ?_
 refine aq ?_
 refine aN (σ':=aA 18 [(3,_)] [] [] []) kp ?_
 refine ck rfl rfl rfl rfl rfl ?_
 iterate 4 refine bS rfl rfl rfl rfl rfl ?_
 exact ck rfl rfl rfl rfl rfl (cf (am (ba rfl (aj (aE (aX (.inr rfl) rfl (.tmp (rfl:_=AV.v _)) (Le.out [] [] .v rfl rfl rfl trivial trivial)))))))
theorem vE:Spec Tryz.prog 107 (bj [.v (.int .i64 22)] []) (aT (.v (.int .i64 0)) []):=by
 refine Spec.ofN Tryz.func107 rfl Tryz.ntmps107 rfl ?_
 refine am (ba rfl (aj (aq (am (aP rfl (aj (au (aq ?_))))))))
 iterate 7 refine bS rfl rfl rfl rfl rfl ?_
 refine aq ?_
 refine aN (σ':=aA 18 [(3,_)] [] [] []) kp ?_
 refine ck rfl rfl rfl rfl rfl ?_
 iterate 4 refine bS rfl rfl rfl rfl rfl ?_
 exact ck rfl rfl rfl rfl rfl (cf (am (ba rfl (aj (aE (aX (.inr rfl) rfl (.tmp (rfl:_=AV.v _)) (Le.out [] [] .v rfl rfl rfl trivial trivial)))))))
theorem wo:Spec Tryz.prog 107 (bj [.v (.int .i64 23)] []) (aT (.v (.int .i64 0)) []):=by
 refine Spec.ofN Tryz.func107 rfl Tryz.ntmps107 rfl ?_
 refine am (ba rfl (aj (aq (am (aP rfl (aj (au (aq ?_))))))))
 iterate 7 refine bS rfl rfl rfl rfl rfl ?_
 refine aq ?_
 refine aN (σ':=aA 18 [(3,_)] [] [] []) kp ?_
 refine ck rfl rfl rfl rfl rfl ?_
 iterate 4 refine bS rfl rfl rfl rfl rfl ?_
 exact ck rfl rfl rfl rfl rfl (cf (am (ba rfl (aj (aE (aX (.inr rfl) rfl (.tmp (rfl:_=AV.v _)) (Le.out [] [] .v rfl rfl rfl trivial trivial)))))))
theorem pF (o:Opc):Spec Tryz.prog 107 (bj [.v (.int .i64 (o.num:Int))] []) (aT (.v (.int .i64 (o.puts:Int))) []):=by
 cases o
 ·exact vR
 ·exact yg
 ·exact rD
 ·exact uL
 ·exact vy
 ·exact xR
 ·exact yz
 ·exact yR
 ·exact wI
 ·exact yQ
 ·exact zl
 ·exact Aa
 ·exact zD
 ·exact xf
 ·exact vY
 ·exact yn
 ·exact wg
 ·exact tp
 ·exact sF
 ·exact vd
 ·exact sL
 ·exact vE
 ·exact wo
theorem opn_stop {o:Opc}:(o.num:Int)=23↔o= .stop:=by cases o <;> simp [Opc.num]
theorem opn_jump {o:Opc}:(o.num:Int)=15↔o= .jump:=by cases o <;> simp [Opc.num]
theorem opn_unl {o:Opc}:(o.num:Int)=16↔o= .unl:=by cases o <;> simp [Opc.num]
theorem vF (C:List eQ) (e:Nat→Int) (dd vv:Int) (i:Nat) (hC:C.length≤1000000) (hi:i < C.length) (hn:(cP C i).op= .jump∨(cP C i).op= .unl→0≤(cP C i).n):
  Spec Tryz.prog 73 (bj [.agg (xx C.length (inl C) e dd vv), .v (.int .i64 (i:Int))] []) (aT (.sl (dI i (cP C i)).length (BR (dI i (cP C i)))) []):=by
 obtain ⟨x,hx⟩: ∃ x,x=cP C i:=⟨_,rfl⟩
 have hg0:=lP C i hi
 have hg1:=xw C i hi
 rw [← hx] at hn hg0 hg1 ⊢
 clear hx
 obtain ⟨o,n⟩:=x
 simp only at hn hg0 hg1
 refine Spec.ofN Tryz.func73 rfl Tryz.ntmps73 rfl ?_
 refine am (ai (bm (2,0) _ rfl rfl) (ai (bJ _ (rfl:_=AV.v (.slice _ _ _))) (aj (aq (am (bz rfl rfl rfl (fA rfl rfl rfl (aP rfl (ai (bi _ _ aa rfl rfl _ rfl ab (by (simp only [aZ,bq,bo,bG,bE,bM,bF,bN,eu];omega)) ag) ?_)))))))))
 refine ai (dn _ aa rfl rfl) (ai (bH _ aa rfl (by exact hg0) rfl) ?_)
 refine aj (au (am (ai (br _ _ rfl rfl rfl) (ci rfl (aj (aO rfl (fun hc11=> ?_) (fun hc11=> ?_)))))))
 ·skip
  obtain rfl:=opn_stop.1 hc11
  exact am (ai (bJ _ (rfl:_=AV.v (.slice _ _ _))) (aj (aE (aX (.inr rfl) rfl (.tmp (rfl:_=AV.v _)) (Le.out [] [] .nil rfl rfl rfl trivial trivial)))))
 ·skip
  refine am (ai (br _ _ rfl rfl rfl) (ci rfl (aj (aO rfl (fun hc13=> ?_) (fun hc13=> ?_)))))
  ·skip
   obtain rfl:=opn_jump.1 hc13
   have hn:=hn (.inl rfl)
   refine am (bz rfl rfl rfl (fA rfl rfl rfl (aP rfl (ai (bi _ _ aa rfl rfl _ rfl ab (by (simp only [aZ,bq,bo,bG,bE,bM,bF,bN,eu];omega)) ag) ?_))))
   refine ai (dn _ aa rfl rfl) (ai (bH _ aa rfl (by exact hg1) rfl) ?_)
   refine ai (aU _ _ aa rfl ag (by (simp <;> rfl)) ah rfl) ?_
   exact ke rfl (aj (aE (aX (.inr rfl) rfl (.tmp (rfl:_=AV.sl _ _)) (Le.out [] [] (jh rfl (by simp [BR,dI,Int.toNat_of_nonneg hn])) rfl rfl rfl trivial trivial))))
  ·skip
   refine am (ai (br _ _ rfl rfl rfl) (ci rfl (aj (aO rfl (fun hc22=> ?_) (fun hc22=> ?_)))))
   ·skip
    obtain rfl:=opn_unl.1 hc22
    have hn:=hn (.inr rfl)
    refine am (aP rfl (ai (bc _ _ rfl rfl (be ab)) ?_))
    refine bz rfl rfl rfl (fA rfl rfl rfl (aP rfl (ai (bi _ _ aa rfl rfl _ rfl ab (by (simp only [aZ,bq,bo,bG,bE,bM,bF,bN,eu];omega)) ag) ?_)))
    refine ai (dn _ aa rfl rfl) (ai (bH _ aa rfl (by exact hg1) rfl) ?_)
    refine ai (aU _ _ aa rfl ag (by (simp <;> rfl)) ah rfl) ?_
    exact ke rfl (aj (aE (aX (.inr rfl) rfl (.tmp (rfl:_=AV.sl _ _)) (Le.out [] [] (jh rfl (by simp [BR,dI,Int.toNat_of_nonneg hn])) rfl rfl rfl trivial trivial))))
   ·skip
    have hs:dI i ⟨o,n⟩=[i+1]:=by
     unfold dI
     have h1:o≠ .stop:=fun e=> hc11 (opn_stop.2 e)
     have h2:o≠ .jump:=fun e=> hc13 (opn_jump.2 e)
     have h3:o≠ .unl:=fun e=> hc22 (opn_unl.2 e)
     cases o <;> first | rfl | exact absurd rfl h1 | exact absurd rfl h2 | exact absurd rfl h3
    refine cf (am (aP rfl (ai (bc _ _ rfl rfl (be ab)) ?_)))
    refine ai (aU _ _ aa rfl ag (by (simp <;> rfl)) ah rfl) ?_
    refine ke rfl (aj (aE ?_))
    rw [hs]
    exact aX (.inr rfl) rfl (.tmp (rfl:_=AV.sl _ _)) (Le.out [] [] (jh rfl (by simp [BR])) rfl rfl rfl trivial trivial)
instance KK:Arr Tryz.prog 24 40 1:=Arr.of Tryz.underlying24 ae
instance Ka:Arr Tryz.prog 30 9 1:=Arr.of Tryz.underlying30 ae
instance It:Arr Tryz.prog 173 24 1:=Arr.of Tryz.underlying173 ae
end Go.Proofs.YtmjnackchaahbaaGreat
