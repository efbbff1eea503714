/- Part 13 of the texts that the walk leans on: the machine, the walks, the plain laws. -/
import Derived.Test.YtmjnackchaahbaaGreatVoZ12
set_option linter.unusedSimpArgs false
set_option linter.unusedVariables false
namespace Go.Proofs.YtmjnackchaahbaaGreat
open Go.RowKit

section
variable {d v:List Tx} {no:Nat} {on:List PV}
theorem Cp (n:Nat):CoS (uu d v no on) (nd 12 n [] []) (fun _=> [{ op:= .push,n:=(n:Int) }]):=fun a ha=> by
 refine Spec.ofN Tryz.func91 rfl Tryz.ntmps91 rfl ?_
 refine am (ai (bf (3,0) _ rfl rfl) (ai (bf (4,0) _ rfl rfl) (ai (bA _ (rfl:_=AV.v (.slice _ _ _))) (aj (aq (am (bv rfl rfl rfl (cG rfl rfl rfl (aj (au ?_))))))))))
 refine aq (eN rfl rfl rfl rfl rfl (aJ (bF rfl rfl (am (bv rfl rfl rfl (cG rfl rfl rfl (ai (ay _ aa rfl (by exact (rfl:_=some [_,_]))) ?_)))))))
 refine ai (jO (19,0) _ _ aa rfl ag (by (simp <;> rfl)) ah rfl rfl) ?_
 exact fb rfl (aj (aD (aY (.inr rfl) rfl (.tmp (rfl:_=AV.ref _ _ _)) (Le.out [((0,8),(19,0))] [] (cX rfl rfl) rfl rfl rfl trivial ob))))
theorem tM (n:Nat):CoS (uu d v no on) (nd 13 n [] []) (fun _=> [{ op:= .push,n:=(n:Int) }]):=fun a ha=> by
 refine Spec.ofN Tryz.func91 rfl Tryz.ntmps91 rfl ?_
 refine am (ai (bf (3,0) _ rfl rfl) (ai (bf (4,0) _ rfl rfl) (ai (bA _ (rfl:_=AV.v (.slice _ _ _))) (aj (aq (am (bv rfl rfl rfl (cG rfl rfl rfl (aj (au ?_))))))))))
 refine aq (bR rfl rfl rfl rfl rfl (oY rfl rfl rfl rfl rfl (am (bv rfl rfl rfl (cG rfl rfl rfl (ai (ay _ aa rfl (by exact (rfl:_=some [_,_]))) ?_))))))
 refine ai (jO (19,0) _ _ aa rfl ag (by (simp <;> rfl)) ah rfl rfl) ?_
 exact fb rfl (aj (aD (aY (.inr rfl) rfl (.tmp (rfl:_=AV.ref _ _ _)) (Le.out [((0,8),(19,0))] [] (cX rfl rfl) rfl rfl rfl trivial ob))))
theorem Dh (hn:(d++v).Nodup) (hl:(d++v).length≤1000) (i:Nat) (hi:i < (d++v).length):CoS (uu d v no on) (nd 14 0 ((d++v).getD i []) []) (fun _=> [{ op:= .var,n:=(i:Int) }]):=fun a ha=> by
 refine Spec.ofN Tryz.func91 rfl Tryz.ntmps91 rfl ?_
 refine am (ai (bf (3,0) _ rfl rfl) (ai (bf (4,0) _ rfl rfl) (ai (bA _ (rfl:_=AV.v (.slice _ _ _))) (aj (aq (am (bv rfl rfl rfl (cG rfl rfl rfl (aj (au ?_))))))))))
 refine aq (bR rfl rfl rfl rfl rfl (cf rfl rfl rfl rfl rfl (eN rfl rfl rfl rfl rfl (am (ai (aP _ aa rfl rfl rfl rfl) (bv rfl rfl rfl (ai (aL _ aa rfl rfl (rfl:_=some (AV.v (.string _)))) (ai (aM aa al (lg d v on no hn hl i hi) rfl rfl) ?_))))))))
 refine ai (ay _ aa rfl (by exact (rfl:_=some [_,_]))) ?_
 refine ai (jO (27,0) _ _ aa rfl ag (by (simp <;> rfl)) ah rfl rfl) ?_
 exact fb rfl (aj (aD (aY (.inr rfl) rfl (.tmp (rfl:_=AV.ref _ _ _)) (Le.out [((0,8),(27,0))] [] (cX rfl rfl) rfl rfl rfl trivial ob))))
theorem Aq (k:Nat) (hk:k < 9):CoS (uu d v no on) (nd 15 0 (bltT.getD k []) []) (fun _=> [{ op:= .name,n:=(k:Int) }]):=fun a ha=> by
 refine Spec.ofN Tryz.func91 rfl Tryz.ntmps91 rfl ?_
 refine am (ai (bf (3,0) _ rfl rfl) (ai (bf (4,0) _ rfl rfl) (ai (bA _ (rfl:_=AV.v (.slice _ _ _))) (aj (aq (am (bv rfl rfl rfl (cG rfl rfl rfl (aj (au ?_))))))))))
 refine aq (bR rfl rfl rfl rfl rfl (cf rfl rfl rfl rfl rfl (bR rfl rfl rfl rfl rfl (eN rfl rfl rfl rfl rfl (aq ?_)))))
 refine aO (σ':=aB 211 [(4,_)] [((4,0),_)] [] []) kp ?_
 refine bE 6 [30,31,32,33,34,35] [(35,0)] ae ae rfl (aK rfl) (rfl:_=[_,_,_,_,_,_]) (rfl:_=[_]) ?_
 refine ap (_,[]) (fun τ=> (aM aa (by repeat' (exact dE)) (mY) rfl rfl)) ?_
 refine eE rfl ?_
 refine ap (_,[]) (fun τ=> aI _ aa rfl rfl rfl) ?_
 refine eF rfl ?_
 refine ap (_,[]) (fun τ=> aL _ aa rfl rfl (rfl:_=some (AV.v (.string _)))) ?_
 refine eD rfl ?_
 refine ap (_,[]) (fun τ=> (aM aa al (vI bltT 9 rfl ab ah k hk) rfl rfl)) ?_
 refine eI rfl ?_
 refine ap (_,[]) (fun τ=> ay _ aa rfl (by exact (rfl:_=some [_,_]))) ?_
 refine eU rfl ?_
 refine ap (_,[((35,0),_)]) (fun τ=> jO (35,0) _ _ aa rfl ag (by (simp <;> rfl)) ah rfl rfl) ?_
 refine fh rfl (bi ⟨rfl,?_⟩)
 exact fb rfl (aj (aD (aY (.inr rfl) rfl (.tmp (rfl:_=AV.ref _ _ _)) (Le.out [((0,8),(35,0))] [] (cX rfl rfl) rfl rfl rfl trivial ob))))
theorem xq (n:Nat):CoS (uu d v no on) (nd 5 n [] []) (fun _=> [{ op:= .timer,n:=(n:Int) }]):=fun a ha=> by
 refine Spec.ofN Tryz.func91 rfl Tryz.ntmps91 rfl ?_
 refine am (ai (bf (3,0) _ rfl rfl) (ai (bf (4,0) _ rfl rfl) (ai (bA _ (rfl:_=AV.v (.slice _ _ _))) (aj (aq (am (bv rfl rfl rfl (cG rfl rfl rfl (aj (au ?_))))))))))
 refine aq (bR rfl rfl rfl rfl rfl (cf rfl rfl rfl rfl rfl ?_))
 iterate 3 refine bR rfl rfl rfl rfl rfl ?_
 refine aq ?_
 refine aO (σ':=aB 211 [(2,_),(3,_),(4,_),(12,_)] [((3,0),_),((4,0),_)] [] []) kp ?_
 refine oY rfl rfl rfl rfl rfl (am (bv rfl rfl rfl (cG rfl rfl rfl (ai (ay _ aa rfl (by exact (rfl:_=some [_,_]))) ?_))))
 refine ai (jO (56,0) _ _ aa rfl ag (by (simp <;> rfl)) ah rfl rfl) ?_
 exact fb rfl (aj (aD (aY (.inr rfl) rfl (.tmp (rfl:_=AV.ref _ _ _)) (Le.out [((0,8),(56,0))] [] (cX rfl rfl) rfl rfl rfl trivial ob))))
theorem vo (n:Nat):CoS (uu d v no on) (nd 6 n [] []) (fun _=> [{ op:= .cancel,n:=(n:Int) }]):=fun a ha=> by
 refine Spec.ofN Tryz.func91 rfl Tryz.ntmps91 rfl ?_
 refine am (ai (bf (3,0) _ rfl rfl) (ai (bf (4,0) _ rfl rfl) (ai (bA _ (rfl:_=AV.v (.slice _ _ _))) (aj (aq (am (bv rfl rfl rfl (cG rfl rfl rfl (aj (au ?_))))))))))
 refine aq (bR rfl rfl rfl rfl rfl (cf rfl rfl rfl rfl rfl ?_))
 iterate 3 refine bR rfl rfl rfl rfl rfl ?_
 refine aq ?_
 refine aO (σ':=aB 211 [(2,_),(3,_),(4,_),(12,_)] [((3,0),_),((4,0),_)] [] []) kp ?_
 refine cf rfl rfl rfl rfl rfl (eN rfl rfl rfl rfl rfl (am (bv rfl rfl rfl (cG rfl rfl rfl (ai (ay _ aa rfl (by exact (rfl:_=some [_,_]))) ?_)))))
 refine ai (jO (62,0) _ _ aa rfl ag (by (simp <;> rfl)) ah rfl rfl) ?_
 exact fb rfl (aj (aD (aY (.inr rfl) rfl (.tmp (rfl:_=AV.ref _ _ _)) (Le.out [((0,8),(62,0))] [] (cX rfl rfl) rfl rfl rfl trivial ob))))
theorem co_sync:CoS (uu d v no on) (nd 7 0 [] []) (fun _=> [{ op:= .sync }]):=fun a ha=> by
 refine Spec.ofN Tryz.func91 rfl Tryz.ntmps91 rfl ?_
 refine am (ai (bf (3,0) _ rfl rfl) (ai (bf (4,0) _ rfl rfl) (ai (bA _ (rfl:_=AV.v (.slice _ _ _))) (aj (aq (am (bv rfl rfl rfl (cG rfl rfl rfl (aj (au ?_))))))))))
 refine aq (bR rfl rfl rfl rfl rfl (cf rfl rfl rfl rfl rfl ?_))
 iterate 3 refine bR rfl rfl rfl rfl rfl ?_
 refine aq ?_
 refine aO (σ':=aB 211 [(2,_),(3,_),(4,_),(12,_)] [((3,0),_),((4,0),_)] [] []) kp ?_
 refine cf rfl rfl rfl rfl rfl (bR rfl rfl rfl rfl rfl (eN rfl rfl rfl rfl rfl (am (ai (ay _ aa rfl (by exact (rfl:_=some [_,_]))) ?_))))
 refine ai (jO (66,0) _ _ aa rfl ag (by (simp <;> rfl)) ah rfl rfl) ?_
 exact fb rfl (aj (aD (aY (.inr rfl) rfl (.tmp (rfl:_=AV.ref _ _ _)) (Le.out [((0,8),(66,0))] [] (cX rfl rfl) rfl rfl rfl trivial ob))))
theorem co_stop:CoS (uu d v no on) (nd 10 0 [] []) (fun _=> [{ op:= .stop }]):=fun a ha=> by
 refine Spec.ofN Tryz.func91 rfl Tryz.ntmps91 rfl ?_
 refine am (ai (bf (3,0) _ rfl rfl) (ai (bf (4,0) _ rfl rfl) (ai (bA _ (rfl:_=AV.v (.slice _ _ _))) (aj (aq (am (bv rfl rfl rfl (cG rfl rfl rfl (aj (au ?_))))))))))
 refine aq (bR rfl rfl rfl rfl rfl (cf rfl rfl rfl rfl rfl ?_))
 iterate 3 refine bR rfl rfl rfl rfl rfl ?_
 refine aq ?_
 refine aO (σ':=aB 211 [(2,_),(3,_),(4,_),(12,_)] [((3,0),_),((4,0),_)] [] []) kp ?_
 refine cf rfl rfl rfl rfl rfl ?_
 iterate 2 refine bR rfl rfl rfl rfl rfl ?_
 refine eN rfl rfl rfl rfl rfl (am (ai (ay _ aa rfl (by exact (rfl:_=some [_,_]))) ?_))
 refine ai (jO (70,0) _ _ aa rfl ag (by (simp <;> rfl)) ah rfl rfl) ?_
 exact fb rfl (aj (aD (aY (.inr rfl) rfl (.tmp (rfl:_=AV.ref _ _ _)) (Le.out [((0,8),(70,0))] [] (cX rfl rfl) rfl rfl rfl trivial ob))))
theorem CB {c y z:Nd} {cc cy cz:Cd} (hc:CoS (uu d v no on) c cc) (hy:CoS (uu d v no on) y cy) (hz:CoS (uu d v no on) z cz):CoS (uu d v no on) (nd 2 0 [] [c,y,z]) (BZ cc cy cz):=fun a ha=> by
 have hb:=kh (on:=on) c cc cy cz hc 1 1 (kG [y]) (kG [z]) 0 (fun a ha=> nr y cy hy 0 a ha) (fun a ha=> nr z cz hz 0 a ha) a ha
 refine Spec.ofN Tryz.func91 rfl Tryz.ntmps91 rfl ?_
 refine am (ai (bf (3,0) _ rfl rfl) (ai (bf (4,0) _ rfl rfl) (ai (bA _ (rfl:_=AV.v (.slice _ _ _))) (aj (aq (am (bv rfl rfl rfl (cG rfl rfl rfl (aj (au ?_))))))))))
 refine aq (bR rfl rfl rfl rfl rfl (cf rfl rfl rfl rfl rfl ?_))
 iterate 2 refine bR rfl rfl rfl rfl rfl ?_
 refine eN rfl rfl rfl rfl rfl (aq ?_)
 refine aO (σ':=aB 211 [(2,_),(3,_),(4,_)] [((3,0),_),((4,0),_)] [] []) kp ?_
 refine bE 12 [38,39,40,41,42,43,44,45,46,47,48,49] [] ae ae rfl (aK rfl) (rfl:_=[_,_,_,_,_,_,_,_,_,_,_,_]) (rfl:_=[_,_]) ?_
 refine ap (_,[]) (fun τ=> aP _ aa rfl rfl rfl rfl) ?_
 refine eE rfl ?_
 refine ap (_,[]) (fun τ=> aI _ aa rfl rfl rfl) ?_
 refine eF rfl ?_
 refine ap (_,[]) (fun τ=> aL _ aa rfl rfl (rfl:_=some (AV.sl _ _))) ?_
 refine eD rfl ?_
 refine ap (_,[]) (fun τ=> bg _ _ aa rfl rfl 0 rfl (show 0 < 3 by omega) (Nat.le_of_ble_eq_true rfl) rfl) ?_
 refine eI rfl ?_
 refine ap (_,[]) (fun τ=> cj _ aa rfl (by exact cH [c,y,z] 0 (by simp)) rfl) ?_
 refine eU rfl ?_
 refine ap (_,[]) (fun τ=> aI _ aa rfl rfl rfl) ?_
 refine fh rfl ?_
 refine ap (_,[]) (fun τ=> aL _ aa rfl rfl (rfl:_=some (AV.sl _ _))) ?_
 refine fZ rfl ?_
 refine ap (_,[]) (fun τ=> kN _ _ _ aa rfl 1 2 (.lit rfl rfl) (.lit rfl rfl) ab (show 2≤3 by omega) (show _=kG [y] from rfl) rfl) ?_
 refine jz rfl ?_
 refine ap (_,[]) (fun τ=> aI _ aa rfl rfl rfl) ?_
 refine jC rfl ?_
 refine ap (_,[]) (fun τ=> aL _ aa rfl rfl (rfl:_=some (AV.sl _ _))) ?_
 refine fK rfl ?_
 refine ap (_,[]) (fun τ=> kN _ _ _ aa rfl 2 3 (.lit rfl rfl) (.lit rfl rfl) ab (show 3≤3 by omega) (show _=kG [z] from rfl) rfl) ?_
 refine gl rfl ?_
 refine ap (_,[]) (fun τ=> aE _ (rfl:_=AV.v (.int _ _))) ?_
 refine kP rfl (bi ⟨rfl,?_⟩)
 refine ai (dl aa [((0,8),(50,0))] ar (hb.toI) trivial tr ae) ?_
 exact fb rfl (aj (aD (aY (.inr rfl) rfl (.tmp (rfl:_=AV.ref _ _ _)) (Le.out [((0,8),(50,0))] [] (cX rfl rfl) rfl rfl rfl trivial ob))))
theorem CC {c y:Nd} {cc cy:Cd} (hc:CoS (uu d v no on) c cc) (hy:CoS (uu d v no on) y cy):CoS (uu d v no on) (nd 18 0 [38,38] [c,y]) (BZ cc cy (fun _=> [{ op:= .push,n:=0 }])):=fun a ha=> by
 have hb:=kh (on:=on) c cc cy (fun _=> [{ op:= .push,n:=0 }]) hc 1 0 (kG [y]) [] 0 (fun a ha=> nr y cy hy 0 a ha) (fun a _=> rx 0 a) a ha
 refine Spec.ofN Tryz.func91 rfl Tryz.ntmps91 rfl ?_
 refine am (ai (bf (3,0) _ rfl rfl) (ai (bf (4,0) _ rfl rfl) (ai (bA _ (rfl:_=AV.v (.slice _ _ _))) (aj (aq (am (bv rfl rfl rfl (cG rfl rfl rfl (aj (au ?_))))))))))
 refine aq (bR rfl rfl rfl rfl rfl (cf rfl rfl rfl rfl rfl ?_))
 iterate 3 refine bR rfl rfl rfl rfl rfl ?_
 refine aq ?_
 refine aO (σ':=aB 211 [(2,_),(3,_),(4,_),(12,_)] [((3,0),_),((4,0),_)] [] []) kp ?_
 refine cf rfl rfl rfl rfl rfl ?_
 iterate 4 refine bR rfl rfl rfl rfl rfl ?_
 refine cg (aq (am (bv rfl rfl rfl (cG rfl rfl rfl (iY rfl rfl rfl (cP rfl (aA rfl rfl (aI _ aa rfl rfl rfl) (aA rfl rfl (aL _ aa rfl rfl (rfl:_=some (AV.v (.string _)))) (aA rfl rfl (aT (r:=true) _ _ Tryz.underlying9 rfl rfl rfl) (ai (aH _ _ _ rfl (rfl:_=AV.v (.bool _))) ?_))))))))))
 refine aj (bF rfl rfl (aq ?_))
 refine aO (σ':=aB 211 [(2,_),(3,_),(4,_)] [((3,0),_),((4,0),_)] [] []) kp ?_
 refine bE 9 [119,120,121,122,123,124,125,126,127] [] ae ae rfl (aK rfl) (rfl:_=[_,_,_,_,_,_,_,_,_]) (rfl:_=[_,_]) ?_
 refine ap (_,[]) (fun τ=> aP _ aa rfl rfl rfl rfl) ?_
 refine eE rfl ?_
 refine ap (_,[]) (fun τ=> aI _ aa rfl rfl rfl) ?_
 refine eF rfl ?_
 refine ap (_,[]) (fun τ=> aL _ aa rfl rfl (rfl:_=some (AV.sl _ _))) ?_
 refine eD rfl ?_
 refine ap (_,[]) (fun τ=> bg _ _ aa rfl rfl 0 rfl (show 0 < 2 by omega) (Nat.le_of_ble_eq_true rfl) rfl) ?_
 refine eI rfl ?_
 refine ap (_,[]) (fun τ=> cj _ aa rfl (by exact cH [c,y] 0 (by simp)) rfl) ?_
 refine eU rfl ?_
 refine ap (_,[]) (fun τ=> aI _ aa rfl rfl rfl) ?_
 refine fh rfl ?_
 refine ap (_,[]) (fun τ=> aL _ aa rfl rfl (rfl:_=some (AV.sl _ _))) ?_
 refine fZ rfl ?_
 refine ap (_,[]) (fun τ=> kN _ _ _ aa rfl 1 2 (.lit rfl rfl) (.lit rfl rfl) ab (show 2≤2 by omega) (show _=kG [y] from rfl) rfl) ?_
 refine jz rfl ?_
 refine ap (_,[]) (fun τ=> aE _ (rfl:_=AV.v (.int _ _))) ?_
 refine jC rfl (bi ⟨rfl,?_⟩)
 refine ai (dl aa [((0,8),(50,0))] ar (hb.toI) trivial tr ae) ?_
 exact fb rfl (aj (aD (aY (.inr rfl) rfl (.tmp (rfl:_=AV.ref _ _ _)) (Le.out [((0,8),(50,0))] [] (cX rfl rfl) rfl rfl rfl trivial ob))))
theorem EZ {c y:Nd} {cc cy:Cd} (hc:CoS (uu d v no on) c cc) (hy:CoS (uu d v no on) y cy):CoS (uu d v no on) (nd 18 0 [124,124] [c,y]) (BZ cc (fun _=> [{ op:= .push,n:=1 }]) cy):=fun a ha=> by
 have hb:=kh (on:=on) c cc (fun _=> [{ op:= .push,n:=1 }]) cy hc 0 1 [] (kG [y]) 1 (fun a _=> rx 1 a) (fun a ha=> nr y cy hy 1 a ha) a ha
 refine Spec.ofN Tryz.func91 rfl Tryz.ntmps91 rfl ?_
 refine am (ai (bf (3,0) _ rfl rfl) (ai (bf (4,0) _ rfl rfl) (ai (bA _ (rfl:_=AV.v (.slice _ _ _))) (aj (aq (am (bv rfl rfl rfl (cG rfl rfl rfl (aj (au ?_))))))))))
 refine aq (bR rfl rfl rfl rfl rfl (cf rfl rfl rfl rfl rfl ?_))
 iterate 3 refine bR rfl rfl rfl rfl rfl ?_
 refine aq ?_
 refine aO (σ':=aB 211 [(2,_),(3,_),(4,_),(12,_)] [((3,0),_),((4,0),_)] [] []) kp ?_
 refine cf rfl rfl rfl rfl rfl ?_
 iterate 4 refine bR rfl rfl rfl rfl rfl ?_
 refine cg (aq (am (bv rfl rfl rfl (cG rfl rfl rfl (iY rfl rfl rfl (cP rfl (aA rfl rfl (aI _ aa rfl rfl rfl) (aA rfl rfl (aL _ aa rfl rfl (rfl:_=some (AV.v (.string _)))) (aA rfl rfl (aT (r:=false) _ _ Tryz.underlying9 rfl rfl rfl) (ai (aH _ _ _ rfl (rfl:_=AV.v (.bool _))) ?_))))))))))
 refine aj (aR rfl rfl (aJ (aq (aq ?_))))
 refine aO (σ':=aB 211 [(2,_),(3,_),(4,_)] [((3,0),_),((4,0),_)] [] []) kp ?_
 refine an (bv rfl rfl rfl (cG rfl rfl rfl (iY rfl rfl rfl (cP rfl (aA rfl rfl (aI _ aa rfl rfl rfl) (aA rfl rfl (aL _ aa rfl rfl (rfl:_=some (AV.v (.string _)))) (aA rfl rfl (aT (r:=true) _ _ Tryz.underlying9 rfl rfl rfl) (ai (aH _ _ _ rfl (rfl:_=AV.v (.bool _))) (aj (bF rfl rfl ?_))))))))))
 refine aq ?_
 refine aO (σ':=aB 211 [(2,_),(3,_),(4,_)] [((3,0),_),((4,0),_)] [] []) kp ?_
 refine bE 9 [137,138,139,140,141,142,143,144,145] [] ae ae rfl (aK rfl) (rfl:_=[_,_,_,_,_,_,_,_,_]) (rfl:_=[_,_]) ?_
 refine ap (_,[]) (fun τ=> aP _ aa rfl rfl rfl rfl) ?_
 refine eE rfl ?_
 refine ap (_,[]) (fun τ=> aI _ aa rfl rfl rfl) ?_
 refine eF rfl ?_
 refine ap (_,[]) (fun τ=> aL _ aa rfl rfl (rfl:_=some (AV.sl _ _))) ?_
 refine eD rfl ?_
 refine ap (_,[]) (fun τ=> bg _ _ aa rfl rfl 0 rfl (show 0 < 2 by omega) (Nat.le_of_ble_eq_true rfl) rfl) ?_
 refine eI rfl ?_
 refine ap (_,[]) (fun τ=> cj _ aa rfl (by exact cH [c,y] 0 (by simp)) rfl) ?_
 refine eU rfl ?_
 refine ap (_,[]) (fun τ=> aI _ aa rfl rfl rfl) ?_
 refine fh rfl ?_
 refine ap (_,[]) (fun τ=> aL _ aa rfl rfl (rfl:_=some (AV.sl _ _))) ?_
 refine fZ rfl ?_
 refine ap (_,[]) (fun τ=> kN _ _ _ aa rfl 1 2 (.lit rfl rfl) (.lit rfl rfl) ab (show 2≤2 by omega) (show _=kG [y] from rfl) rfl) ?_
 refine jz rfl ?_
 refine ap (_,[]) (fun τ=> aE _ (rfl:_=AV.v (.int _ _))) ?_
 refine jC rfl (bi ⟨rfl,?_⟩)
 refine ai (dl aa [((0,8),(50,0))] ar (hb.toI) trivial tr ae) ?_
 exact fb rfl (aj (aD (aY (.inr rfl) rfl (.tmp (rfl:_=AV.ref _ _ _)) (Le.out [((0,8),(50,0))] [] (cX rfl rfl) rfl rfl rfl trivial ob))))
theorem zW {L:List Nd} {cs:List Cd} (hc:cs.length=L.length) (hk:kU (uu d v no on) L cs):CoS (uu d v no on) (nd 16 0 [] L) (fun a=> cN cs a++[{ op:= .draw }]):=fun a ha=> by
 have hl2:a+(cN cs a).length≤1000000:=by simp only [List.length_append] at ha;omega
 have hq:=dw (d:=d) (v:=v) (no:=no) (on:=on) L cs hc hk a hl2
 refine Spec.ofN Tryz.func91 rfl Tryz.ntmps91 rfl ?_
 refine am (ai (bf (3,0) _ rfl rfl) (ai (bf (4,0) _ rfl rfl) (ai (bA _ (rfl:_=AV.v (.slice _ _ _))) (aj (aq (am (bv rfl rfl rfl (cG rfl rfl rfl (aj (au ?_))))))))))
 refine aq (bR rfl rfl rfl rfl rfl (cf rfl rfl rfl rfl rfl ?_))
 iterate 3 refine bR rfl rfl rfl rfl rfl ?_
 refine aq ?_
 refine aO (σ':=aB 211 [(2,_),(3,_),(4,_),(12,_)] [((3,0),_),((4,0),_)] [] []) kp ?_
 refine cf rfl rfl rfl rfl rfl ?_
 iterate 4 refine bR rfl rfl rfl rfl rfl ?_
 refine cg (aq (am (bv rfl rfl rfl (cG rfl rfl rfl (eJ rfl rfl rfl (cP rfl (aU rfl rfl ah ?_)))))))
 refine aU rfl rfl ah ?_
 refine aU rfl rfl ah ?_
 refine ai (aH _ _ _ rfl (rfl:_=AV.v (.bool _))) (aj (aR rfl rfl (aJ (aq (aq ?_)))))
 refine aO (σ':=aB 211 [(2,_),(3,_),(4,_)] [((3,0),_),((4,0),_)] [] []) kp ?_
 refine an (bv rfl rfl rfl (cG rfl rfl rfl (eJ rfl rfl rfl (cP rfl (aU rfl rfl ah ?_)))))
 refine aU rfl rfl ah ?_
 refine aU rfl rfl ah ?_
 refine ai (aH _ _ _ rfl (rfl:_=AV.v (.bool _))) (aj (aR rfl rfl (aJ (am (ai (aP _ aa rfl rfl rfl rfl) (bv rfl rfl rfl (fG rfl rfl rfl (aS rfl (ai (dl aa [((0,8),(50,0))] ar (hq.toI) trivial tr ae) ?_)))))))))
 refine fb rfl (aj (aq (am (bv rfl rfl rfl (cG rfl rfl rfl (aj (au (aq ?_))))))))
 refine aO (σ':=aB 211 [(3,_),(4,_),(10,_),(153,_)] [((3,0),_),((4,0),_),((50,0),_)] [] []) kp ?_
 refine cf rfl rfl rfl rfl rfl (eN rfl rfl rfl rfl rfl (am (gD rfl (ai (ay _ aa rfl (by exact (rfl:_=some [_,_]))) ?_))))
 refine ai (aX _ _ aa rfl ag (by (simp <;> rfl)) ah rfl) ?_
 refine ai (dt (166,0) _ _ aa rfl rfl (bQ _).symm (.sl rfl) ab rfl (ev _ { op:= .draw }) (show (cN cs a).length+1=(cN cs a++[({ op:= .draw }:eu)]).length by simp)) ?_
 exact fb rfl (aj (aD (aY (.inr rfl) rfl (.tmp (rfl:_=AV.ref _ _ _)) (Le.out [((0,8),(166,0))] [] (cX rfl rfl) rfl rfl rfl trivial ob))))
theorem DN {L:List Nd} {cs:List Cd} (hc:cs.length=L.length) (hk:kU (uu d v no on) L cs):CoS (uu d v no on) (nd 17 0 [45] L) (fun a=> cN cs a++[{ op:= .neg }]):=fun a ha=> by
 have hl2:a+(cN cs a).length≤1000000:=by simp only [List.length_append] at ha;omega
 have hq:=dw (d:=d) (v:=v) (no:=no) (on:=on) L cs hc hk a hl2
 refine Spec.ofN Tryz.func91 rfl Tryz.ntmps91 rfl ?_
 refine am (ai (bf (3,0) _ rfl rfl) (ai (bf (4,0) _ rfl rfl) (ai (bA _ (rfl:_=AV.v (.slice _ _ _))) (aj (aq (am (bv rfl rfl rfl (cG rfl rfl rfl (aj (au ?_))))))))))
 refine aq (bR rfl rfl rfl rfl rfl (cf rfl rfl rfl rfl rfl ?_))
 iterate 3 refine bR rfl rfl rfl rfl rfl ?_
 refine aq ?_
 refine aO (σ':=aB 211 [(2,_),(3,_),(4,_),(12,_)] [((3,0),_),((4,0),_)] [] []) kp ?_
 refine cf rfl rfl rfl rfl rfl ?_
 iterate 4 refine bR rfl rfl rfl rfl rfl ?_
 refine cg (aq (am (bv rfl rfl rfl (cG rfl rfl rfl (eJ rfl rfl rfl (cP rfl (aU rfl rfl ah ?_)))))))
 refine aU rfl rfl ah ?_
 refine aU rfl rfl ah ?_
 refine ai (aH _ _ _ rfl (rfl:_=AV.v (.bool _))) (aj (aR rfl rfl (aJ (aq (aq ?_)))))
 refine aO (σ':=aB 211 [(2,_),(3,_),(4,_)] [((3,0),_),((4,0),_)] [] []) kp ?_
 refine an (bv rfl rfl rfl (cG rfl rfl rfl (eJ rfl rfl rfl (cP rfl (aU rfl rfl ah ?_)))))
 refine aU rfl rfl ah ?_
 refine aU rfl rfl ah ?_
 refine ai (aH _ _ _ rfl (rfl:_=AV.v (.bool _))) (aj (aR rfl rfl (aJ (am (ai (aP _ aa rfl rfl rfl rfl) (bv rfl rfl rfl (fG rfl rfl rfl (aS rfl (ai (dl aa [((0,8),(50,0))] ar (hq.toI) trivial tr ae) ?_)))))))))
 refine fb rfl (aj (aq (am (bv rfl rfl rfl (cG rfl rfl rfl (aj (au (aq ?_))))))))
 refine aO (σ':=aB 211 [(3,_),(4,_),(10,_),(153,_)] [((3,0),_),((4,0),_),((50,0),_)] [] []) kp ?_
 refine cf rfl rfl rfl rfl rfl (bR rfl rfl rfl rfl rfl (eN rfl rfl rfl rfl rfl (aq (am (bv rfl rfl rfl (ai (aL _ aa rfl rfl (rfl:_=some (AV.v (.string _)))) (ai (aT (r:=true) _ _ Tryz.underlying9 rfl rfl rfl) (aj (bF rfl rfl (am ?_))))))))))
 refine gD rfl (ai (ay _ aa rfl (by exact (rfl:_=some [_,_]))) ?_)
 refine ai (aX _ _ aa rfl ag (by (simp <;> rfl)) ah rfl) ?_
 refine ai (dt (175,0) _ _ aa rfl rfl (bQ _).symm (.sl rfl) ab rfl (ev _ { op:= .neg }) (show (cN cs a).length+1=(cN cs a++[({ op:= .neg }:eu)]).length by simp)) ?_
 exact fb rfl (aj (aD (aY (.inr rfl) rfl (.tmp (rfl:_=AV.ref _ _ _)) (Le.out [((0,8),(175,0))] [] (cX rfl rfl) rfl rfl rfl trivial ob))))
theorem Ec {L:List Nd} {cs:List Cd} (hc:cs.length=L.length) (hk:kU (uu d v no on) L cs):CoS (uu d v no on) (nd 17 0 [33] L) (fun a=> cN cs a++[{ op:= .not }]):=fun a ha=> by
 have hl2:a+(cN cs a).length≤1000000:=by simp only [List.length_append] at ha;omega
 have hq:=dw (d:=d) (v:=v) (no:=no) (on:=on) L cs hc hk a hl2
 refine Spec.ofN Tryz.func91 rfl Tryz.ntmps91 rfl ?_
 refine am (ai (bf (3,0) _ rfl rfl) (ai (bf (4,0) _ rfl rfl) (ai (bA _ (rfl:_=AV.v (.slice _ _ _))) (aj (aq (am (bv rfl rfl rfl (cG rfl rfl rfl (aj (au ?_))))))))))
 refine aq (bR rfl rfl rfl rfl rfl (cf rfl rfl rfl rfl rfl ?_))
 iterate 3 refine bR rfl rfl rfl rfl rfl ?_
 refine aq ?_
 refine aO (σ':=aB 211 [(2,_),(3,_),(4,_),(12,_)] [((3,0),_),((4,0),_)] [] []) kp ?_
 refine cf rfl rfl rfl rfl rfl ?_
 iterate 4 refine bR rfl rfl rfl rfl rfl ?_
 refine cg (aq (am (bv rfl rfl rfl (cG rfl rfl rfl (eJ rfl rfl rfl (cP rfl (aU rfl rfl ah ?_)))))))
 refine aU rfl rfl ah ?_
 refine aU rfl rfl ah ?_
 refine ai (aH _ _ _ rfl (rfl:_=AV.v (.bool _))) (aj (aR rfl rfl (aJ (aq (aq ?_)))))
 refine aO (σ':=aB 211 [(2,_),(3,_),(4,_)] [((3,0),_),((4,0),_)] [] []) kp ?_
 refine an (bv rfl rfl rfl (cG rfl rfl rfl (eJ rfl rfl rfl (cP rfl (aU rfl rfl ah ?_)))))
 refine aU rfl rfl ah ?_
 refine aU rfl rfl ah ?_
 refine ai (aH _ _ _ rfl (rfl:_=AV.v (.bool _))) (aj (aR rfl rfl (aJ (am (ai (aP _ aa rfl rfl rfl rfl) (bv rfl rfl rfl (fG rfl rfl rfl (aS rfl (ai (dl aa [((0,8),(50,0))] ar (hq.toI) trivial tr ae) ?_)))))))))
 refine fb rfl (aj (aq (am (bv rfl rfl rfl (cG rfl rfl rfl (aj (au (aq ?_))))))))
 refine aO (σ':=aB 211 [(3,_),(4,_),(10,_),(153,_)] [((3,0),_),((4,0),_),((50,0),_)] [] []) kp ?_
 refine cf rfl rfl rfl rfl rfl (bR rfl rfl rfl rfl rfl (eN rfl rfl rfl rfl rfl (aq (am (bv rfl rfl rfl (ai (aL _ aa rfl rfl (rfl:_=some (AV.v (.string _)))) (ai (aT (r:=false) _ _ Tryz.underlying9 rfl rfl rfl) (aj (aR rfl rfl (aJ ?_))))))))))
 refine am (gD rfl (ai (ay _ aa rfl (by exact (rfl:_=some [_,_]))) ?_))
 refine ai (aX _ _ aa rfl ag (by (simp <;> rfl)) ah rfl) ?_
 refine ai (dt (179,0) _ _ aa rfl rfl (bQ _).symm (.sl rfl) ab rfl (ev _ { op:= .not }) (show (cN cs a).length+1=(cN cs a++[({ op:= .not }:eu)]).length by simp)) ?_
 exact fb rfl (aj (aD (aY (.inr rfl) rfl (.tmp (rfl:_=AV.ref _ _ _)) (Le.out [((0,8),(179,0))] [] (cX rfl rfl) rfl rfl rfl trivial ob))))
theorem uH {L:List Nd} {cs:List Cd} (hc:cs.length=L.length) (hk:kU (uu d v no on) L cs) (hn:(d++v).Nodup) (hl:(d++v).length≤1000) (i:Nat) (hi:i < (d++v).length):CoS (uu d v no on) (nd 1 0 ((d++v).getD i []) L) (fun a=> cN cs a++[{ op:= .setVar,n:=(i:Int) }]):=fun a ha=> by
 have hl2:a+(cN cs a).length≤1000000:=by simp only [List.length_append] at ha;omega
 have hq:=dw (d:=d) (v:=v) (no:=no) (on:=on) L cs hc hk a hl2
 refine Spec.ofN Tryz.func91 rfl Tryz.ntmps91 rfl ?_
 refine am (ai (bf (3,0) _ rfl rfl) (ai (bf (4,0) _ rfl rfl) (ai (bA _ (rfl:_=AV.v (.slice _ _ _))) (aj (aq (am (bv rfl rfl rfl (cG rfl rfl rfl (aj (au ?_))))))))))
 refine aq (bR rfl rfl rfl rfl rfl (cf rfl rfl rfl rfl rfl ?_))
 iterate 3 refine bR rfl rfl rfl rfl rfl ?_
 refine aq ?_
 refine aO (σ':=aB 211 [(2,_),(3,_),(4,_),(12,_)] [((3,0),_),((4,0),_)] [] []) kp ?_
 refine cf rfl rfl rfl rfl rfl ?_
 iterate 4 refine bR rfl rfl rfl rfl rfl ?_
 refine cg (aq (am (bv rfl rfl rfl (cG rfl rfl rfl (eJ rfl rfl rfl (cP rfl (aU rfl rfl ah ?_)))))))
 refine aU rfl rfl ah ?_
 refine aU rfl rfl ah ?_
 refine ai (aH _ _ _ rfl (rfl:_=AV.v (.bool _))) (aj (aR rfl rfl (aJ (aq (aq ?_)))))
 refine aO (σ':=aB 211 [(2,_),(3,_),(4,_)] [((3,0),_),((4,0),_)] [] []) kp ?_
 refine an (bv rfl rfl rfl (cG rfl rfl rfl (eJ rfl rfl rfl (cP rfl (aU rfl rfl ah ?_)))))
 refine aU rfl rfl ah ?_
 refine aU rfl rfl ah ?_
 refine ai (aH _ _ _ rfl (rfl:_=AV.v (.bool _))) (aj (aR rfl rfl (aJ (am (ai (aP _ aa rfl rfl rfl rfl) (bv rfl rfl rfl (fG rfl rfl rfl (aS rfl (ai (dl aa [((0,8),(50,0))] ar (hq.toI) trivial tr ae) ?_)))))))))
 refine fb rfl (aj (aq (am (bv rfl rfl rfl (cG rfl rfl rfl (aj (au (aq ?_))))))))
 refine aO (σ':=aB 211 [(3,_),(4,_),(10,_),(153,_)] [((3,0),_),((4,0),_),((50,0),_)] [] []) kp ?_
 refine cf rfl rfl rfl rfl rfl ?_
 iterate 2 refine bR rfl rfl rfl rfl rfl ?_
 refine eN rfl rfl rfl rfl rfl (am (gD rfl (ai (aP _ aa rfl rfl rfl rfl) (bv rfl rfl rfl (ai (aL _ aa rfl rfl (rfl:_=some (AV.v (.string _)))) (ai (aM aa al (lg d v on no hn hl i hi) rfl rfl) ?_))))))
 refine ai (ay _ aa rfl (by exact (rfl:_=some [_,_]))) ?_
 refine ai (aX _ _ aa rfl ag (by (simp <;> rfl)) ah rfl) ?_
 refine ai (dt (189,0) _ _ aa rfl rfl (bQ _).symm (.sl rfl) ab rfl (ev _ { op:= .setVar,n:=(i:Int) }) (show (cN cs a).length+1=(cN cs a++[({ op:= .setVar,n:=(i:Int) }:eu)]).length by simp)) ?_
 exact fb rfl (aj (aD (aY (.inr rfl) rfl (.tmp (rfl:_=AV.ref _ _ _)) (Le.out [((0,8),(189,0))] [] (cX rfl rfl) rfl rfl rfl trivial ob))))
theorem Bf {L:List Nd} {cs:List Cd} (hc:cs.length=L.length) (hk:kU (uu d v no on) L cs) (n:Nat):CoS (uu d v no on) (nd 4 n [] L) (fun a=> cN cs a++[{ op:= .send,n:=(n:Int) }]):=fun a ha=> by
 have hl2:a+(cN cs a).length≤1000000:=by simp only [List.length_append] at ha;omega
 have hq:=dw (d:=d) (v:=v) (no:=no) (on:=on) L cs hc hk a hl2
 refine Spec.ofN Tryz.func91 rfl Tryz.ntmps91 rfl ?_
 refine am (ai (bf (3,0) _ rfl rfl) (ai (bf (4,0) _ rfl rfl) (ai (bA _ (rfl:_=AV.v (.slice _ _ _))) (aj (aq (am (bv rfl rfl rfl (cG rfl rfl rfl (aj (au ?_))))))))))
 refine aq (bR rfl rfl rfl rfl rfl (cf rfl rfl rfl rfl rfl ?_))
 iterate 3 refine bR rfl rfl rfl rfl rfl ?_
 refine aq ?_
 refine aO (σ':=aB 211 [(2,_),(3,_),(4,_),(12,_)] [((3,0),_),((4,0),_)] [] []) kp ?_
 refine cf rfl rfl rfl rfl rfl ?_
 iterate 4 refine bR rfl rfl rfl rfl rfl ?_
 refine cg (aq (am (bv rfl rfl rfl (cG rfl rfl rfl (eJ rfl rfl rfl (cP rfl (aU rfl rfl ah ?_)))))))
 refine aU rfl rfl ah ?_
 refine aU rfl rfl ah ?_
 refine ai (aH _ _ _ rfl (rfl:_=AV.v (.bool _))) (aj (aR rfl rfl (aJ (aq (aq ?_)))))
 refine aO (σ':=aB 211 [(2,_),(3,_),(4,_)] [((3,0),_),((4,0),_)] [] []) kp ?_
 refine an (bv rfl rfl rfl (cG rfl rfl rfl (eJ rfl rfl rfl (cP rfl (aU rfl rfl ah ?_)))))
 refine aU rfl rfl ah ?_
 refine aU rfl rfl ah ?_
 refine ai (aH _ _ _ rfl (rfl:_=AV.v (.bool _))) (aj (aR rfl rfl (aJ (am (ai (aP _ aa rfl rfl rfl rfl) (bv rfl rfl rfl (fG rfl rfl rfl (aS rfl (ai (dl aa [((0,8),(50,0))] ar (hq.toI) trivial tr ae) ?_)))))))))
 refine fb rfl (aj (aq (am (bv rfl rfl rfl (cG rfl rfl rfl (aj (au (aq ?_))))))))
 refine aO (σ':=aB 211 [(3,_),(4,_),(10,_),(153,_)] [((3,0),_),((4,0),_),((50,0),_)] [] []) kp ?_
 refine cf rfl rfl rfl rfl rfl ?_
 iterate 3 refine bR rfl rfl rfl rfl rfl ?_
 refine eN rfl rfl rfl rfl rfl (am (gD rfl (bv rfl rfl rfl (cG rfl rfl rfl (ai (ay _ aa rfl (by exact (rfl:_=some [_,_]))) ?_)))))
 refine ai (aX _ _ aa rfl ag (by (simp <;> rfl)) ah rfl) ?_
 refine ai (dt (197,0) _ _ aa rfl rfl (bQ _).symm (.sl rfl) ab rfl (ev _ { op:= .send,n:=(n:Int) }) (show (cN cs a).length+1=(cN cs a++[({ op:= .send,n:=(n:Int) }:eu)]).length by simp)) ?_
 exact fb rfl (aj (aD (aY (.inr rfl) rfl (.tmp (rfl:_=AV.ref _ _ _)) (Le.out [((0,8),(197,0))] [] (cX rfl rfl) rfl rfl rfl trivial ob))))
theorem xF {L:List Nd} {cs:List Cd} (hc:cs.length=L.length) (hk:kU (uu d v no on) L cs):CoS (uu d v no on) (nd 8 0 [] L) (fun a=> cN cs a++[{ op:= .reply }]):=fun a ha=> by
 have hl2:a+(cN cs a).length≤1000000:=by simp only [List.length_append] at ha;omega
 have hq:=dw (d:=d) (v:=v) (no:=no) (on:=on) L cs hc hk a hl2
 refine Spec.ofN Tryz.func91 rfl Tryz.ntmps91 rfl ?_
 refine am (ai (bf (3,0) _ rfl rfl) (ai (bf (4,0) _ rfl rfl) (ai (bA _ (rfl:_=AV.v (.slice _ _ _))) (aj (aq (am (bv rfl rfl rfl (cG rfl rfl rfl (aj (au ?_))))))))))
 refine aq (bR rfl rfl rfl rfl rfl (cf rfl rfl rfl rfl rfl ?_))
 iterate 3 refine bR rfl rfl rfl rfl rfl ?_
 refine aq ?_
 refine aO (σ':=aB 211 [(2,_),(3,_),(4,_),(12,_)] [((3,0),_),((4,0),_)] [] []) kp ?_
 refine cf rfl rfl rfl rfl rfl ?_
 iterate 4 refine bR rfl rfl rfl rfl rfl ?_
 refine cg (aq (am (bv rfl rfl rfl (cG rfl rfl rfl (eJ rfl rfl rfl (cP rfl (aU rfl rfl ah ?_)))))))
 refine aU rfl rfl ah ?_
 refine aU rfl rfl ah ?_
 refine ai (aH _ _ _ rfl (rfl:_=AV.v (.bool _))) (aj (aR rfl rfl (aJ (aq (aq ?_)))))
 refine aO (σ':=aB 211 [(2,_),(3,_),(4,_)] [((3,0),_),((4,0),_)] [] []) kp ?_
 refine an (bv rfl rfl rfl (cG rfl rfl rfl (eJ rfl rfl rfl (cP rfl (aU rfl rfl ah ?_)))))
 refine aU rfl rfl ah ?_
 refine aU rfl rfl ah ?_
 refine ai (aH _ _ _ rfl (rfl:_=AV.v (.bool _))) (aj (aR rfl rfl (aJ (am (ai (aP _ aa rfl rfl rfl rfl) (bv rfl rfl rfl (fG rfl rfl rfl (aS rfl (ai (dl aa [((0,8),(50,0))] ar (hq.toI) trivial tr ae) ?_)))))))))
 refine fb rfl (aj (aq (am (bv rfl rfl rfl (cG rfl rfl rfl (aj (au (aq ?_))))))))
 refine aO (σ':=aB 211 [(3,_),(4,_),(10,_),(153,_)] [((3,0),_),((4,0),_),((50,0),_)] [] []) kp ?_
 refine cf rfl rfl rfl rfl rfl ?_
 iterate 4 refine bR rfl rfl rfl rfl rfl ?_
 refine eN rfl rfl rfl rfl rfl (am (gD rfl (ai (ay _ aa rfl (by exact (rfl:_=some [_,_]))) ?_)))
 refine ai (aX _ _ aa rfl ag (by (simp <;> rfl)) ah rfl) ?_
 refine ai (dt (203,0) _ _ aa rfl rfl (bQ _).symm (.sl rfl) ab rfl (ev _ { op:= .reply }) (show (cN cs a).length+1=(cN cs a++[({ op:= .reply }:eu)]).length by simp)) ?_
 exact fb rfl (aj (aD (aY (.inr rfl) rfl (.tmp (rfl:_=AV.ref _ _ _)) (Le.out [((0,8),(203,0))] [] (cX rfl rfl) rfl rfl rfl trivial ob))))
theorem Aj {L:List Nd} {cs:List Cd} (hc:cs.length=L.length) (hk:kU (uu d v no on) L cs):CoS (uu d v no on) (nd 9 0 [] L) (fun a=> cN cs a++[{ op:= .fail }]):=fun a ha=> by
 have hl2:a+(cN cs a).length≤1000000:=by simp only [List.length_append] at ha;omega
 have hq:=dw (d:=d) (v:=v) (no:=no) (on:=on) L cs hc hk a hl2
 refine Spec.ofN Tryz.func91 rfl Tryz.ntmps91 rfl ?_
 refine am (ai (bf (3,0) _ rfl rfl) (ai (bf (4,0) _ rfl rfl) (ai (bA _ (rfl:_=AV.v (.slice _ _ _))) (aj (aq (am (bv rfl rfl rfl (cG rfl rfl rfl (aj (au ?_))))))))))
 refine aq (bR rfl rfl rfl rfl rfl (cf rfl rfl rfl rfl rfl ?_))
 iterate 3 refine bR rfl rfl rfl rfl rfl ?_
 refine aq ?_
 refine aO (σ':=aB 211 [(2,_),(3,_),(4,_),(12,_)] [((3,0),_),((4,0),_)] [] []) kp ?_
 refine cf rfl rfl rfl rfl rfl ?_
 iterate 4 refine bR rfl rfl rfl rfl rfl ?_
 refine cg (aq (am (bv rfl rfl rfl (cG rfl rfl rfl (eJ rfl rfl rfl (cP rfl (aU rfl rfl ah ?_)))))))
 refine aU rfl rfl ah ?_
 refine aU rfl rfl ah ?_
 refine ai (aH _ _ _ rfl (rfl:_=AV.v (.bool _))) (aj (aR rfl rfl (aJ (aq (aq ?_)))))
 refine aO (σ':=aB 211 [(2,_),(3,_),(4,_)] [((3,0),_),((4,0),_)] [] []) kp ?_
 refine an (bv rfl rfl rfl (cG rfl rfl rfl (eJ rfl rfl rfl (cP rfl (aU rfl rfl ah ?_)))))
 refine aU rfl rfl ah ?_
 refine aU rfl rfl ah ?_
 refine ai (aH _ _ _ rfl (rfl:_=AV.v (.bool _))) (aj (aR rfl rfl (aJ (am (ai (aP _ aa rfl rfl rfl rfl) (bv rfl rfl rfl (fG rfl rfl rfl (aS rfl (ai (dl aa [((0,8),(50,0))] ar (hq.toI) trivial tr ae) ?_)))))))))
 refine fb rfl (aj (aq (am (bv rfl rfl rfl (cG rfl rfl rfl (aj (au (aq ?_))))))))
 refine aO (σ':=aB 211 [(3,_),(4,_),(10,_),(153,_)] [((3,0),_),((4,0),_),((50,0),_)] [] []) kp ?_
 refine cf rfl rfl rfl rfl rfl ?_
 iterate 5 refine bR rfl rfl rfl rfl rfl ?_
 refine eN rfl rfl rfl rfl rfl (am (gD rfl (ai (ay _ aa rfl (by exact (rfl:_=some [_,_]))) ?_)))
 refine ai (aX _ _ aa rfl ag (by (simp <;> rfl)) ah rfl) ?_
 refine ai (dt (209,0) _ _ aa rfl rfl (bQ _).symm (.sl rfl) ab rfl (ev _ { op:= .fail }) (show (cN cs a).length+1=(cN cs a++[({ op:= .fail }:eu)]).length by simp)) ?_
 exact fb rfl (aj (aD (aY (.inr rfl) rfl (.tmp (rfl:_=AV.ref _ _ _)) (Le.out [((0,8),(209,0))] [] (cX rfl rfl) rfl rfl rfl trivial ob))))
theorem wE {L:List Nd} {cs:List Cd} (hc:cs.length=L.length) (hk:kU (uu d v no on) L cs):CoS (uu d v no on) (nd 11 0 [] L) (fun a=> cN cs a):=fun a ha=> by
 have hl2:a+(cN cs a).length≤1000000:=ha
 have hq:=dw (d:=d) (v:=v) (no:=no) (on:=on) L cs hc hk a hl2
 refine Spec.ofN Tryz.func91 rfl Tryz.ntmps91 rfl ?_
 refine am (ai (bf (3,0) _ rfl rfl) (ai (bf (4,0) _ rfl rfl) (ai (bA _ (rfl:_=AV.v (.slice _ _ _))) (aj (aq (am (bv rfl rfl rfl (cG rfl rfl rfl (aj (au ?_))))))))))
 refine aq (bR rfl rfl rfl rfl rfl (cf rfl rfl rfl rfl rfl ?_))
 iterate 3 refine bR rfl rfl rfl rfl rfl ?_
 refine aq ?_
 refine aO (σ':=aB 211 [(2,_),(3,_),(4,_),(12,_)] [((3,0),_),((4,0),_)] [] []) kp ?_
 refine cf rfl rfl rfl rfl rfl ?_
 iterate 4 refine bR rfl rfl rfl rfl rfl ?_
 refine cg (aq (am (bv rfl rfl rfl (cG rfl rfl rfl (eJ rfl rfl rfl (cP rfl (aU rfl rfl ah ?_)))))))
 refine aU rfl rfl ah ?_
 refine aU rfl rfl ah ?_
 refine ai (aH _ _ _ rfl (rfl:_=AV.v (.bool _))) (aj (aR rfl rfl (aJ (aq (aq ?_)))))
 refine aO (σ':=aB 211 [(2,_),(3,_),(4,_)] [((3,0),_),((4,0),_)] [] []) kp ?_
 refine an (bv rfl rfl rfl (cG rfl rfl rfl (eJ rfl rfl rfl (cP rfl (aU rfl rfl ah ?_)))))
 refine aU rfl rfl ah ?_
 refine aU rfl rfl ah ?_
 refine ai (aH _ _ _ rfl (rfl:_=AV.v (.bool _))) (aj (aR rfl rfl (aJ (am (ai (aP _ aa rfl rfl rfl rfl) (bv rfl rfl rfl (fG rfl rfl rfl (aS rfl (ai (dl aa [((0,8),(50,0))] ar (hq.toI) trivial tr ae) ?_)))))))))
 refine fb rfl (aj (aq (am (bv rfl rfl rfl (cG rfl rfl rfl (aj (au (aq ?_))))))))
 refine aO (σ':=aB 211 [(3,_),(4,_),(10,_),(153,_)] [((3,0),_),((4,0),_),((50,0),_)] [] []) kp ?_
 refine cf rfl rfl rfl rfl rfl ?_
 iterate 6 refine bR rfl rfl rfl rfl rfl ?_
 exact cg (am (gD rfl (fb rfl (aj (aD (aY (.inr rfl) rfl (.tmp (rfl:_=AV.ref _ _ _)) (Le.out [((0,8),(50,0))] [] (cX rfl rfl) rfl rfl rfl trivial ob)))))))
theorem Dn {L:List Nd} {cs:List Cd} (hc:cs.length=L.length) (hk:kU (uu d v no on) L cs) (o:Bo):CoS (uu d v no on) (nd 18 0 o.txt L) (fun a=> cN cs a++o.code):=fun a ha=> by
 have hol:o.code.length≤2:=by cases o <;> decide
 have hs1:o.txt≠[38,38]:=by cases o <;> decide
 have hs2:o.txt≠[124,124]:=by cases o <;> decide
 have hl2:a+(cN cs a).length≤1000000:=by simp only [List.length_append] at ha;omega
 have hq:=dw (d:=d) (v:=v) (no:=no) (on:=on) L cs hc hk a hl2
 refine Spec.ofN Tryz.func91 rfl Tryz.ntmps91 rfl ?_
 refine am (ai (bf (3,0) _ rfl rfl) (ai (bf (4,0) _ rfl rfl) (ai (bA _ (rfl:_=AV.v (.slice _ _ _))) (aj (aq (am (bv rfl rfl rfl (cG rfl rfl rfl (aj (au ?_))))))))))
 refine aq (bR rfl rfl rfl rfl rfl (cf rfl rfl rfl rfl rfl ?_))
 iterate 3 refine bR rfl rfl rfl rfl rfl ?_
 refine aq ?_
 refine aO (σ':=aB 211 [(2,_),(3,_),(4,_),(12,_)] [((3,0),_),((4,0),_)] [] []) kp ?_
 refine cf rfl rfl rfl rfl rfl ?_
 iterate 4 refine bR rfl rfl rfl rfl rfl ?_
 refine cg (aq (am (bv rfl rfl rfl (cG rfl rfl rfl (iY rfl rfl rfl (cP rfl (aA rfl rfl (aI _ aa rfl rfl rfl) (aA rfl rfl (aL _ aa rfl rfl (rfl:_=some (AV.v (.string _)))) (aA rfl rfl (aT (r:=false) _ _ Tryz.underlying9 rfl rfl (beq_eq_false_iff_ne.2 hs1)) ?_)))))))))
 refine ai (aH _ _ _ rfl (rfl:_=AV.v (.bool _))) (aj (aR rfl rfl (aJ (aq (aq ?_)))))
 refine aO (σ':=aB 211 [(2,_),(3,_),(4,_)] [((3,0),_),((4,0),_)] [] []) kp ?_
 refine an (bv rfl rfl rfl (cG rfl rfl rfl (iY rfl rfl rfl (cP rfl (aA rfl rfl (aI _ aa rfl rfl rfl) (aA rfl rfl (aL _ aa rfl rfl (rfl:_=some (AV.v (.string _)))) (aA rfl rfl (aT (r:=false) _ _ Tryz.underlying9 rfl rfl (beq_eq_false_iff_ne.2 hs2)) ?_)))))))
 refine ai (aH _ _ _ rfl (rfl:_=AV.v (.bool _))) (aj (aR rfl rfl (aJ (am (ai (aP _ aa rfl rfl rfl rfl) (bv rfl rfl rfl (fG rfl rfl rfl (aS rfl (ai (dl aa [((0,8),(50,0))] ar (hq.toI) trivial tr ae) ?_)))))))))
 refine fb rfl (aj (aq (am (bv rfl rfl rfl (cG rfl rfl rfl (aj (au (aq ?_))))))))
 refine aO (σ':=aB 211 [(3,_),(4,_),(10,_),(153,_)] [((3,0),_),((4,0),_),((50,0),_)] [] []) kp ?_
 refine oY rfl rfl rfl rfl rfl (am (gD rfl (bv rfl rfl rfl (ai (aL _ aa rfl rfl (rfl:_=some (AV.v (.string _)))) (ai (aM aa al (vZ o) rfl rfl) ?_)))))
 refine ai (dt (160,0) _ _ aa rfl rfl (bQ _).symm (.sl (bQ _)) ab rfl (ko _ _) (show (cN cs a).length+o.code.length=(cN cs a++o.code).length by simp)) ?_
 exact fb rfl (aj (aD (aY (.inr rfl) rfl (.tmp (rfl:_=AV.ref _ _ _)) (Le.out [((0,8),(160,0))] [] (cX rfl rfl) rfl rfl rfl trivial ob))))
def JB (c y:Cd) (a:Nat):List eu:=c a++[{ op:= .unl,n:=((a+(c a).length+(y (a+(c a).length+1)).length+2:Nat):Int) }]++y (a+(c a).length+1)++[{ op:= .jump,n:=(a:Int) }]
theorem xM {c y:Nd} {cc cy:Cd} (hc:CoS (uu d v no on) c cc) (hy:CoS (uu d v no on) y cy):CoS (uu d v no on) (nd 3 0 [] [c,y]) (JB cc cy):=fun a ha=> by
 obtain ⟨b,hb⟩: ∃ b,b=JB cc cy a:=⟨_,rfl⟩
 rw [← hb] at ha ⊢
 unfold JB at hb
 have hbl:=congrArg List.length hb
 simp only [List.length_append,List.length_cons,List.length_nil] at hbl
 have h1:=hc a ab
 generalize cc a=C at h1 hb hbl
 have h2:=hy (a+C.length+1) ab
 generalize cy (a+C.length+1)=Y at h2 hb hbl
 refine Spec.ofN Tryz.func91 rfl Tryz.ntmps91 rfl ?_
 refine am (ai (bf (3,0) _ rfl rfl) (ai (bf (4,0) _ rfl rfl) (ai (bA _ (rfl:_=AV.v (.slice _ _ _))) (aj (aq (am (bv rfl rfl rfl (cG rfl rfl rfl (aj (au ?_))))))))))
 refine aq (bR rfl rfl rfl rfl rfl (cf rfl rfl rfl rfl rfl ?_))
 iterate 3 refine bR rfl rfl rfl rfl rfl ?_
 refine aq ?_
 refine aO (σ':=aB 211 [(2,_),(3,_),(4,_),(12,_)] [((3,0),_),((4,0),_)] [] []) kp ?_
 refine cf rfl rfl rfl rfl rfl ?_
 iterate 3 refine bR rfl rfl rfl rfl rfl ?_
 refine eN rfl rfl rfl rfl rfl (aq ?_)
 refine aO (σ':=aB 211 [(2,_),(3,_),(4,_)] [((3,0),_),((4,0),_)] [] []) kp ?_
 refine bE 6 [73,74,75,76,77,78] [] ae ae rfl (aK rfl) (rfl:_=[_,_,_,_,_,_]) (rfl:_=[_,_]) ?_
 refine ap (_,[]) (fun τ=> aP _ aa rfl rfl rfl rfl) ?_
 refine eE rfl ?_
 refine ap (_,[]) (fun τ=> aI _ aa rfl rfl rfl) ?_
 refine eF rfl ?_
 refine ap (_,[]) (fun τ=> aL _ aa rfl rfl (rfl:_=some (AV.sl _ _))) ?_
 refine eD rfl ?_
 refine ap (_,[]) (fun τ=> bg _ _ aa rfl rfl 0 rfl (show 0 < 2 by omega) (Nat.le_of_ble_eq_true rfl) rfl) ?_
 refine eI rfl ?_
 refine ap (_,[]) (fun τ=> cj _ aa rfl (by exact cH [c,y] 0 (by simp)) rfl) ?_
 refine eU rfl ?_
 refine ap (_,[]) (fun τ=> aE _ (rfl:_=AV.v (.int _ _))) ?_
 refine fh rfl (bi ⟨rfl,?_⟩)
 refine ai (dl aa [((0,8),(50,0))] ar (h1.toI) trivial tr ae) ?_
 refine fb rfl (aj (aG fun K15 hK15=> ?_))
 refine aO (σ':=aB 211 [(2,_),(3,_),(4,_),(7,_)] [((3,0),_),((4,0),_),((50,0),_)] [] []) kp ?_
 refine bE 10 [80,81,82,83,84,85,86,87,88,89] [] ae ae rfl (aK rfl) (rfl:_=[_,_,_,_,_,_,_,_,_,_]) (rfl:_=[_,_]) ?_
 refine ap (_,[]) (fun τ=> aP _ aa rfl rfl rfl rfl) ?_
 refine eE rfl ?_
 refine ap (_,[]) (fun τ=> aI _ aa rfl rfl rfl) ?_
 refine eF rfl ?_
 refine ap (_,[]) (fun τ=> aL _ aa rfl rfl (rfl:_=some (AV.sl _ _))) ?_
 refine eD rfl ?_
 refine ap (_,[]) (fun τ=> bg _ _ aa rfl rfl 1 rfl (show 1 < 2 by omega) (Nat.le_of_ble_eq_true rfl) rfl) ?_
 refine eI rfl ?_
 refine ap (_,[]) (fun τ=> cj _ aa rfl (by exact cH [c,y] 1 (by simp)) rfl) ?_
 refine eU rfl ?_
 refine ap (_,[]) (fun τ=> aE _ (rfl:_=AV.v (.int _ _))) ?_
 refine fh rfl ?_
 refine ap (_,[]) (fun τ=> aE _ (rfl:_=AV.ref _ _ _)) ?_
 refine fZ rfl ?_
 refine ap (_,[]) (fun τ=> dv _ aa rfl rfl) ?_
 refine jz rfl ?_
 refine ap (_,[]) (fun τ=> be _ _ rfl rfl (br ab)) ?_
 refine jC rfl ?_
 refine ap (_,[]) (fun τ=> be _ _ rfl rfl (br ab)) ?_
 refine fK rfl (bi ⟨rfl,?_⟩)
 refine ai (dl aa [((0,8),(51,0))] ar (h2.toI) trivial tr ae) ?_
 refine fb rfl (az (hK15 _ ?_))
 clear hK15;try clear K15
 refine am (gD rfl (aS rfl (gD rfl (ai (dv _ aa rfl rfl) (ai (be _ _ rfl rfl (br ab)) ?_)))))
 refine gD rfl (ai (dv _ aa rfl rfl) (ai (be _ _ rfl rfl (br ab)) ?_))
 refine ai (be (r:=((a+C.length+Y.length+2:Nat):Int)) _ _ rfl rfl ((br ab).trans ab)) ?_
 refine ai (ay _ aa rfl (by exact (rfl:_=some [_,_]))) ?_
 refine ai (aX _ _ aa rfl ag (by (simp <;> rfl)) ah rfl) ?_
 refine ai (dt (102,0) _ _ aa rfl rfl (bQ _).symm (.sl rfl) ab rfl (ev _ { op:= .unl,n:=((a+C.length+Y.length+2:Nat):Int) }) (show C.length+1=(C++[({ op:= .unl,n:=((a+C.length+Y.length+2:Nat):Int) }:eu)]).length by simp)) ?_
 refine fb rfl (aj (aq ?_))
 refine aO (σ':=aB 211 [(2,_),(8,_),(9,_)] [((51,0),_),((102,0),_)] [] []) kp ?_
 refine an (gD rfl (gD rfl (ai (dt (105,0) _ _ aa rfl rfl (bQ _).symm (.ref rfl (mc _) (ka _)) (by simp;omega) rfl (ko _ _) (show (C++[({ op:= .unl,n:=((a+C.length+Y.length+2:Nat):Int) }:eu)]).length+Y.length=(C++[({ op:= .unl,n:=((a+C.length+Y.length+2:Nat):Int) }:eu)]++Y).length by simp;omega)) ?_)))
 refine fb rfl (aj (am (gD rfl (aS rfl (ai (ay _ aa rfl (by exact (rfl:_=some [_,_]))) ?_)))))
 refine ai (aX _ _ aa rfl ag (by (simp <;> rfl)) ah rfl) ?_
 refine ai (dt (110,0) _ _ aa rfl rfl (bQ _).symm (.sl rfl) (by simp;omega) rfl ((ev _ { op:= .jump,n:=(a:Int) }).trans (congrArg inl hb.symm)) (show _+1=b.length by simp;omega)) ?_
 exact fb rfl (aj (aD (aY (.inr rfl) rfl (.tmp (rfl:_=AV.ref _ _ _)) (Le.out [((0,8),(110,0))] [] (cX rfl rfl) rfl rfl rfl trivial ob))))
end

def gd:Ex→Bool
 | .int n=> decide (0≤n) | .bool _=> true | .var _=> true | .name _=> true
 | .draw e=> gd e | .neg e=> gd e | .not e=> gd e
 | .bin _ a b=> gd a && gd b
 | .and a b=> gd a && gd b
 | .or a b=> gd a && gd b
mutual
def oW:Sm→Bool
 | .assign _ e=> gd e
 | .send t _ a b=> gd t && gd a && gd b
 | .timer _=> true | .cancel _=> true | .sync=> true | .stop=> true
 | .reply a b=> gd a && gd b
 | .fail e=> gd e
 | .loop c b=> gd c && mZ b
 | .ite c a b=> gd c && mZ a && mZ b
def mZ:Bk→Bool
 | .nil=> true
 | .cons s b=> oW s && mZ b
end
section
variable {d v:List Tx} {no:Nat} {on:List PV}
abbrev Gl (d v:List Tx) (no:Nat) (on:List PV) (N:Nd) (c:Cd):Prop:=CoS (uu d v no on) N c
theorem CoS.cong {u:AV} {N:Nd} {c c':Cd} (h:CoS u N c) (e: ∀ a,c a=c' a):CoS u N c':=by
 rw [show c'=c from funext fun a=> (e a).symm];exact h
theorem dO (hn:(d++v).Nodup) (hl:(d++v).length≤1000): ∀ e:Ex,fo (d++v).length e→gd e=true→Gl d v no on (dR (d++v) e) (bl e)
 | .int n,_,hp=> by
  have hp:=of_decide_eq_true hp
  have:=Cp (d:=d) (v:=v) (no:=no) (on:=on) n.toNat
  exact this.cong fun a=> by rw [Int.toNat_of_nonneg hp];rfl
 | .bool b,_,_=> by
  cases b
  ·exact tM 0
  ·exact tM 1
 | .var i,h,_=> Dh hn hl i h
 | .name k,h,_=> Aq k h
 | .draw e,h,hp=> (zW rfl (vY (dO hn hl e h hp) zP)).cong fun a=> by simp [bl,cN]
 | .neg e,h,hp=> (DN rfl (vY (dO hn hl e h hp) zP)).cong fun a=> by simp [bl,cN]
 | .not e,h,hp=> (Ec rfl (vY (dO hn hl e h hp) zP)).cong fun a=> by simp [bl,cN]
 | .bin o x y,h,hp=> by
  simp only [gd,Bool.and_eq_true] at hp
  exact (Dn rfl (vY (dO hn hl x h.1 hp.1) (vY (dO hn hl y h.2 hp.2) zP)) o).cong fun a=> by simp [bl,cN]
 | .and x y,h,hp=> by
  simp only [gd,Bool.and_eq_true] at hp
  exact (CC (dO hn hl x h.1 hp.1) (dO hn hl y h.2 hp.2)).cong fun a=> rfl
 | .or x y,h,hp=> by
  simp only [gd,Bool.and_eq_true] at hp
  exact (EZ (dO hn hl x h.1 hp.1) (dO hn hl y h.2 hp.2)).cong fun a=> rfl
def Az:Bk→List Cd
 | .nil=> []
 | .cons s b=> cm s::Az b
theorem ul (nm:List Tx): ∀ b:Bk,(Az b).length=(fV nm b).length
 | .nil=> by simp [Az,fV]
 | .cons s b=> by simp [Az,fV,ul nm b]
theorem tU: ∀ (b:Bk) (a:Nat),cN (Az b) a=cZ b a
 | .nil,a=> by simp [Az,cN,cZ]
 | .cons s b,a=> by simp only [Az,cN,cZ,tU b]
theorem lT {b:Bk} (h:kU (uu d v no on) (fV (d++v) b) (Az b)):Gl d v no on (jB (d++v) b) (cZ b):=(wE (ul _ b) h).cong (tU b)
mutual
theorem zp (hn:(d++v).Nodup) (hl:(d++v).length≤1000): ∀ s:Sm,eY (d++v).length s→oW s=true→Gl d v no on (ol (d++v) s) (cm s)
 | .assign i e,h,hp=> by rw [eY] at h;exact (uH rfl (vY (dO hn hl e h.2 hp) zP) hn hl i h.1).cong fun a=> by simp [cm,cN]
 | .send t k x y,h,hp=> by
  rw [eY] at h
  simp only [oW,Bool.and_eq_true] at hp
  exact (Bf rfl (vY (dO hn hl t h.2.1 hp.1.1) (vY (dO hn hl x h.2.2.1 hp.1.2) (vY (dO hn hl y h.2.2.2 hp.2) zP))) k).cong fun a=> by simp [cm,cN,Nat.add_assoc]
 | .timer k,_,_=> (xq k).cong fun a=> by rw [cm]
 | .cancel k,_,_=> (vo k).cong fun a=> by rw [cm]
 | .sync,_,_=> co_sync.cong fun a=> by rw [cm]
 | .stop,_,_=> co_stop.cong fun a=> by rw [cm]
 | .reply x y,h,hp=> by
  rw [eY] at h
  simp only [oW,Bool.and_eq_true] at hp
  exact (xF rfl (vY (dO hn hl x h.1 hp.1) (vY (dO hn hl y h.2 hp.2) zP))).cong fun a=> by simp [cm,cN]
 | .fail e,h,hp=> by rw [eY] at h;exact (Aj rfl (vY (dO hn hl e h hp) zP)).cong fun a=> by simp [cm,cN]
 | .loop c b,h,hp=> by
  rw [eY] at h
  simp only [oW,Bool.and_eq_true] at hp
  exact (xM (dO hn hl c h.1 hp.1) (lT (lw hn hl b h.2 hp.2))).cong fun a=> by rw [cm];rfl
 | .ite c x y,h,hp=> by
  rw [eY] at h
  simp only [oW,Bool.and_eq_true] at hp
  exact (CB (dO hn hl c h.1 hp.1.1) (lT (lw hn hl x h.2.1 hp.1.2)) (lT (lw hn hl y h.2.2 hp.2))).cong fun a=> by rw [cm];rfl
theorem lw (hn:(d++v).Nodup) (hl:(d++v).length≤1000): ∀ b:Bk,ig (d++v).length b→mZ b=true→kU (uu d v no on) (fV (d++v) b) (Az b)
 | .nil,_,_=> zP
 | .cons s b,h,hp=> by
  rw [ig] at h
  simp only [mZ,Bool.and_eq_true] at hp
  exact vY (zp hn hl s h.1 hp.1) (lw hn hl b h.2 hp.2)
end
theorem Bq (hn:(d++v).Nodup) (hl:(d++v).length≤1000) (b:Bk) (h:ig (d++v).length b) (hp:mZ b=true):Gl d v no on (jB (d++v) b) (cZ b):=lT (lw hn hl b h hp)
end

abbrev DJ (c:AV) (e:Nat→Int) (d v:Int):List AV:=[c, .v (.int .i64 (e 0)), .v (.int .i64 (e 1)), .v (.int .i64 (e 2)), .v (.int .i64 (e 3)), .v (.int .i64 (e 4)), .v (.int .i64 (e 5)), .v (.int .i64 (e 6)), .v (.int .i64 (e 7)), .v (.int .i64 (e 8)), .v (.int .i64 (e 9)), .v (.int .i64 (e 10)), .v (.int .i64 (e 11)), .v (.int .i64 (e 12)), .v (.int .i64 (e 13)), .v (.int .i64 (e 14)), .v (.int .i64 (e 15)), .v (.int .i64 (e 16)), .v (.int .i64 (e 17)), .v (.int .i64 (e 18)), .v (.int .i64 (e 19)), .v (.int .i64 (e 20)), .v (.int .i64 (e 21)), .v (.int .i64 (e 22)), .v (.int .i64 (e 23)), .v (.int .i64 (e 24)), .v (.int .i64 (e 25)), .v (.int .i64 (e 26)), .v (.int .i64 (e 27)), .v (.int .i64 (e 28)), .v (.int .i64 (e 29)), .v (.int .i64 (e 30)), .v (.int .i64 (e 31)), .v (.int .i64 (e 32)), .v (.int .i64 (e 33)), .v (.int .i64 (e 34)), .v (.int .i64 (e 35)), .v (.int .i64 (e 36)), .v (.int .i64 (e 37)), .v (.int .i64 (e 38)), .v (.int .i64 (e 39)), .v (.int .i64 d), .v (.int .i64 v)]
abbrev yf (n:Nat) (xs:List PV) (e:Nat→Int) (d v:Int):List AV:=DJ (.sl n xs) e d v
def oS (e:Nat→Int) (h:Nat) (x:Int):Nat→Int:=fun k=> if k=h then x else e k
theorem qy (c:AV) (e:Nat→Int) (d v:Int) (h:Nat) (hh:h < 40) (x:Int):ft (DJ c e d v) (1+h) [.v (.int .i64 x)]=DJ c (oS e h x) d v:=by
 rcases h with _ | _ | _ | _ | _ | _ | _ | _ | _ | _ | _ | _ | _ | _ | _ | _ | _ | _ | _ | _ | _ | _ | _ | _ | _ | _ | _ | _ | _ | _ | _ | _ | _ | _ | _ | _ | _ | _ | _ | _ | h
 all_goals first | rfl | omega
theorem mf (n:Nat) (xs:List PV) (e:Nat→Int) (d v:Int) (h:Nat) (hh:h < 40):(yf n xs e d v)[1+h]? =some (.v (.int .i64 (e h))):=by
 rcases h with _ | _ | _ | _ | _ | _ | _ | _ | _ | _ | _ | _ | _ | _ | _ | _ | _ | _ | _ | _ | _ | _ | _ | _ | _ | _ | _ | _ | _ | _ | _ | _ | _ | _ | _ | _ | _ | _ | _ | _ | h
 all_goals first | rfl | omega
def BV (l:List Nat):List PV:=l.map fun (x:Nat)=> .v (.int .i64 (x:Int))
@[simp] theorem ed (l:List Nat):(BV l).length=l.length:=by simp [BV]
theorem zw (l:List Nat) (k:Nat) (h:k < l.length):(BV l)[k]? =some (.v (.int .i64 (l.getD k 0:Int))):=by simp [BV,h]
theorem vh:Spec Tryz.prog 106 (bk [.v (.int .i64 1)] []) (aW (.v (.int .i64 0)) []):=by
 refine Spec.ofN Tryz.func106 rfl Tryz.ntmps106 rfl ?_
 refine am (aZ rfl (aj (aq (am (aS rfl (aj (au (aq (eN rfl rfl rfl rfl rfl (aJ ?_))))))))))
 exact bF rfl rfl (am (aZ rfl (aj (aD (aY (.inr rfl) rfl (.tmp (rfl:_=AV.v _)) (Le.out [] [] .v rfl rfl rfl trivial trivial))))))
theorem wz:Spec Tryz.prog 106 (bk [.v (.int .i64 2)] []) (aW (.v (.int .i64 0)) []):=by
 refine Spec.ofN Tryz.func106 rfl Tryz.ntmps106 rfl ?_
 refine am (aZ rfl (aj (aq (am (aS rfl (aj (au (aq (bR rfl rfl rfl rfl rfl (eN rfl rfl rfl rfl rfl ?_))))))))))
 exact aJ (bF rfl rfl (am (aZ rfl (aj (aD (aY (.inr rfl) rfl (.tmp (rfl:_=AV.v _)) (Le.out [] [] .v rfl rfl rfl trivial trivial)))))))
theorem rX:Spec Tryz.prog 106 (bk [.v (.int .i64 3)] []) (aW (.v (.int .i64 1)) []):=by
 refine Spec.ofN Tryz.func106 rfl Tryz.ntmps106 rfl ?_
 refine am (aZ rfl (aj (aq (am (aS rfl (aj (au (aq ?_))))))))
 iterate 7 refine bR rfl rfl rfl rfl rfl ?_
 refine aO (σ':=aB 31 [(3,_)] [] [] []) kp ?_
 refine cf rfl rfl rfl rfl rfl (aq ?_)
 iterate 3 refine bR rfl rfl rfl rfl rfl ?_
 exact eN rfl rfl rfl rfl rfl (aJ (bF rfl rfl (am (aZ rfl (aj (aD (aY (.inr rfl) rfl (.tmp (rfl:_=AV.v _)) (Le.out [] [] .v rfl rfl rfl trivial trivial))))))))
theorem vP:Spec Tryz.prog 106 (bk [.v (.int .i64 4)] []) (aW (.v (.int .i64 0)) []):=by
 refine Spec.ofN Tryz.func106 rfl Tryz.ntmps106 rfl ?_
 refine am (aZ rfl (aj (aq (am (aS rfl (aj (au (aq ?_))))))))
 iterate 2 refine bR rfl rfl rfl rfl rfl ?_
 exact eN rfl rfl rfl rfl rfl (aJ (bF rfl rfl (am (aZ rfl (aj (aD (aY (.inr rfl) rfl (.tmp (rfl:_=AV.v _)) (Le.out [] [] .v rfl rfl rfl trivial trivial))))))))
theorem vM:Spec Tryz.prog 106 (bk [.v (.int .i64 5)] []) (aW (.v (.int .i64 1)) []):=by
 refine Spec.ofN Tryz.func106 rfl Tryz.ntmps106 rfl ?_
 refine am (aZ rfl (aj (aq (am (aS rfl (aj (au (aq ?_))))))))
 iterate 7 refine bR rfl rfl rfl rfl rfl ?_
 refine aO (σ':=aB 31 [(3,_)] [] [] []) kp ?_
 exact cf rfl rfl rfl rfl rfl (aq (eN rfl rfl rfl rfl rfl (aJ (bF rfl rfl (am (aZ rfl (aj (aD (aY (.inr rfl) rfl (.tmp (rfl:_=AV.v _)) (Le.out [] [] .v rfl rfl rfl trivial trivial))))))))))
theorem wB:Spec Tryz.prog 106 (bk [.v (.int .i64 6)] []) (aW (.v (.int .i64 2)) []):=by
 refine Spec.ofN Tryz.func106 rfl Tryz.ntmps106 rfl ?_
 refine am (aZ rfl (aj (aq (am (aS rfl (aj (au (aq ?_))))))))
 iterate 7 refine bR rfl rfl rfl rfl rfl ?_
 refine aO (σ':=aB 31 [(3,_)] [] [] []) kp ?_
 refine cf rfl rfl rfl rfl rfl (aq ?_)
 iterate 5 refine bR rfl rfl rfl rfl rfl ?_
 refine cf rfl rfl rfl rfl rfl (aq (eN rfl rfl rfl rfl rfl (aJ (bF rfl rfl (aq ?_)))))
 refine aO (σ':=aB 31 [] [] [] []) kp ?_
 exact an (aZ rfl (aj (aD (aY (.inr rfl) rfl (.tmp (rfl:_=AV.v _)) (Le.out [] [] .v rfl rfl rfl trivial trivial)))))
theorem xr:Spec Tryz.prog 106 (bk [.v (.int .i64 7)] []) (aW (.v (.int .i64 2)) []):=by
 refine Spec.ofN Tryz.func106 rfl Tryz.ntmps106 rfl ?_
 refine am (aZ rfl (aj (aq (am (aS rfl (aj (au (aq ?_))))))))
 iterate 7 refine bR rfl rfl rfl rfl rfl ?_
 refine aO (σ':=aB 31 [(3,_)] [] [] []) kp ?_
 refine cf rfl rfl rfl rfl rfl (aq ?_)
 iterate 5 refine bR rfl rfl rfl rfl rfl ?_
 refine cf rfl rfl rfl rfl rfl (aq (bR rfl rfl rfl rfl rfl (aq ?_)))
 refine aO (σ':=aB 31 [(3,_)] [] [] []) kp ?_
 exact oY rfl rfl rfl rfl rfl (aJ (bF rfl rfl (am (aZ rfl (aj (aD (aY (.inr rfl) rfl (.tmp (rfl:_=AV.v _)) (Le.out [] [] .v rfl rfl rfl trivial trivial))))))))
theorem xa:Spec Tryz.prog 106 (bk [.v (.int .i64 8)] []) (aW (.v (.int .i64 2)) []):=by
 refine Spec.ofN Tryz.func106 rfl Tryz.ntmps106 rfl ?_
 refine am (aZ rfl (aj (aq (am (aS rfl (aj (au (aq ?_))))))))
 iterate 7 refine bR rfl rfl rfl rfl rfl ?_
 refine aO (σ':=aB 31 [(3,_)] [] [] []) kp ?_
 refine cf rfl rfl rfl rfl rfl (aq ?_)
 iterate 5 refine bR rfl rfl rfl rfl rfl ?_
 refine cf rfl rfl rfl rfl rfl (aq (bR rfl rfl rfl rfl rfl (aq ?_)))
 refine aO (σ':=aB 31 [(3,_)] [] [] []) kp ?_
 exact cf rfl rfl rfl rfl rfl (eN rfl rfl rfl rfl rfl (aJ (bF rfl rfl (am (aZ rfl (aj (aD (aY (.inr rfl) rfl (.tmp (rfl:_=AV.v _)) (Le.out [] [] .v rfl rfl rfl trivial trivial)))))))))
theorem xt:Spec Tryz.prog 106 (bk [.v (.int .i64 9)] []) (aW (.v (.int .i64 2)) []):=by
 refine Spec.ofN Tryz.func106 rfl Tryz.ntmps106 rfl ?_
 refine am (aZ rfl (aj (aq (am (aS rfl (aj (au (aq ?_))))))))
 iterate 7 refine bR rfl rfl rfl rfl rfl ?_
 refine aO (σ':=aB 31 [(3,_)] [] [] []) kp ?_
 refine cf rfl rfl rfl rfl rfl (aq ?_)
 iterate 5 refine bR rfl rfl rfl rfl rfl ?_
 refine cf rfl rfl rfl rfl rfl (aq (bR rfl rfl rfl rfl rfl (aq ?_)))
 refine aO (σ':=aB 31 [(3,_)] [] [] []) kp ?_
 exact cf rfl rfl rfl rfl rfl (bR rfl rfl rfl rfl rfl (eN rfl rfl rfl rfl rfl (aJ (bF rfl rfl (am (aZ rfl (aj (aD (aY (.inr rfl) rfl (.tmp (rfl:_=AV.v _)) (Le.out [] [] .v rfl rfl rfl trivial trivial))))))))))
theorem yp:Spec Tryz.prog 106 (bk [.v (.int .i64 10)] []) (aW (.v (.int .i64 1)) []):=by
 refine Spec.ofN Tryz.func106 rfl Tryz.ntmps106 rfl ?_
 refine am (aZ rfl (aj (aq (am (aS rfl (aj (au (aq ?_))))))))
 iterate 7 refine bR rfl rfl rfl rfl rfl ?_
 refine aO (σ':=aB 31 [(3,_)] [] [] []) kp ?_
 exact cf rfl rfl rfl rfl rfl (aq (bR rfl rfl rfl rfl rfl (eN rfl rfl rfl rfl rfl (aJ (bF rfl rfl (am (aZ rfl (aj (aD (aY (.inr rfl) rfl (.tmp (rfl:_=AV.v _)) (Le.out [] [] .v rfl rfl rfl trivial trivial)))))))))))
theorem Ar:Spec Tryz.prog 106 (bk [.v (.int .i64 11)] []) (aW (.v (.int .i64 2)) []):=by
 refine Spec.ofN Tryz.func106 rfl Tryz.ntmps106 rfl ?_
 refine am (aZ rfl (aj (aq (am (aS rfl (aj (au (aq ?_))))))))
 iterate 7 refine bR rfl rfl rfl rfl rfl ?_
 refine aO (σ':=aB 31 [(3,_)] [] [] []) kp ?_
 refine cf rfl rfl rfl rfl rfl (aq ?_)
 iterate 5 refine bR rfl rfl rfl rfl rfl ?_
 refine cf rfl rfl rfl rfl rfl (aq (bR rfl rfl rfl rfl rfl (aq ?_)))
 refine aO (σ':=aB 31 [(3,_)] [] [] []) kp ?_
 refine cf rfl rfl rfl rfl rfl ?_
 iterate 2 refine bR rfl rfl rfl rfl rfl ?_
 exact eN rfl rfl rfl rfl rfl (aJ (bF rfl rfl (am (aZ rfl (aj (aD (aY (.inr rfl) rfl (.tmp (rfl:_=AV.v _)) (Le.out [] [] .v rfl rfl rfl trivial trivial))))))))
theorem AO:Spec Tryz.prog 106 (bk [.v (.int .i64 12)] []) (aW (.v (.int .i64 2)) []):=by
 refine Spec.ofN Tryz.func106 rfl Tryz.ntmps106 rfl ?_
 refine am (aZ rfl (aj (aq (am (aS rfl (aj (au (aq ?_))))))))
 iterate 7 refine bR rfl rfl rfl rfl rfl ?_
 refine aO (σ':=aB 31 [(3,_)] [] [] []) kp ?_
 refine cf rfl rfl rfl rfl rfl (aq ?_)
 iterate 5 refine bR rfl rfl rfl rfl rfl ?_
 refine cf rfl rfl rfl rfl rfl (aq (bR rfl rfl rfl rfl rfl (aq ?_)))
 refine aO (σ':=aB 31 [(3,_)] [] [] []) kp ?_
 refine cf rfl rfl rfl rfl rfl ?_
 iterate 3 refine bR rfl rfl rfl rfl rfl ?_
 exact eN rfl rfl rfl rfl rfl (aJ (bF rfl rfl (am (aZ rfl (aj (aD (aY (.inr rfl) rfl (.tmp (rfl:_=AV.v _)) (Le.out [] [] .v rfl rfl rfl trivial trivial))))))))
theorem AN:Spec Tryz.prog 106 (bk [.v (.int .i64 13)] []) (aW (.v (.int .i64 2)) []):=by
 refine Spec.ofN Tryz.func106 rfl Tryz.ntmps106 rfl ?_
 refine am (aZ rfl (aj (aq (am (aS rfl (aj (au (aq ?_))))))))
 iterate 7 refine bR rfl rfl rfl rfl rfl ?_
 refine aO (σ':=aB 31 [(3,_)] [] [] []) kp ?_
 refine cf rfl rfl rfl rfl rfl (aq ?_)
 iterate 5 refine bR rfl rfl rfl rfl rfl ?_
 refine cf rfl rfl rfl rfl rfl (aq (bR rfl rfl rfl rfl rfl (aq ?_)))
 refine aO (σ':=aB 31 [(3,_)] [] [] []) kp ?_
 refine cf rfl rfl rfl rfl rfl ?_
 iterate 4 refine bR rfl rfl rfl rfl rfl ?_
 exact eN rfl rfl rfl rfl rfl (aJ (bF rfl rfl (am (aZ rfl (aj (aD (aY (.inr rfl) rfl (.tmp (rfl:_=AV.v _)) (Le.out [] [] .v rfl rfl rfl trivial trivial))))))))
theorem xi:Spec Tryz.prog 106 (bk [.v (.int .i64 14)] []) (aW (.v (.int .i64 1)) []):=by
 refine Spec.ofN Tryz.func106 rfl Tryz.ntmps106 rfl ?_
 refine am (aZ rfl (aj (aq (am (aS rfl (aj (au (aq ?_))))))))
 iterate 7 refine bR rfl rfl rfl rfl rfl ?_
 refine aO (σ':=aB 31 [(3,_)] [] [] []) kp ?_
 refine cf rfl rfl rfl rfl rfl (aq ?_)
 iterate 2 refine bR rfl rfl rfl rfl rfl ?_
 exact eN rfl rfl rfl rfl rfl (aJ (bF rfl rfl (am (aZ rfl (aj (aD (aY (.inr rfl) rfl (.tmp (rfl:_=AV.v _)) (Le.out [] [] .v rfl rfl rfl trivial trivial))))))))
theorem wd:Spec Tryz.prog 106 (bk [.v (.int .i64 15)] []) (aW (.v (.int .i64 0)) []):=by
 refine Spec.ofN Tryz.func106 rfl Tryz.ntmps106 rfl ?_
 refine am (aZ rfl (aj (aq (am (aS rfl (aj (au (aq ?_))))))))
 iterate 3 refine bR rfl rfl rfl rfl rfl ?_
 exact eN rfl rfl rfl rfl rfl (aJ (bF rfl rfl (am (aZ rfl (aj (aD (aY (.inr rfl) rfl (.tmp (rfl:_=AV.v _)) (Le.out [] [] .v rfl rfl rfl trivial trivial))))))))
theorem xh:Spec Tryz.prog 106 (bk [.v (.int .i64 16)] []) (aW (.v (.int .i64 1)) []):=by
 refine Spec.ofN Tryz.func106 rfl Tryz.ntmps106 rfl ?_
 refine am (aZ rfl (aj (aq (am (aS rfl (aj (au (aq ?_))))))))
 iterate 7 refine bR rfl rfl rfl rfl rfl ?_
 refine aO (σ':=aB 31 [(3,_)] [] [] []) kp ?_
 refine cf rfl rfl rfl rfl rfl (aq ?_)
 iterate 4 refine bR rfl rfl rfl rfl rfl ?_
 exact eN rfl rfl rfl rfl rfl (aJ (bF rfl rfl (am (aZ rfl (aj (aD (aY (.inr rfl) rfl (.tmp (rfl:_=AV.v _)) (Le.out [] [] .v rfl rfl rfl trivial trivial))))))))
theorem vq:Spec Tryz.prog 106 (bk [.v (.int .i64 17)] []) (aW (.v (.int .i64 3)) []):=by
 refine Spec.ofN Tryz.func106 rfl Tryz.ntmps106 rfl ?_
 refine am (aZ rfl (aj (aq (am (aS rfl (aj (au (aq ?_))))))))
 iterate 7 refine bR rfl rfl rfl rfl rfl ?_
 refine aO (σ':=aB 31 [(3,_)] [] [] []) kp ?_
 refine cf rfl rfl rfl rfl rfl (aq ?_)
 iterate 5 refine bR rfl rfl rfl rfl rfl ?_
 refine cf rfl rfl rfl rfl rfl (aq (bR rfl rfl rfl rfl rfl (aq ?_)))
 refine aO (σ':=aB 31 [(3,_)] [] [] []) kp ?_
 refine cf rfl rfl rfl rfl rfl ?_
 iterate 5 refine bR rfl rfl rfl rfl rfl ?_
 refine cf rfl rfl rfl rfl rfl (eN rfl rfl rfl rfl rfl (aq ?_))
 refine aO (σ':=aB 31 [] [] [] []) kp ?_
 exact an (aZ rfl (aj (aD (aY (.inr rfl) rfl (.tmp (rfl:_=AV.v _)) (Le.out [] [] .v rfl rfl rfl trivial trivial)))))
theorem sK:Spec Tryz.prog 106 (bk [.v (.int .i64 18)] []) (aW (.v (.int .i64 0)) []):=by
 refine Spec.ofN Tryz.func106 rfl Tryz.ntmps106 rfl ?_
 refine am (aZ rfl (aj (aq (am (aS rfl (aj (au (aq ?_))))))))
 iterate 4 refine bR rfl rfl rfl rfl rfl ?_
 exact eN rfl rfl rfl rfl rfl (aJ (bF rfl rfl (am (aZ rfl (aj (aD (aY (.inr rfl) rfl (.tmp (rfl:_=AV.v _)) (Le.out [] [] .v rfl rfl rfl trivial trivial))))))))
theorem sj:Spec Tryz.prog 106 (bk [.v (.int .i64 19)] []) (aW (.v (.int .i64 0)) []):=by
 refine Spec.ofN Tryz.func106 rfl Tryz.ntmps106 rfl ?_
 refine am (aZ rfl (aj (aq (am (aS rfl (aj (au (aq ?_))))))))
 iterate 5 refine bR rfl rfl rfl rfl rfl ?_
 exact eN rfl rfl rfl rfl rfl (aJ (bF rfl rfl (am (aZ rfl (aj (aD (aY (.inr rfl) rfl (.tmp (rfl:_=AV.v _)) (Le.out [] [] .v rfl rfl rfl trivial trivial))))))))
theorem vg:Spec Tryz.prog 106 (bk [.v (.int .i64 20)] []) (aW (.v (.int .i64 0)) []):=by
 refine Spec.ofN Tryz.func106 rfl Tryz.ntmps106 rfl ?_
 refine am (aZ rfl (aj (aq (am (aS rfl (aj (au (aq ?_))))))))
 iterate 6 refine bR rfl rfl rfl rfl rfl ?_
 refine eN rfl rfl rfl rfl rfl (aJ (bF rfl rfl (aq ?_)))
 refine aO (σ':=aB 31 [] [] [] []) kp ?_
 exact an (aZ rfl (aj (aD (aY (.inr rfl) rfl (.tmp (rfl:_=AV.v _)) (Le.out [] [] .v rfl rfl rfl trivial trivial)))))
theorem sR:Spec Tryz.prog 106 (bk [.v (.int .i64 21)] []) (aW (.v (.int .i64 2)) []):=by
 refine Spec.ofN Tryz.func106 rfl Tryz.ntmps106 rfl ?_
 refine am (aZ rfl (aj (aq (am (aS rfl (aj (au (aq ?_))))))))
 iterate 7 refine bR rfl rfl rfl rfl rfl ?_
 refine aO (σ':=aB 31 [(3,_)] [] [] []) kp ?_
 refine cf rfl rfl rfl rfl rfl (aq ?_)
 iterate 5 refine bR rfl rfl rfl rfl rfl ?_
 refine cf rfl rfl rfl rfl rfl (aq (bR rfl rfl rfl rfl rfl (aq ?_)))
 refine aO (σ':=aB 31 [(3,_)] [] [] []) kp ?_
 refine cf rfl rfl rfl rfl rfl ?_
 iterate 5 refine bR rfl rfl rfl rfl rfl ?_
 exact oY rfl rfl rfl rfl rfl (am (aZ rfl (aj (aD (aY (.inr rfl) rfl (.tmp (rfl:_=AV.v _)) (Le.out [] [] .v rfl rfl rfl trivial trivial))))))
theorem wp:Spec Tryz.prog 106 (bk [.v (.int .i64 22)] []) (aW (.v (.int .i64 1)) []):=by
 refine Spec.ofN Tryz.func106 rfl Tryz.ntmps106 rfl ?_
 refine am (aZ rfl (aj (aq (am (aS rfl (aj (au (aq ?_))))))))
 iterate 7 refine bR rfl rfl rfl rfl rfl ?_
 refine aO (σ':=aB 31 [(3,_)] [] [] []) kp ?_
 refine cf rfl rfl rfl rfl rfl (aq ?_)
 iterate 5 refine bR rfl rfl rfl rfl rfl ?_
 exact oY rfl rfl rfl rfl rfl (am (aZ rfl (aj (aD (aY (.inr rfl) rfl (.tmp (rfl:_=AV.v _)) (Le.out [] [] .v rfl rfl rfl trivial trivial))))))
theorem vJ:Spec Tryz.prog 106 (bk [.v (.int .i64 23)] []) (aW (.v (.int .i64 0)) []):=by
 refine Spec.ofN Tryz.func106 rfl Tryz.ntmps106 rfl ?_
 refine am (aZ rfl (aj (aq (am (aS rfl (aj (au (aq ?_))))))))
 iterate 7 refine bR rfl rfl rfl rfl rfl ?_
 refine aO (σ':=aB 31 [(3,_)] [] [] []) kp ?_
 exact oY rfl rfl rfl rfl rfl (am (aZ rfl (aj (aD (aY (.inr rfl) rfl (.tmp (rfl:_=AV.v _)) (Le.out [] [] .v rfl rfl rfl trivial trivial))))))
theorem pn (o:Opc):Spec Tryz.prog 106 (bk [.v (.int .i64 (o.num:Int))] []) (aW (.v (.int .i64 (o.pops:Int))) []):=by
 cases o
 ·exact vh
 ·exact wz
 ·exact rX
 ·exact vP
 ·exact vM
 ·exact wB
 ·exact xr
 ·exact xa
 ·exact xt
 ·exact yp
 ·exact Ar
 ·exact AO
 ·exact AN
 ·exact xi
 ·exact wd
 ·exact xh
 ·exact vq
 ·exact sK
 ·exact sj
 ·exact vg
 ·exact sR
 ·exact wp
 ·exact vJ
theorem wb:Spec Tryz.prog 107 (bk [.v (.int .i64 1)] []) (aW (.v (.int .i64 1)) []):=by
 refine Spec.ofN Tryz.func107 rfl Tryz.ntmps107 rfl ?_
 refine am (aZ rfl (aj (aq (am (aS rfl (aj (au (aq (eN rfl rfl rfl rfl rfl (aJ ?_))))))))))
 exact bF rfl rfl (am (aZ rfl (aj (aD (aY (.inr rfl) rfl (.tmp (rfl:_=AV.v _)) (Le.out [] [] .v rfl rfl rfl trivial trivial))))))
theorem wJ:Spec Tryz.prog 107 (bk [.v (.int .i64 2)] []) (aW (.v (.int .i64 1)) []):=by
 refine Spec.ofN Tryz.func107 rfl Tryz.ntmps107 rfl ?_
 refine am (aZ rfl (aj (aq (am (aS rfl (aj (au (aq (bR rfl rfl rfl rfl rfl (eN rfl rfl rfl rfl rfl ?_))))))))))
 exact aJ (bF rfl rfl (am (aZ rfl (aj (aD (aY (.inr rfl) rfl (.tmp (rfl:_=AV.v _)) (Le.out [] [] .v rfl rfl rfl trivial trivial)))))))
theorem rA:Spec Tryz.prog 107 (bk [.v (.int .i64 3)] []) (aW (.v (.int .i64 0)) []):=by
 refine Spec.ofN Tryz.func107 rfl Tryz.ntmps107 rfl ?_
 refine am (aZ rfl (aj (aq (am (aS rfl (aj (au (aq ?_))))))))
 iterate 7 refine bR rfl rfl rfl rfl rfl ?_
 refine aq ?_
 refine aO (σ':=aB 18 [(3,_)] [] [] []) kp ?_
 refine cf rfl rfl rfl rfl rfl ?_
 iterate 4 refine bR rfl rfl rfl rfl rfl ?_
 exact cf rfl rfl rfl rfl rfl (cg (am (aZ rfl (aj (aD (aY (.inr rfl) rfl (.tmp (rfl:_=AV.v _)) (Le.out [] [] .v rfl rfl rfl trivial trivial)))))))
theorem vA:Spec Tryz.prog 107 (bk [.v (.int .i64 4)] []) (aW (.v (.int .i64 1)) []):=by
 refine Spec.ofN Tryz.func107 rfl Tryz.ntmps107 rfl ?_
 refine am (aZ rfl (aj (aq (am (aS rfl (aj (au (aq ?_))))))))
 iterate 2 refine bR rfl rfl rfl rfl rfl ?_
 exact eN rfl rfl rfl rfl rfl (aJ (bF rfl rfl (am (aZ rfl (aj (aD (aY (.inr rfl) rfl (.tmp (rfl:_=AV.v _)) (Le.out [] [] .v rfl rfl rfl trivial trivial))))))))
theorem uC:Spec Tryz.prog 107 (bk [.v (.int .i64 5)] []) (aW (.v (.int .i64 1)) []):=by
 refine Spec.ofN Tryz.func107 rfl Tryz.ntmps107 rfl ?_
 refine am (aZ rfl (aj (aq (am (aS rfl (aj (au (aq ?_))))))))
 iterate 3 refine bR rfl rfl rfl rfl rfl ?_
 exact eN rfl rfl rfl rfl rfl (aJ (bF rfl rfl (am (aZ rfl (aj (aD (aY (.inr rfl) rfl (.tmp (rfl:_=AV.v _)) (Le.out [] [] .v rfl rfl rfl trivial trivial))))))))
theorem wK:Spec Tryz.prog 107 (bk [.v (.int .i64 6)] []) (aW (.v (.int .i64 1)) []):=by
 refine Spec.ofN Tryz.func107 rfl Tryz.ntmps107 rfl ?_
 refine am (aZ rfl (aj (aq (am (aS rfl (aj (au (aq ?_))))))))
 iterate 6 refine bR rfl rfl rfl rfl rfl ?_
 refine eN rfl rfl rfl rfl rfl (aJ (bF rfl rfl (aq ?_)))
 refine aO (σ':=aB 18 [] [] [] []) kp ?_
 exact an (aZ rfl (aj (aD (aY (.inr rfl) rfl (.tmp (rfl:_=AV.v _)) (Le.out [] [] .v rfl rfl rfl trivial trivial)))))
theorem yE:Spec Tryz.prog 107 (bk [.v (.int .i64 7)] []) (aW (.v (.int .i64 1)) []):=by
 refine Spec.ofN Tryz.func107 rfl Tryz.ntmps107 rfl ?_
 refine am (aZ rfl (aj (aq (am (aS rfl (aj (au (aq ?_))))))))
 iterate 7 refine bR rfl rfl rfl rfl rfl ?_
 refine aq ?_
 refine aO (σ':=aB 18 [(3,_)] [] [] []) kp ?_
 exact oY rfl rfl rfl rfl rfl (aJ (bF rfl rfl (am (aZ rfl (aj (aD (aY (.inr rfl) rfl (.tmp (rfl:_=AV.v _)) (Le.out [] [] .v rfl rfl rfl trivial trivial))))))))
theorem xP:Spec Tryz.prog 107 (bk [.v (.int .i64 8)] []) (aW (.v (.int .i64 1)) []):=by
 refine Spec.ofN Tryz.func107 rfl Tryz.ntmps107 rfl ?_
 refine am (aZ rfl (aj (aq (am (aS rfl (aj (au (aq ?_))))))))
 iterate 7 refine bR rfl rfl rfl rfl rfl ?_
 refine aq ?_
 refine aO (σ':=aB 18 [(3,_)] [] [] []) kp ?_
 exact cf rfl rfl rfl rfl rfl (eN rfl rfl rfl rfl rfl (aJ (bF rfl rfl (am (aZ rfl (aj (aD (aY (.inr rfl) rfl (.tmp (rfl:_=AV.v _)) (Le.out [] [] .v rfl rfl rfl trivial trivial)))))))))
theorem wC:Spec Tryz.prog 107 (bk [.v (.int .i64 9)] []) (aW (.v (.int .i64 1)) []):=by
 refine Spec.ofN Tryz.func107 rfl Tryz.ntmps107 rfl ?_
 refine am (aZ rfl (aj (aq (am (aS rfl (aj (au (aq ?_))))))))
 iterate 7 refine bR rfl rfl rfl rfl rfl ?_
 refine aq ?_
 refine aO (σ':=aB 18 [(3,_)] [] [] []) kp ?_
 exact cf rfl rfl rfl rfl rfl (bR rfl rfl rfl rfl rfl (eN rfl rfl rfl rfl rfl (aJ (bF rfl rfl (am (aZ rfl (aj (aD (aY (.inr rfl) rfl (.tmp (rfl:_=AV.v _)) (Le.out [] [] .v rfl rfl rfl trivial trivial))))))))))
theorem xz:Spec Tryz.prog 107 (bk [.v (.int .i64 10)] []) (aW (.v (.int .i64 1)) []):=by
 refine Spec.ofN Tryz.func107 rfl Tryz.ntmps107 rfl ?_
 refine am (aZ rfl (aj (aq (am (aS rfl (aj (au (aq ?_))))))))
 iterate 4 refine bR rfl rfl rfl rfl rfl ?_
 exact eN rfl rfl rfl rfl rfl (aJ (bF rfl rfl (am (aZ rfl (aj (aD (aY (.inr rfl) rfl (.tmp (rfl:_=AV.v _)) (Le.out [] [] .v rfl rfl rfl trivial trivial))))))))
theorem Bu:Spec Tryz.prog 107 (bk [.v (.int .i64 11)] []) (aW (.v (.int .i64 1)) []):=by
 refine Spec.ofN Tryz.func107 rfl Tryz.ntmps107 rfl ?_
 refine am (aZ rfl (aj (aq (am (aS rfl (aj (au (aq ?_))))))))
 iterate 7 refine bR rfl rfl rfl rfl rfl ?_
 refine aq ?_
 refine aO (σ':=aB 18 [(3,_)] [] [] []) kp ?_
 refine cf rfl rfl rfl rfl rfl ?_
 iterate 2 refine bR rfl rfl rfl rfl rfl ?_
 exact eN rfl rfl rfl rfl rfl (aJ (bF rfl rfl (am (aZ rfl (aj (aD (aY (.inr rfl) rfl (.tmp (rfl:_=AV.v _)) (Le.out [] [] .v rfl rfl rfl trivial trivial))))))))
theorem Ax:Spec Tryz.prog 107 (bk [.v (.int .i64 12)] []) (aW (.v (.int .i64 1)) []):=by
 refine Spec.ofN Tryz.func107 rfl Tryz.ntmps107 rfl ?_
 refine am (aZ rfl (aj (aq (am (aS rfl (aj (au (aq ?_))))))))
 iterate 7 refine bR rfl rfl rfl rfl rfl ?_
 refine aq ?_
 refine aO (σ':=aB 18 [(3,_)] [] [] []) kp ?_
 refine cf rfl rfl rfl rfl rfl ?_
 iterate 3 refine bR rfl rfl rfl rfl rfl ?_
 exact eN rfl rfl rfl rfl rfl (aJ (bF rfl rfl (am (aZ rfl (aj (aD (aY (.inr rfl) rfl (.tmp (rfl:_=AV.v _)) (Le.out [] [] .v rfl rfl rfl trivial trivial))))))))
theorem Ba:Spec Tryz.prog 107 (bk [.v (.int .i64 13)] []) (aW (.v (.int .i64 1)) []):=by
 refine Spec.ofN Tryz.func107 rfl Tryz.ntmps107 rfl ?_
 refine am (aZ rfl (aj (aq (am (aS rfl (aj (au (aq ?_))))))))
 iterate 7 refine bR rfl rfl rfl rfl rfl ?_
 refine aq ?_
 refine aO (σ':=aB 18 [(3,_)] [] [] []) kp ?_
 refine cf rfl rfl rfl rfl rfl ?_
 iterate 4 refine bR rfl rfl rfl rfl rfl ?_
 exact oY rfl rfl rfl rfl rfl (am (aZ rfl (aj (aD (aY (.inr rfl) rfl (.tmp (rfl:_=AV.v _)) (Le.out [] [] .v rfl rfl rfl trivial trivial))))))
theorem zd:Spec Tryz.prog 107 (bk [.v (.int .i64 14)] []) (aW (.v (.int .i64 1)) []):=by
 refine Spec.ofN Tryz.func107 rfl Tryz.ntmps107 rfl ?_
 refine am (aZ rfl (aj (aq (am (aS rfl (aj (au (aq ?_))))))))
 iterate 5 refine bR rfl rfl rfl rfl rfl ?_
 exact eN rfl rfl rfl rfl rfl (aJ (bF rfl rfl (am (aZ rfl (aj (aD (aY (.inr rfl) rfl (.tmp (rfl:_=AV.v _)) (Le.out [] [] .v rfl rfl rfl trivial trivial))))))))
theorem wn:Spec Tryz.prog 107 (bk [.v (.int .i64 15)] []) (aW (.v (.int .i64 0)) []):=by
 refine Spec.ofN Tryz.func107 rfl Tryz.ntmps107 rfl ?_
 refine am (aZ rfl (aj (aq (am (aS rfl (aj (au (aq ?_))))))))
 iterate 7 refine bR rfl rfl rfl rfl rfl ?_
 refine aq ?_
 refine aO (σ':=aB 18 [(3,_)] [] [] []) kp ?_
 refine cf rfl rfl rfl rfl rfl ?_
 iterate 4 refine bR rfl rfl rfl rfl rfl ?_
 exact cf rfl rfl rfl rfl rfl (cg (am (aZ rfl (aj (aD (aY (.inr rfl) rfl (.tmp (rfl:_=AV.v _)) (Le.out [] [] .v rfl rfl rfl trivial trivial)))))))
theorem yc:Spec Tryz.prog 107 (bk [.v (.int .i64 16)] []) (aW (.v (.int .i64 0)) []):=by
 refine Spec.ofN Tryz.func107 rfl Tryz.ntmps107 rfl ?_
 refine am (aZ rfl (aj (aq (am (aS rfl (aj (au (aq ?_))))))))
 iterate 7 refine bR rfl rfl rfl rfl rfl ?_
 refine aq ?_
 refine aO (σ':=aB 18 [(3,_)] [] [] []) kp ?_
 refine cf rfl rfl rfl rfl rfl ?_
 iterate 4 refine bR rfl rfl rfl rfl rfl ?_
 exact cf rfl rfl rfl rfl rfl (cg (am (aZ rfl (aj (aD (aY (.inr rfl) rfl (.tmp (rfl:_=AV.v _)) (Le.out [] [] .v rfl rfl rfl trivial trivial)))))))
theorem uX:Spec Tryz.prog 107 (bk [.v (.int .i64 17)] []) (aW (.v (.int .i64 0)) []):=by
 refine Spec.ofN Tryz.func107 rfl Tryz.ntmps107 rfl ?_
 refine am (aZ rfl (aj (aq (am (aS rfl (aj (au (aq ?_))))))))
 iterate 7 refine bR rfl rfl rfl rfl rfl ?_
 refine aq ?_
 refine aO (σ':=aB 18 [(3,_)] [] [] []) kp ?_
 refine cf rfl rfl rfl rfl rfl ?_
 iterate 4 refine bR rfl rfl rfl rfl rfl ?_
 exact cf rfl rfl rfl rfl rfl (cg (am (aZ rfl (aj (aD (aY (.inr rfl) rfl (.tmp (rfl:_=AV.v _)) (Le.out [] [] .v rfl rfl rfl trivial trivial)))))))
theorem sJ:Spec Tryz.prog 107 (bk [.v (.int .i64 18)] []) (aW (.v (.int .i64 0)) []):=by
 refine Spec.ofN Tryz.func107 rfl Tryz.ntmps107 rfl ?_
 refine am (aZ rfl (aj (aq (am (aS rfl (aj (au (aq ?_))))))))
 iterate 7 refine bR rfl rfl rfl rfl rfl ?_
 refine aq ?_
 refine aO (σ':=aB 18 [(3,_)] [] [] []) kp ?_
 refine cf rfl rfl rfl rfl rfl ?_
 iterate 4 refine bR rfl rfl rfl rfl rfl ?_
 exact cf rfl rfl rfl rfl rfl (cg (am (aZ rfl (aj (aD (aY (.inr rfl) rfl (.tmp (rfl:_=AV.v _)) (Le.out [] [] .v rfl rfl rfl trivial trivial)))))))
theorem sx:Spec Tryz.prog 107 (bk [.v (.int .i64 19)] []) (aW (.v (.int .i64 0)) []):=by
 refine Spec.ofN Tryz.func107 rfl Tryz.ntmps107 rfl ?_
 refine am (aZ rfl (aj (aq (am (aS rfl (aj (au (aq ?_))))))))
 iterate 7 refine bR rfl rfl rfl rfl rfl ?_
 refine aq ?_
 refine aO (σ':=aB 18 [(3,_)] [] [] []) kp ?_
 refine cf rfl rfl rfl rfl rfl ?_
 iterate 4 refine bR rfl rfl rfl rfl rfl ?_
 exact cf rfl rfl rfl rfl rfl (cg (am (aZ rfl (aj (aD (aY (.inr rfl) rfl (.tmp (rfl:_=AV.v _)) (Le.out [] [] .v rfl rfl rfl trivial trivial)))))))
theorem uN:Spec Tryz.prog 107 (bk [.v (.int .i64 20)] []) (aW (.v (.int .i64 0)) []):=by
 refine Spec.ofN Tryz.func107 rfl Tryz.ntmps107 rfl ?_
 refine am (aZ rfl (aj (aq (am (aS rfl (aj (au (aq ?_))))))))
 iterate 7 refine bR rfl rfl rfl rfl rfl ?_
 refine aq ?_
 refine aO (σ':=aB 18 [(3,_)] [] [] []) kp ?_
 refine cf rfl rfl rfl rfl rfl ?_
 iterate 4 refine bR rfl rfl rfl rfl rfl ?_
 exact cf rfl rfl rfl rfl rfl (cg (am (aZ rfl (aj (aD (aY (.inr rfl) rfl (.tmp (rfl:_=AV.v _)) (Le.out [] [] .v rfl rfl rfl trivial trivial)))))))
theorem td:Spec Tryz.prog 107 (bk [.v (.int .i64 21)] []) (aW (.v (.int .i64 0)) []):=by
 refine Spec.ofN Tryz.func107 rfl Tryz.ntmps107 rfl ?_
 refine am (aZ rfl (aj (aq (am (aS rfl (aj (au (aq ?_))))))))
 iterate 7 refine bR rfl rfl rfl rfl rfl ?_
 refine aq ?_
 refine aO (σ':=aB 18 [(3,_)] [] [] []) kp ?_
 refine cf rfl rfl rfl rfl rfl ?_
 iterate 4 refine bR rfl rfl rfl rfl rfl ?_
 exact cf rfl rfl rfl rfl rfl (cg (am (aZ rfl (aj (aD (aY (.inr rfl) rfl (.tmp (rfl:_=AV.v _)) (Le.out [] [] .v rfl rfl rfl trivial trivial)))))))
theorem vK:Spec Tryz.prog 107 (bk [.v (.int .i64 22)] []) (aW (.v (.int .i64 0)) []):=by
 refine Spec.ofN Tryz.func107 rfl Tryz.ntmps107 rfl ?_
 refine am (aZ rfl (aj (aq (am (aS rfl (aj (au (aq ?_))))))))
 iterate 7 refine bR rfl rfl rfl rfl rfl ?_
 refine aq ?_
 refine aO (σ':=aB 18 [(3,_)] [] [] []) kp ?_
 refine cf rfl rfl rfl rfl rfl ?_
 iterate 4 refine bR rfl rfl rfl rfl rfl ?_
 exact cf rfl rfl rfl rfl rfl (cg (am (aZ rfl (aj (aD (aY (.inr rfl) rfl (.tmp (rfl:_=AV.v _)) (Le.out [] [] .v rfl rfl rfl trivial trivial)))))))
theorem uP:Spec Tryz.prog 107 (bk [.v (.int .i64 23)] []) (aW (.v (.int .i64 0)) []):=by
 refine Spec.ofN Tryz.func107 rfl Tryz.ntmps107 rfl ?_
 refine am (aZ rfl (aj (aq (am (aS rfl (aj (au (aq ?_))))))))
 iterate 7 refine bR rfl rfl rfl rfl rfl ?_
 refine aq ?_
 refine aO (σ':=aB 18 [(3,_)] [] [] []) kp ?_
 refine cf rfl rfl rfl rfl rfl ?_
 iterate 4 refine bR rfl rfl rfl rfl rfl ?_
 exact cf rfl rfl rfl rfl rfl (cg (am (aZ rfl (aj (aD (aY (.inr rfl) rfl (.tmp (rfl:_=AV.v _)) (Le.out [] [] .v rfl rfl rfl trivial trivial)))))))
theorem pq (o:Opc):Spec Tryz.prog 107 (bk [.v (.int .i64 (o.num:Int))] []) (aW (.v (.int .i64 (o.puts:Int))) []):=by
 cases o
 ·exact wb
 ·exact wJ
 ·exact rA
 ·exact vA
 ·exact uC
 ·exact wK
 ·exact yE
 ·exact xP
 ·exact wC
 ·exact xz
 ·exact Bu
 ·exact Ax
 ·exact Ba
 ·exact zd
 ·exact wn
 ·exact yc
 ·exact uX
 ·exact sJ
 ·exact sx
 ·exact uN
 ·exact td
 ·exact vK
 ·exact uP
theorem opn_stop {o:Opc}:(o.num:Int)=23↔o= .stop:=by cases o <;> simp [Opc.num]
theorem opn_jump {o:Opc}:(o.num:Int)=15↔o= .jump:=by cases o <;> simp [Opc.num]
theorem opn_unl {o:Opc}:(o.num:Int)=16↔o= .unl:=by cases o <;> simp [Opc.num]
theorem vV (C:List eu) (e:Nat→Int) (dd vv:Int) (i:Nat) (hC:C.length≤1000000) (hi:i < C.length) (hn:(cL C i).op= .jump∨(cL C i).op= .unl→0≤(cL C i).n):
  Spec Tryz.prog 73 (bk [.agg (yf C.length (inl C) e dd vv), .v (.int .i64 (i:Int))] []) (aW (.sl (dz i (cL C i)).length (BV (dz i (cL C i)))) []):=by
 obtain ⟨x,hx⟩: ∃ x,x=cL C i:=⟨_,rfl⟩
 have hg0:=lD C i hi
 have hg1:=wO C i hi
 rw [← hx] at hn hg0 hg1 ⊢
 clear hx
 obtain ⟨o,n⟩:=x
 simp only at hn hg0 hg1
 refine Spec.ofN Tryz.func73 rfl Tryz.ntmps73 rfl ?_
 refine am (ai (bf (2,0) _ rfl rfl) (ai (bA _ (rfl:_=AV.v (.slice _ _ _))) (aj (aq (am (bv rfl rfl rfl (fG rfl rfl rfl (aS rfl (ai (bg _ _ aa rfl rfl _ rfl ab (by (simp only [ba,bo,bm,bC,bw,bJ,bD,bQ,ed];omega)) ag) ?_)))))))))
 refine ai (dk _ aa rfl rfl) (ai (bG _ aa rfl (by exact hg0) rfl) ?_)
 refine aj (au (am (ai (bT _ _ rfl rfl rfl) (cw rfl (aj (aV rfl (fun hc11=> ?_) (fun hc11=> ?_)))))))
 ·skip
  obtain rfl:=opn_stop.1 hc11
  exact am (ai (bA _ (rfl:_=AV.v (.slice _ _ _))) (aj (aD (aY (.inr rfl) rfl (.tmp (rfl:_=AV.v _)) (Le.out [] [] .nil rfl rfl rfl trivial trivial)))))
 ·skip
  refine am (ai (bT _ _ rfl rfl rfl) (cw rfl (aj (aV rfl (fun hc13=> ?_) (fun hc13=> ?_)))))
  ·skip
   obtain rfl:=opn_jump.1 hc13
   have hn:=hn (.inl rfl)
   refine am (bv rfl rfl rfl (fG rfl rfl rfl (aS rfl (ai (bg _ _ aa rfl rfl _ rfl ab (by (simp only [ba,bo,bm,bC,bw,bJ,bD,bQ,ed];omega)) ag) ?_))))
   refine ai (dk _ aa rfl rfl) (ai (bG _ aa rfl (by exact hg1) rfl) ?_)
   refine ai (aX _ _ aa rfl ag (by (simp <;> rfl)) ah rfl) ?_
   exact kB rfl (aj (aD (aY (.inr rfl) rfl (.tmp (rfl:_=AV.sl _ _)) (Le.out [] [] (gP rfl (by simp [BV,dz,Int.toNat_of_nonneg hn])) rfl rfl rfl trivial trivial))))
  ·skip
   refine am (ai (bT _ _ rfl rfl rfl) (cw rfl (aj (aV rfl (fun hc22=> ?_) (fun hc22=> ?_)))))
   ·skip
    obtain rfl:=opn_unl.1 hc22
    have hn:=hn (.inr rfl)
    refine am (aS rfl (ai (be _ _ rfl rfl (br ab)) ?_))
    refine bv rfl rfl rfl (fG rfl rfl rfl (aS rfl (ai (bg _ _ aa rfl rfl _ rfl ab (by (simp only [ba,bo,bm,bC,bw,bJ,bD,bQ,ed];omega)) ag) ?_)))
    refine ai (dk _ aa rfl rfl) (ai (bG _ aa rfl (by exact hg1) rfl) ?_)
    refine ai (aX _ _ aa rfl ag (by (simp <;> rfl)) ah rfl) ?_
    exact kB rfl (aj (aD (aY (.inr rfl) rfl (.tmp (rfl:_=AV.sl _ _)) (Le.out [] [] (gP rfl (by simp [BV,dz,Int.toNat_of_nonneg hn])) rfl rfl rfl trivial trivial))))
   ·skip
    have hs:dz i ⟨o,n⟩=[i+1]:=by
     unfold dz
     have h1:o≠ .stop:=fun e=> hc11 (opn_stop.2 e)
     have h2:o≠ .jump:=fun e=> hc13 (opn_jump.2 e)
     have h3:o≠ .unl:=fun e=> hc22 (opn_unl.2 e)
     cases o <;> first | rfl | exact absurd rfl h1 | exact absurd rfl h2 | exact absurd rfl h3
    refine cg (am (aS rfl (ai (be _ _ rfl rfl (br ab)) ?_)))
    refine ai (aX _ _ aa rfl ag (by (simp <;> rfl)) ah rfl) ?_
    refine kB rfl (aj (aD ?_))
    rw [hs]
    exact aY (.inr rfl) rfl (.tmp (rfl:_=AV.sl _ _)) (Le.out [] [] (gP rfl (by simp [BV])) rfl rfl rfl trivial trivial)
instance RP:Arr Tryz.prog 24 40 1:=Arr.of Tryz.underlying24 ae
instance SJ:Arr Tryz.prog 30 9 1:=Arr.of Tryz.underlying30 ae
instance TG:Arr Tryz.prog 44 2 1:=Arr.of Tryz.underlying44 ae
instance Ta:Arr Tryz.prog 81 41 1:=Arr.of Tryz.underlying81 ae
instance Qg:Arr Tryz.prog 173 24 1:=Arr.of Tryz.underlying173 ae
instance No:Arr Tryz.prog 278 0 1:=Arr.of Tryz.underlying278 ae
end Go.Proofs.YtmjnackchaahbaaGreat
