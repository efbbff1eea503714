/- Part 13 of the texts that the walk leans on: the machine, the walks, the plain laws. -/
import Derived.Test.YtmjnackchaahbaaGreatVtZ12
set_option linter.unusedSimpArgs false
set_option linter.unusedVariables false
namespace Go.Proofs.YtmjnackchaahbaaGreat
open Go.RowKit

section
variable {d v:List Tx} {no:Nat} {on:List PV}
theorem Bn (n:Nat):CoS (uu d v no on) (nd 12 n [] []) (fun _=> [{ op:= .push,n:=(n:Int) }]):=fun a ha=> by
 refine Spec.ofN Tryz.func91 rfl Tryz.ntmps91 rfl ?_
 refine am (aj (bg (3,0) _ rfl rfl) (aj (bg (4,0) _ rfl rfl) (aj (bB _ (rfl:_=AV.v (.slice _ _ _))) (ai (aq (am (bu rfl rfl rfl (cw rfl rfl rfl (ai (au ?_))))))))))
 refine aq (fN rfl rfl rfl rfl rfl (aO (bR rfl rfl (am (bu rfl rfl rfl (cw rfl rfl rfl (aj (aF _ aa rfl (by exact (rfl:_=some [_,_]))) ?_)))))))
 refine aj (js (19,0) _ _ aa rfl ag (by (simp <;> rfl)) ah rfl rfl) ?_
 exact eE rfl (ai (aE (aW (.inr rfl) rfl (.tmp (rfl:_=AV.ref _ _ _)) (Le.out [((0,8),(19,0))] [] (cY rfl rfl) rfl rfl rfl trivial ob))))
theorem sj (n:Nat):CoS (uu d v no on) (nd 13 n [] []) (fun _=> [{ op:= .push,n:=(n:Int) }]):=fun a ha=> by
 refine Spec.ofN Tryz.func91 rfl Tryz.ntmps91 rfl ?_
 refine am (aj (bg (3,0) _ rfl rfl) (aj (bg (4,0) _ rfl rfl) (aj (bB _ (rfl:_=AV.v (.slice _ _ _))) (ai (aq (am (bu rfl rfl rfl (cw rfl rfl rfl (ai (au ?_))))))))))
 refine aq (cm rfl rfl rfl rfl rfl (yO rfl rfl rfl rfl rfl (am (bu rfl rfl rfl (cw rfl rfl rfl (aj (aF _ aa rfl (by exact (rfl:_=some [_,_]))) ?_))))))
 refine aj (js (19,0) _ _ aa rfl ag (by (simp <;> rfl)) ah rfl rfl) ?_
 exact eE rfl (ai (aE (aW (.inr rfl) rfl (.tmp (rfl:_=AV.ref _ _ _)) (Le.out [((0,8),(19,0))] [] (cY rfl rfl) rfl rfl rfl trivial ob))))
theorem BJ (hn:(d++v).Nodup) (hl:(d++v).length≤1000) (i:Nat) (hi:i < (d++v).length):CoS (uu d v no on) (nd 14 0 ((d++v).getD i []) []) (fun _=> [{ op:= .var,n:=(i:Int) }]):=fun a ha=> by
 refine Spec.ofN Tryz.func91 rfl Tryz.ntmps91 rfl ?_
 refine am (aj (bg (3,0) _ rfl rfl) (aj (bg (4,0) _ rfl rfl) (aj (bB _ (rfl:_=AV.v (.slice _ _ _))) (ai (aq (am (bu rfl rfl rfl (cw rfl rfl rfl (ai (au ?_))))))))))
 refine aq (cm rfl rfl rfl rfl rfl (dq rfl rfl rfl rfl rfl (fN rfl rfl rfl rfl rfl (am (aj (aX _ aa rfl rfl rfl rfl) (bu rfl rfl rfl (aj (aG _ aa rfl rfl (rfl:_=some (AV.v (.string _)))) (aj (aC aa al (kk d v on no hn hl i hi) rfl rfl) ?_))))))))
 refine aj (aF _ aa rfl (by exact (rfl:_=some [_,_]))) ?_
 refine aj (js (27,0) _ _ aa rfl ag (by (simp <;> rfl)) ah rfl rfl) ?_
 exact eE rfl (ai (aE (aW (.inr rfl) rfl (.tmp (rfl:_=AV.ref _ _ _)) (Le.out [((0,8),(27,0))] [] (cY rfl rfl) rfl rfl rfl trivial ob))))
theorem yc (k:Nat) (hk:k < 9):CoS (uu d v no on) (nd 15 0 (bltT.getD k []) []) (fun _=> [{ op:= .name,n:=(k:Int) }]):=fun a ha=> by
 refine Spec.ofN Tryz.func91 rfl Tryz.ntmps91 rfl ?_
 refine am (aj (bg (3,0) _ rfl rfl) (aj (bg (4,0) _ rfl rfl) (aj (bB _ (rfl:_=AV.v (.slice _ _ _))) (ai (aq (am (bu rfl rfl rfl (cw rfl rfl rfl (ai (au ?_))))))))))
 refine aq (cm rfl rfl rfl rfl rfl (dq rfl rfl rfl rfl rfl (cm rfl rfl rfl rfl rfl (fN rfl rfl rfl rfl rfl (aq ?_)))))
 refine aQ (σ':=aA 211 [(4,_)] [((4,0),_)] [] []) kp ?_
 refine bT 6 [30,31,32,33,34,35] [(35,0)] ae ae rfl (aM rfl) (rfl:_=[_,_,_,_,_,_]) (rfl:_=[_]) ?_
 refine ap (_,[]) (fun τ=> (aC aa (by repeat' (exact eP)) (mj) rfl rfl)) ?_
 refine fO rfl ?_
 refine ap (_,[]) (fun τ=> aD _ aa rfl rfl rfl) ?_
 refine fR rfl ?_
 refine ap (_,[]) (fun τ=> aG _ aa rfl rfl (rfl:_=some (AV.v (.string _)))) ?_
 refine fT rfl ?_
 refine ap (_,[]) (fun τ=> (aC aa al (sR bltT 9 rfl ab ah k hk) rfl rfl)) ?_
 refine fP rfl ?_
 refine ap (_,[]) (fun τ=> aF _ aa rfl (by exact (rfl:_=some [_,_]))) ?_
 refine gb rfl ?_
 refine ap (_,[((35,0),_)]) (fun τ=> js (35,0) _ _ aa rfl ag (by (simp <;> rfl)) ah rfl rfl) ?_
 refine gC rfl (bw ⟨rfl,?_⟩)
 exact eE rfl (ai (aE (aW (.inr rfl) rfl (.tmp (rfl:_=AV.ref _ _ _)) (Le.out [((0,8),(35,0))] [] (cY rfl rfl) rfl rfl rfl trivial ob))))
theorem vQ (n:Nat):CoS (uu d v no on) (nd 5 n [] []) (fun _=> [{ op:= .timer,n:=(n:Int) }]):=fun a ha=> by
 refine Spec.ofN Tryz.func91 rfl Tryz.ntmps91 rfl ?_
 refine am (aj (bg (3,0) _ rfl rfl) (aj (bg (4,0) _ rfl rfl) (aj (bB _ (rfl:_=AV.v (.slice _ _ _))) (ai (aq (am (bu rfl rfl rfl (cw rfl rfl rfl (ai (au ?_))))))))))
 refine aq (cm rfl rfl rfl rfl rfl (dq rfl rfl rfl rfl rfl ?_))
 iterate 3 refine cm rfl rfl rfl rfl rfl ?_
 refine aq ?_
 refine aQ (σ':=aA 211 [(2,_),(3,_),(4,_),(12,_)] [((3,0),_),((4,0),_)] [] []) kp ?_
 refine yO rfl rfl rfl rfl rfl (am (bu rfl rfl rfl (cw rfl rfl rfl (aj (aF _ aa rfl (by exact (rfl:_=some [_,_]))) ?_))))
 refine aj (js (56,0) _ _ aa rfl ag (by (simp <;> rfl)) ah rfl rfl) ?_
 exact eE rfl (ai (aE (aW (.inr rfl) rfl (.tmp (rfl:_=AV.ref _ _ _)) (Le.out [((0,8),(56,0))] [] (cY rfl rfl) rfl rfl rfl trivial ob))))
theorem sP (n:Nat):CoS (uu d v no on) (nd 6 n [] []) (fun _=> [{ op:= .cancel,n:=(n:Int) }]):=fun a ha=> by
 refine Spec.ofN Tryz.func91 rfl Tryz.ntmps91 rfl ?_
 refine am (aj (bg (3,0) _ rfl rfl) (aj (bg (4,0) _ rfl rfl) (aj (bB _ (rfl:_=AV.v (.slice _ _ _))) (ai (aq (am (bu rfl rfl rfl (cw rfl rfl rfl (ai (au ?_))))))))))
 refine aq (cm rfl rfl rfl rfl rfl (dq rfl rfl rfl rfl rfl ?_))
 iterate 3 refine cm rfl rfl rfl rfl rfl ?_
 refine aq ?_
 refine aQ (σ':=aA 211 [(2,_),(3,_),(4,_),(12,_)] [((3,0),_),((4,0),_)] [] []) kp ?_
 refine dq rfl rfl rfl rfl rfl (fN rfl rfl rfl rfl rfl (am (bu rfl rfl rfl (cw rfl rfl rfl (aj (aF _ aa rfl (by exact (rfl:_=some [_,_]))) ?_)))))
 refine aj (js (62,0) _ _ aa rfl ag (by (simp <;> rfl)) ah rfl rfl) ?_
 exact eE rfl (ai (aE (aW (.inr rfl) rfl (.tmp (rfl:_=AV.ref _ _ _)) (Le.out [((0,8),(62,0))] [] (cY rfl rfl) rfl rfl rfl trivial ob))))
theorem co_sync:CoS (uu d v no on) (nd 7 0 [] []) (fun _=> [{ op:= .sync }]):=fun a ha=> by
 refine Spec.ofN Tryz.func91 rfl Tryz.ntmps91 rfl ?_
 refine am (aj (bg (3,0) _ rfl rfl) (aj (bg (4,0) _ rfl rfl) (aj (bB _ (rfl:_=AV.v (.slice _ _ _))) (ai (aq (am (bu rfl rfl rfl (cw rfl rfl rfl (ai (au ?_))))))))))
 refine aq (cm rfl rfl rfl rfl rfl (dq rfl rfl rfl rfl rfl ?_))
 iterate 3 refine cm rfl rfl rfl rfl rfl ?_
 refine aq ?_
 refine aQ (σ':=aA 211 [(2,_),(3,_),(4,_),(12,_)] [((3,0),_),((4,0),_)] [] []) kp ?_
 refine dq rfl rfl rfl rfl rfl (cm rfl rfl rfl rfl rfl (fN rfl rfl rfl rfl rfl (am (aj (aF _ aa rfl (by exact (rfl:_=some [_,_]))) ?_))))
 refine aj (js (66,0) _ _ aa rfl ag (by (simp <;> rfl)) ah rfl rfl) ?_
 exact eE rfl (ai (aE (aW (.inr rfl) rfl (.tmp (rfl:_=AV.ref _ _ _)) (Le.out [((0,8),(66,0))] [] (cY rfl rfl) rfl rfl rfl trivial ob))))
theorem co_stop:CoS (uu d v no on) (nd 10 0 [] []) (fun _=> [{ op:= .stop }]):=fun a ha=> by
 refine Spec.ofN Tryz.func91 rfl Tryz.ntmps91 rfl ?_
 refine am (aj (bg (3,0) _ rfl rfl) (aj (bg (4,0) _ rfl rfl) (aj (bB _ (rfl:_=AV.v (.slice _ _ _))) (ai (aq (am (bu rfl rfl rfl (cw rfl rfl rfl (ai (au ?_))))))))))
 refine aq (cm rfl rfl rfl rfl rfl (dq rfl rfl rfl rfl rfl ?_))
 iterate 3 refine cm rfl rfl rfl rfl rfl ?_
 refine aq ?_
 refine aQ (σ':=aA 211 [(2,_),(3,_),(4,_),(12,_)] [((3,0),_),((4,0),_)] [] []) kp ?_
 refine dq rfl rfl rfl rfl rfl ?_
 iterate 2 refine cm rfl rfl rfl rfl rfl ?_
 refine fN rfl rfl rfl rfl rfl (am (aj (aF _ aa rfl (by exact (rfl:_=some [_,_]))) ?_))
 refine aj (js (70,0) _ _ aa rfl ag (by (simp <;> rfl)) ah rfl rfl) ?_
 exact eE rfl (ai (aE (aW (.inr rfl) rfl (.tmp (rfl:_=AV.ref _ _ _)) (Le.out [((0,8),(70,0))] [] (cY rfl rfl) rfl rfl rfl trivial ob))))
theorem Bw {c y z:Nd} {cc cy cz:Cd} (hc:CoS (uu d v no on) c cc) (hy:CoS (uu d v no on) y cy) (hz:CoS (uu d v no on) z cz):CoS (uu d v no on) (nd 2 0 [] [c,y,z]) (Af cc cy cz):=fun a ha=> by
 have hb:=jn (on:=on) c cc cy cz hc 1 1 (ko [y]) (ko [z]) 0 (fun a ha=> ms y cy hy 0 a ha) (fun a ha=> ms z cz hz 0 a ha) a ha
 refine Spec.ofN Tryz.func91 rfl Tryz.ntmps91 rfl ?_
 refine am (aj (bg (3,0) _ rfl rfl) (aj (bg (4,0) _ rfl rfl) (aj (bB _ (rfl:_=AV.v (.slice _ _ _))) (ai (aq (am (bu rfl rfl rfl (cw rfl rfl rfl (ai (au ?_))))))))))
 refine aq (cm rfl rfl rfl rfl rfl (dq rfl rfl rfl rfl rfl ?_))
 iterate 2 refine cm rfl rfl rfl rfl rfl ?_
 refine fN rfl rfl rfl rfl rfl (aq ?_)
 refine aQ (σ':=aA 211 [(2,_),(3,_),(4,_)] [((3,0),_),((4,0),_)] [] []) kp ?_
 refine bT 12 [38,39,40,41,42,43,44,45,46,47,48,49] [] ae ae rfl (aM rfl) (rfl:_=[_,_,_,_,_,_,_,_,_,_,_,_]) (rfl:_=[_,_]) ?_
 refine ap (_,[]) (fun τ=> aX _ aa rfl rfl rfl rfl) ?_
 refine fO rfl ?_
 refine ap (_,[]) (fun τ=> aD _ aa rfl rfl rfl) ?_
 refine fR rfl ?_
 refine ap (_,[]) (fun τ=> aG _ aa rfl rfl (rfl:_=some (AV.sl _ _))) ?_
 refine fT rfl ?_
 refine ap (_,[]) (fun τ=> bl _ _ aa rfl rfl 0 rfl (show 0 < 3 by omega) (Nat.le_of_ble_eq_true rfl) rfl) ?_
 refine fP rfl ?_
 refine ap (_,[]) (fun τ=> bZ _ aa rfl (by exact cp [c,y,z] 0 (by simp)) rfl) ?_
 refine gb rfl ?_
 refine ap (_,[]) (fun τ=> aD _ aa rfl rfl rfl) ?_
 refine gC rfl ?_
 refine ap (_,[]) (fun τ=> aG _ aa rfl rfl (rfl:_=some (AV.sl _ _))) ?_
 refine iy rfl ?_
 refine ap (_,[]) (fun τ=> lF _ _ _ aa rfl 1 2 (.lit rfl rfl) (.lit rfl rfl) ab (show 2≤3 by omega) (show _=ko [y] from rfl) rfl) ?_
 refine jy rfl ?_
 refine ap (_,[]) (fun τ=> aD _ aa rfl rfl rfl) ?_
 refine jr rfl ?_
 refine ap (_,[]) (fun τ=> aG _ aa rfl rfl (rfl:_=some (AV.sl _ _))) ?_
 refine fq rfl ?_
 refine ap (_,[]) (fun τ=> lF _ _ _ aa rfl 2 3 (.lit rfl rfl) (.lit rfl rfl) ab (show 3≤3 by omega) (show _=ko [z] from rfl) rfl) ?_
 refine fv rfl ?_
 refine ap (_,[]) (fun τ=> aH _ (rfl:_=AV.v (.int _ _))) ?_
 refine jf rfl (bw ⟨rfl,?_⟩)
 refine aj (cT aa [((0,8),(50,0))] ar (hb.toI) trivial tr ae) ?_
 exact eE rfl (ai (aE (aW (.inr rfl) rfl (.tmp (rfl:_=AV.ref _ _ _)) (Le.out [((0,8),(50,0))] [] (cY rfl rfl) rfl rfl rfl trivial ob))))
theorem AT {c y:Nd} {cc cy:Cd} (hc:CoS (uu d v no on) c cc) (hy:CoS (uu d v no on) y cy):CoS (uu d v no on) (nd 18 0 [38,38] [c,y]) (Af cc cy (fun _=> [{ op:= .push,n:=0 }])):=fun a ha=> by
 have hb:=jn (on:=on) c cc cy (fun _=> [{ op:= .push,n:=0 }]) hc 1 0 (ko [y]) [] 0 (fun a ha=> ms y cy hy 0 a ha) (fun a _=> qA 0 a) a ha
 refine Spec.ofN Tryz.func91 rfl Tryz.ntmps91 rfl ?_
 refine am (aj (bg (3,0) _ rfl rfl) (aj (bg (4,0) _ rfl rfl) (aj (bB _ (rfl:_=AV.v (.slice _ _ _))) (ai (aq (am (bu rfl rfl rfl (cw rfl rfl rfl (ai (au ?_))))))))))
 refine aq (cm rfl rfl rfl rfl rfl (dq rfl rfl rfl rfl rfl ?_))
 iterate 3 refine cm rfl rfl rfl rfl rfl ?_
 refine aq ?_
 refine aQ (σ':=aA 211 [(2,_),(3,_),(4,_),(12,_)] [((3,0),_),((4,0),_)] [] []) kp ?_
 refine dq rfl rfl rfl rfl rfl ?_
 iterate 4 refine cm rfl rfl rfl rfl rfl ?_
 refine cf (aq (am (bu rfl rfl rfl (cw rfl rfl rfl (jv rfl rfl rfl (cE rfl (ax rfl rfl (aD _ aa rfl rfl rfl) (ax rfl rfl (aG _ aa rfl rfl (rfl:_=some (AV.v (.string _)))) (ax rfl rfl (aK (r:=true) _ _ Tryz.underlying9 rfl rfl rfl) (aj (az _ _ _ rfl (rfl:_=AV.v (.bool _))) ?_))))))))))
 refine ai (bR rfl rfl (aq ?_))
 refine aQ (σ':=aA 211 [(2,_),(3,_),(4,_)] [((3,0),_),((4,0),_)] [] []) kp ?_
 refine bT 9 [119,120,121,122,123,124,125,126,127] [] ae ae rfl (aM rfl) (rfl:_=[_,_,_,_,_,_,_,_,_]) (rfl:_=[_,_]) ?_
 refine ap (_,[]) (fun τ=> aX _ aa rfl rfl rfl rfl) ?_
 refine fO rfl ?_
 refine ap (_,[]) (fun τ=> aD _ aa rfl rfl rfl) ?_
 refine fR rfl ?_
 refine ap (_,[]) (fun τ=> aG _ aa rfl rfl (rfl:_=some (AV.sl _ _))) ?_
 refine fT rfl ?_
 refine ap (_,[]) (fun τ=> bl _ _ aa rfl rfl 0 rfl (show 0 < 2 by omega) (Nat.le_of_ble_eq_true rfl) rfl) ?_
 refine fP rfl ?_
 refine ap (_,[]) (fun τ=> bZ _ aa rfl (by exact cp [c,y] 0 (by simp)) rfl) ?_
 refine gb rfl ?_
 refine ap (_,[]) (fun τ=> aD _ aa rfl rfl rfl) ?_
 refine gC rfl ?_
 refine ap (_,[]) (fun τ=> aG _ aa rfl rfl (rfl:_=some (AV.sl _ _))) ?_
 refine iy rfl ?_
 refine ap (_,[]) (fun τ=> lF _ _ _ aa rfl 1 2 (.lit rfl rfl) (.lit rfl rfl) ab (show 2≤2 by omega) (show _=ko [y] from rfl) rfl) ?_
 refine jy rfl ?_
 refine ap (_,[]) (fun τ=> aH _ (rfl:_=AV.v (.int _ _))) ?_
 refine jr rfl (bw ⟨rfl,?_⟩)
 refine aj (cT aa [((0,8),(50,0))] ar (hb.toI) trivial tr ae) ?_
 exact eE rfl (ai (aE (aW (.inr rfl) rfl (.tmp (rfl:_=AV.ref _ _ _)) (Le.out [((0,8),(50,0))] [] (cY rfl rfl) rfl rfl rfl trivial ob))))
theorem CB {c y:Nd} {cc cy:Cd} (hc:CoS (uu d v no on) c cc) (hy:CoS (uu d v no on) y cy):CoS (uu d v no on) (nd 18 0 [124,124] [c,y]) (Af cc (fun _=> [{ op:= .push,n:=1 }]) cy):=fun a ha=> by
 have hb:=jn (on:=on) c cc (fun _=> [{ op:= .push,n:=1 }]) cy hc 0 1 [] (ko [y]) 1 (fun a _=> qA 1 a) (fun a ha=> ms y cy hy 1 a ha) a ha
 refine Spec.ofN Tryz.func91 rfl Tryz.ntmps91 rfl ?_
 refine am (aj (bg (3,0) _ rfl rfl) (aj (bg (4,0) _ rfl rfl) (aj (bB _ (rfl:_=AV.v (.slice _ _ _))) (ai (aq (am (bu rfl rfl rfl (cw rfl rfl rfl (ai (au ?_))))))))))
 refine aq (cm rfl rfl rfl rfl rfl (dq rfl rfl rfl rfl rfl ?_))
 iterate 3 refine cm rfl rfl rfl rfl rfl ?_
 refine aq ?_
 refine aQ (σ':=aA 211 [(2,_),(3,_),(4,_),(12,_)] [((3,0),_),((4,0),_)] [] []) kp ?_
 refine dq rfl rfl rfl rfl rfl ?_
 iterate 4 refine cm rfl rfl rfl rfl rfl ?_
 refine cf (aq (am (bu rfl rfl rfl (cw rfl rfl rfl (jv rfl rfl rfl (cE rfl (ax rfl rfl (aD _ aa rfl rfl rfl) (ax rfl rfl (aG _ aa rfl rfl (rfl:_=some (AV.v (.string _)))) (ax rfl rfl (aK (r:=false) _ _ Tryz.underlying9 rfl rfl rfl) (aj (az _ _ _ rfl (rfl:_=AV.v (.bool _))) ?_))))))))))
 refine ai (aS rfl rfl (aO (aq (aq ?_))))
 refine aQ (σ':=aA 211 [(2,_),(3,_),(4,_)] [((3,0),_),((4,0),_)] [] []) kp ?_
 refine an (bu rfl rfl rfl (cw rfl rfl rfl (jv rfl rfl rfl (cE rfl (ax rfl rfl (aD _ aa rfl rfl rfl) (ax rfl rfl (aG _ aa rfl rfl (rfl:_=some (AV.v (.string _)))) (ax rfl rfl (aK (r:=true) _ _ Tryz.underlying9 rfl rfl rfl) (aj (az _ _ _ rfl (rfl:_=AV.v (.bool _))) (ai (bR rfl rfl ?_))))))))))
 refine aq ?_
 refine aQ (σ':=aA 211 [(2,_),(3,_),(4,_)] [((3,0),_),((4,0),_)] [] []) kp ?_
 refine bT 9 [137,138,139,140,141,142,143,144,145] [] ae ae rfl (aM rfl) (rfl:_=[_,_,_,_,_,_,_,_,_]) (rfl:_=[_,_]) ?_
 refine ap (_,[]) (fun τ=> aX _ aa rfl rfl rfl rfl) ?_
 refine fO rfl ?_
 refine ap (_,[]) (fun τ=> aD _ aa rfl rfl rfl) ?_
 refine fR rfl ?_
 refine ap (_,[]) (fun τ=> aG _ aa rfl rfl (rfl:_=some (AV.sl _ _))) ?_
 refine fT rfl ?_
 refine ap (_,[]) (fun τ=> bl _ _ aa rfl rfl 0 rfl (show 0 < 2 by omega) (Nat.le_of_ble_eq_true rfl) rfl) ?_
 refine fP rfl ?_
 refine ap (_,[]) (fun τ=> bZ _ aa rfl (by exact cp [c,y] 0 (by simp)) rfl) ?_
 refine gb rfl ?_
 refine ap (_,[]) (fun τ=> aD _ aa rfl rfl rfl) ?_
 refine gC rfl ?_
 refine ap (_,[]) (fun τ=> aG _ aa rfl rfl (rfl:_=some (AV.sl _ _))) ?_
 refine iy rfl ?_
 refine ap (_,[]) (fun τ=> lF _ _ _ aa rfl 1 2 (.lit rfl rfl) (.lit rfl rfl) ab (show 2≤2 by omega) (show _=ko [y] from rfl) rfl) ?_
 refine jy rfl ?_
 refine ap (_,[]) (fun τ=> aH _ (rfl:_=AV.v (.int _ _))) ?_
 refine jr rfl (bw ⟨rfl,?_⟩)
 refine aj (cT aa [((0,8),(50,0))] ar (hb.toI) trivial tr ae) ?_
 exact eE rfl (ai (aE (aW (.inr rfl) rfl (.tmp (rfl:_=AV.ref _ _ _)) (Le.out [((0,8),(50,0))] [] (cY rfl rfl) rfl rfl rfl trivial ob))))
theorem yD {L:List Nd} {cs:List Cd} (hc:cs.length=L.length) (hk:kj (uu d v no on) L cs):CoS (uu d v no on) (nd 16 0 [] L) (fun a=> cC cs a++[{ op:= .draw }]):=fun a ha=> by
 have hl2:a+(cC cs a).length≤1000000:=by simp only [List.length_append] at ha;omega
 have hq:=cZ (d:=d) (v:=v) (no:=no) (on:=on) L cs hc hk a hl2
 refine Spec.ofN Tryz.func91 rfl Tryz.ntmps91 rfl ?_
 refine am (aj (bg (3,0) _ rfl rfl) (aj (bg (4,0) _ rfl rfl) (aj (bB _ (rfl:_=AV.v (.slice _ _ _))) (ai (aq (am (bu rfl rfl rfl (cw rfl rfl rfl (ai (au ?_))))))))))
 refine aq (cm rfl rfl rfl rfl rfl (dq rfl rfl rfl rfl rfl ?_))
 iterate 3 refine cm rfl rfl rfl rfl rfl ?_
 refine aq ?_
 refine aQ (σ':=aA 211 [(2,_),(3,_),(4,_),(12,_)] [((3,0),_),((4,0),_)] [] []) kp ?_
 refine dq rfl rfl rfl rfl rfl ?_
 iterate 4 refine cm rfl rfl rfl rfl rfl ?_
 refine cf (aq (am (bu rfl rfl rfl (cw rfl rfl rfl (fJ rfl rfl rfl (cE rfl (aN rfl rfl ah ?_)))))))
 refine aN rfl rfl ah ?_
 refine aN rfl rfl ah ?_
 refine aj (az _ _ _ rfl (rfl:_=AV.v (.bool _))) (ai (aS rfl rfl (aO (aq (aq ?_)))))
 refine aQ (σ':=aA 211 [(2,_),(3,_),(4,_)] [((3,0),_),((4,0),_)] [] []) kp ?_
 refine an (bu rfl rfl rfl (cw rfl rfl rfl (fJ rfl rfl rfl (cE rfl (aN rfl rfl ah ?_)))))
 refine aN rfl rfl ah ?_
 refine aN rfl rfl ah ?_
 refine aj (az _ _ _ rfl (rfl:_=AV.v (.bool _))) (ai (aS rfl rfl (aO (am (aj (aX _ aa rfl rfl rfl rfl) (bu rfl rfl rfl (eY rfl rfl rfl (aV rfl (aj (cT aa [((0,8),(50,0))] ar (hq.toI) trivial tr ae) ?_)))))))))
 refine eE rfl (ai (aq (am (bu rfl rfl rfl (cw rfl rfl rfl (ai (au (aq ?_))))))))
 refine aQ (σ':=aA 211 [(3,_),(4,_),(10,_),(153,_)] [((3,0),_),((4,0),_),((50,0),_)] [] []) kp ?_
 refine dq rfl rfl rfl rfl rfl (fN rfl rfl rfl rfl rfl (am (fW rfl (aj (aF _ aa rfl (by exact (rfl:_=some [_,_]))) ?_))))
 refine aj (bi _ _ aa rfl ag (by (simp <;> rfl)) ah rfl) ?_
 refine aj (de (166,0) _ _ aa rfl rfl (bF _).symm (.sl rfl) ab rfl (dZ _ { op:= .draw }) (show (cC cs a).length+1=(cC cs a++[({ op:= .draw }:dY)]).length by simp)) ?_
 exact eE rfl (ai (aE (aW (.inr rfl) rfl (.tmp (rfl:_=AV.ref _ _ _)) (Le.out [((0,8),(166,0))] [] (cY rfl rfl) rfl rfl rfl trivial ob))))
theorem BU {L:List Nd} {cs:List Cd} (hc:cs.length=L.length) (hk:kj (uu d v no on) L cs):CoS (uu d v no on) (nd 17 0 [45] L) (fun a=> cC cs a++[{ op:= .neg }]):=fun a ha=> by
 have hl2:a+(cC cs a).length≤1000000:=by simp only [List.length_append] at ha;omega
 have hq:=cZ (d:=d) (v:=v) (no:=no) (on:=on) L cs hc hk a hl2
 refine Spec.ofN Tryz.func91 rfl Tryz.ntmps91 rfl ?_
 refine am (aj (bg (3,0) _ rfl rfl) (aj (bg (4,0) _ rfl rfl) (aj (bB _ (rfl:_=AV.v (.slice _ _ _))) (ai (aq (am (bu rfl rfl rfl (cw rfl rfl rfl (ai (au ?_))))))))))
 refine aq (cm rfl rfl rfl rfl rfl (dq rfl rfl rfl rfl rfl ?_))
 iterate 3 refine cm rfl rfl rfl rfl rfl ?_
 refine aq ?_
 refine aQ (σ':=aA 211 [(2,_),(3,_),(4,_),(12,_)] [((3,0),_),((4,0),_)] [] []) kp ?_
 refine dq rfl rfl rfl rfl rfl ?_
 iterate 4 refine cm rfl rfl rfl rfl rfl ?_
 refine cf (aq (am (bu rfl rfl rfl (cw rfl rfl rfl (fJ rfl rfl rfl (cE rfl (aN rfl rfl ah ?_)))))))
 refine aN rfl rfl ah ?_
 refine aN rfl rfl ah ?_
 refine aj (az _ _ _ rfl (rfl:_=AV.v (.bool _))) (ai (aS rfl rfl (aO (aq (aq ?_)))))
 refine aQ (σ':=aA 211 [(2,_),(3,_),(4,_)] [((3,0),_),((4,0),_)] [] []) kp ?_
 refine an (bu rfl rfl rfl (cw rfl rfl rfl (fJ rfl rfl rfl (cE rfl (aN rfl rfl ah ?_)))))
 refine aN rfl rfl ah ?_
 refine aN rfl rfl ah ?_
 refine aj (az _ _ _ rfl (rfl:_=AV.v (.bool _))) (ai (aS rfl rfl (aO (am (aj (aX _ aa rfl rfl rfl rfl) (bu rfl rfl rfl (eY rfl rfl rfl (aV rfl (aj (cT aa [((0,8),(50,0))] ar (hq.toI) trivial tr ae) ?_)))))))))
 refine eE rfl (ai (aq (am (bu rfl rfl rfl (cw rfl rfl rfl (ai (au (aq ?_))))))))
 refine aQ (σ':=aA 211 [(3,_),(4,_),(10,_),(153,_)] [((3,0),_),((4,0),_),((50,0),_)] [] []) kp ?_
 refine dq rfl rfl rfl rfl rfl (cm rfl rfl rfl rfl rfl (fN rfl rfl rfl rfl rfl (aq (am (bu rfl rfl rfl (aj (aG _ aa rfl rfl (rfl:_=some (AV.v (.string _)))) (aj (aK (r:=true) _ _ Tryz.underlying9 rfl rfl rfl) (ai (bR rfl rfl (am ?_))))))))))
 refine fW rfl (aj (aF _ aa rfl (by exact (rfl:_=some [_,_]))) ?_)
 refine aj (bi _ _ aa rfl ag (by (simp <;> rfl)) ah rfl) ?_
 refine aj (de (175,0) _ _ aa rfl rfl (bF _).symm (.sl rfl) ab rfl (dZ _ { op:= .neg }) (show (cC cs a).length+1=(cC cs a++[({ op:= .neg }:dY)]).length by simp)) ?_
 exact eE rfl (ai (aE (aW (.inr rfl) rfl (.tmp (rfl:_=AV.ref _ _ _)) (Le.out [((0,8),(175,0))] [] (cY rfl rfl) rfl rfl rfl trivial ob))))
theorem AF {L:List Nd} {cs:List Cd} (hc:cs.length=L.length) (hk:kj (uu d v no on) L cs):CoS (uu d v no on) (nd 17 0 [33] L) (fun a=> cC cs a++[{ op:= .not }]):=fun a ha=> by
 have hl2:a+(cC cs a).length≤1000000:=by simp only [List.length_append] at ha;omega
 have hq:=cZ (d:=d) (v:=v) (no:=no) (on:=on) L cs hc hk a hl2
 refine Spec.ofN Tryz.func91 rfl Tryz.ntmps91 rfl ?_
 refine am (aj (bg (3,0) _ rfl rfl) (aj (bg (4,0) _ rfl rfl) (aj (bB _ (rfl:_=AV.v (.slice _ _ _))) (ai (aq (am (bu rfl rfl rfl (cw rfl rfl rfl (ai (au ?_))))))))))
 refine aq (cm rfl rfl rfl rfl rfl (dq rfl rfl rfl rfl rfl ?_))
 iterate 3 refine cm rfl rfl rfl rfl rfl ?_
 refine aq ?_
 refine aQ (σ':=aA 211 [(2,_),(3,_),(4,_),(12,_)] [((3,0),_),((4,0),_)] [] []) kp ?_
 refine dq rfl rfl rfl rfl rfl ?_
 iterate 4 refine cm rfl rfl rfl rfl rfl ?_
 refine cf (aq (am (bu rfl rfl rfl (cw rfl rfl rfl (fJ rfl rfl rfl (cE rfl (aN rfl rfl ah ?_)))))))
 refine aN rfl rfl ah ?_
 refine aN rfl rfl ah ?_
 refine aj (az _ _ _ rfl (rfl:_=AV.v (.bool _))) (ai (aS rfl rfl (aO (aq (aq ?_)))))
 refine aQ (σ':=aA 211 [(2,_),(3,_),(4,_)] [((3,0),_),((4,0),_)] [] []) kp ?_
 refine an (bu rfl rfl rfl (cw rfl rfl rfl (fJ rfl rfl rfl (cE rfl (aN rfl rfl ah ?_)))))
 refine aN rfl rfl ah ?_
 refine aN rfl rfl ah ?_
 refine aj (az _ _ _ rfl (rfl:_=AV.v (.bool _))) (ai (aS rfl rfl (aO (am (aj (aX _ aa rfl rfl rfl rfl) (bu rfl rfl rfl (eY rfl rfl rfl (aV rfl (aj (cT aa [((0,8),(50,0))] ar (hq.toI) trivial tr ae) ?_)))))))))
 refine eE rfl (ai (aq (am (bu rfl rfl rfl (cw rfl rfl rfl (ai (au (aq ?_))))))))
 refine aQ (σ':=aA 211 [(3,_),(4,_),(10,_),(153,_)] [((3,0),_),((4,0),_),((50,0),_)] [] []) kp ?_
 refine dq rfl rfl rfl rfl rfl (cm rfl rfl rfl rfl rfl (fN rfl rfl rfl rfl rfl (aq (am (bu rfl rfl rfl (aj (aG _ aa rfl rfl (rfl:_=some (AV.v (.string _)))) (aj (aK (r:=false) _ _ Tryz.underlying9 rfl rfl rfl) (ai (aS rfl rfl (aO ?_))))))))))
 refine am (fW rfl (aj (aF _ aa rfl (by exact (rfl:_=some [_,_]))) ?_))
 refine aj (bi _ _ aa rfl ag (by (simp <;> rfl)) ah rfl) ?_
 refine aj (de (179,0) _ _ aa rfl rfl (bF _).symm (.sl rfl) ab rfl (dZ _ { op:= .not }) (show (cC cs a).length+1=(cC cs a++[({ op:= .not }:dY)]).length by simp)) ?_
 exact eE rfl (ai (aE (aW (.inr rfl) rfl (.tmp (rfl:_=AV.ref _ _ _)) (Le.out [((0,8),(179,0))] [] (cY rfl rfl) rfl rfl rfl trivial ob))))
theorem sQ {L:List Nd} {cs:List Cd} (hc:cs.length=L.length) (hk:kj (uu d v no on) L cs) (hn:(d++v).Nodup) (hl:(d++v).length≤1000) (i:Nat) (hi:i < (d++v).length):CoS (uu d v no on) (nd 1 0 ((d++v).getD i []) L) (fun a=> cC cs a++[{ op:= .setVar,n:=(i:Int) }]):=fun a ha=> by
 have hl2:a+(cC cs a).length≤1000000:=by simp only [List.length_append] at ha;omega
 have hq:=cZ (d:=d) (v:=v) (no:=no) (on:=on) L cs hc hk a hl2
 refine Spec.ofN Tryz.func91 rfl Tryz.ntmps91 rfl ?_
 refine am (aj (bg (3,0) _ rfl rfl) (aj (bg (4,0) _ rfl rfl) (aj (bB _ (rfl:_=AV.v (.slice _ _ _))) (ai (aq (am (bu rfl rfl rfl (cw rfl rfl rfl (ai (au ?_))))))))))
 refine aq (cm rfl rfl rfl rfl rfl (dq rfl rfl rfl rfl rfl ?_))
 iterate 3 refine cm rfl rfl rfl rfl rfl ?_
 refine aq ?_
 refine aQ (σ':=aA 211 [(2,_),(3,_),(4,_),(12,_)] [((3,0),_),((4,0),_)] [] []) kp ?_
 refine dq rfl rfl rfl rfl rfl ?_
 iterate 4 refine cm rfl rfl rfl rfl rfl ?_
 refine cf (aq (am (bu rfl rfl rfl (cw rfl rfl rfl (fJ rfl rfl rfl (cE rfl (aN rfl rfl ah ?_)))))))
 refine aN rfl rfl ah ?_
 refine aN rfl rfl ah ?_
 refine aj (az _ _ _ rfl (rfl:_=AV.v (.bool _))) (ai (aS rfl rfl (aO (aq (aq ?_)))))
 refine aQ (σ':=aA 211 [(2,_),(3,_),(4,_)] [((3,0),_),((4,0),_)] [] []) kp ?_
 refine an (bu rfl rfl rfl (cw rfl rfl rfl (fJ rfl rfl rfl (cE rfl (aN rfl rfl ah ?_)))))
 refine aN rfl rfl ah ?_
 refine aN rfl rfl ah ?_
 refine aj (az _ _ _ rfl (rfl:_=AV.v (.bool _))) (ai (aS rfl rfl (aO (am (aj (aX _ aa rfl rfl rfl rfl) (bu rfl rfl rfl (eY rfl rfl rfl (aV rfl (aj (cT aa [((0,8),(50,0))] ar (hq.toI) trivial tr ae) ?_)))))))))
 refine eE rfl (ai (aq (am (bu rfl rfl rfl (cw rfl rfl rfl (ai (au (aq ?_))))))))
 refine aQ (σ':=aA 211 [(3,_),(4,_),(10,_),(153,_)] [((3,0),_),((4,0),_),((50,0),_)] [] []) kp ?_
 refine dq rfl rfl rfl rfl rfl ?_
 iterate 2 refine cm rfl rfl rfl rfl rfl ?_
 refine fN rfl rfl rfl rfl rfl (am (fW rfl (aj (aX _ aa rfl rfl rfl rfl) (bu rfl rfl rfl (aj (aG _ aa rfl rfl (rfl:_=some (AV.v (.string _)))) (aj (aC aa al (kk d v on no hn hl i hi) rfl rfl) ?_))))))
 refine aj (aF _ aa rfl (by exact (rfl:_=some [_,_]))) ?_
 refine aj (bi _ _ aa rfl ag (by (simp <;> rfl)) ah rfl) ?_
 refine aj (de (189,0) _ _ aa rfl rfl (bF _).symm (.sl rfl) ab rfl (dZ _ { op:= .setVar,n:=(i:Int) }) (show (cC cs a).length+1=(cC cs a++[({ op:= .setVar,n:=(i:Int) }:dY)]).length by simp)) ?_
 exact eE rfl (ai (aE (aW (.inr rfl) rfl (.tmp (rfl:_=AV.ref _ _ _)) (Le.out [((0,8),(189,0))] [] (cY rfl rfl) rfl rfl rfl trivial ob))))
theorem ye {L:List Nd} {cs:List Cd} (hc:cs.length=L.length) (hk:kj (uu d v no on) L cs) (n:Nat):CoS (uu d v no on) (nd 4 n [] L) (fun a=> cC cs a++[{ op:= .send,n:=(n:Int) }]):=fun a ha=> by
 have hl2:a+(cC cs a).length≤1000000:=by simp only [List.length_append] at ha;omega
 have hq:=cZ (d:=d) (v:=v) (no:=no) (on:=on) L cs hc hk a hl2
 refine Spec.ofN Tryz.func91 rfl Tryz.ntmps91 rfl ?_
 refine am (aj (bg (3,0) _ rfl rfl) (aj (bg (4,0) _ rfl rfl) (aj (bB _ (rfl:_=AV.v (.slice _ _ _))) (ai (aq (am (bu rfl rfl rfl (cw rfl rfl rfl (ai (au ?_))))))))))
 refine aq (cm rfl rfl rfl rfl rfl (dq rfl rfl rfl rfl rfl ?_))
 iterate 3 refine cm rfl rfl rfl rfl rfl ?_
 refine aq ?_
 refine aQ (σ':=aA 211 [(2,_),(3,_),(4,_),(12,_)] [((3,0),_),((4,0),_)] [] []) kp ?_
 refine dq rfl rfl rfl rfl rfl ?_
 iterate 4 refine cm rfl rfl rfl rfl rfl ?_
 refine cf (aq (am (bu rfl rfl rfl (cw rfl rfl rfl (fJ rfl rfl rfl (cE rfl (aN rfl rfl ah ?_)))))))
 refine aN rfl rfl ah ?_
 refine aN rfl rfl ah ?_
 refine aj (az _ _ _ rfl (rfl:_=AV.v (.bool _))) (ai (aS rfl rfl (aO (aq (aq ?_)))))
 refine aQ (σ':=aA 211 [(2,_),(3,_),(4,_)] [((3,0),_),((4,0),_)] [] []) kp ?_
 refine an (bu rfl rfl rfl (cw rfl rfl rfl (fJ rfl rfl rfl (cE rfl (aN rfl rfl ah ?_)))))
 refine aN rfl rfl ah ?_
 refine aN rfl rfl ah ?_
 refine aj (az _ _ _ rfl (rfl:_=AV.v (.bool _))) (ai (aS rfl rfl (aO (am (aj (aX _ aa rfl rfl rfl rfl) (bu rfl rfl rfl (eY rfl rfl rfl (aV rfl (aj (cT aa [((0,8),(50,0))] ar (hq.toI) trivial tr ae) ?_)))))))))
 refine eE rfl (ai (aq (am (bu rfl rfl rfl (cw rfl rfl rfl (ai (au (aq ?_))))))))
 refine aQ (σ':=aA 211 [(3,_),(4,_),(10,_),(153,_)] [((3,0),_),((4,0),_),((50,0),_)] [] []) kp ?_
 refine dq rfl rfl rfl rfl rfl ?_
 iterate 3 refine cm rfl rfl rfl rfl rfl ?_
 refine fN rfl rfl rfl rfl rfl (am (fW rfl (bu rfl rfl rfl (cw rfl rfl rfl (aj (aF _ aa rfl (by exact (rfl:_=some [_,_]))) ?_)))))
 refine aj (bi _ _ aa rfl ag (by (simp <;> rfl)) ah rfl) ?_
 refine aj (de (197,0) _ _ aa rfl rfl (bF _).symm (.sl rfl) ab rfl (dZ _ { op:= .send,n:=(n:Int) }) (show (cC cs a).length+1=(cC cs a++[({ op:= .send,n:=(n:Int) }:dY)]).length by simp)) ?_
 exact eE rfl (ai (aE (aW (.inr rfl) rfl (.tmp (rfl:_=AV.ref _ _ _)) (Le.out [((0,8),(197,0))] [] (cY rfl rfl) rfl rfl rfl trivial ob))))
theorem wL {L:List Nd} {cs:List Cd} (hc:cs.length=L.length) (hk:kj (uu d v no on) L cs):CoS (uu d v no on) (nd 8 0 [] L) (fun a=> cC cs a++[{ op:= .reply }]):=fun a ha=> by
 have hl2:a+(cC cs a).length≤1000000:=by simp only [List.length_append] at ha;omega
 have hq:=cZ (d:=d) (v:=v) (no:=no) (on:=on) L cs hc hk a hl2
 refine Spec.ofN Tryz.func91 rfl Tryz.ntmps91 rfl ?_
 refine am (aj (bg (3,0) _ rfl rfl) (aj (bg (4,0) _ rfl rfl) (aj (bB _ (rfl:_=AV.v (.slice _ _ _))) (ai (aq (am (bu rfl rfl rfl (cw rfl rfl rfl (ai (au ?_))))))))))
 refine aq (cm rfl rfl rfl rfl rfl (dq rfl rfl rfl rfl rfl ?_))
 iterate 3 refine cm rfl rfl rfl rfl rfl ?_
 refine aq ?_
 refine aQ (σ':=aA 211 [(2,_),(3,_),(4,_),(12,_)] [((3,0),_),((4,0),_)] [] []) kp ?_
 refine dq rfl rfl rfl rfl rfl ?_
 iterate 4 refine cm rfl rfl rfl rfl rfl ?_
 refine cf (aq (am (bu rfl rfl rfl (cw rfl rfl rfl (fJ rfl rfl rfl (cE rfl (aN rfl rfl ah ?_)))))))
 refine aN rfl rfl ah ?_
 refine aN rfl rfl ah ?_
 refine aj (az _ _ _ rfl (rfl:_=AV.v (.bool _))) (ai (aS rfl rfl (aO (aq (aq ?_)))))
 refine aQ (σ':=aA 211 [(2,_),(3,_),(4,_)] [((3,0),_),((4,0),_)] [] []) kp ?_
 refine an (bu rfl rfl rfl (cw rfl rfl rfl (fJ rfl rfl rfl (cE rfl (aN rfl rfl ah ?_)))))
 refine aN rfl rfl ah ?_
 refine aN rfl rfl ah ?_
 refine aj (az _ _ _ rfl (rfl:_=AV.v (.bool _))) (ai (aS rfl rfl (aO (am (aj (aX _ aa rfl rfl rfl rfl) (bu rfl rfl rfl (eY rfl rfl rfl (aV rfl (aj (cT aa [((0,8),(50,0))] ar (hq.toI) trivial tr ae) ?_)))))))))
 refine eE rfl (ai (aq (am (bu rfl rfl rfl (cw rfl rfl rfl (ai (au (aq ?_))))))))
 refine aQ (σ':=aA 211 [(3,_),(4,_),(10,_),(153,_)] [((3,0),_),((4,0),_),((50,0),_)] [] []) kp ?_
 refine dq rfl rfl rfl rfl rfl ?_
 iterate 4 refine cm rfl rfl rfl rfl rfl ?_
 refine fN rfl rfl rfl rfl rfl (am (fW rfl (aj (aF _ aa rfl (by exact (rfl:_=some [_,_]))) ?_)))
 refine aj (bi _ _ aa rfl ag (by (simp <;> rfl)) ah rfl) ?_
 refine aj (de (203,0) _ _ aa rfl rfl (bF _).symm (.sl rfl) ab rfl (dZ _ { op:= .reply }) (show (cC cs a).length+1=(cC cs a++[({ op:= .reply }:dY)]).length by simp)) ?_
 exact eE rfl (ai (aE (aW (.inr rfl) rfl (.tmp (rfl:_=AV.ref _ _ _)) (Le.out [((0,8),(203,0))] [] (cY rfl rfl) rfl rfl rfl trivial ob))))
theorem zx {L:List Nd} {cs:List Cd} (hc:cs.length=L.length) (hk:kj (uu d v no on) L cs):CoS (uu d v no on) (nd 9 0 [] L) (fun a=> cC cs a++[{ op:= .fail }]):=fun a ha=> by
 have hl2:a+(cC cs a).length≤1000000:=by simp only [List.length_append] at ha;omega
 have hq:=cZ (d:=d) (v:=v) (no:=no) (on:=on) L cs hc hk a hl2
 refine Spec.ofN Tryz.func91 rfl Tryz.ntmps91 rfl ?_
 refine am (aj (bg (3,0) _ rfl rfl) (aj (bg (4,0) _ rfl rfl) (aj (bB _ (rfl:_=AV.v (.slice _ _ _))) (ai (aq (am (bu rfl rfl rfl (cw rfl rfl rfl (ai (au ?_))))))))))
 refine aq (cm rfl rfl rfl rfl rfl (dq rfl rfl rfl rfl rfl ?_))
 iterate 3 refine cm rfl rfl rfl rfl rfl ?_
 refine aq ?_
 refine aQ (σ':=aA 211 [(2,_),(3,_),(4,_),(12,_)] [((3,0),_),((4,0),_)] [] []) kp ?_
 refine dq rfl rfl rfl rfl rfl ?_
 iterate 4 refine cm rfl rfl rfl rfl rfl ?_
 refine cf (aq (am (bu rfl rfl rfl (cw rfl rfl rfl (fJ rfl rfl rfl (cE rfl (aN rfl rfl ah ?_)))))))
 refine aN rfl rfl ah ?_
 refine aN rfl rfl ah ?_
 refine aj (az _ _ _ rfl (rfl:_=AV.v (.bool _))) (ai (aS rfl rfl (aO (aq (aq ?_)))))
 refine aQ (σ':=aA 211 [(2,_),(3,_),(4,_)] [((3,0),_),((4,0),_)] [] []) kp ?_
 refine an (bu rfl rfl rfl (cw rfl rfl rfl (fJ rfl rfl rfl (cE rfl (aN rfl rfl ah ?_)))))
 refine aN rfl rfl ah ?_
 refine aN rfl rfl ah ?_
 refine aj (az _ _ _ rfl (rfl:_=AV.v (.bool _))) (ai (aS rfl rfl (aO (am (aj (aX _ aa rfl rfl rfl rfl) (bu rfl rfl rfl (eY rfl rfl rfl (aV rfl (aj (cT aa [((0,8),(50,0))] ar (hq.toI) trivial tr ae) ?_)))))))))
 refine eE rfl (ai (aq (am (bu rfl rfl rfl (cw rfl rfl rfl (ai (au (aq ?_))))))))
 refine aQ (σ':=aA 211 [(3,_),(4,_),(10,_),(153,_)] [((3,0),_),((4,0),_),((50,0),_)] [] []) kp ?_
 refine dq rfl rfl rfl rfl rfl ?_
 iterate 5 refine cm rfl rfl rfl rfl rfl ?_
 refine fN rfl rfl rfl rfl rfl (am (fW rfl (aj (aF _ aa rfl (by exact (rfl:_=some [_,_]))) ?_)))
 refine aj (bi _ _ aa rfl ag (by (simp <;> rfl)) ah rfl) ?_
 refine aj (de (209,0) _ _ aa rfl rfl (bF _).symm (.sl rfl) ab rfl (dZ _ { op:= .fail }) (show (cC cs a).length+1=(cC cs a++[({ op:= .fail }:dY)]).length by simp)) ?_
 exact eE rfl (ai (aE (aW (.inr rfl) rfl (.tmp (rfl:_=AV.ref _ _ _)) (Le.out [((0,8),(209,0))] [] (cY rfl rfl) rfl rfl rfl trivial ob))))
theorem wc {L:List Nd} {cs:List Cd} (hc:cs.length=L.length) (hk:kj (uu d v no on) L cs):CoS (uu d v no on) (nd 11 0 [] L) (fun a=> cC cs a):=fun a ha=> by
 have hl2:a+(cC cs a).length≤1000000:=ha
 have hq:=cZ (d:=d) (v:=v) (no:=no) (on:=on) L cs hc hk a hl2
 refine Spec.ofN Tryz.func91 rfl Tryz.ntmps91 rfl ?_
 refine am (aj (bg (3,0) _ rfl rfl) (aj (bg (4,0) _ rfl rfl) (aj (bB _ (rfl:_=AV.v (.slice _ _ _))) (ai (aq (am (bu rfl rfl rfl (cw rfl rfl rfl (ai (au ?_))))))))))
 refine aq (cm rfl rfl rfl rfl rfl (dq rfl rfl rfl rfl rfl ?_))
 iterate 3 refine cm rfl rfl rfl rfl rfl ?_
 refine aq ?_
 refine aQ (σ':=aA 211 [(2,_),(3,_),(4,_),(12,_)] [((3,0),_),((4,0),_)] [] []) kp ?_
 refine dq rfl rfl rfl rfl rfl ?_
 iterate 4 refine cm rfl rfl rfl rfl rfl ?_
 refine cf (aq (am (bu rfl rfl rfl (cw rfl rfl rfl (fJ rfl rfl rfl (cE rfl (aN rfl rfl ah ?_)))))))
 refine aN rfl rfl ah ?_
 refine aN rfl rfl ah ?_
 refine aj (az _ _ _ rfl (rfl:_=AV.v (.bool _))) (ai (aS rfl rfl (aO (aq (aq ?_)))))
 refine aQ (σ':=aA 211 [(2,_),(3,_),(4,_)] [((3,0),_),((4,0),_)] [] []) kp ?_
 refine an (bu rfl rfl rfl (cw rfl rfl rfl (fJ rfl rfl rfl (cE rfl (aN rfl rfl ah ?_)))))
 refine aN rfl rfl ah ?_
 refine aN rfl rfl ah ?_
 refine aj (az _ _ _ rfl (rfl:_=AV.v (.bool _))) (ai (aS rfl rfl (aO (am (aj (aX _ aa rfl rfl rfl rfl) (bu rfl rfl rfl (eY rfl rfl rfl (aV rfl (aj (cT aa [((0,8),(50,0))] ar (hq.toI) trivial tr ae) ?_)))))))))
 refine eE rfl (ai (aq (am (bu rfl rfl rfl (cw rfl rfl rfl (ai (au (aq ?_))))))))
 refine aQ (σ':=aA 211 [(3,_),(4,_),(10,_),(153,_)] [((3,0),_),((4,0),_),((50,0),_)] [] []) kp ?_
 refine dq rfl rfl rfl rfl rfl ?_
 iterate 6 refine cm rfl rfl rfl rfl rfl ?_
 exact cf (am (fW rfl (eE rfl (ai (aE (aW (.inr rfl) rfl (.tmp (rfl:_=AV.ref _ _ _)) (Le.out [((0,8),(50,0))] [] (cY rfl rfl) rfl rfl rfl trivial ob)))))))
theorem Av {L:List Nd} {cs:List Cd} (hc:cs.length=L.length) (hk:kj (uu d v no on) L cs) (o:Bo):CoS (uu d v no on) (nd 18 0 o.txt L) (fun a=> cC cs a++o.code):=fun a ha=> by
 have hol:o.code.length≤2:=by cases o <;> decide
 have hs1:o.txt≠[38,38]:=by cases o <;> decide
 have hs2:o.txt≠[124,124]:=by cases o <;> decide
 have hl2:a+(cC cs a).length≤1000000:=by simp only [List.length_append] at ha;omega
 have hq:=cZ (d:=d) (v:=v) (no:=no) (on:=on) L cs hc hk a hl2
 refine Spec.ofN Tryz.func91 rfl Tryz.ntmps91 rfl ?_
 refine am (aj (bg (3,0) _ rfl rfl) (aj (bg (4,0) _ rfl rfl) (aj (bB _ (rfl:_=AV.v (.slice _ _ _))) (ai (aq (am (bu rfl rfl rfl (cw rfl rfl rfl (ai (au ?_))))))))))
 refine aq (cm rfl rfl rfl rfl rfl (dq rfl rfl rfl rfl rfl ?_))
 iterate 3 refine cm rfl rfl rfl rfl rfl ?_
 refine aq ?_
 refine aQ (σ':=aA 211 [(2,_),(3,_),(4,_),(12,_)] [((3,0),_),((4,0),_)] [] []) kp ?_
 refine dq rfl rfl rfl rfl rfl ?_
 iterate 4 refine cm rfl rfl rfl rfl rfl ?_
 refine cf (aq (am (bu rfl rfl rfl (cw rfl rfl rfl (jv rfl rfl rfl (cE rfl (ax rfl rfl (aD _ aa rfl rfl rfl) (ax rfl rfl (aG _ aa rfl rfl (rfl:_=some (AV.v (.string _)))) (ax rfl rfl (aK (r:=false) _ _ Tryz.underlying9 rfl rfl (beq_eq_false_iff_ne.2 hs1)) ?_)))))))))
 refine aj (az _ _ _ rfl (rfl:_=AV.v (.bool _))) (ai (aS rfl rfl (aO (aq (aq ?_)))))
 refine aQ (σ':=aA 211 [(2,_),(3,_),(4,_)] [((3,0),_),((4,0),_)] [] []) kp ?_
 refine an (bu rfl rfl rfl (cw rfl rfl rfl (jv rfl rfl rfl (cE rfl (ax rfl rfl (aD _ aa rfl rfl rfl) (ax rfl rfl (aG _ aa rfl rfl (rfl:_=some (AV.v (.string _)))) (ax rfl rfl (aK (r:=false) _ _ Tryz.underlying9 rfl rfl (beq_eq_false_iff_ne.2 hs2)) ?_)))))))
 refine aj (az _ _ _ rfl (rfl:_=AV.v (.bool _))) (ai (aS rfl rfl (aO (am (aj (aX _ aa rfl rfl rfl rfl) (bu rfl rfl rfl (eY rfl rfl rfl (aV rfl (aj (cT aa [((0,8),(50,0))] ar (hq.toI) trivial tr ae) ?_)))))))))
 refine eE rfl (ai (aq (am (bu rfl rfl rfl (cw rfl rfl rfl (ai (au (aq ?_))))))))
 refine aQ (σ':=aA 211 [(3,_),(4,_),(10,_),(153,_)] [((3,0),_),((4,0),_),((50,0),_)] [] []) kp ?_
 refine yO rfl rfl rfl rfl rfl (am (fW rfl (bu rfl rfl rfl (aj (aG _ aa rfl rfl (rfl:_=some (AV.v (.string _)))) (aj (aC aa al (tw o) rfl rfl) ?_)))))
 refine aj (de (160,0) _ _ aa rfl rfl (bF _).symm (.sl (bF _)) ab rfl (jD _ _) (show (cC cs a).length+o.code.length=(cC cs a++o.code).length by simp)) ?_
 exact eE rfl (ai (aE (aW (.inr rfl) rfl (.tmp (rfl:_=AV.ref _ _ _)) (Le.out [((0,8),(160,0))] [] (cY rfl rfl) rfl rfl rfl trivial ob))))
def HP (c y:Cd) (a:Nat):List dY:=c a++[{ op:= .unl,n:=((a+(c a).length+(y (a+(c a).length+1)).length+2:Nat):Int) }]++y (a+(c a).length+1)++[{ op:= .jump,n:=(a:Int) }]
theorem vh {c y:Nd} {cc cy:Cd} (hc:CoS (uu d v no on) c cc) (hy:CoS (uu d v no on) y cy):CoS (uu d v no on) (nd 3 0 [] [c,y]) (HP cc cy):=fun a ha=> by
 obtain ⟨b,hb⟩: ∃ b,b=HP cc cy a:=⟨_,rfl⟩
 rw [← hb] at ha ⊢
 unfold HP at hb
 have hbl:=congrArg List.length hb
 simp only [List.length_append,List.length_cons,List.length_nil] at hbl
 have h1:=hc a ab
 generalize cc a=C at h1 hb hbl
 have h2:=hy (a+C.length+1) ab
 generalize cy (a+C.length+1)=Y at h2 hb hbl
 refine Spec.ofN Tryz.func91 rfl Tryz.ntmps91 rfl ?_
 refine am (aj (bg (3,0) _ rfl rfl) (aj (bg (4,0) _ rfl rfl) (aj (bB _ (rfl:_=AV.v (.slice _ _ _))) (ai (aq (am (bu rfl rfl rfl (cw rfl rfl rfl (ai (au ?_))))))))))
 refine aq (cm rfl rfl rfl rfl rfl (dq rfl rfl rfl rfl rfl ?_))
 iterate 3 refine cm rfl rfl rfl rfl rfl ?_
 refine aq ?_
 refine aQ (σ':=aA 211 [(2,_),(3,_),(4,_),(12,_)] [((3,0),_),((4,0),_)] [] []) kp ?_
 refine dq rfl rfl rfl rfl rfl ?_
 iterate 3 refine cm rfl rfl rfl rfl rfl ?_
 refine fN rfl rfl rfl rfl rfl (aq ?_)
 refine aQ (σ':=aA 211 [(2,_),(3,_),(4,_)] [((3,0),_),((4,0),_)] [] []) kp ?_
 refine bT 6 [73,74,75,76,77,78] [] ae ae rfl (aM rfl) (rfl:_=[_,_,_,_,_,_]) (rfl:_=[_,_]) ?_
 refine ap (_,[]) (fun τ=> aX _ aa rfl rfl rfl rfl) ?_
 refine fO rfl ?_
 refine ap (_,[]) (fun τ=> aD _ aa rfl rfl rfl) ?_
 refine fR rfl ?_
 refine ap (_,[]) (fun τ=> aG _ aa rfl rfl (rfl:_=some (AV.sl _ _))) ?_
 refine fT rfl ?_
 refine ap (_,[]) (fun τ=> bl _ _ aa rfl rfl 0 rfl (show 0 < 2 by omega) (Nat.le_of_ble_eq_true rfl) rfl) ?_
 refine fP rfl ?_
 refine ap (_,[]) (fun τ=> bZ _ aa rfl (by exact cp [c,y] 0 (by simp)) rfl) ?_
 refine gb rfl ?_
 refine ap (_,[]) (fun τ=> aH _ (rfl:_=AV.v (.int _ _))) ?_
 refine gC rfl (bw ⟨rfl,?_⟩)
 refine aj (cT aa [((0,8),(50,0))] ar (h1.toI) trivial tr ae) ?_
 refine eE rfl (ai (aT fun K15 hK15=> ?_))
 refine aQ (σ':=aA 211 [(2,_),(3,_),(4,_),(7,_)] [((3,0),_),((4,0),_),((50,0),_)] [] []) kp ?_
 refine bT 10 [80,81,82,83,84,85,86,87,88,89] [] ae ae rfl (aM rfl) (rfl:_=[_,_,_,_,_,_,_,_,_,_]) (rfl:_=[_,_]) ?_
 refine ap (_,[]) (fun τ=> aX _ aa rfl rfl rfl rfl) ?_
 refine fO rfl ?_
 refine ap (_,[]) (fun τ=> aD _ aa rfl rfl rfl) ?_
 refine fR rfl ?_
 refine ap (_,[]) (fun τ=> aG _ aa rfl rfl (rfl:_=some (AV.sl _ _))) ?_
 refine fT rfl ?_
 refine ap (_,[]) (fun τ=> bl _ _ aa rfl rfl 1 rfl (show 1 < 2 by omega) (Nat.le_of_ble_eq_true rfl) rfl) ?_
 refine fP rfl ?_
 refine ap (_,[]) (fun τ=> bZ _ aa rfl (by exact cp [c,y] 1 (by simp)) rfl) ?_
 refine gb rfl ?_
 refine ap (_,[]) (fun τ=> aH _ (rfl:_=AV.v (.int _ _))) ?_
 refine gC rfl ?_
 refine ap (_,[]) (fun τ=> aH _ (rfl:_=AV.ref _ _ _)) ?_
 refine iy rfl ?_
 refine ap (_,[]) (fun τ=> dh _ aa rfl rfl) ?_
 refine jy rfl ?_
 refine ap (_,[]) (fun τ=> aZ _ _ rfl rfl (bJ ab)) ?_
 refine jr rfl ?_
 refine ap (_,[]) (fun τ=> aZ _ _ rfl rfl (bJ ab)) ?_
 refine fq rfl (bw ⟨rfl,?_⟩)
 refine aj (cT aa [((0,8),(51,0))] ar (h2.toI) trivial tr ae) ?_
 refine eE rfl (aI (hK15 _ ?_))
 clear hK15;try clear K15
 refine am (fW rfl (aV rfl (fW rfl (aj (dh _ aa rfl rfl) (aj (aZ _ _ rfl rfl (bJ ab)) ?_)))))
 refine fW rfl (aj (dh _ aa rfl rfl) (aj (aZ _ _ rfl rfl (bJ ab)) ?_))
 refine aj (aZ (r:=((a+C.length+Y.length+2:Nat):Int)) _ _ rfl rfl ((bJ ab).trans ab)) ?_
 refine aj (aF _ aa rfl (by exact (rfl:_=some [_,_]))) ?_
 refine aj (bi _ _ aa rfl ag (by (simp <;> rfl)) ah rfl) ?_
 refine aj (de (102,0) _ _ aa rfl rfl (bF _).symm (.sl rfl) ab rfl (dZ _ { op:= .unl,n:=((a+C.length+Y.length+2:Nat):Int) }) (show C.length+1=(C++[({ op:= .unl,n:=((a+C.length+Y.length+2:Nat):Int) }:dY)]).length by simp)) ?_
 refine eE rfl (ai (aq ?_))
 refine aQ (σ':=aA 211 [(2,_),(8,_),(9,_)] [((51,0),_),((102,0),_)] [] []) kp ?_
 refine an (fW rfl (fW rfl (aj (de (105,0) _ _ aa rfl rfl (bF _).symm (.ref rfl (kK _) (jb _)) (by simp;omega) rfl (jD _ _) (show (C++[({ op:= .unl,n:=((a+C.length+Y.length+2:Nat):Int) }:dY)]).length+Y.length=(C++[({ op:= .unl,n:=((a+C.length+Y.length+2:Nat):Int) }:dY)]++Y).length by simp;omega)) ?_)))
 refine eE rfl (ai (am (fW rfl (aV rfl (aj (aF _ aa rfl (by exact (rfl:_=some [_,_]))) ?_)))))
 refine aj (bi _ _ aa rfl ag (by (simp <;> rfl)) ah rfl) ?_
 refine aj (de (110,0) _ _ aa rfl rfl (bF _).symm (.sl rfl) (by simp;omega) rfl ((dZ _ { op:= .jump,n:=(a:Int) }).trans (congrArg inl hb.symm)) (show _+1=b.length by simp;omega)) ?_
 exact eE rfl (ai (aE (aW (.inr rfl) rfl (.tmp (rfl:_=AV.ref _ _ _)) (Le.out [((0,8),(110,0))] [] (cY rfl rfl) rfl rfl rfl trivial ob))))
end

def gA:Ex→Bool
 | .int n=> decide (0≤n) | .bool _=> true | .var _=> true | .name _=> true
 | .draw e=> gA e | .neg e=> gA e | .not e=> gA e
 | .bin _ a b=> gA a && gA b
 | .and a b=> gA a && gA b
 | .or a b=> gA a && gA b
mutual
def ub:Sm→Bool
 | .assign _ e=> gA e
 | .send t _ a b=> gA t && gA a && gA b
 | .timer _=> true | .cancel _=> true | .sync=> true | .stop=> true
 | .reply a b=> gA a && gA b
 | .fail e=> gA e
 | .loop c b=> gA c && oI b
 | .ite c a b=> gA c && oI a && oI b
def oI:Bk→Bool
 | .nil=> true
 | .cons s b=> ub s && oI b
end
section
variable {d v:List Tx} {no:Nat} {on:List PV}
abbrev Ek (d v:List Tx) (no:Nat) (on:List PV) (N:Nd) (c:Cd):Prop:=CoS (uu d v no on) N c
theorem CoS.cong {u:AV} {N:Nd} {c c':Cd} (h:CoS u N c) (e: ∀ a,c a=c' a):CoS u N c':=by
 rw [show c'=c from funext fun a=> (e a).symm];exact h
theorem dA (hn:(d++v).Nodup) (hl:(d++v).length≤1000): ∀ e:Ex,fy (d++v).length e→gA e=true→Ek d v no on (dK (d++v) e) (bz e)
 | .int n,_,hp=> by
  have hp:=of_decide_eq_true hp
  have:=Bn (d:=d) (v:=v) (no:=no) (on:=on) n.toNat
  exact this.cong fun a=> by rw [Int.toNat_of_nonneg hp];rfl
 | .bool b,_,_=> by
  cases b
  ·exact sj 0
  ·exact sj 1
 | .var i,h,_=> BJ hn hl i h
 | .name k,h,_=> yc k h
 | .draw e,h,hp=> (yD rfl (ur (dA hn hl e h hp) zc)).cong fun a=> by simp [bz,cC]
 | .neg e,h,hp=> (BU rfl (ur (dA hn hl e h hp) zc)).cong fun a=> by simp [bz,cC]
 | .not e,h,hp=> (AF rfl (ur (dA hn hl e h hp) zc)).cong fun a=> by simp [bz,cC]
 | .bin o x y,h,hp=> by
  simp only [gA,Bool.and_eq_true] at hp
  exact (Av rfl (ur (dA hn hl x h.1 hp.1) (ur (dA hn hl y h.2 hp.2) zc)) o).cong fun a=> by simp [bz,cC]
 | .and x y,h,hp=> by
  simp only [gA,Bool.and_eq_true] at hp
  exact (AT (dA hn hl x h.1 hp.1) (dA hn hl y h.2 hp.2)).cong fun a=> rfl
 | .or x y,h,hp=> by
  simp only [gA,Bool.and_eq_true] at hp
  exact (CB (dA hn hl x h.1 hp.1) (dA hn hl y h.2 hp.2)).cong fun a=> rfl
def xv:Bk→List Cd
 | .nil=> []
 | .cons s b=> cN s::xv b
theorem sm (nm:List Tx): ∀ b:Bk,(xv b).length=(ga nm b).length
 | .nil=> by simp [xv,ga]
 | .cons s b=> by simp [xv,ga,sm nm b]
theorem sN: ∀ (b:Bk) (a:Nat),cC (xv b) a=di b a
 | .nil,a=> by simp [xv,cC,di]
 | .cons s b,a=> by simp only [xv,cC,di,sN b]
theorem lh {b:Bk} (h:kj (uu d v no on) (ga (d++v) b) (xv b)):Ek d v no on (lp (d++v) b) (di b):=(wc (sm _ b) h).cong (sN b)
mutual
theorem zN (hn:(d++v).Nodup) (hl:(d++v).length≤1000): ∀ s:Sm,fa (d++v).length s→ub s=true→Ek d v no on (zl (d++v) s) (cN s)
 | .assign i e,h,hp=> by rw [fa] at h;exact (sQ rfl (ur (dA hn hl e h.2 hp) zc) hn hl i h.1).cong fun a=> by simp [cN,cC]
 | .send t k x y,h,hp=> by
  rw [fa] at h
  simp only [ub,Bool.and_eq_true] at hp
  exact (ye rfl (ur (dA hn hl t h.2.1 hp.1.1) (ur (dA hn hl x h.2.2.1 hp.1.2) (ur (dA hn hl y h.2.2.2 hp.2) zc))) k).cong fun a=> by simp [cN,cC,Nat.add_assoc]
 | .timer k,_,_=> (vQ k).cong fun a=> by rw [cN]
 | .cancel k,_,_=> (sP k).cong fun a=> by rw [cN]
 | .sync,_,_=> co_sync.cong fun a=> by rw [cN]
 | .stop,_,_=> co_stop.cong fun a=> by rw [cN]
 | .reply x y,h,hp=> by
  rw [fa] at h
  simp only [ub,Bool.and_eq_true] at hp
  exact (wL rfl (ur (dA hn hl x h.1 hp.1) (ur (dA hn hl y h.2 hp.2) zc))).cong fun a=> by simp [cN,cC]
 | .fail e,h,hp=> by rw [fa] at h;exact (zx rfl (ur (dA hn hl e h hp) zc)).cong fun a=> by simp [cN,cC]
 | .loop c b,h,hp=> by
  rw [fa] at h
  simp only [ub,Bool.and_eq_true] at hp
  exact (vh (dA hn hl c h.1 hp.1) (lh (kX hn hl b h.2 hp.2))).cong fun a=> by rw [cN];rfl
 | .ite c x y,h,hp=> by
  rw [fa] at h
  simp only [ub,Bool.and_eq_true] at hp
  exact (Bw (dA hn hl c h.1 hp.1.1) (lh (kX hn hl x h.2.1 hp.1.2)) (lh (kX hn hl y h.2.2 hp.2))).cong fun a=> by rw [cN];rfl
theorem kX (hn:(d++v).Nodup) (hl:(d++v).length≤1000): ∀ b:Bk,iu (d++v).length b→oI b=true→kj (uu d v no on) (ga (d++v) b) (xv b)
 | .nil,_,_=> zc
 | .cons s b,h,hp=> by
  rw [iu] at h
  simp only [oI,Bool.and_eq_true] at hp
  exact ur (zN hn hl s h.1 hp.1) (kX hn hl b h.2 hp.2)
end
theorem zP (hn:(d++v).Nodup) (hl:(d++v).length≤1000) (b:Bk) (h:iu (d++v).length b) (hp:oI b=true):Ek d v no on (lp (d++v) b) (di b):=lh (kX hn hl b h hp)
end

abbrev AN (c:AV) (e:Nat→Int) (d v:Int):List AV:=[c, .v (.int .i64 (e 0)), .v (.int .i64 (e 1)), .v (.int .i64 (e 2)), .v (.int .i64 (e 3)), .v (.int .i64 (e 4)), .v (.int .i64 (e 5)), .v (.int .i64 (e 6)), .v (.int .i64 (e 7)), .v (.int .i64 (e 8)), .v (.int .i64 (e 9)), .v (.int .i64 (e 10)), .v (.int .i64 (e 11)), .v (.int .i64 (e 12)), .v (.int .i64 (e 13)), .v (.int .i64 (e 14)), .v (.int .i64 (e 15)), .v (.int .i64 (e 16)), .v (.int .i64 (e 17)), .v (.int .i64 (e 18)), .v (.int .i64 (e 19)), .v (.int .i64 (e 20)), .v (.int .i64 (e 21)), .v (.int .i64 (e 22)), .v (.int .i64 (e 23)), .v (.int .i64 (e 24)), .v (.int .i64 (e 25)), .v (.int .i64 (e 26)), .v (.int .i64 (e 27)), .v (.int .i64 (e 28)), .v (.int .i64 (e 29)), .v (.int .i64 (e 30)), .v (.int .i64 (e 31)), .v (.int .i64 (e 32)), .v (.int .i64 (e 33)), .v (.int .i64 (e 34)), .v (.int .i64 (e 35)), .v (.int .i64 (e 36)), .v (.int .i64 (e 37)), .v (.int .i64 (e 38)), .v (.int .i64 (e 39)), .v (.int .i64 d), .v (.int .i64 v)]
abbrev yG (n:Nat) (xs:List PV) (e:Nat→Int) (d v:Int):List AV:=AN (.sl n xs) e d v
def nQ (e:Nat→Int) (h:Nat) (x:Int):Nat→Int:=fun k=> if k=h then x else e k
theorem oT (c:AV) (e:Nat→Int) (d v:Int) (h:Nat) (hh:h < 40) (x:Int):eH (AN c e d v) (1+h) [.v (.int .i64 x)]=AN c (nQ e h x) d v:=by
 rcases h with _ | _ | _ | _ | _ | _ | _ | _ | _ | _ | _ | _ | _ | _ | _ | _ | _ | _ | _ | _ | _ | _ | _ | _ | _ | _ | _ | _ | _ | _ | _ | _ | _ | _ | _ | _ | _ | _ | _ | _ | h
 all_goals first | rfl | omega
theorem pD (n:Nat) (xs:List PV) (e:Nat→Int) (d v:Int) (h:Nat) (hh:h < 40):(yG n xs e d v)[1+h]? =some (.v (.int .i64 (e h))):=by
 rcases h with _ | _ | _ | _ | _ | _ | _ | _ | _ | _ | _ | _ | _ | _ | _ | _ | _ | _ | _ | _ | _ | _ | _ | _ | _ | _ | _ | _ | _ | _ | _ | _ | _ | _ | _ | _ | _ | _ | _ | _ | h
 all_goals first | rfl | omega
def Ai (l:List Nat):List PV:=l.map fun (x:Nat)=> .v (.int .i64 (x:Int))
@[simp] theorem dM (l:List Nat):(Ai l).length=l.length:=by simp [Ai]
theorem xE (l:List Nat) (k:Nat) (h:k < l.length):(Ai l)[k]? =some (.v (.int .i64 (l.getD k 0:Int))):=by simp [Ai,h]
theorem te:Spec Tryz.prog 106 (bf [.v (.int .i64 1)] []) (aL (.v (.int .i64 0)) []):=by
 refine Spec.ofN Tryz.func106 rfl Tryz.ntmps106 rfl ?_
 refine am (bc rfl (ai (aq (am (aV rfl (ai (au (aq (fN rfl rfl rfl rfl rfl (aO ?_))))))))))
 exact bR rfl rfl (am (bc rfl (ai (aE (aW (.inr rfl) rfl (.tmp (rfl:_=AV.v _)) (Le.out [] [] .v rfl rfl rfl trivial trivial))))))
theorem wZ:Spec Tryz.prog 106 (bf [.v (.int .i64 2)] []) (aL (.v (.int .i64 0)) []):=by
 refine Spec.ofN Tryz.func106 rfl Tryz.ntmps106 rfl ?_
 refine am (bc rfl (ai (aq (am (aV rfl (ai (au (aq (cm rfl rfl rfl rfl rfl (fN rfl rfl rfl rfl rfl ?_))))))))))
 exact aO (bR rfl rfl (am (bc rfl (ai (aE (aW (.inr rfl) rfl (.tmp (rfl:_=AV.v _)) (Le.out [] [] .v rfl rfl rfl trivial trivial)))))))
theorem qI:Spec Tryz.prog 106 (bf [.v (.int .i64 3)] []) (aL (.v (.int .i64 1)) []):=by
 refine Spec.ofN Tryz.func106 rfl Tryz.ntmps106 rfl ?_
 refine am (bc rfl (ai (aq (am (aV rfl (ai (au (aq ?_))))))))
 iterate 7 refine cm rfl rfl rfl rfl rfl ?_
 refine aQ (σ':=aA 31 [(3,_)] [] [] []) kp ?_
 refine dq rfl rfl rfl rfl rfl (aq ?_)
 iterate 3 refine cm rfl rfl rfl rfl rfl ?_
 exact fN rfl rfl rfl rfl rfl (aO (bR rfl rfl (am (bc rfl (ai (aE (aW (.inr rfl) rfl (.tmp (rfl:_=AV.v _)) (Le.out [] [] .v rfl rfl rfl trivial trivial))))))))
theorem ul:Spec Tryz.prog 106 (bf [.v (.int .i64 4)] []) (aL (.v (.int .i64 0)) []):=by
 refine Spec.ofN Tryz.func106 rfl Tryz.ntmps106 rfl ?_
 refine am (bc rfl (ai (aq (am (aV rfl (ai (au (aq ?_))))))))
 iterate 2 refine cm rfl rfl rfl rfl rfl ?_
 exact fN rfl rfl rfl rfl rfl (aO (bR rfl rfl (am (bc rfl (ai (aE (aW (.inr rfl) rfl (.tmp (rfl:_=AV.v _)) (Le.out [] [] .v rfl rfl rfl trivial trivial))))))))
theorem uv:Spec Tryz.prog 106 (bf [.v (.int .i64 5)] []) (aL (.v (.int .i64 1)) []):=by
 refine Spec.ofN Tryz.func106 rfl Tryz.ntmps106 rfl ?_
 refine am (bc rfl (ai (aq (am (aV rfl (ai (au (aq ?_))))))))
 iterate 7 refine cm rfl rfl rfl rfl rfl ?_
 refine aQ (σ':=aA 31 [(3,_)] [] [] []) kp ?_
 exact dq rfl rfl rfl rfl rfl (aq (fN rfl rfl rfl rfl rfl (aO (bR rfl rfl (am (bc rfl (ai (aE (aW (.inr rfl) rfl (.tmp (rfl:_=AV.v _)) (Le.out [] [] .v rfl rfl rfl trivial trivial))))))))))
theorem uS:Spec Tryz.prog 106 (bf [.v (.int .i64 6)] []) (aL (.v (.int .i64 2)) []):=by
 refine Spec.ofN Tryz.func106 rfl Tryz.ntmps106 rfl ?_
 refine am (bc rfl (ai (aq (am (aV rfl (ai (au (aq ?_))))))))
 iterate 7 refine cm rfl rfl rfl rfl rfl ?_
 refine aQ (σ':=aA 31 [(3,_)] [] [] []) kp ?_
 refine dq rfl rfl rfl rfl rfl (aq ?_)
 iterate 5 refine cm rfl rfl rfl rfl rfl ?_
 refine dq rfl rfl rfl rfl rfl (aq (fN rfl rfl rfl rfl rfl (aO (bR rfl rfl (aq ?_)))))
 refine aQ (σ':=aA 31 [] [] [] []) kp ?_
 exact an (bc rfl (ai (aE (aW (.inr rfl) rfl (.tmp (rfl:_=AV.v _)) (Le.out [] [] .v rfl rfl rfl trivial trivial)))))
theorem vA:Spec Tryz.prog 106 (bf [.v (.int .i64 7)] []) (aL (.v (.int .i64 2)) []):=by
 refine Spec.ofN Tryz.func106 rfl Tryz.ntmps106 rfl ?_
 refine am (bc rfl (ai (aq (am (aV rfl (ai (au (aq ?_))))))))
 iterate 7 refine cm rfl rfl rfl rfl rfl ?_
 refine aQ (σ':=aA 31 [(3,_)] [] [] []) kp ?_
 refine dq rfl rfl rfl rfl rfl (aq ?_)
 iterate 5 refine cm rfl rfl rfl rfl rfl ?_
 refine dq rfl rfl rfl rfl rfl (aq (cm rfl rfl rfl rfl rfl (aq ?_)))
 refine aQ (σ':=aA 31 [(3,_)] [] [] []) kp ?_
 exact yO rfl rfl rfl rfl rfl (aO (bR rfl rfl (am (bc rfl (ai (aE (aW (.inr rfl) rfl (.tmp (rfl:_=AV.v _)) (Le.out [] [] .v rfl rfl rfl trivial trivial))))))))
theorem wu:Spec Tryz.prog 106 (bf [.v (.int .i64 8)] []) (aL (.v (.int .i64 2)) []):=by
 refine Spec.ofN Tryz.func106 rfl Tryz.ntmps106 rfl ?_
 refine am (bc rfl (ai (aq (am (aV rfl (ai (au (aq ?_))))))))
 iterate 7 refine cm rfl rfl rfl rfl rfl ?_
 refine aQ (σ':=aA 31 [(3,_)] [] [] []) kp ?_
 refine dq rfl rfl rfl rfl rfl (aq ?_)
 iterate 5 refine cm rfl rfl rfl rfl rfl ?_
 refine dq rfl rfl rfl rfl rfl (aq (cm rfl rfl rfl rfl rfl (aq ?_)))
 refine aQ (σ':=aA 31 [(3,_)] [] [] []) kp ?_
 exact dq rfl rfl rfl rfl rfl (fN rfl rfl rfl rfl rfl (aO (bR rfl rfl (am (bc rfl (ai (aE (aW (.inr rfl) rfl (.tmp (rfl:_=AV.v _)) (Le.out [] [] .v rfl rfl rfl trivial trivial)))))))))
theorem xn:Spec Tryz.prog 106 (bf [.v (.int .i64 9)] []) (aL (.v (.int .i64 2)) []):=by
 refine Spec.ofN Tryz.func106 rfl Tryz.ntmps106 rfl ?_
 refine am (bc rfl (ai (aq (am (aV rfl (ai (au (aq ?_))))))))
 iterate 7 refine cm rfl rfl rfl rfl rfl ?_
 refine aQ (σ':=aA 31 [(3,_)] [] [] []) kp ?_
 refine dq rfl rfl rfl rfl rfl (aq ?_)
 iterate 5 refine cm rfl rfl rfl rfl rfl ?_
 refine dq rfl rfl rfl rfl rfl (aq (cm rfl rfl rfl rfl rfl (aq ?_)))
 refine aQ (σ':=aA 31 [(3,_)] [] [] []) kp ?_
 exact dq rfl rfl rfl rfl rfl (cm rfl rfl rfl rfl rfl (fN rfl rfl rfl rfl rfl (aO (bR rfl rfl (am (bc rfl (ai (aE (aW (.inr rfl) rfl (.tmp (rfl:_=AV.v _)) (Le.out [] [] .v rfl rfl rfl trivial trivial))))))))))
theorem vC:Spec Tryz.prog 106 (bf [.v (.int .i64 10)] []) (aL (.v (.int .i64 1)) []):=by
 refine Spec.ofN Tryz.func106 rfl Tryz.ntmps106 rfl ?_
 refine am (bc rfl (ai (aq (am (aV rfl (ai (au (aq ?_))))))))
 iterate 7 refine cm rfl rfl rfl rfl rfl ?_
 refine aQ (σ':=aA 31 [(3,_)] [] [] []) kp ?_
 exact dq rfl rfl rfl rfl rfl (aq (cm rfl rfl rfl rfl rfl (fN rfl rfl rfl rfl rfl (aO (bR rfl rfl (am (bc rfl (ai (aE (aW (.inr rfl) rfl (.tmp (rfl:_=AV.v _)) (Le.out [] [] .v rfl rfl rfl trivial trivial)))))))))))
theorem yR:Spec Tryz.prog 106 (bf [.v (.int .i64 11)] []) (aL (.v (.int .i64 2)) []):=by
 refine Spec.ofN Tryz.func106 rfl Tryz.ntmps106 rfl ?_
 refine am (bc rfl (ai (aq (am (aV rfl (ai (au (aq ?_))))))))
 iterate 7 refine cm rfl rfl rfl rfl rfl ?_
 refine aQ (σ':=aA 31 [(3,_)] [] [] []) kp ?_
 refine dq rfl rfl rfl rfl rfl (aq ?_)
 iterate 5 refine cm rfl rfl rfl rfl rfl ?_
 refine dq rfl rfl rfl rfl rfl (aq (cm rfl rfl rfl rfl rfl (aq ?_)))
 refine aQ (σ':=aA 31 [(3,_)] [] [] []) kp ?_
 refine dq rfl rfl rfl rfl rfl ?_
 iterate 2 refine cm rfl rfl rfl rfl rfl ?_
 exact fN rfl rfl rfl rfl rfl (aO (bR rfl rfl (am (bc rfl (ai (aE (aW (.inr rfl) rfl (.tmp (rfl:_=AV.v _)) (Le.out [] [] .v rfl rfl rfl trivial trivial))))))))
theorem zi:Spec Tryz.prog 106 (bf [.v (.int .i64 12)] []) (aL (.v (.int .i64 2)) []):=by
 refine Spec.ofN Tryz.func106 rfl Tryz.ntmps106 rfl ?_
 refine am (bc rfl (ai (aq (am (aV rfl (ai (au (aq ?_))))))))
 iterate 7 refine cm rfl rfl rfl rfl rfl ?_
 refine aQ (σ':=aA 31 [(3,_)] [] [] []) kp ?_
 refine dq rfl rfl rfl rfl rfl (aq ?_)
 iterate 5 refine cm rfl rfl rfl rfl rfl ?_
 refine dq rfl rfl rfl rfl rfl (aq (cm rfl rfl rfl rfl rfl (aq ?_)))
 refine aQ (σ':=aA 31 [(3,_)] [] [] []) kp ?_
 refine dq rfl rfl rfl rfl rfl ?_
 iterate 3 refine cm rfl rfl rfl rfl rfl ?_
 exact fN rfl rfl rfl rfl rfl (aO (bR rfl rfl (am (bc rfl (ai (aE (aW (.inr rfl) rfl (.tmp (rfl:_=AV.v _)) (Le.out [] [] .v rfl rfl rfl trivial trivial))))))))
theorem xC:Spec Tryz.prog 106 (bf [.v (.int .i64 13)] []) (aL (.v (.int .i64 2)) []):=by
 refine Spec.ofN Tryz.func106 rfl Tryz.ntmps106 rfl ?_
 refine am (bc rfl (ai (aq (am (aV rfl (ai (au (aq ?_))))))))
 iterate 7 refine cm rfl rfl rfl rfl rfl ?_
 refine aQ (σ':=aA 31 [(3,_)] [] [] []) kp ?_
 refine dq rfl rfl rfl rfl rfl (aq ?_)
 iterate 5 refine cm rfl rfl rfl rfl rfl ?_
 refine dq rfl rfl rfl rfl rfl (aq (cm rfl rfl rfl rfl rfl (aq ?_)))
 refine aQ (σ':=aA 31 [(3,_)] [] [] []) kp ?_
 refine dq rfl rfl rfl rfl rfl ?_
 iterate 4 refine cm rfl rfl rfl rfl rfl ?_
 exact fN rfl rfl rfl rfl rfl (aO (bR rfl rfl (am (bc rfl (ai (aE (aW (.inr rfl) rfl (.tmp (rfl:_=AV.v _)) (Le.out [] [] .v rfl rfl rfl trivial trivial))))))))
theorem wI:Spec Tryz.prog 106 (bf [.v (.int .i64 14)] []) (aL (.v (.int .i64 1)) []):=by
 refine Spec.ofN Tryz.func106 rfl Tryz.ntmps106 rfl ?_
 refine am (bc rfl (ai (aq (am (aV rfl (ai (au (aq ?_))))))))
 iterate 7 refine cm rfl rfl rfl rfl rfl ?_
 refine aQ (σ':=aA 31 [(3,_)] [] [] []) kp ?_
 refine dq rfl rfl rfl rfl rfl (aq ?_)
 iterate 2 refine cm rfl rfl rfl rfl rfl ?_
 exact fN rfl rfl rfl rfl rfl (aO (bR rfl rfl (am (bc rfl (ai (aE (aW (.inr rfl) rfl (.tmp (rfl:_=AV.v _)) (Le.out [] [] .v rfl rfl rfl trivial trivial))))))))
theorem sY:Spec Tryz.prog 106 (bf [.v (.int .i64 15)] []) (aL (.v (.int .i64 0)) []):=by
 refine Spec.ofN Tryz.func106 rfl Tryz.ntmps106 rfl ?_
 refine am (bc rfl (ai (aq (am (aV rfl (ai (au (aq ?_))))))))
 iterate 3 refine cm rfl rfl rfl rfl rfl ?_
 exact fN rfl rfl rfl rfl rfl (aO (bR rfl rfl (am (bc rfl (ai (aE (aW (.inr rfl) rfl (.tmp (rfl:_=AV.v _)) (Le.out [] [] .v rfl rfl rfl trivial trivial))))))))
theorem vK:Spec Tryz.prog 106 (bf [.v (.int .i64 16)] []) (aL (.v (.int .i64 1)) []):=by
 refine Spec.ofN Tryz.func106 rfl Tryz.ntmps106 rfl ?_
 refine am (bc rfl (ai (aq (am (aV rfl (ai (au (aq ?_))))))))
 iterate 7 refine cm rfl rfl rfl rfl rfl ?_
 refine aQ (σ':=aA 31 [(3,_)] [] [] []) kp ?_
 refine dq rfl rfl rfl rfl rfl (aq ?_)
 iterate 4 refine cm rfl rfl rfl rfl rfl ?_
 exact fN rfl rfl rfl rfl rfl (aO (bR rfl rfl (am (bc rfl (ai (aE (aW (.inr rfl) rfl (.tmp (rfl:_=AV.v _)) (Le.out [] [] .v rfl rfl rfl trivial trivial))))))))
theorem tF:Spec Tryz.prog 106 (bf [.v (.int .i64 17)] []) (aL (.v (.int .i64 3)) []):=by
 refine Spec.ofN Tryz.func106 rfl Tryz.ntmps106 rfl ?_
 refine am (bc rfl (ai (aq (am (aV rfl (ai (au (aq ?_))))))))
 iterate 7 refine cm rfl rfl rfl rfl rfl ?_
 refine aQ (σ':=aA 31 [(3,_)] [] [] []) kp ?_
 refine dq rfl rfl rfl rfl rfl (aq ?_)
 iterate 5 refine cm rfl rfl rfl rfl rfl ?_
 refine dq rfl rfl rfl rfl rfl (aq (cm rfl rfl rfl rfl rfl (aq ?_)))
 refine aQ (σ':=aA 31 [(3,_)] [] [] []) kp ?_
 refine dq rfl rfl rfl rfl rfl ?_
 iterate 5 refine cm rfl rfl rfl rfl rfl ?_
 refine dq rfl rfl rfl rfl rfl (fN rfl rfl rfl rfl rfl (aq ?_))
 refine aQ (σ':=aA 31 [] [] [] []) kp ?_
 exact an (bc rfl (ai (aE (aW (.inr rfl) rfl (.tmp (rfl:_=AV.v _)) (Le.out [] [] .v rfl rfl rfl trivial trivial)))))
theorem rt:Spec Tryz.prog 106 (bf [.v (.int .i64 18)] []) (aL (.v (.int .i64 0)) []):=by
 refine Spec.ofN Tryz.func106 rfl Tryz.ntmps106 rfl ?_
 refine am (bc rfl (ai (aq (am (aV rfl (ai (au (aq ?_))))))))
 iterate 4 refine cm rfl rfl rfl rfl rfl ?_
 exact fN rfl rfl rfl rfl rfl (aO (bR rfl rfl (am (bc rfl (ai (aE (aW (.inr rfl) rfl (.tmp (rfl:_=AV.v _)) (Le.out [] [] .v rfl rfl rfl trivial trivial))))))))
theorem qG:Spec Tryz.prog 106 (bf [.v (.int .i64 19)] []) (aL (.v (.int .i64 0)) []):=by
 refine Spec.ofN Tryz.func106 rfl Tryz.ntmps106 rfl ?_
 refine am (bc rfl (ai (aq (am (aV rfl (ai (au (aq ?_))))))))
 iterate 5 refine cm rfl rfl rfl rfl rfl ?_
 exact fN rfl rfl rfl rfl rfl (aO (bR rfl rfl (am (bc rfl (ai (aE (aW (.inr rfl) rfl (.tmp (rfl:_=AV.v _)) (Le.out [] [] .v rfl rfl rfl trivial trivial))))))))
theorem tP:Spec Tryz.prog 106 (bf [.v (.int .i64 20)] []) (aL (.v (.int .i64 0)) []):=by
 refine Spec.ofN Tryz.func106 rfl Tryz.ntmps106 rfl ?_
 refine am (bc rfl (ai (aq (am (aV rfl (ai (au (aq ?_))))))))
 iterate 6 refine cm rfl rfl rfl rfl rfl ?_
 refine fN rfl rfl rfl rfl rfl (aO (bR rfl rfl (aq ?_)))
 refine aQ (σ':=aA 31 [] [] [] []) kp ?_
 exact an (bc rfl (ai (aE (aW (.inr rfl) rfl (.tmp (rfl:_=AV.v _)) (Le.out [] [] .v rfl rfl rfl trivial trivial)))))
theorem rE:Spec Tryz.prog 106 (bf [.v (.int .i64 21)] []) (aL (.v (.int .i64 2)) []):=by
 refine Spec.ofN Tryz.func106 rfl Tryz.ntmps106 rfl ?_
 refine am (bc rfl (ai (aq (am (aV rfl (ai (au (aq ?_))))))))
 iterate 7 refine cm rfl rfl rfl rfl rfl ?_
 refine aQ (σ':=aA 31 [(3,_)] [] [] []) kp ?_
 refine dq rfl rfl rfl rfl rfl (aq ?_)
 iterate 5 refine cm rfl rfl rfl rfl rfl ?_
 refine dq rfl rfl rfl rfl rfl (aq (cm rfl rfl rfl rfl rfl (aq ?_)))
 refine aQ (σ':=aA 31 [(3,_)] [] [] []) kp ?_
 refine dq rfl rfl rfl rfl rfl ?_
 iterate 5 refine cm rfl rfl rfl rfl rfl ?_
 exact yO rfl rfl rfl rfl rfl (am (bc rfl (ai (aE (aW (.inr rfl) rfl (.tmp (rfl:_=AV.v _)) (Le.out [] [] .v rfl rfl rfl trivial trivial))))))
theorem tQ:Spec Tryz.prog 106 (bf [.v (.int .i64 22)] []) (aL (.v (.int .i64 1)) []):=by
 refine Spec.ofN Tryz.func106 rfl Tryz.ntmps106 rfl ?_
 refine am (bc rfl (ai (aq (am (aV rfl (ai (au (aq ?_))))))))
 iterate 7 refine cm rfl rfl rfl rfl rfl ?_
 refine aQ (σ':=aA 31 [(3,_)] [] [] []) kp ?_
 refine dq rfl rfl rfl rfl rfl (aq ?_)
 iterate 5 refine cm rfl rfl rfl rfl rfl ?_
 exact yO rfl rfl rfl rfl rfl (am (bc rfl (ai (aE (aW (.inr rfl) rfl (.tmp (rfl:_=AV.v _)) (Le.out [] [] .v rfl rfl rfl trivial trivial))))))
theorem tv:Spec Tryz.prog 106 (bf [.v (.int .i64 23)] []) (aL (.v (.int .i64 0)) []):=by
 refine Spec.ofN Tryz.func106 rfl Tryz.ntmps106 rfl ?_
 refine am (bc rfl (ai (aq (am (aV rfl (ai (au (aq ?_))))))))
 iterate 7 refine cm rfl rfl rfl rfl rfl ?_
 refine aQ (σ':=aA 31 [(3,_)] [] [] []) kp ?_
 exact yO rfl rfl rfl rfl rfl (am (bc rfl (ai (aE (aW (.inr rfl) rfl (.tmp (rfl:_=AV.v _)) (Le.out [] [] .v rfl rfl rfl trivial trivial))))))
theorem nX (o:Opc):Spec Tryz.prog 106 (bf [.v (.int .i64 (o.num:Int))] []) (aL (.v (.int .i64 (o.pops:Int))) []):=by
 cases o
 ·exact te
 ·exact wZ
 ·exact qI
 ·exact ul
 ·exact uv
 ·exact uS
 ·exact vA
 ·exact wu
 ·exact xn
 ·exact vC
 ·exact yR
 ·exact zi
 ·exact xC
 ·exact wI
 ·exact sY
 ·exact vK
 ·exact tF
 ·exact rt
 ·exact qG
 ·exact tP
 ·exact rE
 ·exact tQ
 ·exact tv
theorem sZ:Spec Tryz.prog 107 (bf [.v (.int .i64 1)] []) (aL (.v (.int .i64 1)) []):=by
 refine Spec.ofN Tryz.func107 rfl Tryz.ntmps107 rfl ?_
 refine am (bc rfl (ai (aq (am (aV rfl (ai (au (aq (fN rfl rfl rfl rfl rfl (aO ?_))))))))))
 exact bR rfl rfl (am (bc rfl (ai (aE (aW (.inr rfl) rfl (.tmp (rfl:_=AV.v _)) (Le.out [] [] .v rfl rfl rfl trivial trivial))))))
theorem uR:Spec Tryz.prog 107 (bf [.v (.int .i64 2)] []) (aL (.v (.int .i64 1)) []):=by
 refine Spec.ofN Tryz.func107 rfl Tryz.ntmps107 rfl ?_
 refine am (bc rfl (ai (aq (am (aV rfl (ai (au (aq (cm rfl rfl rfl rfl rfl (fN rfl rfl rfl rfl rfl ?_))))))))))
 exact aO (bR rfl rfl (am (bc rfl (ai (aE (aW (.inr rfl) rfl (.tmp (rfl:_=AV.v _)) (Le.out [] [] .v rfl rfl rfl trivial trivial)))))))
theorem qL:Spec Tryz.prog 107 (bf [.v (.int .i64 3)] []) (aL (.v (.int .i64 0)) []):=by
 refine Spec.ofN Tryz.func107 rfl Tryz.ntmps107 rfl ?_
 refine am (bc rfl (ai (aq (am (aV rfl (ai (au (aq ?_))))))))
 iterate 7 refine cm rfl rfl rfl rfl rfl ?_
 refine aq ?_
 refine aQ (σ':=aA 18 [(3,_)] [] [] []) kp ?_
 refine dq rfl rfl rfl rfl rfl ?_
 iterate 4 refine cm rfl rfl rfl rfl rfl ?_
 exact dq rfl rfl rfl rfl rfl (cf (am (bc rfl (ai (aE (aW (.inr rfl) rfl (.tmp (rfl:_=AV.v _)) (Le.out [] [] .v rfl rfl rfl trivial trivial)))))))
theorem td:Spec Tryz.prog 107 (bf [.v (.int .i64 4)] []) (aL (.v (.int .i64 1)) []):=by
 refine Spec.ofN Tryz.func107 rfl Tryz.ntmps107 rfl ?_
 refine am (bc rfl (ai (aq (am (aV rfl (ai (au (aq ?_))))))))
 iterate 2 refine cm rfl rfl rfl rfl rfl ?_
 exact fN rfl rfl rfl rfl rfl (aO (bR rfl rfl (am (bc rfl (ai (aE (aW (.inr rfl) rfl (.tmp (rfl:_=AV.v _)) (Le.out [] [] .v rfl rfl rfl trivial trivial))))))))
theorem tz:Spec Tryz.prog 107 (bf [.v (.int .i64 5)] []) (aL (.v (.int .i64 1)) []):=by
 refine Spec.ofN Tryz.func107 rfl Tryz.ntmps107 rfl ?_
 refine am (bc rfl (ai (aq (am (aV rfl (ai (au (aq ?_))))))))
 iterate 3 refine cm rfl rfl rfl rfl rfl ?_
 exact fN rfl rfl rfl rfl rfl (aO (bR rfl rfl (am (bc rfl (ai (aE (aW (.inr rfl) rfl (.tmp (rfl:_=AV.v _)) (Le.out [] [] .v rfl rfl rfl trivial trivial))))))))
theorem xf:Spec Tryz.prog 107 (bf [.v (.int .i64 6)] []) (aL (.v (.int .i64 1)) []):=by
 refine Spec.ofN Tryz.func107 rfl Tryz.ntmps107 rfl ?_
 refine am (bc rfl (ai (aq (am (aV rfl (ai (au (aq ?_))))))))
 iterate 6 refine cm rfl rfl rfl rfl rfl ?_
 refine fN rfl rfl rfl rfl rfl (aO (bR rfl rfl (aq ?_)))
 refine aQ (σ':=aA 18 [] [] [] []) kp ?_
 exact an (bc rfl (ai (aE (aW (.inr rfl) rfl (.tmp (rfl:_=AV.v _)) (Le.out [] [] .v rfl rfl rfl trivial trivial)))))
theorem wr:Spec Tryz.prog 107 (bf [.v (.int .i64 7)] []) (aL (.v (.int .i64 1)) []):=by
 refine Spec.ofN Tryz.func107 rfl Tryz.ntmps107 rfl ?_
 refine am (bc rfl (ai (aq (am (aV rfl (ai (au (aq ?_))))))))
 iterate 7 refine cm rfl rfl rfl rfl rfl ?_
 refine aq ?_
 refine aQ (σ':=aA 18 [(3,_)] [] [] []) kp ?_
 exact yO rfl rfl rfl rfl rfl (aO (bR rfl rfl (am (bc rfl (ai (aE (aW (.inr rfl) rfl (.tmp (rfl:_=AV.v _)) (Le.out [] [] .v rfl rfl rfl trivial trivial))))))))
theorem uI:Spec Tryz.prog 107 (bf [.v (.int .i64 8)] []) (aL (.v (.int .i64 1)) []):=by
 refine Spec.ofN Tryz.func107 rfl Tryz.ntmps107 rfl ?_
 refine am (bc rfl (ai (aq (am (aV rfl (ai (au (aq ?_))))))))
 iterate 7 refine cm rfl rfl rfl rfl rfl ?_
 refine aq ?_
 refine aQ (σ':=aA 18 [(3,_)] [] [] []) kp ?_
 exact dq rfl rfl rfl rfl rfl (fN rfl rfl rfl rfl rfl (aO (bR rfl rfl (am (bc rfl (ai (aE (aW (.inr rfl) rfl (.tmp (rfl:_=AV.v _)) (Le.out [] [] .v rfl rfl rfl trivial trivial)))))))))
theorem vV:Spec Tryz.prog 107 (bf [.v (.int .i64 9)] []) (aL (.v (.int .i64 1)) []):=by
 refine Spec.ofN Tryz.func107 rfl Tryz.ntmps107 rfl ?_
 refine am (bc rfl (ai (aq (am (aV rfl (ai (au (aq ?_))))))))
 iterate 7 refine cm rfl rfl rfl rfl rfl ?_
 refine aq ?_
 refine aQ (σ':=aA 18 [(3,_)] [] [] []) kp ?_
 exact dq rfl rfl rfl rfl rfl (cm rfl rfl rfl rfl rfl (fN rfl rfl rfl rfl rfl (aO (bR rfl rfl (am (bc rfl (ai (aE (aW (.inr rfl) rfl (.tmp (rfl:_=AV.v _)) (Le.out [] [] .v rfl rfl rfl trivial trivial))))))))))
theorem vo:Spec Tryz.prog 107 (bf [.v (.int .i64 10)] []) (aL (.v (.int .i64 1)) []):=by
 refine Spec.ofN Tryz.func107 rfl Tryz.ntmps107 rfl ?_
 refine am (bc rfl (ai (aq (am (aV rfl (ai (au (aq ?_))))))))
 iterate 4 refine cm rfl rfl rfl rfl rfl ?_
 exact fN rfl rfl rfl rfl rfl (aO (bR rfl rfl (am (bc rfl (ai (aE (aW (.inr rfl) rfl (.tmp (rfl:_=AV.v _)) (Le.out [] [] .v rfl rfl rfl trivial trivial))))))))
theorem xO:Spec Tryz.prog 107 (bf [.v (.int .i64 11)] []) (aL (.v (.int .i64 1)) []):=by
 refine Spec.ofN Tryz.func107 rfl Tryz.ntmps107 rfl ?_
 refine am (bc rfl (ai (aq (am (aV rfl (ai (au (aq ?_))))))))
 iterate 7 refine cm rfl rfl rfl rfl rfl ?_
 refine aq ?_
 refine aQ (σ':=aA 18 [(3,_)] [] [] []) kp ?_
 refine dq rfl rfl rfl rfl rfl ?_
 iterate 2 refine cm rfl rfl rfl rfl rfl ?_
 exact fN rfl rfl rfl rfl rfl (aO (bR rfl rfl (am (bc rfl (ai (aE (aW (.inr rfl) rfl (.tmp (rfl:_=AV.v _)) (Le.out [] [] .v rfl rfl rfl trivial trivial))))))))
theorem yE:Spec Tryz.prog 107 (bf [.v (.int .i64 12)] []) (aL (.v (.int .i64 1)) []):=by
 refine Spec.ofN Tryz.func107 rfl Tryz.ntmps107 rfl ?_
 refine am (bc rfl (ai (aq (am (aV rfl (ai (au (aq ?_))))))))
 iterate 7 refine cm rfl rfl rfl rfl rfl ?_
 refine aq ?_
 refine aQ (σ':=aA 18 [(3,_)] [] [] []) kp ?_
 refine dq rfl rfl rfl rfl rfl ?_
 iterate 3 refine cm rfl rfl rfl rfl rfl ?_
 exact fN rfl rfl rfl rfl rfl (aO (bR rfl rfl (am (bc rfl (ai (aE (aW (.inr rfl) rfl (.tmp (rfl:_=AV.v _)) (Le.out [] [] .v rfl rfl rfl trivial trivial))))))))
theorem xX:Spec Tryz.prog 107 (bf [.v (.int .i64 13)] []) (aL (.v (.int .i64 1)) []):=by
 refine Spec.ofN Tryz.func107 rfl Tryz.ntmps107 rfl ?_
 refine am (bc rfl (ai (aq (am (aV rfl (ai (au (aq ?_))))))))
 iterate 7 refine cm rfl rfl rfl rfl rfl ?_
 refine aq ?_
 refine aQ (σ':=aA 18 [(3,_)] [] [] []) kp ?_
 refine dq rfl rfl rfl rfl rfl ?_
 iterate 4 refine cm rfl rfl rfl rfl rfl ?_
 exact yO rfl rfl rfl rfl rfl (am (bc rfl (ai (aE (aW (.inr rfl) rfl (.tmp (rfl:_=AV.v _)) (Le.out [] [] .v rfl rfl rfl trivial trivial))))))
theorem xi:Spec Tryz.prog 107 (bf [.v (.int .i64 14)] []) (aL (.v (.int .i64 1)) []):=by
 refine Spec.ofN Tryz.func107 rfl Tryz.ntmps107 rfl ?_
 refine am (bc rfl (ai (aq (am (aV rfl (ai (au (aq ?_))))))))
 iterate 5 refine cm rfl rfl rfl rfl rfl ?_
 exact fN rfl rfl rfl rfl rfl (aO (bR rfl rfl (am (bc rfl (ai (aE (aW (.inr rfl) rfl (.tmp (rfl:_=AV.v _)) (Le.out [] [] .v rfl rfl rfl trivial trivial))))))))
theorem ti:Spec Tryz.prog 107 (bf [.v (.int .i64 15)] []) (aL (.v (.int .i64 0)) []):=by
 refine Spec.ofN Tryz.func107 rfl Tryz.ntmps107 rfl ?_
 refine am (bc rfl (ai (aq (am (aV rfl (ai (au (aq ?_))))))))
 iterate 7 refine cm rfl rfl rfl rfl rfl ?_
 refine aq ?_
 refine aQ (σ':=aA 18 [(3,_)] [] [] []) kp ?_
 refine dq rfl rfl rfl rfl rfl ?_
 iterate 4 refine cm rfl rfl rfl rfl rfl ?_
 exact dq rfl rfl rfl rfl rfl (cf (am (bc rfl (ai (aE (aW (.inr rfl) rfl (.tmp (rfl:_=AV.v _)) (Le.out [] [] .v rfl rfl rfl trivial trivial)))))))
theorem wD:Spec Tryz.prog 107 (bf [.v (.int .i64 16)] []) (aL (.v (.int .i64 0)) []):=by
 refine Spec.ofN Tryz.func107 rfl Tryz.ntmps107 rfl ?_
 refine am (bc rfl (ai (aq (am (aV rfl (ai (au (aq ?_))))))))
 iterate 7 refine cm rfl rfl rfl rfl rfl ?_
 refine aq ?_
 refine aQ (σ':=aA 18 [(3,_)] [] [] []) kp ?_
 refine dq rfl rfl rfl rfl rfl ?_
 iterate 4 refine cm rfl rfl rfl rfl rfl ?_
 exact dq rfl rfl rfl rfl rfl (cf (am (bc rfl (ai (aE (aW (.inr rfl) rfl (.tmp (rfl:_=AV.v _)) (Le.out [] [] .v rfl rfl rfl trivial trivial)))))))
theorem tR:Spec Tryz.prog 107 (bf [.v (.int .i64 17)] []) (aL (.v (.int .i64 0)) []):=by
 refine Spec.ofN Tryz.func107 rfl Tryz.ntmps107 rfl ?_
 refine am (bc rfl (ai (aq (am (aV rfl (ai (au (aq ?_))))))))
 iterate 7 refine cm rfl rfl rfl rfl rfl ?_
 refine aq ?_
 refine aQ (σ':=aA 18 [(3,_)] [] [] []) kp ?_
 refine dq rfl rfl rfl rfl rfl ?_
 iterate 4 refine cm rfl rfl rfl rfl rfl ?_
 exact dq rfl rfl rfl rfl rfl (cf (am (bc rfl (ai (aE (aW (.inr rfl) rfl (.tmp (rfl:_=AV.v _)) (Le.out [] [] .v rfl rfl rfl trivial trivial)))))))
theorem rx:Spec Tryz.prog 107 (bf [.v (.int .i64 18)] []) (aL (.v (.int .i64 0)) []):=by
 refine Spec.ofN Tryz.func107 rfl Tryz.ntmps107 rfl ?_
 refine am (bc rfl (ai (aq (am (aV rfl (ai (au (aq ?_))))))))
 iterate 7 refine cm rfl rfl rfl rfl rfl ?_
 refine aq ?_
 refine aQ (σ':=aA 18 [(3,_)] [] [] []) kp ?_
 refine dq rfl rfl rfl rfl rfl ?_
 iterate 4 refine cm rfl rfl rfl rfl rfl ?_
 exact dq rfl rfl rfl rfl rfl (cf (am (bc rfl (ai (aE (aW (.inr rfl) rfl (.tmp (rfl:_=AV.v _)) (Le.out [] [] .v rfl rfl rfl trivial trivial)))))))
theorem pP:Spec Tryz.prog 107 (bf [.v (.int .i64 19)] []) (aL (.v (.int .i64 0)) []):=by
 refine Spec.ofN Tryz.func107 rfl Tryz.ntmps107 rfl ?_
 refine am (bc rfl (ai (aq (am (aV rfl (ai (au (aq ?_))))))))
 iterate 7 refine cm rfl rfl rfl rfl rfl ?_
 refine aq ?_
 refine aQ (σ':=aA 18 [(3,_)] [] [] []) kp ?_
 refine dq rfl rfl rfl rfl rfl ?_
 iterate 4 refine cm rfl rfl rfl rfl rfl ?_
 exact dq rfl rfl rfl rfl rfl (cf (am (bc rfl (ai (aE (aW (.inr rfl) rfl (.tmp (rfl:_=AV.v _)) (Le.out [] [] .v rfl rfl rfl trivial trivial)))))))
theorem sW:Spec Tryz.prog 107 (bf [.v (.int .i64 20)] []) (aL (.v (.int .i64 0)) []):=by
 refine Spec.ofN Tryz.func107 rfl Tryz.ntmps107 rfl ?_
 refine am (bc rfl (ai (aq (am (aV rfl (ai (au (aq ?_))))))))
 iterate 7 refine cm rfl rfl rfl rfl rfl ?_
 refine aq ?_
 refine aQ (σ':=aA 18 [(3,_)] [] [] []) kp ?_
 refine dq rfl rfl rfl rfl rfl ?_
 iterate 4 refine cm rfl rfl rfl rfl rfl ?_
 exact dq rfl rfl rfl rfl rfl (cf (am (bc rfl (ai (aE (aW (.inr rfl) rfl (.tmp (rfl:_=AV.v _)) (Le.out [] [] .v rfl rfl rfl trivial trivial)))))))
theorem ra:Spec Tryz.prog 107 (bf [.v (.int .i64 21)] []) (aL (.v (.int .i64 0)) []):=by
 refine Spec.ofN Tryz.func107 rfl Tryz.ntmps107 rfl ?_
 refine am (bc rfl (ai (aq (am (aV rfl (ai (au (aq ?_))))))))
 iterate 7 refine cm rfl rfl rfl rfl rfl ?_
 refine aq ?_
 refine aQ (σ':=aA 18 [(3,_)] [] [] []) kp ?_
 refine dq rfl rfl rfl rfl rfl ?_
 iterate 4 refine cm rfl rfl rfl rfl rfl ?_
 exact dq rfl rfl rfl rfl rfl (cf (am (bc rfl (ai (aE (aW (.inr rfl) rfl (.tmp (rfl:_=AV.v _)) (Le.out [] [] .v rfl rfl rfl trivial trivial)))))))
theorem uc:Spec Tryz.prog 107 (bf [.v (.int .i64 22)] []) (aL (.v (.int .i64 0)) []):=by
 refine Spec.ofN Tryz.func107 rfl Tryz.ntmps107 rfl ?_
 refine am (bc rfl (ai (aq (am (aV rfl (ai (au (aq ?_))))))))
 iterate 7 refine cm rfl rfl rfl rfl rfl ?_
 refine aq ?_
 refine aQ (σ':=aA 18 [(3,_)] [] [] []) kp ?_
 refine dq rfl rfl rfl rfl rfl ?_
 iterate 4 refine cm rfl rfl rfl rfl rfl ?_
 exact dq rfl rfl rfl rfl rfl (cf (am (bc rfl (ai (aE (aW (.inr rfl) rfl (.tmp (rfl:_=AV.v _)) (Le.out [] [] .v rfl rfl rfl trivial trivial)))))))
theorem uh:Spec Tryz.prog 107 (bf [.v (.int .i64 23)] []) (aL (.v (.int .i64 0)) []):=by
 refine Spec.ofN Tryz.func107 rfl Tryz.ntmps107 rfl ?_
 refine am (bc rfl (ai (aq (am (aV rfl (ai (au (aq ?_))))))))
 iterate 7 refine cm rfl rfl rfl rfl rfl ?_
 refine aq ?_
 refine aQ (σ':=aA 18 [(3,_)] [] [] []) kp ?_
 refine dq rfl rfl rfl rfl rfl ?_
 iterate 4 refine cm rfl rfl rfl rfl rfl ?_
 exact dq rfl rfl rfl rfl rfl (cf (am (bc rfl (ai (aE (aW (.inr rfl) rfl (.tmp (rfl:_=AV.v _)) (Le.out [] [] .v rfl rfl rfl trivial trivial)))))))
theorem nT (o:Opc):Spec Tryz.prog 107 (bf [.v (.int .i64 (o.num:Int))] []) (aL (.v (.int .i64 (o.puts:Int))) []):=by
 cases o
 ·exact sZ
 ·exact uR
 ·exact qL
 ·exact td
 ·exact tz
 ·exact xf
 ·exact wr
 ·exact uI
 ·exact vV
 ·exact vo
 ·exact xO
 ·exact yE
 ·exact xX
 ·exact xi
 ·exact ti
 ·exact wD
 ·exact tR
 ·exact rx
 ·exact pP
 ·exact sW
 ·exact ra
 ·exact uc
 ·exact uh
theorem opn_stop {o:Opc}:(o.num:Int)=23↔o= .stop:=by cases o <;> simp [Opc.num]
theorem opn_jump {o:Opc}:(o.num:Int)=15↔o= .jump:=by cases o <;> simp [Opc.num]
theorem opn_unl {o:Opc}:(o.num:Int)=16↔o= .unl:=by cases o <;> simp [Opc.num]
theorem tg (C:List dY) (e:Nat→Int) (dd vv:Int) (i:Nat) (hC:C.length≤1000000) (hi:i < C.length) (hn:(cD C i).op= .jump∨(cD C i).op= .unl→0≤(cD C i).n):
  Spec Tryz.prog 73 (bf [.agg (yG C.length (inl C) e dd vv), .v (.int .i64 (i:Int))] []) (aL (.sl (db i (cD C i)).length (Ai (db i (cD C i)))) []):=by
 obtain ⟨x,hx⟩: ∃ x,x=cD C i:=⟨_,rfl⟩
 have hg0:=lk C i hi
 have hg1:=vg C i hi
 rw [← hx] at hn hg0 hg1 ⊢
 clear hx
 obtain ⟨o,n⟩:=x
 simp only at hn hg0 hg1
 refine Spec.ofN Tryz.func73 rfl Tryz.ntmps73 rfl ?_
 refine am (aj (bg (2,0) _ rfl rfl) (aj (bB _ (rfl:_=AV.v (.slice _ _ _))) (ai (aq (am (bu rfl rfl rfl (eY rfl rfl rfl (aV rfl (aj (bl _ _ aa rfl rfl _ rfl ab (by (simp only [aU,bj,bh,bq,bp,bE,bs,bF,dM];omega)) ag) ?_)))))))))
 refine aj (cQ _ aa rfl rfl) (aj (bU _ aa rfl (by exact hg0) rfl) ?_)
 refine ai (au (am (aj (bH _ _ rfl rfl rfl) (ce rfl (ai (aP rfl (fun hc11=> ?_) (fun hc11=> ?_)))))))
 ·skip
  obtain rfl:=opn_stop.1 hc11
  exact am (aj (bB _ (rfl:_=AV.v (.slice _ _ _))) (ai (aE (aW (.inr rfl) rfl (.tmp (rfl:_=AV.v _)) (Le.out [] [] .nil rfl rfl rfl trivial trivial)))))
 ·skip
  refine am (aj (bH _ _ rfl rfl rfl) (ce rfl (ai (aP rfl (fun hc13=> ?_) (fun hc13=> ?_)))))
  ·skip
   obtain rfl:=opn_jump.1 hc13
   have hn:=hn (.inl rfl)
   refine am (bu rfl rfl rfl (eY rfl rfl rfl (aV rfl (aj (bl _ _ aa rfl rfl _ rfl ab (by (simp only [aU,bj,bh,bq,bp,bE,bs,bF,dM];omega)) ag) ?_))))
   refine aj (cQ _ aa rfl rfl) (aj (bU _ aa rfl (by exact hg1) rfl) ?_)
   refine aj (bi _ _ aa rfl ag (by (simp <;> rfl)) ah rfl) ?_
   exact jS rfl (ai (aE (aW (.inr rfl) rfl (.tmp (rfl:_=AV.sl _ _)) (Le.out [] [] (gS rfl (by simp [Ai,db,Int.toNat_of_nonneg hn])) rfl rfl rfl trivial trivial))))
  ·skip
   refine am (aj (bH _ _ rfl rfl rfl) (ce rfl (ai (aP rfl (fun hc22=> ?_) (fun hc22=> ?_)))))
   ·skip
    obtain rfl:=opn_unl.1 hc22
    have hn:=hn (.inr rfl)
    refine am (aV rfl (aj (aZ _ _ rfl rfl (bJ ab)) ?_))
    refine bu rfl rfl rfl (eY rfl rfl rfl (aV rfl (aj (bl _ _ aa rfl rfl _ rfl ab (by (simp only [aU,bj,bh,bq,bp,bE,bs,bF,dM];omega)) ag) ?_)))
    refine aj (cQ _ aa rfl rfl) (aj (bU _ aa rfl (by exact hg1) rfl) ?_)
    refine aj (bi _ _ aa rfl ag (by (simp <;> rfl)) ah rfl) ?_
    exact jS rfl (ai (aE (aW (.inr rfl) rfl (.tmp (rfl:_=AV.sl _ _)) (Le.out [] [] (gS rfl (by simp [Ai,db,Int.toNat_of_nonneg hn])) rfl rfl rfl trivial trivial))))
   ·skip
    have hs:db i ⟨o,n⟩=[i+1]:=by
     unfold db
     have h1:o≠ .stop:=fun e=> hc11 (opn_stop.2 e)
     have h2:o≠ .jump:=fun e=> hc13 (opn_jump.2 e)
     have h3:o≠ .unl:=fun e=> hc22 (opn_unl.2 e)
     cases o <;> first | rfl | exact absurd rfl h1 | exact absurd rfl h2 | exact absurd rfl h3
    refine cf (am (aV rfl (aj (aZ _ _ rfl rfl (bJ ab)) ?_)))
    refine aj (bi _ _ aa rfl ag (by (simp <;> rfl)) ah rfl) ?_
    refine jS rfl (ai (aE ?_))
    rw [hs]
    exact aW (.inr rfl) rfl (.tmp (rfl:_=AV.sl _ _)) (Le.out [] [] (gS rfl (by simp [Ai])) rfl rfl rfl trivial trivial)
instance Oo:Arr Tryz.prog 24 40 1:=Arr.of Tryz.underlying24 ae
instance Qt:Arr Tryz.prog 30 9 1:=Arr.of Tryz.underlying30 ae
instance PD:Arr Tryz.prog 44 2 1:=Arr.of Tryz.underlying44 ae
instance PI:Arr Tryz.prog 81 41 1:=Arr.of Tryz.underlying81 ae
instance MD:Arr Tryz.prog 173 24 1:=Arr.of Tryz.underlying173 ae
instance Lh:Arr Tryz.prog 278 0 1:=Arr.of Tryz.underlying278 ae
end Go.Proofs.YtmjnackchaahbaaGreat
