/- part 11 -/
import Derived.Test.YtmjnackchaahbaaGreatNpZ10
set_option linter.unusedSimpArgs false
set_option linter.unusedVariables false
set_option maxHeartbeats 2000000
namespace Go.Proofs.YtmjnackchaahbaaGreat
open Go.RowKit

section
variable {d v:List Tx} {no:Nat} {on:List PV}
theorem HZ (n:Nat):CoS (uu d v no on) (nd 12 n [] []) (fun _=> [{ op:= .push,n:=(n:Int) }]):=fun a ha=> by
 refine Spec.ofN Tryz.func91 rfl Tryz.ntmps91 rfl ?_
 refine go 3 ?_
 refine aj (aX _ eh) (go 19 ?_)
 refine aj (ip (19,0) _ _ aa rfl ag (by (simp <;> rfl)) ah rfl rfl) ?_
 exact eu rfl (am (au (mX [((0,8),(19,0))])))
theorem yL (n:Nat):CoS (uu d v no on) (nd 13 n [] []) (fun _=> [{ op:= .push,n:=(n:Int) }]):=fun a ha=> by
 refine Spec.ofN Tryz.func91 rfl Tryz.ntmps91 rfl ?_
 refine go 3 ?_
 refine aj (aX _ eh) (go 22 ?_)
 refine aj (ip (19,0) _ _ aa rfl ag (by (simp <;> rfl)) ah rfl rfl) ?_
 exact eu rfl (am (au (mX [((0,8),(19,0))])))
theorem IB (hn:(d++v).Nodup) (hl:(d++v).length≤1000) (i:Nat) (hi:i < (d++v).length):CoS (uu d v no on) (nd 14 0 ((d++v).getD i []) []) (fun _=> [{ op:= .var,n:=(i:Int) }]):=fun a ha=> by
 refine Spec.ofN Tryz.func91 rfl Tryz.ntmps91 rfl ?_
 refine go 3 ?_
 refine aj (aX _ eh) (go 27 ?_)
 refine aj (ap aa al (mC d v on no hn hl i hi) rfl rfl) ?_
 refine go 1 ?_
 refine aj (ip (27,0) _ _ aa rfl ag (by (simp <;> rfl)) ah rfl rfl) ?_
 exact eu rfl (am (au (mX [((0,8),(27,0))])))
theorem GU (k:Nat) (hk:k < 9):CoS (uu d v no on) (nd 15 0 (bltT.getD k []) []) (fun _=> [{ op:= .name,n:=(k:Int) }]):=fun a ha=> by
 refine Spec.ofN Tryz.func91 rfl Tryz.ntmps91 rfl ?_
 refine go 3 ?_
 refine aj (aX _ eh) (go 28 ?_)
 refine aE ?_
 refine az (σ':=an 211 [(4,_)] [((4,0),_)] [] []) kp ?_
 refine dA 6 [(35,0)] ?_
 refine aB (_,[]) (fun τ=> (ap aa (by repeat' (exact cp)) (pM) rfl rfl)) ?_
 refine go 5 ?_
 refine aB (_,[]) (fun τ=> (ap aa al (zj bltT 9 rfl ab ah k hk) rfl rfl)) ?_
 refine go 3 ?_
 refine aB (_,[((35,0),_)]) (fun τ=> ip (35,0) _ _ aa rfl ag (by (simp <;> rfl)) ah rfl rfl) ?_
 refine go 4 ?_
 exact au (mX [((0,8),(35,0))])
theorem Df (n:Nat):CoS (uu d v no on) (nd 5 n [] []) (fun _=> [{ op:= .timer,n:=(n:Int) }]):=fun a ha=> by
 refine Spec.ofN Tryz.func91 rfl Tryz.ntmps91 rfl ?_
 refine go 3 ?_
 refine aj (aX _ eh) (go 33 ?_)
 refine aE ?_
 refine az (σ':=an 211 [(2,_),(3,_),(4,_),(12,_)] [((3,0),_),((4,0),_)] [] []) kp ?_
 refine go 9 ?_
 refine aj (ip (56,0) _ _ aa rfl ag (by (simp <;> rfl)) ah rfl rfl) ?_
 exact eu rfl (am (au (mX [((0,8),(56,0))])))
theorem zx (n:Nat):CoS (uu d v no on) (nd 6 n [] []) (fun _=> [{ op:= .cancel,n:=(n:Int) }]):=fun a ha=> by
 refine Spec.ofN Tryz.func91 rfl Tryz.ntmps91 rfl ?_
 refine go 3 ?_
 refine aj (aX _ eh) (go 33 ?_)
 refine aE ?_
 refine az (σ':=an 211 [(2,_),(3,_),(4,_),(12,_)] [((3,0),_),((4,0),_)] [] []) kp ?_
 refine go 14 ?_
 refine aj (ip (62,0) _ _ aa rfl ag (by (simp <;> rfl)) ah rfl rfl) ?_
 exact eu rfl (am (au (mX [((0,8),(62,0))])))
theorem co_sync:CoS (uu d v no on) (nd 7 0 [] []) (fun _=> [{ op:= .sync }]):=fun a ha=> by
 refine Spec.ofN Tryz.func91 rfl Tryz.ntmps91 rfl ?_
 refine go 3 ?_
 refine aj (aX _ eh) (go 33 ?_)
 refine aE ?_
 refine az (σ':=an 211 [(2,_),(3,_),(4,_),(12,_)] [((3,0),_),((4,0),_)] [] []) kp ?_
 refine go 17 ?_
 refine aj (ip (66,0) _ _ aa rfl ag (by (simp <;> rfl)) ah rfl rfl) ?_
 exact eu rfl (am (au (mX [((0,8),(66,0))])))
theorem co_stop:CoS (uu d v no on) (nd 10 0 [] []) (fun _=> [{ op:= .stop }]):=fun a ha=> by
 refine Spec.ofN Tryz.func91 rfl Tryz.ntmps91 rfl ?_
 refine go 3 ?_
 refine aj (aX _ eh) (go 33 ?_)
 refine aE ?_
 refine az (σ':=an 211 [(2,_),(3,_),(4,_),(12,_)] [((3,0),_),((4,0),_)] [] []) kp ?_
 refine go 22 ?_
 refine aj (ip (70,0) _ _ aa rfl ag (by (simp <;> rfl)) ah rfl rfl) ?_
 exact eu rfl (am (au (mX [((0,8),(70,0))])))
theorem IQ {c y z:Nd} {cc cy cz:Cd} (hc:CoS (uu d v no on) c cc) (hy:CoS (uu d v no on) y cy) (hz:CoS (uu d v no on) z cz):CoS (uu d v no on) (nd 2 0 [] [c,y,z]) (HV cc cy cz):=fun a ha=> by
 have hb:=ln (on:=on) c cc cy cz hc 1 1 (mG [y]) (mG [z]) 0 (fun a ha=> pR y cy hy 0 a ha) (fun a ha=> pR z cz hz 0 a ha) a ha
 refine Spec.ofN Tryz.func91 rfl Tryz.ntmps91 rfl ?_
 refine go 3 ?_
 refine aj (aX _ eh) (go 33 ?_)
 refine aE ?_
 refine az (σ':=an 211 [(2,_),(3,_),(4,_)] [((3,0),_),((4,0),_)] [] []) kp ?_
 refine dA 12 [] ?_
 refine go 6 ?_
 refine aB (_,[]) (fun τ=> aO _ _ aa rfl rfl 0 rfl (show 0 < 3 by omega) (Nat.le_of_ble_eq_true rfl) rfl) ?_
 refine go 1 ?_
 refine aB (_,[]) (fun τ=> bn _ aa rfl (by exact cu [c,y,z] 0 (by simp)) rfl) ?_
 refine go 5 ?_
 refine aB (_,[]) (fun τ=> fW _ _ _ aa rfl 1 2 (.lit rfl rfl) (.lit rfl rfl) ab (show 2≤3 by omega) (show _=mG [y] from rfl) rfl) ?_
 refine go 5 ?_
 refine aB (_,[]) (fun τ=> fW _ _ _ aa rfl 2 3 (.lit rfl rfl) (.lit rfl rfl) ab (show 3≤3 by omega) (show _=mG [z] from rfl) rfl) ?_
 refine go 4 ?_
 refine aj (bR aa [((0,8),(50,0))] ar (hb.toI) trivial tr ae) ?_
 exact eu rfl (am (au (mX [((0,8),(50,0))])))
theorem Iw {c y:Nd} {cc cy:Cd} (hc:CoS (uu d v no on) c cc) (hy:CoS (uu d v no on) y cy):CoS (uu d v no on) (nd 18 0 [38,38] [c,y]) (HV cc cy (fun _=> [{ op:= .push,n:=0 }])):=fun a ha=> by
 have hb:=ln (on:=on) c cc cy (fun _=> [{ op:= .push,n:=0 }]) hc 1 0 (mG [y]) [] 0 (fun a ha=> pR y cy hy 0 a ha) (fun a _=> vq 0 a) a ha
 refine Spec.ofN Tryz.func91 rfl Tryz.ntmps91 rfl ?_
 refine go 3 ?_
 refine aj (aX _ eh) (go 33 ?_)
 refine aE ?_
 refine az (σ':=an 211 [(2,_),(3,_),(4,_),(12,_)] [((3,0),_),((4,0),_)] [] []) kp ?_
 refine go 38 ?_
 refine aE ?_
 refine az (σ':=an 211 [(2,_),(3,_),(4,_)] [((3,0),_),((4,0),_)] [] []) kp ?_
 refine dA 9 [] ?_
 refine go 6 ?_
 refine aB (_,[]) (fun τ=> aO _ _ aa rfl rfl 0 rfl (show 0 < 2 by omega) (Nat.le_of_ble_eq_true rfl) rfl) ?_
 refine go 1 ?_
 refine aB (_,[]) (fun τ=> bn _ aa rfl (by exact cu [c,y] 0 (by simp)) rfl) ?_
 refine go 5 ?_
 refine aB (_,[]) (fun τ=> fW _ _ _ aa rfl 1 2 (.lit rfl rfl) (.lit rfl rfl) ab (show 2≤2 by omega) (show _=mG [y] from rfl) rfl) ?_
 refine go 4 ?_
 refine aj (bR aa [((0,8),(50,0))] ar (hb.toI) trivial tr ae) ?_
 exact eu rfl (am (au (mX [((0,8),(50,0))])))
theorem Kd {c y:Nd} {cc cy:Cd} (hc:CoS (uu d v no on) c cc) (hy:CoS (uu d v no on) y cy):CoS (uu d v no on) (nd 18 0 [124,124] [c,y]) (HV cc (fun _=> [{ op:= .push,n:=1 }]) cy):=fun a ha=> by
 have hb:=ln (on:=on) c cc (fun _=> [{ op:= .push,n:=1 }]) cy hc 0 1 [] (mG [y]) 1 (fun a _=> vq 1 a) (fun a ha=> pR y cy hy 1 a ha) a ha
 refine Spec.ofN Tryz.func91 rfl Tryz.ntmps91 rfl ?_
 refine go 3 ?_
 refine aj (aX _ eh) (go 33 ?_)
 refine aE ?_
 refine az (σ':=an 211 [(2,_),(3,_),(4,_),(12,_)] [((3,0),_),((4,0),_)] [] []) kp ?_
 refine go 40 ?_
 refine aE ?_
 refine az (σ':=an 211 [(2,_),(3,_),(4,_)] [((3,0),_),((4,0),_)] [] []) kp ?_
 refine go 11 ?_
 refine aE ?_
 refine az (σ':=an 211 [(2,_),(3,_),(4,_)] [((3,0),_),((4,0),_)] [] []) kp ?_
 refine dA 9 [] ?_
 refine go 6 ?_
 refine aB (_,[]) (fun τ=> aO _ _ aa rfl rfl 0 rfl (show 0 < 2 by omega) (Nat.le_of_ble_eq_true rfl) rfl) ?_
 refine go 1 ?_
 refine aB (_,[]) (fun τ=> bn _ aa rfl (by exact cu [c,y] 0 (by simp)) rfl) ?_
 refine go 5 ?_
 refine aB (_,[]) (fun τ=> fW _ _ _ aa rfl 1 2 (.lit rfl rfl) (.lit rfl rfl) ab (show 2≤2 by omega) (show _=mG [y] from rfl) rfl) ?_
 refine go 4 ?_
 refine aj (bR aa [((0,8),(50,0))] ar (hb.toI) trivial tr ae) ?_
 exact eu rfl (am (au (mX [((0,8),(50,0))])))
theorem Fv {L:List Nd} {cs:List Cd} (hc:cs.length=L.length) (hk:mz (uu d v no on) L cs):CoS (uu d v no on) (nd 16 0 [] L) (fun a=> cF cs a++[{ op:= .draw }]):=fun a ha=> by
 have hl2:a+(cF cs a).length≤1000000:=by simp only [List.length_append] at ha;omega
 have hq:=dz (d:=d) (v:=v) (no:=no) (on:=on) L cs hc hk a hl2
 refine Spec.ofN Tryz.func91 rfl Tryz.ntmps91 rfl ?_
 refine go 3 ?_
 refine aj (aX _ eh) (go 33 ?_)
 refine aE ?_
 refine az (σ':=an 211 [(2,_),(3,_),(4,_),(12,_)] [((3,0),_),((4,0),_)] [] []) kp ?_
 refine go 40 ?_
 refine aE ?_
 refine az (σ':=an 211 [(2,_),(3,_),(4,_)] [((3,0),_),((4,0),_)] [] []) kp ?_
 refine go 17 ?_
 refine aj (bR aa [((0,8),(50,0))] ar (hq.toI) trivial tr ae) ?_
 refine go 8 ?_
 refine aE ?_
 refine az (σ':=an 211 [(3,_),(4,_),(10,_),(153,_)] [((3,0),_),((4,0),_),((50,0),_)] [] []) kp ?_
 refine go 14 ?_
 refine aj (bI (166,0) _ _ aa rfl rfl (bo _).symm (.sl rfl) ab rfl (eY _ { op:= .draw }) (show (cF cs a).length+1=(cF cs a++[({ op:= .draw }:eD)]).length by simp)) ?_
 exact eu rfl (am (au (mX [((0,8),(166,0))])))
theorem Jo {L:List Nd} {cs:List Cd} (hc:cs.length=L.length) (hk:mz (uu d v no on) L cs):CoS (uu d v no on) (nd 17 0 [45] L) (fun a=> cF cs a++[{ op:= .neg }]):=fun a ha=> by
 have hl2:a+(cF cs a).length≤1000000:=by simp only [List.length_append] at ha;omega
 have hq:=dz (d:=d) (v:=v) (no:=no) (on:=on) L cs hc hk a hl2
 refine Spec.ofN Tryz.func91 rfl Tryz.ntmps91 rfl ?_
 refine go 3 ?_
 refine aj (aX _ eh) (go 33 ?_)
 refine aE ?_
 refine az (σ':=an 211 [(2,_),(3,_),(4,_),(12,_)] [((3,0),_),((4,0),_)] [] []) kp ?_
 refine go 40 ?_
 refine aE ?_
 refine az (σ':=an 211 [(2,_),(3,_),(4,_)] [((3,0),_),((4,0),_)] [] []) kp ?_
 refine go 17 ?_
 refine aj (bR aa [((0,8),(50,0))] ar (hq.toI) trivial tr ae) ?_
 refine go 8 ?_
 refine aE ?_
 refine az (σ':=an 211 [(3,_),(4,_),(10,_),(153,_)] [((3,0),_),((4,0),_),((50,0),_)] [] []) kp ?_
 refine go 26 ?_
 refine aj (bI (175,0) _ _ aa rfl rfl (bo _).symm (.sl rfl) ab rfl (eY _ { op:= .neg }) (show (cF cs a).length+1=(cF cs a++[({ op:= .neg }:eD)]).length by simp)) ?_
 exact eu rfl (am (au (mX [((0,8),(175,0))])))
theorem Iz {L:List Nd} {cs:List Cd} (hc:cs.length=L.length) (hk:mz (uu d v no on) L cs):CoS (uu d v no on) (nd 17 0 [33] L) (fun a=> cF cs a++[{ op:= .not }]):=fun a ha=> by
 have hl2:a+(cF cs a).length≤1000000:=by simp only [List.length_append] at ha;omega
 have hq:=dz (d:=d) (v:=v) (no:=no) (on:=on) L cs hc hk a hl2
 refine Spec.ofN Tryz.func91 rfl Tryz.ntmps91 rfl ?_
 refine go 3 ?_
 refine aj (aX _ eh) (go 33 ?_)
 refine aE ?_
 refine az (σ':=an 211 [(2,_),(3,_),(4,_),(12,_)] [((3,0),_),((4,0),_)] [] []) kp ?_
 refine go 40 ?_
 refine aE ?_
 refine az (σ':=an 211 [(2,_),(3,_),(4,_)] [((3,0),_),((4,0),_)] [] []) kp ?_
 refine go 17 ?_
 refine aj (bR aa [((0,8),(50,0))] ar (hq.toI) trivial tr ae) ?_
 refine go 8 ?_
 refine aE ?_
 refine az (σ':=an 211 [(3,_),(4,_),(10,_),(153,_)] [((3,0),_),((4,0),_),((50,0),_)] [] []) kp ?_
 refine go 27 ?_
 refine aj (bI (179,0) _ _ aa rfl rfl (bo _).symm (.sl rfl) ab rfl (eY _ { op:= .not }) (show (cF cs a).length+1=(cF cs a++[({ op:= .not }:eD)]).length by simp)) ?_
 exact eu rfl (am (au (mX [((0,8),(179,0))])))
theorem AE {L:List Nd} {cs:List Cd} (hc:cs.length=L.length) (hk:mz (uu d v no on) L cs) (hn:(d++v).Nodup) (hl:(d++v).length≤1000) (i:Nat) (hi:i < (d++v).length):CoS (uu d v no on) (nd 1 0 ((d++v).getD i []) L) (fun a=> cF cs a++[{ op:= .setVar,n:=(i:Int) }]):=fun a ha=> by
 have hl2:a+(cF cs a).length≤1000000:=by simp only [List.length_append] at ha;omega
 have hq:=dz (d:=d) (v:=v) (no:=no) (on:=on) L cs hc hk a hl2
 refine Spec.ofN Tryz.func91 rfl Tryz.ntmps91 rfl ?_
 refine go 3 ?_
 refine aj (aX _ eh) (go 33 ?_)
 refine aE ?_
 refine az (σ':=an 211 [(2,_),(3,_),(4,_),(12,_)] [((3,0),_),((4,0),_)] [] []) kp ?_
 refine go 40 ?_
 refine aE ?_
 refine az (σ':=an 211 [(2,_),(3,_),(4,_)] [((3,0),_),((4,0),_)] [] []) kp ?_
 refine go 17 ?_
 refine aj (bR aa [((0,8),(50,0))] ar (hq.toI) trivial tr ae) ?_
 refine go 8 ?_
 refine aE ?_
 refine az (σ':=an 211 [(3,_),(4,_),(10,_),(153,_)] [((3,0),_),((4,0),_),((50,0),_)] [] []) kp ?_
 refine go 25 ?_
 refine aj (ap aa al (mC d v on no hn hl i hi) rfl rfl) ?_
 refine go 2 ?_
 refine aj (bI (189,0) _ _ aa rfl rfl (bo _).symm (.sl rfl) ab rfl (eY _ { op:= .setVar,n:=(i:Int) }) (show (cF cs a).length+1=(cF cs a++[({ op:= .setVar,n:=(i:Int) }:eD)]).length by simp)) ?_
 exact eu rfl (am (au (mX [((0,8),(189,0))])))
theorem Fy {L:List Nd} {cs:List Cd} (hc:cs.length=L.length) (hk:mz (uu d v no on) L cs) (n:Nat):CoS (uu d v no on) (nd 4 n [] L) (fun a=> cF cs a++[{ op:= .send,n:=(n:Int) }]):=fun a ha=> by
 have hl2:a+(cF cs a).length≤1000000:=by simp only [List.length_append] at ha;omega
 have hq:=dz (d:=d) (v:=v) (no:=no) (on:=on) L cs hc hk a hl2
 refine Spec.ofN Tryz.func91 rfl Tryz.ntmps91 rfl ?_
 refine go 3 ?_
 refine aj (aX _ eh) (go 33 ?_)
 refine aE ?_
 refine az (σ':=an 211 [(2,_),(3,_),(4,_),(12,_)] [((3,0),_),((4,0),_)] [] []) kp ?_
 refine go 40 ?_
 refine aE ?_
 refine az (σ':=an 211 [(2,_),(3,_),(4,_)] [((3,0),_),((4,0),_)] [] []) kp ?_
 refine go 17 ?_
 refine aj (bR aa [((0,8),(50,0))] ar (hq.toI) trivial tr ae) ?_
 refine go 8 ?_
 refine aE ?_
 refine az (σ':=an 211 [(3,_),(4,_),(10,_),(153,_)] [((3,0),_),((4,0),_),((50,0),_)] [] []) kp ?_
 refine go 31 ?_
 refine aj (bI (197,0) _ _ aa rfl rfl (bo _).symm (.sl rfl) ab rfl (eY _ { op:= .send,n:=(n:Int) }) (show (cF cs a).length+1=(cF cs a++[({ op:= .send,n:=(n:Int) }:eD)]).length by simp)) ?_
 exact eu rfl (am (au (mX [((0,8),(197,0))])))
theorem EA {L:List Nd} {cs:List Cd} (hc:cs.length=L.length) (hk:mz (uu d v no on) L cs):CoS (uu d v no on) (nd 8 0 [] L) (fun a=> cF cs a++[{ op:= .reply }]):=fun a ha=> by
 have hl2:a+(cF cs a).length≤1000000:=by simp only [List.length_append] at ha;omega
 have hq:=dz (d:=d) (v:=v) (no:=no) (on:=on) L cs hc hk a hl2
 refine Spec.ofN Tryz.func91 rfl Tryz.ntmps91 rfl ?_
 refine go 3 ?_
 refine aj (aX _ eh) (go 33 ?_)
 refine aE ?_
 refine az (σ':=an 211 [(2,_),(3,_),(4,_),(12,_)] [((3,0),_),((4,0),_)] [] []) kp ?_
 refine go 40 ?_
 refine aE ?_
 refine az (σ':=an 211 [(2,_),(3,_),(4,_)] [((3,0),_),((4,0),_)] [] []) kp ?_
 refine go 17 ?_
 refine aj (bR aa [((0,8),(50,0))] ar (hq.toI) trivial tr ae) ?_
 refine go 8 ?_
 refine aE ?_
 refine az (σ':=an 211 [(3,_),(4,_),(10,_),(153,_)] [((3,0),_),((4,0),_),((50,0),_)] [] []) kp ?_
 refine go 34 ?_
 refine aj (bI (203,0) _ _ aa rfl rfl (bo _).symm (.sl rfl) ab rfl (eY _ { op:= .reply }) (show (cF cs a).length+1=(cF cs a++[({ op:= .reply }:eD)]).length by simp)) ?_
 exact eu rfl (am (au (mX [((0,8),(203,0))])))
theorem Gp {L:List Nd} {cs:List Cd} (hc:cs.length=L.length) (hk:mz (uu d v no on) L cs):CoS (uu d v no on) (nd 9 0 [] L) (fun a=> cF cs a++[{ op:= .fail }]):=fun a ha=> by
 have hl2:a+(cF cs a).length≤1000000:=by simp only [List.length_append] at ha;omega
 have hq:=dz (d:=d) (v:=v) (no:=no) (on:=on) L cs hc hk a hl2
 refine Spec.ofN Tryz.func91 rfl Tryz.ntmps91 rfl ?_
 refine go 3 ?_
 refine aj (aX _ eh) (go 33 ?_)
 refine aE ?_
 refine az (σ':=an 211 [(2,_),(3,_),(4,_),(12,_)] [((3,0),_),((4,0),_)] [] []) kp ?_
 refine go 40 ?_
 refine aE ?_
 refine az (σ':=an 211 [(2,_),(3,_),(4,_)] [((3,0),_),((4,0),_)] [] []) kp ?_
 refine go 17 ?_
 refine aj (bR aa [((0,8),(50,0))] ar (hq.toI) trivial tr ae) ?_
 refine go 8 ?_
 refine aE ?_
 refine az (σ':=an 211 [(3,_),(4,_),(10,_),(153,_)] [((3,0),_),((4,0),_),((50,0),_)] [] []) kp ?_
 refine go 39 ?_
 refine aj (bI (209,0) _ _ aa rfl rfl (bo _).symm (.sl rfl) ab rfl (eY _ { op:= .fail }) (show (cF cs a).length+1=(cF cs a++[({ op:= .fail }:eD)]).length by simp)) ?_
 exact eu rfl (am (au (mX [((0,8),(209,0))])))
theorem CL {L:List Nd} {cs:List Cd} (hc:cs.length=L.length) (hk:mz (uu d v no on) L cs):CoS (uu d v no on) (nd 11 0 [] L) (fun a=> cF cs a):=fun a ha=> by
 have hl2:a+(cF cs a).length≤1000000:=ha
 have hq:=dz (d:=d) (v:=v) (no:=no) (on:=on) L cs hc hk a hl2
 refine Spec.ofN Tryz.func91 rfl Tryz.ntmps91 rfl ?_
 refine go 3 ?_
 refine aj (aX _ eh) (go 33 ?_)
 refine aE ?_
 refine az (σ':=an 211 [(2,_),(3,_),(4,_),(12,_)] [((3,0),_),((4,0),_)] [] []) kp ?_
 refine go 40 ?_
 refine aE ?_
 refine az (σ':=an 211 [(2,_),(3,_),(4,_)] [((3,0),_),((4,0),_)] [] []) kp ?_
 refine go 17 ?_
 refine aj (bR aa [((0,8),(50,0))] ar (hq.toI) trivial tr ae) ?_
 refine go 8 ?_
 refine aE ?_
 refine az (σ':=an 211 [(3,_),(4,_),(10,_),(153,_)] [((3,0),_),((4,0),_),((50,0),_)] [] []) kp ?_
 refine go 40 ?_
 exact au (mX [((0,8),(50,0))])
theorem Ic {L:List Nd} {cs:List Cd} (hc:cs.length=L.length) (hk:mz (uu d v no on) L cs) (o:Bo):CoS (uu d v no on) (nd 18 0 o.txt L) (fun a=> cF cs a++o.code):=fun a ha=> by
 have hol:o.code.length≤2:=by cases o <;> decide
 have hs1:o.txt≠[38,38]:=by cases o <;> decide
 have hs2:o.txt≠[124,124]:=by cases o <;> decide
 have hl2:a+(cF cs a).length≤1000000:=by simp only [List.length_append] at ha;omega
 have hq:=dz (d:=d) (v:=v) (no:=no) (on:=on) L cs hc hk a hl2
 refine Spec.ofN Tryz.func91 rfl Tryz.ntmps91 rfl ?_
 refine go 3 ?_
 refine aj (aX _ eh) (go 33 ?_)
 refine aE ?_
 refine az (σ':=an 211 [(2,_),(3,_),(4,_),(12,_)] [((3,0),_),((4,0),_)] [] []) kp ?_
 refine go 34 ?_
 refine aV rfl rfl (dg (r:=false) _ _ Tryz.underlying9 rfl rfl (beq_eq_false_iff_ne.2 hs1)) ?_
 refine go 5 ?_
 refine aE ?_
 refine az (σ':=an 211 [(2,_),(3,_),(4,_)] [((3,0),_),((4,0),_)] [] []) kp ?_
 refine go 7 ?_
 refine aV rfl rfl (dg (r:=false) _ _ Tryz.underlying9 rfl rfl (beq_eq_false_iff_ne.2 hs2)) ?_
 refine go 9 ?_
 refine aj (bR aa [((0,8),(50,0))] ar (hq.toI) trivial tr ae) ?_
 refine go 8 ?_
 refine aE ?_
 refine az (σ':=an 211 [(3,_),(4,_),(10,_),(153,_)] [((3,0),_),((4,0),_),((50,0),_)] [] []) kp ?_
 refine go 9 ?_
 refine aj (ap aa al (AJ o) rfl rfl) ?_
 refine aj (bI (160,0) _ _ aa rfl rfl (bo _).symm (.sl (bo _)) ab rfl (lW _ _) (show (cF cs a).length+o.code.length=(cF cs a++o.code).length by simp)) ?_
 exact eu rfl (am (au (mX [((0,8),(160,0))])))
def MP (c y:Cd) (a:Nat):List eD:=c a++[{ op:= .unl,n:=((a+(c a).length+(y (a+(c a).length+1)).length+2:Nat):Int) }]++y (a+(c a).length+1)++[{ op:= .jump,n:=(a:Int) }]
theorem BA {c y:Nd} {cc cy:Cd} (hc:CoS (uu d v no on) c cc) (hy:CoS (uu d v no on) y cy):CoS (uu d v no on) (nd 3 0 [] [c,y]) (MP cc cy):=fun a ha=> by
 obtain ⟨b,hb⟩: ∃ b,b=MP cc cy a:=⟨_,rfl⟩
 rw [← hb] at ha ⊢
 unfold MP at hb
 have hbl:=congrArg List.length hb
 simp only [List.length_append,List.length_cons,List.length_nil] at hbl
 have h1:=hc a ab
 generalize cc a=C at h1 hb hbl
 have h2:=hy (a+C.length+1) ab
 generalize cy (a+C.length+1)=Y at h2 hb hbl
 refine Spec.ofN Tryz.func91 rfl Tryz.ntmps91 rfl ?_
 refine go 3 ?_
 refine aj (aX _ eh) (go 33 ?_)
 refine aE ?_
 refine az (σ':=an 211 [(2,_),(3,_),(4,_),(12,_)] [((3,0),_),((4,0),_)] [] []) kp ?_
 refine go 25 ?_
 refine aE ?_
 refine az (σ':=an 211 [(2,_),(3,_),(4,_)] [((3,0),_),((4,0),_)] [] []) kp ?_
 refine dA 6 [] ?_
 refine go 6 ?_
 refine aB (_,[]) (fun τ=> aO _ _ aa rfl rfl 0 rfl (show 0 < 2 by omega) (Nat.le_of_ble_eq_true rfl) rfl) ?_
 refine go 1 ?_
 refine aB (_,[]) (fun τ=> bn _ aa rfl (by exact cu [c,y] 0 (by simp)) rfl) ?_
 refine go 4 ?_
 refine aj (bR aa [((0,8),(50,0))] ar (h1.toI) trivial tr ae) ?_
 refine eu rfl (am (aF fun K15 hK15=> ?_))
 refine az (σ':=an 211 [(2,_),(3,_),(4,_),(7,_)] [((3,0),_),((4,0),_),((50,0),_)] [] []) kp ?_
 refine dA 10 [] ?_
 refine go 6 ?_
 refine aB (_,[]) (fun τ=> aO _ _ aa rfl rfl 1 rfl (show 1 < 2 by omega) (Nat.le_of_ble_eq_true rfl) rfl) ?_
 refine go 1 ?_
 refine aB (_,[]) (fun τ=> bn _ aa rfl (by exact cu [c,y] 1 (by simp)) rfl) ?_
 refine go 12 ?_
 refine aj (bR aa [((0,8),(51,0))] ar (h2.toI) trivial tr ae) ?_
 refine eu rfl (ax (hK15 _ ?_))
 refine go 9 ?_
 refine aj (eT (r:=((a+C.length+Y.length+2:Nat):Int)) _ _ rfl rfl ((bT ab).trans ab)) ?_
 refine go 2 ?_
 refine aj (bI (102,0) _ _ aa rfl rfl (bo _).symm (.sl rfl) ab rfl (eY _ { op:= .unl,n:=((a+C.length+Y.length+2:Nat):Int) }) (show C.length+1=(C++[({ op:= .unl,n:=((a+C.length+Y.length+2:Nat):Int) }:eD)]).length by simp)) ?_
 refine eu rfl (am (aE ?_))
 refine az (σ':=an 211 [(2,_),(8,_),(9,_)] [((51,0),_),((102,0),_)] [] []) kp ?_
 refine aD (iE rfl (iE rfl (aj (bI (105,0) _ _ aa rfl rfl (bo _).symm (.ref rfl (nU _) (lS _)) (by simp;omega) rfl (lW _ _) (show (C++[({ op:= .unl,n:=((a+C.length+Y.length+2:Nat):Int) }:eD)]).length+Y.length=(C++[({ op:= .unl,n:=((a+C.length+Y.length+2:Nat):Int) }:eD)]++Y).length by simp;omega)) ?_)))
 refine go 7 ?_
 refine aj (bI (110,0) _ _ aa rfl rfl (bo _).symm (.sl rfl) (by simp;omega) rfl ((eY _ { op:= .jump,n:=(a:Int) }).trans (congrArg inl hb.symm)) (show _+1=b.length by simp;omega)) ?_
 exact eu rfl (am (au (mX [((0,8),(110,0))])))
end
end Go.Proofs.YtmjnackchaahbaaGreat

set_option maxHeartbeats 2000000
namespace Go.Proofs.YtmjnackchaahbaaGreat
open Go.RowKit

def jx:Ex→Bool
 | .int n=> decide (0≤n) | .bool _=> true | .var _=> true | .name _=> true
 | .draw e=> jx e | .neg e=> jx e | .not e=> jx e
 | .bin _ a b=> jx a && jx b
 | .and a b=> jx a && jx b
 | .or a b=> jx a && jx b
mutual
def yV:Sm→Bool
 | .assign _ e=> jx e
 | .send t _ a b=> jx t && jx a && jx b
 | .timer _=> true | .cancel _=> true | .sync=> true | .stop=> true
 | .reply a b=> jx a && jx b
 | .fail e=> jx e
 | .loop c b=> jx c && tB b
 | .ite c a b=> jx c && tB a && tB b
def tB:Bk→Bool
 | .nil=> true
 | .cons s b=> yV s && tB b
end
section
variable {d v:List Tx} {no:Nat} {on:List PV}
abbrev Lm (d v:List Tx) (no:Nat) (on:List PV) (N:Nd) (c:Cd):Prop:=CoS (uu d v no on) N c
theorem CoS.cong {u:AV} {N:Nd} {c c':Cd} (h:CoS u N c) (e: ∀ a,c a=c' a):CoS u N c':=by
 rw [show c'=c from funext fun a=> (e a).symm];exact h
theorem dV (hn:(d++v).Nodup) (hl:(d++v).length≤1000): ∀ e:Ex,gS (d++v).length e→jx e=true→Lm d v no on (eB (d++v) e) (bk e)
 | .int n,_,hp=> by
  have hp:=of_decide_eq_true hp
  have:=HZ (d:=d) (v:=v) (no:=no) (on:=on) n.toNat
  exact this.cong fun a=> by rw [Int.toNat_of_nonneg hp];rfl
 | .bool b,_,_=> by
  cases b
  ·exact yL 0
  exact yL 1
 | .var i,h,_=> IB hn hl i h
 | .name k,h,_=> GU k h
 | .draw e,h,hp=> (Fv rfl (Aj (dV hn hl e h hp) GM)).cong fun a=> by simp [bk,cF]
 | .neg e,h,hp=> (Jo rfl (Aj (dV hn hl e h hp) GM)).cong fun a=> by simp [bk,cF]
 | .not e,h,hp=> (Iz rfl (Aj (dV hn hl e h hp) GM)).cong fun a=> by simp [bk,cF]
 | .bin o x y,h,hp=> by
  simp only [jx,Bool.and_eq_true] at hp
  exact (Ic rfl (Aj (dV hn hl x h.1 hp.1) (Aj (dV hn hl y h.2 hp.2) GM)) o).cong fun a=> by simp [bk,cF]
 | .and x y,h,hp=> by
  simp only [jx,Bool.and_eq_true] at hp
  exact (Iw (dV hn hl x h.1 hp.1) (dV hn hl y h.2 hp.2)).cong fun a=> rfl
 | .or x y,h,hp=> by
  simp only [jx,Bool.and_eq_true] at hp
  exact (Kd (dV hn hl x h.1 hp.1) (dV hn hl y h.2 hp.2)).cong fun a=> rfl
def Fg:Bk→List Cd
 | .nil=> []
 | .cons s b=> db s::Fg b
theorem yD (nm:List Tx): ∀ b:Bk,(Fg b).length=(iU nm b).length
 | .nil=> by simp [Fg,iU]
 | .cons s b=> by simp [Fg,iU,yD nm b]
theorem yO: ∀ (b:Bk) (a:Nat),cF (Fg b) a=dD b a
 | .nil,a=> by simp [Fg,cF,dD]
 | .cons s b,a=> by simp only [Fg,cF,dD,yO b]
theorem nG {b:Bk} (h:mz (uu d v no on) (iU (d++v) b) (Fg b)):Lm d v no on (iY (d++v) b) (dD b):=(CL (yD _ b) h).cong (yO b)
mutual
theorem FW (hn:(d++v).Nodup) (hl:(d++v).length≤1000): ∀ s:Sm,gp (d++v).length s→yV s=true→Lm d v no on (Fs (d++v) s) (db s)
 | .assign i e,h,hp=> by rw [gp] at h;exact (AE rfl (Aj (dV hn hl e h.2 hp) GM) hn hl i h.1).cong fun a=> by simp [db,cF]
 | .send t k x y,h,hp=> by
  rw [gp] at h
  simp only [yV,Bool.and_eq_true] at hp
  exact (Fy rfl (Aj (dV hn hl t h.2.1 hp.1.1) (Aj (dV hn hl x h.2.2.1 hp.1.2) (Aj (dV hn hl y h.2.2.2 hp.2) GM))) k).cong fun a=> by simp [db,cF,Nat.add_assoc]
 | .timer k,_,_=> (Df k).cong fun a=> by rw [db]
 | .cancel k,_,_=> (zx k).cong fun a=> by rw [db]
 | .sync,_,_=> co_sync.cong fun a=> by rw [db]
 | .stop,_,_=> co_stop.cong fun a=> by rw [db]
 | .reply x y,h,hp=> by
  rw [gp] at h
  simp only [yV,Bool.and_eq_true] at hp
  exact (EA rfl (Aj (dV hn hl x h.1 hp.1) (Aj (dV hn hl y h.2 hp.2) GM))).cong fun a=> by simp [db,cF]
 | .fail e,h,hp=> by rw [gp] at h;exact (Gp rfl (Aj (dV hn hl e h hp) GM)).cong fun a=> by simp [db,cF]
 | .loop c b,h,hp=> by
  rw [gp] at h
  simp only [yV,Bool.and_eq_true] at hp
  exact (BA (dV hn hl c h.1 hp.1) (nG (nQ hn hl b h.2 hp.2))).cong fun a=> by rw [db];rfl
 | .ite c x y,h,hp=> by
  rw [gp] at h
  simp only [yV,Bool.and_eq_true] at hp
  exact (IQ (dV hn hl c h.1 hp.1.1) (nG (nQ hn hl x h.2.1 hp.1.2)) (nG (nQ hn hl y h.2.2 hp.2))).cong fun a=> by rw [db];rfl
theorem nQ (hn:(d++v).Nodup) (hl:(d++v).length≤1000): ∀ b:Bk,lc (d++v).length b→tB b=true→mz (uu d v no on) (iU (d++v) b) (Fg b)
 | .nil,_,_=> GM
 | .cons s b,h,hp=> by
  rw [lc] at h
  simp only [tB,Bool.and_eq_true] at hp
  exact Aj (FW hn hl s h.1 hp.1) (nQ hn hl b h.2 hp.2)
end
theorem Fp (hn:(d++v).Nodup) (hl:(d++v).length≤1000) (b:Bk) (h:lc (d++v).length b) (hp:tB b=true):Lm d v no on (iY (d++v) b) (dD b):=nG (nQ hn hl b h hp)
end
end Go.Proofs.YtmjnackchaahbaaGreat

set_option maxHeartbeats 2000000
namespace Go.Proofs.YtmjnackchaahbaaGreat
open Go.RowKit

abbrev Jx (c:AV) (e:Nat→Int) (d v:Int):List AV:=[c, .v (.int .i64 (e 0)), .v (.int .i64 (e 1)), .v (.int .i64 (e 2)), .v (.int .i64 (e 3)), .v (.int .i64 (e 4)), .v (.int .i64 (e 5)), .v (.int .i64 (e 6)), .v (.int .i64 (e 7)), .v (.int .i64 (e 8)), .v (.int .i64 (e 9)), .v (.int .i64 (e 10)), .v (.int .i64 (e 11)), .v (.int .i64 (e 12)), .v (.int .i64 (e 13)), .v (.int .i64 (e 14)), .v (.int .i64 (e 15)), .v (.int .i64 (e 16)), .v (.int .i64 (e 17)), .v (.int .i64 (e 18)), .v (.int .i64 (e 19)), .v (.int .i64 (e 20)), .v (.int .i64 (e 21)), .v (.int .i64 (e 22)), .v (.int .i64 (e 23)), .v (.int .i64 (e 24)), .v (.int .i64 (e 25)), .v (.int .i64 (e 26)), .v (.int .i64 (e 27)), .v (.int .i64 (e 28)), .v (.int .i64 (e 29)), .v (.int .i64 (e 30)), .v (.int .i64 (e 31)), .v (.int .i64 (e 32)), .v (.int .i64 (e 33)), .v (.int .i64 (e 34)), .v (.int .i64 (e 35)), .v (.int .i64 (e 36)), .v (.int .i64 (e 37)), .v (.int .i64 (e 38)), .v (.int .i64 (e 39)), .v (.int .i64 d), .v (.int .i64 v)]
abbrev CS (n:Nat) (xs:List PV) (e:Nat→Int) (d v:Int):List AV:=Jx (.sl n xs) e d v
def kO (e:Nat→Int) (h:Nat) (x:Int):Nat→Int:=fun k=> if k=h then x else e k
theorem tG (c:AV) (e:Nat→Int) (d v:Int) (h:Nat) (hh:h < 40) (x:Int):fI (Jx c e d v) (1+h) [.v (.int .i64 x)]=Jx c (kO e h x) d v:=by
 rcases h with _ | _ | _ | _ | _ | _ | _ | _ | _ | _ | _ | _ | _ | _ | _ | _ | _ | _ | _ | _ | _ | _ | _ | _ | _ | _ | _ | _ | _ | _ | _ | _ | _ | _ | _ | _ | _ | _ | _ | _ | h
 all_goals first | rfl | omega
theorem nJ (n:Nat) (xs:List PV) (e:Nat→Int) (d v:Int) (h:Nat) (hh:h < 40):(CS n xs e d v)[1+h]? =some (.v (.int .i64 (e h))):=by
 rcases h with _ | _ | _ | _ | _ | _ | _ | _ | _ | _ | _ | _ | _ | _ | _ | _ | _ | _ | _ | _ | _ | _ | _ | _ | _ | _ | _ | _ | _ | _ | _ | _ | _ | _ | _ | _ | _ | _ | _ | _ | h
 all_goals first | rfl | omega
def HR (l:List Nat):List PV:=l.map fun (x:Nat)=> .v (.int .i64 (x:Int))
@[simp] theorem el (l:List Nat):(HR l).length=l.length:=by simp [HR]
theorem Gb (l:List Nat) (k:Nat) (h:k < l.length):(HR l)[k]? =some (.v (.int .i64 (l.getD k 0:Int))):=by simp [HR,h]
theorem zK:Spec Tryz.prog 106 (aI [.v (.int .i64 1)] []) (aC (.v (.int .i64 0)) []):=by
 refine Spec.ofN Tryz.func106 rfl Tryz.ntmps106 rfl ?_
 refine go 19 ?_
 exact au (dU rfl rfl)
theorem Bl:Spec Tryz.prog 106 (aI [.v (.int .i64 2)] []) (aC (.v (.int .i64 0)) []):=by
 refine Spec.ofN Tryz.func106 rfl Tryz.ntmps106 rfl ?_
 refine go 24 ?_
 exact au (dU rfl rfl)
theorem vG:Spec Tryz.prog 106 (aI [.v (.int .i64 3)] []) (aC (.v (.int .i64 1)) []):=by
 refine Spec.ofN Tryz.func106 rfl Tryz.ntmps106 rfl ?_
 refine go 44 ?_
 refine az (σ':=an 31 [(3,_)] [] [] []) kp ?_
 refine go 31 ?_
 exact au (dU rfl rfl)
theorem zI:Spec Tryz.prog 106 (aI [.v (.int .i64 4)] []) (aC (.v (.int .i64 0)) []):=by
 refine Spec.ofN Tryz.func106 rfl Tryz.ntmps106 rfl ?_
 refine go 29 ?_
 exact au (dU rfl rfl)
theorem zE:Spec Tryz.prog 106 (aI [.v (.int .i64 5)] []) (aC (.v (.int .i64 1)) []):=by
 refine Spec.ofN Tryz.func106 rfl Tryz.ntmps106 rfl ?_
 refine go 44 ?_
 refine az (σ':=an 31 [(3,_)] [] [] []) kp ?_
 refine go 16 ?_
 exact au (dU rfl rfl)
theorem Dt:Spec Tryz.prog 106 (aI [.v (.int .i64 6)] []) (aC (.v (.int .i64 2)) []):=by
 refine Spec.ofN Tryz.func106 rfl Tryz.ntmps106 rfl ?_
 refine go 44 ?_
 refine az (σ':=an 31 [(3,_)] [] [] []) kp ?_
 refine go 44 ?_
 refine aE ?_
 refine az (σ':=an 31 [] [] [] []) kp ?_
 exact aD (cC rfl (am (au (dU rfl rfl))))
theorem Bv:Spec Tryz.prog 106 (aI [.v (.int .i64 7)] []) (aC (.v (.int .i64 2)) []):=by
 refine Spec.ofN Tryz.func106 rfl Tryz.ntmps106 rfl ?_
 refine go 44 ?_
 refine az (σ':=an 31 [(3,_)] [] [] []) kp ?_
 refine go 42 ?_
 refine aE ?_
 refine az (σ':=an 31 [(3,_)] [] [] []) kp ?_
 refine go 10 ?_
 exact au (dU rfl rfl)
theorem EQ:Spec Tryz.prog 106 (aI [.v (.int .i64 8)] []) (aC (.v (.int .i64 2)) []):=by
 refine Spec.ofN Tryz.func106 rfl Tryz.ntmps106 rfl ?_
 refine go 44 ?_
 refine az (σ':=an 31 [(3,_)] [] [] []) kp ?_
 refine go 42 ?_
 refine aE ?_
 refine az (σ':=an 31 [(3,_)] [] [] []) kp ?_
 refine go 15 ?_
 exact au (dU rfl rfl)
theorem Dp:Spec Tryz.prog 106 (aI [.v (.int .i64 9)] []) (aC (.v (.int .i64 2)) []):=by
 refine Spec.ofN Tryz.func106 rfl Tryz.ntmps106 rfl ?_
 refine go 44 ?_
 refine az (σ':=an 31 [(3,_)] [] [] []) kp ?_
 refine go 42 ?_
 refine aE ?_
 refine az (σ':=an 31 [(3,_)] [] [] []) kp ?_
 refine go 20 ?_
 exact au (dU rfl rfl)
theorem Bm:Spec Tryz.prog 106 (aI [.v (.int .i64 10)] []) (aC (.v (.int .i64 1)) []):=by
 refine Spec.ofN Tryz.func106 rfl Tryz.ntmps106 rfl ?_
 refine go 44 ?_
 refine az (σ':=an 31 [(3,_)] [] [] []) kp ?_
 refine go 21 ?_
 exact au (dU rfl rfl)
theorem FN:Spec Tryz.prog 106 (aI [.v (.int .i64 11)] []) (aC (.v (.int .i64 2)) []):=by
 refine Spec.ofN Tryz.func106 rfl Tryz.ntmps106 rfl ?_
 refine go 44 ?_
 refine az (σ':=an 31 [(3,_)] [] [] []) kp ?_
 refine go 42 ?_
 refine aE ?_
 refine az (σ':=an 31 [(3,_)] [] [] []) kp ?_
 refine go 25 ?_
 exact au (dU rfl rfl)
theorem Fr:Spec Tryz.prog 106 (aI [.v (.int .i64 12)] []) (aC (.v (.int .i64 2)) []):=by
 refine Spec.ofN Tryz.func106 rfl Tryz.ntmps106 rfl ?_
 refine go 44 ?_
 refine az (σ':=an 31 [(3,_)] [] [] []) kp ?_
 refine go 42 ?_
 refine aE ?_
 refine az (σ':=an 31 [(3,_)] [] [] []) kp ?_
 refine go 30 ?_
 exact au (dU rfl rfl)
theorem FM:Spec Tryz.prog 106 (aI [.v (.int .i64 13)] []) (aC (.v (.int .i64 2)) []):=by
 refine Spec.ofN Tryz.func106 rfl Tryz.ntmps106 rfl ?_
 refine go 44 ?_
 refine az (σ':=an 31 [(3,_)] [] [] []) kp ?_
 refine go 42 ?_
 refine aE ?_
 refine az (σ':=an 31 [(3,_)] [] [] []) kp ?_
 refine go 35 ?_
 exact au (dU rfl rfl)
theorem Dy:Spec Tryz.prog 106 (aI [.v (.int .i64 14)] []) (aC (.v (.int .i64 1)) []):=by
 refine Spec.ofN Tryz.func106 rfl Tryz.ntmps106 rfl ?_
 refine go 44 ?_
 refine az (σ':=an 31 [(3,_)] [] [] []) kp ?_
 refine go 26 ?_
 exact au (dU rfl rfl)
theorem Au:Spec Tryz.prog 106 (aI [.v (.int .i64 15)] []) (aC (.v (.int .i64 0)) []):=by
 refine Spec.ofN Tryz.func106 rfl Tryz.ntmps106 rfl ?_
 refine go 34 ?_
 exact au (dU rfl rfl)
theorem EG:Spec Tryz.prog 106 (aI [.v (.int .i64 16)] []) (aC (.v (.int .i64 1)) []):=by
 refine Spec.ofN Tryz.func106 rfl Tryz.ntmps106 rfl ?_
 refine go 44 ?_
 refine az (σ':=an 31 [(3,_)] [] [] []) kp ?_
 refine go 36 ?_
 exact au (dU rfl rfl)
theorem zq:Spec Tryz.prog 106 (aI [.v (.int .i64 17)] []) (aC (.v (.int .i64 3)) []):=by
 refine Spec.ofN Tryz.func106 rfl Tryz.ntmps106 rfl ?_
 refine go 44 ?_
 refine az (σ':=an 31 [(3,_)] [] [] []) kp ?_
 refine go 42 ?_
 refine aE ?_
 refine az (σ':=an 31 [(3,_)] [] [] []) kp ?_
 refine go 40 ?_
 refine aE ?_
 refine az (σ':=an 31 [] [] [] []) kp ?_
 exact aD (cC rfl (am (au (dU rfl rfl))))
theorem xC:Spec Tryz.prog 106 (aI [.v (.int .i64 18)] []) (aC (.v (.int .i64 0)) []):=by
 refine Spec.ofN Tryz.func106 rfl Tryz.ntmps106 rfl ?_
 refine go 39 ?_
 exact au (dU rfl rfl)
theorem uM:Spec Tryz.prog 106 (aI [.v (.int .i64 19)] []) (aC (.v (.int .i64 0)) []):=by
 refine Spec.ofN Tryz.func106 rfl Tryz.ntmps106 rfl ?_
 refine go 44 ?_
 exact au (dU rfl rfl)
theorem zi:Spec Tryz.prog 106 (aI [.v (.int .i64 20)] []) (aC (.v (.int .i64 0)) []):=by
 refine Spec.ofN Tryz.func106 rfl Tryz.ntmps106 rfl ?_
 refine go 46 ?_
 refine aE ?_
 refine az (σ':=an 31 [] [] [] []) kp ?_
 exact aD (cC rfl (am (au (dU rfl rfl))))
theorem xI:Spec Tryz.prog 106 (aI [.v (.int .i64 21)] []) (aC (.v (.int .i64 2)) []):=by
 refine Spec.ofN Tryz.func106 rfl Tryz.ntmps106 rfl ?_
 refine go 44 ?_
 refine az (σ':=an 31 [(3,_)] [] [] []) kp ?_
 refine go 42 ?_
 refine aE ?_
 refine az (σ':=an 31 [(3,_)] [] [] []) kp ?_
 refine go 38 ?_
 exact au (dU rfl rfl)
theorem zB:Spec Tryz.prog 106 (aI [.v (.int .i64 22)] []) (aC (.v (.int .i64 1)) []):=by
 refine Spec.ofN Tryz.func106 rfl Tryz.ntmps106 rfl ?_
 refine go 44 ?_
 refine az (σ':=an 31 [(3,_)] [] [] []) kp ?_
 refine go 39 ?_
 exact au (dU rfl rfl)
theorem zW:Spec Tryz.prog 106 (aI [.v (.int .i64 23)] []) (aC (.v (.int .i64 0)) []):=by
 refine Spec.ofN Tryz.func106 rfl Tryz.ntmps106 rfl ?_
 refine go 44 ?_
 refine az (σ':=an 31 [(3,_)] [] [] []) kp ?_
 refine go 8 ?_
 exact au (dU rfl rfl)
theorem sE (o:Opc):Spec Tryz.prog 106 (aI [.v (.int .i64 (o.num:Int))] []) (aC (.v (.int .i64 (o.pops:Int))) []):=by
 cases o
 ·exact zK
 ·exact Bl
 ·exact vG
 ·exact zI
 ·exact zE
 ·exact Dt
 ·exact Bv
 ·exact EQ
 ·exact Dp
 ·exact Bm
 ·exact FN
 ·exact Fr
 ·exact FM
 ·exact Dy
 ·exact Au
 ·exact EG
 ·exact zq
 ·exact xC
 ·exact uM
 ·exact zi
 ·exact xI
 ·exact zB
 exact zW
theorem AS:Spec Tryz.prog 107 (aI [.v (.int .i64 1)] []) (aC (.v (.int .i64 1)) []):=by
 refine Spec.ofN Tryz.func107 rfl Tryz.ntmps107 rfl ?_
 refine go 19 ?_
 exact au (dU rfl rfl)
theorem CV:Spec Tryz.prog 107 (aI [.v (.int .i64 2)] []) (aC (.v (.int .i64 1)) []):=by
 refine Spec.ofN Tryz.func107 rfl Tryz.ntmps107 rfl ?_
 refine go 24 ?_
 exact au (dU rfl rfl)
theorem vK:Spec Tryz.prog 107 (aI [.v (.int .i64 3)] []) (aC (.v (.int .i64 0)) []):=by
 refine Spec.ofN Tryz.func107 rfl Tryz.ntmps107 rfl ?_
 refine go 44 ?_
 refine aE ?_
 refine az (σ':=an 18 [(3,_)] [] [] []) kp ?_
 refine go 34 ?_
 exact au (dU rfl rfl)
theorem yU:Spec Tryz.prog 107 (aI [.v (.int .i64 4)] []) (aC (.v (.int .i64 1)) []):=by
 refine Spec.ofN Tryz.func107 rfl Tryz.ntmps107 rfl ?_
 refine go 29 ?_
 exact au (dU rfl rfl)
theorem zw:Spec Tryz.prog 107 (aI [.v (.int .i64 5)] []) (aC (.v (.int .i64 1)) []):=by
 refine Spec.ofN Tryz.func107 rfl Tryz.ntmps107 rfl ?_
 refine go 34 ?_
 exact au (dU rfl rfl)
theorem BG:Spec Tryz.prog 107 (aI [.v (.int .i64 6)] []) (aC (.v (.int .i64 1)) []):=by
 refine Spec.ofN Tryz.func107 rfl Tryz.ntmps107 rfl ?_
 refine go 46 ?_
 refine aE ?_
 refine az (σ':=an 18 [] [] [] []) kp ?_
 exact aD (cC rfl (am (au (dU rfl rfl))))
theorem BM:Spec Tryz.prog 107 (aI [.v (.int .i64 7)] []) (aC (.v (.int .i64 1)) []):=by
 refine Spec.ofN Tryz.func107 rfl Tryz.ntmps107 rfl ?_
 refine go 44 ?_
 refine aE ?_
 refine az (σ':=an 18 [(3,_)] [] [] []) kp ?_
 refine go 10 ?_
 exact au (dU rfl rfl)
theorem CI:Spec Tryz.prog 107 (aI [.v (.int .i64 8)] []) (aC (.v (.int .i64 1)) []):=by
 refine Spec.ofN Tryz.func107 rfl Tryz.ntmps107 rfl ?_
 refine go 44 ?_
 refine aE ?_
 refine az (σ':=an 18 [(3,_)] [] [] []) kp ?_
 refine go 15 ?_
 exact au (dU rfl rfl)
theorem BY:Spec Tryz.prog 107 (aI [.v (.int .i64 9)] []) (aC (.v (.int .i64 1)) []):=by
 refine Spec.ofN Tryz.func107 rfl Tryz.ntmps107 rfl ?_
 refine go 44 ?_
 refine aE ?_
 refine az (σ':=an 18 [(3,_)] [] [] []) kp ?_
 refine go 20 ?_
 exact au (dU rfl rfl)
theorem Et:Spec Tryz.prog 107 (aI [.v (.int .i64 10)] []) (aC (.v (.int .i64 1)) []):=by
 refine Spec.ofN Tryz.func107 rfl Tryz.ntmps107 rfl ?_
 refine go 39 ?_
 exact au (dU rfl rfl)
theorem FC:Spec Tryz.prog 107 (aI [.v (.int .i64 11)] []) (aC (.v (.int .i64 1)) []):=by
 refine Spec.ofN Tryz.func107 rfl Tryz.ntmps107 rfl ?_
 refine go 44 ?_
 refine aE ?_
 refine az (σ':=an 18 [(3,_)] [] [] []) kp ?_
 refine go 25 ?_
 exact au (dU rfl rfl)
theorem Hf:Spec Tryz.prog 107 (aI [.v (.int .i64 12)] []) (aC (.v (.int .i64 1)) []):=by
 refine Spec.ofN Tryz.func107 rfl Tryz.ntmps107 rfl ?_
 refine go 44 ?_
 refine aE ?_
 refine az (σ':=an 18 [(3,_)] [] [] []) kp ?_
 refine go 30 ?_
 exact au (dU rfl rfl)
theorem Hk:Spec Tryz.prog 107 (aI [.v (.int .i64 13)] []) (aC (.v (.int .i64 1)) []):=by
 refine Spec.ofN Tryz.func107 rfl Tryz.ntmps107 rfl ?_
 refine go 44 ?_
 refine aE ?_
 refine az (σ':=an 18 [(3,_)] [] [] []) kp ?_
 refine go 33 ?_
 exact au (dU rfl rfl)
theorem Dd:Spec Tryz.prog 107 (aI [.v (.int .i64 14)] []) (aC (.v (.int .i64 1)) []):=by
 refine Spec.ofN Tryz.func107 rfl Tryz.ntmps107 rfl ?_
 refine go 44 ?_
 exact au (dU rfl rfl)
theorem zd:Spec Tryz.prog 107 (aI [.v (.int .i64 15)] []) (aC (.v (.int .i64 0)) []):=by
 refine Spec.ofN Tryz.func107 rfl Tryz.ntmps107 rfl ?_
 refine go 44 ?_
 refine aE ?_
 refine az (σ':=an 18 [(3,_)] [] [] []) kp ?_
 refine go 34 ?_
 exact au (dU rfl rfl)
theorem Bn:Spec Tryz.prog 107 (aI [.v (.int .i64 16)] []) (aC (.v (.int .i64 0)) []):=by
 refine Spec.ofN Tryz.func107 rfl Tryz.ntmps107 rfl ?_
 refine go 44 ?_
 refine aE ?_
 refine az (σ':=an 18 [(3,_)] [] [] []) kp ?_
 refine go 34 ?_
 exact au (dU rfl rfl)
theorem AD:Spec Tryz.prog 107 (aI [.v (.int .i64 17)] []) (aC (.v (.int .i64 0)) []):=by
 refine Spec.ofN Tryz.func107 rfl Tryz.ntmps107 rfl ?_
 refine go 44 ?_
 refine aE ?_
 refine az (σ':=an 18 [(3,_)] [] [] []) kp ?_
 refine go 34 ?_
 exact au (dU rfl rfl)
theorem xw:Spec Tryz.prog 107 (aI [.v (.int .i64 18)] []) (aC (.v (.int .i64 0)) []):=by
 refine Spec.ofN Tryz.func107 rfl Tryz.ntmps107 rfl ?_
 refine go 44 ?_
 refine aE ?_
 refine az (σ':=an 18 [(3,_)] [] [] []) kp ?_
 refine go 34 ?_
 exact au (dU rfl rfl)
theorem uK:Spec Tryz.prog 107 (aI [.v (.int .i64 19)] []) (aC (.v (.int .i64 0)) []):=by
 refine Spec.ofN Tryz.func107 rfl Tryz.ntmps107 rfl ?_
 refine go 44 ?_
 refine aE ?_
 refine az (σ':=an 18 [(3,_)] [] [] []) kp ?_
 refine go 34 ?_
 exact au (dU rfl rfl)
theorem As:Spec Tryz.prog 107 (aI [.v (.int .i64 20)] []) (aC (.v (.int .i64 0)) []):=by
 refine Spec.ofN Tryz.func107 rfl Tryz.ntmps107 rfl ?_
 refine go 44 ?_
 refine aE ?_
 refine az (σ':=an 18 [(3,_)] [] [] []) kp ?_
 refine go 34 ?_
 exact au (dU rfl rfl)
theorem xH:Spec Tryz.prog 107 (aI [.v (.int .i64 21)] []) (aC (.v (.int .i64 0)) []):=by
 refine Spec.ofN Tryz.func107 rfl Tryz.ntmps107 rfl ?_
 refine go 44 ?_
 refine aE ?_
 refine az (σ':=an 18 [(3,_)] [] [] []) kp ?_
 refine go 34 ?_
 exact au (dU rfl rfl)
theorem yY:Spec Tryz.prog 107 (aI [.v (.int .i64 22)] []) (aC (.v (.int .i64 0)) []):=by
 refine Spec.ofN Tryz.func107 rfl Tryz.ntmps107 rfl ?_
 refine go 44 ?_
 refine aE ?_
 refine az (σ':=an 18 [(3,_)] [] [] []) kp ?_
 refine go 34 ?_
 exact au (dU rfl rfl)
theorem AT:Spec Tryz.prog 107 (aI [.v (.int .i64 23)] []) (aC (.v (.int .i64 0)) []):=by
 refine Spec.ofN Tryz.func107 rfl Tryz.ntmps107 rfl ?_
 refine go 44 ?_
 refine aE ?_
 refine az (σ':=an 18 [(3,_)] [] [] []) kp ?_
 refine go 34 ?_
 exact au (dU rfl rfl)
theorem sB (o:Opc):Spec Tryz.prog 107 (aI [.v (.int .i64 (o.num:Int))] []) (aC (.v (.int .i64 (o.puts:Int))) []):=by
 cases o
 ·exact AS
 ·exact CV
 ·exact vK
 ·exact yU
 ·exact zw
 ·exact BG
 ·exact BM
 ·exact CI
 ·exact BY
 ·exact Et
 ·exact FC
 ·exact Hf
 ·exact Hk
 ·exact Dd
 ·exact zd
 ·exact Bn
 ·exact AD
 ·exact xw
 ·exact uK
 ·exact As
 ·exact xH
 ·exact yY
 exact AT
theorem opn_stop {o:Opc}:(o.num:Int)=23↔o= .stop:=by cases o <;> simp [Opc.num]
theorem opn_jump {o:Opc}:(o.num:Int)=15↔o= .jump:=by cases o <;> simp [Opc.num]
theorem opn_unl {o:Opc}:(o.num:Int)=16↔o= .unl:=by cases o <;> simp [Opc.num]
theorem zZ (C:List eD) (e:Nat→Int) (dd vv:Int) (i:Nat) (hC:C.length≤1000000) (hi:i < C.length) (hn:(cD C i).op= .jump∨(cD C i).op= .unl→0≤(cD C i).n):
  Spec Tryz.prog 73 (aI [.agg (CS C.length (inl C) e dd vv), .v (.int .i64 (i:Int))] []) (aC (.sl (dC i (cD C i)).length (HR (dC i (cD C i)))) []):=by
 obtain ⟨x,hx⟩: ∃ x,x=cD C i:=⟨_,rfl⟩
 have hg0:=ow C i hi
 have hg1:=Cf C i hi
 rw [← hx] at hn hg0 hg1 ⊢
 clear hx
 obtain ⟨o,n⟩:=x
 simp only at hn hg0 hg1
 refine Spec.ofN Tryz.func73 rfl Tryz.ntmps73 rfl ?_
 refine aG (aj (dZ (2,0) _ rfl rfl) (aj (aX _ eh) (go 6 ?_)))
 refine aj (aO _ _ aa rfl rfl _ rfl ab (by (simp only [aq,aJ,aM,bh,bc,bm,bi,bo,el];omega)) ag) ?_
 refine aj (ej _ aa rfl rfl) (aj (bl _ aa rfl (by exact hg0) rfl) ?_)
 refine am (aH (aG (aj (ba _ _ rfl rfl rfl) (gv rfl (am (ay rfl (fun hc11=> ?_) (fun hc11=> ?_)))))))
 ·obtain rfl:=opn_stop.1 hc11
  exact aG (aj (aX _ eh) (am (au (cg (.inr rfl) rfl (.tmp kU) (Le.out [] [] .nil rfl rfl rfl trivial trivial)))))
 refine aG (aj (ba _ _ rfl rfl rfl) (gv rfl (am (ay rfl (fun hc13=> ?_) (fun hc13=> ?_)))))
 ·obtain rfl:=opn_jump.1 hc13
  have hn:=hn (.inl rfl)
  refine go 4 ?_
  refine aj (aO _ _ aa rfl rfl _ rfl ab (by (simp only [aq,aJ,aM,bh,bc,bm,bi,bo,el];omega)) ag) ?_
  refine aj (ej _ aa rfl rfl) (aj (bl _ aa rfl (by exact hg1) rfl) ?_)
  refine go 3 ?_
  exact au (cg (.inr rfl) rfl (.tmp zN) (Le.out [] [] (de rfl (by simp [HR,dC,Int.toNat_of_nonneg hn])) rfl rfl rfl trivial trivial))
 refine aG (aj (ba _ _ rfl rfl rfl) (gv rfl (am (ay rfl (fun hc22=> ?_) (fun hc22=> ?_)))))
 ·obtain rfl:=opn_unl.1 hc22
  have hn:=hn (.inr rfl)
  refine go 6 ?_
  refine aj (aO _ _ aa rfl rfl _ rfl ab (by (simp only [aq,aJ,aM,bh,bc,bm,bi,bo,el];omega)) ag) ?_
  refine aj (ej _ aa rfl rfl) (aj (bl _ aa rfl (by exact hg1) rfl) ?_)
  refine go 3 ?_
  exact au (cg (.inr rfl) rfl (.tmp zN) (Le.out [] [] (de rfl (by simp [HR,dC,Int.toNat_of_nonneg hn])) rfl rfl rfl trivial trivial))
 have hs:dC i ⟨o,n⟩=[i+1]:=by
  unfold dC
  have h1:o≠ .stop:=fun e=> hc11 (opn_stop.2 e)
  have h2:o≠ .jump:=fun e=> hc13 (opn_jump.2 e)
  have h3:o≠ .unl:=fun e=> hc22 (opn_unl.2 e)
  cases o <;> first | rfl | exact absurd rfl h1 | exact absurd rfl h2 | exact absurd rfl h3
 refine go 7 ?_
 refine au ?_
 rw [hs]
 exact cg (.inr rfl) rfl (.tmp zN) (Le.out [] [] (de rfl (by simp [HR])) rfl rfl rfl trivial trivial)
instance Si:Arr Tryz.prog 24 40 1:=Arr.of Tryz.underlying24 ae
instance SF:Arr Tryz.prog 30 9 1:=Arr.of Tryz.underlying30 ae
instance Sh:Arr Tryz.prog 81 41 1:=Arr.of Tryz.underlying81 ae
instance Ps:Arr Tryz.prog 173 24 1:=Arr.of Tryz.underlying173 ae
end Go.Proofs.YtmjnackchaahbaaGreat

set_option maxHeartbeats 2000000
namespace Go.Proofs.YtmjnackchaahbaaGreat
open Go.RowKit

theorem hU {l:List Int} {i:Nat} (h:i < l.length):l.getD i (-1)=l.getD i 0:=by
 rw [List.getD_eq_getElem?_getD,List.getD_eq_getElem?_getD,List.getElem?_eq_getElem h];rfl
theorem xq {n:Nat} {d:Int} {s:DS} {l:List Nat} {k:Nat} (h:k < l.length):(l.take (k+1)).foldl (jw n d) s=jw n d ((l.take k).foldl (jw n d) s) (l.getD k 0):=by
 rw [List.take_succ_eq_append_getElem h,List.foldl_append,List.getD_eq_getElem?_getD,List.getElem?_eq_getElem h];rfl
theorem Fw (n k:Nat) (h:k < n):((List.replicate k (-1:Int))++List.replicate (n - k) 0).set k (-1)=List.replicate (k+1) (-1)++List.replicate (n - (k+1)) 0:=by
 rw [List.set_append_right _ _ (by simp),List.length_replicate,Nat.sub_self,show n - k=(n - (k+1))+1 by omega,List.replicate_succ,List.set_cons_zero,show List.replicate (k+1) (-1:Int)=List.replicate k (-1)++[-1] from List.replicate_succ']
 simp
theorem By {ρ:aA→aA} {σ:St} {F:aA→Bool} {id:aA} {e:TypeId} {sz n m:Nat} {xs ys:List PV} (hid:σ.ob id= .obj (.row e sz xs)) (hF:F id=true) (hl:n*sz=xs.length) (hy:xs=ys) (hn:n=m):Lv ρ σ F (.sl m ys) (.ref id 0 n):=by
 subst hn;exact dH hid hF hl hy
theorem DI.flag {D:Nat→Nat} {n:Nat} {s:DS} {b:Bool} (h:DI D n s):DI D n (s.1,s.2.1,b):=⟨h.len,h.val,h.ok⟩
def AN (C:List eD) (R:List Int×Bool) (z:(List Int×Bool)×Bool):Prop:=if z.2=true then ∃ f,neg z.1.1+1≤f∧jD C f z.1=R else z.1=R
theorem AX {C:List eD} {R:List Int×Bool} {s:List Int×Bool} {f:Nat} (hf:neg s.1+1≤f) (hR:jD C f s=R) (hd:(dm C s C.length).2.2=true→neg (dm C s C.length).1 < neg s.1):
  AN C R (((dm C s C.length).1,(dm C s C.length).2.1),(dm C s C.length).2.2):=by
 obtain ⟨g,rfl⟩: ∃ g,f=g+1:=⟨f - 1,by omega⟩
 unfold AN
 cases hb:(dm C s C.length).2.2 with
 | true=>
  have:=hd hb
  rw [if_pos rfl]
  exact ⟨g,by simp only;omega,by rw [← hR,xF hb]⟩
 | false=> rw [if_neg (by simp)];rw [← hR,wC hb]
def Lz (z:(List Int×Bool)×Bool):Nat:=if z.2=true then neg z.1.1+1 else 0
theorem Ja {C:List eD} {s:List Int×Bool} (hd:(dm C s C.length).2.2=true→neg (dm C s C.length).1 < neg s.1):Lz (((dm C s C.length).1,(dm C s C.length).2.1),(dm C s C.length).2.2) < neg s.1+1:=by
 unfold Lz
 simp only
 split
 ·rename_i h;have:=hd h;omega
 omega
theorem Af {C:List eD} {s:DS} {i:Nat} (h:s.1.getD i (-1) < 0):lw C s i=s:=by unfold lw;rw [if_pos h]
theorem Eb {C:List eD} {s:DS} {i:Nat} (h: ¬ s.1.getD i (-1) < 0) (h2: ¬ s.1.getD i (-1) - (cD C i).op.pops < 0):lw C s i=(dC i (cD C i)).foldl (jw C.length (s.1.getD i (-1) - (cD C i).op.pops+(cD C i).op.puts)) s:=by
 unfold lw Hp
 rw [if_neg h,if_neg h2,show max (s.1.getD i (-1) - (cD C i).op.pops) 0=s.1.getD i (-1) - (cD C i).op.pops by omega]
theorem uZ (C:List eD) (en:Nat→Int) (dd vv:Int) (e:Int) (hC:C.length≤1000000) (D:Nat→Nat) (nv:Nat) (hg:Good D nv 0 (C.length - 1) 0 C) (hD: ∀ i,D i≤1000000) (he:0≤e→e < C.length→D e.toNat=0):
  Spec Tryz.prog 72 (aI [.agg (CS C.length (inl C) en dd vv), .v (.int .i64 e)] []) (aC (.tup [.sl (jn C e).1.length (be (jn C e).1), .v (.bool (jn C e).2)]) []):=by
 refine Spec.ofN Tryz.func72 rfl Tryz.ntmps72 rfl ?_
 refine aG (aj (dZ (2,0) _ rfl rfl) (aj (aX _ eh) (go 6 ?_)))
 refine aj (nX (17,0) _ _ aa rfl rfl C.length rfl rfl ab rfl (mc C.length)) ?_
 refine eu rfl (am (aF fun K3 hK3=> ?_))
 refine aG (cC rfl (am (aH ?_)))
 refine aT (α:=Nat) (fun k=> k≤C.length) 123 [(1,_),(2,_)] [((2,0),_)] (fun k=> [(7, .v (.int .i64 (k:Int))),(6, .ref (6,0) 0 C.length)]) (fun k=> [((6,0), .row 3 1 (be (List.replicate k (-1)++List.replicate (C.length - k) 0)))]) [] [] (fun k=> C.length - k) 0 ?_ (by
  refine Le.mkJ [((6,0),(17,0))] [] rfl ?_ ?_ trivial trivial ?_
  ·exact ⟨(by repeat' (exact Lv.v)),(bs (id:=(2,0)) rfl),(bj ag),(cf rfl ag),trivial⟩
  ·exact ⟨(cT rfl rfl rfl rfl (by repeat' (first | exact Lv.v | exact Lv.sl | exact aK | refine ai ?_ ?_))),(cL rfl rfl rfl ag),trivial⟩
  kernel_rfl) ?_
 ·omega
 intro k hk
 have hll:(List.replicate k (-1:Int)++List.replicate (C.length - k) 0).length=C.length:=by simp;omega
 refine aF fun K5 hK5=> ?_
 refine go 6 ?_
 refine ay rfl (fun hc21=> ?_) (fun hc21=> ?_)
 ·have hrs:=Fw C.length k ab
  refine aR (hK5 _ ?_)
  refine aE (aH (aD (iE rfl (bW rfl (aj (bv _ _ aa rfl rfl rfl _ rfl ab (by exact (Nat.zero_add _).trans (Nat.mul_one _))) ?_)))))
  refine aj (eR _ _ aa rfl rfl rfl rfl rfl (by simp;omega) ((dN _ _ _ ab).trans (congrArg be hrs))) ?_
  refine go 5 ?_
  refine ax (⟨k+1,?_,?_,?_⟩)
  ·omega
  ·exact kj [0,2] [] []
  omega
 obtain rfl:k=C.length:=by omega
 have hrep:List.replicate C.length (-1:Int)++List.replicate (C.length - C.length) 0=List.replicate C.length (-1):=by simp
 refine aW (id (hK3 _ ?_))
 refine go 5 ?_
 refine cA (fun hg29=> ?_) (fun hg29=> ?_)
 ·have hdf:jn C e=(List.replicate C.length (-1),true):=if_pos (.inl ab)
  refine go 12 ?_
  refine au ?_
  rw [hdf]
  exact jO (.inr rfl) rfl (.tmp mW) (.tmp wq) (Le.out [] [(6,0)] (.tup rfl (ai (By rfl rfl (by simp) (congrArg be hrep) (by simp)) lz)) rfl rfl rfl tr trivial)
 refine go 6 ?_
 refine ay rfl (fun hc34=> ?_) (fun hc34=> ?_)
 ·have hdf:jn C e=(List.replicate C.length (-1),true):=if_pos (.inr ab)
  refine go 5 ?_
  refine au ?_
  rw [hdf]
  exact jO (.inr rfl) rfl (.tmp mW) (.tmp wq) (Le.out [] [(6,0)] (.tup rfl (ai (By rfl rfl (by simp) (congrArg be hrep) (by simp)) lz)) rfl rfl rfl tr trivial)
 have hdf:jn C e=jD C (C.length+1) ((List.replicate C.length (-1)).set e.toNat 0,true):=if_neg ab
 have hdi0:DI D C.length ((List.replicate C.length (-1)).set e.toNat 0,true,false):=by
  have hr: ∀ i,(List.replicate C.length (-1:Int)).getD i (-1)= -1:=fun i=> by rw [List.getD_eq_getElem?_getD,List.getElem?_replicate];split <;> rfl
  refine ⟨by simp,fun i hi=> ?_,rfl⟩
  simp only
  rw [kg]
  split
  ·rename_i h;right;rw [h.1,he ab ab];rfl
  exact .inl (hr i)
 have hn0:neg ((List.replicate C.length (-1)).set e.toNat 0)≤C.length:=by
  have:=List.countP_le_length (p:=fun x:Int=> decide (x < 0)) (l:=(List.replicate C.length (-1:Int)).set e.toNat 0)
  simpa [neg] using this
 obtain ⟨R,hR⟩: ∃ R,R=jn C e:=⟨_,rfl⟩
 rw [← hR] at hdf
 refine cE (aG (iE rfl (bW rfl (aj (bv _ _ aa rfl rfl rfl e.toNat ab ab (by exact (Nat.zero_add _).trans (Nat.mul_one _))) ?_))))
 refine aj (eR _ _ aa rfl rfl rfl rfl rfl (by simp;omega) ((dN _ _ _ (by simp;omega)).trans (congrArg (fun l=> be (List.set l e.toNat 0)) hrep))) ?_
 refine am (aE ?_)
 refine az (σ':=an 123 [(2,_),(6,_)] [((2,0),_),((6,0),_)] [] []) kp ?_
 refine aD (gv rfl (am (aF fun K14 hK14=> ?_)))
 refine aG (gv rfl (am (aH ?_)))
 refine aT (α:=(List Int×Bool)×Bool) (fun z=> DI D C.length (z.1.1,z.1.2,false)∧AN C R z) 123 [(2,_),(6,_)] [((2,0),_)] (fun z=> [(8, .v (.bool z.1.2)),(9, .v (.bool z.2))]) (fun z=> [((6,0), .row 3 1 (be z.1.1))]) [] [] (fun z=> Lz z) (((List.replicate C.length (-1)).set e.toNat 0,true),true) ?_ (kj [0,2] [] []) ?_
 ·exact ⟨hdi0,by unfold AN;rw [if_pos rfl];exact ⟨C.length+1,by simp only;omega,hdf.symm⟩⟩
 intro z hz
 obtain ⟨s,ch⟩:=z
 obtain ⟨hdi,hz⟩:=hz
 simp only at hdi hz ⊢
 refine aF fun K16 hK16=> ?_
 refine aG (Ec rfl (am (ay rfl (fun hc39=> ?_) (fun hc39=> ?_))))
 ·obtain ⟨f,hf1,hf2⟩: ∃ f,neg s.1+1≤f∧jD C f s=R:=by
   unfold AN at hz
   rwa [if_pos hc39] at hz
  have hpd:=(lT hg hdi C.length (Nat.le_refl _)).2.2
  refine aR (hK16 _ ?_)
  refine go 8 ?_
  refine aT (α:=Nat) (fun i=> i≤C.length) 123 [(2,_),(6,_)] [((2,0),_)] (fun i=> [(10, .v (.int .i64 (i:Int))),(8, .v (.bool (dm C s i).2.1)),(9, .v (.bool (dm C s i).2.2))]) (fun i=> [((6,0), .row 3 1 (be (dm C s i).1))]) [] [] (fun i=> C.length - i) 0 ?_ (kj [0,2] [] []) ?_
  ·omega
  intro i hi
  have hw:=(lT hg hdi i hi).1
  have hps:=rz C s i
  have hwl:=hw.len
  refine aF fun K20 hK20=> ?_
  refine go 6 ?_
  refine ay rfl (fun hc43=> ?_) (fun hc43=> ?_)
  ·have hdn:=(lT hg hdi (i+1) ab).1
   have hvi:=hw.val i ab
   generalize dm C s i=w at hw hps hwl hvi
   rw [hU ab] at hvi
   obtain ⟨hins,hpop,hsuc⟩:=hg i (cD C i) (by unfold cD;rw [List.getD_eq_getElem?_getD,List.getElem?_eq_getElem ab];rfl)
   rw [Nat.zero_add] at hpop hsuc
   have hDi:=hD i
   refine aR (hK20 _ ?_)
   refine aF fun K22 hK22=> ?_
   refine aH (aE (aG (iE rfl (bW rfl (aj (bv _ _ aa rfl rfl rfl _ rfl ab (by exact (Nat.zero_add _).trans (Nat.mul_one _))) ?_)))))
   refine aj (cH _ aa rfl rfl (by exact cI _ _ ab) rfl) ?_
   refine aj (cZ _ _ rfl rfl rfl) (am (ay rfl (fun hc50=> ?_) (fun hc50=> ?_)))
   ·rw [Af (by rw [hU ab];omega)] at hps
    refine aW (id (hK22 _ ?_))
    refine go 4 ?_
    refine ax (⟨i+1,?_,?_,?_⟩)
    ·omega
    ·refine Le.mkJ [] [] rfl ?_ ?_ trivial trivial ?_
     ·exact ⟨(iP rfl),(iR rfl),(bj ag),(jL (by (rw [hps]))),(jL (by (rw [hps]))),trivial⟩
     ·exact ⟨(bU rfl rfl rfl),(cL rfl rfl rfl (by (rw [hps]))),trivial⟩
     kernel_rfl
    omega
   have hvD:=hvi.resolve_left ab
   have hgo:=Eb (C:=C) (s:=w) (i:=i) (by rw [hU ab];omega) (by rw [hU ab];omega)
   rw [hU ab,hvD] at hgo
   rw [hgo] at hps
   obtain ⟨L,hL⟩: ∃ L,L=dC i (cD C i):=⟨_,rfl⟩
   have hLl:L.length≤2:=by rw [hL];unfold dC;split <;> simp
   have hnn:(cD C i).op= .jump∨(cD C i).op= .unl→0≤(cD C i).n:=by
    unfold cV at hins
    rintro (e | e) <;> rw [e] at hins <;> exact hins
   have hnx:=zZ C en dd vv i hC ab hnn
   rw [← hL] at hps hsuc hnx
   have hpp:=sE (cD C i).op
   have hpq:=sB (cD C i).op
   have hp3:(cD C i).op.pops≤3:=by generalize (cD C i).op=o;cases o <;> decide
   have hp4:(cD C i).op.puts≤1:=by generalize (cD C i).op=o;cases o <;> decide
   refine cE (aE ?_)
   refine az (σ':=an 123 [(2,_),(6,_),(8,_),(9,_),(10,_)] [((2,0),_),((6,0),_)] [] []) kp ?_
   refine dA 13 [] ?_
   refine go 4 ?_
   refine aB (_,[]) (fun τ=> bv _ _ aa rfl rfl rfl _ rfl ab (by exact (Nat.zero_add _).trans (Nat.mul_one _))) ?_
   refine go 1 ?_
   refine aB (_,[]) (fun τ=> cH _ aa rfl rfl (by exact cI _ _ ab) rfl) ?_
   refine go 7 ?_
   refine aB (_,[]) (fun τ=> aO _ _ aa rfl rfl _ rfl ab (by (simp only [aq,aJ,aM,bh,bc,bm,bi,bo,el,aq];omega)) ag) ?_
   refine go 3 ?_
   refine aB (_,[]) (fun τ=> bl _ aa rfl (by exact ow C i ab) rfl) ?_
   refine go 1 ?_
   refine aB (_,[]) (fun τ=> (ap aa al (hpp) rfl rfl)) ?_
   refine go 1 ?_
   refine aB (_,[]) (fun τ=> bq _ _ rfl rfl (bT (by rw [hvD];omega))) ?_
   refine go 10 ?_
   refine cK rfl (decide_eq_false (by rw [hvD];omega)) ?_
   refine cE (aE ?_)
   refine az (σ':=an 123 [(2,_),(6,_),(8,_),(9,_),(10,_),(11,_)] [((2,0),_),((6,0),_)] [] []) kp ?_
   refine go 5 ?_
   refine aj (aO _ _ aa rfl rfl _ rfl ab (by (simp only [aq,aJ,aM,bh,bc,bm,bi,bo,el,aq];omega)) ag) ?_
   refine aj (ej _ aa rfl rfl) (aj (bl _ aa rfl (by exact ow C i ab) rfl) ?_)
   refine aj (ap aa al (hpq) rfl rfl) ?_
   refine aj (eT _ _ rfl rfl (bT (by rw [hvD];omega))) ?_
   refine go 5 ?_
   refine aj (ap aa al (hnx) rfl rfl) ?_
   refine go 6 ?_
   refine aT (α:=Nat) (fun k=> k≤L.length) 123 [(2,_),(6,_),(10,_),(12,_)] [((2,0),_)] (fun k=> [(13, .v (.int .i64 (k:Int))),(11, .v (.int .i64 ((D i:Int) - (cD C i).op.pops+(cD C i).op.puts))),(8, .v (.bool ((L.take k).foldl (jw C.length ((D i:Int) - (cD C i).op.pops+(cD C i).op.puts)) w).2.1)),(9, .v (.bool ((L.take k).foldl (jw C.length ((D i:Int) - (cD C i).op.pops+(cD C i).op.puts)) w).2.2))]) (fun k=> [((6,0), .row 3 1 (be ((L.take k).foldl (jw C.length ((D i:Int) - (cD C i).op.pops+(cD C i).op.puts)) w).1))]) [] [] (fun k=> L.length - k) 0 ?_ (by
    refine Le.mkJ [] [] rfl ?_ ?_ trivial trivial ?_
    ·exact ⟨(iP rfl),(iR rfl),(iV rfl),(iS rfl),(bj ag),(bj (by rw [hvD])),(jL ag),(jL ag),trivial⟩
    ·exact ⟨(bU rfl rfl rfl),(cL rfl rfl rfl ag),trivial⟩
    kernel_rfl) ?_
   ·omega
   intro k hk
   have hwd: ∀ j∈L,(D i:Int) - (cD C i).op.pops+(cD C i).op.puts=(D j:Int):=fun j hj=> by have:=(hsuc j hj).2.2;omega
   have hu:=(nS (L.take k) hw (fun j hj=> hwd j (List.mem_of_mem_take hj))).1
   have hul:=hu.len
   refine aF fun K31 hK31=> ?_
   refine go 6 ?_
   refine ay rfl (fun hc80=> ?_) (fun hc80=> ?_)
   ·have hfs:=xq (n:=C.length) (d:=(D i:Int) - (cD C i).op.pops+(cD C i).op.puts) (s:=w) (l:=L) (k:=k) ab
    have hu1:=(nS (L.take (k+1)) hw (fun j hj=> hwd j (List.mem_of_mem_take hj))).1.len
    obtain ⟨j,hj⟩: ∃ j,j=L.getD k 0:=⟨_,rfl⟩
    have hjm:j∈L:=by rw [hj,List.getD_eq_getElem?_getD,List.getElem?_eq_getElem ab];exact List.getElem_mem ab
    obtain ⟨hj1,hj2,_⟩:=hsuc j hjm
    have hjn:j < C.length:=by omega
    have hwj:=hwd j hjm
    have hnk:=Gb L k ab
    rw [← hj] at hfs hnk
    have huv:=hu.val j hjn
    rw [hU ab] at huv
    generalize (L.take k).foldl (jw C.length ((D i:Int) - (cD C i).op.pops+(cD C i).op.puts)) w=u at hu hul hfs huv
    refine aR (hK31 _ ?_)
    refine go 6 ?_
    refine aj (aO _ _ aa rfl rfl _ rfl ab (by (simp only [aq,aJ,aM,bh,bc,bm,bi,bo,el,aq];omega)) (by exact Nat.mul_one _)) ?_
    refine aj (bl _ aa rfl (by exact hnk) rfl) ?_
    refine go 2 ?_
    refine cA (fun hg88=> ?_) (fun hg88=> ?_)
    ·exact absurd hg88 ab
    refine go 2 ?_
    refine aV rfl rfl (aO _ _ aa rfl rfl _ rfl ab (by (simp only [aq,aJ,aM,bh,bc,bm,bi,bo,el,aq];omega)) (by exact Nat.mul_one _)) ?_
    refine aV rfl rfl (bl _ aa rfl (by exact hnk) rfl) ?_
    refine go 5 ?_
    refine cK rfl (decide_eq_false ab) ?_
    refine cE (aE ?_)
    refine az (σ':=an 123 [(2,_),(6,_),(8,_),(9,_),(10,_),(11,_),(12,_),(13,_)] [((2,0),_),((6,0),_)] [] []) kp ?_
    refine aD (iE rfl (gR rfl (bW rfl (aj (aO _ _ aa rfl rfl _ rfl ab (by (simp only [aq,aJ,aM,bh,bc,bm,bi,bo,el,aq];omega)) (by exact Nat.mul_one _)) ?_))))
    refine aj (bl _ aa rfl (by exact hnk) rfl) ?_
    refine aj (bv _ _ aa rfl rfl rfl _ rfl ab (by exact (Nat.zero_add _).trans (Nat.mul_one _))) ?_
    refine aj (cH _ aa rfl rfl (by exact cI _ _ ab) rfl) ?_
    refine aj (cZ _ _ rfl rfl rfl) (am (ay rfl (fun hc104=> ?_) (fun hc104=> ?_)))
    ·have hds:jw C.length ((D i:Int) - (cD C i).op.pops+(cD C i).op.puts) u j=(u.1.set j ((D i:Int) - (cD C i).op.pops+(cD C i).op.puts),u.2.1,true):=by
      unfold jw
      rw [if_neg ab,if_pos (by rw [hU ab];omega)]
     rw [hds] at hfs
     refine aG (iE rfl (gR rfl (bW rfl (aj (aO _ _ aa rfl rfl _ rfl ab (by (simp only [aq,aJ,aM,bh,bc,bm,bi,bo,el,aq];omega)) (by exact Nat.mul_one _)) ?_))))
     refine aj (bl _ aa rfl (by exact hnk) rfl) ?_
     refine bW rfl (aj (bv _ _ aa rfl rfl rfl _ rfl ab (by exact (Nat.zero_add _).trans (Nat.mul_one _))) ?_)
     refine aj (eR _ _ aa rfl rfl rfl rfl rfl (by simp;omega) (dN _ _ _ ab)) ?_
     refine am ?_
     refine az (σ':=an 123 [(2,_),(6,_),(8,_),(10,_),(11,_),(12,_),(13,_)] [((2,0),_),((6,0),_)] [] []) kp ?_
     refine go 7 ?_
     refine ax (⟨k+1,?_,?_,?_⟩)
     ·omega
     ·refine Le.mkJ [] [] rfl ?_ ?_ trivial trivial ?_
      ·exact ⟨(iP rfl),(iR rfl),(iV rfl),(iS rfl),(bj ag),(bj ag),(jL (by (rw [hfs]))),(jL (by (rw [hfs]))),trivial⟩
      ·exact ⟨(bU rfl rfl rfl),(cL rfl rfl rfl (by (rw [hfs]))),trivial⟩
      kernel_rfl
     omega
    have hds:jw C.length ((D i:Int) - (cD C i).op.pops+(cD C i).op.puts) u j=u:=by
     unfold jw
     rw [if_neg ab,if_neg (by rw [hU ab];omega),if_neg (by rw [hU ab];omega)]
    rw [hds] at hfs
    refine aG (iE rfl (gR rfl (bW rfl (aj (aO _ _ aa rfl rfl _ rfl ab (by (simp only [aq,aJ,aM,bh,bc,bm,bi,bo,el,aq];omega)) (by exact Nat.mul_one _)) ?_))))
    refine aj (bl _ aa rfl (by exact hnk) rfl) ?_
    refine aj (bv _ _ aa rfl rfl rfl _ rfl ab (by exact (Nat.zero_add _).trans (Nat.mul_one _))) ?_
    refine aj (cH _ aa rfl rfl (by exact cI _ _ ab) rfl) ?_
    refine bW rfl (aj (cM _ _ rfl rfl rfl) (am (cK rfl (by rw [bne_eq_false_iff_eq];omega) ?_)))
    refine kT ?_
    refine az (σ':=an 123 [(2,_),(6,_),(8,_),(9,_),(10,_),(11,_),(12,_),(13,_)] [((2,0),_),((6,0),_)] [] []) kp ?_
    refine go 4 ?_
    refine ax (⟨k+1,?_,?_,?_⟩)
    ·omega
    ·refine Le.mkJ [] [] rfl ?_ ?_ trivial trivial ?_
     ·exact ⟨(iP rfl),(iR rfl),(iV rfl),(iS rfl),(bj ag),(bj ag),(jL (by (rw [hfs]))),(jL (by (rw [hfs]))),trivial⟩
     ·exact ⟨(bU rfl rfl rfl),(cL rfl rfl rfl (by (rw [hfs]))),trivial⟩
     kernel_rfl
    omega
   obtain rfl:k=L.length:=by omega
   rw [List.take_length] at hu hul
   rw [List.take_length]
   refine aW (id (hK22 _ ?_))
   refine go 4 ?_
   refine ax (⟨i+1,?_,?_,?_⟩)
   ·omega
   ·refine Le.mkJ [] [] rfl ?_ ?_ trivial trivial ?_
    ·exact ⟨(iP rfl),(iR rfl),(bj ag),(jL (by (rw [hps]))),(jL (by (rw [hps]))),trivial⟩
    ·exact ⟨(bU rfl rfl rfl),(cL rfl rfl rfl (by (rw [hps]))),trivial⟩
    kernel_rfl
   omega
  obtain rfl:i=C.length:=by omega
  refine aW (id (⟨(((dm C s C.length).1,(dm C s C.length).2.1),(dm C s C.length).2.2),?_,?_,?_⟩))
  ·exact ⟨hw.flag,AX hf1 hf2 hpd⟩
  ·exact kj [0,2] [] []
  rw [show Lz (s,ch)=neg s.1+1 from if_pos hc39];exact Ja hpd
 have hzR:s=R:=by
  unfold AN at hz
  rwa [if_neg (by simp [hc39])] at hz
 subst hzR
 have hsl:=hdi.len
 refine aW (id (hK14 _ ?_))
 refine go 6 ?_
 refine au ?_
 rw [← hR]
 exact jO (.inr rfl) rfl (.tmp mW) (.tmp wq) (Le.out [] [(6,0)] (.tup rfl (ai (By rfl rfl (by simp only at hsl;simp [hsl]) rfl hsl.symm) lz)) rfl rfl rfl tr trivial)
theorem xm (C:List eD) (en:Nat→Int) (dd vv:Int) (h:Nat) (hh:h < 40) (hC:C.length≤1000000) (D:Nat→Nat) (nv:Nat) (hg:Good D nv 0 (C.length - 1) 0 C) (hD: ∀ i,D i≤1000000) (he:0≤en h→en h < C.length→D (en h).toNat=0):
  Spec Tryz.prog 74 (aI [.agg (CS C.length (inl C) en dd vv), .v (.int .i64 (h:Int))] []) (aC (.v (.int .i64 (kY C (jn C (en h)).1 C.length))) []):=by
 have hds:=uZ C en dd vv (en h) hC D nv hg hD he
 have hdi:=rB hg he
 have hdl:=hdi.len
 have hml:=fun k (hk:k≤C.length)=> nz (C:=C) (n:=C.length) hdi (B:=1000000) (fun i _=> hD i) k hk
 generalize jn C (en h)=R at hds hdi hdl hml
 have hen:=nJ C.length (inl C) en dd vv h hh
 refine Spec.ofN Tryz.func74 rfl Tryz.ntmps74 rfl ?_
 refine go 4 ?_
 refine aE (dA 11 [] ?_)
 refine go 6 ?_
 refine aB (_,[]) (fun τ=> bJ _ _ aa rfl rfl rfl h rfl ab (by exact congrArg (fun z=> 0+1+z) (Nat.mul_one h))) ?_
 refine go 1 ?_
 refine aB (_,[]) (fun τ=> bB _ aa rfl rfl (by exact (congrArg (fun z=> (CS C.length (inl C) en dd vv)[z]?) ab).trans hen)) ?_
 refine go 1 ?_
 refine aB (_,[]) (fun τ=> (ap aa al (hds) rfl rfl)) ?_
 refine go 16 ?_
 refine aF fun K4 hK4=> ?_
 refine aG (cC rfl (am (aH ?_)))
 refine aT (α:=Nat) (fun k=> k≤C.length) 53 [(2,_),(5,_)] [((2,0),_)] (fun k=> [(8, .v (.int .i64 (k:Int))),(7, .v (.int .i64 (kY C R.1 k)))]) (fun k=> []) [] [] (fun k=> C.length - k) 0 ?_ (kj [0] [] []) ?_
 ·omega
 intro k hk
 have hm1:=hml k hk
 have hs:=qG C R.1 k
 simp only at hdl hm1
 refine aF fun K6 hK6=> ?_
 refine go 6 ?_
 refine ay rfl (fun hc22=> ?_) (fun hc22=> ?_)
 ·have hm2:=hml (k+1) ab
  have hv:=hdi.val k ab
  simp only at hv hm2
  rw [hU ab] at hv hs
  have hDk:=hD k
  obtain ⟨q,hq⟩: ∃ q,q=cD C k:=⟨_,rfl⟩
  have hp3:q.op.pops≤3:=by generalize q.op=o;cases o <;> decide
  have hp4:q.op.puts≤1:=by generalize q.op=o;cases o <;> decide
  have hpp:=sE q.op
  have hpq:=sB q.op
  have hg0:=ow C k ab
  rw [← hq] at hg0 hs
  refine aR (hK6 _ ?_)
  refine aE (aH (aG (gR rfl (bW rfl (aj (aO _ _ aa rfl rfl _ rfl ab (by (simp only [aq,aJ,aM,bh,bc,bm,bi,bo,el,aq];omega)) (by exact Nat.mul_one _)) ?_)))))
  refine aj (bl _ aa rfl (by exact cI _ _ ab) rfl) ?_
  refine aj (ez _ _ rfl rfl rfl) (am (ay rfl (fun hc29=> ?_) (fun hc29=> ?_)))
  ·rw [if_pos ab] at hs
   refine go 4 ?_
   refine aj (aO _ _ aa rfl rfl _ rfl ab (by (simp only [aq,aJ,aM,bh,bc,bm,bi,bo,el,aq];omega)) ag) ?_
   refine aj (ej _ aa rfl rfl) (aj (bl _ aa rfl (by exact hg0) rfl) ?_)
   refine cC rfl (am ?_)
   refine az (σ':=an 53 [(2,_),(5,_),(7,_),(8,_),(9,_)] [((2,0),_)] [] []) kp ?_
   refine dA 16 [] ?_
   refine go 6 ?_
   refine aB (_,[]) (fun τ=> aO _ _ aa rfl rfl _ rfl ab (by (simp only [aq,aJ,aM,bh,bc,bm,bi,bo,el,aq];omega)) (by exact Nat.mul_one _)) ?_
   refine go 1 ?_
   refine aB (_,[]) (fun τ=> bl _ aa rfl (by exact cI _ _ ab) rfl) ?_
   refine go 5 ?_
   refine aB (_,[]) (fun τ=> aO _ _ aa rfl rfl _ rfl ab (by (simp only [aq,aJ,aM,bh,bc,bm,bi,bo,el,aq];omega)) (by exact Nat.mul_one _)) ?_
   refine go 1 ?_
   refine aB (_,[]) (fun τ=> bl _ aa rfl (by exact cI _ _ ab) rfl) ?_
   refine go 3 ?_
   refine aB (_,[]) (fun τ=> (ap aa al (hpp) rfl rfl)) ?_
   refine go 5 ?_
   refine aB (_,[]) (fun τ=> (ap aa al (hpq) rfl rfl)) ?_
   refine go 3 ?_
   refine aB (_,[]) (fun τ=> Gi _ _ _ rfl rfl rfl (by exact hs.symm)) ?_
   refine go 4 ?_
   refine az (σ':=an 53 [(2,_),(5,_),(7,_),(8,_)] [((2,0),_)] [] []) kp ?_
   refine go 4 ?_
   refine ax (⟨k+1,?_,?_,?_⟩)
   ·omega
   ·exact kj [0] [] []
   omega
  rw [if_neg ab] at hs
  refine go 5 ?_
  refine ax (⟨k+1,?_,?_,?_⟩)
  ·omega
  ·refine Le.mkJ [] [] rfl ?_ ?_ trivial trivial ?_
   ·exact ⟨(iP rfl),(iS rfl),(bj ag),(bj ab),trivial⟩
   ·exact ⟨(bU rfl rfl rfl),trivial⟩
   kernel_rfl
  omega
 obtain rfl:k=C.length:=by omega
 refine aW (id (hK4 _ ?_))
 exact aG (bW rfl (cC rfl (am (au (dU rfl rfl)))))
end Go.Proofs.YtmjnackchaahbaaGreat

set_option maxHeartbeats 2000000
namespace Go.Proofs.YtmjnackchaahbaaGreat
open Go.RowKit

theorem dW: ∀ (e:Ex) (d x:Nat),x∈dv e d→x≤d+(dv e d).length
 | .int _,d,x,h=> by simp [dv] at h ⊢;omega
 | .bool _,d,x,h=> by simp [dv] at h ⊢;omega
 | .var _,d,x,h=> by simp [dv] at h ⊢;omega
 | .name _,d,x,h=> by simp [dv] at h ⊢;omega
 | .draw e,d,x,h=> by
  have:=dW e d x
  simp only [dv,List.mem_append,List.length_append,List.length_cons,List.length_nil,List.mem_singleton] at h ⊢
  rcases h with h | h
  ·have:=this h;omega
  omega
 | .neg e,d,x,h=> by
  have:=dW e d x
  simp only [dv,List.mem_append,List.length_append,List.length_cons,List.length_nil,List.mem_singleton] at h ⊢
  rcases h with h | h
  ·have:=this h;omega
  omega
 | .not e,d,x,h=> by
  have:=dW e d x
  simp only [dv,List.mem_append,List.length_append,List.length_cons,List.length_nil,List.mem_singleton] at h ⊢
  rcases h with h | h
  ·have:=this h;omega
  omega
 | .bin o a b,d,x,h=> by
  have h1:=dW a d x
  have h2:=dW b (d+1) x
  have h3:1≤(dv b (d+1)).length:=by obtain ⟨l,hl⟩:=eF b (d+1);rw [hl];simp
  have h4:1≤(dv a d).length:=by obtain ⟨l,hl⟩:=eF a d;rw [hl];simp
  simp only [dv,List.mem_append,List.length_append] at h ⊢
  rcases h with (h | h) | h
  ·have:=h1 h;omega
  ·have:=h2 h;omega
  have:x≤d+2:=by cases o <;> simp at h <;> omega
  omega
 | .and a b,d,x,h=> by
  have h1:=dW a d x
  have h2:=dW b d x
  simp only [dv,List.mem_append,List.length_append,List.length_cons,List.length_nil,List.mem_singleton] at h ⊢
  rcases h with (((h | h) | h) | h) | h
  ·have:=h1 h;omega
  ·omega
  ·have:=h2 h;omega
  ·omega
  omega
 | .or a b,d,x,h=> by
  have h1:=dW a d x
  have h2:=dW b d x
  simp only [dv,List.mem_append,List.length_append,List.length_cons,List.length_nil,List.mem_singleton] at h ⊢
  rcases h with (((h | h) | h) | h) | h
  ·have:=h1 h;omega
  ·omega
  ·omega
  ·omega
  have:=h2 h;omega
theorem lh (e:Ex) (d:Nat):1≤(dv e d).length:=by obtain ⟨l,hl⟩:=eF e d;rw [hl];simp
mutual
theorem Gn: ∀ (s:Sm) (x:Nat),x∈dY s→x≤(dY s).length
 | .assign _ e,x,h=> by
  have:=dW e 0 x
  simp only [dY,List.mem_append,List.length_append,List.length_cons,List.length_nil,List.mem_singleton] at h ⊢
  rcases h with h | h
  ·have:=this h;omega
  omega
 | .send t _ a b,x,h=> by
  have h1:=dW t 0 x
  have h2:=dW a 1 x
  have h3:=dW b 2 x
  have k1:=lh t 0
  have k2:=lh a 1
  have k3:=lh b 2
  simp only [dY,List.mem_append,List.length_append,List.length_cons,List.length_nil,List.mem_singleton] at h ⊢
  rcases h with ((h | h) | h) | h
  ·have:=h1 h;omega
  ·have:=h2 h;omega
  ·have:=h3 h;omega
  omega
 | .timer _,x,h=> by simp [dY] at h ⊢;omega
 | .cancel _,x,h=> by simp [dY] at h ⊢;omega
 | .sync,x,h=> by simp [dY] at h ⊢;omega
 | .stop,x,h=> by simp [dY] at h ⊢;omega
 | .reply a b,x,h=> by
  have h2:=dW a 0 x
  have h3:=dW b 1 x
  have k2:=lh a 0
  have k3:=lh b 1
  simp only [dY,List.mem_append,List.length_append,List.length_cons,List.length_nil,List.mem_singleton] at h ⊢
  rcases h with (h | h) | h
  ·have:=h2 h;omega
  ·have:=h3 h;omega
  omega
 | .fail e,x,h=> by
  have:=dW e 0 x
  simp only [dY,List.mem_append,List.length_append,List.length_cons,List.length_nil,List.mem_singleton] at h ⊢
  rcases h with h | h
  ·have:=this h;omega
  omega
 | .loop c b,x,h=> by
  have h1:=dW c 0 x
  have h2:=nb b x
  simp only [dY,List.mem_append,List.length_append,List.length_cons,List.length_nil,List.mem_singleton] at h ⊢
  rcases h with ((h | h) | h) | h
  ·have:=h1 h;omega
  ·omega
  ·have:=h2 h;omega
  omega
 | .ite c a b,x,h=> by
  have h1:=dW c 0 x
  have h2:=nb a x
  have h3:=nb b x
  simp only [dY,List.mem_append,List.length_append,List.length_cons,List.length_nil,List.mem_singleton] at h ⊢
  rcases h with (((h | h) | h) | h) | h
  ·have:=h1 h;omega
  ·omega
  ·have:=h2 h;omega
  ·omega
  have:=h3 h;omega
theorem nb: ∀ (b:Bk) (x:Nat),x∈mi b→x≤(mi b).length
 | .nil,x,h=> by simp [mi] at h
 | .cons s b,x,h=> by
  have h1:=Gn s x
  have h2:=nb b x
  simp only [mi,List.mem_append,List.length_append] at h ⊢
  rcases h with h | h
  ·have:=h1 h;omega
  have:=h2 h;omega
end
theorem yC: ∀ (l:List (Nat×Bk)) (x:Nat),x∈mj l→x≤(mj l).length
 | [],x,h=> by simp [mj] at h
 | (k,b)::l,x,h=> by
  have h1:=nb b x
  have h2:=yC l x
  simp only [mj,List.mem_append,List.length_append,List.length_cons,List.length_nil,List.mem_singleton] at h ⊢
  rcases h with (h | h) | h
  ·have:=h1 h;omega
  ·omega
  have:=h2 h;omega
theorem Cq (l:List (Nat×Bk)) (i:Nat):xT l i≤(bG l 0).length:=by
 unfold xT
 rw [List.getD_eq_getElem?_getD]
 by_cases h:i < (mj l).length
 ·rw [List.getElem?_eq_getElem h,← qR l 0];exact yC l _ (List.getElem_mem h)
 rw [List.getElem?_eq_none ab];exact Nat.zero_le _

theorem oZ: ∀ (l m:List (Nat×Bk)) (a:Nat),bG (l++m) a=bG l a++bG m (a+(bG l a).length)
 | [],m,a=> by simp [bG]
 | (h,b)::l,m,a=> by
  simp only [List.cons_append,bG,oZ l m,List.append_assoc,List.length_append,List.length_cons,List.length_nil,Nat.add_assoc,Nat.zero_add,List.nil_append,Nat.add_comm 1 (List.length _)]
theorem vj: ∀ (l m:List (Nat×Bk)) (a:Nat),jU (l++m) a=jU l a++jU m (a+(bG l a).length)
 | [],m,a=> by simp [bG,jU]
 | (h,b)::l,m,a=> by
  simp only [List.cons_append,bG,jU,vj l m,List.append_assoc,List.length_append,List.length_cons,List.length_nil,Nat.add_assoc,Nat.zero_add,Nat.add_comm 1 (List.length _)]
def bK (l:List (Nat×Bk)) (k:Nat):Int:=(nu (jU l 0)).getD k (-1)
theorem AL (l:List (Nat×Bk)) (p:Nat×Bk) (hp:p.1 < 40):bK (l++[p])=kO (bK l) p.1 (bG l 0).length:=by
 funext k
 have e:nu (jU (l++[p]) 0)=(nu (jU l 0)).set p.1 ((bG l 0).length:Int):=by
  rw [vj]
  obtain ⟨h,b⟩:=p
  simp only [jU,nu,List.foldl_append,List.foldl_cons,List.foldl_nil,Nat.zero_add]
 unfold bK kO
 rw [e,kg]
 by_cases hk:k=p.1
 ·rw [if_pos ⟨hk,by rw [Dn];exact hp⟩,if_pos hk]
 rw [if_neg (fun h=> hk h.1),if_neg hk]
theorem wU (l:List (Nat×Bk)) (p:Nat×Bk):bG (l++[p]) 0=bG l 0++dD p.2 (bG l 0).length++[{ op:= .stop }]:=by
 rw [oZ]
 obtain ⟨h,b⟩:=p
 simp [bG]
def dX (h k:Nat):Int:=if k < h∨40≤k then -1 else 0
theorem ET (h:Nat) (hh:h < 40):kO (dX h) h (-1)=dX (h+1):=by
 funext k
 unfold kO dX
 by_cases h1:k=h
 ·rw [if_pos h1,if_pos ab]
 rw [if_neg h1]
 by_cases h2:k < h∨40≤k
 ·rw [if_pos h2,if_pos ab]
 rw [if_neg h2,if_neg ab]
theorem CZ:dX 40=bK []:=by
 funext k
 have e:bK [] k=(List.replicate 40 (-1:Int)).getD k (-1):=rfl
 rw [e,dX,if_pos ab,List.getD_eq_getElem?_getD,List.getElem?_replicate]
 by_cases hk:k < 40
 ·rw [if_pos hk];rfl
 rw [if_neg hk];rfl
theorem De (ons:List (Nat×Bk)) (j:Nat) (h:j < ons.length):ons.take (j+1)=ons.take j++[ons[j]]:=List.take_succ_eq_append_getElem h
theorem re (ons:List (Nat×Bk)) (j:Nat):(bG (ons.take j) 0).length≤(bG ons 0).length:=by
 conv=> rhs;rw [← List.take_append_drop j ons,oZ]
 rw [List.length_append];omega
theorem zO {n:Nat} (h:n < 40):da (n:Int) 40=n:=by unfold da;rw [if_neg ab];omega
structure UOk (d v:List Tx) (ons:List (Nat×Bk)):Prop where
 nd:(d++v).Nodup
 len:(d++v).length≤16
 ok: ∀ p∈ons,lc (d++v).length p.2
 pp: ∀ p∈ons,tB p.2=true
 h: ∀ p∈ons,p.1 < 40
 c:(bG ons 0).length≤1000000
 n:ons.length≤1000
theorem UOk.good {d v:List Tx} {ons:List (Nat×Bk)} (U:UOk d v ons):Good (xT ons) (d++v).length 0 ((bG ons 0).length - 1) 0 (bG ons 0):=
 Ek (xT ons) (d++v).length ons 0 0 ((bG ons 0).length - 1) U.ok (ti ons) (Nat.le_refl _) ab
theorem UOk.ent {d v:List Tx} {ons:List (Nat×Bk)} (U:UOk d v ons) (k:Nat):0≤bK ons k→bK ons k < (bG ons 0).length→xT ons (bK ons k).toNat=0:=fun h0 h1=> by
 rcases xx ons k with h | ⟨e,_,h,_,h2⟩
 ·unfold bK at h0;omega
 unfold bK;rw [h,Int.toNat_natCast];exact h2
abbrev PD (d v:List Tx) (ons:List (Nat×Bk)):AV:= .agg (CS (bG ons 0).length (inl (bG ons 0)) (bK ons) (d.length:Int) (v.length:Int))
abbrev zA:AV:= .agg (Jx (.v (.slice none 0 0)) (fun _=> 0) 0 0)
def LX (ons:List (Nat×Bk)):Int:=if 400 < (bG ons 0).length then 2 else 13
abbrev Fb (d v:List Tx) (ons:List (Nat×Bk)):AV:=if kW ons=true then .tup [PD d v ons, .v (.int .i64 0)] else .tup [zA, .v (.int .i64 (LX ons))]
abbrev xe (d v:List Tx) (ons:List (Nat×Bk)):List Hd:=ons.map fun p=> (p.1,iY (d++v) p.2)
theorem nC (d v:List Tx) (ons:List (Nat×Bk)) (U:UOk d v ons):
  Spec Tryz.prog 57 (aI [Kk d v (xe d v ons)] []) (aC (Fb d v ons) []):=by
 obtain ⟨H,hH⟩: ∃ H,H=xe d v ons:=⟨_,rfl⟩
 have hHl:H.length=ons.length:=by rw [hH,List.length_map]
 have hHk: ∀ k (h:k < ons.length),oN H k=((ons[k]).1,iY (d++v) (ons[k]).2):=fun k h=> by rw [hH];exact Dm ons _ k h
 rw [← hH]
 clear hH
 have hUn:=U.n
 have hUc:=U.c
 have hUl:=U.len
 have hdl:d.length≤16∧v.length≤16:=by rw [List.length_append] at hUl;omega
 refine Spec.ofN Tryz.func57 rfl Tryz.ntmps57 rfl ?_
 refine go 16 ?_
 refine aF fun K3 hK3=> ?_
 refine aG (cC rfl (am (aH ?_)))
 refine az (Le.nilB (4,0) 0 (60,0) 48 2 rfl rfl rfl) ?_
 refine aT (α:=Nat) (fun q=> q≤40) 79 [(1,_),(2,_),(4,_)] [((1,0),_),((2,0),_),((60,0),_)] (fun q=> [(5, .v (.int .i64 (q:Int)))]) (fun q=> [((4,0), .box 26 [.ref (60,0) 0 0, .v (.int .i64 (dX q 0)), .v (.int .i64 (dX q 1)), .v (.int .i64 (dX q 2)), .v (.int .i64 (dX q 3)), .v (.int .i64 (dX q 4)), .v (.int .i64 (dX q 5)), .v (.int .i64 (dX q 6)), .v (.int .i64 (dX q 7)), .v (.int .i64 (dX q 8)), .v (.int .i64 (dX q 9)), .v (.int .i64 (dX q 10)), .v (.int .i64 (dX q 11)), .v (.int .i64 (dX q 12)), .v (.int .i64 (dX q 13)), .v (.int .i64 (dX q 14)), .v (.int .i64 (dX q 15)), .v (.int .i64 (dX q 16)), .v (.int .i64 (dX q 17)), .v (.int .i64 (dX q 18)), .v (.int .i64 (dX q 19)), .v (.int .i64 (dX q 20)), .v (.int .i64 (dX q 21)), .v (.int .i64 (dX q 22)), .v (.int .i64 (dX q 23)), .v (.int .i64 (dX q 24)), .v (.int .i64 (dX q 25)), .v (.int .i64 (dX q 26)), .v (.int .i64 (dX q 27)), .v (.int .i64 (dX q 28)), .v (.int .i64 (dX q 29)), .v (.int .i64 (dX q 30)), .v (.int .i64 (dX q 31)), .v (.int .i64 (dX q 32)), .v (.int .i64 (dX q 33)), .v (.int .i64 (dX q 34)), .v (.int .i64 (dX q 35)), .v (.int .i64 (dX q 36)), .v (.int .i64 (dX q 37)), .v (.int .i64 (dX q 38)), .v (.int .i64 (dX q 39)), .v (.int .i64 (d.length:Int)), .v (.int .i64 (v.length:Int))])]) [] [] (fun q=> 40 - q) 0 ?_ (kj [0,0,0,1] [] []) ?_
 ·omega
 intro q hq
 refine aF fun K5 hK5=> ?_
 refine go 4 ?_
 refine ay rfl (fun hc17=> ?_) (fun hc17=> ?_)
 ·refine aR (hK5 _ ?_)
  refine go 5 ?_
  refine aj (bJ _ _ aa rfl rfl rfl q rfl ab (by exact congrArg (fun z=> 0+1+z) (Nat.mul_one q))) ?_
  refine aj (cY _ _ aa rfl rfl rfl rfl (show 0+1+q+1≤43 by omega) ((congrArg (fun z=> fI (Jx (.ref (60,0) 0 0) (dX q) (d.length:Int) (v.length:Int)) z [.v (.int .i64 (-1))]) ab).trans ((tG _ _ _ _ q ab _).trans (by rw [ET _ ab])))) ?_
  refine go 5 ?_
  refine ax (⟨q+1,?_,?_,?_⟩)
  ·omega
  ·exact kj [0,0,0,1] [] []
  omega
 obtain rfl:q=40:=by omega
 rw [CZ]
 refine aW (id (hK3 _ ?_))
 refine aF fun K8 hK8=> ?_
 refine aG (cC rfl (am (aH ?_)))
 refine aT (α:=Nat) (fun j=> j≤H.length) 79 [(1,_),(2,_),(4,_)] [((1,0),_),((2,0),_)] (fun j=> [(6, .v (.int .i64 (j:Int)))]) (fun j=> [((60,0), .row 48 2 (inl (bG (ons.take j) 0))),((4,0), .box 26 [.ref (60,0) 0 (bG (ons.take j) 0).length, .v (.int .i64 (bK (ons.take j) 0)), .v (.int .i64 (bK (ons.take j) 1)), .v (.int .i64 (bK (ons.take j) 2)), .v (.int .i64 (bK (ons.take j) 3)), .v (.int .i64 (bK (ons.take j) 4)), .v (.int .i64 (bK (ons.take j) 5)), .v (.int .i64 (bK (ons.take j) 6)), .v (.int .i64 (bK (ons.take j) 7)), .v (.int .i64 (bK (ons.take j) 8)), .v (.int .i64 (bK (ons.take j) 9)), .v (.int .i64 (bK (ons.take j) 10)), .v (.int .i64 (bK (ons.take j) 11)), .v (.int .i64 (bK (ons.take j) 12)), .v (.int .i64 (bK (ons.take j) 13)), .v (.int .i64 (bK (ons.take j) 14)), .v (.int .i64 (bK (ons.take j) 15)), .v (.int .i64 (bK (ons.take j) 16)), .v (.int .i64 (bK (ons.take j) 17)), .v (.int .i64 (bK (ons.take j) 18)), .v (.int .i64 (bK (ons.take j) 19)), .v (.int .i64 (bK (ons.take j) 20)), .v (.int .i64 (bK (ons.take j) 21)), .v (.int .i64 (bK (ons.take j) 22)), .v (.int .i64 (bK (ons.take j) 23)), .v (.int .i64 (bK (ons.take j) 24)), .v (.int .i64 (bK (ons.take j) 25)), .v (.int .i64 (bK (ons.take j) 26)), .v (.int .i64 (bK (ons.take j) 27)), .v (.int .i64 (bK (ons.take j) 28)), .v (.int .i64 (bK (ons.take j) 29)), .v (.int .i64 (bK (ons.take j) 30)), .v (.int .i64 (bK (ons.take j) 31)), .v (.int .i64 (bK (ons.take j) 32)), .v (.int .i64 (bK (ons.take j) 33)), .v (.int .i64 (bK (ons.take j) 34)), .v (.int .i64 (bK (ons.take j) 35)), .v (.int .i64 (bK (ons.take j) 36)), .v (.int .i64 (bK (ons.take j) 37)), .v (.int .i64 (bK (ons.take j) 38)), .v (.int .i64 (bK (ons.take j) 39)), .v (.int .i64 (d.length:Int)), .v (.int .i64 (v.length:Int))])]) [] [] (fun j=> H.length - j) 0 ?_ (kj [0,0,2,1] [] []) ?_
 ·omega
 intro j hj
 have hct:=re ons j
 refine aF fun K10 hK10=> ?_
 refine go 7 ?_
 refine ay rfl (fun hc27=> ?_) (fun hc27=> ?_)
 ·have hj:j < ons.length:=by omega
  have hct1:=re ons (j+1)
  have hUh:=U.h _ (List.getElem_mem hj)
  have hUo:=U.ok _ (List.getElem_mem hj)
  have hUp:=U.pp _ (List.getElem_mem hj)
  have hbody:=vt H j ab
  have hg0:=ko H j ab
  rw [hHk j hj] at hbody hg0
  have hsn:=wU (ons.take j) (ons[j])
  have hen:=AL (ons.take j) (ons[j]) hUh
  rw [← De ons j hj] at hsn hen
  have hsl:=congrArg List.length hsn
  simp only [List.length_append,List.length_cons,List.length_nil] at hsl
  have hcb:=Fp (d:=d) (v:=v) (no:=H.length) (on:=lK H) U.nd ab (ons[j]).2 hUo hUp (bG (ons.take j) 0).length ab
  generalize dD (ons[j]).2 (bG (ons.take j) 0).length=C at hsn hsl hcb
  generalize (ons[j]).2=bd at hbody hcb
  generalize (ons[j]).1=h at hbody hg0 hen hUh
  have har:=im (h:Int) 40 ab ab ab ab
  rw [zO hUh] at har
  refine aR (hK10 _ ?_)
  refine go 6 ?_
  refine aj (aO _ _ aa rfl rfl _ rfl ab (by (simp only [aq,aJ,aM,bh,bc,bm,bi,bo,el,aq,List.length_map];omega)) ag) ?_
  refine aj (ej _ aa rfl rfl) (aj (bl _ aa rfl (by exact hg0) rfl) ?_)
  refine aj (ap aa al (har) rfl rfl) ?_
  refine go 8 ?_
  refine aj (bJ _ _ aa rfl rfl rfl h rfl ab (by exact congrArg (fun z=> 0+1+z) (Nat.mul_one h))) ?_
  refine aj (cY _ _ aa rfl rfl rfl rfl (show 0+1+h+1≤43 by omega) ((congrArg (fun z=> fI (Jx (.ref (60,0) 0 (bG (ons.take j) 0).length) (bK (ons.take j)) (d.length:Int) (v.length:Int)) z [.v (.int .i64 ((bG (ons.take j) 0).length:Int))]) ab).trans ((tG _ _ _ _ h ab _).trans (by rw [← hen])))) ?_
  refine am (aE ?_)
  refine az (σ':=an 79 [(1,_),(2,_),(4,_),(6,_)] [((1,0),_),((2,0),_),((60,0),_),((4,0),_)] [] []) kp ?_
  refine dA 13 [(50,0)] ?_
  refine go 12 ?_
  refine aB (_,[]) (fun τ=> aO _ _ aa rfl rfl _ rfl ab (by (simp only [aq,aJ,aM,bh,bc,bm,bi,bo,el,aq,List.length_map];omega)) ag) ?_
  refine go 3 ?_
  refine aB (_,[]) (fun τ=> bn _ aa rfl (by exact hbody) rfl) ?_
  refine go 7 ?_
  refine aB (_,[((50,0),_)]) (fun τ=> (bp aa [((0,8),(50,0))] ar (hcb.toI) trivial tr tr rfl rfl ae ae)) ?_
  refine go 1 ?_
  refine cq ⟨rfl,?_⟩
  refine aj (bI (56,0) _ _ aa rfl rfl (bo _).symm (.ref rfl (nU _) (lS _)) ab rfl (lW _ _) (show (bG (ons.take j) 0).length+C.length=(bG (ons.take j) 0++C).length by simp)) ?_
  refine go 3 ?_
  refine az (σ':=an 79 [(1,_),(2,_),(4,_),(6,_)] [((1,0),_),((2,0),_),((4,0),_),((56,0),_)] [] []) kp ?_
  refine go 5 ?_
  refine aj (bI (62,0) _ _ aa rfl rfl (bo _).symm (.sl rfl) (by simp;omega) rfl ((eY _ { op:= .stop }).trans (congrArg inl hsn.symm)) (show (bG (ons.take j) 0++C).length+1=(bG (ons.take (j+1)) 0).length by simp [hsl])) ?_
  refine go 7 ?_
  refine ax (⟨j+1,?_,?_,?_⟩)
  ·omega
  ·refine Le.mkJ [((60,0),(62,0))] [] rfl ?_ ?_ trivial trivial ?_
   ·exact ⟨(bs (id:=(1,0)) rfl),(bs (id:=(2,0)) rfl),(bs (id:=(4,0)) rfl),(bj ag),trivial⟩
   ·exact ⟨(cT rfl rfl rfl rfl (by repeat' (first | exact Lv.sl | exact aK | refine ai ?_ ?_))),(cT rfl rfl rfl rfl (by repeat' (first | exact Lv.v | exact aK | refine ai ?_ ?_))),(cL rfl rfl rfl ag),(cT rfl rfl rfl rfl lz),trivial⟩
   kernel_rfl
  omega
 obtain rfl:j=ons.length:=by omega
 rw [List.take_length]
 refine aW (id (hK8 _ ?_))
 refine go 7 ?_
 refine ay rfl (fun hc67=> ?_) (fun hc67=> ?_)
 ·have hco:kW ons≠true:=by
   unfold kW
   rw [decide_eq_false ab,Bool.false_and]
   exact Bool.false_ne_true
  rw [Fb,if_neg hco,LX,if_pos ab]
  refine go 5 ?_
  exact au (jO (.inr rfl) rfl (.cellA aa rfl rfl rfl) (.tmp kU) (Le.out [] [] (.tup rfl lz) rfl rfl rfl trivial trivial))
 have hl4:(bG ons 0).length≤400:=by omega
 refine cE (aF fun K19 hK19=> ?_)
 refine aG (cC rfl (am (aH ?_)))
 refine az (Le.frzB (4,0) 0 rfl rfl rfl rfl (ys:=inl (bG ons 0)) (by rw [List.drop_zero];exact List.take_of_length_le (by rw [bo];omega)) (by rw [bo];omega)) ?_
 refine aT (α:=Nat) (fun h=> h≤40∧ ∀ k,k < h→kY (bG ons 0) (jn (bG ons 0) (bK ons k)).1 (bG ons 0).length≤16) 79 [(2,_),(4,_)] [((2,0),_)] (fun h=> [(8, .v (.int .i64 (h:Int)))]) (fun h=> [((4,0), .box 26 [.sl (bG ons 0).length (inl (bG ons 0)), .v (.int .i64 (bK ons 0)), .v (.int .i64 (bK ons 1)), .v (.int .i64 (bK ons 2)), .v (.int .i64 (bK ons 3)), .v (.int .i64 (bK ons 4)), .v (.int .i64 (bK ons 5)), .v (.int .i64 (bK ons 6)), .v (.int .i64 (bK ons 7)), .v (.int .i64 (bK ons 8)), .v (.int .i64 (bK ons 9)), .v (.int .i64 (bK ons 10)), .v (.int .i64 (bK ons 11)), .v (.int .i64 (bK ons 12)), .v (.int .i64 (bK ons 13)), .v (.int .i64 (bK ons 14)), .v (.int .i64 (bK ons 15)), .v (.int .i64 (bK ons 16)), .v (.int .i64 (bK ons 17)), .v (.int .i64 (bK ons 18)), .v (.int .i64 (bK ons 19)), .v (.int .i64 (bK ons 20)), .v (.int .i64 (bK ons 21)), .v (.int .i64 (bK ons 22)), .v (.int .i64 (bK ons 23)), .v (.int .i64 (bK ons 24)), .v (.int .i64 (bK ons 25)), .v (.int .i64 (bK ons 26)), .v (.int .i64 (bK ons 27)), .v (.int .i64 (bK ons 28)), .v (.int .i64 (bK ons 29)), .v (.int .i64 (bK ons 30)), .v (.int .i64 (bK ons 31)), .v (.int .i64 (bK ons 32)), .v (.int .i64 (bK ons 33)), .v (.int .i64 (bK ons 34)), .v (.int .i64 (bK ons 35)), .v (.int .i64 (bK ons 36)), .v (.int .i64 (bK ons 37)), .v (.int .i64 (bK ons 38)), .v (.int .i64 (bK ons 39)), .v (.int .i64 (d.length:Int)), .v (.int .i64 (v.length:Int))])]) [] [] (fun h=> 40 - h) 0 ?_ (kj [0,1] [] []) ?_
 ·exact ⟨Nat.zero_le _,fun k hk=> absurd hk (Nat.not_lt_zero _)⟩
 intro h hh
 obtain ⟨hk,hks⟩:=hh
 refine aF fun K21 hK21=> ?_
 refine go 4 ?_
 refine ay rfl (fun hc70=> ?_) (fun hc70=> ?_)
 ·have hh4:h < 40:=by omega
  have hdm:=nz (C:=bG ons 0) (rB U.good (U.ent h)) (B:=1000000) (fun i _=> Nat.le_trans (Cq ons i) hUc) _ (Nat.le_refl _)
  have hde:=xm (bG ons 0) (bK ons) (d.length:Int) (v.length:Int) h hh4 hUc (xT ons) (d++v).length U.good (fun i=> Nat.le_trans (Cq ons i) hUc) (U.ent h)
  refine aR (hK21 _ ?_)
  refine go 5 ?_
  refine aj (ap aa al (hde) rfl rfl) ?_
  refine aj (oP _ _ rfl rfl rfl) (am (ay rfl (fun hc76=> ?_) (fun hc76=> ?_)))
  ·have hco:kW ons≠true:=fun e=> by
    unfold kW at e
    rw [Bool.and_eq_true,List.all_eq_true] at e
    have:=e.2 h (List.mem_range.2 hh4)
    rw [decide_eq_true_eq] at this
    exact absurd (show kY (bG ons 0) (jn (bG ons 0) (bK ons h)).1 (bG ons 0).length≤16 from this) ab
   rw [Fb,if_neg hco,LX,if_neg ab]
   refine go 5 ?_
   exact au (jO (.inr rfl) rfl (.cellA aa rfl rfl rfl) (.tmp kU) (Le.out [] [] (.tup rfl lz) rfl rfl rfl trivial trivial))
  refine go 5 ?_
  refine ax (⟨h+1,?_,?_,?_⟩)
  ·exact ⟨by omega,fun k hk=> (by
    rcases Nat.lt_or_ge k h with hlt | hge
    ·exact hks k hlt
    obtain rfl:k=h:=by omega
    omega)⟩
  ·exact kj [0,1] [] []
  omega
 obtain rfl:h=40:=by omega
 have hco:kW ons=true:=by
  unfold kW
  rw [Bool.and_eq_true,decide_eq_true_eq,List.all_eq_true]
  exact ⟨hl4,fun k hk=> decide_eq_true (hks k (List.mem_range.1 hk))⟩
 refine aW (id (hK19 _ ?_))
 refine go 5 ?_
 refine au ?_
 rw [Fb,if_pos hco]
 exact jO (.inr rfl) rfl (.cellA aa rfl rfl rfl) (.tmp kU) (Le.out [] [] (.tup rfl lz) rfl rfl rfl trivial trivial)
end Go.Proofs.YtmjnackchaahbaaGreat

set_option maxHeartbeats 2000000
namespace Go.Proofs.YtmjnackchaahbaaGreat
open Go.RowKit

structure ml (s:Tx) (d v:List Tx) (ons:List (Nat×Bk)):Prop extends UOk d v ons where
 p:fX s=some (d,v,xe d v ons)
 l:s.length≤3000
 wl: ∀ p∈ons,qL p.2=true
theorem Dz {s:Tx} {d v:List Tx} {ons:List (Nat×Bk)} (U:ml s d v ons) (hc:kW ons=true):
  Spec Tryz.prog 64 (aI [.v (bt s)] []) (aC (Fb d v ons) []):=by
 have h1:=qJ s U.l _ _ _ U.p
 have h2:Spec Tryz.prog 97 (aI [Kk d v (xe d v ons)] []) (aC (.v (.int .i64 0)) []):=qy d v ons U.nd U.len U.ok U.wl U.n
 have h3:=nC d v ons U.toUOk
 rw [Fb,if_pos hc] at h3 ⊢
 obtain ⟨H,hH⟩: ∃ H,H=xe d v ons:=⟨_,rfl⟩
 rw [← hH] at h1 h2 h3
 clear hH
 refine Spec.ofN Tryz.func64 rfl Tryz.ntmps64 rfl ?_
 refine go 6 ?_
 refine aj (ap aa al (h1) rfl rfl) ?_
 refine go 18 ?_
 refine aj (ap aa al (h2) rfl rfl) ?_
 refine cC rfl (am (aE (aE ?_)))
 refine az (σ':=an 32 [(2,_),(4,_),(6,_)] [((2,0),_),((4,0),_)] [] []) kp ?_
 refine go 8 ?_
 refine aj (ap aa al (h3) rfl rfl) ?_
 refine go 13 ?_
 exact au (jO (.inr rfl) rfl (.cellA aa rfl rfl rfl) (.tmp kU) (Le.out [] [] (.tup rfl lz) rfl rfl rfl trivial trivial))
theorem Er {s:Tx} {d v:List Tx} {ons:List (Nat×Bk)} (U:ml s d v ons) (hc:kW ons≠true):
  Spec Tryz.prog 64 (aI [.v (bt s)] []) (aC (Fb d v ons) []):=by
 have h1:=qJ s U.l _ _ _ U.p
 have h2:Spec Tryz.prog 97 (aI [Kk d v (xe d v ons)] []) (aC (.v (.int .i64 0)) []):=qy d v ons U.nd U.len U.ok U.wl U.n
 have h3:=nC d v ons U.toUOk
 rw [Fb,if_neg hc] at h3 ⊢
 generalize LX ons=er at h3 ⊢
 obtain ⟨H,hH⟩: ∃ H,H=xe d v ons:=⟨_,rfl⟩
 rw [← hH] at h1 h2 h3
 clear hH
 refine Spec.ofN Tryz.func64 rfl Tryz.ntmps64 rfl ?_
 refine go 6 ?_
 refine aj (ap aa al (h1) rfl rfl) ?_
 refine go 18 ?_
 refine aj (ap aa al (h2) rfl rfl) ?_
 refine cC rfl (am (aE (aE ?_)))
 refine az (σ':=an 32 [(2,_),(4,_),(6,_)] [((2,0),_),((4,0),_)] [] []) kp ?_
 refine go 8 ?_
 refine aj (ap aa al (h3) rfl rfl) ?_
 refine go 13 ?_
 exact au (jO (.inr rfl) rfl (.cellA aa rfl rfl rfl) (.tmp kU) (Le.out [] [] (.tup rfl lz) rfl rfl rfl trivial trivial))
theorem wW {s:Tx} {d v:List Tx} {ons:List (Nat×Bk)} (U:ml s d v ons):
  Spec Tryz.prog 64 (aI [.v (bt s)] []) (aC (Fb d v ons) []):=by
 by_cases hc:kW ons=true
 ·exact Dz U hc
 exact Er U hc
def durs:List (List Tx):=[DY,Ce,CF,Eg,BQ,DJ,BO,Bc,Ds,DN,vb,vN]
def vols:List (List Tx):=[EN,Cv,EF,BP,CJ,Bx,CR,ED,EW,EH,uX,uE]
def onss:List (List (Nat×Bk)):=[ons0,ons1,ons2,ons3,ons4,ons5,ons6,ons7,ons8,ons9,ons10,ons11]
theorem iJ {d v:List Tx} {ons:List (Nat×Bk)} (h:wu ons (d++v).length) (h1:(d++v).Nodup) (h2:(d++v).length≤16) (h3:(ons.all fun p=> tB p.2)=true) (h4:ons.length≤1000):UOk d v ons:=
 ⟨h1,h2,h.ok,fun p hp=> (List.all_eq_true.1 h3) p hp,h.h,by have:=h.n;omega,h4⟩
theorem KB:ml (srcs.getD 0 []) DY EN ons0:=⟨iJ srcOk0 ah ah ae ah,JE,of_decide_eq_true ae,srcOk0.wl⟩
theorem Kh:ml (srcs.getD 1 []) Ce Cv ons1:=⟨iJ srcOk1 ah ah ae ah,JG,of_decide_eq_true ae,srcOk1.wl⟩
theorem KL:ml (srcs.getD 2 []) CF EF ons2:=⟨iJ srcOk2 ah ah ae ah,Jb,of_decide_eq_true ae,srcOk2.wl⟩
theorem Kt:ml (srcs.getD 3 []) Eg BP ons3:=⟨iJ srcOk3 ah ah ae ah,Jg,of_decide_eq_true ae,srcOk3.wl⟩
theorem Li:ml (srcs.getD 4 []) BQ CJ ons4:=⟨iJ srcOk4 ah ah ae ah,JO,of_decide_eq_true ae,srcOk4.wl⟩
theorem KQ:ml (srcs.getD 5 []) DJ Bx ons5:=⟨iJ srcOk5 ah ah ae ah,Ij,of_decide_eq_true ae,srcOk5.wl⟩
theorem Kz:ml (srcs.getD 6 []) BO CR ons6:=⟨iJ srcOk6 ah ah ae ah,Jz,of_decide_eq_true ae,srcOk6.wl⟩
theorem Lk:ml (srcs.getD 7 []) Bc ED ons7:=⟨iJ srcOk7 ah ah ae ah,Ix,of_decide_eq_true ae,srcOk7.wl⟩
theorem Ki:ml (srcs.getD 8 []) Ds EW ons8:=⟨iJ srcOk8 ah ah ae ah,JH,of_decide_eq_true ae,srcOk8.wl⟩
theorem Km:ml (srcs.getD 9 []) DN EH ons9:=⟨iJ srcOk9 ah ah ae ah,JB,of_decide_eq_true ae,srcOk9.wl⟩
theorem IX:ml (srcs.getD 10 []) vb uX ons10:=⟨iJ srcOk10 ah ah ae ah,Ga,of_decide_eq_true ae,srcOk10.wl⟩
theorem IN:ml (srcs.getD 11 []) vN uE ons11:=⟨iJ srcOk11 ah ah ae ah,Gz,of_decide_eq_true ae,srcOk11.wl⟩
theorem KN (k:Nat) (hk:k < 12):ml (srcs.getD k []) (durs.getD k []) (vols.getD k []) (onss.getD k [])∧wu (onss.getD k []) (durs.getD k []++vols.getD k []).length:=by
 rcases k with _ | _ | _ | _ | _ | _ | _ | _ | _ | _ | _ | _ | k
 ·exact ⟨KB,srcOk0⟩
 ·exact ⟨Kh,srcOk1⟩
 ·exact ⟨KL,srcOk2⟩
 ·exact ⟨Kt,srcOk3⟩
 ·exact ⟨Li,srcOk4⟩
 ·exact ⟨KQ,srcOk5⟩
 ·exact ⟨Kz,srcOk6⟩
 ·exact ⟨Lk,srcOk7⟩
 ·exact ⟨Ki,srcOk8⟩
 ·exact ⟨Km,srcOk9⟩
 ·exact ⟨IX,srcOk10⟩
 ·exact ⟨IN,srcOk11⟩
 omega
theorem tO:Spec Tryz.prog 108 (aI [] []) (aC (.sl 12 (fc srcs)) []):=by
 refine Spec.ofN Tryz.func108 rfl Tryz.ntmps108 rfl ?_
 refine aG (aj (aX _ eh) (am (aG (aj (gX _ _ aa rfl ag (by (simp <;> rfl)) ah rfl) ?_))))
 exact yq rfl (am (au (cg (.inr rfl) rfl (.tmp zN) (Le.out [] [] (de rfl ae) rfl rfl rfl trivial trivial))))
theorem uF (n:Int) (h1: -9223372036854775808≤n) (h2:n≤9223372036854775807):
  Spec Tryz.prog 75 (aI [.v (.int .i64 n)] []) (aC (.v (bt (srcs.getD (da n 12).toNat []))) []):=by
 have ha:=im n 12 ab ab h1 h2
 have hlo:=gM n 12 ab
 have hhi:=jb n 12 ab
 obtain ⟨k,hk⟩: ∃ k:Nat,da n 12=(k:Int):=⟨(da n 12).toNat,by omega⟩
 rw [hk] at ha hlo hhi ⊢
 have hk2:k < srcs.length:=by rw [Dh];omega
 have hg:=jG srcs k hk2
 have hs:=tO
 rw [Int.toNat_natCast]
 generalize srcs=S at hg hs hk2
 refine Spec.ofN Tryz.func75 rfl Tryz.ntmps75 rfl ?_
 refine aG (IC rfl (am (aG (aj (ap aa (by repeat' (exact cp)) (hs) rfl rfl) ?_))))
 refine go 7 ?_
 refine aj (ap aa al (ha) rfl rfl) ?_
 refine aj (aO _ _ aa rfl rfl _ rfl ab (by (simp only [aq,aJ,aM,bh,bc,bm,bi,bo,el,aq,List.length_map];omega)) (by exact Nat.mul_one _)) ?_
 refine aj (bl _ aa rfl (by exact hg) rfl) ?_
 exact IC rfl (am (au (dU rfl rfl)))
theorem uo (n:Int) (h1: -9223372036854775808≤n) (h2:n≤9223372036854775807):
  Spec Tryz.prog 39 (aI [.v (.int .i64 n)] []) (aC (PD (durs.getD (da n 12).toNat []) (vols.getD (da n 12).toNat []) (onss.getD (da n 12).toNat [])) []):=by
 have hs:=uF n h1 h2
 have hlo:=gM n 12 ab
 have hhi:=jb n 12 ab
 obtain ⟨k,hk⟩: ∃ k:Nat,da n 12=(k:Int):=⟨(da n 12).toNat,by omega⟩
 rw [hk] at hs hlo hhi ⊢
 rw [Int.toNat_natCast] at hs ⊢
 obtain ⟨U,hS⟩:=KN k ab
 have hb:=wW U
 rw [Fb,if_pos (za hS)] at hb
 generalize srcs.getD k []=s at hs hb
 generalize durs.getD k []=d at hb ⊢
 generalize vols.getD k []=v at hb ⊢
 generalize onss.getD k []=ons at hb ⊢
 clear U hS
 refine Spec.ofN Tryz.func39 rfl Tryz.ntmps39 rfl ?_
 refine go 5 ?_
 refine aj (ap aa al (hs) rfl rfl) ?_
 refine aj (ap aa al (hb) rfl rfl) ?_
 refine go 11 ?_
 exact au (zX [])
end Go.Proofs.YtmjnackchaahbaaGreat

set_option maxHeartbeats 2000000
namespace Go.Proofs.YtmjnackchaahbaaGreat
open Go.RowKit

structure GL (L:List Int):Prop where
 n:L.length≤4611686018427387904
 r: ∀ x∈L, -9223372036854775808≤x∧x≤9223372036854775807
end Go.Proofs.YtmjnackchaahbaaGreat
