/- part 11 -/
import Derived.Test.YtmjnackchaahbaaGreatNvZ10
set_option linter.unusedSimpArgs false
set_option linter.unusedVariables false
set_option maxHeartbeats 2000000
namespace Go.Proofs.YtmjnackchaahbaaGreat
open Go.RowKit

section
variable {d v:List Tx} {no:Nat} {on:List PV}
theorem HV (n:Nat):CoS (uu d v no on) (nd 12 n [] []) (fun _=> [{ op:= .push,n:=(n:Int) }]):=fun a ha=> by
 refine Spec.ofN Tryz.func91 rfl Tryz.ntmps91 rfl ?_
 refine go 3 ?_
 refine aj (aX _ ea) (go 19 ?_)
 refine aj (gp (19,0) _ _ aa rfl ag (by (simp <;> rfl)) ah rfl rfl) ?_
 exact dZ rfl (am (au (lQ [((0,8),(19,0))])))
theorem yl (n:Nat):CoS (uu d v no on) (nd 13 n [] []) (fun _=> [{ op:= .push,n:=(n:Int) }]):=fun a ha=> by
 refine Spec.ofN Tryz.func91 rfl Tryz.ntmps91 rfl ?_
 refine go 3 ?_
 refine aj (aX _ ea) (go 22 ?_)
 refine aj (gp (19,0) _ _ aa rfl ag (by (simp <;> rfl)) ah rfl rfl) ?_
 exact dZ rfl (am (au (lQ [((0,8),(19,0))])))
theorem Je (hn:(d++v).Nodup) (hl:(d++v).length≤1000) (i:Nat) (hi:i < (d++v).length):CoS (uu d v no on) (nd 14 0 ((d++v).getD i []) []) (fun _=> [{ op:= .var,n:=(i:Int) }]):=fun a ha=> by
 refine Spec.ofN Tryz.func91 rfl Tryz.ntmps91 rfl ?_
 refine go 3 ?_
 refine aj (aX _ ea) (go 27 ?_)
 refine aj (ap aa al (mH d v on no hn hl i hi) rfl rfl) ?_
 refine go 1 ?_
 refine aj (gp (27,0) _ _ aa rfl ag (by (simp <;> rfl)) ah rfl rfl) ?_
 exact dZ rfl (am (au (lQ [((0,8),(27,0))])))
theorem Fh (k:Nat) (hk:k < 9):CoS (uu d v no on) (nd 15 0 (bltT.getD k []) []) (fun _=> [{ op:= .name,n:=(k:Int) }]):=fun a ha=> by
 refine Spec.ofN Tryz.func91 rfl Tryz.ntmps91 rfl ?_
 refine go 3 ?_
 refine aj (aX _ ea) (go 28 ?_)
 refine aE ?_
 refine aB (σ':=an 211 [(4,_)] [((4,0),_)] [] []) kp ?_
 refine dA 6 [(35,0)] ?_
 refine aC (_,[]) (fun τ=> (ap aa (by repeat' (exact bR)) (pj) rfl rfl)) ?_
 refine go 5 ?_
 refine aC (_,[]) (fun τ=> (ap aa al (yz bltT 9 rfl ab ah k hk) rfl rfl)) ?_
 refine go 3 ?_
 refine aC (_,[((35,0),_)]) (fun τ=> gp (35,0) _ _ aa rfl ag (by (simp <;> rfl)) ah rfl rfl) ?_
 refine go 4 ?_
 exact au (lQ [((0,8),(35,0))])
theorem Dm (n:Nat):CoS (uu d v no on) (nd 5 n [] []) (fun _=> [{ op:= .timer,n:=(n:Int) }]):=fun a ha=> by
 refine Spec.ofN Tryz.func91 rfl Tryz.ntmps91 rfl ?_
 refine go 3 ?_
 refine aj (aX _ ea) (go 33 ?_)
 refine aE ?_
 refine aB (σ':=an 211 [(2,_),(3,_),(4,_),(12,_)] [((3,0),_),((4,0),_)] [] []) kp ?_
 refine go 9 ?_
 refine aj (gp (56,0) _ _ aa rfl ag (by (simp <;> rfl)) ah rfl rfl) ?_
 exact dZ rfl (am (au (lQ [((0,8),(56,0))])))
theorem yB (n:Nat):CoS (uu d v no on) (nd 6 n [] []) (fun _=> [{ op:= .cancel,n:=(n:Int) }]):=fun a ha=> by
 refine Spec.ofN Tryz.func91 rfl Tryz.ntmps91 rfl ?_
 refine go 3 ?_
 refine aj (aX _ ea) (go 33 ?_)
 refine aE ?_
 refine aB (σ':=an 211 [(2,_),(3,_),(4,_),(12,_)] [((3,0),_),((4,0),_)] [] []) kp ?_
 refine go 14 ?_
 refine aj (gp (62,0) _ _ aa rfl ag (by (simp <;> rfl)) ah rfl rfl) ?_
 exact dZ rfl (am (au (lQ [((0,8),(62,0))])))
theorem co_sync:CoS (uu d v no on) (nd 7 0 [] []) (fun _=> [{ op:= .sync }]):=fun a ha=> by
 refine Spec.ofN Tryz.func91 rfl Tryz.ntmps91 rfl ?_
 refine go 3 ?_
 refine aj (aX _ ea) (go 33 ?_)
 refine aE ?_
 refine aB (σ':=an 211 [(2,_),(3,_),(4,_),(12,_)] [((3,0),_),((4,0),_)] [] []) kp ?_
 refine go 17 ?_
 refine aj (gp (66,0) _ _ aa rfl ag (by (simp <;> rfl)) ah rfl rfl) ?_
 exact dZ rfl (am (au (lQ [((0,8),(66,0))])))
theorem co_stop:CoS (uu d v no on) (nd 10 0 [] []) (fun _=> [{ op:= .stop }]):=fun a ha=> by
 refine Spec.ofN Tryz.func91 rfl Tryz.ntmps91 rfl ?_
 refine go 3 ?_
 refine aj (aX _ ea) (go 33 ?_)
 refine aE ?_
 refine aB (σ':=an 211 [(2,_),(3,_),(4,_),(12,_)] [((3,0),_),((4,0),_)] [] []) kp ?_
 refine go 22 ?_
 refine aj (gp (70,0) _ _ aa rfl ag (by (simp <;> rfl)) ah rfl rfl) ?_
 exact dZ rfl (am (au (lQ [((0,8),(70,0))])))
theorem HT {c y z:Nd} {cc cy cz:Cd} (hc:CoS (uu d v no on) c cc) (hy:CoS (uu d v no on) y cy) (hz:CoS (uu d v no on) z cz):CoS (uu d v no on) (nd 2 0 [] [c,y,z]) (Hr cc cy cz):=fun a ha=> by
 have hb:=lH (on:=on) c cc cy cz hc 1 1 (mw [y]) (mw [z]) 0 (fun a ha=> pF y cy hy 0 a ha) (fun a ha=> pF z cz hz 0 a ha) a ha
 refine Spec.ofN Tryz.func91 rfl Tryz.ntmps91 rfl ?_
 refine go 3 ?_
 refine aj (aX _ ea) (go 33 ?_)
 refine aE ?_
 refine aB (σ':=an 211 [(2,_),(3,_),(4,_)] [((3,0),_),((4,0),_)] [] []) kp ?_
 refine dA 12 [] ?_
 refine go 6 ?_
 refine aC (_,[]) (fun τ=> aQ _ _ aa rfl rfl 0 rfl (show 0 < 3 by omega) (Nat.le_of_ble_eq_true rfl) rfl) ?_
 refine go 1 ?_
 refine aC (_,[]) (fun τ=> bs _ aa rfl (by exact cm [c,y,z] 0 (by simp)) rfl) ?_
 refine go 5 ?_
 refine aC (_,[]) (fun τ=> gA _ _ _ aa rfl 1 2 (.lit rfl rfl) (.lit rfl rfl) ab (show 2≤3 by omega) (show _=mw [y] from rfl) rfl) ?_
 refine go 5 ?_
 refine aC (_,[]) (fun τ=> gA _ _ _ aa rfl 2 3 (.lit rfl rfl) (.lit rfl rfl) ab (show 3≤3 by omega) (show _=mw [z] from rfl) rfl) ?_
 refine go 4 ?_
 refine aj (bM aa [((0,8),(50,0))] ar (hb.toI) trivial tr ae) ?_
 exact dZ rfl (am (au (lQ [((0,8),(50,0))])))
theorem IX {c y:Nd} {cc cy:Cd} (hc:CoS (uu d v no on) c cc) (hy:CoS (uu d v no on) y cy):CoS (uu d v no on) (nd 18 0 [38,38] [c,y]) (Hr cc cy (fun _=> [{ op:= .push,n:=0 }])):=fun a ha=> by
 have hb:=lH (on:=on) c cc cy (fun _=> [{ op:= .push,n:=0 }]) hc 1 0 (mw [y]) [] 0 (fun a ha=> pF y cy hy 0 a ha) (fun a _=> uN 0 a) a ha
 refine Spec.ofN Tryz.func91 rfl Tryz.ntmps91 rfl ?_
 refine go 3 ?_
 refine aj (aX _ ea) (go 33 ?_)
 refine aE ?_
 refine aB (σ':=an 211 [(2,_),(3,_),(4,_),(12,_)] [((3,0),_),((4,0),_)] [] []) kp ?_
 refine go 38 ?_
 refine aE ?_
 refine aB (σ':=an 211 [(2,_),(3,_),(4,_)] [((3,0),_),((4,0),_)] [] []) kp ?_
 refine dA 9 [] ?_
 refine go 6 ?_
 refine aC (_,[]) (fun τ=> aQ _ _ aa rfl rfl 0 rfl (show 0 < 2 by omega) (Nat.le_of_ble_eq_true rfl) rfl) ?_
 refine go 1 ?_
 refine aC (_,[]) (fun τ=> bs _ aa rfl (by exact cm [c,y] 0 (by simp)) rfl) ?_
 refine go 5 ?_
 refine aC (_,[]) (fun τ=> gA _ _ _ aa rfl 1 2 (.lit rfl rfl) (.lit rfl rfl) ab (show 2≤2 by omega) (show _=mw [y] from rfl) rfl) ?_
 refine go 4 ?_
 refine aj (bM aa [((0,8),(50,0))] ar (hb.toI) trivial tr ae) ?_
 exact dZ rfl (am (au (lQ [((0,8),(50,0))])))
theorem KB {c y:Nd} {cc cy:Cd} (hc:CoS (uu d v no on) c cc) (hy:CoS (uu d v no on) y cy):CoS (uu d v no on) (nd 18 0 [124,124] [c,y]) (Hr cc (fun _=> [{ op:= .push,n:=1 }]) cy):=fun a ha=> by
 have hb:=lH (on:=on) c cc (fun _=> [{ op:= .push,n:=1 }]) cy hc 0 1 [] (mw [y]) 1 (fun a _=> uN 1 a) (fun a ha=> pF y cy hy 1 a ha) a ha
 refine Spec.ofN Tryz.func91 rfl Tryz.ntmps91 rfl ?_
 refine go 3 ?_
 refine aj (aX _ ea) (go 33 ?_)
 refine aE ?_
 refine aB (σ':=an 211 [(2,_),(3,_),(4,_),(12,_)] [((3,0),_),((4,0),_)] [] []) kp ?_
 refine go 40 ?_
 refine aE ?_
 refine aB (σ':=an 211 [(2,_),(3,_),(4,_)] [((3,0),_),((4,0),_)] [] []) kp ?_
 refine go 11 ?_
 refine aE ?_
 refine aB (σ':=an 211 [(2,_),(3,_),(4,_)] [((3,0),_),((4,0),_)] [] []) kp ?_
 refine dA 9 [] ?_
 refine go 6 ?_
 refine aC (_,[]) (fun τ=> aQ _ _ aa rfl rfl 0 rfl (show 0 < 2 by omega) (Nat.le_of_ble_eq_true rfl) rfl) ?_
 refine go 1 ?_
 refine aC (_,[]) (fun τ=> bs _ aa rfl (by exact cm [c,y] 0 (by simp)) rfl) ?_
 refine go 5 ?_
 refine aC (_,[]) (fun τ=> gA _ _ _ aa rfl 1 2 (.lit rfl rfl) (.lit rfl rfl) ab (show 2≤2 by omega) (show _=mw [y] from rfl) rfl) ?_
 refine go 4 ?_
 refine aj (bM aa [((0,8),(50,0))] ar (hb.toI) trivial tr ae) ?_
 exact dZ rfl (am (au (lQ [((0,8),(50,0))])))
theorem Gl {L:List Nd} {cs:List Cd} (hc:cs.length=L.length) (hk:mK (uu d v no on) L cs):CoS (uu d v no on) (nd 16 0 [] L) (fun a=> cB cs a++[{ op:= .draw }]):=fun a ha=> by
 have hl2:a+(cB cs a).length≤1000000:=by simp only [List.length_append] at ha;omega
 have hq:=di (d:=d) (v:=v) (no:=no) (on:=on) L cs hc hk a hl2
 refine Spec.ofN Tryz.func91 rfl Tryz.ntmps91 rfl ?_
 refine go 3 ?_
 refine aj (aX _ ea) (go 33 ?_)
 refine aE ?_
 refine aB (σ':=an 211 [(2,_),(3,_),(4,_),(12,_)] [((3,0),_),((4,0),_)] [] []) kp ?_
 refine go 40 ?_
 refine aE ?_
 refine aB (σ':=an 211 [(2,_),(3,_),(4,_)] [((3,0),_),((4,0),_)] [] []) kp ?_
 refine go 17 ?_
 refine aj (bM aa [((0,8),(50,0))] ar (hq.toI) trivial tr ae) ?_
 refine go 8 ?_
 refine aE ?_
 refine aB (σ':=an 211 [(3,_),(4,_),(10,_),(153,_)] [((3,0),_),((4,0),_),((50,0),_)] [] []) kp ?_
 refine go 14 ?_
 refine aj (bG (166,0) _ _ aa rfl rfl (bm _).symm (.sl rfl) ab rfl (eQ _ { op:= .draw }) (show (cB cs a).length+1=(cB cs a++[({ op:= .draw }:et)]).length by simp)) ?_
 exact dZ rfl (am (au (lQ [((0,8),(166,0))])))
theorem IG {L:List Nd} {cs:List Cd} (hc:cs.length=L.length) (hk:mK (uu d v no on) L cs):CoS (uu d v no on) (nd 17 0 [45] L) (fun a=> cB cs a++[{ op:= .neg }]):=fun a ha=> by
 have hl2:a+(cB cs a).length≤1000000:=by simp only [List.length_append] at ha;omega
 have hq:=di (d:=d) (v:=v) (no:=no) (on:=on) L cs hc hk a hl2
 refine Spec.ofN Tryz.func91 rfl Tryz.ntmps91 rfl ?_
 refine go 3 ?_
 refine aj (aX _ ea) (go 33 ?_)
 refine aE ?_
 refine aB (σ':=an 211 [(2,_),(3,_),(4,_),(12,_)] [((3,0),_),((4,0),_)] [] []) kp ?_
 refine go 40 ?_
 refine aE ?_
 refine aB (σ':=an 211 [(2,_),(3,_),(4,_)] [((3,0),_),((4,0),_)] [] []) kp ?_
 refine go 17 ?_
 refine aj (bM aa [((0,8),(50,0))] ar (hq.toI) trivial tr ae) ?_
 refine go 8 ?_
 refine aE ?_
 refine aB (σ':=an 211 [(3,_),(4,_),(10,_),(153,_)] [((3,0),_),((4,0),_),((50,0),_)] [] []) kp ?_
 refine go 26 ?_
 refine aj (bG (175,0) _ _ aa rfl rfl (bm _).symm (.sl rfl) ab rfl (eQ _ { op:= .neg }) (show (cB cs a).length+1=(cB cs a++[({ op:= .neg }:et)]).length by simp)) ?_
 exact dZ rfl (am (au (lQ [((0,8),(175,0))])))
theorem Iu {L:List Nd} {cs:List Cd} (hc:cs.length=L.length) (hk:mK (uu d v no on) L cs):CoS (uu d v no on) (nd 17 0 [33] L) (fun a=> cB cs a++[{ op:= .not }]):=fun a ha=> by
 have hl2:a+(cB cs a).length≤1000000:=by simp only [List.length_append] at ha;omega
 have hq:=di (d:=d) (v:=v) (no:=no) (on:=on) L cs hc hk a hl2
 refine Spec.ofN Tryz.func91 rfl Tryz.ntmps91 rfl ?_
 refine go 3 ?_
 refine aj (aX _ ea) (go 33 ?_)
 refine aE ?_
 refine aB (σ':=an 211 [(2,_),(3,_),(4,_),(12,_)] [((3,0),_),((4,0),_)] [] []) kp ?_
 refine go 40 ?_
 refine aE ?_
 refine aB (σ':=an 211 [(2,_),(3,_),(4,_)] [((3,0),_),((4,0),_)] [] []) kp ?_
 refine go 17 ?_
 refine aj (bM aa [((0,8),(50,0))] ar (hq.toI) trivial tr ae) ?_
 refine go 8 ?_
 refine aE ?_
 refine aB (σ':=an 211 [(3,_),(4,_),(10,_),(153,_)] [((3,0),_),((4,0),_),((50,0),_)] [] []) kp ?_
 refine go 27 ?_
 refine aj (bG (179,0) _ _ aa rfl rfl (bm _).symm (.sl rfl) ab rfl (eQ _ { op:= .not }) (show (cB cs a).length+1=(cB cs a++[({ op:= .not }:et)]).length by simp)) ?_
 exact dZ rfl (am (au (lQ [((0,8),(179,0))])))
theorem zH {L:List Nd} {cs:List Cd} (hc:cs.length=L.length) (hk:mK (uu d v no on) L cs) (hn:(d++v).Nodup) (hl:(d++v).length≤1000) (i:Nat) (hi:i < (d++v).length):CoS (uu d v no on) (nd 1 0 ((d++v).getD i []) L) (fun a=> cB cs a++[{ op:= .setVar,n:=(i:Int) }]):=fun a ha=> by
 have hl2:a+(cB cs a).length≤1000000:=by simp only [List.length_append] at ha;omega
 have hq:=di (d:=d) (v:=v) (no:=no) (on:=on) L cs hc hk a hl2
 refine Spec.ofN Tryz.func91 rfl Tryz.ntmps91 rfl ?_
 refine go 3 ?_
 refine aj (aX _ ea) (go 33 ?_)
 refine aE ?_
 refine aB (σ':=an 211 [(2,_),(3,_),(4,_),(12,_)] [((3,0),_),((4,0),_)] [] []) kp ?_
 refine go 40 ?_
 refine aE ?_
 refine aB (σ':=an 211 [(2,_),(3,_),(4,_)] [((3,0),_),((4,0),_)] [] []) kp ?_
 refine go 17 ?_
 refine aj (bM aa [((0,8),(50,0))] ar (hq.toI) trivial tr ae) ?_
 refine go 8 ?_
 refine aE ?_
 refine aB (σ':=an 211 [(3,_),(4,_),(10,_),(153,_)] [((3,0),_),((4,0),_),((50,0),_)] [] []) kp ?_
 refine go 25 ?_
 refine aj (ap aa al (mH d v on no hn hl i hi) rfl rfl) ?_
 refine go 2 ?_
 refine aj (bG (189,0) _ _ aa rfl rfl (bm _).symm (.sl rfl) ab rfl (eQ _ { op:= .setVar,n:=(i:Int) }) (show (cB cs a).length+1=(cB cs a++[({ op:= .setVar,n:=(i:Int) }:et)]).length by simp)) ?_
 exact dZ rfl (am (au (lQ [((0,8),(189,0))])))
theorem FE {L:List Nd} {cs:List Cd} (hc:cs.length=L.length) (hk:mK (uu d v no on) L cs) (n:Nat):CoS (uu d v no on) (nd 4 n [] L) (fun a=> cB cs a++[{ op:= .send,n:=(n:Int) }]):=fun a ha=> by
 have hl2:a+(cB cs a).length≤1000000:=by simp only [List.length_append] at ha;omega
 have hq:=di (d:=d) (v:=v) (no:=no) (on:=on) L cs hc hk a hl2
 refine Spec.ofN Tryz.func91 rfl Tryz.ntmps91 rfl ?_
 refine go 3 ?_
 refine aj (aX _ ea) (go 33 ?_)
 refine aE ?_
 refine aB (σ':=an 211 [(2,_),(3,_),(4,_),(12,_)] [((3,0),_),((4,0),_)] [] []) kp ?_
 refine go 40 ?_
 refine aE ?_
 refine aB (σ':=an 211 [(2,_),(3,_),(4,_)] [((3,0),_),((4,0),_)] [] []) kp ?_
 refine go 17 ?_
 refine aj (bM aa [((0,8),(50,0))] ar (hq.toI) trivial tr ae) ?_
 refine go 8 ?_
 refine aE ?_
 refine aB (σ':=an 211 [(3,_),(4,_),(10,_),(153,_)] [((3,0),_),((4,0),_),((50,0),_)] [] []) kp ?_
 refine go 31 ?_
 refine aj (bG (197,0) _ _ aa rfl rfl (bm _).symm (.sl rfl) ab rfl (eQ _ { op:= .send,n:=(n:Int) }) (show (cB cs a).length+1=(cB cs a++[({ op:= .send,n:=(n:Int) }:et)]).length by simp)) ?_
 exact dZ rfl (am (au (lQ [((0,8),(197,0))])))
theorem Bh {L:List Nd} {cs:List Cd} (hc:cs.length=L.length) (hk:mK (uu d v no on) L cs):CoS (uu d v no on) (nd 8 0 [] L) (fun a=> cB cs a++[{ op:= .reply }]):=fun a ha=> by
 have hl2:a+(cB cs a).length≤1000000:=by simp only [List.length_append] at ha;omega
 have hq:=di (d:=d) (v:=v) (no:=no) (on:=on) L cs hc hk a hl2
 refine Spec.ofN Tryz.func91 rfl Tryz.ntmps91 rfl ?_
 refine go 3 ?_
 refine aj (aX _ ea) (go 33 ?_)
 refine aE ?_
 refine aB (σ':=an 211 [(2,_),(3,_),(4,_),(12,_)] [((3,0),_),((4,0),_)] [] []) kp ?_
 refine go 40 ?_
 refine aE ?_
 refine aB (σ':=an 211 [(2,_),(3,_),(4,_)] [((3,0),_),((4,0),_)] [] []) kp ?_
 refine go 17 ?_
 refine aj (bM aa [((0,8),(50,0))] ar (hq.toI) trivial tr ae) ?_
 refine go 8 ?_
 refine aE ?_
 refine aB (σ':=an 211 [(3,_),(4,_),(10,_),(153,_)] [((3,0),_),((4,0),_),((50,0),_)] [] []) kp ?_
 refine go 34 ?_
 refine aj (bG (203,0) _ _ aa rfl rfl (bm _).symm (.sl rfl) ab rfl (eQ _ { op:= .reply }) (show (cB cs a).length+1=(cB cs a++[({ op:= .reply }:et)]).length by simp)) ?_
 exact dZ rfl (am (au (lQ [((0,8),(203,0))])))
theorem EQ {L:List Nd} {cs:List Cd} (hc:cs.length=L.length) (hk:mK (uu d v no on) L cs):CoS (uu d v no on) (nd 9 0 [] L) (fun a=> cB cs a++[{ op:= .fail }]):=fun a ha=> by
 have hl2:a+(cB cs a).length≤1000000:=by simp only [List.length_append] at ha;omega
 have hq:=di (d:=d) (v:=v) (no:=no) (on:=on) L cs hc hk a hl2
 refine Spec.ofN Tryz.func91 rfl Tryz.ntmps91 rfl ?_
 refine go 3 ?_
 refine aj (aX _ ea) (go 33 ?_)
 refine aE ?_
 refine aB (σ':=an 211 [(2,_),(3,_),(4,_),(12,_)] [((3,0),_),((4,0),_)] [] []) kp ?_
 refine go 40 ?_
 refine aE ?_
 refine aB (σ':=an 211 [(2,_),(3,_),(4,_)] [((3,0),_),((4,0),_)] [] []) kp ?_
 refine go 17 ?_
 refine aj (bM aa [((0,8),(50,0))] ar (hq.toI) trivial tr ae) ?_
 refine go 8 ?_
 refine aE ?_
 refine aB (σ':=an 211 [(3,_),(4,_),(10,_),(153,_)] [((3,0),_),((4,0),_),((50,0),_)] [] []) kp ?_
 refine go 39 ?_
 refine aj (bG (209,0) _ _ aa rfl rfl (bm _).symm (.sl rfl) ab rfl (eQ _ { op:= .fail }) (show (cB cs a).length+1=(cB cs a++[({ op:= .fail }:et)]).length by simp)) ?_
 exact dZ rfl (am (au (lQ [((0,8),(209,0))])))
theorem DR {L:List Nd} {cs:List Cd} (hc:cs.length=L.length) (hk:mK (uu d v no on) L cs):CoS (uu d v no on) (nd 11 0 [] L) (fun a=> cB cs a):=fun a ha=> by
 have hl2:a+(cB cs a).length≤1000000:=ha
 have hq:=di (d:=d) (v:=v) (no:=no) (on:=on) L cs hc hk a hl2
 refine Spec.ofN Tryz.func91 rfl Tryz.ntmps91 rfl ?_
 refine go 3 ?_
 refine aj (aX _ ea) (go 33 ?_)
 refine aE ?_
 refine aB (σ':=an 211 [(2,_),(3,_),(4,_),(12,_)] [((3,0),_),((4,0),_)] [] []) kp ?_
 refine go 40 ?_
 refine aE ?_
 refine aB (σ':=an 211 [(2,_),(3,_),(4,_)] [((3,0),_),((4,0),_)] [] []) kp ?_
 refine go 17 ?_
 refine aj (bM aa [((0,8),(50,0))] ar (hq.toI) trivial tr ae) ?_
 refine go 8 ?_
 refine aE ?_
 refine aB (σ':=an 211 [(3,_),(4,_),(10,_),(153,_)] [((3,0),_),((4,0),_),((50,0),_)] [] []) kp ?_
 refine go 40 ?_
 exact au (lQ [((0,8),(50,0))])
theorem Jg {L:List Nd} {cs:List Cd} (hc:cs.length=L.length) (hk:mK (uu d v no on) L cs) (o:Bo):CoS (uu d v no on) (nd 18 0 o.txt L) (fun a=> cB cs a++o.code):=fun a ha=> by
 have hol:o.code.length≤2:=by cases o <;> decide
 have hs1:o.txt≠[38,38]:=by cases o <;> decide
 have hs2:o.txt≠[124,124]:=by cases o <;> decide
 have hl2:a+(cB cs a).length≤1000000:=by simp only [List.length_append] at ha;omega
 have hq:=di (d:=d) (v:=v) (no:=no) (on:=on) L cs hc hk a hl2
 refine Spec.ofN Tryz.func91 rfl Tryz.ntmps91 rfl ?_
 refine go 3 ?_
 refine aj (aX _ ea) (go 33 ?_)
 refine aE ?_
 refine aB (σ':=an 211 [(2,_),(3,_),(4,_),(12,_)] [((3,0),_),((4,0),_)] [] []) kp ?_
 refine go 34 ?_
 refine aZ rfl rfl (cW (r:=false) _ _ Tryz.underlying9 rfl rfl (beq_eq_false_iff_ne.2 hs1)) ?_
 refine go 5 ?_
 refine aE ?_
 refine aB (σ':=an 211 [(2,_),(3,_),(4,_)] [((3,0),_),((4,0),_)] [] []) kp ?_
 refine go 7 ?_
 refine aZ rfl rfl (cW (r:=false) _ _ Tryz.underlying9 rfl rfl (beq_eq_false_iff_ne.2 hs2)) ?_
 refine go 9 ?_
 refine aj (bM aa [((0,8),(50,0))] ar (hq.toI) trivial tr ae) ?_
 refine go 8 ?_
 refine aE ?_
 refine aB (σ':=an 211 [(3,_),(4,_),(10,_),(153,_)] [((3,0),_),((4,0),_),((50,0),_)] [] []) kp ?_
 refine go 9 ?_
 refine aj (ap aa al (zL o) rfl rfl) ?_
 refine aj (bG (160,0) _ _ aa rfl rfl (bm _).symm (.sl (bm _)) ab rfl (lP _ _) (show (cB cs a).length+o.code.length=(cB cs a++o.code).length by simp)) ?_
 exact dZ rfl (am (au (lQ [((0,8),(160,0))])))
def Od (c y:Cd) (a:Nat):List et:=c a++[{ op:= .unl,n:=((a+(c a).length+(y (a+(c a).length+1)).length+2:Nat):Int) }]++y (a+(c a).length+1)++[{ op:= .jump,n:=(a:Int) }]
theorem AS {c y:Nd} {cc cy:Cd} (hc:CoS (uu d v no on) c cc) (hy:CoS (uu d v no on) y cy):CoS (uu d v no on) (nd 3 0 [] [c,y]) (Od cc cy):=fun a ha=> by
 obtain ⟨b,hb⟩: ∃ b,b=Od cc cy a:=⟨_,rfl⟩
 rw [← hb] at ha ⊢
 unfold Od at hb
 have hbl:=congrArg List.length hb
 simp only [List.length_append,List.length_cons,List.length_nil] at hbl
 have h1:=hc a ab
 generalize cc a=C at h1 hb hbl
 have h2:=hy (a+C.length+1) ab
 generalize cy (a+C.length+1)=Y at h2 hb hbl
 refine Spec.ofN Tryz.func91 rfl Tryz.ntmps91 rfl ?_
 refine go 3 ?_
 refine aj (aX _ ea) (go 33 ?_)
 refine aE ?_
 refine aB (σ':=an 211 [(2,_),(3,_),(4,_),(12,_)] [((3,0),_),((4,0),_)] [] []) kp ?_
 refine go 25 ?_
 refine aE ?_
 refine aB (σ':=an 211 [(2,_),(3,_),(4,_)] [((3,0),_),((4,0),_)] [] []) kp ?_
 refine dA 6 [] ?_
 refine go 6 ?_
 refine aC (_,[]) (fun τ=> aQ _ _ aa rfl rfl 0 rfl (show 0 < 2 by omega) (Nat.le_of_ble_eq_true rfl) rfl) ?_
 refine go 1 ?_
 refine aC (_,[]) (fun τ=> bs _ aa rfl (by exact cm [c,y] 0 (by simp)) rfl) ?_
 refine go 4 ?_
 refine aj (bM aa [((0,8),(50,0))] ar (h1.toI) trivial tr ae) ?_
 refine dZ rfl (am (aF fun K15 hK15=> ?_))
 refine aB (σ':=an 211 [(2,_),(3,_),(4,_),(7,_)] [((3,0),_),((4,0),_),((50,0),_)] [] []) kp ?_
 refine dA 10 [] ?_
 refine go 6 ?_
 refine aC (_,[]) (fun τ=> aQ _ _ aa rfl rfl 1 rfl (show 1 < 2 by omega) (Nat.le_of_ble_eq_true rfl) rfl) ?_
 refine go 1 ?_
 refine aC (_,[]) (fun τ=> bs _ aa rfl (by exact cm [c,y] 1 (by simp)) rfl) ?_
 refine go 12 ?_
 refine aj (bM aa [((0,8),(51,0))] ar (h2.toI) trivial tr ae) ?_
 refine dZ rfl (ay (hK15 _ ?_))
 refine go 9 ?_
 refine aj (eI (r:=((a+C.length+Y.length+2:Nat):Int)) _ _ rfl rfl ((bQ ab).trans ab)) ?_
 refine go 2 ?_
 refine aj (bG (102,0) _ _ aa rfl rfl (bm _).symm (.sl rfl) ab rfl (eQ _ { op:= .unl,n:=((a+C.length+Y.length+2:Nat):Int) }) (show C.length+1=(C++[({ op:= .unl,n:=((a+C.length+Y.length+2:Nat):Int) }:et)]).length by simp)) ?_
 refine dZ rfl (am (aE ?_))
 refine aB (σ':=an 211 [(2,_),(8,_),(9,_)] [((51,0),_),((102,0),_)] [] []) kp ?_
 refine aD (ij rfl (ij rfl (aj (bG (105,0) _ _ aa rfl rfl (bm _).symm (.ref rfl (nG _) (lq _)) (by simp;omega) rfl (lP _ _) (show (C++[({ op:= .unl,n:=((a+C.length+Y.length+2:Nat):Int) }:et)]).length+Y.length=(C++[({ op:= .unl,n:=((a+C.length+Y.length+2:Nat):Int) }:et)]++Y).length by simp;omega)) ?_)))
 refine go 7 ?_
 refine aj (bG (110,0) _ _ aa rfl rfl (bm _).symm (.sl rfl) (by simp;omega) rfl ((eQ _ { op:= .jump,n:=(a:Int) }).trans (congrArg inl hb.symm)) (show _+1=b.length by simp;omega)) ?_
 exact dZ rfl (am (au (lQ [((0,8),(110,0))])))
end
end Go.Proofs.YtmjnackchaahbaaGreat

set_option maxHeartbeats 2000000
namespace Go.Proofs.YtmjnackchaahbaaGreat
open Go.RowKit

def jp:Ex→Bool
 | .int n=> decide (0≤n) | .bool _=> true | .var _=> true | .name _=> true
 | .draw e=> jp e | .neg e=> jp e | .not e=> jp e
 | .bin _ a b=> jp a && jp b
 | .and a b=> jp a && jp b
 | .or a b=> jp a && jp b
mutual
def yY:Sm→Bool
 | .assign _ e=> jp e
 | .send t _ a b=> jp t && jp a && jp b
 | .timer _=> true | .cancel _=> true | .sync=> true | .stop=> true
 | .reply a b=> jp a && jp b
 | .fail e=> jp e
 | .loop c b=> jp c && sS b
 | .ite c a b=> jp c && sS a && sS b
def sS:Bk→Bool
 | .nil=> true
 | .cons s b=> yY s && sS b
end
section
variable {d v:List Tx} {no:Nat} {on:List PV}
abbrev KY (d v:List Tx) (no:Nat) (on:List PV) (N:Nd) (c:Cd):Prop:=CoS (uu d v no on) N c
theorem CoS.cong {u:AV} {N:Nd} {c c':Cd} (h:CoS u N c) (e: ∀ a,c a=c' a):CoS u N c':=by
 rw [show c'=c from funext fun a=> (e a).symm];exact h
theorem dR (hn:(d++v).Nodup) (hl:(d++v).length≤1000): ∀ e:Ex,gJ (d++v).length e→jp e=true→KY d v no on (eo (d++v) e) (bi e)
 | .int n,_,hp=> by
  have hp:=of_decide_eq_true hp
  have:=HV (d:=d) (v:=v) (no:=no) (on:=on) n.toNat
  exact this.cong fun a=> by rw [Int.toNat_of_nonneg hp];rfl
 | .bool b,_,_=> by
  cases b
  ·exact yl 0
  exact yl 1
 | .var i,h,_=> Je hn hl i h
 | .name k,h,_=> Fh k h
 | .draw e,h,hp=> (Gl rfl (zo (dR hn hl e h hp) EV)).cong fun a=> by simp [bi,cB]
 | .neg e,h,hp=> (IG rfl (zo (dR hn hl e h hp) EV)).cong fun a=> by simp [bi,cB]
 | .not e,h,hp=> (Iu rfl (zo (dR hn hl e h hp) EV)).cong fun a=> by simp [bi,cB]
 | .bin o x y,h,hp=> by
  simp only [jp,Bool.and_eq_true] at hp
  exact (Jg rfl (zo (dR hn hl x h.1 hp.1) (zo (dR hn hl y h.2 hp.2) EV)) o).cong fun a=> by simp [bi,cB]
 | .and x y,h,hp=> by
  simp only [jp,Bool.and_eq_true] at hp
  exact (IX (dR hn hl x h.1 hp.1) (dR hn hl y h.2 hp.2)).cong fun a=> rfl
 | .or x y,h,hp=> by
  simp only [jp,Bool.and_eq_true] at hp
  exact (KB (dR hn hl x h.1 hp.1) (dR hn hl y h.2 hp.2)).cong fun a=> rfl
def FN:Bk→List Cd
 | .nil=> []
 | .cons s b=> cR s::FN b
theorem xX (nm:List Tx): ∀ b:Bk,(FN b).length=(ix nm b).length
 | .nil=> by simp [FN,ix]
 | .cons s b=> by simp [FN,ix,xX nm b]
theorem xW: ∀ (b:Bk) (a:Nat),cB (FN b) a=dv b a
 | .nil,a=> by simp [FN,cB,dv]
 | .cons s b,a=> by simp only [FN,cB,dv,xW b]
theorem mS {b:Bk} (h:mK (uu d v no on) (ix (d++v) b) (FN b)):KY d v no on (iy (d++v) b) (dv b):=(DR (xX _ b) h).cong (xW b)
mutual
theorem FD (hn:(d++v).Nodup) (hl:(d++v).length≤1000): ∀ s:Sm,fW (d++v).length s→yY s=true→KY d v no on (EX (d++v) s) (cR s)
 | .assign i e,h,hp=> by rw [fW] at h;exact (zH rfl (zo (dR hn hl e h.2 hp) EV) hn hl i h.1).cong fun a=> by simp [cR,cB]
 | .send t k x y,h,hp=> by
  rw [fW] at h
  simp only [yY,Bool.and_eq_true] at hp
  exact (FE rfl (zo (dR hn hl t h.2.1 hp.1.1) (zo (dR hn hl x h.2.2.1 hp.1.2) (zo (dR hn hl y h.2.2.2 hp.2) EV))) k).cong fun a=> by simp [cR,cB,Nat.add_assoc]
 | .timer k,_,_=> (Dm k).cong fun a=> by rw [cR]
 | .cancel k,_,_=> (yB k).cong fun a=> by rw [cR]
 | .sync,_,_=> co_sync.cong fun a=> by rw [cR]
 | .stop,_,_=> co_stop.cong fun a=> by rw [cR]
 | .reply x y,h,hp=> by
  rw [fW] at h
  simp only [yY,Bool.and_eq_true] at hp
  exact (Bh rfl (zo (dR hn hl x h.1 hp.1) (zo (dR hn hl y h.2 hp.2) EV))).cong fun a=> by simp [cR,cB]
 | .fail e,h,hp=> by rw [fW] at h;exact (EQ rfl (zo (dR hn hl e h hp) EV)).cong fun a=> by simp [cR,cB]
 | .loop c b,h,hp=> by
  rw [fW] at h
  simp only [yY,Bool.and_eq_true] at hp
  exact (AS (dR hn hl c h.1 hp.1) (mS (nf hn hl b h.2 hp.2))).cong fun a=> by rw [cR];rfl
 | .ite c x y,h,hp=> by
  rw [fW] at h
  simp only [yY,Bool.and_eq_true] at hp
  exact (HT (dR hn hl c h.1 hp.1.1) (mS (nf hn hl x h.2.1 hp.1.2)) (mS (nf hn hl y h.2.2 hp.2))).cong fun a=> by rw [cR];rfl
theorem nf (hn:(d++v).Nodup) (hl:(d++v).length≤1000): ∀ b:Bk,kN (d++v).length b→sS b=true→mK (uu d v no on) (ix (d++v) b) (FN b)
 | .nil,_,_=> EV
 | .cons s b,h,hp=> by
  rw [kN] at h
  simp only [sS,Bool.and_eq_true] at hp
  exact zo (FD hn hl s h.1 hp.1) (nf hn hl b h.2 hp.2)
end
theorem Ge (hn:(d++v).Nodup) (hl:(d++v).length≤1000) (b:Bk) (h:kN (d++v).length b) (hp:sS b=true):KY d v no on (iy (d++v) b) (dv b):=mS (nf hn hl b h hp)
end
end Go.Proofs.YtmjnackchaahbaaGreat

set_option maxHeartbeats 2000000
namespace Go.Proofs.YtmjnackchaahbaaGreat
open Go.RowKit

abbrev Ii (c:AV) (e:Nat→Int) (d v:Int):List AV:=[c, .v (.int .i64 (e 0)), .v (.int .i64 (e 1)), .v (.int .i64 (e 2)), .v (.int .i64 (e 3)), .v (.int .i64 (e 4)), .v (.int .i64 (e 5)), .v (.int .i64 (e 6)), .v (.int .i64 (e 7)), .v (.int .i64 (e 8)), .v (.int .i64 (e 9)), .v (.int .i64 (e 10)), .v (.int .i64 (e 11)), .v (.int .i64 (e 12)), .v (.int .i64 (e 13)), .v (.int .i64 (e 14)), .v (.int .i64 (e 15)), .v (.int .i64 (e 16)), .v (.int .i64 (e 17)), .v (.int .i64 (e 18)), .v (.int .i64 (e 19)), .v (.int .i64 (e 20)), .v (.int .i64 (e 21)), .v (.int .i64 (e 22)), .v (.int .i64 (e 23)), .v (.int .i64 (e 24)), .v (.int .i64 (e 25)), .v (.int .i64 (e 26)), .v (.int .i64 (e 27)), .v (.int .i64 (e 28)), .v (.int .i64 (e 29)), .v (.int .i64 (e 30)), .v (.int .i64 (e 31)), .v (.int .i64 (e 32)), .v (.int .i64 (e 33)), .v (.int .i64 (e 34)), .v (.int .i64 (e 35)), .v (.int .i64 (e 36)), .v (.int .i64 (e 37)), .v (.int .i64 (e 38)), .v (.int .i64 (e 39)), .v (.int .i64 d), .v (.int .i64 v)]
abbrev Bx (n:Nat) (xs:List PV) (e:Nat→Int) (d v:Int):List AV:=Ii (.sl n xs) e d v
def kB (e:Nat→Int) (h:Nat) (x:Int):Nat→Int:=fun k=> if k=h then x else e k
theorem tb (c:AV) (e:Nat→Int) (d v:Int) (h:Nat) (hh:h < 40) (x:Int):eO (Ii c e d v) (1+h) [.v (.int .i64 x)]=Ii c (kB e h x) d v:=by
 rcases h with _ | _ | _ | _ | _ | _ | _ | _ | _ | _ | _ | _ | _ | _ | _ | _ | _ | _ | _ | _ | _ | _ | _ | _ | _ | _ | _ | _ | _ | _ | _ | _ | _ | _ | _ | _ | _ | _ | _ | _ | h
 all_goals first | rfl | omega
theorem nh (n:Nat) (xs:List PV) (e:Nat→Int) (d v:Int) (h:Nat) (hh:h < 40):(Bx n xs e d v)[1+h]? =some (.v (.int .i64 (e h))):=by
 rcases h with _ | _ | _ | _ | _ | _ | _ | _ | _ | _ | _ | _ | _ | _ | _ | _ | _ | _ | _ | _ | _ | _ | _ | _ | _ | _ | _ | _ | _ | _ | _ | _ | _ | _ | _ | _ | _ | _ | _ | _ | h
 all_goals first | rfl | omega
def Hj (l:List Nat):List PV:=l.map fun (x:Nat)=> .v (.int .i64 (x:Int))
@[simp] theorem ed (l:List Nat):(Hj l).length=l.length:=by simp [Hj]
theorem GF (l:List Nat) (k:Nat) (h:k < l.length):(Hj l)[k]? =some (.v (.int .i64 (l.getD k 0:Int))):=by simp [Hj,h]
theorem yR:Spec Tryz.prog 106 (aI [.v (.int .i64 1)] []) (aA (.v (.int .i64 0)) []):=by
 refine Spec.ofN Tryz.func106 rfl Tryz.ntmps106 rfl ?_
 refine go 19 ?_
 exact au (eb rfl rfl)
theorem Do:Spec Tryz.prog 106 (aI [.v (.int .i64 2)] []) (aA (.v (.int .i64 0)) []):=by
 refine Spec.ofN Tryz.func106 rfl Tryz.ntmps106 rfl ?_
 refine go 24 ?_
 exact au (eb rfl rfl)
theorem vF:Spec Tryz.prog 106 (aI [.v (.int .i64 3)] []) (aA (.v (.int .i64 1)) []):=by
 refine Spec.ofN Tryz.func106 rfl Tryz.ntmps106 rfl ?_
 refine go 44 ?_
 refine aB (σ':=an 31 [(3,_)] [] [] []) kp ?_
 refine go 31 ?_
 exact au (eb rfl rfl)
theorem zw:Spec Tryz.prog 106 (aI [.v (.int .i64 4)] []) (aA (.v (.int .i64 0)) []):=by
 refine Spec.ofN Tryz.func106 rfl Tryz.ntmps106 rfl ?_
 refine go 29 ?_
 exact au (eb rfl rfl)
theorem yI:Spec Tryz.prog 106 (aI [.v (.int .i64 5)] []) (aA (.v (.int .i64 1)) []):=by
 refine Spec.ofN Tryz.func106 rfl Tryz.ntmps106 rfl ?_
 refine go 44 ?_
 refine aB (σ':=an 31 [(3,_)] [] [] []) kp ?_
 refine go 16 ?_
 exact au (eb rfl rfl)
theorem BR:Spec Tryz.prog 106 (aI [.v (.int .i64 6)] []) (aA (.v (.int .i64 2)) []):=by
 refine Spec.ofN Tryz.func106 rfl Tryz.ntmps106 rfl ?_
 refine go 44 ?_
 refine aB (σ':=an 31 [(3,_)] [] [] []) kp ?_
 refine go 44 ?_
 refine aE ?_
 refine aB (σ':=an 31 [] [] [] []) kp ?_
 exact aD (cp rfl (am (au (eb rfl rfl))))
theorem Bg:Spec Tryz.prog 106 (aI [.v (.int .i64 7)] []) (aA (.v (.int .i64 2)) []):=by
 refine Spec.ofN Tryz.func106 rfl Tryz.ntmps106 rfl ?_
 refine go 44 ?_
 refine aB (σ':=an 31 [(3,_)] [] [] []) kp ?_
 refine go 42 ?_
 refine aE ?_
 refine aB (σ':=an 31 [(3,_)] [] [] []) kp ?_
 refine go 10 ?_
 exact au (eb rfl rfl)
theorem DU:Spec Tryz.prog 106 (aI [.v (.int .i64 8)] []) (aA (.v (.int .i64 2)) []):=by
 refine Spec.ofN Tryz.func106 rfl Tryz.ntmps106 rfl ?_
 refine go 44 ?_
 refine aB (σ':=an 31 [(3,_)] [] [] []) kp ?_
 refine go 42 ?_
 refine aE ?_
 refine aB (σ':=an 31 [(3,_)] [] [] []) kp ?_
 refine go 15 ?_
 exact au (eb rfl rfl)
theorem AI:Spec Tryz.prog 106 (aI [.v (.int .i64 9)] []) (aA (.v (.int .i64 2)) []):=by
 refine Spec.ofN Tryz.func106 rfl Tryz.ntmps106 rfl ?_
 refine go 44 ?_
 refine aB (σ':=an 31 [(3,_)] [] [] []) kp ?_
 refine go 42 ?_
 refine aE ?_
 refine aB (σ':=an 31 [(3,_)] [] [] []) kp ?_
 refine go 20 ?_
 exact au (eb rfl rfl)
theorem Bj:Spec Tryz.prog 106 (aI [.v (.int .i64 10)] []) (aA (.v (.int .i64 1)) []):=by
 refine Spec.ofN Tryz.func106 rfl Tryz.ntmps106 rfl ?_
 refine go 44 ?_
 refine aB (σ':=an 31 [(3,_)] [] [] []) kp ?_
 refine go 21 ?_
 exact au (eb rfl rfl)
theorem Gm:Spec Tryz.prog 106 (aI [.v (.int .i64 11)] []) (aA (.v (.int .i64 2)) []):=by
 refine Spec.ofN Tryz.func106 rfl Tryz.ntmps106 rfl ?_
 refine go 44 ?_
 refine aB (σ':=an 31 [(3,_)] [] [] []) kp ?_
 refine go 42 ?_
 refine aE ?_
 refine aB (σ':=an 31 [(3,_)] [] [] []) kp ?_
 refine go 25 ?_
 exact au (eb rfl rfl)
theorem GX:Spec Tryz.prog 106 (aI [.v (.int .i64 12)] []) (aA (.v (.int .i64 2)) []):=by
 refine Spec.ofN Tryz.func106 rfl Tryz.ntmps106 rfl ?_
 refine go 44 ?_
 refine aB (σ':=an 31 [(3,_)] [] [] []) kp ?_
 refine go 42 ?_
 refine aE ?_
 refine aB (σ':=an 31 [(3,_)] [] [] []) kp ?_
 refine go 30 ?_
 exact au (eb rfl rfl)
theorem FA:Spec Tryz.prog 106 (aI [.v (.int .i64 13)] []) (aA (.v (.int .i64 2)) []):=by
 refine Spec.ofN Tryz.func106 rfl Tryz.ntmps106 rfl ?_
 refine go 44 ?_
 refine aB (σ':=an 31 [(3,_)] [] [] []) kp ?_
 refine go 42 ?_
 refine aE ?_
 refine aB (σ':=an 31 [(3,_)] [] [] []) kp ?_
 refine go 35 ?_
 exact au (eb rfl rfl)
theorem BB:Spec Tryz.prog 106 (aI [.v (.int .i64 14)] []) (aA (.v (.int .i64 1)) []):=by
 refine Spec.ofN Tryz.func106 rfl Tryz.ntmps106 rfl ?_
 refine go 44 ?_
 refine aB (σ':=an 31 [(3,_)] [] [] []) kp ?_
 refine go 26 ?_
 exact au (eb rfl rfl)
theorem yM:Spec Tryz.prog 106 (aI [.v (.int .i64 15)] []) (aA (.v (.int .i64 0)) []):=by
 refine Spec.ofN Tryz.func106 rfl Tryz.ntmps106 rfl ?_
 refine go 34 ?_
 exact au (eb rfl rfl)
theorem BJ:Spec Tryz.prog 106 (aI [.v (.int .i64 16)] []) (aA (.v (.int .i64 1)) []):=by
 refine Spec.ofN Tryz.func106 rfl Tryz.ntmps106 rfl ?_
 refine go 44 ?_
 refine aB (σ':=an 31 [(3,_)] [] [] []) kp ?_
 refine go 36 ?_
 exact au (eb rfl rfl)
theorem zf:Spec Tryz.prog 106 (aI [.v (.int .i64 17)] []) (aA (.v (.int .i64 3)) []):=by
 refine Spec.ofN Tryz.func106 rfl Tryz.ntmps106 rfl ?_
 refine go 44 ?_
 refine aB (σ':=an 31 [(3,_)] [] [] []) kp ?_
 refine go 42 ?_
 refine aE ?_
 refine aB (σ':=an 31 [(3,_)] [] [] []) kp ?_
 refine go 40 ?_
 refine aE ?_
 refine aB (σ':=an 31 [] [] [] []) kp ?_
 exact aD (cp rfl (am (au (eb rfl rfl))))
theorem wK:Spec Tryz.prog 106 (aI [.v (.int .i64 18)] []) (aA (.v (.int .i64 0)) []):=by
 refine Spec.ofN Tryz.func106 rfl Tryz.ntmps106 rfl ?_
 refine go 39 ?_
 exact au (eb rfl rfl)
theorem vy:Spec Tryz.prog 106 (aI [.v (.int .i64 19)] []) (aA (.v (.int .i64 0)) []):=by
 refine Spec.ofN Tryz.func106 rfl Tryz.ntmps106 rfl ?_
 refine go 44 ?_
 exact au (eb rfl rfl)
theorem Ad:Spec Tryz.prog 106 (aI [.v (.int .i64 20)] []) (aA (.v (.int .i64 0)) []):=by
 refine Spec.ofN Tryz.func106 rfl Tryz.ntmps106 rfl ?_
 refine go 46 ?_
 refine aE ?_
 refine aB (σ':=an 31 [] [] [] []) kp ?_
 exact aD (cp rfl (am (au (eb rfl rfl))))
theorem wD:Spec Tryz.prog 106 (aI [.v (.int .i64 21)] []) (aA (.v (.int .i64 2)) []):=by
 refine Spec.ofN Tryz.func106 rfl Tryz.ntmps106 rfl ?_
 refine go 44 ?_
 refine aB (σ':=an 31 [(3,_)] [] [] []) kp ?_
 refine go 42 ?_
 refine aE ?_
 refine aB (σ':=an 31 [(3,_)] [] [] []) kp ?_
 refine go 38 ?_
 exact au (eb rfl rfl)
theorem zM:Spec Tryz.prog 106 (aI [.v (.int .i64 22)] []) (aA (.v (.int .i64 1)) []):=by
 refine Spec.ofN Tryz.func106 rfl Tryz.ntmps106 rfl ?_
 refine go 44 ?_
 refine aB (σ':=an 31 [(3,_)] [] [] []) kp ?_
 refine go 39 ?_
 exact au (eb rfl rfl)
theorem yV:Spec Tryz.prog 106 (aI [.v (.int .i64 23)] []) (aA (.v (.int .i64 0)) []):=by
 refine Spec.ofN Tryz.func106 rfl Tryz.ntmps106 rfl ?_
 refine go 44 ?_
 refine aB (σ':=an 31 [(3,_)] [] [] []) kp ?_
 refine go 8 ?_
 exact au (eb rfl rfl)
theorem rq (o:Opc):Spec Tryz.prog 106 (aI [.v (.int .i64 (o.num:Int))] []) (aA (.v (.int .i64 (o.pops:Int))) []):=by
 cases o
 ·exact yR
 ·exact Do
 ·exact vF
 ·exact zw
 ·exact yI
 ·exact BR
 ·exact Bg
 ·exact DU
 ·exact AI
 ·exact Bj
 ·exact Gm
 ·exact GX
 ·exact FA
 ·exact BB
 ·exact yM
 ·exact BJ
 ·exact zf
 ·exact wK
 ·exact vy
 ·exact Ad
 ·exact wD
 ·exact zM
 exact yV
theorem zE:Spec Tryz.prog 107 (aI [.v (.int .i64 1)] []) (aA (.v (.int .i64 1)) []):=by
 refine Spec.ofN Tryz.func107 rfl Tryz.ntmps107 rfl ?_
 refine go 19 ?_
 exact au (eb rfl rfl)
theorem Cl:Spec Tryz.prog 107 (aI [.v (.int .i64 2)] []) (aA (.v (.int .i64 1)) []):=by
 refine Spec.ofN Tryz.func107 rfl Tryz.ntmps107 rfl ?_
 refine go 24 ?_
 exact au (eb rfl rfl)
theorem uJ:Spec Tryz.prog 107 (aI [.v (.int .i64 3)] []) (aA (.v (.int .i64 0)) []):=by
 refine Spec.ofN Tryz.func107 rfl Tryz.ntmps107 rfl ?_
 refine go 44 ?_
 refine aE ?_
 refine aB (σ':=an 18 [(3,_)] [] [] []) kp ?_
 refine go 34 ?_
 exact au (eb rfl rfl)
theorem yZ:Spec Tryz.prog 107 (aI [.v (.int .i64 4)] []) (aA (.v (.int .i64 1)) []):=by
 refine Spec.ofN Tryz.func107 rfl Tryz.ntmps107 rfl ?_
 refine go 29 ?_
 exact au (eb rfl rfl)
theorem yX:Spec Tryz.prog 107 (aI [.v (.int .i64 5)] []) (aA (.v (.int .i64 1)) []):=by
 refine Spec.ofN Tryz.func107 rfl Tryz.ntmps107 rfl ?_
 refine go 34 ?_
 exact au (eb rfl rfl)
theorem CX:Spec Tryz.prog 107 (aI [.v (.int .i64 6)] []) (aA (.v (.int .i64 1)) []):=by
 refine Spec.ofN Tryz.func107 rfl Tryz.ntmps107 rfl ?_
 refine go 46 ?_
 refine aE ?_
 refine aB (σ':=an 18 [] [] [] []) kp ?_
 exact aD (cp rfl (am (au (eb rfl rfl))))
theorem CZ:Spec Tryz.prog 107 (aI [.v (.int .i64 7)] []) (aA (.v (.int .i64 1)) []):=by
 refine Spec.ofN Tryz.func107 rfl Tryz.ntmps107 rfl ?_
 refine go 44 ?_
 refine aE ?_
 refine aB (σ':=an 18 [(3,_)] [] [] []) kp ?_
 refine go 10 ?_
 exact au (eb rfl rfl)
theorem BZ:Spec Tryz.prog 107 (aI [.v (.int .i64 8)] []) (aA (.v (.int .i64 1)) []):=by
 refine Spec.ofN Tryz.func107 rfl Tryz.ntmps107 rfl ?_
 refine go 44 ?_
 refine aE ?_
 refine aB (σ':=an 18 [(3,_)] [] [] []) kp ?_
 refine go 15 ?_
 exact au (eb rfl rfl)
theorem Dn:Spec Tryz.prog 107 (aI [.v (.int .i64 9)] []) (aA (.v (.int .i64 1)) []):=by
 refine Spec.ofN Tryz.func107 rfl Tryz.ntmps107 rfl ?_
 refine go 44 ?_
 refine aE ?_
 refine aB (σ':=an 18 [(3,_)] [] [] []) kp ?_
 refine go 20 ?_
 exact au (eb rfl rfl)
theorem CY:Spec Tryz.prog 107 (aI [.v (.int .i64 10)] []) (aA (.v (.int .i64 1)) []):=by
 refine Spec.ofN Tryz.func107 rfl Tryz.ntmps107 rfl ?_
 refine go 39 ?_
 exact au (eb rfl rfl)
theorem GU:Spec Tryz.prog 107 (aI [.v (.int .i64 11)] []) (aA (.v (.int .i64 1)) []):=by
 refine Spec.ofN Tryz.func107 rfl Tryz.ntmps107 rfl ?_
 refine go 44 ?_
 refine aE ?_
 refine aB (σ':=an 18 [(3,_)] [] [] []) kp ?_
 refine go 25 ?_
 exact au (eb rfl rfl)
theorem FF:Spec Tryz.prog 107 (aI [.v (.int .i64 12)] []) (aA (.v (.int .i64 1)) []):=by
 refine Spec.ofN Tryz.func107 rfl Tryz.ntmps107 rfl ?_
 refine go 44 ?_
 refine aE ?_
 refine aB (σ':=an 18 [(3,_)] [] [] []) kp ?_
 refine go 30 ?_
 exact au (eb rfl rfl)
theorem GM:Spec Tryz.prog 107 (aI [.v (.int .i64 13)] []) (aA (.v (.int .i64 1)) []):=by
 refine Spec.ofN Tryz.func107 rfl Tryz.ntmps107 rfl ?_
 refine go 44 ?_
 refine aE ?_
 refine aB (σ':=an 18 [(3,_)] [] [] []) kp ?_
 refine go 33 ?_
 exact au (eb rfl rfl)
theorem Dr:Spec Tryz.prog 107 (aI [.v (.int .i64 14)] []) (aA (.v (.int .i64 1)) []):=by
 refine Spec.ofN Tryz.func107 rfl Tryz.ntmps107 rfl ?_
 refine go 44 ?_
 exact au (eb rfl rfl)
theorem zW:Spec Tryz.prog 107 (aI [.v (.int .i64 15)] []) (aA (.v (.int .i64 0)) []):=by
 refine Spec.ofN Tryz.func107 rfl Tryz.ntmps107 rfl ?_
 refine go 44 ?_
 refine aE ?_
 refine aB (σ':=an 18 [(3,_)] [] [] []) kp ?_
 refine go 34 ?_
 exact au (eb rfl rfl)
theorem Dl:Spec Tryz.prog 107 (aI [.v (.int .i64 16)] []) (aA (.v (.int .i64 0)) []):=by
 refine Spec.ofN Tryz.func107 rfl Tryz.ntmps107 rfl ?_
 refine go 44 ?_
 refine aE ?_
 refine aB (σ':=an 18 [(3,_)] [] [] []) kp ?_
 refine go 34 ?_
 exact au (eb rfl rfl)
theorem zF:Spec Tryz.prog 107 (aI [.v (.int .i64 17)] []) (aA (.v (.int .i64 0)) []):=by
 refine Spec.ofN Tryz.func107 rfl Tryz.ntmps107 rfl ?_
 refine go 44 ?_
 refine aE ?_
 refine aB (σ':=an 18 [(3,_)] [] [] []) kp ?_
 refine go 34 ?_
 exact au (eb rfl rfl)
theorem wL:Spec Tryz.prog 107 (aI [.v (.int .i64 18)] []) (aA (.v (.int .i64 0)) []):=by
 refine Spec.ofN Tryz.func107 rfl Tryz.ntmps107 rfl ?_
 refine go 44 ?_
 refine aE ?_
 refine aB (σ':=an 18 [(3,_)] [] [] []) kp ?_
 refine go 34 ?_
 exact au (eb rfl rfl)
theorem ur:Spec Tryz.prog 107 (aI [.v (.int .i64 19)] []) (aA (.v (.int .i64 0)) []):=by
 refine Spec.ofN Tryz.func107 rfl Tryz.ntmps107 rfl ?_
 refine go 44 ?_
 refine aE ?_
 refine aB (σ':=an 18 [(3,_)] [] [] []) kp ?_
 refine go 34 ?_
 exact au (eb rfl rfl)
theorem zC:Spec Tryz.prog 107 (aI [.v (.int .i64 20)] []) (aA (.v (.int .i64 0)) []):=by
 refine Spec.ofN Tryz.func107 rfl Tryz.ntmps107 rfl ?_
 refine go 44 ?_
 refine aE ?_
 refine aB (σ':=an 18 [(3,_)] [] [] []) kp ?_
 refine go 34 ?_
 exact au (eb rfl rfl)
theorem wV:Spec Tryz.prog 107 (aI [.v (.int .i64 21)] []) (aA (.v (.int .i64 0)) []):=by
 refine Spec.ofN Tryz.func107 rfl Tryz.ntmps107 rfl ?_
 refine go 44 ?_
 refine aE ?_
 refine aB (σ':=an 18 [(3,_)] [] [] []) kp ?_
 refine go 34 ?_
 exact au (eb rfl rfl)
theorem zU:Spec Tryz.prog 107 (aI [.v (.int .i64 22)] []) (aA (.v (.int .i64 0)) []):=by
 refine Spec.ofN Tryz.func107 rfl Tryz.ntmps107 rfl ?_
 refine go 44 ?_
 refine aE ?_
 refine aB (σ':=an 18 [(3,_)] [] [] []) kp ?_
 refine go 34 ?_
 exact au (eb rfl rfl)
theorem yN:Spec Tryz.prog 107 (aI [.v (.int .i64 23)] []) (aA (.v (.int .i64 0)) []):=by
 refine Spec.ofN Tryz.func107 rfl Tryz.ntmps107 rfl ?_
 refine go 44 ?_
 refine aE ?_
 refine aB (σ':=an 18 [(3,_)] [] [] []) kp ?_
 refine go 34 ?_
 exact au (eb rfl rfl)
theorem rD (o:Opc):Spec Tryz.prog 107 (aI [.v (.int .i64 (o.num:Int))] []) (aA (.v (.int .i64 (o.puts:Int))) []):=by
 cases o
 ·exact zE
 ·exact Cl
 ·exact uJ
 ·exact yZ
 ·exact yX
 ·exact CX
 ·exact CZ
 ·exact BZ
 ·exact Dn
 ·exact CY
 ·exact GU
 ·exact FF
 ·exact GM
 ·exact Dr
 ·exact zW
 ·exact Dl
 ·exact zF
 ·exact wL
 ·exact ur
 ·exact zC
 ·exact wV
 ·exact zU
 exact yN
theorem opn_stop {o:Opc}:(o.num:Int)=23↔o= .stop:=by cases o <;> simp [Opc.num]
theorem opn_jump {o:Opc}:(o.num:Int)=15↔o= .jump:=by cases o <;> simp [Opc.num]
theorem opn_unl {o:Opc}:(o.num:Int)=16↔o= .unl:=by cases o <;> simp [Opc.num]
theorem yD (C:List et) (e:Nat→Int) (dd vv:Int) (i:Nat) (hC:C.length≤1000000) (hi:i < C.length) (hn:(cu C i).op= .jump∨(cu C i).op= .unl→0≤(cu C i).n):
  Spec Tryz.prog 73 (aI [.agg (Bx C.length (inl C) e dd vv), .v (.int .i64 (i:Int))] []) (aA (.sl (dx i (cu C i)).length (Hj (dx i (cu C i)))) []):=by
 obtain ⟨x,hx⟩: ∃ x,x=cu C i:=⟨_,rfl⟩
 have hg0:=mT C i hi
 have hg1:=Ev C i hi
 rw [← hx] at hn hg0 hg1 ⊢
 clear hx
 obtain ⟨o,n⟩:=x
 simp only at hn hg0 hg1
 refine Spec.ofN Tryz.func73 rfl Tryz.ntmps73 rfl ?_
 refine aG (aj (dX (2,0) _ rfl rfl) (aj (aX _ ea) (go 6 ?_)))
 refine aj (aQ _ _ aa rfl rfl _ rfl ab (by (simp only [aq,aJ,aM,bf,bc,bk,bg,bm,ed];omega)) ag) ?_
 refine aj (eJ _ aa rfl rfl) (aj (bl _ aa rfl (by exact hg0) rfl) ?_)
 refine am (aH (aG (aj (bb _ _ rfl rfl rfl) (gn rfl (am (ax rfl (fun hc11=> ?_) (fun hc11=> ?_)))))))
 ·obtain rfl:=opn_stop.1 hc11
  exact aG (aj (aX _ ea) (am (au (cq (.inr rfl) rfl (.tmp kM) (Le.out [] [] .nil rfl rfl rfl trivial trivial)))))
 refine aG (aj (bb _ _ rfl rfl rfl) (gn rfl (am (ax rfl (fun hc13=> ?_) (fun hc13=> ?_)))))
 ·obtain rfl:=opn_jump.1 hc13
  have hn:=hn (.inl rfl)
  refine go 4 ?_
  refine aj (aQ _ _ aa rfl rfl _ rfl ab (by (simp only [aq,aJ,aM,bf,bc,bk,bg,bm,ed];omega)) ag) ?_
  refine aj (eJ _ aa rfl rfl) (aj (bl _ aa rfl (by exact hg1) rfl) ?_)
  refine go 3 ?_
  exact au (cq (.inr rfl) rfl (.tmp zq) (Le.out [] [] (cL rfl (by simp [Hj,dx,Int.toNat_of_nonneg hn])) rfl rfl rfl trivial trivial))
 refine aG (aj (bb _ _ rfl rfl rfl) (gn rfl (am (ax rfl (fun hc22=> ?_) (fun hc22=> ?_)))))
 ·obtain rfl:=opn_unl.1 hc22
  have hn:=hn (.inr rfl)
  refine go 6 ?_
  refine aj (aQ _ _ aa rfl rfl _ rfl ab (by (simp only [aq,aJ,aM,bf,bc,bk,bg,bm,ed];omega)) ag) ?_
  refine aj (eJ _ aa rfl rfl) (aj (bl _ aa rfl (by exact hg1) rfl) ?_)
  refine go 3 ?_
  exact au (cq (.inr rfl) rfl (.tmp zq) (Le.out [] [] (cL rfl (by simp [Hj,dx,Int.toNat_of_nonneg hn])) rfl rfl rfl trivial trivial))
 have hs:dx i ⟨o,n⟩=[i+1]:=by
  unfold dx
  have h1:o≠ .stop:=fun e=> hc11 (opn_stop.2 e)
  have h2:o≠ .jump:=fun e=> hc13 (opn_jump.2 e)
  have h3:o≠ .unl:=fun e=> hc22 (opn_unl.2 e)
  cases o <;> first | rfl | exact absurd rfl h1 | exact absurd rfl h2 | exact absurd rfl h3
 refine go 7 ?_
 refine au ?_
 rw [hs]
 exact cq (.inr rfl) rfl (.tmp zq) (Le.out [] [] (cL rfl (by simp [Hj])) rfl rfl rfl trivial trivial)
instance RW:Arr Tryz.prog 24 40 1:=Arr.of Tryz.underlying24 ae
instance RD:Arr Tryz.prog 30 9 1:=Arr.of Tryz.underlying30 ae
instance Sw:Arr Tryz.prog 81 41 1:=Arr.of Tryz.underlying81 ae
instance Pz:Arr Tryz.prog 173 24 1:=Arr.of Tryz.underlying173 ae
end Go.Proofs.YtmjnackchaahbaaGreat

set_option maxHeartbeats 2000000
namespace Go.Proofs.YtmjnackchaahbaaGreat
open Go.RowKit

theorem gS {l:List Int} {i:Nat} (h:i < l.length):l.getD i (-1)=l.getD i 0:=by
 rw [List.getD_eq_getElem?_getD,List.getD_eq_getElem?_getD,List.getElem?_eq_getElem h];rfl
theorem wa {n:Nat} {d:Int} {s:DS} {l:List Nat} {k:Nat} (h:k < l.length):(l.take (k+1)).foldl (jo n d) s=jo n d ((l.take k).foldl (jo n d) s) (l.getD k 0):=by
 rw [List.take_succ_eq_append_getElem h,List.foldl_append,List.getD_eq_getElem?_getD,List.getElem?_eq_getElem h];rfl
theorem Gi (n k:Nat) (h:k < n):((List.replicate k (-1:Int))++List.replicate (n - k) 0).set k (-1)=List.replicate (k+1) (-1)++List.replicate (n - (k+1)) 0:=by
 rw [List.set_append_right _ _ (by simp),List.length_replicate,Nat.sub_self,show n - k=(n - (k+1))+1 by omega,List.replicate_succ,List.set_cons_zero,show List.replicate (k+1) (-1:Int)=List.replicate k (-1)++[-1] from List.replicate_succ']
 simp
theorem Dj {ρ:az→az} {σ:St} {F:az→Bool} {id:az} {e:TypeId} {sz n m:Nat} {xs ys:List PV} (hid:σ.ob id= .obj (.row e sz xs)) (hF:F id=true) (hl:n*sz=xs.length) (hy:xs=ys) (hn:n=m):Lv ρ σ F (.sl m ys) (.ref id 0 n):=by
 subst hn;exact dI hid hF hl hy
theorem DI.flag {D:Nat→Nat} {n:Nat} {s:DS} {b:Bool} (h:DI D n s):DI D n (s.1,s.2.1,b):=⟨h.len,h.val,h.ok⟩
def zd (C:List et) (R:List Int×Bool) (z:(List Int×Bool)×Bool):Prop:=if z.2=true then ∃ f,neg z.1.1+1≤f∧jq C f z.1=R else z.1=R
theorem zi {C:List et} {R:List Int×Bool} {s:List Int×Bool} {f:Nat} (hf:neg s.1+1≤f) (hR:jq C f s=R) (hd:(db C s C.length).2.2=true→neg (db C s C.length).1 < neg s.1):
  zd C R (((db C s C.length).1,(db C s C.length).2.1),(db C s C.length).2.2):=by
 obtain ⟨g,rfl⟩: ∃ g,f=g+1:=⟨f - 1,by omega⟩
 unfold zd
 cases hb:(db C s C.length).2.2 with
 | true=>
  have:=hd hb
  rw [if_pos rfl]
  exact ⟨g,by simp only;omega,by rw [← hR,wm hb]⟩
 | false=> rw [if_neg (by simp)];rw [← hR,wb hb]
def LG (z:(List Int×Bool)×Bool):Nat:=if z.2=true then neg z.1.1+1 else 0
theorem Ih {C:List et} {s:List Int×Bool} (hd:(db C s C.length).2.2=true→neg (db C s C.length).1 < neg s.1):LG (((db C s C.length).1,(db C s C.length).2.1),(db C s C.length).2.2) < neg s.1+1:=by
 unfold LG
 simp only
 split
 ·rename_i h;have:=hd h;omega
 omega
theorem Ae {C:List et} {s:DS} {i:Nat} (h:s.1.getD i (-1) < 0):lx C s i=s:=by unfold lx;rw [if_pos h]
theorem BW {C:List et} {s:DS} {i:Nat} (h: ¬ s.1.getD i (-1) < 0) (h2: ¬ s.1.getD i (-1) - (cu C i).op.pops < 0):lx C s i=(dx i (cu C i)).foldl (jo C.length (s.1.getD i (-1) - (cu C i).op.pops+(cu C i).op.puts)) s:=by
 unfold lx FS
 rw [if_neg h,if_neg h2,show max (s.1.getD i (-1) - (cu C i).op.pops) 0=s.1.getD i (-1) - (cu C i).op.pops by omega]
theorem uP (C:List et) (en:Nat→Int) (dd vv:Int) (e:Int) (hC:C.length≤1000000) (D:Nat→Nat) (nv:Nat) (hg:Good D nv 0 (C.length - 1) 0 C) (hD: ∀ i,D i≤1000000) (he:0≤e→e < C.length→D e.toNat=0):
  Spec Tryz.prog 72 (aI [.agg (Bx C.length (inl C) en dd vv), .v (.int .i64 e)] []) (aA (.tup [.sl (iW C e).1.length (ba (iW C e).1), .v (.bool (iW C e).2)]) []):=by
 refine Spec.ofN Tryz.func72 rfl Tryz.ntmps72 rfl ?_
 refine aG (aj (dX (2,0) _ rfl rfl) (aj (aX _ ea) (go 6 ?_)))
 refine aj (oV (17,0) _ _ aa rfl rfl C.length rfl rfl ab rfl (oq C.length)) ?_
 refine dZ rfl (am (aF fun K3 hK3=> ?_))
 refine aG (cp rfl (am (aH ?_)))
 refine aS (α:=Nat) (fun k=> k≤C.length) 123 [(1,_),(2,_)] [((2,0),_)] (fun k=> [(7, .v (.int .i64 (k:Int))),(6, .ref (6,0) 0 C.length)]) (fun k=> [((6,0), .row 3 1 (ba (List.replicate k (-1)++List.replicate (C.length - k) 0)))]) [] [] (fun k=> C.length - k) 0 ?_ (by
  refine Le.mkJ [((6,0),(17,0))] [] rfl ?_ ?_ trivial trivial ?_
  ·exact ⟨(by repeat' (exact Lv.v)),(bv (id:=(2,0)) rfl),(aN ag),(ca rfl ag),trivial⟩
  ·exact ⟨(cI rfl rfl rfl rfl (by repeat' (first | exact Lv.v | exact Lv.sl | exact aK | refine ai ?_ ?_))),(cD rfl rfl rfl ag),trivial⟩
  kernel_rfl) ?_
 ·omega
 intro k hk
 have hll:(List.replicate k (-1:Int)++List.replicate (C.length - k) 0).length=C.length:=by simp;omega
 refine aF fun K5 hK5=> ?_
 refine go 6 ?_
 refine ax rfl (fun hc21=> ?_) (fun hc21=> ?_)
 ·have hrs:=Gi C.length k ab
  refine aR (hK5 _ ?_)
  refine aE (aH (aD (ij rfl (bV rfl (aj (bq _ _ aa rfl rfl rfl _ rfl ab (by exact (Nat.zero_add _).trans (Nat.mul_one _))) ?_)))))
  refine aj (dN _ _ aa rfl rfl rfl rfl rfl (by simp;omega) ((dF _ _ _ ab).trans (congrArg ba hrs))) ?_
  refine go 5 ?_
  refine ay (⟨k+1,?_,?_,?_⟩)
  ·omega
  ·exact kj [0,2] [] []
  omega
 obtain rfl:k=C.length:=by omega
 have hrep:List.replicate C.length (-1:Int)++List.replicate (C.length - C.length) 0=List.replicate C.length (-1):=by simp
 refine aW (id (hK3 _ ?_))
 refine go 5 ?_
 refine cj (fun hg29=> ?_) (fun hg29=> ?_)
 ·have hdf:iW C e=(List.replicate C.length (-1),true):=if_pos (.inl ab)
  refine go 12 ?_
  refine au ?_
  rw [hdf]
  exact km (.inr rfl) rfl (.tmp mP) (.tmp vV) (Le.out [] [(6,0)] (.tup rfl (ai (Dj rfl rfl (by simp) (congrArg ba hrep) (by simp)) lz)) rfl rfl rfl tr trivial)
 refine go 6 ?_
 refine ax rfl (fun hc34=> ?_) (fun hc34=> ?_)
 ·have hdf:iW C e=(List.replicate C.length (-1),true):=if_pos (.inr ab)
  refine go 5 ?_
  refine au ?_
  rw [hdf]
  exact km (.inr rfl) rfl (.tmp mP) (.tmp vV) (Le.out [] [(6,0)] (.tup rfl (ai (Dj rfl rfl (by simp) (congrArg ba hrep) (by simp)) lz)) rfl rfl rfl tr trivial)
 have hdf:iW C e=jq C (C.length+1) ((List.replicate C.length (-1)).set e.toNat 0,true):=if_neg ab
 have hdi0:DI D C.length ((List.replicate C.length (-1)).set e.toNat 0,true,false):=by
  have hr: ∀ i,(List.replicate C.length (-1:Int)).getD i (-1)= -1:=fun i=> by rw [List.getD_eq_getElem?_getD,List.getElem?_replicate];split <;> rfl
  refine ⟨by simp,fun i hi=> ?_,rfl⟩
  simp only
  rw [jO]
  split
  ·rename_i h;right;rw [h.1,he ab ab];rfl
  exact .inl (hr i)
 have hn0:neg ((List.replicate C.length (-1)).set e.toNat 0)≤C.length:=by
  have:=List.countP_le_length (p:=fun x:Int=> decide (x < 0)) (l:=(List.replicate C.length (-1:Int)).set e.toNat 0)
  simpa [neg] using this
 obtain ⟨R,hR⟩: ∃ R,R=iW C e:=⟨_,rfl⟩
 rw [← hR] at hdf
 refine cO (aG (ij rfl (bV rfl (aj (bq _ _ aa rfl rfl rfl e.toNat ab ab (by exact (Nat.zero_add _).trans (Nat.mul_one _))) ?_))))
 refine aj (dN _ _ aa rfl rfl rfl rfl rfl (by simp;omega) ((dF _ _ _ (by simp;omega)).trans (congrArg (fun l=> ba (List.set l e.toNat 0)) hrep))) ?_
 refine am (aE ?_)
 refine aB (σ':=an 123 [(2,_),(6,_)] [((2,0),_),((6,0),_)] [] []) kp ?_
 refine aD (gn rfl (am (aF fun K14 hK14=> ?_)))
 refine aG (gn rfl (am (aH ?_)))
 refine aS (α:=(List Int×Bool)×Bool) (fun z=> DI D C.length (z.1.1,z.1.2,false)∧zd C R z) 123 [(2,_),(6,_)] [((2,0),_)] (fun z=> [(8, .v (.bool z.1.2)),(9, .v (.bool z.2))]) (fun z=> [((6,0), .row 3 1 (ba z.1.1))]) [] [] (fun z=> LG z) (((List.replicate C.length (-1)).set e.toNat 0,true),true) ?_ (kj [0,2] [] []) ?_
 ·exact ⟨hdi0,by unfold zd;rw [if_pos rfl];exact ⟨C.length+1,by simp only;omega,hdf.symm⟩⟩
 intro z hz
 obtain ⟨s,ch⟩:=z
 obtain ⟨hdi,hz⟩:=hz
 simp only at hdi hz ⊢
 refine aF fun K16 hK16=> ?_
 refine aG (FV rfl (am (ax rfl (fun hc39=> ?_) (fun hc39=> ?_))))
 ·obtain ⟨f,hf1,hf2⟩: ∃ f,neg s.1+1≤f∧jq C f s=R:=by
   unfold zd at hz
   rwa [if_pos hc39] at hz
  have hpd:=(ll hg hdi C.length (Nat.le_refl _)).2.2
  refine aR (hK16 _ ?_)
  refine go 8 ?_
  refine aS (α:=Nat) (fun i=> i≤C.length) 123 [(2,_),(6,_)] [((2,0),_)] (fun i=> [(10, .v (.int .i64 (i:Int))),(8, .v (.bool (db C s i).2.1)),(9, .v (.bool (db C s i).2.2))]) (fun i=> [((6,0), .row 3 1 (ba (db C s i).1))]) [] [] (fun i=> C.length - i) 0 ?_ (kj [0,2] [] []) ?_
  ·omega
  intro i hi
  have hw:=(ll hg hdi i hi).1
  have hps:=pV C s i
  have hwl:=hw.len
  refine aF fun K20 hK20=> ?_
  refine go 6 ?_
  refine ax rfl (fun hc43=> ?_) (fun hc43=> ?_)
  ·have hdn:=(ll hg hdi (i+1) ab).1
   have hvi:=hw.val i ab
   generalize db C s i=w at hw hps hwl hvi
   rw [gS ab] at hvi
   obtain ⟨hins,hpop,hsuc⟩:=hg i (cu C i) (by unfold cu;rw [List.getD_eq_getElem?_getD,List.getElem?_eq_getElem ab];rfl)
   rw [Nat.zero_add] at hpop hsuc
   have hDi:=hD i
   refine aR (hK20 _ ?_)
   refine aF fun K22 hK22=> ?_
   refine aH (aE (aG (ij rfl (bV rfl (aj (bq _ _ aa rfl rfl rfl _ rfl ab (by exact (Nat.zero_add _).trans (Nat.mul_one _))) ?_)))))
   refine aj (cA _ aa rfl rfl (by exact cw _ _ ab) rfl) ?_
   refine aj (cT _ _ rfl rfl rfl) (am (ax rfl (fun hc50=> ?_) (fun hc50=> ?_)))
   ·rw [Ae (by rw [gS ab];omega)] at hps
    refine aW (id (hK22 _ ?_))
    refine go 4 ?_
    refine ay (⟨i+1,?_,?_,?_⟩)
    ·omega
    ·refine Le.mkJ [] [] rfl ?_ ?_ trivial trivial ?_
     ·exact ⟨(iP rfl),(iR rfl),(aN ag),(jC (by (rw [hps]))),(jC (by (rw [hps]))),trivial⟩
     ·exact ⟨(bN rfl rfl rfl),(cD rfl rfl rfl (by (rw [hps]))),trivial⟩
     kernel_rfl
    omega
   have hvD:=hvi.resolve_left ab
   have hgo:=BW (C:=C) (s:=w) (i:=i) (by rw [gS ab];omega) (by rw [gS ab];omega)
   rw [gS ab,hvD] at hgo
   rw [hgo] at hps
   obtain ⟨L,hL⟩: ∃ L,L=dx i (cu C i):=⟨_,rfl⟩
   have hLl:L.length≤2:=by rw [hL];unfold dx;split <;> simp
   have hnn:(cu C i).op= .jump∨(cu C i).op= .unl→0≤(cu C i).n:=by
    unfold cK at hins
    rintro (e | e) <;> rw [e] at hins <;> exact hins
   have hnx:=yD C en dd vv i hC ab hnn
   rw [← hL] at hps hsuc hnx
   have hpp:=rq (cu C i).op
   have hpq:=rD (cu C i).op
   have hp3:(cu C i).op.pops≤3:=by generalize (cu C i).op=o;cases o <;> decide
   have hp4:(cu C i).op.puts≤1:=by generalize (cu C i).op=o;cases o <;> decide
   refine cO (aE ?_)
   refine aB (σ':=an 123 [(2,_),(6,_),(8,_),(9,_),(10,_)] [((2,0),_),((6,0),_)] [] []) kp ?_
   refine dA 13 [] ?_
   refine go 4 ?_
   refine aC (_,[]) (fun τ=> bq _ _ aa rfl rfl rfl _ rfl ab (by exact (Nat.zero_add _).trans (Nat.mul_one _))) ?_
   refine go 1 ?_
   refine aC (_,[]) (fun τ=> cA _ aa rfl rfl (by exact cw _ _ ab) rfl) ?_
   refine go 7 ?_
   refine aC (_,[]) (fun τ=> aQ _ _ aa rfl rfl _ rfl ab (by (simp only [aq,aJ,aM,bf,bc,bk,bg,bm,ed,aq];omega)) ag) ?_
   refine go 3 ?_
   refine aC (_,[]) (fun τ=> bl _ aa rfl (by exact mT C i ab) rfl) ?_
   refine go 1 ?_
   refine aC (_,[]) (fun τ=> (ap aa al (hpp) rfl rfl)) ?_
   refine go 1 ?_
   refine aC (_,[]) (fun τ=> bp _ _ rfl rfl (bQ (by rw [hvD];omega))) ?_
   refine go 10 ?_
   refine cP rfl (decide_eq_false (by rw [hvD];omega)) ?_
   refine cO (aE ?_)
   refine aB (σ':=an 123 [(2,_),(6,_),(8,_),(9,_),(10,_),(11,_)] [((2,0),_),((6,0),_)] [] []) kp ?_
   refine go 5 ?_
   refine aj (aQ _ _ aa rfl rfl _ rfl ab (by (simp only [aq,aJ,aM,bf,bc,bk,bg,bm,ed,aq];omega)) ag) ?_
   refine aj (eJ _ aa rfl rfl) (aj (bl _ aa rfl (by exact mT C i ab) rfl) ?_)
   refine aj (ap aa al (hpq) rfl rfl) ?_
   refine aj (eI _ _ rfl rfl (bQ (by rw [hvD];omega))) ?_
   refine go 5 ?_
   refine aj (ap aa al (hnx) rfl rfl) ?_
   refine go 6 ?_
   refine aS (α:=Nat) (fun k=> k≤L.length) 123 [(2,_),(6,_),(10,_),(12,_)] [((2,0),_)] (fun k=> [(13, .v (.int .i64 (k:Int))),(11, .v (.int .i64 ((D i:Int) - (cu C i).op.pops+(cu C i).op.puts))),(8, .v (.bool ((L.take k).foldl (jo C.length ((D i:Int) - (cu C i).op.pops+(cu C i).op.puts)) w).2.1)),(9, .v (.bool ((L.take k).foldl (jo C.length ((D i:Int) - (cu C i).op.pops+(cu C i).op.puts)) w).2.2))]) (fun k=> [((6,0), .row 3 1 (ba ((L.take k).foldl (jo C.length ((D i:Int) - (cu C i).op.pops+(cu C i).op.puts)) w).1))]) [] [] (fun k=> L.length - k) 0 ?_ (by
    refine Le.mkJ [] [] rfl ?_ ?_ trivial trivial ?_
    ·exact ⟨(iP rfl),(iR rfl),(iV rfl),(iS rfl),(aN ag),(aN (by rw [hvD])),(jC ag),(jC ag),trivial⟩
    ·exact ⟨(bN rfl rfl rfl),(cD rfl rfl rfl ag),trivial⟩
    kernel_rfl) ?_
   ·omega
   intro k hk
   have hwd: ∀ j∈L,(D i:Int) - (cu C i).op.pops+(cu C i).op.puts=(D j:Int):=fun j hj=> by have:=(hsuc j hj).2.2;omega
   have hu:=(nk (L.take k) hw (fun j hj=> hwd j (List.mem_of_mem_take hj))).1
   have hul:=hu.len
   refine aF fun K31 hK31=> ?_
   refine go 6 ?_
   refine ax rfl (fun hc80=> ?_) (fun hc80=> ?_)
   ·have hfs:=wa (n:=C.length) (d:=(D i:Int) - (cu C i).op.pops+(cu C i).op.puts) (s:=w) (l:=L) (k:=k) ab
    have hu1:=(nk (L.take (k+1)) hw (fun j hj=> hwd j (List.mem_of_mem_take hj))).1.len
    obtain ⟨j,hj⟩: ∃ j,j=L.getD k 0:=⟨_,rfl⟩
    have hjm:j∈L:=by rw [hj,List.getD_eq_getElem?_getD,List.getElem?_eq_getElem ab];exact List.getElem_mem ab
    obtain ⟨hj1,hj2,_⟩:=hsuc j hjm
    have hjn:j < C.length:=by omega
    have hwj:=hwd j hjm
    have hnk:=GF L k ab
    rw [← hj] at hfs hnk
    have huv:=hu.val j hjn
    rw [gS ab] at huv
    generalize (L.take k).foldl (jo C.length ((D i:Int) - (cu C i).op.pops+(cu C i).op.puts)) w=u at hu hul hfs huv
    refine aR (hK31 _ ?_)
    refine go 6 ?_
    refine aj (aQ _ _ aa rfl rfl _ rfl ab (by (simp only [aq,aJ,aM,bf,bc,bk,bg,bm,ed,aq];omega)) (by exact Nat.mul_one _)) ?_
    refine aj (bl _ aa rfl (by exact hnk) rfl) ?_
    refine go 2 ?_
    refine cj (fun hg88=> ?_) (fun hg88=> ?_)
    ·exact absurd hg88 ab
    refine go 2 ?_
    refine aZ rfl rfl (aQ _ _ aa rfl rfl _ rfl ab (by (simp only [aq,aJ,aM,bf,bc,bk,bg,bm,ed,aq];omega)) (by exact Nat.mul_one _)) ?_
    refine aZ rfl rfl (bl _ aa rfl (by exact hnk) rfl) ?_
    refine go 5 ?_
    refine cP rfl (decide_eq_false ab) ?_
    refine cO (aE ?_)
    refine aB (σ':=an 123 [(2,_),(6,_),(8,_),(9,_),(10,_),(11,_),(12,_),(13,_)] [((2,0),_),((6,0),_)] [] []) kp ?_
    refine aD (ij rfl (gT rfl (bV rfl (aj (aQ _ _ aa rfl rfl _ rfl ab (by (simp only [aq,aJ,aM,bf,bc,bk,bg,bm,ed,aq];omega)) (by exact Nat.mul_one _)) ?_))))
    refine aj (bl _ aa rfl (by exact hnk) rfl) ?_
    refine aj (bq _ _ aa rfl rfl rfl _ rfl ab (by exact (Nat.zero_add _).trans (Nat.mul_one _))) ?_
    refine aj (cA _ aa rfl rfl (by exact cw _ _ ab) rfl) ?_
    refine aj (cT _ _ rfl rfl rfl) (am (ax rfl (fun hc104=> ?_) (fun hc104=> ?_)))
    ·have hds:jo C.length ((D i:Int) - (cu C i).op.pops+(cu C i).op.puts) u j=(u.1.set j ((D i:Int) - (cu C i).op.pops+(cu C i).op.puts),u.2.1,true):=by
      unfold jo
      rw [if_neg ab,if_pos (by rw [gS ab];omega)]
     rw [hds] at hfs
     refine aG (ij rfl (gT rfl (bV rfl (aj (aQ _ _ aa rfl rfl _ rfl ab (by (simp only [aq,aJ,aM,bf,bc,bk,bg,bm,ed,aq];omega)) (by exact Nat.mul_one _)) ?_))))
     refine aj (bl _ aa rfl (by exact hnk) rfl) ?_
     refine bV rfl (aj (bq _ _ aa rfl rfl rfl _ rfl ab (by exact (Nat.zero_add _).trans (Nat.mul_one _))) ?_)
     refine aj (dN _ _ aa rfl rfl rfl rfl rfl (by simp;omega) (dF _ _ _ ab)) ?_
     refine am ?_
     refine aB (σ':=an 123 [(2,_),(6,_),(8,_),(10,_),(11,_),(12,_),(13,_)] [((2,0),_),((6,0),_)] [] []) kp ?_
     refine go 7 ?_
     refine ay (⟨k+1,?_,?_,?_⟩)
     ·omega
     ·refine Le.mkJ [] [] rfl ?_ ?_ trivial trivial ?_
      ·exact ⟨(iP rfl),(iR rfl),(iV rfl),(iS rfl),(aN ag),(aN ag),(jC (by (rw [hfs]))),(jC (by (rw [hfs]))),trivial⟩
      ·exact ⟨(bN rfl rfl rfl),(cD rfl rfl rfl (by (rw [hfs]))),trivial⟩
      kernel_rfl
     omega
    have hds:jo C.length ((D i:Int) - (cu C i).op.pops+(cu C i).op.puts) u j=u:=by
     unfold jo
     rw [if_neg ab,if_neg (by rw [gS ab];omega),if_neg (by rw [gS ab];omega)]
    rw [hds] at hfs
    refine aG (ij rfl (gT rfl (bV rfl (aj (aQ _ _ aa rfl rfl _ rfl ab (by (simp only [aq,aJ,aM,bf,bc,bk,bg,bm,ed,aq];omega)) (by exact Nat.mul_one _)) ?_))))
    refine aj (bl _ aa rfl (by exact hnk) rfl) ?_
    refine aj (bq _ _ aa rfl rfl rfl _ rfl ab (by exact (Nat.zero_add _).trans (Nat.mul_one _))) ?_
    refine aj (cA _ aa rfl rfl (by exact cw _ _ ab) rfl) ?_
    refine bV rfl (aj (cV _ _ rfl rfl rfl) (am (cP rfl (by rw [bne_eq_false_iff_eq];omega) ?_)))
    refine kH ?_
    refine aB (σ':=an 123 [(2,_),(6,_),(8,_),(9,_),(10,_),(11,_),(12,_),(13,_)] [((2,0),_),((6,0),_)] [] []) kp ?_
    refine go 4 ?_
    refine ay (⟨k+1,?_,?_,?_⟩)
    ·omega
    ·refine Le.mkJ [] [] rfl ?_ ?_ trivial trivial ?_
     ·exact ⟨(iP rfl),(iR rfl),(iV rfl),(iS rfl),(aN ag),(aN ag),(jC (by (rw [hfs]))),(jC (by (rw [hfs]))),trivial⟩
     ·exact ⟨(bN rfl rfl rfl),(cD rfl rfl rfl (by (rw [hfs]))),trivial⟩
     kernel_rfl
    omega
   obtain rfl:k=L.length:=by omega
   rw [List.take_length] at hu hul
   rw [List.take_length]
   refine aW (id (hK22 _ ?_))
   refine go 4 ?_
   refine ay (⟨i+1,?_,?_,?_⟩)
   ·omega
   ·refine Le.mkJ [] [] rfl ?_ ?_ trivial trivial ?_
    ·exact ⟨(iP rfl),(iR rfl),(aN ag),(jC (by (rw [hps]))),(jC (by (rw [hps]))),trivial⟩
    ·exact ⟨(bN rfl rfl rfl),(cD rfl rfl rfl (by (rw [hps]))),trivial⟩
    kernel_rfl
   omega
  obtain rfl:i=C.length:=by omega
  refine aW (id (⟨(((db C s C.length).1,(db C s C.length).2.1),(db C s C.length).2.2),?_,?_,?_⟩))
  ·exact ⟨hw.flag,zi hf1 hf2 hpd⟩
  ·exact kj [0,2] [] []
  rw [show LG (s,ch)=neg s.1+1 from if_pos hc39];exact Ih hpd
 have hzR:s=R:=by
  unfold zd at hz
  rwa [if_neg (by simp [hc39])] at hz
 subst hzR
 have hsl:=hdi.len
 refine aW (id (hK14 _ ?_))
 refine go 6 ?_
 refine au ?_
 rw [← hR]
 exact km (.inr rfl) rfl (.tmp mP) (.tmp vV) (Le.out [] [(6,0)] (.tup rfl (ai (Dj rfl rfl (by simp only at hsl;simp [hsl]) rfl hsl.symm) lz)) rfl rfl rfl tr trivial)
theorem wS (C:List et) (en:Nat→Int) (dd vv:Int) (h:Nat) (hh:h < 40) (hC:C.length≤1000000) (D:Nat→Nat) (nv:Nat) (hg:Good D nv 0 (C.length - 1) 0 C) (hD: ∀ i,D i≤1000000) (he:0≤en h→en h < C.length→D (en h).toNat=0):
  Spec Tryz.prog 74 (aI [.agg (Bx C.length (inl C) en dd vv), .v (.int .i64 (h:Int))] []) (aA (.v (.int .i64 (kI C (iW C (en h)).1 C.length))) []):=by
 have hds:=uP C en dd vv (en h) hC D nv hg hD he
 have hdi:=qK hg he
 have hdl:=hdi.len
 have hml:=fun k (hk:k≤C.length)=> nr (C:=C) (n:=C.length) hdi (B:=1000000) (fun i _=> hD i) k hk
 generalize iW C (en h)=R at hds hdi hdl hml
 have hen:=nh C.length (inl C) en dd vv h hh
 refine Spec.ofN Tryz.func74 rfl Tryz.ntmps74 rfl ?_
 refine go 4 ?_
 refine aE (dA 11 [] ?_)
 refine go 6 ?_
 refine aC (_,[]) (fun τ=> bO _ _ aa rfl rfl rfl h rfl ab (by exact congrArg (fun z=> 0+1+z) (Nat.mul_one h))) ?_
 refine go 1 ?_
 refine aC (_,[]) (fun τ=> bK _ aa rfl rfl (by exact (congrArg (fun z=> (Bx C.length (inl C) en dd vv)[z]?) ab).trans hen)) ?_
 refine go 1 ?_
 refine aC (_,[]) (fun τ=> (ap aa al (hds) rfl rfl)) ?_
 refine go 16 ?_
 refine aF fun K4 hK4=> ?_
 refine aG (cp rfl (am (aH ?_)))
 refine aS (α:=Nat) (fun k=> k≤C.length) 53 [(2,_),(5,_)] [((2,0),_)] (fun k=> [(8, .v (.int .i64 (k:Int))),(7, .v (.int .i64 (kI C R.1 k)))]) (fun k=> []) [] [] (fun k=> C.length - k) 0 ?_ (kj [0] [] []) ?_
 ·omega
 intro k hk
 have hm1:=hml k hk
 have hs:=qt C R.1 k
 simp only at hdl hm1
 refine aF fun K6 hK6=> ?_
 refine go 6 ?_
 refine ax rfl (fun hc22=> ?_) (fun hc22=> ?_)
 ·have hm2:=hml (k+1) ab
  have hv:=hdi.val k ab
  simp only at hv hm2
  rw [gS ab] at hv hs
  have hDk:=hD k
  obtain ⟨q,hq⟩: ∃ q,q=cu C k:=⟨_,rfl⟩
  have hp3:q.op.pops≤3:=by generalize q.op=o;cases o <;> decide
  have hp4:q.op.puts≤1:=by generalize q.op=o;cases o <;> decide
  have hpp:=rq q.op
  have hpq:=rD q.op
  have hg0:=mT C k ab
  rw [← hq] at hg0 hs
  refine aR (hK6 _ ?_)
  refine aE (aH (aG (gT rfl (bV rfl (aj (aQ _ _ aa rfl rfl _ rfl ab (by (simp only [aq,aJ,aM,bf,bc,bk,bg,bm,ed,aq];omega)) (by exact Nat.mul_one _)) ?_)))))
  refine aj (bl _ aa rfl (by exact cw _ _ ab) rfl) ?_
  refine aj (eg _ _ rfl rfl rfl) (am (ax rfl (fun hc29=> ?_) (fun hc29=> ?_)))
  ·rw [if_pos ab] at hs
   refine go 4 ?_
   refine aj (aQ _ _ aa rfl rfl _ rfl ab (by (simp only [aq,aJ,aM,bf,bc,bk,bg,bm,ed,aq];omega)) ag) ?_
   refine aj (eJ _ aa rfl rfl) (aj (bl _ aa rfl (by exact hg0) rfl) ?_)
   refine cp rfl (am ?_)
   refine aB (σ':=an 53 [(2,_),(5,_),(7,_),(8,_),(9,_)] [((2,0),_)] [] []) kp ?_
   refine dA 16 [] ?_
   refine go 6 ?_
   refine aC (_,[]) (fun τ=> aQ _ _ aa rfl rfl _ rfl ab (by (simp only [aq,aJ,aM,bf,bc,bk,bg,bm,ed,aq];omega)) (by exact Nat.mul_one _)) ?_
   refine go 1 ?_
   refine aC (_,[]) (fun τ=> bl _ aa rfl (by exact cw _ _ ab) rfl) ?_
   refine go 5 ?_
   refine aC (_,[]) (fun τ=> aQ _ _ aa rfl rfl _ rfl ab (by (simp only [aq,aJ,aM,bf,bc,bk,bg,bm,ed,aq];omega)) (by exact Nat.mul_one _)) ?_
   refine go 1 ?_
   refine aC (_,[]) (fun τ=> bl _ aa rfl (by exact cw _ _ ab) rfl) ?_
   refine go 3 ?_
   refine aC (_,[]) (fun τ=> (ap aa al (hpp) rfl rfl)) ?_
   refine go 5 ?_
   refine aC (_,[]) (fun τ=> (ap aa al (hpq) rfl rfl)) ?_
   refine go 3 ?_
   refine aC (_,[]) (fun τ=> Hb _ _ _ rfl rfl rfl (by exact hs.symm)) ?_
   refine go 4 ?_
   refine aB (σ':=an 53 [(2,_),(5,_),(7,_),(8,_)] [((2,0),_)] [] []) kp ?_
   refine go 4 ?_
   refine ay (⟨k+1,?_,?_,?_⟩)
   ·omega
   ·exact kj [0] [] []
   omega
  rw [if_neg ab] at hs
  refine go 5 ?_
  refine ay (⟨k+1,?_,?_,?_⟩)
  ·omega
  ·refine Le.mkJ [] [] rfl ?_ ?_ trivial trivial ?_
   ·exact ⟨(iP rfl),(iS rfl),(aN ag),(aN ab),trivial⟩
   ·exact ⟨(bN rfl rfl rfl),trivial⟩
   kernel_rfl
  omega
 obtain rfl:k=C.length:=by omega
 refine aW (id (hK4 _ ?_))
 exact aG (bV rfl (cp rfl (am (au (eb rfl rfl)))))
end Go.Proofs.YtmjnackchaahbaaGreat

set_option maxHeartbeats 2000000
namespace Go.Proofs.YtmjnackchaahbaaGreat
open Go.RowKit

theorem dS: ∀ (e:Ex) (d x:Nat),x∈dg e d→x≤d+(dg e d).length
 | .int _,d,x,h=> by simp [dg] at h ⊢;omega
 | .bool _,d,x,h=> by simp [dg] at h ⊢;omega
 | .var _,d,x,h=> by simp [dg] at h ⊢;omega
 | .name _,d,x,h=> by simp [dg] at h ⊢;omega
 | .draw e,d,x,h=> by
  have:=dS e d x
  simp only [dg,List.mem_append,List.length_append,List.length_cons,List.length_nil,List.mem_singleton] at h ⊢
  rcases h with h | h
  ·have:=this h;omega
  omega
 | .neg e,d,x,h=> by
  have:=dS e d x
  simp only [dg,List.mem_append,List.length_append,List.length_cons,List.length_nil,List.mem_singleton] at h ⊢
  rcases h with h | h
  ·have:=this h;omega
  omega
 | .not e,d,x,h=> by
  have:=dS e d x
  simp only [dg,List.mem_append,List.length_append,List.length_cons,List.length_nil,List.mem_singleton] at h ⊢
  rcases h with h | h
  ·have:=this h;omega
  omega
 | .bin o a b,d,x,h=> by
  have h1:=dS a d x
  have h2:=dS b (d+1) x
  have h3:1≤(dg b (d+1)).length:=by obtain ⟨l,hl⟩:=eu b (d+1);rw [hl];simp
  have h4:1≤(dg a d).length:=by obtain ⟨l,hl⟩:=eu a d;rw [hl];simp
  simp only [dg,List.mem_append,List.length_append] at h ⊢
  rcases h with (h | h) | h
  ·have:=h1 h;omega
  ·have:=h2 h;omega
  have:x≤d+2:=by cases o <;> simp at h <;> omega
  omega
 | .and a b,d,x,h=> by
  have h1:=dS a d x
  have h2:=dS b d x
  simp only [dg,List.mem_append,List.length_append,List.length_cons,List.length_nil,List.mem_singleton] at h ⊢
  rcases h with (((h | h) | h) | h) | h
  ·have:=h1 h;omega
  ·omega
  ·have:=h2 h;omega
  ·omega
  omega
 | .or a b,d,x,h=> by
  have h1:=dS a d x
  have h2:=dS b d x
  simp only [dg,List.mem_append,List.length_append,List.length_cons,List.length_nil,List.mem_singleton] at h ⊢
  rcases h with (((h | h) | h) | h) | h
  ·have:=h1 h;omega
  ·omega
  ·omega
  ·omega
  have:=h2 h;omega
theorem lJ (e:Ex) (d:Nat):1≤(dg e d).length:=by obtain ⟨l,hl⟩:=eu e d;rw [hl];simp
mutual
theorem GT: ∀ (s:Sm) (x:Nat),x∈dU s→x≤(dU s).length
 | .assign _ e,x,h=> by
  have:=dS e 0 x
  simp only [dU,List.mem_append,List.length_append,List.length_cons,List.length_nil,List.mem_singleton] at h ⊢
  rcases h with h | h
  ·have:=this h;omega
  omega
 | .send t _ a b,x,h=> by
  have h1:=dS t 0 x
  have h2:=dS a 1 x
  have h3:=dS b 2 x
  have k1:=lJ t 0
  have k2:=lJ a 1
  have k3:=lJ b 2
  simp only [dU,List.mem_append,List.length_append,List.length_cons,List.length_nil,List.mem_singleton] at h ⊢
  rcases h with ((h | h) | h) | h
  ·have:=h1 h;omega
  ·have:=h2 h;omega
  ·have:=h3 h;omega
  omega
 | .timer _,x,h=> by simp [dU] at h ⊢;omega
 | .cancel _,x,h=> by simp [dU] at h ⊢;omega
 | .sync,x,h=> by simp [dU] at h ⊢;omega
 | .stop,x,h=> by simp [dU] at h ⊢;omega
 | .reply a b,x,h=> by
  have h2:=dS a 0 x
  have h3:=dS b 1 x
  have k2:=lJ a 0
  have k3:=lJ b 1
  simp only [dU,List.mem_append,List.length_append,List.length_cons,List.length_nil,List.mem_singleton] at h ⊢
  rcases h with (h | h) | h
  ·have:=h2 h;omega
  ·have:=h3 h;omega
  omega
 | .fail e,x,h=> by
  have:=dS e 0 x
  simp only [dU,List.mem_append,List.length_append,List.length_cons,List.length_nil,List.mem_singleton] at h ⊢
  rcases h with h | h
  ·have:=this h;omega
  omega
 | .loop c b,x,h=> by
  have h1:=dS c 0 x
  have h2:=mV b x
  simp only [dU,List.mem_append,List.length_append,List.length_cons,List.length_nil,List.mem_singleton] at h ⊢
  rcases h with ((h | h) | h) | h
  ·have:=h1 h;omega
  ·omega
  ·have:=h2 h;omega
  omega
 | .ite c a b,x,h=> by
  have h1:=dS c 0 x
  have h2:=mV a x
  have h3:=mV b x
  simp only [dU,List.mem_append,List.length_append,List.length_cons,List.length_nil,List.mem_singleton] at h ⊢
  rcases h with (((h | h) | h) | h) | h
  ·have:=h1 h;omega
  ·omega
  ·have:=h2 h;omega
  ·omega
  have:=h3 h;omega
theorem mV: ∀ (b:Bk) (x:Nat),x∈mb b→x≤(mb b).length
 | .nil,x,h=> by simp [mb] at h
 | .cons s b,x,h=> by
  have h1:=GT s x
  have h2:=mV b x
  simp only [mb,List.mem_append,List.length_append] at h ⊢
  rcases h with h | h
  ·have:=h1 h;omega
  have:=h2 h;omega
end
theorem xE: ∀ (l:List (Nat×Bk)) (x:Nat),x∈mc l→x≤(mc l).length
 | [],x,h=> by simp [mc] at h
 | (k,b)::l,x,h=> by
  have h1:=mV b x
  have h2:=xE l x
  simp only [mc,List.mem_append,List.length_append,List.length_cons,List.length_nil,List.mem_singleton] at h ⊢
  rcases h with (h | h) | h
  ·have:=h1 h;omega
  ·omega
  have:=h2 h;omega
theorem DC (l:List (Nat×Bk)) (i:Nat):yg l i≤(bE l 0).length:=by
 unfold yg
 rw [List.getD_eq_getElem?_getD]
 by_cases h:i < (mc l).length
 ·rw [List.getElem?_eq_getElem h,← pS l 0];exact xE l _ (List.getElem_mem h)
 rw [List.getElem?_eq_none ab];exact Nat.zero_le _

theorem oJ: ∀ (l m:List (Nat×Bk)) (a:Nat),bE (l++m) a=bE l a++bE m (a+(bE l a).length)
 | [],m,a=> by simp [bE]
 | (h,b)::l,m,a=> by
  simp only [List.cons_append,bE,oJ l m,List.append_assoc,List.length_append,List.length_cons,List.length_nil,Nat.add_assoc,Nat.zero_add,List.nil_append,Nat.add_comm 1 (List.length _)]
theorem uD: ∀ (l m:List (Nat×Bk)) (a:Nat),jL (l++m) a=jL l a++jL m (a+(bE l a).length)
 | [],m,a=> by simp [bE,jL]
 | (h,b)::l,m,a=> by
  simp only [List.cons_append,bE,jL,uD l m,List.append_assoc,List.length_append,List.length_cons,List.length_nil,Nat.add_assoc,Nat.zero_add,Nat.add_comm 1 (List.length _)]
def bI (l:List (Nat×Bk)) (k:Nat):Int:=(nO (jL l 0)).getD k (-1)
theorem Ab (l:List (Nat×Bk)) (p:Nat×Bk) (hp:p.1 < 40):bI (l++[p])=kB (bI l) p.1 (bE l 0).length:=by
 funext k
 have e:nO (jL (l++[p]) 0)=(nO (jL l 0)).set p.1 ((bE l 0).length:Int):=by
  rw [uD]
  obtain ⟨h,b⟩:=p
  simp only [jL,nO,List.foldl_append,List.foldl_cons,List.foldl_nil,Nat.zero_add]
 unfold bI kB
 rw [e,jO]
 by_cases hk:k=p.1
 ·rw [if_pos ⟨hk,by rw [AT];exact hp⟩,if_pos hk]
 rw [if_neg (fun h=> hk h.1),if_neg hk]
theorem wA (l:List (Nat×Bk)) (p:Nat×Bk):bE (l++[p]) 0=bE l 0++dv p.2 (bE l 0).length++[{ op:= .stop }]:=by
 rw [oJ]
 obtain ⟨h,b⟩:=p
 simp [bE]
def dV (h k:Nat):Int:=if k < h∨40≤k then -1 else 0
theorem DP (h:Nat) (hh:h < 40):kB (dV h) h (-1)=dV (h+1):=by
 funext k
 unfold kB dV
 by_cases h1:k=h
 ·rw [if_pos h1,if_pos ab]
 rw [if_neg h1]
 by_cases h2:k < h∨40≤k
 ·rw [if_pos h2,if_pos ab]
 rw [if_neg h2,if_neg ab]
theorem Eb:dV 40=bI []:=by
 funext k
 have e:bI [] k=(List.replicate 40 (-1:Int)).getD k (-1):=rfl
 rw [e,dV,if_pos ab,List.getD_eq_getElem?_getD,List.getElem?_replicate]
 by_cases hk:k < 40
 ·rw [if_pos hk];rfl
 rw [if_neg hk];rfl
theorem BE (ons:List (Nat×Bk)) (j:Nat) (h:j < ons.length):ons.take (j+1)=ons.take j++[ons[j]]:=List.take_succ_eq_append_getElem h
theorem pQ (ons:List (Nat×Bk)) (j:Nat):(bE (ons.take j) 0).length≤(bE ons 0).length:=by
 conv=> rhs;rw [← List.take_append_drop j ons,oJ]
 rw [List.length_append];omega
theorem yK {n:Nat} (h:n < 40):du (n:Int) 40=n:=by unfold du;rw [if_neg ab];omega
structure UOk (d v:List Tx) (ons:List (Nat×Bk)):Prop where
 nd:(d++v).Nodup
 len:(d++v).length≤16
 ok: ∀ p∈ons,kN (d++v).length p.2
 pp: ∀ p∈ons,sS p.2=true
 h: ∀ p∈ons,p.1 < 40
 c:(bE ons 0).length≤1000000
 n:ons.length≤1000
theorem UOk.good {d v:List Tx} {ons:List (Nat×Bk)} (U:UOk d v ons):Good (yg ons) (d++v).length 0 ((bE ons 0).length - 1) 0 (bE ons 0):=
 CC (yg ons) (d++v).length ons 0 0 ((bE ons 0).length - 1) U.ok (tD ons) (Nat.le_refl _) ab
theorem UOk.ent {d v:List Tx} {ons:List (Nat×Bk)} (U:UOk d v ons) (k:Nat):0≤bI ons k→bI ons k < (bE ons 0).length→yg ons (bI ons k).toNat=0:=fun h0 h1=> by
 rcases vZ ons k with h | ⟨e,_,h,_,h2⟩
 ·unfold bI at h0;omega
 unfold bI;rw [h,Int.toNat_natCast];exact h2
abbrev PD (d v:List Tx) (ons:List (Nat×Bk)):AV:= .agg (Bx (bE ons 0).length (inl (bE ons 0)) (bI ons) (d.length:Int) (v.length:Int))
abbrev zA:AV:= .agg (Ii (.v (.slice none 0 0)) (fun _=> 0) 0 0)
def Ld (ons:List (Nat×Bk)):Int:=if 400 < (bE ons 0).length then 2 else 13
abbrev Ez (d v:List Tx) (ons:List (Nat×Bk)):AV:=if kJ ons=true then .tup [PD d v ons, .v (.int .i64 0)] else .tup [zA, .v (.int .i64 (Ld ons))]
abbrev wh (d v:List Tx) (ons:List (Nat×Bk)):List Hd:=ons.map fun p=> (p.1,iy (d++v) p.2)
theorem ni (d v:List Tx) (ons:List (Nat×Bk)) (U:UOk d v ons):
  Spec Tryz.prog 57 (aI [JG d v (wh d v ons)] []) (aA (Ez d v ons) []):=by
 obtain ⟨H,hH⟩: ∃ H,H=wh d v ons:=⟨_,rfl⟩
 have hHl:H.length=ons.length:=by rw [hH,List.length_map]
 have hHk: ∀ k (h:k < ons.length),oH H k=((ons[k]).1,iy (d++v) (ons[k]).2):=fun k h=> by rw [hH];exact Ch ons _ k h
 rw [← hH]
 clear hH
 have hUn:=U.n
 have hUc:=U.c
 have hUl:=U.len
 have hdl:d.length≤16∧v.length≤16:=by rw [List.length_append] at hUl;omega
 refine Spec.ofN Tryz.func57 rfl Tryz.ntmps57 rfl ?_
 refine go 16 ?_
 refine aF fun K3 hK3=> ?_
 refine aG (cp rfl (am (aH ?_)))
 refine aB (Le.nilB (4,0) 0 (60,0) 48 2 rfl rfl rfl) ?_
 refine aS (α:=Nat) (fun q=> q≤40) 79 [(1,_),(2,_),(4,_)] [((1,0),_),((2,0),_),((60,0),_)] (fun q=> [(5, .v (.int .i64 (q:Int)))]) (fun q=> [((4,0), .box 26 [.ref (60,0) 0 0, .v (.int .i64 (dV q 0)), .v (.int .i64 (dV q 1)), .v (.int .i64 (dV q 2)), .v (.int .i64 (dV q 3)), .v (.int .i64 (dV q 4)), .v (.int .i64 (dV q 5)), .v (.int .i64 (dV q 6)), .v (.int .i64 (dV q 7)), .v (.int .i64 (dV q 8)), .v (.int .i64 (dV q 9)), .v (.int .i64 (dV q 10)), .v (.int .i64 (dV q 11)), .v (.int .i64 (dV q 12)), .v (.int .i64 (dV q 13)), .v (.int .i64 (dV q 14)), .v (.int .i64 (dV q 15)), .v (.int .i64 (dV q 16)), .v (.int .i64 (dV q 17)), .v (.int .i64 (dV q 18)), .v (.int .i64 (dV q 19)), .v (.int .i64 (dV q 20)), .v (.int .i64 (dV q 21)), .v (.int .i64 (dV q 22)), .v (.int .i64 (dV q 23)), .v (.int .i64 (dV q 24)), .v (.int .i64 (dV q 25)), .v (.int .i64 (dV q 26)), .v (.int .i64 (dV q 27)), .v (.int .i64 (dV q 28)), .v (.int .i64 (dV q 29)), .v (.int .i64 (dV q 30)), .v (.int .i64 (dV q 31)), .v (.int .i64 (dV q 32)), .v (.int .i64 (dV q 33)), .v (.int .i64 (dV q 34)), .v (.int .i64 (dV q 35)), .v (.int .i64 (dV q 36)), .v (.int .i64 (dV q 37)), .v (.int .i64 (dV q 38)), .v (.int .i64 (dV q 39)), .v (.int .i64 (d.length:Int)), .v (.int .i64 (v.length:Int))])]) [] [] (fun q=> 40 - q) 0 ?_ (kj [0,0,0,1] [] []) ?_
 ·omega
 intro q hq
 refine aF fun K5 hK5=> ?_
 refine go 4 ?_
 refine ax rfl (fun hc17=> ?_) (fun hc17=> ?_)
 ·refine aR (hK5 _ ?_)
  refine go 5 ?_
  refine aj (bO _ _ aa rfl rfl rfl q rfl ab (by exact congrArg (fun z=> 0+1+z) (Nat.mul_one q))) ?_
  refine aj (dE _ _ aa rfl rfl rfl rfl (show 0+1+q+1≤43 by omega) ((congrArg (fun z=> eO (Ii (.ref (60,0) 0 0) (dV q) (d.length:Int) (v.length:Int)) z [.v (.int .i64 (-1))]) ab).trans ((tb _ _ _ _ q ab _).trans (by rw [DP _ ab])))) ?_
  refine go 5 ?_
  refine ay (⟨q+1,?_,?_,?_⟩)
  ·omega
  ·exact kj [0,0,0,1] [] []
  omega
 obtain rfl:q=40:=by omega
 rw [Eb]
 refine aW (id (hK3 _ ?_))
 refine aF fun K8 hK8=> ?_
 refine aG (cp rfl (am (aH ?_)))
 refine aS (α:=Nat) (fun j=> j≤H.length) 79 [(1,_),(2,_),(4,_)] [((1,0),_),((2,0),_)] (fun j=> [(6, .v (.int .i64 (j:Int)))]) (fun j=> [((60,0), .row 48 2 (inl (bE (ons.take j) 0))),((4,0), .box 26 [.ref (60,0) 0 (bE (ons.take j) 0).length, .v (.int .i64 (bI (ons.take j) 0)), .v (.int .i64 (bI (ons.take j) 1)), .v (.int .i64 (bI (ons.take j) 2)), .v (.int .i64 (bI (ons.take j) 3)), .v (.int .i64 (bI (ons.take j) 4)), .v (.int .i64 (bI (ons.take j) 5)), .v (.int .i64 (bI (ons.take j) 6)), .v (.int .i64 (bI (ons.take j) 7)), .v (.int .i64 (bI (ons.take j) 8)), .v (.int .i64 (bI (ons.take j) 9)), .v (.int .i64 (bI (ons.take j) 10)), .v (.int .i64 (bI (ons.take j) 11)), .v (.int .i64 (bI (ons.take j) 12)), .v (.int .i64 (bI (ons.take j) 13)), .v (.int .i64 (bI (ons.take j) 14)), .v (.int .i64 (bI (ons.take j) 15)), .v (.int .i64 (bI (ons.take j) 16)), .v (.int .i64 (bI (ons.take j) 17)), .v (.int .i64 (bI (ons.take j) 18)), .v (.int .i64 (bI (ons.take j) 19)), .v (.int .i64 (bI (ons.take j) 20)), .v (.int .i64 (bI (ons.take j) 21)), .v (.int .i64 (bI (ons.take j) 22)), .v (.int .i64 (bI (ons.take j) 23)), .v (.int .i64 (bI (ons.take j) 24)), .v (.int .i64 (bI (ons.take j) 25)), .v (.int .i64 (bI (ons.take j) 26)), .v (.int .i64 (bI (ons.take j) 27)), .v (.int .i64 (bI (ons.take j) 28)), .v (.int .i64 (bI (ons.take j) 29)), .v (.int .i64 (bI (ons.take j) 30)), .v (.int .i64 (bI (ons.take j) 31)), .v (.int .i64 (bI (ons.take j) 32)), .v (.int .i64 (bI (ons.take j) 33)), .v (.int .i64 (bI (ons.take j) 34)), .v (.int .i64 (bI (ons.take j) 35)), .v (.int .i64 (bI (ons.take j) 36)), .v (.int .i64 (bI (ons.take j) 37)), .v (.int .i64 (bI (ons.take j) 38)), .v (.int .i64 (bI (ons.take j) 39)), .v (.int .i64 (d.length:Int)), .v (.int .i64 (v.length:Int))])]) [] [] (fun j=> H.length - j) 0 ?_ (kj [0,0,2,1] [] []) ?_
 ·omega
 intro j hj
 have hct:=pQ ons j
 refine aF fun K10 hK10=> ?_
 refine go 7 ?_
 refine ax rfl (fun hc27=> ?_) (fun hc27=> ?_)
 ·have hj:j < ons.length:=by omega
  have hct1:=pQ ons (j+1)
  have hUh:=U.h _ (List.getElem_mem hj)
  have hUo:=U.ok _ (List.getElem_mem hj)
  have hUp:=U.pp _ (List.getElem_mem hj)
  have hbody:=uf H j ab
  have hg0:=jS H j ab
  rw [hHk j hj] at hbody hg0
  have hsn:=wA (ons.take j) (ons[j])
  have hen:=Ab (ons.take j) (ons[j]) hUh
  rw [← BE ons j hj] at hsn hen
  have hsl:=congrArg List.length hsn
  simp only [List.length_append,List.length_cons,List.length_nil] at hsl
  have hcb:=Ge (d:=d) (v:=v) (no:=H.length) (on:=me H) U.nd ab (ons[j]).2 hUo hUp (bE (ons.take j) 0).length ab
  generalize dv (ons[j]).2 (bE (ons.take j) 0).length=C at hsn hsl hcb
  generalize (ons[j]).2=bd at hbody hcb
  generalize (ons[j]).1=h at hbody hg0 hen hUh
  have har:=jv (h:Int) 40 ab ab ab ab
  rw [yK hUh] at har
  refine aR (hK10 _ ?_)
  refine go 6 ?_
  refine aj (aQ _ _ aa rfl rfl _ rfl ab (by (simp only [aq,aJ,aM,bf,bc,bk,bg,bm,ed,aq,List.length_map];omega)) ag) ?_
  refine aj (eJ _ aa rfl rfl) (aj (bl _ aa rfl (by exact hg0) rfl) ?_)
  refine aj (ap aa al (har) rfl rfl) ?_
  refine go 8 ?_
  refine aj (bO _ _ aa rfl rfl rfl h rfl ab (by exact congrArg (fun z=> 0+1+z) (Nat.mul_one h))) ?_
  refine aj (dE _ _ aa rfl rfl rfl rfl (show 0+1+h+1≤43 by omega) ((congrArg (fun z=> eO (Ii (.ref (60,0) 0 (bE (ons.take j) 0).length) (bI (ons.take j)) (d.length:Int) (v.length:Int)) z [.v (.int .i64 ((bE (ons.take j) 0).length:Int))]) ab).trans ((tb _ _ _ _ h ab _).trans (by rw [← hen])))) ?_
  refine am (aE ?_)
  refine aB (σ':=an 79 [(1,_),(2,_),(4,_),(6,_)] [((1,0),_),((2,0),_),((60,0),_),((4,0),_)] [] []) kp ?_
  refine dA 13 [(50,0)] ?_
  refine go 12 ?_
  refine aC (_,[]) (fun τ=> aQ _ _ aa rfl rfl _ rfl ab (by (simp only [aq,aJ,aM,bf,bc,bk,bg,bm,ed,aq,List.length_map];omega)) ag) ?_
  refine go 3 ?_
  refine aC (_,[]) (fun τ=> bs _ aa rfl (by exact hbody) rfl) ?_
  refine go 7 ?_
  refine aC (_,[((50,0),_)]) (fun τ=> (bu aa [((0,8),(50,0))] ar (hcb.toI) trivial tr tr rfl rfl ae ae)) ?_
  refine go 1 ?_
  refine ci ⟨rfl,?_⟩
  refine aj (bG (56,0) _ _ aa rfl rfl (bm _).symm (.ref rfl (nG _) (lq _)) ab rfl (lP _ _) (show (bE (ons.take j) 0).length+C.length=(bE (ons.take j) 0++C).length by simp)) ?_
  refine go 3 ?_
  refine aB (σ':=an 79 [(1,_),(2,_),(4,_),(6,_)] [((1,0),_),((2,0),_),((4,0),_),((56,0),_)] [] []) kp ?_
  refine go 5 ?_
  refine aj (bG (62,0) _ _ aa rfl rfl (bm _).symm (.sl rfl) (by simp;omega) rfl ((eQ _ { op:= .stop }).trans (congrArg inl hsn.symm)) (show (bE (ons.take j) 0++C).length+1=(bE (ons.take (j+1)) 0).length by simp [hsl])) ?_
  refine go 7 ?_
  refine ay (⟨j+1,?_,?_,?_⟩)
  ·omega
  ·refine Le.mkJ [((60,0),(62,0))] [] rfl ?_ ?_ trivial trivial ?_
   ·exact ⟨(bv (id:=(1,0)) rfl),(bv (id:=(2,0)) rfl),(bv (id:=(4,0)) rfl),(aN ag),trivial⟩
   ·exact ⟨(cI rfl rfl rfl rfl (by repeat' (first | exact Lv.sl | exact aK | refine ai ?_ ?_))),(cI rfl rfl rfl rfl (by repeat' (first | exact Lv.v | exact aK | refine ai ?_ ?_))),(cD rfl rfl rfl ag),(cI rfl rfl rfl rfl lz),trivial⟩
   kernel_rfl
  omega
 obtain rfl:j=ons.length:=by omega
 rw [List.take_length]
 refine aW (id (hK8 _ ?_))
 refine go 7 ?_
 refine ax rfl (fun hc67=> ?_) (fun hc67=> ?_)
 ·have hco:kJ ons≠true:=by
   unfold kJ
   rw [decide_eq_false ab,Bool.false_and]
   exact Bool.false_ne_true
  rw [Ez,if_neg hco,Ld,if_pos ab]
  refine go 5 ?_
  exact au (km (.inr rfl) rfl (.cellA aa rfl rfl rfl) (.tmp kM) (Le.out [] [] (.tup rfl lz) rfl rfl rfl trivial trivial))
 have hl4:(bE ons 0).length≤400:=by omega
 refine cO (aF fun K19 hK19=> ?_)
 refine aG (cp rfl (am (aH ?_)))
 refine aB (Le.frzB (4,0) 0 rfl rfl rfl rfl (ys:=inl (bE ons 0)) (by rw [List.drop_zero];exact List.take_of_length_le (by rw [bm];omega)) (by rw [bm];omega)) ?_
 refine aS (α:=Nat) (fun h=> h≤40∧ ∀ k,k < h→kI (bE ons 0) (iW (bE ons 0) (bI ons k)).1 (bE ons 0).length≤16) 79 [(2,_),(4,_)] [((2,0),_)] (fun h=> [(8, .v (.int .i64 (h:Int)))]) (fun h=> [((4,0), .box 26 [.sl (bE ons 0).length (inl (bE ons 0)), .v (.int .i64 (bI ons 0)), .v (.int .i64 (bI ons 1)), .v (.int .i64 (bI ons 2)), .v (.int .i64 (bI ons 3)), .v (.int .i64 (bI ons 4)), .v (.int .i64 (bI ons 5)), .v (.int .i64 (bI ons 6)), .v (.int .i64 (bI ons 7)), .v (.int .i64 (bI ons 8)), .v (.int .i64 (bI ons 9)), .v (.int .i64 (bI ons 10)), .v (.int .i64 (bI ons 11)), .v (.int .i64 (bI ons 12)), .v (.int .i64 (bI ons 13)), .v (.int .i64 (bI ons 14)), .v (.int .i64 (bI ons 15)), .v (.int .i64 (bI ons 16)), .v (.int .i64 (bI ons 17)), .v (.int .i64 (bI ons 18)), .v (.int .i64 (bI ons 19)), .v (.int .i64 (bI ons 20)), .v (.int .i64 (bI ons 21)), .v (.int .i64 (bI ons 22)), .v (.int .i64 (bI ons 23)), .v (.int .i64 (bI ons 24)), .v (.int .i64 (bI ons 25)), .v (.int .i64 (bI ons 26)), .v (.int .i64 (bI ons 27)), .v (.int .i64 (bI ons 28)), .v (.int .i64 (bI ons 29)), .v (.int .i64 (bI ons 30)), .v (.int .i64 (bI ons 31)), .v (.int .i64 (bI ons 32)), .v (.int .i64 (bI ons 33)), .v (.int .i64 (bI ons 34)), .v (.int .i64 (bI ons 35)), .v (.int .i64 (bI ons 36)), .v (.int .i64 (bI ons 37)), .v (.int .i64 (bI ons 38)), .v (.int .i64 (bI ons 39)), .v (.int .i64 (d.length:Int)), .v (.int .i64 (v.length:Int))])]) [] [] (fun h=> 40 - h) 0 ?_ (kj [0,1] [] []) ?_
 ·exact ⟨Nat.zero_le _,fun k hk=> absurd hk (Nat.not_lt_zero _)⟩
 intro h hh
 obtain ⟨hk,hks⟩:=hh
 refine aF fun K21 hK21=> ?_
 refine go 4 ?_
 refine ax rfl (fun hc70=> ?_) (fun hc70=> ?_)
 ·have hh4:h < 40:=by omega
  have hdm:=nr (C:=bE ons 0) (qK U.good (U.ent h)) (B:=1000000) (fun i _=> Nat.le_trans (DC ons i) hUc) _ (Nat.le_refl _)
  have hde:=wS (bE ons 0) (bI ons) (d.length:Int) (v.length:Int) h hh4 hUc (yg ons) (d++v).length U.good (fun i=> Nat.le_trans (DC ons i) hUc) (U.ent h)
  refine aR (hK21 _ ?_)
  refine go 5 ?_
  refine aj (ap aa al (hde) rfl rfl) ?_
  refine aj (qj _ _ rfl rfl rfl) (am (ax rfl (fun hc76=> ?_) (fun hc76=> ?_)))
  ·have hco:kJ ons≠true:=fun e=> by
    unfold kJ at e
    rw [Bool.and_eq_true,List.all_eq_true] at e
    have:=e.2 h (List.mem_range.2 hh4)
    rw [decide_eq_true_eq] at this
    exact absurd (show kI (bE ons 0) (iW (bE ons 0) (bI ons h)).1 (bE ons 0).length≤16 from this) ab
   rw [Ez,if_neg hco,Ld,if_neg ab]
   refine go 5 ?_
   exact au (km (.inr rfl) rfl (.cellA aa rfl rfl rfl) (.tmp kM) (Le.out [] [] (.tup rfl lz) rfl rfl rfl trivial trivial))
  refine go 5 ?_
  refine ay (⟨h+1,?_,?_,?_⟩)
  ·exact ⟨by omega,fun k hk=> (by
    rcases Nat.lt_or_ge k h with hlt | hge
    ·exact hks k hlt
    obtain rfl:k=h:=by omega
    omega)⟩
  ·exact kj [0,1] [] []
  omega
 obtain rfl:h=40:=by omega
 have hco:kJ ons=true:=by
  unfold kJ
  rw [Bool.and_eq_true,decide_eq_true_eq,List.all_eq_true]
  exact ⟨hl4,fun k hk=> decide_eq_true (hks k (List.mem_range.1 hk))⟩
 refine aW (id (hK19 _ ?_))
 refine go 5 ?_
 refine au ?_
 rw [Ez,if_pos hco]
 exact km (.inr rfl) rfl (.cellA aa rfl rfl rfl) (.tmp kM) (Le.out [] [] (.tup rfl lz) rfl rfl rfl trivial trivial)
end Go.Proofs.YtmjnackchaahbaaGreat

set_option maxHeartbeats 2000000
namespace Go.Proofs.YtmjnackchaahbaaGreat
open Go.RowKit

structure lZ (s:Tx) (d v:List Tx) (ons:List (Nat×Bk)):Prop extends UOk d v ons where
 p:fN s=some (d,v,wh d v ons)
 l:s.length≤3000
 wl: ∀ p∈ons,qv p.2=true
theorem Db {s:Tx} {d v:List Tx} {ons:List (Nat×Bk)} (U:lZ s d v ons) (hc:kJ ons=true):
  Spec Tryz.prog 64 (aI [.v (bt s)] []) (aA (Ez d v ons) []):=by
 have h1:=qF s U.l _ _ _ U.p
 have h2:Spec Tryz.prog 97 (aI [JG d v (wh d v ons)] []) (aA (.v (.int .i64 0)) []):=qc d v ons U.nd U.len U.ok U.wl U.n
 have h3:=ni d v ons U.toUOk
 rw [Ez,if_pos hc] at h3 ⊢
 obtain ⟨H,hH⟩: ∃ H,H=wh d v ons:=⟨_,rfl⟩
 rw [← hH] at h1 h2 h3
 clear hH
 refine Spec.ofN Tryz.func64 rfl Tryz.ntmps64 rfl ?_
 refine go 6 ?_
 refine aj (ap aa al (h1) rfl rfl) ?_
 refine go 18 ?_
 refine aj (ap aa al (h2) rfl rfl) ?_
 refine cp rfl (am (aE (aE ?_)))
 refine aB (σ':=an 32 [(2,_),(4,_),(6,_)] [((2,0),_),((4,0),_)] [] []) kp ?_
 refine go 8 ?_
 refine aj (ap aa al (h3) rfl rfl) ?_
 refine go 13 ?_
 exact au (km (.inr rfl) rfl (.cellA aa rfl rfl rfl) (.tmp kM) (Le.out [] [] (.tup rfl lz) rfl rfl rfl trivial trivial))
theorem AD {s:Tx} {d v:List Tx} {ons:List (Nat×Bk)} (U:lZ s d v ons) (hc:kJ ons≠true):
  Spec Tryz.prog 64 (aI [.v (bt s)] []) (aA (Ez d v ons) []):=by
 have h1:=qF s U.l _ _ _ U.p
 have h2:Spec Tryz.prog 97 (aI [JG d v (wh d v ons)] []) (aA (.v (.int .i64 0)) []):=qc d v ons U.nd U.len U.ok U.wl U.n
 have h3:=ni d v ons U.toUOk
 rw [Ez,if_neg hc] at h3 ⊢
 generalize Ld ons=er at h3 ⊢
 obtain ⟨H,hH⟩: ∃ H,H=wh d v ons:=⟨_,rfl⟩
 rw [← hH] at h1 h2 h3
 clear hH
 refine Spec.ofN Tryz.func64 rfl Tryz.ntmps64 rfl ?_
 refine go 6 ?_
 refine aj (ap aa al (h1) rfl rfl) ?_
 refine go 18 ?_
 refine aj (ap aa al (h2) rfl rfl) ?_
 refine cp rfl (am (aE (aE ?_)))
 refine aB (σ':=an 32 [(2,_),(4,_),(6,_)] [((2,0),_),((4,0),_)] [] []) kp ?_
 refine go 8 ?_
 refine aj (ap aa al (h3) rfl rfl) ?_
 refine go 13 ?_
 exact au (km (.inr rfl) rfl (.cellA aa rfl rfl rfl) (.tmp kM) (Le.out [] [] (.tup rfl lz) rfl rfl rfl trivial trivial))
theorem wJ {s:Tx} {d v:List Tx} {ons:List (Nat×Bk)} (U:lZ s d v ons):
  Spec Tryz.prog 64 (aI [.v (bt s)] []) (aA (Ez d v ons) []):=by
 by_cases hc:kJ ons=true
 ·exact Db U hc
 exact AD U hc
def durs:List (List Tx):=[DO,Ck,Dx,BT,CD,CO,Ej,CH,Cj,DB,uy,uq]
def vols:List (List Tx):=[De,BS,CW,BX,CI,CF,Bm,Bt,CG,Bw,ux,vE]
def onss:List (List (Nat×Bk)):=[ons0,ons1,ons2,ons3,ons4,ons5,ons6,ons7,ons8,ons9,ons10,ons11]
theorem im {d v:List Tx} {ons:List (Nat×Bk)} (h:vS ons (d++v).length) (h1:(d++v).Nodup) (h2:(d++v).length≤16) (h3:(ons.all fun p=> sS p.2)=true) (h4:ons.length≤1000):UOk d v ons:=
 ⟨h1,h2,h.ok,fun p hp=> (List.all_eq_true.1 h3) p hp,h.h,by have:=h.n;omega,h4⟩
theorem JY:lZ (srcs.getD 0 []) DO De ons0:=⟨im srcOk0 ah ah ae ah,II,of_decide_eq_true ae,srcOk0.wl⟩
theorem JW:lZ (srcs.getD 1 []) Ck BS ons1:=⟨im srcOk1 ah ah ae ah,IW,of_decide_eq_true ae,srcOk1.wl⟩
theorem JE:lZ (srcs.getD 2 []) Dx CW ons2:=⟨im srcOk2 ah ah ae ah,IA,of_decide_eq_true ae,srcOk2.wl⟩
theorem Ky:lZ (srcs.getD 3 []) BT BX ons3:=⟨im srcOk3 ah ah ae ah,IM,of_decide_eq_true ae,srcOk3.wl⟩
theorem JX:lZ (srcs.getD 4 []) CD CI ons4:=⟨im srcOk4 ah ah ae ah,Il,of_decide_eq_true ae,srcOk4.wl⟩
theorem Kj:lZ (srcs.getD 5 []) CO CF ons5:=⟨im srcOk5 ah ah ae ah,HA,of_decide_eq_true ae,srcOk5.wl⟩
theorem JZ:lZ (srcs.getD 6 []) Ej Bm ons6:=⟨im srcOk6 ah ah ae ah,IK,of_decide_eq_true ae,srcOk6.wl⟩
theorem JH:lZ (srcs.getD 7 []) CH Bt ons7:=⟨im srcOk7 ah ah ae ah,HU,of_decide_eq_true ae,srcOk7.wl⟩
theorem Ki:lZ (srcs.getD 8 []) Cj CG ons8:=⟨im srcOk8 ah ah ae ah,IY,of_decide_eq_true ae,srcOk8.wl⟩
theorem JK:lZ (srcs.getD 9 []) DB Bw ons9:=⟨im srcOk9 ah ah ae ah,IU,of_decide_eq_true ae,srcOk9.wl⟩
theorem Ig:lZ (srcs.getD 10 []) uy ux ons10:=⟨im srcOk10 ah ah ae ah,ET,of_decide_eq_true ae,srcOk10.wl⟩
theorem Ij:lZ (srcs.getD 11 []) uq vE ons11:=⟨im srcOk11 ah ah ae ah,GR,of_decide_eq_true ae,srcOk11.wl⟩
theorem KG (k:Nat) (hk:k < 12):lZ (srcs.getD k []) (durs.getD k []) (vols.getD k []) (onss.getD k [])∧vS (onss.getD k []) (durs.getD k []++vols.getD k []).length:=by
 rcases k with _ | _ | _ | _ | _ | _ | _ | _ | _ | _ | _ | _ | k
 ·exact ⟨JY,srcOk0⟩
 ·exact ⟨JW,srcOk1⟩
 ·exact ⟨JE,srcOk2⟩
 ·exact ⟨Ky,srcOk3⟩
 ·exact ⟨JX,srcOk4⟩
 ·exact ⟨Kj,srcOk5⟩
 ·exact ⟨JZ,srcOk6⟩
 ·exact ⟨JH,srcOk7⟩
 ·exact ⟨Ki,srcOk8⟩
 ·exact ⟨JK,srcOk9⟩
 ·exact ⟨Ig,srcOk10⟩
 ·exact ⟨Ij,srcOk11⟩
 omega
theorem sN:Spec Tryz.prog 108 (aI [] []) (aA (.sl 12 (eM srcs)) []):=by
 refine Spec.ofN Tryz.func108 rfl Tryz.ntmps108 rfl ?_
 refine aG (aj (aX _ ea) (am (aG (aj (gK _ _ aa rfl ag (by (simp <;> rfl)) ah rfl) ?_))))
 exact Ee rfl (am (au (cq (.inr rfl) rfl (.tmp zq) (Le.out [] [] (cL rfl ae) rfl rfl rfl trivial trivial))))
theorem vA (n:Int) (h1: -9223372036854775808≤n) (h2:n≤9223372036854775807):
  Spec Tryz.prog 75 (aI [.v (.int .i64 n)] []) (aA (.v (bt (srcs.getD (du n 12).toNat []))) []):=by
 have ha:=jv n 12 ab ab h1 h2
 have hlo:=iC n 12 ab
 have hhi:=jU n 12 ab
 obtain ⟨k,hk⟩: ∃ k:Nat,du n 12=(k:Int):=⟨(du n 12).toNat,by omega⟩
 rw [hk] at ha hlo hhi ⊢
 have hk2:k < srcs.length:=by rw [Eo];omega
 have hg:=jx srcs k hk2
 have hs:=sN
 rw [Int.toNat_natCast]
 generalize srcs=S at hg hs hk2
 refine Spec.ofN Tryz.func75 rfl Tryz.ntmps75 rfl ?_
 refine aG (HX rfl (am (aG (aj (ap aa (by repeat' (exact bR)) (hs) rfl rfl) ?_))))
 refine go 7 ?_
 refine aj (ap aa al (ha) rfl rfl) ?_
 refine aj (aQ _ _ aa rfl rfl _ rfl ab (by (simp only [aq,aJ,aM,bf,bc,bk,bg,bm,ed,aq,List.length_map];omega)) (by exact Nat.mul_one _)) ?_
 refine aj (bl _ aa rfl (by exact hg) rfl) ?_
 exact HX rfl (am (au (eb rfl rfl)))
theorem sB (n:Int) (h1: -9223372036854775808≤n) (h2:n≤9223372036854775807):
  Spec Tryz.prog 39 (aI [.v (.int .i64 n)] []) (aA (PD (durs.getD (du n 12).toNat []) (vols.getD (du n 12).toNat []) (onss.getD (du n 12).toNat [])) []):=by
 have hs:=vA n h1 h2
 have hlo:=iC n 12 ab
 have hhi:=jU n 12 ab
 obtain ⟨k,hk⟩: ∃ k:Nat,du n 12=(k:Int):=⟨(du n 12).toNat,by omega⟩
 rw [hk] at hs hlo hhi ⊢
 rw [Int.toNat_natCast] at hs ⊢
 obtain ⟨U,hS⟩:=KG k ab
 have hb:=wJ U
 rw [Ez,if_pos (Aj hS)] at hb
 generalize srcs.getD k []=s at hs hb
 generalize durs.getD k []=d at hb ⊢
 generalize vols.getD k []=v at hb ⊢
 generalize onss.getD k []=ons at hb ⊢
 clear U hS
 refine Spec.ofN Tryz.func39 rfl Tryz.ntmps39 rfl ?_
 refine go 5 ?_
 refine aj (ap aa al (hs) rfl rfl) ?_
 refine aj (ap aa al (hb) rfl rfl) ?_
 refine go 11 ?_
 exact au (uo [])
end Go.Proofs.YtmjnackchaahbaaGreat

set_option maxHeartbeats 2000000
namespace Go.Proofs.YtmjnackchaahbaaGreat
open Go.RowKit

structure GL (L:List Int):Prop where
 n:L.length≤4611686018427387904
 r: ∀ x∈L, -9223372036854775808≤x∧x≤9223372036854775807
end Go.Proofs.YtmjnackchaahbaaGreat
