/- part 13 -/
import Derived.Test.YtmjnackchaahbaaGreatNsZ12
set_option linter.unusedSimpArgs false
set_option linter.unusedVariables false
namespace Go.Proofs.YtmjnackchaahbaaGreat
open Go.RowKit

abbrev Hx (c:AV) (e:Nat→Int) (d v:Int):List AV:=[c, .v (.int .i64 (e 0)), .v (.int .i64 (e 1)), .v (.int .i64 (e 2)), .v (.int .i64 (e 3)), .v (.int .i64 (e 4)), .v (.int .i64 (e 5)), .v (.int .i64 (e 6)), .v (.int .i64 (e 7)), .v (.int .i64 (e 8)), .v (.int .i64 (e 9)), .v (.int .i64 (e 10)), .v (.int .i64 (e 11)), .v (.int .i64 (e 12)), .v (.int .i64 (e 13)), .v (.int .i64 (e 14)), .v (.int .i64 (e 15)), .v (.int .i64 (e 16)), .v (.int .i64 (e 17)), .v (.int .i64 (e 18)), .v (.int .i64 (e 19)), .v (.int .i64 (e 20)), .v (.int .i64 (e 21)), .v (.int .i64 (e 22)), .v (.int .i64 (e 23)), .v (.int .i64 (e 24)), .v (.int .i64 (e 25)), .v (.int .i64 (e 26)), .v (.int .i64 (e 27)), .v (.int .i64 (e 28)), .v (.int .i64 (e 29)), .v (.int .i64 (e 30)), .v (.int .i64 (e 31)), .v (.int .i64 (e 32)), .v (.int .i64 (e 33)), .v (.int .i64 (e 34)), .v (.int .i64 (e 35)), .v (.int .i64 (e 36)), .v (.int .i64 (e 37)), .v (.int .i64 (e 38)), .v (.int .i64 (e 39)), .v (.int .i64 d), .v (.int .i64 v)]
abbrev EJ (n:Nat) (xs:List PV) (e:Nat→Int) (d v:Int):List AV:=Hx (.sl n xs) e d v
def ll (e:Nat→Int) (h:Nat) (x:Int):Nat→Int:=fun k=> if k=h then x else e k
theorem tB (c:AV) (e:Nat→Int) (d v:Int) (h:Nat) (hh:h < 40) (x:Int):fX (Hx c e d v) (1+h) [.v (.int .i64 x)]=Hx c (ll e h x) d v:=by
 rcases h with _ | _ | _ | _ | _ | _ | _ | _ | _ | _ | _ | _ | _ | _ | _ | _ | _ | _ | _ | _ | _ | _ | _ | _ | _ | _ | _ | _ | _ | _ | _ | _ | _ | _ | _ | _ | _ | _ | _ | _ | h
 all_goals first | rfl | omega
theorem sD (n:Nat) (xs:List PV) (e:Nat→Int) (d v:Int) (h:Nat) (hh:h < 40):(EJ n xs e d v)[1+h]? =some (.v (.int .i64 (e h))):=by
 rcases h with _ | _ | _ | _ | _ | _ | _ | _ | _ | _ | _ | _ | _ | _ | _ | _ | _ | _ | _ | _ | _ | _ | _ | _ | _ | _ | _ | _ | _ | _ | _ | _ | _ | _ | _ | _ | _ | _ | _ | _ | h
 all_goals first | rfl | omega
def GF (l:List Nat):List PV:=l.map fun (x:Nat)=> .v (.int .i64 (x:Int))
@[simp] theorem eF (l:List Nat):(GF l).length=l.length:=by simp [GF]
theorem Ew (l:List Nat) (k:Nat) (h:k < l.length):(GF l)[k]? =some (.v (.int .i64 (l.getD k 0:Int))):=by simp [GF,h]
theorem yS:Spec Tryz.prog 106 (ba [.v (.int .i64 1)] []) (aP (.v (.int .i64 0)) []):=by
 refine Spec.ofN Tryz.func106 rfl Tryz.ntmps106 rfl ?_
 refine am (be rfl (aj (aq (am (aX rfl (aj (ay (aq (iE rfl rfl rfl rfl rfl (aS ?_))))))))))
 exact bL rfl rfl (am (be rfl (aj (aG (fv rfl rfl)))))
theorem AK:Spec Tryz.prog 106 (ba [.v (.int .i64 2)] []) (aP (.v (.int .i64 0)) []):=by
 refine Spec.ofN Tryz.func106 rfl Tryz.ntmps106 rfl ?_
 refine am (be rfl (aj (aq (am (aX rfl (aj (ay (aq (cK rfl rfl rfl rfl rfl (iE rfl rfl rfl rfl rfl ?_))))))))))
 exact aS (bL rfl rfl (am (be rfl (aj (aG (fv rfl rfl))))))
theorem uY:Spec Tryz.prog 106 (ba [.v (.int .i64 3)] []) (aP (.v (.int .i64 1)) []):=by
 refine Spec.ofN Tryz.func106 rfl Tryz.ntmps106 rfl ?_
 refine am (be rfl (aj (aq (am (aX rfl (aj (ay (aq ?_))))))))
 iterate 7 refine cK rfl rfl rfl rfl rfl ?_
 refine aL (σ':=aD 31 [(3,_)] [] [] []) kp ?_
 refine ea rfl rfl rfl rfl rfl (aq ?_)
 iterate 3 refine cK rfl rfl rfl rfl rfl ?_
 exact iE rfl rfl rfl rfl rfl (aS (bL rfl rfl (am (be rfl (aj (aG (fv rfl rfl)))))))
theorem zo:Spec Tryz.prog 106 (ba [.v (.int .i64 4)] []) (aP (.v (.int .i64 0)) []):=by
 refine Spec.ofN Tryz.func106 rfl Tryz.ntmps106 rfl ?_
 refine am (be rfl (aj (aq (am (aX rfl (aj (ay (aq ?_))))))))
 iterate 2 refine cK rfl rfl rfl rfl rfl ?_
 exact iE rfl rfl rfl rfl rfl (aS (bL rfl rfl (am (be rfl (aj (aG (fv rfl rfl)))))))
theorem zn:Spec Tryz.prog 106 (ba [.v (.int .i64 5)] []) (aP (.v (.int .i64 1)) []):=by
 refine Spec.ofN Tryz.func106 rfl Tryz.ntmps106 rfl ?_
 refine am (be rfl (aj (aq (am (aX rfl (aj (ay (aq ?_))))))))
 iterate 7 refine cK rfl rfl rfl rfl rfl ?_
 refine aL (σ':=aD 31 [(3,_)] [] [] []) kp ?_
 exact ea rfl rfl rfl rfl rfl (aq (iE rfl rfl rfl rfl rfl (aS (bL rfl rfl (am (be rfl (aj (aG (fv rfl rfl)))))))))
theorem Au:Spec Tryz.prog 106 (ba [.v (.int .i64 6)] []) (aP (.v (.int .i64 2)) []):=by
 refine Spec.ofN Tryz.func106 rfl Tryz.ntmps106 rfl ?_
 refine am (be rfl (aj (aq (am (aX rfl (aj (ay (aq ?_))))))))
 iterate 7 refine cK rfl rfl rfl rfl rfl ?_
 refine aL (σ':=aD 31 [(3,_)] [] [] []) kp ?_
 refine ea rfl rfl rfl rfl rfl (aq ?_)
 iterate 5 refine cK rfl rfl rfl rfl rfl ?_
 refine ea rfl rfl rfl rfl rfl (aq (iE rfl rfl rfl rfl rfl (aS (bL rfl rfl (aq ?_)))))
 refine aL (σ':=aD 31 [] [] [] []) kp ?_
 exact an (be rfl (aj (aG (fv rfl rfl))))
theorem AJ:Spec Tryz.prog 106 (ba [.v (.int .i64 7)] []) (aP (.v (.int .i64 2)) []):=by
 refine Spec.ofN Tryz.func106 rfl Tryz.ntmps106 rfl ?_
 refine am (be rfl (aj (aq (am (aX rfl (aj (ay (aq ?_))))))))
 iterate 7 refine cK rfl rfl rfl rfl rfl ?_
 refine aL (σ':=aD 31 [(3,_)] [] [] []) kp ?_
 refine ea rfl rfl rfl rfl rfl (aq ?_)
 iterate 5 refine cK rfl rfl rfl rfl rfl ?_
 refine ea rfl rfl rfl rfl rfl (aq (cK rfl rfl rfl rfl rfl (aq ?_)))
 refine aL (σ':=aD 31 [(3,_)] [] [] []) kp ?_
 exact zI rfl rfl rfl rfl rfl (aS (bL rfl rfl (am (be rfl (aj (aG (fv rfl rfl)))))))
theorem Ak:Spec Tryz.prog 106 (ba [.v (.int .i64 8)] []) (aP (.v (.int .i64 2)) []):=by
 refine Spec.ofN Tryz.func106 rfl Tryz.ntmps106 rfl ?_
 refine am (be rfl (aj (aq (am (aX rfl (aj (ay (aq ?_))))))))
 iterate 7 refine cK rfl rfl rfl rfl rfl ?_
 refine aL (σ':=aD 31 [(3,_)] [] [] []) kp ?_
 refine ea rfl rfl rfl rfl rfl (aq ?_)
 iterate 5 refine cK rfl rfl rfl rfl rfl ?_
 refine ea rfl rfl rfl rfl rfl (aq (cK rfl rfl rfl rfl rfl (aq ?_)))
 refine aL (σ':=aD 31 [(3,_)] [] [] []) kp ?_
 exact ea rfl rfl rfl rfl rfl (iE rfl rfl rfl rfl rfl (aS (bL rfl rfl (am (be rfl (aj (aG (fv rfl rfl))))))))
theorem CS:Spec Tryz.prog 106 (ba [.v (.int .i64 9)] []) (aP (.v (.int .i64 2)) []):=by
 refine Spec.ofN Tryz.func106 rfl Tryz.ntmps106 rfl ?_
 refine am (be rfl (aj (aq (am (aX rfl (aj (ay (aq ?_))))))))
 iterate 7 refine cK rfl rfl rfl rfl rfl ?_
 refine aL (σ':=aD 31 [(3,_)] [] [] []) kp ?_
 refine ea rfl rfl rfl rfl rfl (aq ?_)
 iterate 5 refine cK rfl rfl rfl rfl rfl ?_
 refine ea rfl rfl rfl rfl rfl (aq (cK rfl rfl rfl rfl rfl (aq ?_)))
 refine aL (σ':=aD 31 [(3,_)] [] [] []) kp ?_
 exact ea rfl rfl rfl rfl rfl (cK rfl rfl rfl rfl rfl (iE rfl rfl rfl rfl rfl (aS (bL rfl rfl (am (be rfl (aj (aG (fv rfl rfl)))))))))
theorem Dx:Spec Tryz.prog 106 (ba [.v (.int .i64 10)] []) (aP (.v (.int .i64 1)) []):=by
 refine Spec.ofN Tryz.func106 rfl Tryz.ntmps106 rfl ?_
 refine am (be rfl (aj (aq (am (aX rfl (aj (ay (aq ?_))))))))
 iterate 7 refine cK rfl rfl rfl rfl rfl ?_
 refine aL (σ':=aD 31 [(3,_)] [] [] []) kp ?_
 exact ea rfl rfl rfl rfl rfl (aq (cK rfl rfl rfl rfl rfl (iE rfl rfl rfl rfl rfl (aS (bL rfl rfl (am (be rfl (aj (aG (fv rfl rfl))))))))))
theorem Fp:Spec Tryz.prog 106 (ba [.v (.int .i64 11)] []) (aP (.v (.int .i64 2)) []):=by
 refine Spec.ofN Tryz.func106 rfl Tryz.ntmps106 rfl ?_
 refine am (be rfl (aj (aq (am (aX rfl (aj (ay (aq ?_))))))))
 iterate 7 refine cK rfl rfl rfl rfl rfl ?_
 refine aL (σ':=aD 31 [(3,_)] [] [] []) kp ?_
 refine ea rfl rfl rfl rfl rfl (aq ?_)
 iterate 5 refine cK rfl rfl rfl rfl rfl ?_
 refine ea rfl rfl rfl rfl rfl (aq (cK rfl rfl rfl rfl rfl (aq ?_)))
 refine aL (σ':=aD 31 [(3,_)] [] [] []) kp ?_
 refine ea rfl rfl rfl rfl rfl ?_
 iterate 2 refine cK rfl rfl rfl rfl rfl ?_
 exact iE rfl rfl rfl rfl rfl (aS (bL rfl rfl (am (be rfl (aj (aG (fv rfl rfl)))))))
theorem Gc:Spec Tryz.prog 106 (ba [.v (.int .i64 12)] []) (aP (.v (.int .i64 2)) []):=by
 refine Spec.ofN Tryz.func106 rfl Tryz.ntmps106 rfl ?_
 refine am (be rfl (aj (aq (am (aX rfl (aj (ay (aq ?_))))))))
 iterate 7 refine cK rfl rfl rfl rfl rfl ?_
 refine aL (σ':=aD 31 [(3,_)] [] [] []) kp ?_
 refine ea rfl rfl rfl rfl rfl (aq ?_)
 iterate 5 refine cK rfl rfl rfl rfl rfl ?_
 refine ea rfl rfl rfl rfl rfl (aq (cK rfl rfl rfl rfl rfl (aq ?_)))
 refine aL (σ':=aD 31 [(3,_)] [] [] []) kp ?_
 refine ea rfl rfl rfl rfl rfl ?_
 iterate 3 refine cK rfl rfl rfl rfl rfl ?_
 exact iE rfl rfl rfl rfl rfl (aS (bL rfl rfl (am (be rfl (aj (aG (fv rfl rfl)))))))
theorem Ev:Spec Tryz.prog 106 (ba [.v (.int .i64 13)] []) (aP (.v (.int .i64 2)) []):=by
 refine Spec.ofN Tryz.func106 rfl Tryz.ntmps106 rfl ?_
 refine am (be rfl (aj (aq (am (aX rfl (aj (ay (aq ?_))))))))
 iterate 7 refine cK rfl rfl rfl rfl rfl ?_
 refine aL (σ':=aD 31 [(3,_)] [] [] []) kp ?_
 refine ea rfl rfl rfl rfl rfl (aq ?_)
 iterate 5 refine cK rfl rfl rfl rfl rfl ?_
 refine ea rfl rfl rfl rfl rfl (aq (cK rfl rfl rfl rfl rfl (aq ?_)))
 refine aL (σ':=aD 31 [(3,_)] [] [] []) kp ?_
 refine ea rfl rfl rfl rfl rfl ?_
 iterate 4 refine cK rfl rfl rfl rfl rfl ?_
 exact iE rfl rfl rfl rfl rfl (aS (bL rfl rfl (am (be rfl (aj (aG (fv rfl rfl)))))))
theorem Aq:Spec Tryz.prog 106 (ba [.v (.int .i64 14)] []) (aP (.v (.int .i64 1)) []):=by
 refine Spec.ofN Tryz.func106 rfl Tryz.ntmps106 rfl ?_
 refine am (be rfl (aj (aq (am (aX rfl (aj (ay (aq ?_))))))))
 iterate 7 refine cK rfl rfl rfl rfl rfl ?_
 refine aL (σ':=aD 31 [(3,_)] [] [] []) kp ?_
 refine ea rfl rfl rfl rfl rfl (aq ?_)
 iterate 2 refine cK rfl rfl rfl rfl rfl ?_
 exact iE rfl rfl rfl rfl rfl (aS (bL rfl rfl (am (be rfl (aj (aG (fv rfl rfl)))))))
theorem yT:Spec Tryz.prog 106 (ba [.v (.int .i64 15)] []) (aP (.v (.int .i64 0)) []):=by
 refine Spec.ofN Tryz.func106 rfl Tryz.ntmps106 rfl ?_
 refine am (be rfl (aj (aq (am (aX rfl (aj (ay (aq ?_))))))))
 iterate 3 refine cK rfl rfl rfl rfl rfl ?_
 exact iE rfl rfl rfl rfl rfl (aS (bL rfl rfl (am (be rfl (aj (aG (fv rfl rfl)))))))
theorem BQ:Spec Tryz.prog 106 (ba [.v (.int .i64 16)] []) (aP (.v (.int .i64 1)) []):=by
 refine Spec.ofN Tryz.func106 rfl Tryz.ntmps106 rfl ?_
 refine am (be rfl (aj (aq (am (aX rfl (aj (ay (aq ?_))))))))
 iterate 7 refine cK rfl rfl rfl rfl rfl ?_
 refine aL (σ':=aD 31 [(3,_)] [] [] []) kp ?_
 refine ea rfl rfl rfl rfl rfl (aq ?_)
 iterate 4 refine cK rfl rfl rfl rfl rfl ?_
 exact iE rfl rfl rfl rfl rfl (aS (bL rfl rfl (am (be rfl (aj (aG (fv rfl rfl)))))))
theorem yA:Spec Tryz.prog 106 (ba [.v (.int .i64 17)] []) (aP (.v (.int .i64 3)) []):=by
 refine Spec.ofN Tryz.func106 rfl Tryz.ntmps106 rfl ?_
 refine am (be rfl (aj (aq (am (aX rfl (aj (ay (aq ?_))))))))
 iterate 7 refine cK rfl rfl rfl rfl rfl ?_
 refine aL (σ':=aD 31 [(3,_)] [] [] []) kp ?_
 refine ea rfl rfl rfl rfl rfl (aq ?_)
 iterate 5 refine cK rfl rfl rfl rfl rfl ?_
 refine ea rfl rfl rfl rfl rfl (aq (cK rfl rfl rfl rfl rfl (aq ?_)))
 refine aL (σ':=aD 31 [(3,_)] [] [] []) kp ?_
 refine ea rfl rfl rfl rfl rfl ?_
 iterate 5 refine cK rfl rfl rfl rfl rfl ?_
 refine ea rfl rfl rfl rfl rfl (iE rfl rfl rfl rfl rfl (aq ?_))
 refine aL (σ':=aD 31 [] [] [] []) kp ?_
 exact an (be rfl (aj (aG (fv rfl rfl))))
theorem vJ:Spec Tryz.prog 106 (ba [.v (.int .i64 18)] []) (aP (.v (.int .i64 0)) []):=by
 refine Spec.ofN Tryz.func106 rfl Tryz.ntmps106 rfl ?_
 refine am (be rfl (aj (aq (am (aX rfl (aj (ay (aq ?_))))))))
 iterate 4 refine cK rfl rfl rfl rfl rfl ?_
 exact iE rfl rfl rfl rfl rfl (aS (bL rfl rfl (am (be rfl (aj (aG (fv rfl rfl)))))))
theorem vA:Spec Tryz.prog 106 (ba [.v (.int .i64 19)] []) (aP (.v (.int .i64 0)) []):=by
 refine Spec.ofN Tryz.func106 rfl Tryz.ntmps106 rfl ?_
 refine am (be rfl (aj (aq (am (aX rfl (aj (ay (aq ?_))))))))
 iterate 5 refine cK rfl rfl rfl rfl rfl ?_
 exact iE rfl rfl rfl rfl rfl (aS (bL rfl rfl (am (be rfl (aj (aG (fv rfl rfl)))))))
theorem yV:Spec Tryz.prog 106 (ba [.v (.int .i64 20)] []) (aP (.v (.int .i64 0)) []):=by
 refine Spec.ofN Tryz.func106 rfl Tryz.ntmps106 rfl ?_
 refine am (be rfl (aj (aq (am (aX rfl (aj (ay (aq ?_))))))))
 iterate 6 refine cK rfl rfl rfl rfl rfl ?_
 refine iE rfl rfl rfl rfl rfl (aS (bL rfl rfl (aq ?_)))
 refine aL (σ':=aD 31 [] [] [] []) kp ?_
 exact an (be rfl (aj (aG (fv rfl rfl))))
theorem wQ:Spec Tryz.prog 106 (ba [.v (.int .i64 21)] []) (aP (.v (.int .i64 2)) []):=by
 refine Spec.ofN Tryz.func106 rfl Tryz.ntmps106 rfl ?_
 refine am (be rfl (aj (aq (am (aX rfl (aj (ay (aq ?_))))))))
 iterate 7 refine cK rfl rfl rfl rfl rfl ?_
 refine aL (σ':=aD 31 [(3,_)] [] [] []) kp ?_
 refine ea rfl rfl rfl rfl rfl (aq ?_)
 iterate 5 refine cK rfl rfl rfl rfl rfl ?_
 refine ea rfl rfl rfl rfl rfl (aq (cK rfl rfl rfl rfl rfl (aq ?_)))
 refine aL (σ':=aD 31 [(3,_)] [] [] []) kp ?_
 refine ea rfl rfl rfl rfl rfl ?_
 iterate 5 refine cK rfl rfl rfl rfl rfl ?_
 exact zI rfl rfl rfl rfl rfl (am (be rfl (aj (aG (fv rfl rfl)))))
theorem xP:Spec Tryz.prog 106 (ba [.v (.int .i64 22)] []) (aP (.v (.int .i64 1)) []):=by
 refine Spec.ofN Tryz.func106 rfl Tryz.ntmps106 rfl ?_
 refine am (be rfl (aj (aq (am (aX rfl (aj (ay (aq ?_))))))))
 iterate 7 refine cK rfl rfl rfl rfl rfl ?_
 refine aL (σ':=aD 31 [(3,_)] [] [] []) kp ?_
 refine ea rfl rfl rfl rfl rfl (aq ?_)
 iterate 5 refine cK rfl rfl rfl rfl rfl ?_
 exact zI rfl rfl rfl rfl rfl (am (be rfl (aj (aG (fv rfl rfl)))))
theorem xY:Spec Tryz.prog 106 (ba [.v (.int .i64 23)] []) (aP (.v (.int .i64 0)) []):=by
 refine Spec.ofN Tryz.func106 rfl Tryz.ntmps106 rfl ?_
 refine am (be rfl (aj (aq (am (aX rfl (aj (ay (aq ?_))))))))
 iterate 7 refine cK rfl rfl rfl rfl rfl ?_
 refine aL (σ':=aD 31 [(3,_)] [] [] []) kp ?_
 exact zI rfl rfl rfl rfl rfl (am (be rfl (aj (aG (fv rfl rfl)))))
theorem rR (o:Opc):Spec Tryz.prog 106 (ba [.v (.int .i64 (o.num:Int))] []) (aP (.v (.int .i64 (o.pops:Int))) []):=by
 cases o
 ·exact yS
 ·exact AK
 ·exact uY
 ·exact zo
 ·exact zn
 ·exact Au
 ·exact AJ
 ·exact Ak
 ·exact CS
 ·exact Dx
 ·exact Fp
 ·exact Gc
 ·exact Ev
 ·exact Aq
 ·exact yT
 ·exact BQ
 ·exact yA
 ·exact vJ
 ·exact vA
 ·exact yV
 ·exact wQ
 ·exact xP
 exact xY
theorem yL:Spec Tryz.prog 107 (ba [.v (.int .i64 1)] []) (aP (.v (.int .i64 1)) []):=by
 refine Spec.ofN Tryz.func107 rfl Tryz.ntmps107 rfl ?_
 refine am (be rfl (aj (aq (am (aX rfl (aj (ay (aq (iE rfl rfl rfl rfl rfl (aS ?_))))))))))
 exact bL rfl rfl (am (be rfl (aj (aG (fv rfl rfl)))))
theorem zP:Spec Tryz.prog 107 (ba [.v (.int .i64 2)] []) (aP (.v (.int .i64 1)) []):=by
 refine Spec.ofN Tryz.func107 rfl Tryz.ntmps107 rfl ?_
 refine am (be rfl (aj (aq (am (aX rfl (aj (ay (aq (cK rfl rfl rfl rfl rfl (iE rfl rfl rfl rfl rfl ?_))))))))))
 exact aS (bL rfl rfl (am (be rfl (aj (aG (fv rfl rfl))))))
theorem vg:Spec Tryz.prog 107 (ba [.v (.int .i64 3)] []) (aP (.v (.int .i64 0)) []):=by
 refine Spec.ofN Tryz.func107 rfl Tryz.ntmps107 rfl ?_
 refine am (be rfl (aj (aq (am (aX rfl (aj (ay (aq ?_))))))))
 iterate 7 refine cK rfl rfl rfl rfl rfl ?_
 refine aq ?_
 refine aL (σ':=aD 18 [(3,_)] [] [] []) kp ?_
 refine ea rfl rfl rfl rfl rfl ?_
 iterate 4 refine cK rfl rfl rfl rfl rfl ?_
 exact ea rfl rfl rfl rfl rfl (cr (am (be rfl (aj (aG (fv rfl rfl))))))
theorem zf:Spec Tryz.prog 107 (ba [.v (.int .i64 4)] []) (aP (.v (.int .i64 1)) []):=by
 refine Spec.ofN Tryz.func107 rfl Tryz.ntmps107 rfl ?_
 refine am (be rfl (aj (aq (am (aX rfl (aj (ay (aq ?_))))))))
 iterate 2 refine cK rfl rfl rfl rfl rfl ?_
 exact iE rfl rfl rfl rfl rfl (aS (bL rfl rfl (am (be rfl (aj (aG (fv rfl rfl)))))))
theorem zg:Spec Tryz.prog 107 (ba [.v (.int .i64 5)] []) (aP (.v (.int .i64 1)) []):=by
 refine Spec.ofN Tryz.func107 rfl Tryz.ntmps107 rfl ?_
 refine am (be rfl (aj (aq (am (aX rfl (aj (ay (aq ?_))))))))
 iterate 3 refine cK rfl rfl rfl rfl rfl ?_
 exact iE rfl rfl rfl rfl rfl (aS (bL rfl rfl (am (be rfl (aj (aG (fv rfl rfl)))))))
theorem Ca:Spec Tryz.prog 107 (ba [.v (.int .i64 6)] []) (aP (.v (.int .i64 1)) []):=by
 refine Spec.ofN Tryz.func107 rfl Tryz.ntmps107 rfl ?_
 refine am (be rfl (aj (aq (am (aX rfl (aj (ay (aq ?_))))))))
 iterate 6 refine cK rfl rfl rfl rfl rfl ?_
 refine iE rfl rfl rfl rfl rfl (aS (bL rfl rfl (aq ?_)))
 refine aL (σ':=aD 18 [] [] [] []) kp ?_
 exact an (be rfl (aj (aG (fv rfl rfl))))
theorem DF:Spec Tryz.prog 107 (ba [.v (.int .i64 7)] []) (aP (.v (.int .i64 1)) []):=by
 refine Spec.ofN Tryz.func107 rfl Tryz.ntmps107 rfl ?_
 refine am (be rfl (aj (aq (am (aX rfl (aj (ay (aq ?_))))))))
 iterate 7 refine cK rfl rfl rfl rfl rfl ?_
 refine aq ?_
 refine aL (σ':=aD 18 [(3,_)] [] [] []) kp ?_
 exact zI rfl rfl rfl rfl rfl (aS (bL rfl rfl (am (be rfl (aj (aG (fv rfl rfl)))))))
theorem Dd:Spec Tryz.prog 107 (ba [.v (.int .i64 8)] []) (aP (.v (.int .i64 1)) []):=by
 refine Spec.ofN Tryz.func107 rfl Tryz.ntmps107 rfl ?_
 refine am (be rfl (aj (aq (am (aX rfl (aj (ay (aq ?_))))))))
 iterate 7 refine cK rfl rfl rfl rfl rfl ?_
 refine aq ?_
 refine aL (σ':=aD 18 [(3,_)] [] [] []) kp ?_
 exact ea rfl rfl rfl rfl rfl (iE rfl rfl rfl rfl rfl (aS (bL rfl rfl (am (be rfl (aj (aG (fv rfl rfl))))))))
theorem AG:Spec Tryz.prog 107 (ba [.v (.int .i64 9)] []) (aP (.v (.int .i64 1)) []):=by
 refine Spec.ofN Tryz.func107 rfl Tryz.ntmps107 rfl ?_
 refine am (be rfl (aj (aq (am (aX rfl (aj (ay (aq ?_))))))))
 iterate 7 refine cK rfl rfl rfl rfl rfl ?_
 refine aq ?_
 refine aL (σ':=aD 18 [(3,_)] [] [] []) kp ?_
 exact ea rfl rfl rfl rfl rfl (cK rfl rfl rfl rfl rfl (iE rfl rfl rfl rfl rfl (aS (bL rfl rfl (am (be rfl (aj (aG (fv rfl rfl)))))))))
theorem CH:Spec Tryz.prog 107 (ba [.v (.int .i64 10)] []) (aP (.v (.int .i64 1)) []):=by
 refine Spec.ofN Tryz.func107 rfl Tryz.ntmps107 rfl ?_
 refine am (be rfl (aj (aq (am (aX rfl (aj (ay (aq ?_))))))))
 iterate 4 refine cK rfl rfl rfl rfl rfl ?_
 exact iE rfl rfl rfl rfl rfl (aS (bL rfl rfl (am (be rfl (aj (aG (fv rfl rfl)))))))
theorem Ec:Spec Tryz.prog 107 (ba [.v (.int .i64 11)] []) (aP (.v (.int .i64 1)) []):=by
 refine Spec.ofN Tryz.func107 rfl Tryz.ntmps107 rfl ?_
 refine am (be rfl (aj (aq (am (aX rfl (aj (ay (aq ?_))))))))
 iterate 7 refine cK rfl rfl rfl rfl rfl ?_
 refine aq ?_
 refine aL (σ':=aD 18 [(3,_)] [] [] []) kp ?_
 refine ea rfl rfl rfl rfl rfl ?_
 iterate 2 refine cK rfl rfl rfl rfl rfl ?_
 exact iE rfl rfl rfl rfl rfl (aS (bL rfl rfl (am (be rfl (aj (aG (fv rfl rfl)))))))
theorem Fx:Spec Tryz.prog 107 (ba [.v (.int .i64 12)] []) (aP (.v (.int .i64 1)) []):=by
 refine Spec.ofN Tryz.func107 rfl Tryz.ntmps107 rfl ?_
 refine am (be rfl (aj (aq (am (aX rfl (aj (ay (aq ?_))))))))
 iterate 7 refine cK rfl rfl rfl rfl rfl ?_
 refine aq ?_
 refine aL (σ':=aD 18 [(3,_)] [] [] []) kp ?_
 refine ea rfl rfl rfl rfl rfl ?_
 iterate 3 refine cK rfl rfl rfl rfl rfl ?_
 exact iE rfl rfl rfl rfl rfl (aS (bL rfl rfl (am (be rfl (aj (aG (fv rfl rfl)))))))
theorem DV:Spec Tryz.prog 107 (ba [.v (.int .i64 13)] []) (aP (.v (.int .i64 1)) []):=by
 refine Spec.ofN Tryz.func107 rfl Tryz.ntmps107 rfl ?_
 refine am (be rfl (aj (aq (am (aX rfl (aj (ay (aq ?_))))))))
 iterate 7 refine cK rfl rfl rfl rfl rfl ?_
 refine aq ?_
 refine aL (σ':=aD 18 [(3,_)] [] [] []) kp ?_
 refine ea rfl rfl rfl rfl rfl ?_
 iterate 4 refine cK rfl rfl rfl rfl rfl ?_
 exact zI rfl rfl rfl rfl rfl (am (be rfl (aj (aG (fv rfl rfl)))))
theorem Cy:Spec Tryz.prog 107 (ba [.v (.int .i64 14)] []) (aP (.v (.int .i64 1)) []):=by
 refine Spec.ofN Tryz.func107 rfl Tryz.ntmps107 rfl ?_
 refine am (be rfl (aj (aq (am (aX rfl (aj (ay (aq ?_))))))))
 iterate 5 refine cK rfl rfl rfl rfl rfl ?_
 exact iE rfl rfl rfl rfl rfl (aS (bL rfl rfl (am (be rfl (aj (aG (fv rfl rfl)))))))
theorem zq:Spec Tryz.prog 107 (ba [.v (.int .i64 15)] []) (aP (.v (.int .i64 0)) []):=by
 refine Spec.ofN Tryz.func107 rfl Tryz.ntmps107 rfl ?_
 refine am (be rfl (aj (aq (am (aX rfl (aj (ay (aq ?_))))))))
 iterate 7 refine cK rfl rfl rfl rfl rfl ?_
 refine aq ?_
 refine aL (σ':=aD 18 [(3,_)] [] [] []) kp ?_
 refine ea rfl rfl rfl rfl rfl ?_
 iterate 4 refine cK rfl rfl rfl rfl rfl ?_
 exact ea rfl rfl rfl rfl rfl (cr (am (be rfl (aj (aG (fv rfl rfl))))))
theorem CY:Spec Tryz.prog 107 (ba [.v (.int .i64 16)] []) (aP (.v (.int .i64 0)) []):=by
 refine Spec.ofN Tryz.func107 rfl Tryz.ntmps107 rfl ?_
 refine am (be rfl (aj (aq (am (aX rfl (aj (ay (aq ?_))))))))
 iterate 7 refine cK rfl rfl rfl rfl rfl ?_
 refine aq ?_
 refine aL (σ':=aD 18 [(3,_)] [] [] []) kp ?_
 refine ea rfl rfl rfl rfl rfl ?_
 iterate 4 refine cK rfl rfl rfl rfl rfl ?_
 exact ea rfl rfl rfl rfl rfl (cr (am (be rfl (aj (aG (fv rfl rfl))))))
theorem yW:Spec Tryz.prog 107 (ba [.v (.int .i64 17)] []) (aP (.v (.int .i64 0)) []):=by
 refine Spec.ofN Tryz.func107 rfl Tryz.ntmps107 rfl ?_
 refine am (be rfl (aj (aq (am (aX rfl (aj (ay (aq ?_))))))))
 iterate 7 refine cK rfl rfl rfl rfl rfl ?_
 refine aq ?_
 refine aL (σ':=aD 18 [(3,_)] [] [] []) kp ?_
 refine ea rfl rfl rfl rfl rfl ?_
 iterate 4 refine cK rfl rfl rfl rfl rfl ?_
 exact ea rfl rfl rfl rfl rfl (cr (am (be rfl (aj (aG (fv rfl rfl))))))
theorem wm:Spec Tryz.prog 107 (ba [.v (.int .i64 18)] []) (aP (.v (.int .i64 0)) []):=by
 refine Spec.ofN Tryz.func107 rfl Tryz.ntmps107 rfl ?_
 refine am (be rfl (aj (aq (am (aX rfl (aj (ay (aq ?_))))))))
 iterate 7 refine cK rfl rfl rfl rfl rfl ?_
 refine aq ?_
 refine aL (σ':=aD 18 [(3,_)] [] [] []) kp ?_
 refine ea rfl rfl rfl rfl rfl ?_
 iterate 4 refine cK rfl rfl rfl rfl rfl ?_
 exact ea rfl rfl rfl rfl rfl (cr (am (be rfl (aj (aG (fv rfl rfl))))))
theorem uw:Spec Tryz.prog 107 (ba [.v (.int .i64 19)] []) (aP (.v (.int .i64 0)) []):=by
 refine Spec.ofN Tryz.func107 rfl Tryz.ntmps107 rfl ?_
 refine am (be rfl (aj (aq (am (aX rfl (aj (ay (aq ?_))))))))
 iterate 7 refine cK rfl rfl rfl rfl rfl ?_
 refine aq ?_
 refine aL (σ':=aD 18 [(3,_)] [] [] []) kp ?_
 refine ea rfl rfl rfl rfl rfl ?_
 iterate 4 refine cK rfl rfl rfl rfl rfl ?_
 exact ea rfl rfl rfl rfl rfl (cr (am (be rfl (aj (aG (fv rfl rfl))))))
theorem yR:Spec Tryz.prog 107 (ba [.v (.int .i64 20)] []) (aP (.v (.int .i64 0)) []):=by
 refine Spec.ofN Tryz.func107 rfl Tryz.ntmps107 rfl ?_
 refine am (be rfl (aj (aq (am (aX rfl (aj (ay (aq ?_))))))))
 iterate 7 refine cK rfl rfl rfl rfl rfl ?_
 refine aq ?_
 refine aL (σ':=aD 18 [(3,_)] [] [] []) kp ?_
 refine ea rfl rfl rfl rfl rfl ?_
 iterate 4 refine cK rfl rfl rfl rfl rfl ?_
 exact ea rfl rfl rfl rfl rfl (cr (am (be rfl (aj (aG (fv rfl rfl))))))
theorem wS:Spec Tryz.prog 107 (ba [.v (.int .i64 21)] []) (aP (.v (.int .i64 0)) []):=by
 refine Spec.ofN Tryz.func107 rfl Tryz.ntmps107 rfl ?_
 refine am (be rfl (aj (aq (am (aX rfl (aj (ay (aq ?_))))))))
 iterate 7 refine cK rfl rfl rfl rfl rfl ?_
 refine aq ?_
 refine aL (σ':=aD 18 [(3,_)] [] [] []) kp ?_
 refine ea rfl rfl rfl rfl rfl ?_
 iterate 4 refine cK rfl rfl rfl rfl rfl ?_
 exact ea rfl rfl rfl rfl rfl (cr (am (be rfl (aj (aG (fv rfl rfl))))))
theorem zk:Spec Tryz.prog 107 (ba [.v (.int .i64 22)] []) (aP (.v (.int .i64 0)) []):=by
 refine Spec.ofN Tryz.func107 rfl Tryz.ntmps107 rfl ?_
 refine am (be rfl (aj (aq (am (aX rfl (aj (ay (aq ?_))))))))
 iterate 7 refine cK rfl rfl rfl rfl rfl ?_
 refine aq ?_
 refine aL (σ':=aD 18 [(3,_)] [] [] []) kp ?_
 refine ea rfl rfl rfl rfl rfl ?_
 iterate 4 refine cK rfl rfl rfl rfl rfl ?_
 exact ea rfl rfl rfl rfl rfl (cr (am (be rfl (aj (aG (fv rfl rfl))))))
theorem zc:Spec Tryz.prog 107 (ba [.v (.int .i64 23)] []) (aP (.v (.int .i64 0)) []):=by
 refine Spec.ofN Tryz.func107 rfl Tryz.ntmps107 rfl ?_
 refine am (be rfl (aj (aq (am (aX rfl (aj (ay (aq ?_))))))))
 iterate 7 refine cK rfl rfl rfl rfl rfl ?_
 refine aq ?_
 refine aL (σ':=aD 18 [(3,_)] [] [] []) kp ?_
 refine ea rfl rfl rfl rfl rfl ?_
 iterate 4 refine cK rfl rfl rfl rfl rfl ?_
 exact ea rfl rfl rfl rfl rfl (cr (am (be rfl (aj (aG (fv rfl rfl))))))
theorem sw (o:Opc):Spec Tryz.prog 107 (ba [.v (.int .i64 (o.num:Int))] []) (aP (.v (.int .i64 (o.puts:Int))) []):=by
 cases o
 ·exact yL
 ·exact zP
 ·exact vg
 ·exact zf
 ·exact zg
 ·exact Ca
 ·exact DF
 ·exact Dd
 ·exact AG
 ·exact CH
 ·exact Ec
 ·exact Fx
 ·exact DV
 ·exact Cy
 ·exact zq
 ·exact CY
 ·exact yW
 ·exact wm
 ·exact uw
 ·exact yR
 ·exact wS
 ·exact zk
 exact zc
theorem opn_stop {o:Opc}:(o.num:Int)=23↔o= .stop:=by cases o <;> simp [Opc.num]
theorem opn_jump {o:Opc}:(o.num:Int)=15↔o= .jump:=by cases o <;> simp [Opc.num]
theorem opn_unl {o:Opc}:(o.num:Int)=16↔o= .unl:=by cases o <;> simp [Opc.num]
theorem zy (C:List eS) (e:Nat→Int) (dd vv:Int) (i:Nat) (hC:C.length≤1000000) (hi:i < C.length) (hn:(da C i).op= .jump∨(da C i).op= .unl→0≤(da C i).n):
  Spec Tryz.prog 73 (ba [.agg (EJ C.length (inl C) e dd vv), .v (.int .i64 (i:Int))] []) (aP (.sl (dT i (da C i)).length (GF (dT i (da C i)))) []):=by
 obtain ⟨x,hx⟩: ∃ x,x=da C i:=⟨_,rfl⟩
 have hg0:=nE C i hi
 have hg1:=Bh C i hi
 rw [← hx] at hn hg0 hg1 ⊢
 clear hx
 obtain ⟨o,n⟩:=x
 simp only at hn hg0 hg1
 refine Spec.ofN Tryz.func73 rfl Tryz.ntmps73 rfl ?_
 refine am (ai (aQ (2,0) _ rfl rfl) (ai (bq _ fG) (aj (aq (am (bc rfl rfl rfl (eW rfl rfl rfl (aX rfl (ai (bp _ _ aa rfl rfl _ rfl ab (by (simp only [aO,bi,bl,bw,bv,bI,bz,bP,eF];omega)) ag) ?_)))))))))
 refine ai (dg _ aa rfl rfl) (ai (bO _ aa rfl (by exact hg0) rfl) ?_)
 refine aj (ay (am (ai (bC _ _ rfl rfl rfl) (cq rfl (aj (aR rfl (fun hc11=> ?_) (fun hc11=> ?_)))))))
 ·skip
  obtain rfl:=opn_stop.1 hc11
  exact am (ai (bq _ fG) (aj (aG (bH (.inr rfl) rfl (.tmp kL) (Le.out [] [] .nil rfl rfl rfl trivial trivial)))))
 refine am (ai (bC _ _ rfl rfl rfl) (cq rfl (aj (aR rfl (fun hc13=> ?_) (fun hc13=> ?_)))))
 ·skip
  obtain rfl:=opn_jump.1 hc13
  have hn:=hn (.inl rfl)
  refine am (bc rfl rfl rfl (eW rfl rfl rfl (aX rfl (ai (bp _ _ aa rfl rfl _ rfl ab (by (simp only [aO,bi,bl,bw,bv,bI,bz,bP,eF];omega)) ag) ?_))))
  refine ai (dg _ aa rfl rfl) (ai (bO _ aa rfl (by exact hg1) rfl) ?_)
  refine ai (bg _ _ aa rfl ag (by (simp <;> rfl)) ah rfl) ?_
  exact kD rfl (aj (aG (bH (.inr rfl) rfl (.tmp nD) (Le.out [] [] (jc rfl (by simp [GF,dT,Int.toNat_of_nonneg hn])) rfl rfl rfl trivial trivial))))
 refine am (ai (bC _ _ rfl rfl rfl) (cq rfl (aj (aR rfl (fun hc22=> ?_) (fun hc22=> ?_)))))
 ·skip
  obtain rfl:=opn_unl.1 hc22
  have hn:=hn (.inr rfl)
  refine am (aX rfl (ai (aZ _ _ rfl rfl (bE ab)) ?_))
  refine bc rfl rfl rfl (eW rfl rfl rfl (aX rfl (ai (bp _ _ aa rfl rfl _ rfl ab (by (simp only [aO,bi,bl,bw,bv,bI,bz,bP,eF];omega)) ag) ?_)))
  refine ai (dg _ aa rfl rfl) (ai (bO _ aa rfl (by exact hg1) rfl) ?_)
  refine ai (bg _ _ aa rfl ag (by (simp <;> rfl)) ah rfl) ?_
  exact kD rfl (aj (aG (bH (.inr rfl) rfl (.tmp nD) (Le.out [] [] (jc rfl (by simp [GF,dT,Int.toNat_of_nonneg hn])) rfl rfl rfl trivial trivial))))
 have hs:dT i ⟨o,n⟩=[i+1]:=by
  unfold dT
  have h1:o≠ .stop:=fun e=> hc11 (opn_stop.2 e)
  have h2:o≠ .jump:=fun e=> hc13 (opn_jump.2 e)
  have h3:o≠ .unl:=fun e=> hc22 (opn_unl.2 e)
  cases o <;> first | rfl | exact absurd rfl h1 | exact absurd rfl h2 | exact absurd rfl h3
 refine cr (am (aX rfl (ai (aZ _ _ rfl rfl (bE ab)) ?_)))
 refine ai (bg _ _ aa rfl ag (by (simp <;> rfl)) ah rfl) ?_
 refine kD rfl (aj (aG ?_))
 rw [hs]
 exact bH (.inr rfl) rfl (.tmp nD) (Le.out [] [] (jc rfl (by simp [GF])) rfl rfl rfl trivial trivial)
instance Rv:Arr Tryz.prog 24 40 1:=Arr.of Tryz.underlying24 ae
instance PK:Arr Tryz.prog 30 9 1:=Arr.of Tryz.underlying30 ae
instance PA:Arr Tryz.prog 81 41 1:=Arr.of Tryz.underlying81 ae
instance Pc:Arr Tryz.prog 173 24 1:=Arr.of Tryz.underlying173 ae

theorem ii {l:List Int} {i:Nat} (h:i < l.length):l.getD i (-1)=l.getD i 0:=by
 rw [List.getD_eq_getElem?_getD,List.getD_eq_getElem?_getD,List.getElem?_eq_getElem h];rfl
theorem wE {n:Nat} {d:Int} {s:DS} {l:List Nat} {k:Nat} (h:k < l.length):(l.take (k+1)).foldl (jF n d) s=jF n d ((l.take k).foldl (jF n d) s) (l.getD k 0):=by
 rw [List.take_succ_eq_append_getElem h,List.foldl_append,List.getD_eq_getElem?_getD,List.getElem?_eq_getElem h];rfl
theorem Fc (n k:Nat) (h:k < n):((List.replicate k (-1:Int))++List.replicate (n - k) 0).set k (-1)=List.replicate (k+1) (-1)++List.replicate (n - (k+1)) 0:=by
 rw [List.set_append_right _ _ (by simp),List.length_replicate,Nat.sub_self,show n - k=(n - (k+1))+1 by omega,List.replicate_succ,List.set_cons_zero,show List.replicate (k+1) (-1:Int)=List.replicate k (-1)++[-1] from List.replicate_succ']
 simp
theorem Bz {ρ:aC→aC} {σ:St} {F:aC→Bool} {id:aC} {e:TypeId} {sz n m:Nat} {xs ys:List PV} (hid:σ.ob id= .obj (.row e sz xs)) (hF:F id=true) (hl:n*sz=xs.length) (hy:xs=ys) (hn:n=m):Lv ρ σ F (.sl m ys) (.ref id 0 n):=by
 subst hn;exact fg hid hF hl hy
theorem DI.flag {D:Nat→Nat} {n:Nat} {s:DS} {b:Bool} (h:DI D n s):DI D n (s.1,s.2.1,b):=⟨h.len,h.val,h.ok⟩
def yl (C:List eS) (R:List Int×Bool) (z:(List Int×Bool)×Bool):Prop:=if z.2=true then ∃ f,neg z.1.1+1≤f∧jL C f z.1=R else z.1=R
theorem yh {C:List eS} {R:List Int×Bool} {s:List Int×Bool} {f:Nat} (hf:neg s.1+1≤f) (hR:jL C f s=R) (hd:(dD C s C.length).2.2=true→neg (dD C s C.length).1 < neg s.1):
  yl C R (((dD C s C.length).1,(dD C s C.length).2.1),(dD C s C.length).2.2):=by
 obtain ⟨g,rfl⟩: ∃ g,f=g+1:=⟨f - 1,by omega⟩
 unfold yl
 cases hb:(dD C s C.length).2.2 with
 | true=>
  have:=hd hb
  rw [if_pos rfl]
  exact ⟨g,by simp only;omega,by rw [← hR,wv hb]⟩
 | false=> rw [if_neg (by simp)];rw [← hR,wy hb]
def Kf (z:(List Int×Bool)×Bool):Nat:=if z.2=true then neg z.1.1+1 else 0
theorem Ha {C:List eS} {s:List Int×Bool} (hd:(dD C s C.length).2.2=true→neg (dD C s C.length).1 < neg s.1):Kf (((dD C s C.length).1,(dD C s C.length).2.1),(dD C s C.length).2.2) < neg s.1+1:=by
 unfold Kf
 simp only
 split
 ·rename_i h;have:=hd h;omega
 omega
theorem zr {C:List eS} {s:DS} {i:Nat} (h:s.1.getD i (-1) < 0):lH C s i=s:=by unfold lH;rw [if_pos h]
theorem By {C:List eS} {s:DS} {i:Nat} (h: ¬ s.1.getD i (-1) < 0) (h2: ¬ s.1.getD i (-1) - (da C i).op.pops < 0):lH C s i=(dT i (da C i)).foldl (jF C.length (s.1.getD i (-1) - (da C i).op.pops+(da C i).op.puts)) s:=by
 unfold lH Ey
 rw [if_neg h,if_neg h2,show max (s.1.getD i (-1) - (da C i).op.pops) 0=s.1.getD i (-1) - (da C i).op.pops by omega]
theorem ui (C:List eS) (en:Nat→Int) (dd vv:Int) (e:Int) (hC:C.length≤1000000) (D:Nat→Nat) (nv:Nat) (hg:Good D nv 0 (C.length - 1) 0 C) (hD: ∀ i,D i≤1000000) (he:0≤e→e < C.length→D e.toNat=0):
  Spec Tryz.prog 72 (ba [.agg (EJ C.length (inl C) en dd vv), .v (.int .i64 e)] []) (aP (.tup [.sl (jo C e).1.length (cw (jo C e).1), .v (.bool (jo C e).2)]) []):=by
 refine Spec.ofN Tryz.func72 rfl Tryz.ntmps72 rfl ?_
 refine am (ai (aQ (2,0) _ rfl rfl) (ai (bq _ fG) (cq rfl (aj (am (bc rfl rfl rfl (eW rfl rfl rfl (ai (bn _ aa rfl) (ai (pZ (17,0) _ _ aa rfl rfl C.length rfl rfl ab rfl (ox C.length)) ?_)))))))))
 refine fj rfl (aj (aU fun K3 hK3=> ?_))
 refine am (be rfl (aj (ay ?_)))
 refine br (α:=Nat) (fun k=> k≤C.length) 123 [(1,_),(2,_)] [((2,0),_)] (fun k=> [(7, .v (.int .i64 (k:Int))),(6, .ref (6,0) 0 C.length)]) (fun k=> [((6,0), .row 3 1 (cw (List.replicate k (-1)++List.replicate (C.length - k) 0)))]) [] [] (fun k=> C.length - k) 0 ?_ (by
  refine Le.mkJ [((6,0),(17,0))] [] rfl ?_ ?_ trivial trivial ?_
  ·exact ⟨(by repeat' (exact Lv.v)),(dH (id:=(2,0)) rfl),(cp ag),(cO rfl ag),trivial⟩
  ·exact ⟨(fq rfl rfl rfl rfl (by repeat' (first | exact Lv.v | exact Lv.sl | exact bf | refine au ?_ ?_))),(fi rfl rfl rfl ag),trivial⟩
  kernel_rfl) ?_
 ·omega
 intro k hk
 have hll:(List.replicate k (-1:Int)++List.replicate (C.length - k) 0).length=C.length:=by simp;omega
 refine aU fun K5 hK5=> ?_
 refine am (aX rfl (gJ rfl (ai (dh _ aa rfl rfl) (ai (bm _ _ rfl rfl rfl) (aj (aR rfl (fun hc21=> ?_) (fun hc21=> ?_)))))))
 ·skip
  have hrs:=Fc C.length k ab
  refine bs (hK5 _ ?_)
  clear hK5;try clear K5
  refine aq (ay (an (gJ rfl (aX rfl (ai (gv _ _ aa rfl rfl rfl _ rfl ab (by exact (Nat.zero_add _).trans (Nat.mul_one _))) ?_)))))
  refine ai (oP _ _ aa rfl rfl rfl rfl rfl (by simp;omega) ((lX _ _ _ ab).trans (congrArg cw hrs))) ?_
  refine dY (an (aX rfl (ai (aZ _ _ rfl rfl (bE ab)) ?_)))
  refine be rfl (aJ (⟨k+1,?_,?_,?_⟩))
  ·omega
  ·skip
   refine Le.mkJ [] [] rfl ?_ ?_ trivial trivial ?_
   ·exact ⟨(iV rfl),(iP rfl),(cp ag),(cO rfl ag),trivial⟩
   ·exact ⟨(bM rfl rfl rfl),(fi rfl rfl rfl ag),trivial⟩
   kernel_rfl
  omega
 obtain rfl:k=C.length:=by omega
 have hrep:List.replicate C.length (-1:Int)++List.replicate (C.length - C.length) 0=List.replicate C.length (-1):=by simp
 refine bB (id (hK3 _ ?_))
 clear hK3;try clear K3
 refine aq (am (aX rfl (ai (bm _ _ rfl rfl rfl) (cN rfl (dj (fun hg29=> ?_) (fun hg29=> ?_))))))
 ·skip
  have hdf:jo C e=(List.replicate C.length (-1),true):=if_pos (.inl ab)
  refine aM rfl rfl ah ?_
  refine aM rfl rfl ah ?_
  refine aM rfl rfl ah ?_
  refine aM rfl rfl ah ?_
  refine ai (aE _ _ _ rfl bN) (aj (bL rfl rfl (am (gJ rfl (fj rfl (cq rfl (aj (aG ?_))))))))
  rw [hdf]
  exact jT (.inr rfl) rfl (.tmp dU) (.tmp bN) (Le.out [] [(6,0)] (.tup rfl (au (Bz rfl rfl (by simp) (congrArg cw hrep) (by simp)) lz)) rfl rfl rfl tr trivial)
 refine ax rfl rfl (aI _ eh) (ax rfl rfl (aI _ dU) (ax rfl rfl (dh _ aa rfl rfl) (ax rfl rfl (fu _ _ rfl rfl rfl) (ai (aE _ _ _ rfl bN) (aj (aR rfl (fun hc34=> ?_) (fun hc34=> ?_)))))))
 ·skip
  have hdf:jo C e=(List.replicate C.length (-1),true):=if_pos (.inr ab)
  refine am (gJ rfl (fj rfl (cq rfl (aj (aG ?_)))))
  rw [hdf]
  exact jT (.inr rfl) rfl (.tmp dU) (.tmp bN) (Le.out [] [(6,0)] (.tup rfl (au (Bz rfl rfl (by simp) (congrArg cw hrep) (by simp)) lz)) rfl rfl rfl tr trivial)
 have hdf:jo C e=jL C (C.length+1) ((List.replicate C.length (-1)).set e.toNat 0,true):=if_neg ab
 have hdi0:DI D C.length ((List.replicate C.length (-1)).set e.toNat 0,true,false):=by
  have hr: ∀ i,(List.replicate C.length (-1:Int)).getD i (-1)= -1:=fun i=> by rw [List.getD_eq_getElem?_getD,List.getElem?_replicate];split <;> rfl
  refine ⟨by simp,fun i hi=> ?_,rfl⟩
  simp only
  rw [ky]
  split
  ·rename_i h;right;rw [h.1,he ab ab];rfl
  exact .inl (hr i)
 have hn0:neg ((List.replicate C.length (-1)).set e.toNat 0)≤C.length:=by
  have:=List.countP_le_length (p:=fun x:Int=> decide (x < 0)) (l:=(List.replicate C.length (-1:Int)).set e.toNat 0)
  simpa [neg] using this
 obtain ⟨R,hR⟩: ∃ R,R=jo C e:=⟨_,rfl⟩
 rw [← hR] at hdf
 refine aS (am (gJ rfl (aX rfl (ai (gv _ _ aa rfl rfl rfl e.toNat ab ab (by exact (Nat.zero_add _).trans (Nat.mul_one _))) ?_))))
 refine ai (oP _ _ aa rfl rfl rfl rfl rfl (by simp;omega) ((lX _ _ _ (by simp;omega)).trans (congrArg (fun l=> cw (List.set l e.toNat 0)) hrep))) ?_
 refine aj (aq ?_)
 refine aL (σ':=aD 123 [(2,_),(6,_)] [((2,0),_),((6,0),_)] [] []) kp ?_
 refine an (cq rfl (aj (aU fun K14 hK14=> ?_)))
 refine am (cq rfl (aj (ay ?_)))
 refine br (α:=(List Int×Bool)×Bool) (fun z=> DI D C.length (z.1.1,z.1.2,false)∧yl C R z) 123 [(2,_),(6,_)] [((2,0),_)] (fun z=> [(8, .v (.bool z.1.2)),(9, .v (.bool z.2))]) (fun z=> [((6,0), .row 3 1 (cw z.1.1))]) [] [] (fun z=> Kf z) (((List.replicate C.length (-1)).set e.toNat 0,true),true) ?_ (by
  refine Le.mkJ [] [] rfl ?_ ?_ trivial trivial ?_
  ·exact ⟨(iP rfl),(iR rfl),(mz ag),(mz ag),trivial⟩
  ·exact ⟨(bM rfl rfl rfl),(fi rfl rfl rfl ag),trivial⟩
  kernel_rfl) ?_
 ·exact ⟨hdi0,by unfold yl;rw [if_pos rfl];exact ⟨C.length+1,by simp only;omega,hdf.symm⟩⟩
 intro z hz
 obtain ⟨s,ch⟩:=z
 obtain ⟨hdi,hz⟩:=hz
 simp only at hdi hz ⊢
 refine aU fun K16 hK16=> ?_
 refine am (cN rfl (aj (aR rfl (fun hc39=> ?_) (fun hc39=> ?_))))
 ·skip
  obtain ⟨f,hf1,hf2⟩: ∃ f,neg s.1+1≤f∧jL C f s=R:=by
   unfold yl at hz
   rwa [if_pos hc39] at hz
  have hpd:=(lJ hg hdi C.length (Nat.le_refl _)).2.2
  refine bs (hK16 _ ?_)
  clear hK16;try clear K16
  refine ay (am (cq rfl (aj (am (be rfl (aj (ay ?_)))))))
  refine br (α:=Nat) (fun i=> i≤C.length) 123 [(2,_),(6,_)] [((2,0),_)] (fun i=> [(10, .v (.int .i64 (i:Int))),(8, .v (.bool (dD C s i).2.1)),(9, .v (.bool (dD C s i).2.2))]) (fun i=> [((6,0), .row 3 1 (cw (dD C s i).1))]) [] [] (fun i=> C.length - i) 0 ?_ (by
   refine Le.mkJ [] [] rfl ?_ ?_ trivial trivial ?_
   ·exact ⟨(iP rfl),(iR rfl),(cp ag),(mz ag),(mz ag),trivial⟩
   ·exact ⟨(bM rfl rfl rfl),(fi rfl rfl rfl ag),trivial⟩
   kernel_rfl) ?_
  ·omega
  intro i hi
  have hw:=(lJ hg hdi i hi).1
  have hps:=pT C s i
  have hwl:=hw.len
  refine aU fun K20 hK20=> ?_
  refine am (aX rfl (gJ rfl (ai (dh _ aa rfl rfl) (ai (bm _ _ rfl rfl rfl) (aj (aR rfl (fun hc43=> ?_) (fun hc43=> ?_)))))))
  ·skip
   have hdn:=(lJ hg hdi (i+1) ab).1
   have hvi:=hw.val i ab
   generalize dD C s i=w at hw hps hwl hvi
   rw [ii ab] at hvi
   obtain ⟨hins,hpop,hsuc⟩:=hg i (da C i) (by unfold da;rw [List.getD_eq_getElem?_getD,List.getElem?_eq_getElem ab];rfl)
   rw [Nat.zero_add] at hpop hsuc
   have hDi:=hD i
   refine bs (hK20 _ ?_)
   clear hK20;try clear K20
   refine aU fun K22 hK22=> ?_
   refine ay (aq (am (gJ rfl (aX rfl (ai (gv _ _ aa rfl rfl rfl _ rfl ab (by exact (Nat.zero_add _).trans (Nat.mul_one _))) ?_)))))
   refine ai (mY _ aa rfl rfl (by exact dK _ _ ab) rfl) ?_
   refine ai (bm _ _ rfl rfl rfl) (aj (aR rfl (fun hc50=> ?_) (fun hc50=> ?_)))
   ·skip
    rw [zr (by rw [ii ab];omega)] at hps
    refine bB (id (hK22 _ ?_))
    clear hK22;try clear K22
    refine an (aX rfl (ai (aZ _ _ rfl rfl (bE ab)) ?_))
    refine be rfl (aJ (⟨i+1,?_,?_,?_⟩))
    ·omega
    ·skip
     refine Le.mkJ [] [] rfl ?_ ?_ trivial trivial ?_
     ·exact ⟨(iP rfl),(iR rfl),(cp ag),(mz (by (rw [hps]))),(mz (by (rw [hps]))),trivial⟩
     ·exact ⟨(bM rfl rfl rfl),(fi rfl rfl rfl (by (rw [hps]))),trivial⟩
     kernel_rfl
    omega
   have hvD:=hvi.resolve_left ab
   have hgo:=By (C:=C) (s:=w) (i:=i) (by rw [ii ab];omega) (by rw [ii ab];omega)
   rw [ii ab,hvD] at hgo
   rw [hgo] at hps
   obtain ⟨L,hL⟩: ∃ L,L=dT i (da C i):=⟨_,rfl⟩
   have hLl:L.length≤2:=by rw [hL];unfold dT;split <;> simp
   have hnn:(da C i).op= .jump∨(da C i).op= .unl→0≤(da C i).n:=by
    unfold di at hins
    rintro (e | e) <;> rw [e] at hins <;> exact hins
   have hnx:=zy C en dd vv i hC ab hnn
   rw [← hL] at hps hsuc hnx
   have hpp:=rR (da C i).op
   have hpq:=sw (da C i).op
   have hp3:(da C i).op.pops≤3:=by generalize (da C i).op=o;cases o <;> decide
   have hp4:(da C i).op.puts≤1:=by generalize (da C i).op=o;cases o <;> decide
   refine aS (aq ?_)
   refine aL (σ':=aD 123 [(2,_),(6,_),(8,_),(9,_),(10,_)] [((2,0),_),((6,0),_)] [] []) kp ?_
   refine bJ 13 [51,52,53,54,55,56,57,58,59,60,61,62,11] [] ae ae rfl (aK rfl) (rfl:_=[_,_,_,_,_,_,_,_,_,_,_,_,_]) (rfl:_=[]) ?_
   refine ap (_,[]) (fun τ=> aI _ dU) ?_
   refine fD rfl ?_
   refine ap (_,[]) (fun τ=> aI _ eh) ?_
   refine fF rfl ?_
   refine ap (_,[]) (fun τ=> gv _ _ aa rfl rfl rfl _ rfl ab (by exact (Nat.zero_add _).trans (Nat.mul_one _))) ?_
   refine fE rfl ?_
   refine ap (_,[]) (fun τ=> mY _ aa rfl rfl (by exact dK _ _ ab) rfl) ?_
   refine fS rfl ?_
   refine ap (_,[]) (fun τ=> aA _ aa rfl rfl rfl) ?_
   refine gf rfl ?_
   refine ap (_,[]) (fun τ=> aF _ aa rfl rfl ef) ?_
   refine gS rfl ?_
   refine ap (_,[]) (fun τ=> aI _ eh) ?_
   refine ir rfl ?_
   refine ap (_,[]) (fun τ=> bp _ _ aa rfl rfl _ rfl ab (by (simp only [aO,bi,bl,bw,bv,bI,bz,bP,eF,aO];omega)) ag) ?_
   refine jE rfl ?_
   refine ap (_,[]) (fun τ=> dg _ aa rfl rfl) ?_
   refine jU rfl ?_
   refine ap (_,[]) (fun τ=> bO _ aa rfl (by exact nE C i ab) rfl) ?_
   refine fy rfl ?_
   refine ap (_,[]) (fun τ=> (aH aa al (hpp) rfl rfl)) ?_
   refine gd rfl ?_
   refine ap (_,[]) (fun τ=> kU _ _ rfl rfl (bE (by rw [hvD];omega))) ?_
   refine jG rfl ?_
   refine ap (_,[]) (fun τ=> bq _ eh) ?_
   refine kT rfl (bj ⟨rfl,?_⟩)
   refine aj (aq (am (aX rfl (ai (bm _ _ rfl rfl rfl) (aj (aW rfl (decide_eq_false (by rw [hvD];omega)) ?_))))))
   refine aS (aq ?_)
   refine aL (σ':=aD 123 [(2,_),(6,_),(8,_),(9,_),(10,_),(11,_)] [((2,0),_),((6,0),_)] [] []) kp ?_
   refine an (aX rfl (bc rfl rfl rfl (eW rfl rfl rfl (aX rfl (ai (bp _ _ aa rfl rfl _ rfl ab (by (simp only [aO,bi,bl,bw,bv,bI,bz,bP,eF,aO];omega)) ag) ?_)))))
   refine ai (dg _ aa rfl rfl) (ai (bO _ aa rfl (by exact nE C i ab) rfl) ?_)
   refine ai (aH aa al (hpq) rfl rfl) ?_
   refine ai (aZ _ _ rfl rfl (bE (by rw [hvD];omega))) ?_
   refine be rfl (aj (am (ai (az _ aa rfl rfl rfl rfl) (aX rfl (ai (aH aa al (hnx) rfl rfl) ?_)))))
   refine kD rfl (aj (am (be rfl (aj (ay ?_)))))
   refine br (α:=Nat) (fun k=> k≤L.length) 123 [(2,_),(6,_),(10,_),(12,_)] [((2,0),_)] (fun k=> [(13, .v (.int .i64 (k:Int))),(11, .v (.int .i64 ((D i:Int) - (da C i).op.pops+(da C i).op.puts))),(8, .v (.bool ((L.take k).foldl (jF C.length ((D i:Int) - (da C i).op.pops+(da C i).op.puts)) w).2.1)),(9, .v (.bool ((L.take k).foldl (jF C.length ((D i:Int) - (da C i).op.pops+(da C i).op.puts)) w).2.2))]) (fun k=> [((6,0), .row 3 1 (cw ((L.take k).foldl (jF C.length ((D i:Int) - (da C i).op.pops+(da C i).op.puts)) w).1))]) [] [] (fun k=> L.length - k) 0 ?_ (by
    refine Le.mkJ [] [] rfl ?_ ?_ trivial trivial ?_
    ·exact ⟨(iP rfl),(iR rfl),(iV rfl),(iS rfl),(cp ag),(cp (by rw [hvD])),(mz ag),(mz ag),trivial⟩
    ·exact ⟨(bM rfl rfl rfl),(fi rfl rfl rfl ag),trivial⟩
    kernel_rfl) ?_
   ·omega
   intro k hk
   have hwd: ∀ j∈L,(D i:Int) - (da C i).op.pops+(da C i).op.puts=(D j:Int):=fun j hj=> by have:=(hsuc j hj).2.2;omega
   have hu:=(od (L.take k) hw (fun j hj=> hwd j (List.mem_of_mem_take hj))).1
   have hul:=hu.len
   refine aU fun K31 hK31=> ?_
   refine am (aX rfl (eV rfl (ai (bn _ aa rfl) (ai (bm _ _ rfl rfl rfl) (aj (aR rfl (fun hc80=> ?_) (fun hc80=> ?_)))))))
   ·skip
    have hfs:=wE (n:=C.length) (d:=(D i:Int) - (da C i).op.pops+(da C i).op.puts) (s:=w) (l:=L) (k:=k) ab
    have hu1:=(od (L.take (k+1)) hw (fun j hj=> hwd j (List.mem_of_mem_take hj))).1.len
    obtain ⟨j,hj⟩: ∃ j,j=L.getD k 0:=⟨_,rfl⟩
    have hjm:j∈L:=by rw [hj,List.getD_eq_getElem?_getD,List.getElem?_eq_getElem ab];exact List.getElem_mem ab
    obtain ⟨hj1,hj2,_⟩:=hsuc j hjm
    have hjn:j < C.length:=by omega
    have hwj:=hwd j hjm
    have hnk:=Ew L k ab
    rw [← hj] at hfs hnk
    have huv:=hu.val j hjn
    rw [ii ab] at huv
    generalize (L.take k).foldl (jF C.length ((D i:Int) - (da C i).op.pops+(da C i).op.puts)) w=u at hu hul hfs huv
    refine bs (hK31 _ ?_)
    clear hK31;try clear K31
    refine aq (ay (aq (am (eV rfl (aX rfl (ai (bp _ _ aa rfl rfl _ rfl ab (by (simp only [aO,bi,bl,bw,bv,bI,bz,bP,eF,aO];omega)) (by exact Nat.mul_one _)) ?_))))))
    refine ai (bO _ aa rfl (by exact hnk) rfl) ?_
    refine ai (bm _ _ rfl rfl rfl) (cN rfl (dj (fun hg88=> ?_) (fun hg88=> ?_)))
    ·skip
     exact absurd hg88 ab
    refine ax rfl rfl (aI _ nD) (ax rfl rfl (aI _ eh) (ax rfl rfl (bp _ _ aa rfl rfl _ rfl ab (by (simp only [aO,bi,bl,bw,bv,bI,bz,bP,eF,aO];omega)) (by exact Nat.mul_one _)) ?_))
    refine ax rfl rfl (bO _ aa rfl (by exact hnk) rfl) ?_
    refine ax rfl rfl (aI _ dU) (ax rfl rfl (dh _ aa rfl rfl) (ax rfl rfl (fu _ _ rfl rfl rfl) (ai (aE _ _ _ rfl bN) (aj (aW rfl (decide_eq_false ab) ?_)))))
    refine aS (aq ?_)
    refine aL (σ':=aD 123 [(2,_),(6,_),(8,_),(9,_),(10,_),(11,_),(12,_),(13,_)] [((2,0),_),((6,0),_)] [] []) kp ?_
    refine an (gJ rfl (eV rfl (aX rfl (ai (bp _ _ aa rfl rfl _ rfl ab (by (simp only [aO,bi,bl,bw,bv,bI,bz,bP,eF,aO];omega)) (by exact Nat.mul_one _)) ?_))))
    refine ai (bO _ aa rfl (by exact hnk) rfl) ?_
    refine ai (gv _ _ aa rfl rfl rfl _ rfl ab (by exact (Nat.zero_add _).trans (Nat.mul_one _))) ?_
    refine ai (mY _ aa rfl rfl (by exact dK _ _ ab) rfl) ?_
    refine ai (bm _ _ rfl rfl rfl) (aj (aR rfl (fun hc104=> ?_) (fun hc104=> ?_)))
    ·skip
     have hds:jF C.length ((D i:Int) - (da C i).op.pops+(da C i).op.puts) u j=(u.1.set j ((D i:Int) - (da C i).op.pops+(da C i).op.puts),u.2.1,true):=by
      unfold jF
      rw [if_neg ab,if_pos (by rw [ii ab];omega)]
     rw [hds] at hfs
     refine am (gJ rfl (eV rfl (aX rfl (ai (bp _ _ aa rfl rfl _ rfl ab (by (simp only [aO,bi,bl,bw,bv,bI,bz,bP,eF,aO];omega)) (by exact Nat.mul_one _)) ?_))))
     refine ai (bO _ aa rfl (by exact hnk) rfl) ?_
     refine aX rfl (ai (gv _ _ aa rfl rfl rfl _ rfl ab (by exact (Nat.zero_add _).trans (Nat.mul_one _))) ?_)
     refine ai (oP _ _ aa rfl rfl rfl rfl rfl (by simp;omega) (lX _ _ _ ab)) ?_
     refine aj ?_
     refine aL (σ':=aD 123 [(2,_),(6,_),(8,_),(10,_),(11,_),(12,_),(13,_)] [((2,0),_),((6,0),_)] [] []) kp ?_
     refine an (cq rfl (dY (an (aX rfl (ai (aZ _ _ rfl rfl (bE ab)) ?_)))))
     refine be rfl (aJ (⟨k+1,?_,?_,?_⟩))
     ·omega
     ·skip
      refine Le.mkJ [] [] rfl ?_ ?_ trivial trivial ?_
      ·exact ⟨(iP rfl),(iR rfl),(iV rfl),(iS rfl),(cp ag),(cp ag),(mz (by (rw [hfs]))),(mz (by (rw [hfs]))),trivial⟩
      ·exact ⟨(bM rfl rfl rfl),(fi rfl rfl rfl (by (rw [hfs]))),trivial⟩
      kernel_rfl
     omega
    have hds:jF C.length ((D i:Int) - (da C i).op.pops+(da C i).op.puts) u j=u:=by
     unfold jF
     rw [if_neg ab,if_neg (by rw [ii ab];omega),if_neg (by rw [ii ab];omega)]
    rw [hds] at hfs
    refine am (gJ rfl (eV rfl (aX rfl (ai (bp _ _ aa rfl rfl _ rfl ab (by (simp only [aO,bi,bl,bw,bv,bI,bz,bP,eF,aO];omega)) (by exact Nat.mul_one _)) ?_))))
    refine ai (bO _ aa rfl (by exact hnk) rfl) ?_
    refine ai (gv _ _ aa rfl rfl rfl _ rfl ab (by exact (Nat.zero_add _).trans (Nat.mul_one _))) ?_
    refine ai (mY _ aa rfl rfl (by exact dK _ _ ab) rfl) ?_
    refine aX rfl (ai (bU _ _ rfl rfl rfl) (aj (aW rfl (by rw [bne_eq_false_iff_eq];omega) ?_)))
    refine cr ?_
    refine aL (σ':=aD 123 [(2,_),(6,_),(8,_),(9,_),(10,_),(11,_),(12,_),(13,_)] [((2,0),_),((6,0),_)] [] []) kp ?_
    refine an (aX rfl (ai (aZ _ _ rfl rfl (bE ab)) ?_))
    refine be rfl (aJ (⟨k+1,?_,?_,?_⟩))
    ·omega
    ·skip
     refine Le.mkJ [] [] rfl ?_ ?_ trivial trivial ?_
     ·exact ⟨(iP rfl),(iR rfl),(iV rfl),(iS rfl),(cp ag),(cp ag),(mz (by (rw [hfs]))),(mz (by (rw [hfs]))),trivial⟩
     ·exact ⟨(bM rfl rfl rfl),(fi rfl rfl rfl (by (rw [hfs]))),trivial⟩
     kernel_rfl
    omega
   obtain rfl:k=L.length:=by omega
   rw [List.take_length] at hu hul
   rw [List.take_length]
   refine bB (id (hK22 _ ?_))
   clear hK22;try clear K22
   refine an (aX rfl (ai (aZ _ _ rfl rfl (bE ab)) ?_))
   refine be rfl (aJ (⟨i+1,?_,?_,?_⟩))
   ·omega
   ·skip
    refine Le.mkJ [] [] rfl ?_ ?_ trivial trivial ?_
    ·exact ⟨(iP rfl),(iR rfl),(cp ag),(mz (by (rw [hps]))),(mz (by (rw [hps]))),trivial⟩
    ·exact ⟨(bM rfl rfl rfl),(fi rfl rfl rfl (by (rw [hps]))),trivial⟩
    kernel_rfl
   omega
  obtain rfl:i=C.length:=by omega
  refine bB (id (⟨(((dD C s C.length).1,(dD C s C.length).2.1),(dD C s C.length).2.2),?_,?_,?_⟩))
  ·exact ⟨hw.flag,yh hf1 hf2 hpd⟩
  ·skip
   refine Le.mkJ [] [] rfl ?_ ?_ trivial trivial ?_
   ·exact ⟨(iP rfl),(iR rfl),(mz ag),(mz ag),trivial⟩
   ·exact ⟨(bM rfl rfl rfl),(fi rfl rfl rfl ag),trivial⟩
   kernel_rfl
  rw [show Kf (s,ch)=neg s.1+1 from if_pos hc39];exact Ha hpd
 have hzR:s=R:=by
  unfold yl at hz
  rwa [if_neg (by simp [hc39])] at hz
 subst hzR
 have hsl:=hdi.len
 refine bB (id (hK14 _ ?_))
 clear hK14;try clear K14
 refine am (gJ rfl (cN rfl (fj rfl (cq rfl (aj (aG ?_))))))
 rw [← hR]
 exact jT (.inr rfl) rfl (.tmp dU) (.tmp bN) (Le.out [] [(6,0)] (.tup rfl (au (Bz rfl rfl (by simp only at hsl;simp [hsl]) rfl hsl.symm) lz)) rfl rfl rfl tr trivial)
theorem wL (C:List eS) (en:Nat→Int) (dd vv:Int) (h:Nat) (hh:h < 40) (hC:C.length≤1000000) (D:Nat→Nat) (nv:Nat) (hg:Good D nv 0 (C.length - 1) 0 C) (hD: ∀ i,D i≤1000000) (he:0≤en h→en h < C.length→D (en h).toNat=0):
  Spec Tryz.prog 74 (ba [.agg (EJ C.length (inl C) en dd vv), .v (.int .i64 (h:Int))] []) (aP (.v (.int .i64 (lb C (jo C (en h)).1 C.length))) []):=by
 have hds:=ui C en dd vv (en h) hC D nv hg hD he
 have hdi:=qd hg he
 have hdl:=hdi.len
 have hml:=fun k (hk:k≤C.length)=> nn (C:=C) (n:=C.length) hdi (B:=1000000) (fun i _=> hD i) k hk
 generalize jo C (en h)=R at hds hdi hdl hml
 have hen:=sD C.length (inl C) en dd vv h hh
 refine Spec.ofN Tryz.func74 rfl Tryz.ntmps74 rfl ?_
 refine am (ai (aQ (2,0) _ rfl rfl) (be rfl (aj (aq (bJ 11 [11,12,13,14,15,16,10,17,18,5,6] [] ae ae rfl (aK rfl) (rfl:_=[_,_,_,_,_,_,_,_,_,_,_]) (rfl:_=[]) ?_)))))
 refine ap (_,[]) (fun τ=> az _ aa rfl rfl rfl rfl) ?_
 refine fD rfl ?_
 refine ap (_,[]) (fun τ=> aI _ eh) ?_
 refine fF rfl ?_
 refine ap (_,[]) (fun τ=> aA _ aa rfl rfl rfl) ?_
 refine fE rfl ?_
 refine ap (_,[]) (fun τ=> cY _ _ aa rfl rfl rfl h rfl ab (by exact congrArg (fun z=> 0+1+z) (Nat.mul_one h))) ?_
 refine fS rfl ?_
 refine ap (_,[]) (fun τ=> aF _ aa rfl rfl (by exact (congrArg (fun z=> (EJ C.length (inl C) en dd vv)[z]?) ab).trans hen)) ?_
 refine gf rfl ?_
 refine ap (_,[]) (fun τ=> (aH aa al (hds) rfl rfl)) ?_
 refine gS rfl ?_
 refine ap (_,[]) (fun τ=> aI _ tA) ?_
 refine ir rfl ?_
 refine ap (_,[]) (fun τ=> cm _ rfl ef) ?_
 refine jE rfl ?_
 refine ap (_,[]) (fun τ=> cm _ rfl zx) ?_
 refine jU rfl ?_
 refine ap (_,[]) (fun τ=> bq _ nD) ?_
 refine fy rfl ?_
 refine ap (_,[]) (fun τ=> bq _ bN) ?_
 refine gd rfl (bj ⟨rfl,?_⟩)
 refine aj (am (be rfl (aj (aU fun K4 hK4=> ?_))))
 refine am (be rfl (aj (ay ?_)))
 refine br (α:=Nat) (fun k=> k≤C.length) 53 [(2,_),(5,_)] [((2,0),_)] (fun k=> [(8, .v (.int .i64 (k:Int))),(7, .v (.int .i64 (lb C R.1 k)))]) (fun k=> []) [] [] (fun k=> C.length - k) 0 ?_ (by
  refine Le.mkJ [] [] rfl ?_ ?_ trivial trivial ?_
  ·exact ⟨(iP rfl),(iS rfl),(cp ag),(cp ag),trivial⟩
  ·exact ⟨(bM rfl rfl rfl),trivial⟩
  kernel_rfl) ?_
 ·omega
 intro k hk
 have hm1:=hml k hk
 have hs:=qm C R.1 k
 simp only at hdl hm1
 refine aU fun K6 hK6=> ?_
 refine am (aX rfl (eV rfl (ai (bn _ aa rfl) (ai (bm _ _ rfl rfl rfl) (aj (aR rfl (fun hc22=> ?_) (fun hc22=> ?_)))))))
 ·skip
  have hm2:=hml (k+1) ab
  have hv:=hdi.val k ab
  simp only at hv hm2
  rw [ii ab] at hv hs
  have hDk:=hD k
  obtain ⟨q,hq⟩: ∃ q,q=da C k:=⟨_,rfl⟩
  have hp3:q.op.pops≤3:=by generalize q.op=o;cases o <;> decide
  have hp4:q.op.puts≤1:=by generalize q.op=o;cases o <;> decide
  have hpp:=rR q.op
  have hpq:=sw q.op
  have hg0:=nE C k ab
  rw [← hq] at hg0 hs
  refine bs (hK6 _ ?_)
  clear hK6;try clear K6
  refine aq (ay (am (eV rfl (aX rfl (ai (bp _ _ aa rfl rfl _ rfl ab (by (simp only [aO,bi,bl,bw,bv,bI,bz,bP,eF,aO];omega)) (by exact Nat.mul_one _)) ?_)))))
  refine ai (bO _ aa rfl (by exact dK _ _ ab) rfl) ?_
  refine ai (fu _ _ rfl rfl rfl) (aj (aR rfl (fun hc29=> ?_) (fun hc29=> ?_)))
  ·skip
   rw [if_pos ab] at hs
   refine am (bc rfl rfl rfl (eW rfl rfl rfl (aX rfl (ai (bp _ _ aa rfl rfl _ rfl ab (by (simp only [aO,bi,bl,bw,bv,bI,bz,bP,eF,aO];omega)) ag) ?_))))
   refine ai (dg _ aa rfl rfl) (ai (bO _ aa rfl (by exact hg0) rfl) ?_)
   refine be rfl (aj ?_)
   refine aL (σ':=aD 53 [(2,_),(5,_),(7,_),(8,_),(9,_)] [((2,0),_)] [] []) kp ?_
   refine bJ 16 [36,37,38,39,40,41,42,43,44,45,46,47,48,49,50,51] [] ae ae rfl (aK rfl) (rfl:_=[_,_,_,_,_,_,_,_,_,_,_,_,_,_,_,_]) (rfl:_=[_]) ?_
   refine ap (_,[]) (fun τ=> aI _ eh) ?_
   refine fD rfl ?_
   refine ap (_,[]) (fun τ=> aI _ nD) ?_
   refine fF rfl ?_
   refine ap (_,[]) (fun τ=> aI _ eh) ?_
   refine fE rfl ?_
   refine ap (_,[]) (fun τ=> bp _ _ aa rfl rfl _ rfl ab (by (simp only [aO,bi,bl,bw,bv,bI,bz,bP,eF,aO];omega)) (by exact Nat.mul_one _)) ?_
   refine fS rfl ?_
   refine ap (_,[]) (fun τ=> bO _ aa rfl (by exact dK _ _ ab) rfl) ?_
   refine gf rfl ?_
   refine ap (_,[]) (fun τ=> aI _ nD) ?_
   refine gS rfl ?_
   refine ap (_,[]) (fun τ=> aI _ eh) ?_
   refine ir rfl ?_
   refine ap (_,[]) (fun τ=> bp _ _ aa rfl rfl _ rfl ab (by (simp only [aO,bi,bl,bw,bv,bI,bz,bP,eF,aO];omega)) (by exact Nat.mul_one _)) ?_
   refine jE rfl ?_
   refine ap (_,[]) (fun τ=> bO _ aa rfl (by exact dK _ _ ab) rfl) ?_
   refine jU rfl ?_
   refine ap (_,[]) (fun τ=> aI _ eh) ?_
   refine fy rfl ?_
   refine ap (_,[]) (fun τ=> (aH aa al (hpp) rfl rfl)) ?_
   refine gd rfl ?_
   refine ap (_,[]) (fun τ=> kU _ _ rfl rfl (bE ab)) ?_
   refine jG rfl ?_
   refine ap (_,[]) (fun τ=> aI _ eh) ?_
   refine kT rfl ?_
   refine ap (_,[]) (fun τ=> (aH aa al (hpq) rfl rfl)) ?_
   refine mD rfl ?_
   refine ap (_,[]) (fun τ=> aZ _ _ rfl rfl (bE ab)) ?_
   refine rh rfl ?_
   refine ap (_,[]) (fun τ=> Gm _ _ _ rfl rfl rfl (by exact hs.symm)) ?_
   refine re rfl (bj ⟨rfl,?_⟩)
   refine be rfl (dY ?_)
   refine aL (σ':=aD 53 [(2,_),(5,_),(7,_),(8,_)] [((2,0),_)] [] []) kp ?_
   refine an (aX rfl (ai (aZ _ _ rfl rfl (bE ab)) ?_))
   refine be rfl (aJ (⟨k+1,?_,?_,?_⟩))
   ·omega
   ·skip
    refine Le.mkJ [] [] rfl ?_ ?_ trivial trivial ?_
    ·exact ⟨(iP rfl),(iS rfl),(cp ag),(cp ag),trivial⟩
    ·exact ⟨(bM rfl rfl rfl),trivial⟩
    kernel_rfl
   omega
  rw [if_neg ab] at hs
  refine cr (an (aX rfl (ai (aZ _ _ rfl rfl (bE ab)) ?_)))
  refine be rfl (aJ (⟨k+1,?_,?_,?_⟩))
  ·omega
  ·skip
   refine Le.mkJ [] [] rfl ?_ ?_ trivial trivial ?_
   ·exact ⟨(iP rfl),(iS rfl),(cp ag),(cp ab),trivial⟩
   ·exact ⟨(bM rfl rfl rfl),trivial⟩
   kernel_rfl
  omega
 obtain rfl:k=C.length:=by omega
 refine bB (id (hK4 _ ?_))
 clear hK4;try clear K4
 exact am (aX rfl (be rfl (aj (aG (fv rfl rfl)))))

theorem el: ∀ (e:Ex) (d x:Nat),x∈dE e d→x≤d+(dE e d).length
 | .int _,d,x,h=> by simp [dE] at h ⊢;omega
 | .bool _,d,x,h=> by simp [dE] at h ⊢;omega
 | .var _,d,x,h=> by simp [dE] at h ⊢;omega
 | .name _,d,x,h=> by simp [dE] at h ⊢;omega
 | .draw e,d,x,h=> by
  have:=el e d x
  simp only [dE,List.mem_append,List.length_append,List.length_cons,List.length_nil,List.mem_singleton] at h ⊢
  rcases h with h | h
  ·have:=this h;omega
  omega
 | .neg e,d,x,h=> by
  have:=el e d x
  simp only [dE,List.mem_append,List.length_append,List.length_cons,List.length_nil,List.mem_singleton] at h ⊢
  rcases h with h | h
  ·have:=this h;omega
  omega
 | .not e,d,x,h=> by
  have:=el e d x
  simp only [dE,List.mem_append,List.length_append,List.length_cons,List.length_nil,List.mem_singleton] at h ⊢
  rcases h with h | h
  ·have:=this h;omega
  omega
 | .bin o a b,d,x,h=> by
  have h1:=el a d x
  have h2:=el b (d+1) x
  have h3:1≤(dE b (d+1)).length:=by obtain ⟨l,hl⟩:=eO b (d+1);rw [hl];simp
  have h4:1≤(dE a d).length:=by obtain ⟨l,hl⟩:=eO a d;rw [hl];simp
  simp only [dE,List.mem_append,List.length_append] at h ⊢
  rcases h with (h | h) | h
  ·have:=h1 h;omega
  ·have:=h2 h;omega
  have:x≤d+2:=by cases o <;> simp at h <;> omega
  omega
 | .and a b,d,x,h=> by
  have h1:=el a d x
  have h2:=el b d x
  simp only [dE,List.mem_append,List.length_append,List.length_cons,List.length_nil,List.mem_singleton] at h ⊢
  rcases h with (((h | h) | h) | h) | h
  ·have:=h1 h;omega
  ·omega
  ·have:=h2 h;omega
  ·omega
  omega
 | .or a b,d,x,h=> by
  have h1:=el a d x
  have h2:=el b d x
  simp only [dE,List.mem_append,List.length_append,List.length_cons,List.length_nil,List.mem_singleton] at h ⊢
  rcases h with (((h | h) | h) | h) | h
  ·have:=h1 h;omega
  ·omega
  ·omega
  ·omega
  have:=h2 h;omega
theorem lO (e:Ex) (d:Nat):1≤(dE e d).length:=by obtain ⟨l,hl⟩:=eO e d;rw [hl];simp
mutual
theorem Gq: ∀ (s:Sm) (x:Nat),x∈eo s→x≤(eo s).length
 | .assign _ e,x,h=> by
  have:=el e 0 x
  simp only [eo,List.mem_append,List.length_append,List.length_cons,List.length_nil,List.mem_singleton] at h ⊢
  rcases h with h | h
  ·have:=this h;omega
  omega
 | .send t _ a b,x,h=> by
  have h1:=el t 0 x
  have h2:=el a 1 x
  have h3:=el b 2 x
  have k1:=lO t 0
  have k2:=lO a 1
  have k3:=lO b 2
  simp only [eo,List.mem_append,List.length_append,List.length_cons,List.length_nil,List.mem_singleton] at h ⊢
  rcases h with ((h | h) | h) | h
  ·have:=h1 h;omega
  ·have:=h2 h;omega
  ·have:=h3 h;omega
  omega
 | .timer _,x,h=> by simp [eo] at h ⊢;omega
 | .cancel _,x,h=> by simp [eo] at h ⊢;omega
 | .sync,x,h=> by simp [eo] at h ⊢;omega
 | .stop,x,h=> by simp [eo] at h ⊢;omega
 | .reply a b,x,h=> by
  have h2:=el a 0 x
  have h3:=el b 1 x
  have k2:=lO a 0
  have k3:=lO b 1
  simp only [eo,List.mem_append,List.length_append,List.length_cons,List.length_nil,List.mem_singleton] at h ⊢
  rcases h with (h | h) | h
  ·have:=h2 h;omega
  ·have:=h3 h;omega
  omega
 | .fail e,x,h=> by
  have:=el e 0 x
  simp only [eo,List.mem_append,List.length_append,List.length_cons,List.length_nil,List.mem_singleton] at h ⊢
  rcases h with h | h
  ·have:=this h;omega
  omega
 | .loop c b,x,h=> by
  have h1:=el c 0 x
  have h2:=nu b x
  simp only [eo,List.mem_append,List.length_append,List.length_cons,List.length_nil,List.mem_singleton] at h ⊢
  rcases h with ((h | h) | h) | h
  ·have:=h1 h;omega
  ·omega
  ·have:=h2 h;omega
  omega
 | .ite c a b,x,h=> by
  have h1:=el c 0 x
  have h2:=nu a x
  have h3:=nu b x
  simp only [eo,List.mem_append,List.length_append,List.length_cons,List.length_nil,List.mem_singleton] at h ⊢
  rcases h with (((h | h) | h) | h) | h
  ·have:=h1 h;omega
  ·omega
  ·have:=h2 h;omega
  ·omega
  have:=h3 h;omega
theorem nu: ∀ (b:Bk) (x:Nat),x∈mo b→x≤(mo b).length
 | .nil,x,h=> by simp [mo] at h
 | .cons s b,x,h=> by
  have h1:=Gq s x
  have h2:=nu b x
  simp only [mo,List.mem_append,List.length_append] at h ⊢
  rcases h with h | h
  ·have:=h1 h;omega
  have:=h2 h;omega
end
theorem xN: ∀ (l:List (Nat×Bk)) (x:Nat),x∈mm l→x≤(mm l).length
 | [],x,h=> by simp [mm] at h
 | (k,b)::l,x,h=> by
  have h1:=nu b x
  have h2:=xN l x
  simp only [mm,List.mem_append,List.length_append,List.length_cons,List.length_nil,List.mem_singleton] at h ⊢
  rcases h with (h | h) | h
  ·have:=h1 h;omega
  ·omega
  have:=h2 h;omega
theorem zZ (l:List (Nat×Bk)) (i:Nat):xt l i≤(bW l 0).length:=by
 unfold xt
 rw [List.getD_eq_getElem?_getD]
 by_cases h:i < (mm l).length
 ·rw [List.getElem?_eq_getElem h,← qs l 0];exact xN l _ (List.getElem_mem h)
 rw [List.getElem?_eq_none ab];exact Nat.zero_le _

theorem oq: ∀ (l m:List (Nat×Bk)) (a:Nat),bW (l++m) a=bW l a++bW m (a+(bW l a).length)
 | [],m,a=> by simp [bW]
 | (h,b)::l,m,a=> by
  simp only [List.cons_append,bW,oq l m,List.append_assoc,List.length_append,List.length_cons,List.length_nil,Nat.add_assoc,Nat.zero_add,List.nil_append,Nat.add_comm 1 (List.length _)]
theorem vc: ∀ (l m:List (Nat×Bk)) (a:Nat),kw (l++m) a=kw l a++kw m (a+(bW l a).length)
 | [],m,a=> by simp [bW,kw]
 | (h,b)::l,m,a=> by
  simp only [List.cons_append,bW,kw,vc l m,List.append_assoc,List.length_append,List.length_cons,List.length_nil,Nat.add_assoc,Nat.zero_add,Nat.add_comm 1 (List.length _)]
def bY (l:List (Nat×Bk)) (k:Nat):Int:=(nr (kw l 0)).getD k (-1)
theorem yM (l:List (Nat×Bk)) (p:Nat×Bk) (hp:p.1 < 40):bY (l++[p])=ll (bY l) p.1 (bW l 0).length:=by
 funext k
 have e:nr (kw (l++[p]) 0)=(nr (kw l 0)).set p.1 ((bW l 0).length:Int):=by
  rw [vc]
  obtain ⟨h,b⟩:=p
  simp only [kw,nr,List.foldl_append,List.foldl_cons,List.foldl_nil,Nat.zero_add]
 unfold bY ll
 rw [e,ky]
 by_cases hk:k=p.1
 ·rw [if_pos ⟨hk,by rw [DA];exact hp⟩,if_pos hk]
 rw [if_neg (fun h=> hk h.1),if_neg hk]
theorem wK (l:List (Nat×Bk)) (p:Nat×Bk):bW (l++[p]) 0=bW l 0++dS p.2 (bW l 0).length++[{ op:= .stop }]:=by
 rw [oq]
 obtain ⟨h,b⟩:=p
 simp [bW]
def et (h k:Nat):Int:=if k < h∨40≤k then -1 else 0
theorem AC (h:Nat) (hh:h < 40):ll (et h) h (-1)=et (h+1):=by
 funext k
 unfold ll et
 by_cases h1:k=h
 ·rw [if_pos h1,if_pos ab]
 rw [if_neg h1]
 by_cases h2:k < h∨40≤k
 ·rw [if_pos h2,if_pos ab]
 rw [if_neg h2,if_neg ab]
theorem zU:et 40=bY []:=by
 funext k
 have e:bY [] k=(List.replicate 40 (-1:Int)).getD k (-1):=rfl
 rw [e,et,if_pos ab,List.getD_eq_getElem?_getD,List.getElem?_replicate]
 by_cases hk:k < 40
 ·rw [if_pos hk];rfl
 rw [if_neg hk];rfl
theorem Cn (ons:List (Nat×Bk)) (j:Nat) (h:j < ons.length):ons.take (j+1)=ons.take j++[ons[j]]:=List.take_succ_eq_append_getElem h
theorem pU (ons:List (Nat×Bk)) (j:Nat):(bW (ons.take j) 0).length≤(bW ons 0).length:=by
 conv=> rhs;rw [← List.take_append_drop j ons,oq]
 rw [List.length_append];omega
theorem zi {n:Nat} (h:n < 40):dL (n:Int) 40=n:=by unfold dL;rw [if_neg ab];omega
structure UOk (d v:List Tx) (ons:List (Nat×Bk)):Prop where
 nd:(d++v).Nodup
 len:(d++v).length≤16
 ok: ∀ p∈ons,lh (d++v).length p.2
 pp: ∀ p∈ons,sG p.2=true
 h: ∀ p∈ons,p.1 < 40
 c:(bW ons 0).length≤1000000
 n:ons.length≤1000
theorem UOk.good {d v:List Tx} {ons:List (Nat×Bk)} (U:UOk d v ons):Good (xt ons) (d++v).length 0 ((bW ons 0).length - 1) 0 (bW ons 0):=
 AD (xt ons) (d++v).length ons 0 0 ((bW ons 0).length - 1) U.ok (tO ons) (Nat.le_refl _) ab
theorem UOk.ent {d v:List Tx} {ons:List (Nat×Bk)} (U:UOk d v ons) (k:Nat):0≤bY ons k→bY ons k < (bW ons 0).length→xt ons (bY ons k).toNat=0:=fun h0 h1=> by
 rcases wC ons k with h | ⟨e,_,h,_,h2⟩
 ·unfold bY at h0;omega
 unfold bY;rw [h,Int.toNat_natCast];exact h2
abbrev NQ (d v:List Tx) (ons:List (Nat×Bk)):AV:= .agg (EJ (bW ons 0).length (inl (bW ons 0)) (bY ons) (d.length:Int) (v.length:Int))
abbrev zA:AV:= .agg (Hx (.v (.slice none 0 0)) (fun _=> 0) 0 0)
def Kv (ons:List (Nat×Bk)):Int:=if 400 < (bW ons 0).length then 2 else 13
abbrev DP (d v:List Tx) (ons:List (Nat×Bk)):AV:=if lf ons=true then .tup [NQ d v ons, .v (.int .i64 0)] else .tup [zA, .v (.int .i64 (Kv ons))]
abbrev wO (d v:List Tx) (ons:List (Nat×Bk)):List Hd:=ons.map fun p=> (p.1,jf (d++v) p.2)
theorem oa (d v:List Tx) (ons:List (Nat×Bk)) (U:UOk d v ons):
  Spec Tryz.prog 57 (ba [Jk d v (wO d v ons)] []) (aP (DP d v ons) []):=by
 obtain ⟨H,hH⟩: ∃ H,H=wO d v ons:=⟨_,rfl⟩
 have hHl:H.length=ons.length:=by rw [hH,List.length_map]
 have hHk: ∀ k (h:k < ons.length),oG H k=((ons[k]).1,jf (d++v) (ons[k]).2):=fun k h=> by rw [hH];exact Co ons _ k h
 rw [← hH]
 clear hH
 have hUn:=U.n
 have hUc:=U.c
 have hUl:=U.len
 have hdl:d.length≤16∧v.length≤16:=by rw [List.length_append] at hUl;omega
 refine Spec.ofN Tryz.func57 rfl Tryz.ntmps57 rfl ?_
 refine am (ai (aQ (1,0) _ rfl rfl) (ai (aB (2,0) aa rfl rfl) (be rfl (aj (am (bc rfl rfl rfl (eW rfl rfl rfl (ai (bn _ aa rfl) (bc rfl rfl rfl (eW rfl rfl rfl ?_))))))))))
 refine ai (bn _ aa rfl) (ai (aN _ aa rfl (by exact Em)) ?_)
 refine ai (aB (4,0) aa rfl rfl) (bG rfl rfl rfl rfl rfl rfl (aj (aU fun K3 hK3=> ?_)))
 refine am (be rfl (aj (ay ?_)))
 refine aL (Le.nilB (4,0) 0 (60,0) 48 2 rfl rfl rfl) ?_
 refine br (α:=Nat) (fun q=> q≤40) 79 [(1,_),(2,_),(4,_)] [((1,0),_),((2,0),_),((60,0),_)] (fun q=> [(5, .v (.int .i64 (q:Int)))]) (fun q=> [((4,0), .box 26 [.ref (60,0) 0 0, .v (.int .i64 (et q 0)), .v (.int .i64 (et q 1)), .v (.int .i64 (et q 2)), .v (.int .i64 (et q 3)), .v (.int .i64 (et q 4)), .v (.int .i64 (et q 5)), .v (.int .i64 (et q 6)), .v (.int .i64 (et q 7)), .v (.int .i64 (et q 8)), .v (.int .i64 (et q 9)), .v (.int .i64 (et q 10)), .v (.int .i64 (et q 11)), .v (.int .i64 (et q 12)), .v (.int .i64 (et q 13)), .v (.int .i64 (et q 14)), .v (.int .i64 (et q 15)), .v (.int .i64 (et q 16)), .v (.int .i64 (et q 17)), .v (.int .i64 (et q 18)), .v (.int .i64 (et q 19)), .v (.int .i64 (et q 20)), .v (.int .i64 (et q 21)), .v (.int .i64 (et q 22)), .v (.int .i64 (et q 23)), .v (.int .i64 (et q 24)), .v (.int .i64 (et q 25)), .v (.int .i64 (et q 26)), .v (.int .i64 (et q 27)), .v (.int .i64 (et q 28)), .v (.int .i64 (et q 29)), .v (.int .i64 (et q 30)), .v (.int .i64 (et q 31)), .v (.int .i64 (et q 32)), .v (.int .i64 (et q 33)), .v (.int .i64 (et q 34)), .v (.int .i64 (et q 35)), .v (.int .i64 (et q 36)), .v (.int .i64 (et q 37)), .v (.int .i64 (et q 38)), .v (.int .i64 (et q 39)), .v (.int .i64 (d.length:Int)), .v (.int .i64 (v.length:Int))])]) [] [] (fun q=> 40 - q) 0 ?_ (by
  refine Le.mkJ [] [] rfl ?_ ?_ trivial trivial ?_
  ·exact ⟨(iP rfl),(iP rfl),(iP rfl),(cp ag),trivial⟩
  ·exact ⟨(bM rfl rfl rfl),(bM rfl rfl rfl),(bM rfl rfl rfl),(fq rfl rfl rfl rfl lz),trivial⟩
  kernel_rfl) ?_
 ·omega
 intro q hq
 refine aU fun K5 hK5=> ?_
 refine am (aX rfl (ai (bm _ _ rfl rfl rfl) (aj (aR rfl (fun hc17=> ?_) (fun hc17=> ?_)))))
 ·skip
  refine bs (hK5 _ ?_)
  clear hK5;try clear K5
  refine aq (ay (an (aX rfl (bc rfl rfl rfl (ai (cY _ _ aa rfl rfl rfl q rfl ab (by exact congrArg (fun z=> 0+1+z) (Nat.mul_one q))) ?_)))))
  refine ai (dG _ _ aa rfl rfl rfl rfl (show 0+1+q+1≤43 by omega) ((congrArg (fun z=> fX (Hx (.ref (60,0) 0 0) (et q) (d.length:Int) (v.length:Int)) z [.v (.int .i64 (-1))]) ab).trans ((tB _ _ _ _ q ab _).trans (by rw [AC _ ab])))) ?_
  refine dY (an (aX rfl (ai (aZ _ _ rfl rfl (bE ab)) ?_)))
  refine be rfl (aJ (⟨q+1,?_,?_,?_⟩))
  ·omega
  ·skip
   refine Le.mkJ [] [] rfl ?_ ?_ trivial trivial ?_
   ·exact ⟨(iP rfl),(iP rfl),(iP rfl),(cp ag),trivial⟩
   ·exact ⟨(bM rfl rfl rfl),(bM rfl rfl rfl),(bM rfl rfl rfl),(fq rfl rfl rfl rfl lz),trivial⟩
   kernel_rfl
  omega
 obtain rfl:q=40:=by omega
 rw [zU]
 refine bB (id (hK3 _ ?_))
 clear hK3;try clear K3
 refine aU fun K8 hK8=> ?_
 refine am (be rfl (aj (ay ?_)))
 refine br (α:=Nat) (fun j=> j≤H.length) 79 [(1,_),(2,_),(4,_)] [((1,0),_),((2,0),_)] (fun j=> [(6, .v (.int .i64 (j:Int)))]) (fun j=> [((60,0), .row 48 2 (inl (bW (ons.take j) 0))),((4,0), .box 26 [.ref (60,0) 0 (bW (ons.take j) 0).length, .v (.int .i64 (bY (ons.take j) 0)), .v (.int .i64 (bY (ons.take j) 1)), .v (.int .i64 (bY (ons.take j) 2)), .v (.int .i64 (bY (ons.take j) 3)), .v (.int .i64 (bY (ons.take j) 4)), .v (.int .i64 (bY (ons.take j) 5)), .v (.int .i64 (bY (ons.take j) 6)), .v (.int .i64 (bY (ons.take j) 7)), .v (.int .i64 (bY (ons.take j) 8)), .v (.int .i64 (bY (ons.take j) 9)), .v (.int .i64 (bY (ons.take j) 10)), .v (.int .i64 (bY (ons.take j) 11)), .v (.int .i64 (bY (ons.take j) 12)), .v (.int .i64 (bY (ons.take j) 13)), .v (.int .i64 (bY (ons.take j) 14)), .v (.int .i64 (bY (ons.take j) 15)), .v (.int .i64 (bY (ons.take j) 16)), .v (.int .i64 (bY (ons.take j) 17)), .v (.int .i64 (bY (ons.take j) 18)), .v (.int .i64 (bY (ons.take j) 19)), .v (.int .i64 (bY (ons.take j) 20)), .v (.int .i64 (bY (ons.take j) 21)), .v (.int .i64 (bY (ons.take j) 22)), .v (.int .i64 (bY (ons.take j) 23)), .v (.int .i64 (bY (ons.take j) 24)), .v (.int .i64 (bY (ons.take j) 25)), .v (.int .i64 (bY (ons.take j) 26)), .v (.int .i64 (bY (ons.take j) 27)), .v (.int .i64 (bY (ons.take j) 28)), .v (.int .i64 (bY (ons.take j) 29)), .v (.int .i64 (bY (ons.take j) 30)), .v (.int .i64 (bY (ons.take j) 31)), .v (.int .i64 (bY (ons.take j) 32)), .v (.int .i64 (bY (ons.take j) 33)), .v (.int .i64 (bY (ons.take j) 34)), .v (.int .i64 (bY (ons.take j) 35)), .v (.int .i64 (bY (ons.take j) 36)), .v (.int .i64 (bY (ons.take j) 37)), .v (.int .i64 (bY (ons.take j) 38)), .v (.int .i64 (bY (ons.take j) 39)), .v (.int .i64 (d.length:Int)), .v (.int .i64 (v.length:Int))])]) [] [] (fun j=> H.length - j) 0 ?_ (by
  refine Le.mkJ [] [] rfl ?_ ?_ trivial trivial ?_
  ·exact ⟨(iP rfl),(iP rfl),(iP rfl),(cp ag),trivial⟩
  ·exact ⟨(bM rfl rfl rfl),(bM rfl rfl rfl),(fi rfl rfl rfl ag),(fq rfl rfl rfl rfl lz),trivial⟩
  kernel_rfl) ?_
 ·omega
 intro j hj
 have hct:=pU ons j
 refine aU fun K10 hK10=> ?_
 refine am (aX rfl (bc rfl rfl rfl (eW rfl rfl rfl (ai (bn _ aa rfl) (ai (bm _ _ rfl rfl rfl) (aj (aR rfl (fun hc27=> ?_) (fun hc27=> ?_))))))))
 ·skip
  have hj:j < ons.length:=by omega
  have hct1:=pU ons (j+1)
  have hUh:=U.h _ (List.getElem_mem hj)
  have hUo:=U.ok _ (List.getElem_mem hj)
  have hUp:=U.pp _ (List.getElem_mem hj)
  have hbody:=uj H j ab
  have hg0:=jX H j ab
  rw [hHk j hj] at hbody hg0
  have hsn:=wK (ons.take j) (ons[j])
  have hen:=yM (ons.take j) (ons[j]) hUh
  rw [← Cn ons j hj] at hsn hen
  have hsl:=congrArg List.length hsn
  simp only [List.length_append,List.length_cons,List.length_nil] at hsl
  have hcb:=Ga (d:=d) (v:=v) (no:=H.length) (on:=mq H) U.nd ab (ons[j]).2 hUo hUp (bW (ons.take j) 0).length ab
  generalize dS (ons[j]).2 (bW (ons.take j) 0).length=C at hsn hsl hcb
  generalize (ons[j]).2=bd at hbody hcb
  generalize (ons[j]).1=h at hbody hg0 hen hUh
  have har:=jS (h:Int) 40 ab ab ab ab
  rw [zi hUh] at har
  refine bs (hK10 _ ?_)
  clear hK10;try clear K10
  refine aq (ay (am (bc rfl rfl rfl (eW rfl rfl rfl (aX rfl (ai (bp _ _ aa rfl rfl _ rfl ab (by (simp only [aO,bi,bl,bw,bv,bI,bz,bP,eF,aO,List.length_map];omega)) ag) ?_))))))
  refine ai (dg _ aa rfl rfl) (ai (bO _ aa rfl (by exact hg0) rfl) ?_)
  refine ai (aH aa al (har) rfl rfl) ?_
  refine be rfl (aj (am (aX rfl (bc rfl rfl rfl (ai (aF _ aa rfl rfl eQ) (ai (dh _ aa rfl rfl) (bc rfl rfl rfl (ai (cY _ _ aa rfl rfl rfl h rfl ab (by exact congrArg (fun z=> 0+1+z) (Nat.mul_one h))) ?_))))))))
  refine ai (dG _ _ aa rfl rfl rfl rfl (show 0+1+h+1≤43 by omega) ((congrArg (fun z=> fX (Hx (.ref (60,0) 0 (bW (ons.take j) 0).length) (bY (ons.take j)) (d.length:Int) (v.length:Int)) z [.v (.int .i64 ((bW (ons.take j) 0).length:Int))]) ab).trans ((tB _ _ _ _ h ab _).trans (by rw [← hen])))) ?_
  refine aj (aq ?_)
  refine aL (σ':=aD 79 [(1,_),(2,_),(4,_),(6,_)] [((1,0),_),((2,0),_),((60,0),_),((4,0),_)] [] []) kp ?_
  refine bJ 13 [43,44,45,46,47,48,49,50,51,52,53,54,55] [(50,0)] ae ae rfl (aK rfl) (rfl:_=[_,_,_,_,_,_,_,_,_,_,_,_,_]) (rfl:_=[_,_,_]) ?_
  refine ap (_,[]) (fun τ=> aA _ aa rfl rfl rfl) ?_
  refine fD rfl ?_
  refine ap (_,[]) (fun τ=> aF _ aa rfl rfl eQ) ?_
  refine fF rfl ?_
  refine ap (_,[]) (fun τ=> az _ aa rfl rfl rfl rfl) ?_
  refine fE rfl ?_
  refine ap (_,[]) (fun τ=> aA _ aa rfl rfl rfl) ?_
  refine fS rfl ?_
  refine ap (_,[]) (fun τ=> aF _ aa rfl rfl ef) ?_
  refine gf rfl ?_
  refine ap (_,[]) (fun τ=> aI _ eh) ?_
  refine gS rfl ?_
  refine ap (_,[]) (fun τ=> bp _ _ aa rfl rfl _ rfl ab (by (simp only [aO,bi,bl,bw,bv,bI,bz,bP,eF,aO,List.length_map];omega)) ag) ?_
  refine ir rfl ?_
  refine ap (_,[]) (fun τ=> dg _ aa rfl rfl) ?_
  refine jE rfl ?_
  refine ap (_,[]) (fun τ=> cf _ aa rfl (by exact hbody) rfl) ?_
  refine jU rfl ?_
  refine ap (_,[]) (fun τ=> aA _ aa rfl rfl rfl) ?_
  refine fy rfl ?_
  refine ap (_,[]) (fun τ=> aF _ aa rfl rfl eQ) ?_
  refine gd rfl ?_
  refine ap (_,[]) (fun τ=> dh _ aa rfl rfl) ?_
  refine jG rfl ?_
  refine ap (_,[((50,0),_)]) (fun τ=> (bR aa [((0,8),(50,0))] ar (hcb.toI) trivial tr tr rfl rfl ae ae)) ?_
  refine kT rfl (bj ⟨rfl,?_⟩)
  refine ai (du (56,0) _ _ aa rfl rfl (bP _).symm (.ref rfl (nX _) (lD _)) ab rfl (lZ _ _) (show (bW (ons.take j) 0).length+C.length=(bW (ons.take j) 0++C).length by simp)) ?_
  refine bc rfl rfl rfl (bG rfl rfl rfl rfl rfl rfl (aj ?_))
  refine aL (σ':=aD 79 [(1,_),(2,_),(4,_),(6,_)] [((1,0),_),((2,0),_),((4,0),_),((56,0),_)] [] []) kp ?_
  refine an (bc rfl rfl rfl (ai (aF _ aa rfl rfl eQ) (ai (aN _ aa rfl (by exact eR)) ?_)))
  refine ai (bg _ _ aa rfl ag (by (simp <;> rfl)) ah rfl) ?_
  refine ai (du (62,0) _ _ aa rfl rfl (bP _).symm (.sl rfl) (by simp;omega) rfl ((fk _ { op:= .stop }).trans (congrArg inl hsn.symm)) (show (bW (ons.take j) 0++C).length+1=(bW (ons.take (j+1)) 0).length by simp [hsl])) ?_
  refine bc rfl rfl rfl (bG rfl rfl rfl rfl rfl rfl (dY (an (aX rfl (ai (aZ _ _ rfl rfl (bE ab)) ?_)))))
  refine be rfl (aJ (⟨j+1,?_,?_,?_⟩))
  ·omega
  ·skip
   refine Le.mkJ [((60,0),(62,0))] [] rfl ?_ ?_ trivial trivial ?_
   ·exact ⟨(dH (id:=(1,0)) rfl),(dH (id:=(2,0)) rfl),(dH (id:=(4,0)) rfl),(cp ag),trivial⟩
   ·exact ⟨(fq rfl rfl rfl rfl (by repeat' (first | exact Lv.sl | exact bf | refine au ?_ ?_))),(fq rfl rfl rfl rfl (by repeat' (first | exact Lv.v | exact bf | refine au ?_ ?_))),(fi rfl rfl rfl ag),(fq rfl rfl rfl rfl lz),trivial⟩
   kernel_rfl
  omega
 obtain rfl:j=ons.length:=by omega
 rw [List.take_length]
 refine bB (id (hK8 _ ?_))
 clear hK8;try clear K8
 refine aq (am (bc rfl rfl rfl (ai (aF _ aa rfl rfl eQ) (ai (dh _ aa rfl rfl) (ai (gy _ _ rfl rfl rfl) (aj (aR rfl (fun hc67=> ?_) (fun hc67=> ?_))))))))
 ·skip
  have hco:lf ons≠true:=by
   unfold lf
   rw [decide_eq_false ab,Bool.false_and]
   exact Bool.false_ne_true
  rw [DP,if_neg hco,Kv,if_pos ab]
  refine am (ai (aN _ aa rfl (by exact Em)) ?_)
  exact bG rfl rfl rfl rfl rfl rfl (be rfl (aj (aG (jT (.inr rfl) rfl (.cellA aa rfl rfl rfl) (.tmp kL) (Le.out [] [] (.tup rfl lz) rfl rfl rfl trivial trivial)))))
 have hl4:(bW ons 0).length≤400:=by omega
 refine aS (aU fun K19 hK19=> ?_)
 refine am (be rfl (aj (ay ?_)))
 refine aL (Le.frzB (4,0) 0 rfl rfl rfl rfl (ys:=inl (bW ons 0)) (by rw [List.drop_zero];exact List.take_of_length_le (by rw [bP];omega)) (by rw [bP];omega)) ?_
 refine br (α:=Nat) (fun h=> h≤40∧ ∀ k,k < h→lb (bW ons 0) (jo (bW ons 0) (bY ons k)).1 (bW ons 0).length≤16) 79 [(2,_),(4,_)] [((2,0),_)] (fun h=> [(8, .v (.int .i64 (h:Int)))]) (fun h=> [((4,0), .box 26 [.sl (bW ons 0).length (inl (bW ons 0)), .v (.int .i64 (bY ons 0)), .v (.int .i64 (bY ons 1)), .v (.int .i64 (bY ons 2)), .v (.int .i64 (bY ons 3)), .v (.int .i64 (bY ons 4)), .v (.int .i64 (bY ons 5)), .v (.int .i64 (bY ons 6)), .v (.int .i64 (bY ons 7)), .v (.int .i64 (bY ons 8)), .v (.int .i64 (bY ons 9)), .v (.int .i64 (bY ons 10)), .v (.int .i64 (bY ons 11)), .v (.int .i64 (bY ons 12)), .v (.int .i64 (bY ons 13)), .v (.int .i64 (bY ons 14)), .v (.int .i64 (bY ons 15)), .v (.int .i64 (bY ons 16)), .v (.int .i64 (bY ons 17)), .v (.int .i64 (bY ons 18)), .v (.int .i64 (bY ons 19)), .v (.int .i64 (bY ons 20)), .v (.int .i64 (bY ons 21)), .v (.int .i64 (bY ons 22)), .v (.int .i64 (bY ons 23)), .v (.int .i64 (bY ons 24)), .v (.int .i64 (bY ons 25)), .v (.int .i64 (bY ons 26)), .v (.int .i64 (bY ons 27)), .v (.int .i64 (bY ons 28)), .v (.int .i64 (bY ons 29)), .v (.int .i64 (bY ons 30)), .v (.int .i64 (bY ons 31)), .v (.int .i64 (bY ons 32)), .v (.int .i64 (bY ons 33)), .v (.int .i64 (bY ons 34)), .v (.int .i64 (bY ons 35)), .v (.int .i64 (bY ons 36)), .v (.int .i64 (bY ons 37)), .v (.int .i64 (bY ons 38)), .v (.int .i64 (bY ons 39)), .v (.int .i64 (d.length:Int)), .v (.int .i64 (v.length:Int))])]) [] [] (fun h=> 40 - h) 0 ?_ (by
  refine Le.mkJ [] [] rfl ?_ ?_ trivial trivial ?_
  ·exact ⟨(iP rfl),(iP rfl),(cp ag),trivial⟩
  ·exact ⟨(bM rfl rfl rfl),(fq rfl rfl rfl rfl lz),trivial⟩
  kernel_rfl) ?_
 ·exact ⟨Nat.zero_le _,fun k hk=> absurd hk (Nat.not_lt_zero _)⟩
 intro h hh
 obtain ⟨hk,hks⟩:=hh
 refine aU fun K21 hK21=> ?_
 refine am (aX rfl (ai (bm _ _ rfl rfl rfl) (aj (aR rfl (fun hc70=> ?_) (fun hc70=> ?_)))))
 ·skip
  have hh4:h < 40:=by omega
  have hdm:=nn (C:=bW ons 0) (qd U.good (U.ent h)) (B:=1000000) (fun i _=> Nat.le_trans (zZ ons i) hUc) _ (Nat.le_refl _)
  have hde:=wL (bW ons 0) (bY ons) (d.length:Int) (v.length:Int) h hh4 hUc (xt ons) (d++v).length U.good (fun i=> Nat.le_trans (zZ ons i) hUc) (U.ent h)
  refine bs (hK21 _ ?_)
  clear hK21;try clear K21
  refine aq (ay (am (ai (az _ aa rfl rfl rfl rfl) (aX rfl (ai (aH aa al (hde) rfl rfl) ?_)))))
  refine ai (gy _ _ rfl rfl rfl) (aj (aR rfl (fun hc76=> ?_) (fun hc76=> ?_)))
  ·skip
   have hco:lf ons≠true:=fun e=> by
    unfold lf at e
    rw [Bool.and_eq_true,List.all_eq_true] at e
    have:=e.2 h (List.mem_range.2 hh4)
    rw [decide_eq_true_eq] at this
    exact absurd (show lb (bW ons 0) (jo (bW ons 0) (bY ons h)).1 (bW ons 0).length≤16 from this) ab
   rw [DP,if_neg hco,Kv,if_neg ab]
   refine am (ai (aN _ aa rfl (by exact Em)) ?_)
   exact bG rfl rfl rfl rfl rfl rfl (be rfl (aj (aG (jT (.inr rfl) rfl (.cellA aa rfl rfl rfl) (.tmp kL) (Le.out [] [] (.tup rfl lz) rfl rfl rfl trivial trivial)))))
  refine cr (an (aX rfl (ai (aZ _ _ rfl rfl (bE ab)) ?_)))
  refine be rfl (aJ (⟨h+1,?_,?_,?_⟩))
  ·exact ⟨by omega,fun k hk=> (by
    rcases Nat.lt_or_ge k h with hlt | hge
    ·exact hks k hlt
    obtain rfl:k=h:=by omega
    omega)⟩
  ·skip
   refine Le.mkJ [] [] rfl ?_ ?_ trivial trivial ?_
   ·exact ⟨(iP rfl),(iP rfl),(cp ag),trivial⟩
   ·exact ⟨(bM rfl rfl rfl),(fq rfl rfl rfl rfl lz),trivial⟩
   kernel_rfl
  omega
 obtain rfl:h=40:=by omega
 have hco:lf ons=true:=by
  unfold lf
  rw [Bool.and_eq_true,decide_eq_true_eq,List.all_eq_true]
  exact ⟨hl4,fun k hk=> decide_eq_true (hks k (List.mem_range.1 hk))⟩
 refine bB (id (hK19 _ ?_))
 clear hK19;try clear K19
 refine am (ai (az _ aa rfl rfl rfl rfl) (bG rfl rfl rfl rfl rfl rfl (be rfl (aj (aG ?_)))))
 rw [DP,if_pos hco]
 exact jT (.inr rfl) rfl (.cellA aa rfl rfl rfl) (.tmp kL) (Le.out [] [] (.tup rfl lz) rfl rfl rfl trivial trivial)

structure mn (s:Tx) (d v:List Tx) (ons:List (Nat×Bk)):Prop extends UOk d v ons where
 p:gz s=some (d,v,wO d v ons)
 l:s.length≤3000
 wl: ∀ p∈ons,qh p.2=true
theorem Ao {s:Tx} {d v:List Tx} {ons:List (Nat×Bk)} (U:mn s d v ons) (hc:lf ons=true):
  Spec Tryz.prog 64 (ba [.v (bt s)] []) (aP (DP d v ons) []):=by
 have h1:=qP s U.l _ _ _ U.p
 have h2:Spec Tryz.prog 97 (ba [Jk d v (wO d v ons)] []) (aP (.v (.int .i64 0)) []):=qA d v ons U.nd U.len U.ok U.wl U.n
 have h3:=oa d v ons U.toUOk
 rw [DP,if_pos hc] at h3 ⊢
 obtain ⟨H,hH⟩: ∃ H,H=wO d v ons:=⟨_,rfl⟩
 rw [← hH] at h1 h2 h3
 clear hH
 refine Spec.ofN Tryz.func64 rfl Tryz.ntmps64 rfl ?_
 refine am (ai (aB (2,0) aa rfl rfl) (be rfl (aj (am (ei rfl (ai (aH aa al (h1) rfl rfl) ?_))))))
 refine ai (aI _ tA) (ai (cm _ rfl oZ) (ai (cm _ rfl ee) (ai (cm _ rfl ee) (ai (aB (4,0) aa rfl rfl) (bG rfl rfl rfl rfl rfl rfl (be rfl (be rfl (aj (aq (am ?_))))))))))
 refine aX rfl (ai (bU (r:=false) _ _ rfl rfl rfl) (aj (aW rfl rfl (aS (am (ai (az _ aa rfl rfl rfl rfl) (ai (aH aa al (h2) rfl rfl) ?_)))))))
 refine be rfl (aj (aq (aq ?_)))
 refine aL (σ':=aD 32 [(2,_),(4,_),(6,_)] [((2,0),_),((4,0),_)] [] []) kp ?_
 refine an (aX rfl (ai (bU (r:=false) _ _ rfl rfl rfl) (aj (aW rfl rfl (aS (am (ai (az _ aa rfl rfl rfl rfl) (ai (aH aa al (h3) rfl rfl) ?_))))))))
 refine ai (aI _ tA) (ai (cm _ rfl oZ) (ai (cm _ rfl ee) (ai (aB (7,0) aa rfl rfl) (bG rfl rfl rfl rfl rfl rfl (be rfl (aj (am (ai (az _ aa rfl rfl rfl rfl) (aX rfl (bG rfl rfl rfl rfl rfl rfl ?_))))))))))
 exact be rfl (aj (aG (jT (.inr rfl) rfl (.cellA aa rfl rfl rfl) (.tmp kL) (Le.out [] [] (.tup rfl lz) rfl rfl rfl trivial trivial))))
theorem AH {s:Tx} {d v:List Tx} {ons:List (Nat×Bk)} (U:mn s d v ons) (hc:lf ons≠true):
  Spec Tryz.prog 64 (ba [.v (bt s)] []) (aP (DP d v ons) []):=by
 have h1:=qP s U.l _ _ _ U.p
 have h2:Spec Tryz.prog 97 (ba [Jk d v (wO d v ons)] []) (aP (.v (.int .i64 0)) []):=qA d v ons U.nd U.len U.ok U.wl U.n
 have h3:=oa d v ons U.toUOk
 rw [DP,if_neg hc] at h3 ⊢
 generalize Kv ons=er at h3 ⊢
 obtain ⟨H,hH⟩: ∃ H,H=wO d v ons:=⟨_,rfl⟩
 rw [← hH] at h1 h2 h3
 clear hH
 refine Spec.ofN Tryz.func64 rfl Tryz.ntmps64 rfl ?_
 refine am (ai (aB (2,0) aa rfl rfl) (be rfl (aj (am (ei rfl (ai (aH aa al (h1) rfl rfl) ?_))))))
 refine ai (aI _ tA) (ai (cm _ rfl oZ) (ai (cm _ rfl ee) (ai (cm _ rfl ee) (ai (aB (4,0) aa rfl rfl) (bG rfl rfl rfl rfl rfl rfl (be rfl (be rfl (aj (aq (am ?_))))))))))
 refine aX rfl (ai (bU (r:=false) _ _ rfl rfl rfl) (aj (aW rfl rfl (aS (am (ai (az _ aa rfl rfl rfl rfl) (ai (aH aa al (h2) rfl rfl) ?_)))))))
 refine be rfl (aj (aq (aq ?_)))
 refine aL (σ':=aD 32 [(2,_),(4,_),(6,_)] [((2,0),_),((4,0),_)] [] []) kp ?_
 refine an (aX rfl (ai (bU (r:=false) _ _ rfl rfl rfl) (aj (aW rfl rfl (aS (am (ai (az _ aa rfl rfl rfl rfl) (ai (aH aa al (h3) rfl rfl) ?_))))))))
 refine ai (aI _ tA) (ai (cm _ rfl oZ) (ai (cm _ rfl ee) (ai (aB (7,0) aa rfl rfl) (bG rfl rfl rfl rfl rfl rfl (be rfl (aj (am (ai (az _ aa rfl rfl rfl rfl) (aX rfl (bG rfl rfl rfl rfl rfl rfl ?_))))))))))
 exact be rfl (aj (aG (jT (.inr rfl) rfl (.cellA aa rfl rfl rfl) (.tmp kL) (Le.out [] [] (.tup rfl lz) rfl rfl rfl trivial trivial))))
theorem wJ {s:Tx} {d v:List Tx} {ons:List (Nat×Bk)} (U:mn s d v ons):
  Spec Tryz.prog 64 (ba [.v (bt s)] []) (aP (DP d v ons) []):=by
 by_cases hc:lf ons=true
 ·exact Ao U hc
 exact AH U hc
def durs:List (List Tx):=[CU,AI,BD,Ag,Dn,Ab,BB,BW,Bc,Aw,uA,ur]
def vols:List (List Tx):=[Ct,Ay,CW,Ap,CL,Bu,BV,Dw,zW,AR,uf,uv]
def onss:List (List (Nat×Bk)):=[ons0,ons1,ons2,ons3,ons4,ons5,ons6,ons7,ons8,ons9,ons10,ons11]
theorem iU {d v:List Tx} {ons:List (Nat×Bk)} (h:vF ons (d++v).length) (h1:(d++v).Nodup) (h2:(d++v).length≤16) (h3:(ons.all fun p=> sG p.2)=true) (h4:ons.length≤1000):UOk d v ons:=
 ⟨h1,h2,h.ok,fun p hp=> (List.all_eq_true.1 h3) p hp,h.h,by have:=h.n;omega,h4⟩
theorem Jm:mn (srcs.getD 0 []) CU Ct ons0:=⟨iU srcOk0 ah ah ae ah,IO,of_decide_eq_true ae,srcOk0.wl⟩
theorem Jy:mn (srcs.getD 1 []) AI Ay ons1:=⟨iU srcOk1 ah ah ae ah,HW,of_decide_eq_true ae,srcOk1.wl⟩
theorem JD:mn (srcs.getD 2 []) BD CW ons2:=⟨iU srcOk2 ah ah ae ah,HI,of_decide_eq_true ae,srcOk2.wl⟩
theorem JE:mn (srcs.getD 3 []) Ag Ap ons3:=⟨iU srcOk3 ah ah ae ah,Hc,of_decide_eq_true ae,srcOk3.wl⟩
theorem JG:mn (srcs.getD 4 []) Dn CL ons4:=⟨iU srcOk4 ah ah ae ah,HF,of_decide_eq_true ae,srcOk4.wl⟩
theorem Jw:mn (srcs.getD 5 []) Ab Bu ons5:=⟨iU srcOk5 ah ah ae ah,Hn,of_decide_eq_true ae,srcOk5.wl⟩
theorem Js:mn (srcs.getD 6 []) BB BV ons6:=⟨iU srcOk6 ah ah ae ah,Iq,of_decide_eq_true ae,srcOk6.wl⟩
theorem JT:mn (srcs.getD 7 []) BW Dw ons7:=⟨iU srcOk7 ah ah ae ah,IH,of_decide_eq_true ae,srcOk7.wl⟩
theorem JP:mn (srcs.getD 8 []) Bc zW ons8:=⟨iU srcOk8 ah ah ae ah,Iv,of_decide_eq_true ae,srcOk8.wl⟩
theorem JI:mn (srcs.getD 9 []) Aw AR ons9:=⟨iU srcOk9 ah ah ae ah,HC,of_decide_eq_true ae,srcOk9.wl⟩
theorem IK:mn (srcs.getD 10 []) uA uf ons10:=⟨iU srcOk10 ah ah ae ah,Ei,of_decide_eq_true ae,srcOk10.wl⟩
theorem Ig:mn (srcs.getD 11 []) ur uv ons11:=⟨iU srcOk11 ah ah ae ah,Fm,of_decide_eq_true ae,srcOk11.wl⟩
theorem JJ (k:Nat) (hk:k < 12):mn (srcs.getD k []) (durs.getD k []) (vols.getD k []) (onss.getD k [])∧vF (onss.getD k []) (durs.getD k []++vols.getD k []).length:=by
 rcases k with _ | _ | _ | _ | _ | _ | _ | _ | _ | _ | _ | _ | k
 ·exact ⟨Jm,srcOk0⟩
 ·exact ⟨Jy,srcOk1⟩
 ·exact ⟨JD,srcOk2⟩
 ·exact ⟨JE,srcOk3⟩
 ·exact ⟨JG,srcOk4⟩
 ·exact ⟨Jw,srcOk5⟩
 ·exact ⟨Js,srcOk6⟩
 ·exact ⟨JT,srcOk7⟩
 ·exact ⟨JP,srcOk8⟩
 ·exact ⟨JI,srcOk9⟩
 ·exact ⟨IK,srcOk10⟩
 ·exact ⟨Ig,srcOk11⟩
 omega
theorem tg:Spec Tryz.prog 108 (ba [] []) (aP (.sl 12 (fm srcs)) []):=by
 refine Spec.ofN Tryz.func108 rfl Tryz.ntmps108 rfl ?_
 refine am (ai (bq _ fG) (aj (am (ai (bg _ _ aa rfl ag (by (simp <;> rfl)) ah rfl) ?_))))
 exact kD rfl (aj (aG (bH (.inr rfl) rfl (.tmp nD) (Le.out [] [] (jc rfl ae) rfl rfl rfl trivial trivial))))
theorem vy (n:Int) (h1: -9223372036854775808≤n) (h2:n≤9223372036854775807):
  Spec Tryz.prog 75 (ba [.v (.int .i64 n)] []) (aP (.v (bt (srcs.getD (dL n 12).toNat []))) []):=by
 have ha:=jS n 12 ab ab h1 h2
 have hlo:=ji n 12 ab
 have hhi:=jV n 12 ab
 obtain ⟨k,hk⟩: ∃ k:Nat,dL n 12=(k:Int):=⟨(dL n 12).toNat,by omega⟩
 rw [hk] at ha hlo hhi ⊢
 have hk2:k < srcs.length:=by rw [Be];omega
 have hg:=jI srcs k hk2
 have hs:=tg
 rw [Int.toNat_natCast]
 generalize srcs=S at hg hs hk2
 refine Spec.ofN Tryz.func75 rfl Tryz.ntmps75 rfl ?_
 refine am (oV rfl (aj (am (ai (aH aa (by repeat' (exact cW)) (hs) rfl rfl) ?_))))
 refine kD rfl (aj (am (eV rfl (aX rfl (eV rfl (ai (bn _ aa rfl) (ai (aH aa al (ha) rfl rfl) ?_)))))))
 refine ai (bp _ _ aa rfl rfl _ rfl ab (by (simp only [aO,bi,bl,bw,bv,bI,bz,bP,eF,aO,List.length_map];omega)) (by exact Nat.mul_one _)) ?_
 refine ai (bO _ aa rfl (by exact hg) rfl) ?_
 exact oV rfl (aj (aG (fv rfl rfl)))
theorem tI (n:Int) (h1: -9223372036854775808≤n) (h2:n≤9223372036854775807):
  Spec Tryz.prog 39 (ba [.v (.int .i64 n)] []) (aP (NQ (durs.getD (dL n 12).toNat []) (vols.getD (dL n 12).toNat []) (onss.getD (dL n 12).toNat [])) []):=by
 have hs:=vy n h1 h2
 have hlo:=ji n 12 ab
 have hhi:=jV n 12 ab
 obtain ⟨k,hk⟩: ∃ k:Nat,dL n 12=(k:Int):=⟨(dL n 12).toNat,by omega⟩
 rw [hk] at hs hlo hhi ⊢
 rw [Int.toNat_natCast] at hs ⊢
 obtain ⟨U,hS⟩:=JJ k ab
 have hb:=wJ U
 rw [DP,if_pos (zB hS)] at hb
 generalize srcs.getD k []=s at hs hb
 generalize durs.getD k []=d at hb ⊢
 generalize vols.getD k []=v at hb ⊢
 generalize onss.getD k []=ons at hb ⊢
 clear U hS
 refine Spec.ofN Tryz.func39 rfl Tryz.ntmps39 rfl ?_
 refine am (ai (aB (2,0) aa rfl rfl) (aj (am (aX rfl (ai (aH aa al (hs) rfl rfl) ?_)))))
 refine ai (aH aa al (hb) rfl rfl) ?_
 refine ai (aI _ tA) (ai (cm _ rfl oZ) (ai (cm _ rfl ee) (ai (aB (3,0) aa rfl rfl) (bG rfl rfl rfl rfl rfl rfl (be rfl (aj (am (ai (az _ aa rfl rfl rfl rfl) (bG rfl rfl rfl rfl rfl rfl (aj ?_))))))))))
 exact aG (bH (.inr rfl) rfl (.cellA aa rfl rfl rfl) (Le.out [] [] (.agg rfl lz) rfl rfl rfl trivial trivial))

structure GL (L:List Int):Prop where
 n:L.length≤4611686018427387904
 r: ∀ x∈L, -9223372036854775808≤x∧x≤9223372036854775807

structure Pg where
 c:List eS
 e:Nat→Int
 d:Nat
 v:Nat
abbrev Pz (p:Pg):List AV:=EJ p.c.length (inl p.c) p.e (p.d:Int) (p.v:Int)
abbrev hG (p:Pg):AV:= .agg (Pz p)
end Go.Proofs.YtmjnackchaahbaaGreat
