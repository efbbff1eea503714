/- Part 13 of the texts that the walk leans on: the machine, the walks, the plain laws. -/
import Derived.Test.YtmjnackchaahbaaGreatNcZ12
set_option linter.unusedSimpArgs false
set_option linter.unusedVariables false
namespace Go.Proofs.YtmjnackchaahbaaGreat
open Go.RowKit

abbrev HM (c:AV) (e:Nat→Int) (d v:Int):List AV:=[c, .v (.int .i64 (e 0)), .v (.int .i64 (e 1)), .v (.int .i64 (e 2)), .v (.int .i64 (e 3)), .v (.int .i64 (e 4)), .v (.int .i64 (e 5)), .v (.int .i64 (e 6)), .v (.int .i64 (e 7)), .v (.int .i64 (e 8)), .v (.int .i64 (e 9)), .v (.int .i64 (e 10)), .v (.int .i64 (e 11)), .v (.int .i64 (e 12)), .v (.int .i64 (e 13)), .v (.int .i64 (e 14)), .v (.int .i64 (e 15)), .v (.int .i64 (e 16)), .v (.int .i64 (e 17)), .v (.int .i64 (e 18)), .v (.int .i64 (e 19)), .v (.int .i64 (e 20)), .v (.int .i64 (e 21)), .v (.int .i64 (e 22)), .v (.int .i64 (e 23)), .v (.int .i64 (e 24)), .v (.int .i64 (e 25)), .v (.int .i64 (e 26)), .v (.int .i64 (e 27)), .v (.int .i64 (e 28)), .v (.int .i64 (e 29)), .v (.int .i64 (e 30)), .v (.int .i64 (e 31)), .v (.int .i64 (e 32)), .v (.int .i64 (e 33)), .v (.int .i64 (e 34)), .v (.int .i64 (e 35)), .v (.int .i64 (e 36)), .v (.int .i64 (e 37)), .v (.int .i64 (e 38)), .v (.int .i64 (e 39)), .v (.int .i64 d), .v (.int .i64 v)]
abbrev DE (n:Nat) (xs:List PV) (e:Nat→Int) (d v:Int):List AV:=HM (.sl n xs) e d v
def kg (e:Nat→Int) (h:Nat) (x:Int):Nat→Int:=fun k=> if k=h then x else e k
theorem tD (c:AV) (e:Nat→Int) (d v:Int) (h:Nat) (hh:h < 40) (x:Int):fQ (HM c e d v) (1+h) [.v (.int .i64 x)]=HM c (kg e h x) d v:=by
 rcases h with _ | _ | _ | _ | _ | _ | _ | _ | _ | _ | _ | _ | _ | _ | _ | _ | _ | _ | _ | _ | _ | _ | _ | _ | _ | _ | _ | _ | _ | _ | _ | _ | _ | _ | _ | _ | _ | _ | _ | _ | h
 all_goals first | rfl | omega
theorem tu (n:Nat) (xs:List PV) (e:Nat→Int) (d v:Int) (h:Nat) (hh:h < 40):(DE n xs e d v)[1+h]? =some (.v (.int .i64 (e h))):=by
 rcases h with _ | _ | _ | _ | _ | _ | _ | _ | _ | _ | _ | _ | _ | _ | _ | _ | _ | _ | _ | _ | _ | _ | _ | _ | _ | _ | _ | _ | _ | _ | _ | _ | _ | _ | _ | _ | _ | _ | _ | _ | h
 all_goals first | rfl | omega
def Gr (l:List Nat):List PV:=l.map fun (x:Nat)=> .v (.int .i64 (x:Int))
@[simp] theorem eG (l:List Nat):(Gr l).length=l.length:=by simp [Gr]
theorem EA (l:List Nat) (k:Nat) (h:k < l.length):(Gr l)[k]? =some (.v (.int .i64 (l.getD k 0:Int))):=by simp [Gr,h]
theorem yw:Spec Tryz.prog 106 (ba [.v (.int .i64 1)] []) (aP (.v (.int .i64 0)) []):=by
 refine Spec.ofN Tryz.func106 rfl Tryz.ntmps106 rfl ?_
 refine am (be rfl (aj (aq (am (aX rfl (aj (ay (aq (iE rfl rfl rfl rfl rfl (aS ?_))))))))))
 exact bJ rfl rfl (am (be rfl (aj (aF (fu rfl rfl)))))
theorem BW:Spec Tryz.prog 106 (ba [.v (.int .i64 2)] []) (aP (.v (.int .i64 0)) []):=by
 refine Spec.ofN Tryz.func106 rfl Tryz.ntmps106 rfl ?_
 refine am (be rfl (aj (aq (am (aX rfl (aj (ay (aq (cJ rfl rfl rfl rfl rfl (iE rfl rfl rfl rfl rfl ?_))))))))))
 exact aS (bJ rfl rfl (am (be rfl (aj (aF (fu rfl rfl))))))
theorem uc:Spec Tryz.prog 106 (ba [.v (.int .i64 3)] []) (aP (.v (.int .i64 1)) []):=by
 refine Spec.ofN Tryz.func106 rfl Tryz.ntmps106 rfl ?_
 refine am (be rfl (aj (aq (am (aX rfl (aj (ay (aq ?_))))))))
 iterate 7 refine cJ rfl rfl rfl rfl rfl ?_
 refine aM (σ':=aD 31 [(3,_)] [] [] []) kp ?_
 refine dY rfl rfl rfl rfl rfl (aq ?_)
 iterate 3 refine cJ rfl rfl rfl rfl rfl ?_
 exact iE rfl rfl rfl rfl rfl (aS (bJ rfl rfl (am (be rfl (aj (aF (fu rfl rfl)))))))
theorem yb:Spec Tryz.prog 106 (ba [.v (.int .i64 4)] []) (aP (.v (.int .i64 0)) []):=by
 refine Spec.ofN Tryz.func106 rfl Tryz.ntmps106 rfl ?_
 refine am (be rfl (aj (aq (am (aX rfl (aj (ay (aq ?_))))))))
 iterate 2 refine cJ rfl rfl rfl rfl rfl ?_
 exact iE rfl rfl rfl rfl rfl (aS (bJ rfl rfl (am (be rfl (aj (aF (fu rfl rfl)))))))
theorem yQ:Spec Tryz.prog 106 (ba [.v (.int .i64 5)] []) (aP (.v (.int .i64 1)) []):=by
 refine Spec.ofN Tryz.func106 rfl Tryz.ntmps106 rfl ?_
 refine am (be rfl (aj (aq (am (aX rfl (aj (ay (aq ?_))))))))
 iterate 7 refine cJ rfl rfl rfl rfl rfl ?_
 refine aM (σ':=aD 31 [(3,_)] [] [] []) kp ?_
 exact dY rfl rfl rfl rfl rfl (aq (iE rfl rfl rfl rfl rfl (aS (bJ rfl rfl (am (be rfl (aj (aF (fu rfl rfl)))))))))
theorem Ak:Spec Tryz.prog 106 (ba [.v (.int .i64 6)] []) (aP (.v (.int .i64 2)) []):=by
 refine Spec.ofN Tryz.func106 rfl Tryz.ntmps106 rfl ?_
 refine am (be rfl (aj (aq (am (aX rfl (aj (ay (aq ?_))))))))
 iterate 7 refine cJ rfl rfl rfl rfl rfl ?_
 refine aM (σ':=aD 31 [(3,_)] [] [] []) kp ?_
 refine dY rfl rfl rfl rfl rfl (aq ?_)
 iterate 5 refine cJ rfl rfl rfl rfl rfl ?_
 refine dY rfl rfl rfl rfl rfl (aq (iE rfl rfl rfl rfl rfl (aS (bJ rfl rfl (aq ?_)))))
 refine aM (σ':=aD 31 [] [] [] []) kp ?_
 exact an (be rfl (aj (aF (fu rfl rfl))))
theorem Bj:Spec Tryz.prog 106 (ba [.v (.int .i64 7)] []) (aP (.v (.int .i64 2)) []):=by
 refine Spec.ofN Tryz.func106 rfl Tryz.ntmps106 rfl ?_
 refine am (be rfl (aj (aq (am (aX rfl (aj (ay (aq ?_))))))))
 iterate 7 refine cJ rfl rfl rfl rfl rfl ?_
 refine aM (σ':=aD 31 [(3,_)] [] [] []) kp ?_
 refine dY rfl rfl rfl rfl rfl (aq ?_)
 iterate 5 refine cJ rfl rfl rfl rfl rfl ?_
 refine dY rfl rfl rfl rfl rfl (aq (cJ rfl rfl rfl rfl rfl (aq ?_)))
 refine aM (σ':=aD 31 [(3,_)] [] [] []) kp ?_
 exact zn rfl rfl rfl rfl rfl (aS (bJ rfl rfl (am (be rfl (aj (aF (fu rfl rfl)))))))
theorem CO:Spec Tryz.prog 106 (ba [.v (.int .i64 8)] []) (aP (.v (.int .i64 2)) []):=by
 refine Spec.ofN Tryz.func106 rfl Tryz.ntmps106 rfl ?_
 refine am (be rfl (aj (aq (am (aX rfl (aj (ay (aq ?_))))))))
 iterate 7 refine cJ rfl rfl rfl rfl rfl ?_
 refine aM (σ':=aD 31 [(3,_)] [] [] []) kp ?_
 refine dY rfl rfl rfl rfl rfl (aq ?_)
 iterate 5 refine cJ rfl rfl rfl rfl rfl ?_
 refine dY rfl rfl rfl rfl rfl (aq (cJ rfl rfl rfl rfl rfl (aq ?_)))
 refine aM (σ':=aD 31 [(3,_)] [] [] []) kp ?_
 exact dY rfl rfl rfl rfl rfl (iE rfl rfl rfl rfl rfl (aS (bJ rfl rfl (am (be rfl (aj (aF (fu rfl rfl))))))))
theorem Ch:Spec Tryz.prog 106 (ba [.v (.int .i64 9)] []) (aP (.v (.int .i64 2)) []):=by
 refine Spec.ofN Tryz.func106 rfl Tryz.ntmps106 rfl ?_
 refine am (be rfl (aj (aq (am (aX rfl (aj (ay (aq ?_))))))))
 iterate 7 refine cJ rfl rfl rfl rfl rfl ?_
 refine aM (σ':=aD 31 [(3,_)] [] [] []) kp ?_
 refine dY rfl rfl rfl rfl rfl (aq ?_)
 iterate 5 refine cJ rfl rfl rfl rfl rfl ?_
 refine dY rfl rfl rfl rfl rfl (aq (cJ rfl rfl rfl rfl rfl (aq ?_)))
 refine aM (σ':=aD 31 [(3,_)] [] [] []) kp ?_
 exact dY rfl rfl rfl rfl rfl (cJ rfl rfl rfl rfl rfl (iE rfl rfl rfl rfl rfl (aS (bJ rfl rfl (am (be rfl (aj (aF (fu rfl rfl)))))))))
theorem BC:Spec Tryz.prog 106 (ba [.v (.int .i64 10)] []) (aP (.v (.int .i64 1)) []):=by
 refine Spec.ofN Tryz.func106 rfl Tryz.ntmps106 rfl ?_
 refine am (be rfl (aj (aq (am (aX rfl (aj (ay (aq ?_))))))))
 iterate 7 refine cJ rfl rfl rfl rfl rfl ?_
 refine aM (σ':=aD 31 [(3,_)] [] [] []) kp ?_
 exact dY rfl rfl rfl rfl rfl (aq (cJ rfl rfl rfl rfl rfl (iE rfl rfl rfl rfl rfl (aS (bJ rfl rfl (am (be rfl (aj (aF (fu rfl rfl))))))))))
theorem Fa:Spec Tryz.prog 106 (ba [.v (.int .i64 11)] []) (aP (.v (.int .i64 2)) []):=by
 refine Spec.ofN Tryz.func106 rfl Tryz.ntmps106 rfl ?_
 refine am (be rfl (aj (aq (am (aX rfl (aj (ay (aq ?_))))))))
 iterate 7 refine cJ rfl rfl rfl rfl rfl ?_
 refine aM (σ':=aD 31 [(3,_)] [] [] []) kp ?_
 refine dY rfl rfl rfl rfl rfl (aq ?_)
 iterate 5 refine cJ rfl rfl rfl rfl rfl ?_
 refine dY rfl rfl rfl rfl rfl (aq (cJ rfl rfl rfl rfl rfl (aq ?_)))
 refine aM (σ':=aD 31 [(3,_)] [] [] []) kp ?_
 refine dY rfl rfl rfl rfl rfl ?_
 iterate 2 refine cJ rfl rfl rfl rfl rfl ?_
 exact iE rfl rfl rfl rfl rfl (aS (bJ rfl rfl (am (be rfl (aj (aF (fu rfl rfl)))))))
theorem DV:Spec Tryz.prog 106 (ba [.v (.int .i64 12)] []) (aP (.v (.int .i64 2)) []):=by
 refine Spec.ofN Tryz.func106 rfl Tryz.ntmps106 rfl ?_
 refine am (be rfl (aj (aq (am (aX rfl (aj (ay (aq ?_))))))))
 iterate 7 refine cJ rfl rfl rfl rfl rfl ?_
 refine aM (σ':=aD 31 [(3,_)] [] [] []) kp ?_
 refine dY rfl rfl rfl rfl rfl (aq ?_)
 iterate 5 refine cJ rfl rfl rfl rfl rfl ?_
 refine dY rfl rfl rfl rfl rfl (aq (cJ rfl rfl rfl rfl rfl (aq ?_)))
 refine aM (σ':=aD 31 [(3,_)] [] [] []) kp ?_
 refine dY rfl rfl rfl rfl rfl ?_
 iterate 3 refine cJ rfl rfl rfl rfl rfl ?_
 exact iE rfl rfl rfl rfl rfl (aS (bJ rfl rfl (am (be rfl (aj (aF (fu rfl rfl)))))))
theorem DH:Spec Tryz.prog 106 (ba [.v (.int .i64 13)] []) (aP (.v (.int .i64 2)) []):=by
 refine Spec.ofN Tryz.func106 rfl Tryz.ntmps106 rfl ?_
 refine am (be rfl (aj (aq (am (aX rfl (aj (ay (aq ?_))))))))
 iterate 7 refine cJ rfl rfl rfl rfl rfl ?_
 refine aM (σ':=aD 31 [(3,_)] [] [] []) kp ?_
 refine dY rfl rfl rfl rfl rfl (aq ?_)
 iterate 5 refine cJ rfl rfl rfl rfl rfl ?_
 refine dY rfl rfl rfl rfl rfl (aq (cJ rfl rfl rfl rfl rfl (aq ?_)))
 refine aM (σ':=aD 31 [(3,_)] [] [] []) kp ?_
 refine dY rfl rfl rfl rfl rfl ?_
 iterate 4 refine cJ rfl rfl rfl rfl rfl ?_
 exact iE rfl rfl rfl rfl rfl (aS (bJ rfl rfl (am (be rfl (aj (aF (fu rfl rfl)))))))
theorem BH:Spec Tryz.prog 106 (ba [.v (.int .i64 14)] []) (aP (.v (.int .i64 1)) []):=by
 refine Spec.ofN Tryz.func106 rfl Tryz.ntmps106 rfl ?_
 refine am (be rfl (aj (aq (am (aX rfl (aj (ay (aq ?_))))))))
 iterate 7 refine cJ rfl rfl rfl rfl rfl ?_
 refine aM (σ':=aD 31 [(3,_)] [] [] []) kp ?_
 refine dY rfl rfl rfl rfl rfl (aq ?_)
 iterate 2 refine cJ rfl rfl rfl rfl rfl ?_
 exact iE rfl rfl rfl rfl rfl (aS (bJ rfl rfl (am (be rfl (aj (aF (fu rfl rfl)))))))
theorem xM:Spec Tryz.prog 106 (ba [.v (.int .i64 15)] []) (aP (.v (.int .i64 0)) []):=by
 refine Spec.ofN Tryz.func106 rfl Tryz.ntmps106 rfl ?_
 refine am (be rfl (aj (aq (am (aX rfl (aj (ay (aq ?_))))))))
 iterate 3 refine cJ rfl rfl rfl rfl rfl ?_
 exact iE rfl rfl rfl rfl rfl (aS (bJ rfl rfl (am (be rfl (aj (aF (fu rfl rfl)))))))
theorem zx:Spec Tryz.prog 106 (ba [.v (.int .i64 16)] []) (aP (.v (.int .i64 1)) []):=by
 refine Spec.ofN Tryz.func106 rfl Tryz.ntmps106 rfl ?_
 refine am (be rfl (aj (aq (am (aX rfl (aj (ay (aq ?_))))))))
 iterate 7 refine cJ rfl rfl rfl rfl rfl ?_
 refine aM (σ':=aD 31 [(3,_)] [] [] []) kp ?_
 refine dY rfl rfl rfl rfl rfl (aq ?_)
 iterate 4 refine cJ rfl rfl rfl rfl rfl ?_
 exact iE rfl rfl rfl rfl rfl (aS (bJ rfl rfl (am (be rfl (aj (aF (fu rfl rfl)))))))
theorem yc:Spec Tryz.prog 106 (ba [.v (.int .i64 17)] []) (aP (.v (.int .i64 3)) []):=by
 refine Spec.ofN Tryz.func106 rfl Tryz.ntmps106 rfl ?_
 refine am (be rfl (aj (aq (am (aX rfl (aj (ay (aq ?_))))))))
 iterate 7 refine cJ rfl rfl rfl rfl rfl ?_
 refine aM (σ':=aD 31 [(3,_)] [] [] []) kp ?_
 refine dY rfl rfl rfl rfl rfl (aq ?_)
 iterate 5 refine cJ rfl rfl rfl rfl rfl ?_
 refine dY rfl rfl rfl rfl rfl (aq (cJ rfl rfl rfl rfl rfl (aq ?_)))
 refine aM (σ':=aD 31 [(3,_)] [] [] []) kp ?_
 refine dY rfl rfl rfl rfl rfl ?_
 iterate 5 refine cJ rfl rfl rfl rfl rfl ?_
 refine dY rfl rfl rfl rfl rfl (iE rfl rfl rfl rfl rfl (aq ?_))
 refine aM (σ':=aD 31 [] [] [] []) kp ?_
 exact an (be rfl (aj (aF (fu rfl rfl))))
theorem wa:Spec Tryz.prog 106 (ba [.v (.int .i64 18)] []) (aP (.v (.int .i64 0)) []):=by
 refine Spec.ofN Tryz.func106 rfl Tryz.ntmps106 rfl ?_
 refine am (be rfl (aj (aq (am (aX rfl (aj (ay (aq ?_))))))))
 iterate 4 refine cJ rfl rfl rfl rfl rfl ?_
 exact iE rfl rfl rfl rfl rfl (aS (bJ rfl rfl (am (be rfl (aj (aF (fu rfl rfl)))))))
theorem uQ:Spec Tryz.prog 106 (ba [.v (.int .i64 19)] []) (aP (.v (.int .i64 0)) []):=by
 refine Spec.ofN Tryz.func106 rfl Tryz.ntmps106 rfl ?_
 refine am (be rfl (aj (aq (am (aX rfl (aj (ay (aq ?_))))))))
 iterate 5 refine cJ rfl rfl rfl rfl rfl ?_
 exact iE rfl rfl rfl rfl rfl (aS (bJ rfl rfl (am (be rfl (aj (aF (fu rfl rfl)))))))
theorem zl:Spec Tryz.prog 106 (ba [.v (.int .i64 20)] []) (aP (.v (.int .i64 0)) []):=by
 refine Spec.ofN Tryz.func106 rfl Tryz.ntmps106 rfl ?_
 refine am (be rfl (aj (aq (am (aX rfl (aj (ay (aq ?_))))))))
 iterate 6 refine cJ rfl rfl rfl rfl rfl ?_
 refine iE rfl rfl rfl rfl rfl (aS (bJ rfl rfl (aq ?_)))
 refine aM (σ':=aD 31 [] [] [] []) kp ?_
 exact an (be rfl (aj (aF (fu rfl rfl))))
theorem wI:Spec Tryz.prog 106 (ba [.v (.int .i64 21)] []) (aP (.v (.int .i64 2)) []):=by
 refine Spec.ofN Tryz.func106 rfl Tryz.ntmps106 rfl ?_
 refine am (be rfl (aj (aq (am (aX rfl (aj (ay (aq ?_))))))))
 iterate 7 refine cJ rfl rfl rfl rfl rfl ?_
 refine aM (σ':=aD 31 [(3,_)] [] [] []) kp ?_
 refine dY rfl rfl rfl rfl rfl (aq ?_)
 iterate 5 refine cJ rfl rfl rfl rfl rfl ?_
 refine dY rfl rfl rfl rfl rfl (aq (cJ rfl rfl rfl rfl rfl (aq ?_)))
 refine aM (σ':=aD 31 [(3,_)] [] [] []) kp ?_
 refine dY rfl rfl rfl rfl rfl ?_
 iterate 5 refine cJ rfl rfl rfl rfl rfl ?_
 exact zn rfl rfl rfl rfl rfl (am (be rfl (aj (aF (fu rfl rfl)))))
theorem xJ:Spec Tryz.prog 106 (ba [.v (.int .i64 22)] []) (aP (.v (.int .i64 1)) []):=by
 refine Spec.ofN Tryz.func106 rfl Tryz.ntmps106 rfl ?_
 refine am (be rfl (aj (aq (am (aX rfl (aj (ay (aq ?_))))))))
 iterate 7 refine cJ rfl rfl rfl rfl rfl ?_
 refine aM (σ':=aD 31 [(3,_)] [] [] []) kp ?_
 refine dY rfl rfl rfl rfl rfl (aq ?_)
 iterate 5 refine cJ rfl rfl rfl rfl rfl ?_
 exact zn rfl rfl rfl rfl rfl (am (be rfl (aj (aF (fu rfl rfl)))))
theorem yy:Spec Tryz.prog 106 (ba [.v (.int .i64 23)] []) (aP (.v (.int .i64 0)) []):=by
 refine Spec.ofN Tryz.func106 rfl Tryz.ntmps106 rfl ?_
 refine am (be rfl (aj (aq (am (aX rfl (aj (ay (aq ?_))))))))
 iterate 7 refine cJ rfl rfl rfl rfl rfl ?_
 refine aM (σ':=aD 31 [(3,_)] [] [] []) kp ?_
 exact zn rfl rfl rfl rfl rfl (am (be rfl (aj (aF (fu rfl rfl)))))
theorem rU (o:Opc):Spec Tryz.prog 106 (ba [.v (.int .i64 (o.num:Int))] []) (aP (.v (.int .i64 (o.pops:Int))) []):=by
 cases o
 ·exact yw
 ·exact BW
 ·exact uc
 ·exact yb
 ·exact yQ
 ·exact Ak
 ·exact Bj
 ·exact CO
 ·exact Ch
 ·exact BC
 ·exact Fa
 ·exact DV
 ·exact DH
 ·exact BH
 ·exact xM
 ·exact zx
 ·exact yc
 ·exact wa
 ·exact uQ
 ·exact zl
 ·exact wI
 ·exact xJ
 exact yy
theorem yJ:Spec Tryz.prog 107 (ba [.v (.int .i64 1)] []) (aP (.v (.int .i64 1)) []):=by
 refine Spec.ofN Tryz.func107 rfl Tryz.ntmps107 rfl ?_
 refine am (be rfl (aj (aq (am (aX rfl (aj (ay (aq (iE rfl rfl rfl rfl rfl (aS ?_))))))))))
 exact bJ rfl rfl (am (be rfl (aj (aF (fu rfl rfl)))))
theorem AT:Spec Tryz.prog 107 (ba [.v (.int .i64 2)] []) (aP (.v (.int .i64 1)) []):=by
 refine Spec.ofN Tryz.func107 rfl Tryz.ntmps107 rfl ?_
 refine am (be rfl (aj (aq (am (aX rfl (aj (ay (aq (cJ rfl rfl rfl rfl rfl (iE rfl rfl rfl rfl rfl ?_))))))))))
 exact aS (bJ rfl rfl (am (be rfl (aj (aF (fu rfl rfl))))))
theorem uX:Spec Tryz.prog 107 (ba [.v (.int .i64 3)] []) (aP (.v (.int .i64 0)) []):=by
 refine Spec.ofN Tryz.func107 rfl Tryz.ntmps107 rfl ?_
 refine am (be rfl (aj (aq (am (aX rfl (aj (ay (aq ?_))))))))
 iterate 7 refine cJ rfl rfl rfl rfl rfl ?_
 refine aq ?_
 refine aM (σ':=aD 18 [(3,_)] [] [] []) kp ?_
 refine dY rfl rfl rfl rfl rfl ?_
 iterate 4 refine cJ rfl rfl rfl rfl rfl ?_
 exact dY rfl rfl rfl rfl rfl (cu (am (be rfl (aj (aF (fu rfl rfl))))))
theorem yh:Spec Tryz.prog 107 (ba [.v (.int .i64 4)] []) (aP (.v (.int .i64 1)) []):=by
 refine Spec.ofN Tryz.func107 rfl Tryz.ntmps107 rfl ?_
 refine am (be rfl (aj (aq (am (aX rfl (aj (ay (aq ?_))))))))
 iterate 2 refine cJ rfl rfl rfl rfl rfl ?_
 exact iE rfl rfl rfl rfl rfl (aS (bJ rfl rfl (am (be rfl (aj (aF (fu rfl rfl)))))))
theorem yZ:Spec Tryz.prog 107 (ba [.v (.int .i64 5)] []) (aP (.v (.int .i64 1)) []):=by
 refine Spec.ofN Tryz.func107 rfl Tryz.ntmps107 rfl ?_
 refine am (be rfl (aj (aq (am (aX rfl (aj (ay (aq ?_))))))))
 iterate 3 refine cJ rfl rfl rfl rfl rfl ?_
 exact iE rfl rfl rfl rfl rfl (aS (bJ rfl rfl (am (be rfl (aj (aF (fu rfl rfl)))))))
theorem AL:Spec Tryz.prog 107 (ba [.v (.int .i64 6)] []) (aP (.v (.int .i64 1)) []):=by
 refine Spec.ofN Tryz.func107 rfl Tryz.ntmps107 rfl ?_
 refine am (be rfl (aj (aq (am (aX rfl (aj (ay (aq ?_))))))))
 iterate 6 refine cJ rfl rfl rfl rfl rfl ?_
 refine iE rfl rfl rfl rfl rfl (aS (bJ rfl rfl (aq ?_)))
 refine aM (σ':=aD 18 [] [] [] []) kp ?_
 exact an (be rfl (aj (aF (fu rfl rfl))))
theorem Cw:Spec Tryz.prog 107 (ba [.v (.int .i64 7)] []) (aP (.v (.int .i64 1)) []):=by
 refine Spec.ofN Tryz.func107 rfl Tryz.ntmps107 rfl ?_
 refine am (be rfl (aj (aq (am (aX rfl (aj (ay (aq ?_))))))))
 iterate 7 refine cJ rfl rfl rfl rfl rfl ?_
 refine aq ?_
 refine aM (σ':=aD 18 [(3,_)] [] [] []) kp ?_
 exact zn rfl rfl rfl rfl rfl (aS (bJ rfl rfl (am (be rfl (aj (aF (fu rfl rfl)))))))
theorem CH:Spec Tryz.prog 107 (ba [.v (.int .i64 8)] []) (aP (.v (.int .i64 1)) []):=by
 refine Spec.ofN Tryz.func107 rfl Tryz.ntmps107 rfl ?_
 refine am (be rfl (aj (aq (am (aX rfl (aj (ay (aq ?_))))))))
 iterate 7 refine cJ rfl rfl rfl rfl rfl ?_
 refine aq ?_
 refine aM (σ':=aD 18 [(3,_)] [] [] []) kp ?_
 exact dY rfl rfl rfl rfl rfl (iE rfl rfl rfl rfl rfl (aS (bJ rfl rfl (am (be rfl (aj (aF (fu rfl rfl))))))))
theorem Aw:Spec Tryz.prog 107 (ba [.v (.int .i64 9)] []) (aP (.v (.int .i64 1)) []):=by
 refine Spec.ofN Tryz.func107 rfl Tryz.ntmps107 rfl ?_
 refine am (be rfl (aj (aq (am (aX rfl (aj (ay (aq ?_))))))))
 iterate 7 refine cJ rfl rfl rfl rfl rfl ?_
 refine aq ?_
 refine aM (σ':=aD 18 [(3,_)] [] [] []) kp ?_
 exact dY rfl rfl rfl rfl rfl (cJ rfl rfl rfl rfl rfl (iE rfl rfl rfl rfl rfl (aS (bJ rfl rfl (am (be rfl (aj (aF (fu rfl rfl)))))))))
theorem AQ:Spec Tryz.prog 107 (ba [.v (.int .i64 10)] []) (aP (.v (.int .i64 1)) []):=by
 refine Spec.ofN Tryz.func107 rfl Tryz.ntmps107 rfl ?_
 refine am (be rfl (aj (aq (am (aX rfl (aj (ay (aq ?_))))))))
 iterate 4 refine cJ rfl rfl rfl rfl rfl ?_
 exact iE rfl rfl rfl rfl rfl (aS (bJ rfl rfl (am (be rfl (aj (aF (fu rfl rfl)))))))
theorem FX:Spec Tryz.prog 107 (ba [.v (.int .i64 11)] []) (aP (.v (.int .i64 1)) []):=by
 refine Spec.ofN Tryz.func107 rfl Tryz.ntmps107 rfl ?_
 refine am (be rfl (aj (aq (am (aX rfl (aj (ay (aq ?_))))))))
 iterate 7 refine cJ rfl rfl rfl rfl rfl ?_
 refine aq ?_
 refine aM (σ':=aD 18 [(3,_)] [] [] []) kp ?_
 refine dY rfl rfl rfl rfl rfl ?_
 iterate 2 refine cJ rfl rfl rfl rfl rfl ?_
 exact iE rfl rfl rfl rfl rfl (aS (bJ rfl rfl (am (be rfl (aj (aF (fu rfl rfl)))))))
theorem FU:Spec Tryz.prog 107 (ba [.v (.int .i64 12)] []) (aP (.v (.int .i64 1)) []):=by
 refine Spec.ofN Tryz.func107 rfl Tryz.ntmps107 rfl ?_
 refine am (be rfl (aj (aq (am (aX rfl (aj (ay (aq ?_))))))))
 iterate 7 refine cJ rfl rfl rfl rfl rfl ?_
 refine aq ?_
 refine aM (σ':=aD 18 [(3,_)] [] [] []) kp ?_
 refine dY rfl rfl rfl rfl rfl ?_
 iterate 3 refine cJ rfl rfl rfl rfl rfl ?_
 exact iE rfl rfl rfl rfl rfl (aS (bJ rfl rfl (am (be rfl (aj (aF (fu rfl rfl)))))))
theorem DK:Spec Tryz.prog 107 (ba [.v (.int .i64 13)] []) (aP (.v (.int .i64 1)) []):=by
 refine Spec.ofN Tryz.func107 rfl Tryz.ntmps107 rfl ?_
 refine am (be rfl (aj (aq (am (aX rfl (aj (ay (aq ?_))))))))
 iterate 7 refine cJ rfl rfl rfl rfl rfl ?_
 refine aq ?_
 refine aM (σ':=aD 18 [(3,_)] [] [] []) kp ?_
 refine dY rfl rfl rfl rfl rfl ?_
 iterate 4 refine cJ rfl rfl rfl rfl rfl ?_
 exact zn rfl rfl rfl rfl rfl (am (be rfl (aj (aF (fu rfl rfl)))))
theorem Bb:Spec Tryz.prog 107 (ba [.v (.int .i64 14)] []) (aP (.v (.int .i64 1)) []):=by
 refine Spec.ofN Tryz.func107 rfl Tryz.ntmps107 rfl ?_
 refine am (be rfl (aj (aq (am (aX rfl (aj (ay (aq ?_))))))))
 iterate 5 refine cJ rfl rfl rfl rfl rfl ?_
 exact iE rfl rfl rfl rfl rfl (aS (bJ rfl rfl (am (be rfl (aj (aF (fu rfl rfl)))))))
theorem yr:Spec Tryz.prog 107 (ba [.v (.int .i64 15)] []) (aP (.v (.int .i64 0)) []):=by
 refine Spec.ofN Tryz.func107 rfl Tryz.ntmps107 rfl ?_
 refine am (be rfl (aj (aq (am (aX rfl (aj (ay (aq ?_))))))))
 iterate 7 refine cJ rfl rfl rfl rfl rfl ?_
 refine aq ?_
 refine aM (σ':=aD 18 [(3,_)] [] [] []) kp ?_
 refine dY rfl rfl rfl rfl rfl ?_
 iterate 4 refine cJ rfl rfl rfl rfl rfl ?_
 exact dY rfl rfl rfl rfl rfl (cu (am (be rfl (aj (aF (fu rfl rfl))))))
theorem Bd:Spec Tryz.prog 107 (ba [.v (.int .i64 16)] []) (aP (.v (.int .i64 0)) []):=by
 refine Spec.ofN Tryz.func107 rfl Tryz.ntmps107 rfl ?_
 refine am (be rfl (aj (aq (am (aX rfl (aj (ay (aq ?_))))))))
 iterate 7 refine cJ rfl rfl rfl rfl rfl ?_
 refine aq ?_
 refine aM (σ':=aD 18 [(3,_)] [] [] []) kp ?_
 refine dY rfl rfl rfl rfl rfl ?_
 iterate 4 refine cJ rfl rfl rfl rfl rfl ?_
 exact dY rfl rfl rfl rfl rfl (cu (am (be rfl (aj (aF (fu rfl rfl))))))
theorem xE:Spec Tryz.prog 107 (ba [.v (.int .i64 17)] []) (aP (.v (.int .i64 0)) []):=by
 refine Spec.ofN Tryz.func107 rfl Tryz.ntmps107 rfl ?_
 refine am (be rfl (aj (aq (am (aX rfl (aj (ay (aq ?_))))))))
 iterate 7 refine cJ rfl rfl rfl rfl rfl ?_
 refine aq ?_
 refine aM (σ':=aD 18 [(3,_)] [] [] []) kp ?_
 refine dY rfl rfl rfl rfl rfl ?_
 iterate 4 refine cJ rfl rfl rfl rfl rfl ?_
 exact dY rfl rfl rfl rfl rfl (cu (am (be rfl (aj (aF (fu rfl rfl))))))
theorem wm:Spec Tryz.prog 107 (ba [.v (.int .i64 18)] []) (aP (.v (.int .i64 0)) []):=by
 refine Spec.ofN Tryz.func107 rfl Tryz.ntmps107 rfl ?_
 refine am (be rfl (aj (aq (am (aX rfl (aj (ay (aq ?_))))))))
 iterate 7 refine cJ rfl rfl rfl rfl rfl ?_
 refine aq ?_
 refine aM (σ':=aD 18 [(3,_)] [] [] []) kp ?_
 refine dY rfl rfl rfl rfl rfl ?_
 iterate 4 refine cJ rfl rfl rfl rfl rfl ?_
 exact dY rfl rfl rfl rfl rfl (cu (am (be rfl (aj (aF (fu rfl rfl))))))
theorem uh:Spec Tryz.prog 107 (ba [.v (.int .i64 19)] []) (aP (.v (.int .i64 0)) []):=by
 refine Spec.ofN Tryz.func107 rfl Tryz.ntmps107 rfl ?_
 refine am (be rfl (aj (aq (am (aX rfl (aj (ay (aq ?_))))))))
 iterate 7 refine cJ rfl rfl rfl rfl rfl ?_
 refine aq ?_
 refine aM (σ':=aD 18 [(3,_)] [] [] []) kp ?_
 refine dY rfl rfl rfl rfl rfl ?_
 iterate 4 refine cJ rfl rfl rfl rfl rfl ?_
 exact dY rfl rfl rfl rfl rfl (cu (am (be rfl (aj (aF (fu rfl rfl))))))
theorem xW:Spec Tryz.prog 107 (ba [.v (.int .i64 20)] []) (aP (.v (.int .i64 0)) []):=by
 refine Spec.ofN Tryz.func107 rfl Tryz.ntmps107 rfl ?_
 refine am (be rfl (aj (aq (am (aX rfl (aj (ay (aq ?_))))))))
 iterate 7 refine cJ rfl rfl rfl rfl rfl ?_
 refine aq ?_
 refine aM (σ':=aD 18 [(3,_)] [] [] []) kp ?_
 refine dY rfl rfl rfl rfl rfl ?_
 iterate 4 refine cJ rfl rfl rfl rfl rfl ?_
 exact dY rfl rfl rfl rfl rfl (cu (am (be rfl (aj (aF (fu rfl rfl))))))
theorem vZ:Spec Tryz.prog 107 (ba [.v (.int .i64 21)] []) (aP (.v (.int .i64 0)) []):=by
 refine Spec.ofN Tryz.func107 rfl Tryz.ntmps107 rfl ?_
 refine am (be rfl (aj (aq (am (aX rfl (aj (ay (aq ?_))))))))
 iterate 7 refine cJ rfl rfl rfl rfl rfl ?_
 refine aq ?_
 refine aM (σ':=aD 18 [(3,_)] [] [] []) kp ?_
 refine dY rfl rfl rfl rfl rfl ?_
 iterate 4 refine cJ rfl rfl rfl rfl rfl ?_
 exact dY rfl rfl rfl rfl rfl (cu (am (be rfl (aj (aF (fu rfl rfl))))))
theorem zf:Spec Tryz.prog 107 (ba [.v (.int .i64 22)] []) (aP (.v (.int .i64 0)) []):=by
 refine Spec.ofN Tryz.func107 rfl Tryz.ntmps107 rfl ?_
 refine am (be rfl (aj (aq (am (aX rfl (aj (ay (aq ?_))))))))
 iterate 7 refine cJ rfl rfl rfl rfl rfl ?_
 refine aq ?_
 refine aM (σ':=aD 18 [(3,_)] [] [] []) kp ?_
 refine dY rfl rfl rfl rfl rfl ?_
 iterate 4 refine cJ rfl rfl rfl rfl rfl ?_
 exact dY rfl rfl rfl rfl rfl (cu (am (be rfl (aj (aF (fu rfl rfl))))))
theorem yl:Spec Tryz.prog 107 (ba [.v (.int .i64 23)] []) (aP (.v (.int .i64 0)) []):=by
 refine Spec.ofN Tryz.func107 rfl Tryz.ntmps107 rfl ?_
 refine am (be rfl (aj (aq (am (aX rfl (aj (ay (aq ?_))))))))
 iterate 7 refine cJ rfl rfl rfl rfl rfl ?_
 refine aq ?_
 refine aM (σ':=aD 18 [(3,_)] [] [] []) kp ?_
 refine dY rfl rfl rfl rfl rfl ?_
 iterate 4 refine cJ rfl rfl rfl rfl rfl ?_
 exact dY rfl rfl rfl rfl rfl (cu (am (be rfl (aj (aF (fu rfl rfl))))))
theorem rQ (o:Opc):Spec Tryz.prog 107 (ba [.v (.int .i64 (o.num:Int))] []) (aP (.v (.int .i64 (o.puts:Int))) []):=by
 cases o
 ·exact yJ
 ·exact AT
 ·exact uX
 ·exact yh
 ·exact yZ
 ·exact AL
 ·exact Cw
 ·exact CH
 ·exact Aw
 ·exact AQ
 ·exact FX
 ·exact FU
 ·exact DK
 ·exact Bb
 ·exact yr
 ·exact Bd
 ·exact xE
 ·exact wm
 ·exact uh
 ·exact xW
 ·exact vZ
 ·exact zf
 exact yl
theorem opn_stop {o:Opc}:(o.num:Int)=23↔o= .stop:=by cases o <;> simp [Opc.num]
theorem opn_jump {o:Opc}:(o.num:Int)=15↔o= .jump:=by cases o <;> simp [Opc.num]
theorem opn_unl {o:Opc}:(o.num:Int)=16↔o= .unl:=by cases o <;> simp [Opc.num]
theorem yH (C:List eT) (e:Nat→Int) (dd vv:Int) (i:Nat) (hC:C.length≤1000000) (hi:i < C.length) (hn:(cY C i).op= .jump∨(cY C i).op= .unl→0≤(cY C i).n):
  Spec Tryz.prog 73 (ba [.agg (DE C.length (inl C) e dd vv), .v (.int .i64 (i:Int))] []) (aP (.sl (dS i (cY C i)).length (Gr (dS i (cY C i)))) []):=by
 obtain ⟨x,hx⟩: ∃ x,x=cY C i:=⟨_,rfl⟩
 have hg0:=nP C i hi
 have hg1:=Be C i hi
 rw [← hx] at hn hg0 hg1 ⊢
 clear hx
 obtain ⟨o,n⟩:=x
 simp only at hn hg0 hg1
 refine Spec.ofN Tryz.func73 rfl Tryz.ntmps73 rfl ?_
 refine am (ai (aQ (2,0) _ rfl rfl) (ai (bp _ fA) (aj (aq (am (bb rfl rfl rfl (fc rfl rfl rfl (aX rfl (ai (bn _ _ aa rfl rfl _ rfl ab (by (simp only [aN,bg,bj,bv,bu,bG,bw,bM,eG];omega)) ag) ?_)))))))))
 refine ai (dc _ aa rfl rfl) (ai (bQ _ aa rfl (by exact hg0) rfl) ?_)
 refine aj (ay (am (ai (bA _ _ rfl rfl rfl) (cq rfl (aj (aR rfl (fun hc11=> ?_) (fun hc11=> ?_)))))))
 ·skip
  obtain rfl:=opn_stop.1 hc11
  exact am (ai (bp _ fA) (aj (aF (bH (.inr rfl) rfl (.tmp kH) (Le.out [] [] .nil rfl rfl rfl trivial trivial)))))
 refine am (ai (bA _ _ rfl rfl rfl) (cq rfl (aj (aR rfl (fun hc13=> ?_) (fun hc13=> ?_)))))
 ·skip
  obtain rfl:=opn_jump.1 hc13
  have hn:=hn (.inl rfl)
  refine am (bb rfl rfl rfl (fc rfl rfl rfl (aX rfl (ai (bn _ _ aa rfl rfl _ rfl ab (by (simp only [aN,bg,bj,bv,bu,bG,bw,bM,eG];omega)) ag) ?_))))
  refine ai (dc _ aa rfl rfl) (ai (bQ _ aa rfl (by exact hg1) rfl) ?_)
  refine ai (bh _ _ aa rfl ag (by (simp <;> rfl)) ah rfl) ?_
  exact kD rfl (aj (aF (bH (.inr rfl) rfl (.tmp nf) (Le.out [] [] (jb rfl (by simp [Gr,dS,Int.toNat_of_nonneg hn])) rfl rfl rfl trivial trivial))))
 refine am (ai (bA _ _ rfl rfl rfl) (cq rfl (aj (aR rfl (fun hc22=> ?_) (fun hc22=> ?_)))))
 ·skip
  obtain rfl:=opn_unl.1 hc22
  have hn:=hn (.inr rfl)
  refine am (aX rfl (ai (aZ _ _ rfl rfl (bD ab)) ?_))
  refine bb rfl rfl rfl (fc rfl rfl rfl (aX rfl (ai (bn _ _ aa rfl rfl _ rfl ab (by (simp only [aN,bg,bj,bv,bu,bG,bw,bM,eG];omega)) ag) ?_)))
  refine ai (dc _ aa rfl rfl) (ai (bQ _ aa rfl (by exact hg1) rfl) ?_)
  refine ai (bh _ _ aa rfl ag (by (simp <;> rfl)) ah rfl) ?_
  exact kD rfl (aj (aF (bH (.inr rfl) rfl (.tmp nf) (Le.out [] [] (jb rfl (by simp [Gr,dS,Int.toNat_of_nonneg hn])) rfl rfl rfl trivial trivial))))
 have hs:dS i ⟨o,n⟩=[i+1]:=by
  unfold dS
  have h1:o≠ .stop:=fun e=> hc11 (opn_stop.2 e)
  have h2:o≠ .jump:=fun e=> hc13 (opn_jump.2 e)
  have h3:o≠ .unl:=fun e=> hc22 (opn_unl.2 e)
  cases o <;> first | rfl | exact absurd rfl h1 | exact absurd rfl h2 | exact absurd rfl h3
 refine cu (am (aX rfl (ai (aZ _ _ rfl rfl (bD ab)) ?_)))
 refine ai (bh _ _ aa rfl ag (by (simp <;> rfl)) ah rfl) ?_
 refine kD rfl (aj (aF ?_))
 rw [hs]
 exact bH (.inr rfl) rfl (.tmp nf) (Le.out [] [] (jb rfl (by simp [Gr])) rfl rfl rfl trivial trivial)
instance PA:Arr Tryz.prog 24 40 1:=Arr.of Tryz.underlying24 ae
instance Pw:Arr Tryz.prog 30 9 1:=Arr.of Tryz.underlying30 ae
instance PZ:Arr Tryz.prog 81 41 1:=Arr.of Tryz.underlying81 ae
instance MT:Arr Tryz.prog 173 24 1:=Arr.of Tryz.underlying173 ae

theorem il {l:List Int} {i:Nat} (h:i < l.length):l.getD i (-1)=l.getD i 0:=by
 rw [List.getD_eq_getElem?_getD,List.getD_eq_getElem?_getD,List.getElem?_eq_getElem h];rfl
theorem wd {n:Nat} {d:Int} {s:DS} {l:List Nat} {k:Nat} (h:k < l.length):(l.take (k+1)).foldl (jA n d) s=jA n d ((l.take k).foldl (jA n d) s) (l.getD k 0):=by
 rw [List.take_succ_eq_append_getElem h,List.foldl_append,List.getD_eq_getElem?_getD,List.getElem?_eq_getElem h];rfl
theorem FY (n k:Nat) (h:k < n):((List.replicate k (-1:Int))++List.replicate (n - k) 0).set k (-1)=List.replicate (k+1) (-1)++List.replicate (n - (k+1)) 0:=by
 rw [List.set_append_right _ _ (by simp),List.length_replicate,Nat.sub_self,show n - k=(n - (k+1))+1 by omega,List.replicate_succ,List.set_cons_zero,show List.replicate (k+1) (-1:Int)=List.replicate k (-1)++[-1] from List.replicate_succ']
 simp
theorem CQ {ρ:aA→aA} {σ:St} {F:aA→Bool} {id:aA} {e:TypeId} {sz n m:Nat} {xs ys:List PV} (hid:σ.ob id= .obj (.row e sz xs)) (hF:F id=true) (hl:n*sz=xs.length) (hy:xs=ys) (hn:n=m):Lv ρ σ F (.sl m ys) (.ref id 0 n):=by
 subst hn;exact fe hid hF hl hy
theorem DI.flag {D:Nat→Nat} {n:Nat} {s:DS} {b:Bool} (h:DI D n s):DI D n (s.1,s.2.1,b):=⟨h.len,h.val,h.ok⟩
def zh (C:List eT) (R:List Int×Bool) (z:(List Int×Bool)×Bool):Prop:=if z.2=true then ∃ f,neg z.1.1+1≤f∧jF C f z.1=R else z.1=R
theorem yR {C:List eT} {R:List Int×Bool} {s:List Int×Bool} {f:Nat} (hf:neg s.1+1≤f) (hR:jF C f s=R) (hd:(dD C s C.length).2.2=true→neg (dD C s C.length).1 < neg s.1):
  zh C R (((dD C s C.length).1,(dD C s C.length).2.1),(dD C s C.length).2.2):=by
 obtain ⟨g,rfl⟩: ∃ g,f=g+1:=⟨f - 1,by omega⟩
 unfold zh
 cases hb:(dD C s C.length).2.2 with
 | true=>
  have:=hd hb
  rw [if_pos rfl]
  exact ⟨g,by simp only;omega,by rw [← hR,vT hb]⟩
 | false=> rw [if_neg (by simp)];rw [← hR,wn hb]
def Ky (z:(List Int×Bool)×Bool):Nat:=if z.2=true then neg z.1.1+1 else 0
theorem IC {C:List eT} {s:List Int×Bool} (hd:(dD C s C.length).2.2=true→neg (dD C s C.length).1 < neg s.1):Ky (((dD C s C.length).1,(dD C s C.length).2.1),(dD C s C.length).2.2) < neg s.1+1:=by
 unfold Ky
 simp only
 split
 ·rename_i h;have:=hd h;omega
 omega
theorem ym {C:List eT} {s:DS} {i:Nat} (h:s.1.getD i (-1) < 0):lq C s i=s:=by unfold lq;rw [if_pos h]
theorem BU {C:List eT} {s:DS} {i:Nat} (h: ¬ s.1.getD i (-1) < 0) (h2: ¬ s.1.getD i (-1) - (cY C i).op.pops < 0):lq C s i=(dS i (cY C i)).foldl (jA C.length (s.1.getD i (-1) - (cY C i).op.pops+(cY C i).op.puts)) s:=by
 unfold lq DX
 rw [if_neg h,if_neg h2,show max (s.1.getD i (-1) - (cY C i).op.pops) 0=s.1.getD i (-1) - (cY C i).op.pops by omega]
theorem uk (C:List eT) (en:Nat→Int) (dd vv:Int) (e:Int) (hC:C.length≤1000000) (D:Nat→Nat) (nv:Nat) (hg:Good D nv 0 (C.length - 1) 0 C) (hD: ∀ i,D i≤1000000) (he:0≤e→e < C.length→D e.toNat=0):
  Spec Tryz.prog 72 (ba [.agg (DE C.length (inl C) en dd vv), .v (.int .i64 e)] []) (aP (.tup [.sl (jw C e).1.length (co (jw C e).1), .v (.bool (jw C e).2)]) []):=by
 refine Spec.ofN Tryz.func72 rfl Tryz.ntmps72 rfl ?_
 refine am (ai (aQ (2,0) _ rfl rfl) (ai (bp _ fA) (cq rfl (aj (am (bb rfl rfl rfl (fc rfl rfl rfl (ai (bo _ aa rfl) (ai (qL (17,0) _ _ aa rfl rfl C.length rfl rfl ab rfl (oE C.length)) ?_)))))))))
 refine fh rfl (aj (aU fun K3 hK3=> ?_))
 refine am (be rfl (aj (ay ?_)))
 refine bs (α:=Nat) (fun k=> k≤C.length) 123 [(1,_),(2,_)] [((2,0),_)] (fun k=> [(7, .v (.int .i64 (k:Int))),(6, .ref (6,0) 0 C.length)]) (fun k=> [((6,0), .row 3 1 (co (List.replicate k (-1)++List.replicate (C.length - k) 0)))]) [] [] (fun k=> C.length - k) 0 ?_ (by
  refine Le.mkJ [((6,0),(17,0))] [] rfl ?_ ?_ trivial trivial ?_
  ·exact ⟨(by repeat' (exact Lv.v)),(dI (id:=(2,0)) rfl),(cj ag),(cP rfl ag),trivial⟩
  ·exact ⟨(fq rfl rfl rfl rfl (by repeat' (first | exact Lv.v | exact Lv.sl | exact bf | refine au ?_ ?_))),(fi rfl rfl rfl ag),trivial⟩
  kernel_rfl) ?_
 ·omega
 intro k hk
 have hll:(List.replicate k (-1:Int)++List.replicate (C.length - k) 0).length=C.length:=by simp;omega
 refine aU fun K5 hK5=> ?_
 refine am (aX rfl (gF rfl (ai (dg _ aa rfl rfl) (ai (bm _ _ rfl rfl rfl) (aj (aR rfl (fun hc21=> ?_) (fun hc21=> ?_)))))))
 ·skip
  have hrs:=FY C.length k ab
  refine bq (hK5 _ ?_)
  clear hK5;try clear K5
  refine aq (ay (an (gF rfl (aX rfl (ai (gv _ _ aa rfl rfl rfl _ rfl ab (by exact (Nat.zero_add _).trans (Nat.mul_one _))) ?_)))))
  refine ai (oO _ _ aa rfl rfl rfl rfl rfl (by simp;omega) ((lV _ _ _ ab).trans (congrArg co hrs))) ?_
  refine ee (an (aX rfl (ai (aZ _ _ rfl rfl (bD ab)) ?_)))
  refine be rfl (aJ (⟨k+1,?_,?_,?_⟩))
  ·omega
  ·skip
   refine Le.mkJ [] [] rfl ?_ ?_ trivial trivial ?_
   ·exact ⟨(iV rfl),(iP rfl),(cj ag),(cP rfl ag),trivial⟩
   ·exact ⟨(cp rfl rfl rfl),(fi rfl rfl rfl ag),trivial⟩
   kernel_rfl
  omega
 obtain rfl:k=C.length:=by omega
 have hrep:List.replicate C.length (-1:Int)++List.replicate (C.length - C.length) 0=List.replicate C.length (-1):=by simp
 refine bC (id (hK3 _ ?_))
 clear hK3;try clear K3
 refine aq (am (aX rfl (ai (bm _ _ rfl rfl rfl) (cL rfl (dv (fun hg29=> ?_) (fun hg29=> ?_))))))
 ·skip
  have hdf:jw C e=(List.replicate C.length (-1),true):=if_pos (.inl ab)
  refine aO rfl rfl ah ?_
  refine aO rfl rfl ah ?_
  refine aO rfl rfl ah ?_
  refine aO rfl rfl ah ?_
  refine ai (aC _ _ _ rfl bN) (aj (bJ rfl rfl (am (gF rfl (fh rfl (cq rfl (aj (aF ?_))))))))
  rw [hdf]
  exact jT (.inr rfl) rfl (.tmp dT) (.tmp bN) (Le.out [] [(6,0)] (.tup rfl (au (CQ rfl rfl (by simp) (congrArg co hrep) (by simp)) lz)) rfl rfl rfl tr trivial)
 refine ax rfl rfl (aH _ ea) (ax rfl rfl (aH _ dT) (ax rfl rfl (dg _ aa rfl rfl) (ax rfl rfl (ft _ _ rfl rfl rfl) (ai (aC _ _ _ rfl bN) (aj (aR rfl (fun hc34=> ?_) (fun hc34=> ?_)))))))
 ·skip
  have hdf:jw C e=(List.replicate C.length (-1),true):=if_pos (.inr ab)
  refine am (gF rfl (fh rfl (cq rfl (aj (aF ?_)))))
  rw [hdf]
  exact jT (.inr rfl) rfl (.tmp dT) (.tmp bN) (Le.out [] [(6,0)] (.tup rfl (au (CQ rfl rfl (by simp) (congrArg co hrep) (by simp)) lz)) rfl rfl rfl tr trivial)
 have hdf:jw C e=jF C (C.length+1) ((List.replicate C.length (-1)).set e.toNat 0,true):=if_neg ab
 have hdi0:DI D C.length ((List.replicate C.length (-1)).set e.toNat 0,true,false):=by
  have hr: ∀ i,(List.replicate C.length (-1:Int)).getD i (-1)= -1:=fun i=> by rw [List.getD_eq_getElem?_getD,List.getElem?_replicate];split <;> rfl
  refine ⟨by simp,fun i hi=> ?_,rfl⟩
  simp only
  rw [kA]
  split
  ·rename_i h;right;rw [h.1,he ab ab];rfl
  exact .inl (hr i)
 have hn0:neg ((List.replicate C.length (-1)).set e.toNat 0)≤C.length:=by
  have:=List.countP_le_length (p:=fun x:Int=> decide (x < 0)) (l:=(List.replicate C.length (-1:Int)).set e.toNat 0)
  simpa [neg] using this
 obtain ⟨R,hR⟩: ∃ R,R=jw C e:=⟨_,rfl⟩
 rw [← hR] at hdf
 refine aS (am (gF rfl (aX rfl (ai (gv _ _ aa rfl rfl rfl e.toNat ab ab (by exact (Nat.zero_add _).trans (Nat.mul_one _))) ?_))))
 refine ai (oO _ _ aa rfl rfl rfl rfl rfl (by simp;omega) ((lV _ _ _ (by simp;omega)).trans (congrArg (fun l=> co (List.set l e.toNat 0)) hrep))) ?_
 refine aj (aq ?_)
 refine aM (σ':=aD 123 [(2,_),(6,_)] [((2,0),_),((6,0),_)] [] []) kp ?_
 refine an (cq rfl (aj (aU fun K14 hK14=> ?_)))
 refine am (cq rfl (aj (ay ?_)))
 refine bs (α:=(List Int×Bool)×Bool) (fun z=> DI D C.length (z.1.1,z.1.2,false)∧zh C R z) 123 [(2,_),(6,_)] [((2,0),_)] (fun z=> [(8, .v (.bool z.1.2)),(9, .v (.bool z.2))]) (fun z=> [((6,0), .row 3 1 (co z.1.1))]) [] [] (fun z=> Ky z) (((List.replicate C.length (-1)).set e.toNat 0,true),true) ?_ (by
  refine Le.mkJ [] [] rfl ?_ ?_ trivial trivial ?_
  ·exact ⟨(iP rfl),(iR rfl),(nW ag),(nW ag),trivial⟩
  ·exact ⟨(cp rfl rfl rfl),(fi rfl rfl rfl ag),trivial⟩
  kernel_rfl) ?_
 ·exact ⟨hdi0,by unfold zh;rw [if_pos rfl];exact ⟨C.length+1,by simp only;omega,hdf.symm⟩⟩
 intro z hz
 obtain ⟨s,ch⟩:=z
 obtain ⟨hdi,hz⟩:=hz
 simp only at hdi hz ⊢
 refine aU fun K16 hK16=> ?_
 refine am (cL rfl (aj (aR rfl (fun hc39=> ?_) (fun hc39=> ?_))))
 ·skip
  obtain ⟨f,hf1,hf2⟩: ∃ f,neg s.1+1≤f∧jF C f s=R:=by
   unfold zh at hz
   rwa [if_pos hc39] at hz
  have hpd:=(lA hg hdi C.length (Nat.le_refl _)).2.2
  refine bq (hK16 _ ?_)
  clear hK16;try clear K16
  refine ay (am (cq rfl (aj (am (be rfl (aj (ay ?_)))))))
  refine bs (α:=Nat) (fun i=> i≤C.length) 123 [(2,_),(6,_)] [((2,0),_)] (fun i=> [(10, .v (.int .i64 (i:Int))),(8, .v (.bool (dD C s i).2.1)),(9, .v (.bool (dD C s i).2.2))]) (fun i=> [((6,0), .row 3 1 (co (dD C s i).1))]) [] [] (fun i=> C.length - i) 0 ?_ (by
   refine Le.mkJ [] [] rfl ?_ ?_ trivial trivial ?_
   ·exact ⟨(iP rfl),(iR rfl),(cj ag),(nW ag),(nW ag),trivial⟩
   ·exact ⟨(cp rfl rfl rfl),(fi rfl rfl rfl ag),trivial⟩
   kernel_rfl) ?_
  ·omega
  intro i hi
  have hw:=(lA hg hdi i hi).1
  have hps:=pZ C s i
  have hwl:=hw.len
  refine aU fun K20 hK20=> ?_
  refine am (aX rfl (gF rfl (ai (dg _ aa rfl rfl) (ai (bm _ _ rfl rfl rfl) (aj (aR rfl (fun hc43=> ?_) (fun hc43=> ?_)))))))
  ·skip
   have hdn:=(lA hg hdi (i+1) ab).1
   have hvi:=hw.val i ab
   generalize dD C s i=w at hw hps hwl hvi
   rw [il ab] at hvi
   obtain ⟨hins,hpop,hsuc⟩:=hg i (cY C i) (by unfold cY;rw [List.getD_eq_getElem?_getD,List.getElem?_eq_getElem ab];rfl)
   rw [Nat.zero_add] at hpop hsuc
   have hDi:=hD i
   refine bq (hK20 _ ?_)
   clear hK20;try clear K20
   refine aU fun K22 hK22=> ?_
   refine ay (aq (am (gF rfl (aX rfl (ai (gv _ _ aa rfl rfl rfl _ rfl ab (by exact (Nat.zero_add _).trans (Nat.mul_one _))) ?_)))))
   refine ai (mB _ aa rfl rfl (by exact eb _ _ ab) rfl) ?_
   refine ai (bm _ _ rfl rfl rfl) (aj (aR rfl (fun hc50=> ?_) (fun hc50=> ?_)))
   ·skip
    rw [ym (by rw [il ab];omega)] at hps
    refine bC (id (hK22 _ ?_))
    clear hK22;try clear K22
    refine an (aX rfl (ai (aZ _ _ rfl rfl (bD ab)) ?_))
    refine be rfl (aJ (⟨i+1,?_,?_,?_⟩))
    ·omega
    ·skip
     refine Le.mkJ [] [] rfl ?_ ?_ trivial trivial ?_
     ·exact ⟨(iP rfl),(iR rfl),(cj ag),(nW (by (rw [hps]))),(nW (by (rw [hps]))),trivial⟩
     ·exact ⟨(cp rfl rfl rfl),(fi rfl rfl rfl (by (rw [hps]))),trivial⟩
     kernel_rfl
    omega
   have hvD:=hvi.resolve_left ab
   have hgo:=BU (C:=C) (s:=w) (i:=i) (by rw [il ab];omega) (by rw [il ab];omega)
   rw [il ab,hvD] at hgo
   rw [hgo] at hps
   obtain ⟨L,hL⟩: ∃ L,L=dS i (cY C i):=⟨_,rfl⟩
   have hLl:L.length≤2:=by rw [hL];unfold dS;split <;> simp
   have hnn:(cY C i).op= .jump∨(cY C i).op= .unl→0≤(cY C i).n:=by
    unfold dh at hins
    rintro (e | e) <;> rw [e] at hins <;> exact hins
   have hnx:=yH C en dd vv i hC ab hnn
   rw [← hL] at hps hsuc hnx
   have hpp:=rU (cY C i).op
   have hpq:=rQ (cY C i).op
   have hp3:(cY C i).op.pops≤3:=by generalize (cY C i).op=o;cases o <;> decide
   have hp4:(cY C i).op.puts≤1:=by generalize (cY C i).op=o;cases o <;> decide
   refine aS (aq ?_)
   refine aM (σ':=aD 123 [(2,_),(6,_),(8,_),(9,_),(10,_)] [((2,0),_),((6,0),_)] [] []) kp ?_
   refine bL 13 [51,52,53,54,55,56,57,58,59,60,61,62,11] [] ae ae rfl (aK rfl) (rfl:_=[_,_,_,_,_,_,_,_,_,_,_,_,_]) (rfl:_=[]) ?_
   refine ap (_,[]) (fun τ=> aH _ dT) ?_
   refine fN rfl ?_
   refine ap (_,[]) (fun τ=> aH _ ea) ?_
   refine fO rfl ?_
   refine ap (_,[]) (fun τ=> gv _ _ aa rfl rfl rfl _ rfl ab (by exact (Nat.zero_add _).trans (Nat.mul_one _))) ?_
   refine fS rfl ?_
   refine ap (_,[]) (fun τ=> mB _ aa rfl rfl (by exact eb _ _ ab) rfl) ?_
   refine fY rfl ?_
   refine ap (_,[]) (fun τ=> aE _ aa rfl rfl rfl) ?_
   refine gz rfl ?_
   refine ap (_,[]) (fun τ=> aG _ aa rfl rfl eC) ?_
   refine hZ rfl ?_
   refine ap (_,[]) (fun τ=> aH _ ea) ?_
   refine iX rfl ?_
   refine ap (_,[]) (fun τ=> bn _ _ aa rfl rfl _ rfl ab (by (simp only [aN,bg,bj,bv,bu,bG,bw,bM,eG,aN];omega)) ag) ?_
   refine jU rfl ?_
   refine ap (_,[]) (fun τ=> dc _ aa rfl rfl) ?_
   refine kC rfl ?_
   refine ap (_,[]) (fun τ=> bQ _ aa rfl (by exact nP C i ab) rfl) ?_
   refine fW rfl ?_
   refine ap (_,[]) (fun τ=> (aI aa al (hpp) rfl rfl)) ?_
   refine gI rfl ?_
   refine ap (_,[]) (fun τ=> jS _ _ rfl rfl (bD (by rw [hvD];omega))) ?_
   refine kQ rfl ?_
   refine ap (_,[]) (fun τ=> bp _ ea) ?_
   refine ml rfl (bl ⟨rfl,?_⟩)
   refine aj (aq (am (aX rfl (ai (bm _ _ rfl rfl rfl) (aj (aW rfl (decide_eq_false (by rw [hvD];omega)) ?_))))))
   refine aS (aq ?_)
   refine aM (σ':=aD 123 [(2,_),(6,_),(8,_),(9,_),(10,_),(11,_)] [((2,0),_),((6,0),_)] [] []) kp ?_
   refine an (aX rfl (bb rfl rfl rfl (fc rfl rfl rfl (aX rfl (ai (bn _ _ aa rfl rfl _ rfl ab (by (simp only [aN,bg,bj,bv,bu,bG,bw,bM,eG,aN];omega)) ag) ?_)))))
   refine ai (dc _ aa rfl rfl) (ai (bQ _ aa rfl (by exact nP C i ab) rfl) ?_)
   refine ai (aI aa al (hpq) rfl rfl) ?_
   refine ai (aZ _ _ rfl rfl (bD (by rw [hvD];omega))) ?_
   refine be rfl (aj (am (ai (az _ aa rfl rfl rfl rfl) (aX rfl (ai (aI aa al (hnx) rfl rfl) ?_)))))
   refine kD rfl (aj (am (be rfl (aj (ay ?_)))))
   refine bs (α:=Nat) (fun k=> k≤L.length) 123 [(2,_),(6,_),(10,_),(12,_)] [((2,0),_)] (fun k=> [(13, .v (.int .i64 (k:Int))),(11, .v (.int .i64 ((D i:Int) - (cY C i).op.pops+(cY C i).op.puts))),(8, .v (.bool ((L.take k).foldl (jA C.length ((D i:Int) - (cY C i).op.pops+(cY C i).op.puts)) w).2.1)),(9, .v (.bool ((L.take k).foldl (jA C.length ((D i:Int) - (cY C i).op.pops+(cY C i).op.puts)) w).2.2))]) (fun k=> [((6,0), .row 3 1 (co ((L.take k).foldl (jA C.length ((D i:Int) - (cY C i).op.pops+(cY C i).op.puts)) w).1))]) [] [] (fun k=> L.length - k) 0 ?_ (by
    refine Le.mkJ [] [] rfl ?_ ?_ trivial trivial ?_
    ·exact ⟨(iP rfl),(iR rfl),(iV rfl),(iS rfl),(cj ag),(cj (by rw [hvD])),(nW ag),(nW ag),trivial⟩
    ·exact ⟨(cp rfl rfl rfl),(fi rfl rfl rfl ag),trivial⟩
    kernel_rfl) ?_
   ·omega
   intro k hk
   have hwd: ∀ j∈L,(D i:Int) - (cY C i).op.pops+(cY C i).op.puts=(D j:Int):=fun j hj=> by have:=(hsuc j hj).2.2;omega
   have hu:=(nJ (L.take k) hw (fun j hj=> hwd j (List.mem_of_mem_take hj))).1
   have hul:=hu.len
   refine aU fun K31 hK31=> ?_
   refine am (aX rfl (eQ rfl (ai (bo _ aa rfl) (ai (bm _ _ rfl rfl rfl) (aj (aR rfl (fun hc80=> ?_) (fun hc80=> ?_)))))))
   ·skip
    have hfs:=wd (n:=C.length) (d:=(D i:Int) - (cY C i).op.pops+(cY C i).op.puts) (s:=w) (l:=L) (k:=k) ab
    have hu1:=(nJ (L.take (k+1)) hw (fun j hj=> hwd j (List.mem_of_mem_take hj))).1.len
    obtain ⟨j,hj⟩: ∃ j,j=L.getD k 0:=⟨_,rfl⟩
    have hjm:j∈L:=by rw [hj,List.getD_eq_getElem?_getD,List.getElem?_eq_getElem ab];exact List.getElem_mem ab
    obtain ⟨hj1,hj2,_⟩:=hsuc j hjm
    have hjn:j < C.length:=by omega
    have hwj:=hwd j hjm
    have hnk:=EA L k ab
    rw [← hj] at hfs hnk
    have huv:=hu.val j hjn
    rw [il ab] at huv
    generalize (L.take k).foldl (jA C.length ((D i:Int) - (cY C i).op.pops+(cY C i).op.puts)) w=u at hu hul hfs huv
    refine bq (hK31 _ ?_)
    clear hK31;try clear K31
    refine aq (ay (aq (am (eQ rfl (aX rfl (ai (bn _ _ aa rfl rfl _ rfl ab (by (simp only [aN,bg,bj,bv,bu,bG,bw,bM,eG,aN];omega)) (by exact Nat.mul_one _)) ?_))))))
    refine ai (bQ _ aa rfl (by exact hnk) rfl) ?_
    refine ai (bm _ _ rfl rfl rfl) (cL rfl (dv (fun hg88=> ?_) (fun hg88=> ?_)))
    ·skip
     exact absurd hg88 ab
    refine ax rfl rfl (aH _ nf) (ax rfl rfl (aH _ ea) (ax rfl rfl (bn _ _ aa rfl rfl _ rfl ab (by (simp only [aN,bg,bj,bv,bu,bG,bw,bM,eG,aN];omega)) (by exact Nat.mul_one _)) ?_))
    refine ax rfl rfl (bQ _ aa rfl (by exact hnk) rfl) ?_
    refine ax rfl rfl (aH _ dT) (ax rfl rfl (dg _ aa rfl rfl) (ax rfl rfl (ft _ _ rfl rfl rfl) (ai (aC _ _ _ rfl bN) (aj (aW rfl (decide_eq_false ab) ?_)))))
    refine aS (aq ?_)
    refine aM (σ':=aD 123 [(2,_),(6,_),(8,_),(9,_),(10,_),(11,_),(12,_),(13,_)] [((2,0),_),((6,0),_)] [] []) kp ?_
    refine an (gF rfl (eQ rfl (aX rfl (ai (bn _ _ aa rfl rfl _ rfl ab (by (simp only [aN,bg,bj,bv,bu,bG,bw,bM,eG,aN];omega)) (by exact Nat.mul_one _)) ?_))))
    refine ai (bQ _ aa rfl (by exact hnk) rfl) ?_
    refine ai (gv _ _ aa rfl rfl rfl _ rfl ab (by exact (Nat.zero_add _).trans (Nat.mul_one _))) ?_
    refine ai (mB _ aa rfl rfl (by exact eb _ _ ab) rfl) ?_
    refine ai (bm _ _ rfl rfl rfl) (aj (aR rfl (fun hc104=> ?_) (fun hc104=> ?_)))
    ·skip
     have hds:jA C.length ((D i:Int) - (cY C i).op.pops+(cY C i).op.puts) u j=(u.1.set j ((D i:Int) - (cY C i).op.pops+(cY C i).op.puts),u.2.1,true):=by
      unfold jA
      rw [if_neg ab,if_pos (by rw [il ab];omega)]
     rw [hds] at hfs
     refine am (gF rfl (eQ rfl (aX rfl (ai (bn _ _ aa rfl rfl _ rfl ab (by (simp only [aN,bg,bj,bv,bu,bG,bw,bM,eG,aN];omega)) (by exact Nat.mul_one _)) ?_))))
     refine ai (bQ _ aa rfl (by exact hnk) rfl) ?_
     refine aX rfl (ai (gv _ _ aa rfl rfl rfl _ rfl ab (by exact (Nat.zero_add _).trans (Nat.mul_one _))) ?_)
     refine ai (oO _ _ aa rfl rfl rfl rfl rfl (by simp;omega) (lV _ _ _ ab)) ?_
     refine aj ?_
     refine aM (σ':=aD 123 [(2,_),(6,_),(8,_),(10,_),(11,_),(12,_),(13,_)] [((2,0),_),((6,0),_)] [] []) kp ?_
     refine an (cq rfl (ee (an (aX rfl (ai (aZ _ _ rfl rfl (bD ab)) ?_)))))
     refine be rfl (aJ (⟨k+1,?_,?_,?_⟩))
     ·omega
     ·skip
      refine Le.mkJ [] [] rfl ?_ ?_ trivial trivial ?_
      ·exact ⟨(iP rfl),(iR rfl),(iV rfl),(iS rfl),(cj ag),(cj ag),(nW (by (rw [hfs]))),(nW (by (rw [hfs]))),trivial⟩
      ·exact ⟨(cp rfl rfl rfl),(fi rfl rfl rfl (by (rw [hfs]))),trivial⟩
      kernel_rfl
     omega
    have hds:jA C.length ((D i:Int) - (cY C i).op.pops+(cY C i).op.puts) u j=u:=by
     unfold jA
     rw [if_neg ab,if_neg (by rw [il ab];omega),if_neg (by rw [il ab];omega)]
    rw [hds] at hfs
    refine am (gF rfl (eQ rfl (aX rfl (ai (bn _ _ aa rfl rfl _ rfl ab (by (simp only [aN,bg,bj,bv,bu,bG,bw,bM,eG,aN];omega)) (by exact Nat.mul_one _)) ?_))))
    refine ai (bQ _ aa rfl (by exact hnk) rfl) ?_
    refine ai (gv _ _ aa rfl rfl rfl _ rfl ab (by exact (Nat.zero_add _).trans (Nat.mul_one _))) ?_
    refine ai (mB _ aa rfl rfl (by exact eb _ _ ab) rfl) ?_
    refine aX rfl (ai (bU _ _ rfl rfl rfl) (aj (aW rfl (by rw [bne_eq_false_iff_eq];omega) ?_)))
    refine cu ?_
    refine aM (σ':=aD 123 [(2,_),(6,_),(8,_),(9,_),(10,_),(11,_),(12,_),(13,_)] [((2,0),_),((6,0),_)] [] []) kp ?_
    refine an (aX rfl (ai (aZ _ _ rfl rfl (bD ab)) ?_))
    refine be rfl (aJ (⟨k+1,?_,?_,?_⟩))
    ·omega
    ·skip
     refine Le.mkJ [] [] rfl ?_ ?_ trivial trivial ?_
     ·exact ⟨(iP rfl),(iR rfl),(iV rfl),(iS rfl),(cj ag),(cj ag),(nW (by (rw [hfs]))),(nW (by (rw [hfs]))),trivial⟩
     ·exact ⟨(cp rfl rfl rfl),(fi rfl rfl rfl (by (rw [hfs]))),trivial⟩
     kernel_rfl
    omega
   obtain rfl:k=L.length:=by omega
   rw [List.take_length] at hu hul
   rw [List.take_length]
   refine bC (id (hK22 _ ?_))
   clear hK22;try clear K22
   refine an (aX rfl (ai (aZ _ _ rfl rfl (bD ab)) ?_))
   refine be rfl (aJ (⟨i+1,?_,?_,?_⟩))
   ·omega
   ·skip
    refine Le.mkJ [] [] rfl ?_ ?_ trivial trivial ?_
    ·exact ⟨(iP rfl),(iR rfl),(cj ag),(nW (by (rw [hps]))),(nW (by (rw [hps]))),trivial⟩
    ·exact ⟨(cp rfl rfl rfl),(fi rfl rfl rfl (by (rw [hps]))),trivial⟩
    kernel_rfl
   omega
  obtain rfl:i=C.length:=by omega
  refine bC (id (⟨(((dD C s C.length).1,(dD C s C.length).2.1),(dD C s C.length).2.2),?_,?_,?_⟩))
  ·exact ⟨hw.flag,yR hf1 hf2 hpd⟩
  ·skip
   refine Le.mkJ [] [] rfl ?_ ?_ trivial trivial ?_
   ·exact ⟨(iP rfl),(iR rfl),(nW ag),(nW ag),trivial⟩
   ·exact ⟨(cp rfl rfl rfl),(fi rfl rfl rfl ag),trivial⟩
   kernel_rfl
  rw [show Ky (s,ch)=neg s.1+1 from if_pos hc39];exact IC hpd
 have hzR:s=R:=by
  unfold zh at hz
  rwa [if_neg (by simp [hc39])] at hz
 subst hzR
 have hsl:=hdi.len
 refine bC (id (hK14 _ ?_))
 clear hK14;try clear K14
 refine am (gF rfl (cL rfl (fh rfl (cq rfl (aj (aF ?_))))))
 rw [← hR]
 exact jT (.inr rfl) rfl (.tmp dT) (.tmp bN) (Le.out [] [(6,0)] (.tup rfl (au (CQ rfl rfl (by simp only at hsl;simp [hsl]) rfl hsl.symm) lz)) rfl rfl rfl tr trivial)
theorem wq (C:List eT) (en:Nat→Int) (dd vv:Int) (h:Nat) (hh:h < 40) (hC:C.length≤1000000) (D:Nat→Nat) (nv:Nat) (hg:Good D nv 0 (C.length - 1) 0 C) (hD: ∀ i,D i≤1000000) (he:0≤en h→en h < C.length→D (en h).toNat=0):
  Spec Tryz.prog 74 (ba [.agg (DE C.length (inl C) en dd vv), .v (.int .i64 (h:Int))] []) (aP (.v (.int .i64 (la C (jw C (en h)).1 C.length))) []):=by
 have hds:=uk C en dd vv (en h) hC D nv hg hD he
 have hdi:=qF hg he
 have hdl:=hdi.len
 have hml:=fun k (hk:k≤C.length)=> nu (C:=C) (n:=C.length) hdi (B:=1000000) (fun i _=> hD i) k hk
 generalize jw C (en h)=R at hds hdi hdl hml
 have hen:=tu C.length (inl C) en dd vv h hh
 refine Spec.ofN Tryz.func74 rfl Tryz.ntmps74 rfl ?_
 refine am (ai (aQ (2,0) _ rfl rfl) (be rfl (aj (aq (bL 11 [11,12,13,14,15,16,10,17,18,5,6] [] ae ae rfl (aK rfl) (rfl:_=[_,_,_,_,_,_,_,_,_,_,_]) (rfl:_=[]) ?_)))))
 refine ap (_,[]) (fun τ=> az _ aa rfl rfl rfl rfl) ?_
 refine fN rfl ?_
 refine ap (_,[]) (fun τ=> aH _ ea) ?_
 refine fO rfl ?_
 refine ap (_,[]) (fun τ=> aE _ aa rfl rfl rfl) ?_
 refine fS rfl ?_
 refine ap (_,[]) (fun τ=> cQ _ _ aa rfl rfl rfl h rfl ab (by exact congrArg (fun z=> 0+1+z) (Nat.mul_one h))) ?_
 refine fY rfl ?_
 refine ap (_,[]) (fun τ=> aG _ aa rfl rfl (by exact (congrArg (fun z=> (DE C.length (inl C) en dd vv)[z]?) ab).trans hen)) ?_
 refine gz rfl ?_
 refine ap (_,[]) (fun τ=> (aI aa al (hds) rfl rfl)) ?_
 refine hZ rfl ?_
 refine ap (_,[]) (fun τ=> aH _ tK) ?_
 refine iX rfl ?_
 refine ap (_,[]) (fun τ=> cm _ rfl eC) ?_
 refine jU rfl ?_
 refine ap (_,[]) (fun τ=> cm _ rfl AN) ?_
 refine kC rfl ?_
 refine ap (_,[]) (fun τ=> bp _ nf) ?_
 refine fW rfl ?_
 refine ap (_,[]) (fun τ=> bp _ bN) ?_
 refine gI rfl (bl ⟨rfl,?_⟩)
 refine aj (am (be rfl (aj (aU fun K4 hK4=> ?_))))
 refine am (be rfl (aj (ay ?_)))
 refine bs (α:=Nat) (fun k=> k≤C.length) 53 [(2,_),(5,_)] [((2,0),_)] (fun k=> [(8, .v (.int .i64 (k:Int))),(7, .v (.int .i64 (la C R.1 k)))]) (fun k=> []) [] [] (fun k=> C.length - k) 0 ?_ (by
  refine Le.mkJ [] [] rfl ?_ ?_ trivial trivial ?_
  ·exact ⟨(iP rfl),(iS rfl),(cj ag),(cj ag),trivial⟩
  ·exact ⟨(cp rfl rfl rfl),trivial⟩
  kernel_rfl) ?_
 ·omega
 intro k hk
 have hm1:=hml k hk
 have hs:=pR C R.1 k
 simp only at hdl hm1
 refine aU fun K6 hK6=> ?_
 refine am (aX rfl (eQ rfl (ai (bo _ aa rfl) (ai (bm _ _ rfl rfl rfl) (aj (aR rfl (fun hc22=> ?_) (fun hc22=> ?_)))))))
 ·skip
  have hm2:=hml (k+1) ab
  have hv:=hdi.val k ab
  simp only at hv hm2
  rw [il ab] at hv hs
  have hDk:=hD k
  obtain ⟨q,hq⟩: ∃ q,q=cY C k:=⟨_,rfl⟩
  have hp3:q.op.pops≤3:=by generalize q.op=o;cases o <;> decide
  have hp4:q.op.puts≤1:=by generalize q.op=o;cases o <;> decide
  have hpp:=rU q.op
  have hpq:=rQ q.op
  have hg0:=nP C k ab
  rw [← hq] at hg0 hs
  refine bq (hK6 _ ?_)
  clear hK6;try clear K6
  refine aq (ay (am (eQ rfl (aX rfl (ai (bn _ _ aa rfl rfl _ rfl ab (by (simp only [aN,bg,bj,bv,bu,bG,bw,bM,eG,aN];omega)) (by exact Nat.mul_one _)) ?_)))))
  refine ai (bQ _ aa rfl (by exact eb _ _ ab) rfl) ?_
  refine ai (ft _ _ rfl rfl rfl) (aj (aR rfl (fun hc29=> ?_) (fun hc29=> ?_)))
  ·skip
   rw [if_pos ab] at hs
   refine am (bb rfl rfl rfl (fc rfl rfl rfl (aX rfl (ai (bn _ _ aa rfl rfl _ rfl ab (by (simp only [aN,bg,bj,bv,bu,bG,bw,bM,eG,aN];omega)) ag) ?_))))
   refine ai (dc _ aa rfl rfl) (ai (bQ _ aa rfl (by exact hg0) rfl) ?_)
   refine be rfl (aj ?_)
   refine aM (σ':=aD 53 [(2,_),(5,_),(7,_),(8,_),(9,_)] [((2,0),_)] [] []) kp ?_
   refine bL 16 [36,37,38,39,40,41,42,43,44,45,46,47,48,49,50,51] [] ae ae rfl (aK rfl) (rfl:_=[_,_,_,_,_,_,_,_,_,_,_,_,_,_,_,_]) (rfl:_=[_]) ?_
   refine ap (_,[]) (fun τ=> aH _ ea) ?_
   refine fN rfl ?_
   refine ap (_,[]) (fun τ=> aH _ nf) ?_
   refine fO rfl ?_
   refine ap (_,[]) (fun τ=> aH _ ea) ?_
   refine fS rfl ?_
   refine ap (_,[]) (fun τ=> bn _ _ aa rfl rfl _ rfl ab (by (simp only [aN,bg,bj,bv,bu,bG,bw,bM,eG,aN];omega)) (by exact Nat.mul_one _)) ?_
   refine fY rfl ?_
   refine ap (_,[]) (fun τ=> bQ _ aa rfl (by exact eb _ _ ab) rfl) ?_
   refine gz rfl ?_
   refine ap (_,[]) (fun τ=> aH _ nf) ?_
   refine hZ rfl ?_
   refine ap (_,[]) (fun τ=> aH _ ea) ?_
   refine iX rfl ?_
   refine ap (_,[]) (fun τ=> bn _ _ aa rfl rfl _ rfl ab (by (simp only [aN,bg,bj,bv,bu,bG,bw,bM,eG,aN];omega)) (by exact Nat.mul_one _)) ?_
   refine jU rfl ?_
   refine ap (_,[]) (fun τ=> bQ _ aa rfl (by exact eb _ _ ab) rfl) ?_
   refine kC rfl ?_
   refine ap (_,[]) (fun τ=> aH _ ea) ?_
   refine fW rfl ?_
   refine ap (_,[]) (fun τ=> (aI aa al (hpp) rfl rfl)) ?_
   refine gI rfl ?_
   refine ap (_,[]) (fun τ=> jS _ _ rfl rfl (bD ab)) ?_
   refine kQ rfl ?_
   refine ap (_,[]) (fun τ=> aH _ ea) ?_
   refine ml rfl ?_
   refine ap (_,[]) (fun τ=> (aI aa al (hpq) rfl rfl)) ?_
   refine pm rfl ?_
   refine ap (_,[]) (fun τ=> aZ _ _ rfl rfl (bD ab)) ?_
   refine vX rfl ?_
   refine ap (_,[]) (fun τ=> Ew _ _ _ rfl rfl rfl (by exact hs.symm)) ?_
   refine vY rfl (bl ⟨rfl,?_⟩)
   refine be rfl (ee ?_)
   refine aM (σ':=aD 53 [(2,_),(5,_),(7,_),(8,_)] [((2,0),_)] [] []) kp ?_
   refine an (aX rfl (ai (aZ _ _ rfl rfl (bD ab)) ?_))
   refine be rfl (aJ (⟨k+1,?_,?_,?_⟩))
   ·omega
   ·skip
    refine Le.mkJ [] [] rfl ?_ ?_ trivial trivial ?_
    ·exact ⟨(iP rfl),(iS rfl),(cj ag),(cj ag),trivial⟩
    ·exact ⟨(cp rfl rfl rfl),trivial⟩
    kernel_rfl
   omega
  rw [if_neg ab] at hs
  refine cu (an (aX rfl (ai (aZ _ _ rfl rfl (bD ab)) ?_)))
  refine be rfl (aJ (⟨k+1,?_,?_,?_⟩))
  ·omega
  ·skip
   refine Le.mkJ [] [] rfl ?_ ?_ trivial trivial ?_
   ·exact ⟨(iP rfl),(iS rfl),(cj ag),(cj ab),trivial⟩
   ·exact ⟨(cp rfl rfl rfl),trivial⟩
   kernel_rfl
  omega
 obtain rfl:k=C.length:=by omega
 refine bC (id (hK4 _ ?_))
 clear hK4;try clear K4
 exact am (aX rfl (be rfl (aj (aF (fu rfl rfl)))))

theorem el: ∀ (e:Ex) (d x:Nat),x∈dH e d→x≤d+(dH e d).length
 | .int _,d,x,h=> by simp [dH] at h ⊢;omega
 | .bool _,d,x,h=> by simp [dH] at h ⊢;omega
 | .var _,d,x,h=> by simp [dH] at h ⊢;omega
 | .name _,d,x,h=> by simp [dH] at h ⊢;omega
 | .draw e,d,x,h=> by
  have:=el e d x
  simp only [dH,List.mem_append,List.length_append,List.length_cons,List.length_nil,List.mem_singleton] at h ⊢
  rcases h with h | h
  ·have:=this h;omega
  omega
 | .neg e,d,x,h=> by
  have:=el e d x
  simp only [dH,List.mem_append,List.length_append,List.length_cons,List.length_nil,List.mem_singleton] at h ⊢
  rcases h with h | h
  ·have:=this h;omega
  omega
 | .not e,d,x,h=> by
  have:=el e d x
  simp only [dH,List.mem_append,List.length_append,List.length_cons,List.length_nil,List.mem_singleton] at h ⊢
  rcases h with h | h
  ·have:=this h;omega
  omega
 | .bin o a b,d,x,h=> by
  have h1:=el a d x
  have h2:=el b (d+1) x
  have h3:1≤(dH b (d+1)).length:=by obtain ⟨l,hl⟩:=eR b (d+1);rw [hl];simp
  have h4:1≤(dH a d).length:=by obtain ⟨l,hl⟩:=eR a d;rw [hl];simp
  simp only [dH,List.mem_append,List.length_append] at h ⊢
  rcases h with (h | h) | h
  ·have:=h1 h;omega
  ·have:=h2 h;omega
  have:x≤d+2:=by cases o <;> simp at h <;> omega
  omega
 | .and a b,d,x,h=> by
  have h1:=el a d x
  have h2:=el b d x
  simp only [dH,List.mem_append,List.length_append,List.length_cons,List.length_nil,List.mem_singleton] at h ⊢
  rcases h with (((h | h) | h) | h) | h
  ·have:=h1 h;omega
  ·omega
  ·have:=h2 h;omega
  ·omega
  omega
 | .or a b,d,x,h=> by
  have h1:=el a d x
  have h2:=el b d x
  simp only [dH,List.mem_append,List.length_append,List.length_cons,List.length_nil,List.mem_singleton] at h ⊢
  rcases h with (((h | h) | h) | h) | h
  ·have:=h1 h;omega
  ·omega
  ·omega
  ·omega
  have:=h2 h;omega
theorem lI (e:Ex) (d:Nat):1≤(dH e d).length:=by obtain ⟨l,hl⟩:=eR e d;rw [hl];simp
mutual
theorem Et: ∀ (s:Sm) (x:Nat),x∈et s→x≤(et s).length
 | .assign _ e,x,h=> by
  have:=el e 0 x
  simp only [et,List.mem_append,List.length_append,List.length_cons,List.length_nil,List.mem_singleton] at h ⊢
  rcases h with h | h
  ·have:=this h;omega
  omega
 | .send t _ a b,x,h=> by
  have h1:=el t 0 x
  have h2:=el a 1 x
  have h3:=el b 2 x
  have k1:=lI t 0
  have k2:=lI a 1
  have k3:=lI b 2
  simp only [et,List.mem_append,List.length_append,List.length_cons,List.length_nil,List.mem_singleton] at h ⊢
  rcases h with ((h | h) | h) | h
  ·have:=h1 h;omega
  ·have:=h2 h;omega
  ·have:=h3 h;omega
  omega
 | .timer _,x,h=> by simp [et] at h ⊢;omega
 | .cancel _,x,h=> by simp [et] at h ⊢;omega
 | .sync,x,h=> by simp [et] at h ⊢;omega
 | .stop,x,h=> by simp [et] at h ⊢;omega
 | .reply a b,x,h=> by
  have h2:=el a 0 x
  have h3:=el b 1 x
  have k2:=lI a 0
  have k3:=lI b 1
  simp only [et,List.mem_append,List.length_append,List.length_cons,List.length_nil,List.mem_singleton] at h ⊢
  rcases h with (h | h) | h
  ·have:=h2 h;omega
  ·have:=h3 h;omega
  omega
 | .fail e,x,h=> by
  have:=el e 0 x
  simp only [et,List.mem_append,List.length_append,List.length_cons,List.length_nil,List.mem_singleton] at h ⊢
  rcases h with h | h
  ·have:=this h;omega
  omega
 | .loop c b,x,h=> by
  have h1:=el c 0 x
  have h2:=ng b x
  simp only [et,List.mem_append,List.length_append,List.length_cons,List.length_nil,List.mem_singleton] at h ⊢
  rcases h with ((h | h) | h) | h
  ·have:=h1 h;omega
  ·omega
  ·have:=h2 h;omega
  omega
 | .ite c a b,x,h=> by
  have h1:=el c 0 x
  have h2:=ng a x
  have h3:=ng b x
  simp only [et,List.mem_append,List.length_append,List.length_cons,List.length_nil,List.mem_singleton] at h ⊢
  rcases h with (((h | h) | h) | h) | h
  ·have:=h1 h;omega
  ·omega
  ·have:=h2 h;omega
  ·omega
  have:=h3 h;omega
theorem ng: ∀ (b:Bk) (x:Nat),x∈mi b→x≤(mi b).length
 | .nil,x,h=> by simp [mi] at h
 | .cons s b,x,h=> by
  have h1:=Et s x
  have h2:=ng b x
  simp only [mi,List.mem_append,List.length_append] at h ⊢
  rcases h with h | h
  ·have:=h1 h;omega
  have:=h2 h;omega
end
theorem xg: ∀ (l:List (Nat×Bk)) (x:Nat),x∈mm l→x≤(mm l).length
 | [],x,h=> by simp [mm] at h
 | (k,b)::l,x,h=> by
  have h1:=ng b x
  have h2:=xg l x
  simp only [mm,List.mem_append,List.length_append,List.length_cons,List.length_nil,List.mem_singleton] at h ⊢
  rcases h with (h | h) | h
  ·have:=h1 h;omega
  ·omega
  have:=h2 h;omega
theorem Bg (l:List (Nat×Bk)) (i:Nat):wS l i≤(bS l 0).length:=by
 unfold wS
 rw [List.getD_eq_getElem?_getD]
 by_cases h:i < (mm l).length
 ·rw [List.getElem?_eq_getElem h,← qz l 0];exact xg l _ (List.getElem_mem h)
 rw [List.getElem?_eq_none ab];exact Nat.zero_le _

theorem oD: ∀ (l m:List (Nat×Bk)) (a:Nat),bS (l++m) a=bS l a++bS m (a+(bS l a).length)
 | [],m,a=> by simp [bS]
 | (h,b)::l,m,a=> by
  simp only [List.cons_append,bS,oD l m,List.append_assoc,List.length_append,List.length_cons,List.length_nil,Nat.add_assoc,Nat.zero_add,List.nil_append,Nat.add_comm 1 (List.length _)]
theorem vm: ∀ (l m:List (Nat×Bk)) (a:Nat),ku (l++m) a=ku l a++ku m (a+(bS l a).length)
 | [],m,a=> by simp [bS,ku]
 | (h,b)::l,m,a=> by
  simp only [List.cons_append,bS,ku,vm l m,List.append_assoc,List.length_append,List.length_cons,List.length_nil,Nat.add_assoc,Nat.zero_add,Nat.add_comm 1 (List.length _)]
def bX (l:List (Nat×Bk)) (k:Nat):Int:=(nA (ku l 0)).getD k (-1)
theorem yk (l:List (Nat×Bk)) (p:Nat×Bk) (hp:p.1 < 40):bX (l++[p])=kg (bX l) p.1 (bS l 0).length:=by
 funext k
 have e:nA (ku (l++[p]) 0)=(nA (ku l 0)).set p.1 ((bS l 0).length:Int):=by
  rw [vm]
  obtain ⟨h,b⟩:=p
  simp only [ku,nA,List.foldl_append,List.foldl_cons,List.foldl_nil,Nat.zero_add]
 unfold bX kg
 rw [e,kA]
 by_cases hk:k=p.1
 ·rw [if_pos ⟨hk,by rw [CZ];exact hp⟩,if_pos hk]
 rw [if_neg (fun h=> hk h.1),if_neg hk]
theorem vR (l:List (Nat×Bk)) (p:Nat×Bk):bS (l++[p]) 0=bS l 0++dQ p.2 (bS l 0).length++[{ op:= .stop }]:=by
 rw [oD]
 obtain ⟨h,b⟩:=p
 simp [bS]
def em (h k:Nat):Int:=if k < h∨40≤k then -1 else 0
theorem Cr (h:Nat) (hh:h < 40):kg (em h) h (-1)=em (h+1):=by
 funext k
 unfold kg em
 by_cases h1:k=h
 ·rw [if_pos h1,if_pos ab]
 rw [if_neg h1]
 by_cases h2:k < h∨40≤k
 ·rw [if_pos h2,if_pos ab]
 rw [if_neg h2,if_neg ab]
theorem Aq:em 40=bX []:=by
 funext k
 have e:bX [] k=(List.replicate 40 (-1:Int)).getD k (-1):=rfl
 rw [e,em,if_pos ab,List.getD_eq_getElem?_getD,List.getElem?_replicate]
 by_cases hk:k < 40
 ·rw [if_pos hk];rfl
 rw [if_neg hk];rfl
theorem Ce (ons:List (Nat×Bk)) (j:Nat) (h:j < ons.length):ons.take (j+1)=ons.take j++[ons[j]]:=List.take_succ_eq_append_getElem h
theorem pY (ons:List (Nat×Bk)) (j:Nat):(bS (ons.take j) 0).length≤(bS ons 0).length:=by
 conv=> rhs;rw [← List.take_append_drop j ons,oD]
 rw [List.length_append];omega
theorem xV {n:Nat} (h:n < 40):dx (n:Int) 40=n:=by unfold dx;rw [if_neg ab];omega
structure UOk (d v:List Tx) (ons:List (Nat×Bk)):Prop where
 nd:(d++v).Nodup
 len:(d++v).length≤16
 ok: ∀ p∈ons,li (d++v).length p.2
 pp: ∀ p∈ons,sK p.2=true
 h: ∀ p∈ons,p.1 < 40
 c:(bS ons 0).length≤1000000
 n:ons.length≤1000
theorem UOk.good {d v:List Tx} {ons:List (Nat×Bk)} (U:UOk d v ons):Good (wS ons) (d++v).length 0 ((bS ons 0).length - 1) 0 (bS ons 0):=
 AG (wS ons) (d++v).length ons 0 0 ((bS ons 0).length - 1) U.ok (sU ons) (Nat.le_refl _) ab
theorem UOk.ent {d v:List Tx} {ons:List (Nat×Bk)} (U:UOk d v ons) (k:Nat):0≤bX ons k→bX ons k < (bS ons 0).length→wS ons (bX ons k).toNat=0:=fun h0 h1=> by
 rcases wb ons k with h | ⟨e,_,h,_,h2⟩
 ·unfold bX at h0;omega
 unfold bX;rw [h,Int.toNat_natCast];exact h2
abbrev Nl (d v:List Tx) (ons:List (Nat×Bk)):AV:= .agg (DE (bS ons 0).length (inl (bS ons 0)) (bX ons) (d.length:Int) (v.length:Int))
abbrev zA:AV:= .agg (HM (.v (.slice none 0 0)) (fun _=> 0) 0 0)
def KP (ons:List (Nat×Bk)):Int:=if 400 < (bS ons 0).length then 2 else 13
abbrev Ds (d v:List Tx) (ons:List (Nat×Bk)):AV:=if ld ons=true then .tup [Nl d v ons, .v (.int .i64 0)] else .tup [zA, .v (.int .i64 (KP ons))]
abbrev wv (d v:List Tx) (ons:List (Nat×Bk)):List Hd:=ons.map fun p=> (p.1,jf (d++v) p.2)
theorem nI (d v:List Tx) (ons:List (Nat×Bk)) (U:UOk d v ons):
  Spec Tryz.prog 57 (ba [JA d v (wv d v ons)] []) (aP (Ds d v ons) []):=by
 obtain ⟨H,hH⟩: ∃ H,H=wv d v ons:=⟨_,rfl⟩
 have hHl:H.length=ons.length:=by rw [hH,List.length_map]
 have hHk: ∀ k (h:k < ons.length),oQ H k=((ons[k]).1,jf (d++v) (ons[k]).2):=fun k h=> by rw [hH];exact zY ons _ k h
 rw [← hH]
 clear hH
 have hUn:=U.n
 have hUc:=U.c
 have hUl:=U.len
 have hdl:d.length≤16∧v.length≤16:=by rw [List.length_append] at hUl;omega
 refine Spec.ofN Tryz.func57 rfl Tryz.ntmps57 rfl ?_
 refine am (ai (aQ (1,0) _ rfl rfl) (ai (aB (2,0) aa rfl rfl) (be rfl (aj (am (bb rfl rfl rfl (fc rfl rfl rfl (ai (bo _ aa rfl) (bb rfl rfl rfl (fc rfl rfl rfl ?_))))))))))
 refine ai (bo _ aa rfl) (ai (aL _ aa rfl (by exact Gb)) ?_)
 refine ai (aB (4,0) aa rfl rfl) (bF rfl rfl rfl rfl rfl rfl (aj (aU fun K3 hK3=> ?_)))
 refine am (be rfl (aj (ay ?_)))
 refine aM (Le.nilB (4,0) 0 (60,0) 48 2 rfl rfl rfl) ?_
 refine bs (α:=Nat) (fun q=> q≤40) 79 [(1,_),(2,_),(4,_)] [((1,0),_),((2,0),_),((60,0),_)] (fun q=> [(5, .v (.int .i64 (q:Int)))]) (fun q=> [((4,0), .box 26 [.ref (60,0) 0 0, .v (.int .i64 (em q 0)), .v (.int .i64 (em q 1)), .v (.int .i64 (em q 2)), .v (.int .i64 (em q 3)), .v (.int .i64 (em q 4)), .v (.int .i64 (em q 5)), .v (.int .i64 (em q 6)), .v (.int .i64 (em q 7)), .v (.int .i64 (em q 8)), .v (.int .i64 (em q 9)), .v (.int .i64 (em q 10)), .v (.int .i64 (em q 11)), .v (.int .i64 (em q 12)), .v (.int .i64 (em q 13)), .v (.int .i64 (em q 14)), .v (.int .i64 (em q 15)), .v (.int .i64 (em q 16)), .v (.int .i64 (em q 17)), .v (.int .i64 (em q 18)), .v (.int .i64 (em q 19)), .v (.int .i64 (em q 20)), .v (.int .i64 (em q 21)), .v (.int .i64 (em q 22)), .v (.int .i64 (em q 23)), .v (.int .i64 (em q 24)), .v (.int .i64 (em q 25)), .v (.int .i64 (em q 26)), .v (.int .i64 (em q 27)), .v (.int .i64 (em q 28)), .v (.int .i64 (em q 29)), .v (.int .i64 (em q 30)), .v (.int .i64 (em q 31)), .v (.int .i64 (em q 32)), .v (.int .i64 (em q 33)), .v (.int .i64 (em q 34)), .v (.int .i64 (em q 35)), .v (.int .i64 (em q 36)), .v (.int .i64 (em q 37)), .v (.int .i64 (em q 38)), .v (.int .i64 (em q 39)), .v (.int .i64 (d.length:Int)), .v (.int .i64 (v.length:Int))])]) [] [] (fun q=> 40 - q) 0 ?_ (by
  refine Le.mkJ [] [] rfl ?_ ?_ trivial trivial ?_
  ·exact ⟨(iP rfl),(iP rfl),(iP rfl),(cj ag),trivial⟩
  ·exact ⟨(cp rfl rfl rfl),(cp rfl rfl rfl),(cp rfl rfl rfl),(fq rfl rfl rfl rfl lz),trivial⟩
  kernel_rfl) ?_
 ·omega
 intro q hq
 refine aU fun K5 hK5=> ?_
 refine am (aX rfl (ai (bm _ _ rfl rfl rfl) (aj (aR rfl (fun hc17=> ?_) (fun hc17=> ?_)))))
 ·skip
  refine bq (hK5 _ ?_)
  clear hK5;try clear K5
  refine aq (ay (an (aX rfl (bb rfl rfl rfl (ai (cQ _ _ aa rfl rfl rfl q rfl ab (by exact congrArg (fun z=> 0+1+z) (Nat.mul_one q))) ?_)))))
  refine ai (dz _ _ aa rfl rfl rfl rfl (show 0+1+q+1≤43 by omega) ((congrArg (fun z=> fQ (HM (.ref (60,0) 0 0) (em q) (d.length:Int) (v.length:Int)) z [.v (.int .i64 (-1))]) ab).trans ((tD _ _ _ _ q ab _).trans (by rw [Cr _ ab])))) ?_
  refine ee (an (aX rfl (ai (aZ _ _ rfl rfl (bD ab)) ?_)))
  refine be rfl (aJ (⟨q+1,?_,?_,?_⟩))
  ·omega
  ·skip
   refine Le.mkJ [] [] rfl ?_ ?_ trivial trivial ?_
   ·exact ⟨(iP rfl),(iP rfl),(iP rfl),(cj ag),trivial⟩
   ·exact ⟨(cp rfl rfl rfl),(cp rfl rfl rfl),(cp rfl rfl rfl),(fq rfl rfl rfl rfl lz),trivial⟩
   kernel_rfl
  omega
 obtain rfl:q=40:=by omega
 rw [Aq]
 refine bC (id (hK3 _ ?_))
 clear hK3;try clear K3
 refine aU fun K8 hK8=> ?_
 refine am (be rfl (aj (ay ?_)))
 refine bs (α:=Nat) (fun j=> j≤H.length) 79 [(1,_),(2,_),(4,_)] [((1,0),_),((2,0),_)] (fun j=> [(6, .v (.int .i64 (j:Int)))]) (fun j=> [((60,0), .row 48 2 (inl (bS (ons.take j) 0))),((4,0), .box 26 [.ref (60,0) 0 (bS (ons.take j) 0).length, .v (.int .i64 (bX (ons.take j) 0)), .v (.int .i64 (bX (ons.take j) 1)), .v (.int .i64 (bX (ons.take j) 2)), .v (.int .i64 (bX (ons.take j) 3)), .v (.int .i64 (bX (ons.take j) 4)), .v (.int .i64 (bX (ons.take j) 5)), .v (.int .i64 (bX (ons.take j) 6)), .v (.int .i64 (bX (ons.take j) 7)), .v (.int .i64 (bX (ons.take j) 8)), .v (.int .i64 (bX (ons.take j) 9)), .v (.int .i64 (bX (ons.take j) 10)), .v (.int .i64 (bX (ons.take j) 11)), .v (.int .i64 (bX (ons.take j) 12)), .v (.int .i64 (bX (ons.take j) 13)), .v (.int .i64 (bX (ons.take j) 14)), .v (.int .i64 (bX (ons.take j) 15)), .v (.int .i64 (bX (ons.take j) 16)), .v (.int .i64 (bX (ons.take j) 17)), .v (.int .i64 (bX (ons.take j) 18)), .v (.int .i64 (bX (ons.take j) 19)), .v (.int .i64 (bX (ons.take j) 20)), .v (.int .i64 (bX (ons.take j) 21)), .v (.int .i64 (bX (ons.take j) 22)), .v (.int .i64 (bX (ons.take j) 23)), .v (.int .i64 (bX (ons.take j) 24)), .v (.int .i64 (bX (ons.take j) 25)), .v (.int .i64 (bX (ons.take j) 26)), .v (.int .i64 (bX (ons.take j) 27)), .v (.int .i64 (bX (ons.take j) 28)), .v (.int .i64 (bX (ons.take j) 29)), .v (.int .i64 (bX (ons.take j) 30)), .v (.int .i64 (bX (ons.take j) 31)), .v (.int .i64 (bX (ons.take j) 32)), .v (.int .i64 (bX (ons.take j) 33)), .v (.int .i64 (bX (ons.take j) 34)), .v (.int .i64 (bX (ons.take j) 35)), .v (.int .i64 (bX (ons.take j) 36)), .v (.int .i64 (bX (ons.take j) 37)), .v (.int .i64 (bX (ons.take j) 38)), .v (.int .i64 (bX (ons.take j) 39)), .v (.int .i64 (d.length:Int)), .v (.int .i64 (v.length:Int))])]) [] [] (fun j=> H.length - j) 0 ?_ (by
  refine Le.mkJ [] [] rfl ?_ ?_ trivial trivial ?_
  ·exact ⟨(iP rfl),(iP rfl),(iP rfl),(cj ag),trivial⟩
  ·exact ⟨(cp rfl rfl rfl),(cp rfl rfl rfl),(fi rfl rfl rfl ag),(fq rfl rfl rfl rfl lz),trivial⟩
  kernel_rfl) ?_
 ·omega
 intro j hj
 have hct:=pY ons j
 refine aU fun K10 hK10=> ?_
 refine am (aX rfl (bb rfl rfl rfl (fc rfl rfl rfl (ai (bo _ aa rfl) (ai (bm _ _ rfl rfl rfl) (aj (aR rfl (fun hc27=> ?_) (fun hc27=> ?_))))))))
 ·skip
  have hj:j < ons.length:=by omega
  have hct1:=pY ons (j+1)
  have hUh:=U.h _ (List.getElem_mem hj)
  have hUo:=U.ok _ (List.getElem_mem hj)
  have hUp:=U.pp _ (List.getElem_mem hj)
  have hbody:=uC H j ab
  have hg0:=ke H j ab
  rw [hHk j hj] at hbody hg0
  have hsn:=vR (ons.take j) (ons[j])
  have hen:=yk (ons.take j) (ons[j]) hUh
  rw [← Ce ons j hj] at hsn hen
  have hsl:=congrArg List.length hsn
  simp only [List.length_append,List.length_cons,List.length_nil] at hsl
  have hcb:=DW (d:=d) (v:=v) (no:=H.length) (on:=mj H) U.nd ab (ons[j]).2 hUo hUp (bS (ons.take j) 0).length ab
  generalize dQ (ons[j]).2 (bS (ons.take j) 0).length=C at hsn hsl hcb
  generalize (ons[j]).2=bd at hbody hcb
  generalize (ons[j]).1=h at hbody hg0 hen hUh
  have har:=iw (h:Int) 40 ab ab ab ab
  rw [xV hUh] at har
  refine bq (hK10 _ ?_)
  clear hK10;try clear K10
  refine aq (ay (am (bb rfl rfl rfl (fc rfl rfl rfl (aX rfl (ai (bn _ _ aa rfl rfl _ rfl ab (by (simp only [aN,bg,bj,bv,bu,bG,bw,bM,eG,aN,List.length_map];omega)) ag) ?_))))))
  refine ai (dc _ aa rfl rfl) (ai (bQ _ aa rfl (by exact hg0) rfl) ?_)
  refine ai (aI aa al (har) rfl rfl) ?_
  refine be rfl (aj (am (aX rfl (bb rfl rfl rfl (ai (aG _ aa rfl rfl eS) (ai (dg _ aa rfl rfl) (bb rfl rfl rfl (ai (cQ _ _ aa rfl rfl rfl h rfl ab (by exact congrArg (fun z=> 0+1+z) (Nat.mul_one h))) ?_))))))))
  refine ai (dz _ _ aa rfl rfl rfl rfl (show 0+1+h+1≤43 by omega) ((congrArg (fun z=> fQ (HM (.ref (60,0) 0 (bS (ons.take j) 0).length) (bX (ons.take j)) (d.length:Int) (v.length:Int)) z [.v (.int .i64 ((bS (ons.take j) 0).length:Int))]) ab).trans ((tD _ _ _ _ h ab _).trans (by rw [← hen])))) ?_
  refine aj (aq ?_)
  refine aM (σ':=aD 79 [(1,_),(2,_),(4,_),(6,_)] [((1,0),_),((2,0),_),((60,0),_),((4,0),_)] [] []) kp ?_
  refine bL 13 [43,44,45,46,47,48,49,50,51,52,53,54,55] [(50,0)] ae ae rfl (aK rfl) (rfl:_=[_,_,_,_,_,_,_,_,_,_,_,_,_]) (rfl:_=[_,_,_]) ?_
  refine ap (_,[]) (fun τ=> aE _ aa rfl rfl rfl) ?_
  refine fN rfl ?_
  refine ap (_,[]) (fun τ=> aG _ aa rfl rfl eS) ?_
  refine fO rfl ?_
  refine ap (_,[]) (fun τ=> az _ aa rfl rfl rfl rfl) ?_
  refine fS rfl ?_
  refine ap (_,[]) (fun τ=> aE _ aa rfl rfl rfl) ?_
  refine fY rfl ?_
  refine ap (_,[]) (fun τ=> aG _ aa rfl rfl eC) ?_
  refine gz rfl ?_
  refine ap (_,[]) (fun τ=> aH _ ea) ?_
  refine hZ rfl ?_
  refine ap (_,[]) (fun τ=> bn _ _ aa rfl rfl _ rfl ab (by (simp only [aN,bg,bj,bv,bu,bG,bw,bM,eG,aN,List.length_map];omega)) ag) ?_
  refine iX rfl ?_
  refine ap (_,[]) (fun τ=> dc _ aa rfl rfl) ?_
  refine jU rfl ?_
  refine ap (_,[]) (fun τ=> cf _ aa rfl (by exact hbody) rfl) ?_
  refine kC rfl ?_
  refine ap (_,[]) (fun τ=> aE _ aa rfl rfl rfl) ?_
  refine fW rfl ?_
  refine ap (_,[]) (fun τ=> aG _ aa rfl rfl eS) ?_
  refine gI rfl ?_
  refine ap (_,[]) (fun τ=> dg _ aa rfl rfl) ?_
  refine kQ rfl ?_
  refine ap (_,[((50,0),_)]) (fun τ=> (bW aa [((0,8),(50,0))] ar (hcb.toI) trivial tr tr rfl rfl ae ae)) ?_
  refine ml rfl (bl ⟨rfl,?_⟩)
  refine ai (du (56,0) _ _ aa rfl rfl (bM _).symm (.ref rfl (nc _) (lp _)) ab rfl (lT _ _) (show (bS (ons.take j) 0).length+C.length=(bS (ons.take j) 0++C).length by simp)) ?_
  refine bb rfl rfl rfl (bF rfl rfl rfl rfl rfl rfl (aj ?_))
  refine aM (σ':=aD 79 [(1,_),(2,_),(4,_),(6,_)] [((1,0),_),((2,0),_),((4,0),_),((56,0),_)] [] []) kp ?_
  refine an (bb rfl rfl rfl (ai (aG _ aa rfl rfl eS) (ai (aL _ aa rfl (by exact eW)) ?_)))
  refine ai (bh _ _ aa rfl ag (by (simp <;> rfl)) ah rfl) ?_
  refine ai (du (62,0) _ _ aa rfl rfl (bM _).symm (.sl rfl) (by simp;omega) rfl ((fj _ { op:= .stop }).trans (congrArg inl hsn.symm)) (show (bS (ons.take j) 0++C).length+1=(bS (ons.take (j+1)) 0).length by simp [hsl])) ?_
  refine bb rfl rfl rfl (bF rfl rfl rfl rfl rfl rfl (ee (an (aX rfl (ai (aZ _ _ rfl rfl (bD ab)) ?_)))))
  refine be rfl (aJ (⟨j+1,?_,?_,?_⟩))
  ·omega
  ·skip
   refine Le.mkJ [((60,0),(62,0))] [] rfl ?_ ?_ trivial trivial ?_
   ·exact ⟨(dI (id:=(1,0)) rfl),(dI (id:=(2,0)) rfl),(dI (id:=(4,0)) rfl),(cj ag),trivial⟩
   ·exact ⟨(fq rfl rfl rfl rfl (by repeat' (first | exact Lv.sl | exact bf | refine au ?_ ?_))),(fq rfl rfl rfl rfl (by repeat' (first | exact Lv.v | exact bf | refine au ?_ ?_))),(fi rfl rfl rfl ag),(fq rfl rfl rfl rfl lz),trivial⟩
   kernel_rfl
  omega
 obtain rfl:j=ons.length:=by omega
 rw [List.take_length]
 refine bC (id (hK8 _ ?_))
 clear hK8;try clear K8
 refine aq (am (bb rfl rfl rfl (ai (aG _ aa rfl rfl eS) (ai (dg _ aa rfl rfl) (ai (fU _ _ rfl rfl rfl) (aj (aR rfl (fun hc67=> ?_) (fun hc67=> ?_))))))))
 ·skip
  have hco:ld ons≠true:=by
   unfold ld
   rw [decide_eq_false ab,Bool.false_and]
   exact Bool.false_ne_true
  rw [Ds,if_neg hco,KP,if_pos ab]
  refine am (ai (aL _ aa rfl (by exact Gb)) ?_)
  exact bF rfl rfl rfl rfl rfl rfl (be rfl (aj (aF (jT (.inr rfl) rfl (.cellA aa rfl rfl rfl) (.tmp kH) (Le.out [] [] (.tup rfl lz) rfl rfl rfl trivial trivial)))))
 have hl4:(bS ons 0).length≤400:=by omega
 refine aS (aU fun K19 hK19=> ?_)
 refine am (be rfl (aj (ay ?_)))
 refine aM (Le.frzB (4,0) 0 rfl rfl rfl rfl (ys:=inl (bS ons 0)) (by rw [List.drop_zero];exact List.take_of_length_le (by rw [bM];omega)) (by rw [bM];omega)) ?_
 refine bs (α:=Nat) (fun h=> h≤40∧ ∀ k,k < h→la (bS ons 0) (jw (bS ons 0) (bX ons k)).1 (bS ons 0).length≤16) 79 [(2,_),(4,_)] [((2,0),_)] (fun h=> [(8, .v (.int .i64 (h:Int)))]) (fun h=> [((4,0), .box 26 [.sl (bS ons 0).length (inl (bS ons 0)), .v (.int .i64 (bX ons 0)), .v (.int .i64 (bX ons 1)), .v (.int .i64 (bX ons 2)), .v (.int .i64 (bX ons 3)), .v (.int .i64 (bX ons 4)), .v (.int .i64 (bX ons 5)), .v (.int .i64 (bX ons 6)), .v (.int .i64 (bX ons 7)), .v (.int .i64 (bX ons 8)), .v (.int .i64 (bX ons 9)), .v (.int .i64 (bX ons 10)), .v (.int .i64 (bX ons 11)), .v (.int .i64 (bX ons 12)), .v (.int .i64 (bX ons 13)), .v (.int .i64 (bX ons 14)), .v (.int .i64 (bX ons 15)), .v (.int .i64 (bX ons 16)), .v (.int .i64 (bX ons 17)), .v (.int .i64 (bX ons 18)), .v (.int .i64 (bX ons 19)), .v (.int .i64 (bX ons 20)), .v (.int .i64 (bX ons 21)), .v (.int .i64 (bX ons 22)), .v (.int .i64 (bX ons 23)), .v (.int .i64 (bX ons 24)), .v (.int .i64 (bX ons 25)), .v (.int .i64 (bX ons 26)), .v (.int .i64 (bX ons 27)), .v (.int .i64 (bX ons 28)), .v (.int .i64 (bX ons 29)), .v (.int .i64 (bX ons 30)), .v (.int .i64 (bX ons 31)), .v (.int .i64 (bX ons 32)), .v (.int .i64 (bX ons 33)), .v (.int .i64 (bX ons 34)), .v (.int .i64 (bX ons 35)), .v (.int .i64 (bX ons 36)), .v (.int .i64 (bX ons 37)), .v (.int .i64 (bX ons 38)), .v (.int .i64 (bX ons 39)), .v (.int .i64 (d.length:Int)), .v (.int .i64 (v.length:Int))])]) [] [] (fun h=> 40 - h) 0 ?_ (by
  refine Le.mkJ [] [] rfl ?_ ?_ trivial trivial ?_
  ·exact ⟨(iP rfl),(iP rfl),(cj ag),trivial⟩
  ·exact ⟨(cp rfl rfl rfl),(fq rfl rfl rfl rfl lz),trivial⟩
  kernel_rfl) ?_
 ·exact ⟨Nat.zero_le _,fun k hk=> absurd hk (Nat.not_lt_zero _)⟩
 intro h hh
 obtain ⟨hk,hks⟩:=hh
 refine aU fun K21 hK21=> ?_
 refine am (aX rfl (ai (bm _ _ rfl rfl rfl) (aj (aR rfl (fun hc70=> ?_) (fun hc70=> ?_)))))
 ·skip
  have hh4:h < 40:=by omega
  have hdm:=nu (C:=bS ons 0) (qF U.good (U.ent h)) (B:=1000000) (fun i _=> Nat.le_trans (Bg ons i) hUc) _ (Nat.le_refl _)
  have hde:=wq (bS ons 0) (bX ons) (d.length:Int) (v.length:Int) h hh4 hUc (wS ons) (d++v).length U.good (fun i=> Nat.le_trans (Bg ons i) hUc) (U.ent h)
  refine bq (hK21 _ ?_)
  clear hK21;try clear K21
  refine aq (ay (am (ai (az _ aa rfl rfl rfl rfl) (aX rfl (ai (aI aa al (hde) rfl rfl) ?_)))))
  refine ai (fU _ _ rfl rfl rfl) (aj (aR rfl (fun hc76=> ?_) (fun hc76=> ?_)))
  ·skip
   have hco:ld ons≠true:=fun e=> by
    unfold ld at e
    rw [Bool.and_eq_true,List.all_eq_true] at e
    have:=e.2 h (List.mem_range.2 hh4)
    rw [decide_eq_true_eq] at this
    exact absurd (show la (bS ons 0) (jw (bS ons 0) (bX ons h)).1 (bS ons 0).length≤16 from this) ab
   rw [Ds,if_neg hco,KP,if_neg ab]
   refine am (ai (aL _ aa rfl (by exact Gb)) ?_)
   exact bF rfl rfl rfl rfl rfl rfl (be rfl (aj (aF (jT (.inr rfl) rfl (.cellA aa rfl rfl rfl) (.tmp kH) (Le.out [] [] (.tup rfl lz) rfl rfl rfl trivial trivial)))))
  refine cu (an (aX rfl (ai (aZ _ _ rfl rfl (bD ab)) ?_)))
  refine be rfl (aJ (⟨h+1,?_,?_,?_⟩))
  ·exact ⟨by omega,fun k hk=> (by
    rcases Nat.lt_or_ge k h with hlt | hge
    ·exact hks k hlt
    obtain rfl:k=h:=by omega
    omega)⟩
  ·skip
   refine Le.mkJ [] [] rfl ?_ ?_ trivial trivial ?_
   ·exact ⟨(iP rfl),(iP rfl),(cj ag),trivial⟩
   ·exact ⟨(cp rfl rfl rfl),(fq rfl rfl rfl rfl lz),trivial⟩
   kernel_rfl
  omega
 obtain rfl:h=40:=by omega
 have hco:ld ons=true:=by
  unfold ld
  rw [Bool.and_eq_true,decide_eq_true_eq,List.all_eq_true]
  exact ⟨hl4,fun k hk=> decide_eq_true (hks k (List.mem_range.1 hk))⟩
 refine bC (id (hK19 _ ?_))
 clear hK19;try clear K19
 refine am (ai (az _ aa rfl rfl rfl rfl) (bF rfl rfl rfl rfl rfl rfl (be rfl (aj (aF ?_)))))
 rw [Ds,if_pos hco]
 exact jT (.inr rfl) rfl (.cellA aa rfl rfl rfl) (.tmp kH) (Le.out [] [] (.tup rfl lz) rfl rfl rfl trivial trivial)

structure mn (s:Tx) (d v:List Tx) (ons:List (Nat×Bk)):Prop extends UOk d v ons where
 p:gy s=some (d,v,wv d v ons)
 l:s.length≤3000
 wl: ∀ p∈ons,qh p.2=true
theorem BF {s:Tx} {d v:List Tx} {ons:List (Nat×Bk)} (U:mn s d v ons) (hc:ld ons=true):
  Spec Tryz.prog 64 (ba [.v (bt s)] []) (aP (Ds d v ons) []):=by
 have h1:=qi s U.l _ _ _ U.p
 have h2:Spec Tryz.prog 97 (ba [JA d v (wv d v ons)] []) (aP (.v (.int .i64 0)) []):=qb d v ons U.nd U.len U.ok U.wl U.n
 have h3:=nI d v ons U.toUOk
 rw [Ds,if_pos hc] at h3 ⊢
 obtain ⟨H,hH⟩: ∃ H,H=wv d v ons:=⟨_,rfl⟩
 rw [← hH] at h1 h2 h3
 clear hH
 refine Spec.ofN Tryz.func64 rfl Tryz.ntmps64 rfl ?_
 refine am (ai (aB (2,0) aa rfl rfl) (be rfl (aj (am (eh rfl (ai (aI aa al (h1) rfl rfl) ?_))))))
 refine ai (aH _ tK) (ai (cm _ rfl pD) (ai (cm _ rfl eo) (ai (cm _ rfl eo) (ai (aB (4,0) aa rfl rfl) (bF rfl rfl rfl rfl rfl rfl (be rfl (be rfl (aj (aq (am ?_))))))))))
 refine aX rfl (ai (bU (r:=false) _ _ rfl rfl rfl) (aj (aW rfl rfl (aS (am (ai (az _ aa rfl rfl rfl rfl) (ai (aI aa al (h2) rfl rfl) ?_)))))))
 refine be rfl (aj (aq (aq ?_)))
 refine aM (σ':=aD 32 [(2,_),(4,_),(6,_)] [((2,0),_),((4,0),_)] [] []) kp ?_
 refine an (aX rfl (ai (bU (r:=false) _ _ rfl rfl rfl) (aj (aW rfl rfl (aS (am (ai (az _ aa rfl rfl rfl rfl) (ai (aI aa al (h3) rfl rfl) ?_))))))))
 refine ai (aH _ tK) (ai (cm _ rfl pD) (ai (cm _ rfl eo) (ai (aB (7,0) aa rfl rfl) (bF rfl rfl rfl rfl rfl rfl (be rfl (aj (am (ai (az _ aa rfl rfl rfl rfl) (aX rfl (bF rfl rfl rfl rfl rfl rfl ?_))))))))))
 exact be rfl (aj (aF (jT (.inr rfl) rfl (.cellA aa rfl rfl rfl) (.tmp kH) (Le.out [] [] (.tup rfl lz) rfl rfl rfl trivial trivial))))
theorem zZ {s:Tx} {d v:List Tx} {ons:List (Nat×Bk)} (U:mn s d v ons) (hc:ld ons≠true):
  Spec Tryz.prog 64 (ba [.v (bt s)] []) (aP (Ds d v ons) []):=by
 have h1:=qi s U.l _ _ _ U.p
 have h2:Spec Tryz.prog 97 (ba [JA d v (wv d v ons)] []) (aP (.v (.int .i64 0)) []):=qb d v ons U.nd U.len U.ok U.wl U.n
 have h3:=nI d v ons U.toUOk
 rw [Ds,if_neg hc] at h3 ⊢
 generalize KP ons=er at h3 ⊢
 obtain ⟨H,hH⟩: ∃ H,H=wv d v ons:=⟨_,rfl⟩
 rw [← hH] at h1 h2 h3
 clear hH
 refine Spec.ofN Tryz.func64 rfl Tryz.ntmps64 rfl ?_
 refine am (ai (aB (2,0) aa rfl rfl) (be rfl (aj (am (eh rfl (ai (aI aa al (h1) rfl rfl) ?_))))))
 refine ai (aH _ tK) (ai (cm _ rfl pD) (ai (cm _ rfl eo) (ai (cm _ rfl eo) (ai (aB (4,0) aa rfl rfl) (bF rfl rfl rfl rfl rfl rfl (be rfl (be rfl (aj (aq (am ?_))))))))))
 refine aX rfl (ai (bU (r:=false) _ _ rfl rfl rfl) (aj (aW rfl rfl (aS (am (ai (az _ aa rfl rfl rfl rfl) (ai (aI aa al (h2) rfl rfl) ?_)))))))
 refine be rfl (aj (aq (aq ?_)))
 refine aM (σ':=aD 32 [(2,_),(4,_),(6,_)] [((2,0),_),((4,0),_)] [] []) kp ?_
 refine an (aX rfl (ai (bU (r:=false) _ _ rfl rfl rfl) (aj (aW rfl rfl (aS (am (ai (az _ aa rfl rfl rfl rfl) (ai (aI aa al (h3) rfl rfl) ?_))))))))
 refine ai (aH _ tK) (ai (cm _ rfl pD) (ai (cm _ rfl eo) (ai (aB (7,0) aa rfl rfl) (bF rfl rfl rfl rfl rfl rfl (be rfl (aj (am (ai (az _ aa rfl rfl rfl rfl) (aX rfl (bF rfl rfl rfl rfl rfl rfl ?_))))))))))
 exact be rfl (aj (aF (jT (.inr rfl) rfl (.cellA aa rfl rfl rfl) (.tmp kH) (Le.out [] [] (.tup rfl lz) rfl rfl rfl trivial trivial))))
theorem wr {s:Tx} {d v:List Tx} {ons:List (Nat×Bk)} (U:mn s d v ons):
  Spec Tryz.prog 64 (ba [.v (bt s)] []) (aP (Ds d v ons) []):=by
 by_cases hc:ld ons=true
 ·exact BF U hc
 exact zZ U hc
def durs:List (List Tx):=[Bx,Cj,zQ,Ck,As,CA,CI,zy,BB,Ax,uT,uj]
def vols:List (List Tx):=[AE,zU,Aa,Dj,zP,zR,CN,BQ,zN,BP,ul,tR]
def onss:List (List (Nat×Bk)):=[ons0,ons1,ons2,ons3,ons4,ons5,ons6,ons7,ons8,ons9,ons10,ons11]
theorem iO {d v:List Tx} {ons:List (Nat×Bk)} (h:vt ons (d++v).length) (h1:(d++v).Nodup) (h2:(d++v).length≤16) (h3:(ons.all fun p=> sK p.2)=true) (h4:ons.length≤1000):UOk d v ons:=
 ⟨h1,h2,h.ok,fun p hp=> (List.all_eq_true.1 h3) p hp,h.h,by have:=h.n;omega,h4⟩
theorem JW:mn (srcs.getD 0 []) Bx AE ons0:=⟨iO srcOk0 ah ah ae ah,HQ,of_decide_eq_true ae,srcOk0.wl⟩
theorem JU:mn (srcs.getD 1 []) Cj zU ons1:=⟨iO srcOk1 ah ah ae ah,HR,of_decide_eq_true ae,srcOk1.wl⟩
theorem JK:mn (srcs.getD 2 []) zQ Aa ons2:=⟨iO srcOk2 ah ah ae ah,Ht,of_decide_eq_true ae,srcOk2.wl⟩
theorem Jw:mn (srcs.getD 3 []) Ck Dj ons3:=⟨iO srcOk3 ah ah ae ah,Ii,of_decide_eq_true ae,srcOk3.wl⟩
theorem Je:mn (srcs.getD 4 []) As zP ons4:=⟨iO srcOk4 ah ah ae ah,Im,of_decide_eq_true ae,srcOk4.wl⟩
theorem Kb:mn (srcs.getD 5 []) CA zR ons5:=⟨iO srcOk5 ah ah ae ah,Hf,of_decide_eq_true ae,srcOk5.wl⟩
theorem IX:mn (srcs.getD 6 []) CI CN ons6:=⟨iO srcOk6 ah ah ae ah,Hy,of_decide_eq_true ae,srcOk6.wl⟩
theorem Jr:mn (srcs.getD 7 []) zy BQ ons7:=⟨iO srcOk7 ah ah ae ah,GU,of_decide_eq_true ae,srcOk7.wl⟩
theorem JG:mn (srcs.getD 8 []) BB zN ons8:=⟨iO srcOk8 ah ah ae ah,Iu,of_decide_eq_true ae,srcOk8.wl⟩
theorem Jn:mn (srcs.getD 9 []) Ax BP ons9:=⟨iO srcOk9 ah ah ae ah,GY,of_decide_eq_true ae,srcOk9.wl⟩
theorem IF:mn (srcs.getD 10 []) uT ul ons10:=⟨iO srcOk10 ah ah ae ah,Fx,of_decide_eq_true ae,srcOk10.wl⟩
theorem Hp:mn (srcs.getD 11 []) uj tR ons11:=⟨iO srcOk11 ah ah ae ah,Gd,of_decide_eq_true ae,srcOk11.wl⟩
theorem Jb (k:Nat) (hk:k < 12):mn (srcs.getD k []) (durs.getD k []) (vols.getD k []) (onss.getD k [])∧vt (onss.getD k []) (durs.getD k []++vols.getD k []).length:=by
 rcases k with _ | _ | _ | _ | _ | _ | _ | _ | _ | _ | _ | _ | k
 ·exact ⟨JW,srcOk0⟩
 ·exact ⟨JU,srcOk1⟩
 ·exact ⟨JK,srcOk2⟩
 ·exact ⟨Jw,srcOk3⟩
 ·exact ⟨Je,srcOk4⟩
 ·exact ⟨Kb,srcOk5⟩
 ·exact ⟨IX,srcOk6⟩
 ·exact ⟨Jr,srcOk7⟩
 ·exact ⟨JG,srcOk8⟩
 ·exact ⟨Jn,srcOk9⟩
 ·exact ⟨IF,srcOk10⟩
 ·exact ⟨Hp,srcOk11⟩
 omega
theorem tb:Spec Tryz.prog 108 (ba [] []) (aP (.sl 12 (fk srcs)) []):=by
 refine Spec.ofN Tryz.func108 rfl Tryz.ntmps108 rfl ?_
 refine am (ai (bp _ fA) (aj (am (ai (bh _ _ aa rfl ag (by (simp <;> rfl)) ah rfl) ?_))))
 exact kD rfl (aj (aF (bH (.inr rfl) rfl (.tmp nf) (Le.out [] [] (jb rfl ae) rfl rfl rfl trivial trivial))))
theorem uz (n:Int) (h1: -9223372036854775808≤n) (h2:n≤9223372036854775807):
  Spec Tryz.prog 75 (ba [.v (.int .i64 n)] []) (aP (.v (bt (srcs.getD (dx n 12).toNat []))) []):=by
 have ha:=iw n 12 ab ab h1 h2
 have hlo:=gW n 12 ab
 have hhi:=jh n 12 ab
 obtain ⟨k,hk⟩: ∃ k:Nat,dx n 12=(k:Int):=⟨(dx n 12).toNat,by omega⟩
 rw [hk] at ha hlo hhi ⊢
 have hk2:k < srcs.length:=by rw [Dc];omega
 have hg:=jP srcs k hk2
 have hs:=tb
 rw [Int.toNat_natCast]
 generalize srcs=S at hg hs hk2
 refine Spec.ofN Tryz.func75 rfl Tryz.ntmps75 rfl ?_
 refine am (oa rfl (aj (am (ai (aI aa (by repeat' (exact cV)) (hs) rfl rfl) ?_))))
 refine kD rfl (aj (am (eQ rfl (aX rfl (eQ rfl (ai (bo _ aa rfl) (ai (aI aa al (ha) rfl rfl) ?_)))))))
 refine ai (bn _ _ aa rfl rfl _ rfl ab (by (simp only [aN,bg,bj,bv,bu,bG,bw,bM,eG,aN,List.length_map];omega)) (by exact Nat.mul_one _)) ?_
 refine ai (bQ _ aa rfl (by exact hg) rfl) ?_
 exact oa rfl (aj (aF (fu rfl rfl)))
theorem tn (n:Int) (h1: -9223372036854775808≤n) (h2:n≤9223372036854775807):
  Spec Tryz.prog 39 (ba [.v (.int .i64 n)] []) (aP (Nl (durs.getD (dx n 12).toNat []) (vols.getD (dx n 12).toNat []) (onss.getD (dx n 12).toNat [])) []):=by
 have hs:=uz n h1 h2
 have hlo:=gW n 12 ab
 have hhi:=jh n 12 ab
 obtain ⟨k,hk⟩: ∃ k:Nat,dx n 12=(k:Int):=⟨(dx n 12).toNat,by omega⟩
 rw [hk] at hs hlo hhi ⊢
 rw [Int.toNat_natCast] at hs ⊢
 obtain ⟨U,hS⟩:=Jb k ab
 have hb:=wr U
 rw [Ds,if_pos (yB hS)] at hb
 generalize srcs.getD k []=s at hs hb
 generalize durs.getD k []=d at hb ⊢
 generalize vols.getD k []=v at hb ⊢
 generalize onss.getD k []=ons at hb ⊢
 clear U hS
 refine Spec.ofN Tryz.func39 rfl Tryz.ntmps39 rfl ?_
 refine am (ai (aB (2,0) aa rfl rfl) (aj (am (aX rfl (ai (aI aa al (hs) rfl rfl) ?_)))))
 refine ai (aI aa al (hb) rfl rfl) ?_
 refine ai (aH _ tK) (ai (cm _ rfl pD) (ai (cm _ rfl eo) (ai (aB (3,0) aa rfl rfl) (bF rfl rfl rfl rfl rfl rfl (be rfl (aj (am (ai (az _ aa rfl rfl rfl rfl) (bF rfl rfl rfl rfl rfl rfl (aj ?_))))))))))
 exact aF (bH (.inr rfl) rfl (.cellA aa rfl rfl rfl) (Le.out [] [] (.agg rfl lz) rfl rfl rfl trivial trivial))

structure GL (L:List Int):Prop where
 n:L.length≤4611686018427387904
 r: ∀ x∈L, -9223372036854775808≤x∧x≤9223372036854775807

structure Pg where
 c:List eT
 e:Nat→Int
 d:Nat
 v:Nat
abbrev Ra (p:Pg):List AV:=DE p.c.length (inl p.c) p.e (p.d:Int) (p.v:Int)
abbrev ik (p:Pg):AV:= .agg (Ra p)
end Go.Proofs.YtmjnackchaahbaaGreat
