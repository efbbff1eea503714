/- Part 13 of the texts that the walk leans on: the machine, the walks, the plain laws. -/
import Derived.Test.YtmjnackchaahbaaGreatNrZ12
set_option linter.unusedSimpArgs false
set_option linter.unusedVariables false
namespace Go.Proofs.YtmjnackchaahbaaGreat
open Go.RowKit

abbrev GU (c:AV) (e:Nat→Int) (d v:Int):List AV:=[c, .v (.int .i64 (e 0)), .v (.int .i64 (e 1)), .v (.int .i64 (e 2)), .v (.int .i64 (e 3)), .v (.int .i64 (e 4)), .v (.int .i64 (e 5)), .v (.int .i64 (e 6)), .v (.int .i64 (e 7)), .v (.int .i64 (e 8)), .v (.int .i64 (e 9)), .v (.int .i64 (e 10)), .v (.int .i64 (e 11)), .v (.int .i64 (e 12)), .v (.int .i64 (e 13)), .v (.int .i64 (e 14)), .v (.int .i64 (e 15)), .v (.int .i64 (e 16)), .v (.int .i64 (e 17)), .v (.int .i64 (e 18)), .v (.int .i64 (e 19)), .v (.int .i64 (e 20)), .v (.int .i64 (e 21)), .v (.int .i64 (e 22)), .v (.int .i64 (e 23)), .v (.int .i64 (e 24)), .v (.int .i64 (e 25)), .v (.int .i64 (e 26)), .v (.int .i64 (e 27)), .v (.int .i64 (e 28)), .v (.int .i64 (e 29)), .v (.int .i64 (e 30)), .v (.int .i64 (e 31)), .v (.int .i64 (e 32)), .v (.int .i64 (e 33)), .v (.int .i64 (e 34)), .v (.int .i64 (e 35)), .v (.int .i64 (e 36)), .v (.int .i64 (e 37)), .v (.int .i64 (e 38)), .v (.int .i64 (e 39)), .v (.int .i64 d), .v (.int .i64 v)]
abbrev FD (n:Nat) (xs:List PV) (e:Nat→Int) (d v:Int):List AV:=GU (.sl n xs) e d v
def lg (e:Nat→Int) (h:Nat) (x:Int):Nat→Int:=fun k=> if k=h then x else e k
theorem sA (c:AV) (e:Nat→Int) (d v:Int) (h:Nat) (hh:h < 40) (x:Int):fY (GU c e d v) (1+h) [.v (.int .i64 x)]=GU c (lg e h x) d v:=by
 rcases h with _ | _ | _ | _ | _ | _ | _ | _ | _ | _ | _ | _ | _ | _ | _ | _ | _ | _ | _ | _ | _ | _ | _ | _ | _ | _ | _ | _ | _ | _ | _ | _ | _ | _ | _ | _ | _ | _ | _ | _ | h
 all_goals first | rfl | omega
theorem sO (n:Nat) (xs:List PV) (e:Nat→Int) (d v:Int) (h:Nat) (hh:h < 40):(FD n xs e d v)[1+h]? =some (.v (.int .i64 (e h))):=by
 rcases h with _ | _ | _ | _ | _ | _ | _ | _ | _ | _ | _ | _ | _ | _ | _ | _ | _ | _ | _ | _ | _ | _ | _ | _ | _ | _ | _ | _ | _ | _ | _ | _ | _ | _ | _ | _ | _ | _ | _ | _ | h
 all_goals first | rfl | omega
def Gn (l:List Nat):List PV:=l.map fun (x:Nat)=> .v (.int .i64 (x:Int))
@[simp] theorem eH (l:List Nat):(Gn l).length=l.length:=by simp [Gn]
theorem Ei (l:List Nat) (k:Nat) (h:k < l.length):(Gn l)[k]? =some (.v (.int .i64 (l.getD k 0:Int))):=by simp [Gn,h]
theorem xL:Spec Tryz.prog 106 (ba [.v (.int .i64 1)] []) (aP (.v (.int .i64 0)) []):=by
 refine Spec.ofN Tryz.func106 rfl Tryz.ntmps106 rfl ?_
 refine am (be rfl (aj (aq (am (aX rfl (aj (ay (aq (iE rfl rfl rfl rfl rfl (aS ?_))))))))))
 exact bL rfl rfl (am (be rfl (aj (aG (fq rfl rfl)))))
theorem zR:Spec Tryz.prog 106 (ba [.v (.int .i64 2)] []) (aP (.v (.int .i64 0)) []):=by
 refine Spec.ofN Tryz.func106 rfl Tryz.ntmps106 rfl ?_
 refine am (be rfl (aj (aq (am (aX rfl (aj (ay (aq (cK rfl rfl rfl rfl rfl (iE rfl rfl rfl rfl rfl ?_))))))))))
 exact aS (bL rfl rfl (am (be rfl (aj (aG (fq rfl rfl))))))
theorem uD:Spec Tryz.prog 106 (ba [.v (.int .i64 3)] []) (aP (.v (.int .i64 1)) []):=by
 refine Spec.ofN Tryz.func106 rfl Tryz.ntmps106 rfl ?_
 refine am (be rfl (aj (aq (am (aX rfl (aj (ay (aq ?_))))))))
 iterate 7 refine cK rfl rfl rfl rfl rfl ?_
 refine aN (σ':=aE 31 [(3,_)] [] [] []) kp ?_
 refine ed rfl rfl rfl rfl rfl (aq ?_)
 iterate 3 refine cK rfl rfl rfl rfl rfl ?_
 exact iE rfl rfl rfl rfl rfl (aS (bL rfl rfl (am (be rfl (aj (aG (fq rfl rfl)))))))
theorem zg:Spec Tryz.prog 106 (ba [.v (.int .i64 4)] []) (aP (.v (.int .i64 0)) []):=by
 refine Spec.ofN Tryz.func106 rfl Tryz.ntmps106 rfl ?_
 refine am (be rfl (aj (aq (am (aX rfl (aj (ay (aq ?_))))))))
 iterate 2 refine cK rfl rfl rfl rfl rfl ?_
 exact iE rfl rfl rfl rfl rfl (aS (bL rfl rfl (am (be rfl (aj (aG (fq rfl rfl)))))))
theorem ym:Spec Tryz.prog 106 (ba [.v (.int .i64 5)] []) (aP (.v (.int .i64 1)) []):=by
 refine Spec.ofN Tryz.func106 rfl Tryz.ntmps106 rfl ?_
 refine am (be rfl (aj (aq (am (aX rfl (aj (ay (aq ?_))))))))
 iterate 7 refine cK rfl rfl rfl rfl rfl ?_
 refine aN (σ':=aE 31 [(3,_)] [] [] []) kp ?_
 exact ed rfl rfl rfl rfl rfl (aq (iE rfl rfl rfl rfl rfl (aS (bL rfl rfl (am (be rfl (aj (aG (fq rfl rfl)))))))))
theorem Bl:Spec Tryz.prog 106 (ba [.v (.int .i64 6)] []) (aP (.v (.int .i64 2)) []):=by
 refine Spec.ofN Tryz.func106 rfl Tryz.ntmps106 rfl ?_
 refine am (be rfl (aj (aq (am (aX rfl (aj (ay (aq ?_))))))))
 iterate 7 refine cK rfl rfl rfl rfl rfl ?_
 refine aN (σ':=aE 31 [(3,_)] [] [] []) kp ?_
 refine ed rfl rfl rfl rfl rfl (aq ?_)
 iterate 5 refine cK rfl rfl rfl rfl rfl ?_
 refine ed rfl rfl rfl rfl rfl (aq (iE rfl rfl rfl rfl rfl (aS (bL rfl rfl (aq ?_)))))
 refine aN (σ':=aE 31 [] [] [] []) kp ?_
 exact an (be rfl (aj (aG (fq rfl rfl))))
theorem Bi:Spec Tryz.prog 106 (ba [.v (.int .i64 7)] []) (aP (.v (.int .i64 2)) []):=by
 refine Spec.ofN Tryz.func106 rfl Tryz.ntmps106 rfl ?_
 refine am (be rfl (aj (aq (am (aX rfl (aj (ay (aq ?_))))))))
 iterate 7 refine cK rfl rfl rfl rfl rfl ?_
 refine aN (σ':=aE 31 [(3,_)] [] [] []) kp ?_
 refine ed rfl rfl rfl rfl rfl (aq ?_)
 iterate 5 refine cK rfl rfl rfl rfl rfl ?_
 refine ed rfl rfl rfl rfl rfl (aq (cK rfl rfl rfl rfl rfl (aq ?_)))
 refine aN (σ':=aE 31 [(3,_)] [] [] []) kp ?_
 exact zG rfl rfl rfl rfl rfl (aS (bL rfl rfl (am (be rfl (aj (aG (fq rfl rfl)))))))
theorem Ch:Spec Tryz.prog 106 (ba [.v (.int .i64 8)] []) (aP (.v (.int .i64 2)) []):=by
 refine Spec.ofN Tryz.func106 rfl Tryz.ntmps106 rfl ?_
 refine am (be rfl (aj (aq (am (aX rfl (aj (ay (aq ?_))))))))
 iterate 7 refine cK rfl rfl rfl rfl rfl ?_
 refine aN (σ':=aE 31 [(3,_)] [] [] []) kp ?_
 refine ed rfl rfl rfl rfl rfl (aq ?_)
 iterate 5 refine cK rfl rfl rfl rfl rfl ?_
 refine ed rfl rfl rfl rfl rfl (aq (cK rfl rfl rfl rfl rfl (aq ?_)))
 refine aN (σ':=aE 31 [(3,_)] [] [] []) kp ?_
 exact ed rfl rfl rfl rfl rfl (iE rfl rfl rfl rfl rfl (aS (bL rfl rfl (am (be rfl (aj (aG (fq rfl rfl))))))))
theorem AW:Spec Tryz.prog 106 (ba [.v (.int .i64 9)] []) (aP (.v (.int .i64 2)) []):=by
 refine Spec.ofN Tryz.func106 rfl Tryz.ntmps106 rfl ?_
 refine am (be rfl (aj (aq (am (aX rfl (aj (ay (aq ?_))))))))
 iterate 7 refine cK rfl rfl rfl rfl rfl ?_
 refine aN (σ':=aE 31 [(3,_)] [] [] []) kp ?_
 refine ed rfl rfl rfl rfl rfl (aq ?_)
 iterate 5 refine cK rfl rfl rfl rfl rfl ?_
 refine ed rfl rfl rfl rfl rfl (aq (cK rfl rfl rfl rfl rfl (aq ?_)))
 refine aN (σ':=aE 31 [(3,_)] [] [] []) kp ?_
 exact ed rfl rfl rfl rfl rfl (cK rfl rfl rfl rfl rfl (iE rfl rfl rfl rfl rfl (aS (bL rfl rfl (am (be rfl (aj (aG (fq rfl rfl)))))))))
theorem BS:Spec Tryz.prog 106 (ba [.v (.int .i64 10)] []) (aP (.v (.int .i64 1)) []):=by
 refine Spec.ofN Tryz.func106 rfl Tryz.ntmps106 rfl ?_
 refine am (be rfl (aj (aq (am (aX rfl (aj (ay (aq ?_))))))))
 iterate 7 refine cK rfl rfl rfl rfl rfl ?_
 refine aN (σ':=aE 31 [(3,_)] [] [] []) kp ?_
 exact ed rfl rfl rfl rfl rfl (aq (cK rfl rfl rfl rfl rfl (iE rfl rfl rfl rfl rfl (aS (bL rfl rfl (am (be rfl (aj (aG (fq rfl rfl))))))))))
theorem Ej:Spec Tryz.prog 106 (ba [.v (.int .i64 11)] []) (aP (.v (.int .i64 2)) []):=by
 refine Spec.ofN Tryz.func106 rfl Tryz.ntmps106 rfl ?_
 refine am (be rfl (aj (aq (am (aX rfl (aj (ay (aq ?_))))))))
 iterate 7 refine cK rfl rfl rfl rfl rfl ?_
 refine aN (σ':=aE 31 [(3,_)] [] [] []) kp ?_
 refine ed rfl rfl rfl rfl rfl (aq ?_)
 iterate 5 refine cK rfl rfl rfl rfl rfl ?_
 refine ed rfl rfl rfl rfl rfl (aq (cK rfl rfl rfl rfl rfl (aq ?_)))
 refine aN (σ':=aE 31 [(3,_)] [] [] []) kp ?_
 refine ed rfl rfl rfl rfl rfl ?_
 iterate 2 refine cK rfl rfl rfl rfl rfl ?_
 exact iE rfl rfl rfl rfl rfl (aS (bL rfl rfl (am (be rfl (aj (aG (fq rfl rfl)))))))
theorem FK:Spec Tryz.prog 106 (ba [.v (.int .i64 12)] []) (aP (.v (.int .i64 2)) []):=by
 refine Spec.ofN Tryz.func106 rfl Tryz.ntmps106 rfl ?_
 refine am (be rfl (aj (aq (am (aX rfl (aj (ay (aq ?_))))))))
 iterate 7 refine cK rfl rfl rfl rfl rfl ?_
 refine aN (σ':=aE 31 [(3,_)] [] [] []) kp ?_
 refine ed rfl rfl rfl rfl rfl (aq ?_)
 iterate 5 refine cK rfl rfl rfl rfl rfl ?_
 refine ed rfl rfl rfl rfl rfl (aq (cK rfl rfl rfl rfl rfl (aq ?_)))
 refine aN (σ':=aE 31 [(3,_)] [] [] []) kp ?_
 refine ed rfl rfl rfl rfl rfl ?_
 iterate 3 refine cK rfl rfl rfl rfl rfl ?_
 exact iE rfl rfl rfl rfl rfl (aS (bL rfl rfl (am (be rfl (aj (aG (fq rfl rfl)))))))
theorem FL:Spec Tryz.prog 106 (ba [.v (.int .i64 13)] []) (aP (.v (.int .i64 2)) []):=by
 refine Spec.ofN Tryz.func106 rfl Tryz.ntmps106 rfl ?_
 refine am (be rfl (aj (aq (am (aX rfl (aj (ay (aq ?_))))))))
 iterate 7 refine cK rfl rfl rfl rfl rfl ?_
 refine aN (σ':=aE 31 [(3,_)] [] [] []) kp ?_
 refine ed rfl rfl rfl rfl rfl (aq ?_)
 iterate 5 refine cK rfl rfl rfl rfl rfl ?_
 refine ed rfl rfl rfl rfl rfl (aq (cK rfl rfl rfl rfl rfl (aq ?_)))
 refine aN (σ':=aE 31 [(3,_)] [] [] []) kp ?_
 refine ed rfl rfl rfl rfl rfl ?_
 iterate 4 refine cK rfl rfl rfl rfl rfl ?_
 exact iE rfl rfl rfl rfl rfl (aS (bL rfl rfl (am (be rfl (aj (aG (fq rfl rfl)))))))
theorem Di:Spec Tryz.prog 106 (ba [.v (.int .i64 14)] []) (aP (.v (.int .i64 1)) []):=by
 refine Spec.ofN Tryz.func106 rfl Tryz.ntmps106 rfl ?_
 refine am (be rfl (aj (aq (am (aX rfl (aj (ay (aq ?_))))))))
 iterate 7 refine cK rfl rfl rfl rfl rfl ?_
 refine aN (σ':=aE 31 [(3,_)] [] [] []) kp ?_
 refine ed rfl rfl rfl rfl rfl (aq ?_)
 iterate 2 refine cK rfl rfl rfl rfl rfl ?_
 exact iE rfl rfl rfl rfl rfl (aS (bL rfl rfl (am (be rfl (aj (aG (fq rfl rfl)))))))
theorem yF:Spec Tryz.prog 106 (ba [.v (.int .i64 15)] []) (aP (.v (.int .i64 0)) []):=by
 refine Spec.ofN Tryz.func106 rfl Tryz.ntmps106 rfl ?_
 refine am (be rfl (aj (aq (am (aX rfl (aj (ay (aq ?_))))))))
 iterate 3 refine cK rfl rfl rfl rfl rfl ?_
 exact iE rfl rfl rfl rfl rfl (aS (bL rfl rfl (am (be rfl (aj (aG (fq rfl rfl)))))))
theorem CW:Spec Tryz.prog 106 (ba [.v (.int .i64 16)] []) (aP (.v (.int .i64 1)) []):=by
 refine Spec.ofN Tryz.func106 rfl Tryz.ntmps106 rfl ?_
 refine am (be rfl (aj (aq (am (aX rfl (aj (ay (aq ?_))))))))
 iterate 7 refine cK rfl rfl rfl rfl rfl ?_
 refine aN (σ':=aE 31 [(3,_)] [] [] []) kp ?_
 refine ed rfl rfl rfl rfl rfl (aq ?_)
 iterate 4 refine cK rfl rfl rfl rfl rfl ?_
 exact iE rfl rfl rfl rfl rfl (aS (bL rfl rfl (am (be rfl (aj (aG (fq rfl rfl)))))))
theorem yL:Spec Tryz.prog 106 (ba [.v (.int .i64 17)] []) (aP (.v (.int .i64 3)) []):=by
 refine Spec.ofN Tryz.func106 rfl Tryz.ntmps106 rfl ?_
 refine am (be rfl (aj (aq (am (aX rfl (aj (ay (aq ?_))))))))
 iterate 7 refine cK rfl rfl rfl rfl rfl ?_
 refine aN (σ':=aE 31 [(3,_)] [] [] []) kp ?_
 refine ed rfl rfl rfl rfl rfl (aq ?_)
 iterate 5 refine cK rfl rfl rfl rfl rfl ?_
 refine ed rfl rfl rfl rfl rfl (aq (cK rfl rfl rfl rfl rfl (aq ?_)))
 refine aN (σ':=aE 31 [(3,_)] [] [] []) kp ?_
 refine ed rfl rfl rfl rfl rfl ?_
 iterate 5 refine cK rfl rfl rfl rfl rfl ?_
 refine ed rfl rfl rfl rfl rfl (iE rfl rfl rfl rfl rfl (aq ?_))
 refine aN (σ':=aE 31 [] [] [] []) kp ?_
 exact an (be rfl (aj (aG (fq rfl rfl))))
theorem vC:Spec Tryz.prog 106 (ba [.v (.int .i64 18)] []) (aP (.v (.int .i64 0)) []):=by
 refine Spec.ofN Tryz.func106 rfl Tryz.ntmps106 rfl ?_
 refine am (be rfl (aj (aq (am (aX rfl (aj (ay (aq ?_))))))))
 iterate 4 refine cK rfl rfl rfl rfl rfl ?_
 exact iE rfl rfl rfl rfl rfl (aS (bL rfl rfl (am (be rfl (aj (aG (fq rfl rfl)))))))
theorem vf:Spec Tryz.prog 106 (ba [.v (.int .i64 19)] []) (aP (.v (.int .i64 0)) []):=by
 refine Spec.ofN Tryz.func106 rfl Tryz.ntmps106 rfl ?_
 refine am (be rfl (aj (aq (am (aX rfl (aj (ay (aq ?_))))))))
 iterate 5 refine cK rfl rfl rfl rfl rfl ?_
 exact iE rfl rfl rfl rfl rfl (aS (bL rfl rfl (am (be rfl (aj (aG (fq rfl rfl)))))))
theorem yo:Spec Tryz.prog 106 (ba [.v (.int .i64 20)] []) (aP (.v (.int .i64 0)) []):=by
 refine Spec.ofN Tryz.func106 rfl Tryz.ntmps106 rfl ?_
 refine am (be rfl (aj (aq (am (aX rfl (aj (ay (aq ?_))))))))
 iterate 6 refine cK rfl rfl rfl rfl rfl ?_
 refine iE rfl rfl rfl rfl rfl (aS (bL rfl rfl (aq ?_)))
 refine aN (σ':=aE 31 [] [] [] []) kp ?_
 exact an (be rfl (aj (aG (fq rfl rfl))))
theorem wv:Spec Tryz.prog 106 (ba [.v (.int .i64 21)] []) (aP (.v (.int .i64 2)) []):=by
 refine Spec.ofN Tryz.func106 rfl Tryz.ntmps106 rfl ?_
 refine am (be rfl (aj (aq (am (aX rfl (aj (ay (aq ?_))))))))
 iterate 7 refine cK rfl rfl rfl rfl rfl ?_
 refine aN (σ':=aE 31 [(3,_)] [] [] []) kp ?_
 refine ed rfl rfl rfl rfl rfl (aq ?_)
 iterate 5 refine cK rfl rfl rfl rfl rfl ?_
 refine ed rfl rfl rfl rfl rfl (aq (cK rfl rfl rfl rfl rfl (aq ?_)))
 refine aN (σ':=aE 31 [(3,_)] [] [] []) kp ?_
 refine ed rfl rfl rfl rfl rfl ?_
 iterate 5 refine cK rfl rfl rfl rfl rfl ?_
 exact zG rfl rfl rfl rfl rfl (am (be rfl (aj (aG (fq rfl rfl)))))
theorem xO:Spec Tryz.prog 106 (ba [.v (.int .i64 22)] []) (aP (.v (.int .i64 1)) []):=by
 refine Spec.ofN Tryz.func106 rfl Tryz.ntmps106 rfl ?_
 refine am (be rfl (aj (aq (am (aX rfl (aj (ay (aq ?_))))))))
 iterate 7 refine cK rfl rfl rfl rfl rfl ?_
 refine aN (σ':=aE 31 [(3,_)] [] [] []) kp ?_
 refine ed rfl rfl rfl rfl rfl (aq ?_)
 iterate 5 refine cK rfl rfl rfl rfl rfl ?_
 exact zG rfl rfl rfl rfl rfl (am (be rfl (aj (aG (fq rfl rfl)))))
theorem zf:Spec Tryz.prog 106 (ba [.v (.int .i64 23)] []) (aP (.v (.int .i64 0)) []):=by
 refine Spec.ofN Tryz.func106 rfl Tryz.ntmps106 rfl ?_
 refine am (be rfl (aj (aq (am (aX rfl (aj (ay (aq ?_))))))))
 iterate 7 refine cK rfl rfl rfl rfl rfl ?_
 refine aN (σ':=aE 31 [(3,_)] [] [] []) kp ?_
 exact zG rfl rfl rfl rfl rfl (am (be rfl (aj (aG (fq rfl rfl)))))
theorem rR (o:Opc):Spec Tryz.prog 106 (ba [.v (.int .i64 (o.num:Int))] []) (aP (.v (.int .i64 (o.pops:Int))) []):=by
 cases o
 ·exact xL
 ·exact zR
 ·exact uD
 ·exact zg
 ·exact ym
 ·exact Bl
 ·exact Bi
 ·exact Ch
 ·exact AW
 ·exact BS
 ·exact Ej
 ·exact FK
 ·exact FL
 ·exact Di
 ·exact yF
 ·exact CW
 ·exact yL
 ·exact vC
 ·exact vf
 ·exact yo
 ·exact wv
 ·exact xO
 exact zf
theorem yn:Spec Tryz.prog 107 (ba [.v (.int .i64 1)] []) (aP (.v (.int .i64 1)) []):=by
 refine Spec.ofN Tryz.func107 rfl Tryz.ntmps107 rfl ?_
 refine am (be rfl (aj (aq (am (aX rfl (aj (ay (aq (iE rfl rfl rfl rfl rfl (aS ?_))))))))))
 exact bL rfl rfl (am (be rfl (aj (aG (fq rfl rfl)))))
theorem CD:Spec Tryz.prog 107 (ba [.v (.int .i64 2)] []) (aP (.v (.int .i64 1)) []):=by
 refine Spec.ofN Tryz.func107 rfl Tryz.ntmps107 rfl ?_
 refine am (be rfl (aj (aq (am (aX rfl (aj (ay (aq (cK rfl rfl rfl rfl rfl (iE rfl rfl rfl rfl rfl ?_))))))))))
 exact aS (bL rfl rfl (am (be rfl (aj (aG (fq rfl rfl))))))
theorem vj:Spec Tryz.prog 107 (ba [.v (.int .i64 3)] []) (aP (.v (.int .i64 0)) []):=by
 refine Spec.ofN Tryz.func107 rfl Tryz.ntmps107 rfl ?_
 refine am (be rfl (aj (aq (am (aX rfl (aj (ay (aq ?_))))))))
 iterate 7 refine cK rfl rfl rfl rfl rfl ?_
 refine aq ?_
 refine aN (σ':=aE 18 [(3,_)] [] [] []) kp ?_
 refine ed rfl rfl rfl rfl rfl ?_
 iterate 4 refine cK rfl rfl rfl rfl rfl ?_
 exact ed rfl rfl rfl rfl rfl (cw (am (be rfl (aj (aG (fq rfl rfl))))))
theorem yk:Spec Tryz.prog 107 (ba [.v (.int .i64 4)] []) (aP (.v (.int .i64 1)) []):=by
 refine Spec.ofN Tryz.func107 rfl Tryz.ntmps107 rfl ?_
 refine am (be rfl (aj (aq (am (aX rfl (aj (ay (aq ?_))))))))
 iterate 2 refine cK rfl rfl rfl rfl rfl ?_
 exact iE rfl rfl rfl rfl rfl (aS (bL rfl rfl (am (be rfl (aj (aG (fq rfl rfl)))))))
theorem xP:Spec Tryz.prog 107 (ba [.v (.int .i64 5)] []) (aP (.v (.int .i64 1)) []):=by
 refine Spec.ofN Tryz.func107 rfl Tryz.ntmps107 rfl ?_
 refine am (be rfl (aj (aq (am (aX rfl (aj (ay (aq ?_))))))))
 iterate 3 refine cK rfl rfl rfl rfl rfl ?_
 exact iE rfl rfl rfl rfl rfl (aS (bL rfl rfl (am (be rfl (aj (aG (fq rfl rfl)))))))
theorem Ao:Spec Tryz.prog 107 (ba [.v (.int .i64 6)] []) (aP (.v (.int .i64 1)) []):=by
 refine Spec.ofN Tryz.func107 rfl Tryz.ntmps107 rfl ?_
 refine am (be rfl (aj (aq (am (aX rfl (aj (ay (aq ?_))))))))
 iterate 6 refine cK rfl rfl rfl rfl rfl ?_
 refine iE rfl rfl rfl rfl rfl (aS (bL rfl rfl (aq ?_)))
 refine aN (σ':=aE 18 [] [] [] []) kp ?_
 exact an (be rfl (aj (aG (fq rfl rfl))))
theorem Bz:Spec Tryz.prog 107 (ba [.v (.int .i64 7)] []) (aP (.v (.int .i64 1)) []):=by
 refine Spec.ofN Tryz.func107 rfl Tryz.ntmps107 rfl ?_
 refine am (be rfl (aj (aq (am (aX rfl (aj (ay (aq ?_))))))))
 iterate 7 refine cK rfl rfl rfl rfl rfl ?_
 refine aq ?_
 refine aN (σ':=aE 18 [(3,_)] [] [] []) kp ?_
 exact zG rfl rfl rfl rfl rfl (aS (bL rfl rfl (am (be rfl (aj (aG (fq rfl rfl)))))))
theorem Ay:Spec Tryz.prog 107 (ba [.v (.int .i64 8)] []) (aP (.v (.int .i64 1)) []):=by
 refine Spec.ofN Tryz.func107 rfl Tryz.ntmps107 rfl ?_
 refine am (be rfl (aj (aq (am (aX rfl (aj (ay (aq ?_))))))))
 iterate 7 refine cK rfl rfl rfl rfl rfl ?_
 refine aq ?_
 refine aN (σ':=aE 18 [(3,_)] [] [] []) kp ?_
 exact ed rfl rfl rfl rfl rfl (iE rfl rfl rfl rfl rfl (aS (bL rfl rfl (am (be rfl (aj (aG (fq rfl rfl))))))))
theorem CM:Spec Tryz.prog 107 (ba [.v (.int .i64 9)] []) (aP (.v (.int .i64 1)) []):=by
 refine Spec.ofN Tryz.func107 rfl Tryz.ntmps107 rfl ?_
 refine am (be rfl (aj (aq (am (aX rfl (aj (ay (aq ?_))))))))
 iterate 7 refine cK rfl rfl rfl rfl rfl ?_
 refine aq ?_
 refine aN (σ':=aE 18 [(3,_)] [] [] []) kp ?_
 exact ed rfl rfl rfl rfl rfl (cK rfl rfl rfl rfl rfl (iE rfl rfl rfl rfl rfl (aS (bL rfl rfl (am (be rfl (aj (aG (fq rfl rfl)))))))))
theorem Bj:Spec Tryz.prog 107 (ba [.v (.int .i64 10)] []) (aP (.v (.int .i64 1)) []):=by
 refine Spec.ofN Tryz.func107 rfl Tryz.ntmps107 rfl ?_
 refine am (be rfl (aj (aq (am (aX rfl (aj (ay (aq ?_))))))))
 iterate 4 refine cK rfl rfl rfl rfl rfl ?_
 exact iE rfl rfl rfl rfl rfl (aS (bL rfl rfl (am (be rfl (aj (aG (fq rfl rfl)))))))
theorem Fm:Spec Tryz.prog 107 (ba [.v (.int .i64 11)] []) (aP (.v (.int .i64 1)) []):=by
 refine Spec.ofN Tryz.func107 rfl Tryz.ntmps107 rfl ?_
 refine am (be rfl (aj (aq (am (aX rfl (aj (ay (aq ?_))))))))
 iterate 7 refine cK rfl rfl rfl rfl rfl ?_
 refine aq ?_
 refine aN (σ':=aE 18 [(3,_)] [] [] []) kp ?_
 refine ed rfl rfl rfl rfl rfl ?_
 iterate 2 refine cK rfl rfl rfl rfl rfl ?_
 exact iE rfl rfl rfl rfl rfl (aS (bL rfl rfl (am (be rfl (aj (aG (fq rfl rfl)))))))
theorem Fy:Spec Tryz.prog 107 (ba [.v (.int .i64 12)] []) (aP (.v (.int .i64 1)) []):=by
 refine Spec.ofN Tryz.func107 rfl Tryz.ntmps107 rfl ?_
 refine am (be rfl (aj (aq (am (aX rfl (aj (ay (aq ?_))))))))
 iterate 7 refine cK rfl rfl rfl rfl rfl ?_
 refine aq ?_
 refine aN (σ':=aE 18 [(3,_)] [] [] []) kp ?_
 refine ed rfl rfl rfl rfl rfl ?_
 iterate 3 refine cK rfl rfl rfl rfl rfl ?_
 exact iE rfl rfl rfl rfl rfl (aS (bL rfl rfl (am (be rfl (aj (aG (fq rfl rfl)))))))
theorem Eo:Spec Tryz.prog 107 (ba [.v (.int .i64 13)] []) (aP (.v (.int .i64 1)) []):=by
 refine Spec.ofN Tryz.func107 rfl Tryz.ntmps107 rfl ?_
 refine am (be rfl (aj (aq (am (aX rfl (aj (ay (aq ?_))))))))
 iterate 7 refine cK rfl rfl rfl rfl rfl ?_
 refine aq ?_
 refine aN (σ':=aE 18 [(3,_)] [] [] []) kp ?_
 refine ed rfl rfl rfl rfl rfl ?_
 iterate 4 refine cK rfl rfl rfl rfl rfl ?_
 exact zG rfl rfl rfl rfl rfl (am (be rfl (aj (aG (fq rfl rfl)))))
theorem BZ:Spec Tryz.prog 107 (ba [.v (.int .i64 14)] []) (aP (.v (.int .i64 1)) []):=by
 refine Spec.ofN Tryz.func107 rfl Tryz.ntmps107 rfl ?_
 refine am (be rfl (aj (aq (am (aX rfl (aj (ay (aq ?_))))))))
 iterate 5 refine cK rfl rfl rfl rfl rfl ?_
 exact iE rfl rfl rfl rfl rfl (aS (bL rfl rfl (am (be rfl (aj (aG (fq rfl rfl)))))))
theorem yi:Spec Tryz.prog 107 (ba [.v (.int .i64 15)] []) (aP (.v (.int .i64 0)) []):=by
 refine Spec.ofN Tryz.func107 rfl Tryz.ntmps107 rfl ?_
 refine am (be rfl (aj (aq (am (aX rfl (aj (ay (aq ?_))))))))
 iterate 7 refine cK rfl rfl rfl rfl rfl ?_
 refine aq ?_
 refine aN (σ':=aE 18 [(3,_)] [] [] []) kp ?_
 refine ed rfl rfl rfl rfl rfl ?_
 iterate 4 refine cK rfl rfl rfl rfl rfl ?_
 exact ed rfl rfl rfl rfl rfl (cw (am (be rfl (aj (aG (fq rfl rfl))))))
theorem Ab:Spec Tryz.prog 107 (ba [.v (.int .i64 16)] []) (aP (.v (.int .i64 0)) []):=by
 refine Spec.ofN Tryz.func107 rfl Tryz.ntmps107 rfl ?_
 refine am (be rfl (aj (aq (am (aX rfl (aj (ay (aq ?_))))))))
 iterate 7 refine cK rfl rfl rfl rfl rfl ?_
 refine aq ?_
 refine aN (σ':=aE 18 [(3,_)] [] [] []) kp ?_
 refine ed rfl rfl rfl rfl rfl ?_
 iterate 4 refine cK rfl rfl rfl rfl rfl ?_
 exact ed rfl rfl rfl rfl rfl (cw (am (be rfl (aj (aG (fq rfl rfl))))))
theorem yj:Spec Tryz.prog 107 (ba [.v (.int .i64 17)] []) (aP (.v (.int .i64 0)) []):=by
 refine Spec.ofN Tryz.func107 rfl Tryz.ntmps107 rfl ?_
 refine am (be rfl (aj (aq (am (aX rfl (aj (ay (aq ?_))))))))
 iterate 7 refine cK rfl rfl rfl rfl rfl ?_
 refine aq ?_
 refine aN (σ':=aE 18 [(3,_)] [] [] []) kp ?_
 refine ed rfl rfl rfl rfl rfl ?_
 iterate 4 refine cK rfl rfl rfl rfl rfl ?_
 exact ed rfl rfl rfl rfl rfl (cw (am (be rfl (aj (aG (fq rfl rfl))))))
theorem wa:Spec Tryz.prog 107 (ba [.v (.int .i64 18)] []) (aP (.v (.int .i64 0)) []):=by
 refine Spec.ofN Tryz.func107 rfl Tryz.ntmps107 rfl ?_
 refine am (be rfl (aj (aq (am (aX rfl (aj (ay (aq ?_))))))))
 iterate 7 refine cK rfl rfl rfl rfl rfl ?_
 refine aq ?_
 refine aN (σ':=aE 18 [(3,_)] [] [] []) kp ?_
 refine ed rfl rfl rfl rfl rfl ?_
 iterate 4 refine cK rfl rfl rfl rfl rfl ?_
 exact ed rfl rfl rfl rfl rfl (cw (am (be rfl (aj (aG (fq rfl rfl))))))
theorem ue:Spec Tryz.prog 107 (ba [.v (.int .i64 19)] []) (aP (.v (.int .i64 0)) []):=by
 refine Spec.ofN Tryz.func107 rfl Tryz.ntmps107 rfl ?_
 refine am (be rfl (aj (aq (am (aX rfl (aj (ay (aq ?_))))))))
 iterate 7 refine cK rfl rfl rfl rfl rfl ?_
 refine aq ?_
 refine aN (σ':=aE 18 [(3,_)] [] [] []) kp ?_
 refine ed rfl rfl rfl rfl rfl ?_
 iterate 4 refine cK rfl rfl rfl rfl rfl ?_
 exact ed rfl rfl rfl rfl rfl (cw (am (be rfl (aj (aG (fq rfl rfl))))))
theorem yB:Spec Tryz.prog 107 (ba [.v (.int .i64 20)] []) (aP (.v (.int .i64 0)) []):=by
 refine Spec.ofN Tryz.func107 rfl Tryz.ntmps107 rfl ?_
 refine am (be rfl (aj (aq (am (aX rfl (aj (ay (aq ?_))))))))
 iterate 7 refine cK rfl rfl rfl rfl rfl ?_
 refine aq ?_
 refine aN (σ':=aE 18 [(3,_)] [] [] []) kp ?_
 refine ed rfl rfl rfl rfl rfl ?_
 iterate 4 refine cK rfl rfl rfl rfl rfl ?_
 exact ed rfl rfl rfl rfl rfl (cw (am (be rfl (aj (aG (fq rfl rfl))))))
theorem wM:Spec Tryz.prog 107 (ba [.v (.int .i64 21)] []) (aP (.v (.int .i64 0)) []):=by
 refine Spec.ofN Tryz.func107 rfl Tryz.ntmps107 rfl ?_
 refine am (be rfl (aj (aq (am (aX rfl (aj (ay (aq ?_))))))))
 iterate 7 refine cK rfl rfl rfl rfl rfl ?_
 refine aq ?_
 refine aN (σ':=aE 18 [(3,_)] [] [] []) kp ?_
 refine ed rfl rfl rfl rfl rfl ?_
 iterate 4 refine cK rfl rfl rfl rfl rfl ?_
 exact ed rfl rfl rfl rfl rfl (cw (am (be rfl (aj (aG (fq rfl rfl))))))
theorem zw:Spec Tryz.prog 107 (ba [.v (.int .i64 22)] []) (aP (.v (.int .i64 0)) []):=by
 refine Spec.ofN Tryz.func107 rfl Tryz.ntmps107 rfl ?_
 refine am (be rfl (aj (aq (am (aX rfl (aj (ay (aq ?_))))))))
 iterate 7 refine cK rfl rfl rfl rfl rfl ?_
 refine aq ?_
 refine aN (σ':=aE 18 [(3,_)] [] [] []) kp ?_
 refine ed rfl rfl rfl rfl rfl ?_
 iterate 4 refine cK rfl rfl rfl rfl rfl ?_
 exact ed rfl rfl rfl rfl rfl (cw (am (be rfl (aj (aG (fq rfl rfl))))))
theorem xQ:Spec Tryz.prog 107 (ba [.v (.int .i64 23)] []) (aP (.v (.int .i64 0)) []):=by
 refine Spec.ofN Tryz.func107 rfl Tryz.ntmps107 rfl ?_
 refine am (be rfl (aj (aq (am (aX rfl (aj (ay (aq ?_))))))))
 iterate 7 refine cK rfl rfl rfl rfl rfl ?_
 refine aq ?_
 refine aN (σ':=aE 18 [(3,_)] [] [] []) kp ?_
 refine ed rfl rfl rfl rfl rfl ?_
 iterate 4 refine cK rfl rfl rfl rfl rfl ?_
 exact ed rfl rfl rfl rfl rfl (cw (am (be rfl (aj (aG (fq rfl rfl))))))
theorem rS (o:Opc):Spec Tryz.prog 107 (ba [.v (.int .i64 (o.num:Int))] []) (aP (.v (.int .i64 (o.puts:Int))) []):=by
 cases o
 ·exact yn
 ·exact CD
 ·exact vj
 ·exact yk
 ·exact xP
 ·exact Ao
 ·exact Bz
 ·exact Ay
 ·exact CM
 ·exact Bj
 ·exact Fm
 ·exact Fy
 ·exact Eo
 ·exact BZ
 ·exact yi
 ·exact Ab
 ·exact yj
 ·exact wa
 ·exact ue
 ·exact yB
 ·exact wM
 ·exact zw
 exact xQ
theorem opn_stop {o:Opc}:(o.num:Int)=23↔o= .stop:=by cases o <;> simp [Opc.num]
theorem opn_jump {o:Opc}:(o.num:Int)=15↔o= .jump:=by cases o <;> simp [Opc.num]
theorem opn_unl {o:Opc}:(o.num:Int)=16↔o= .unl:=by cases o <;> simp [Opc.num]
theorem ze (C:List eR) (e:Nat→Int) (dd vv:Int) (i:Nat) (hC:C.length≤1000000) (hi:i < C.length) (hn:(da C i).op= .jump∨(da C i).op= .unl→0≤(da C i).n):
  Spec Tryz.prog 73 (ba [.agg (FD C.length (inl C) e dd vv), .v (.int .i64 (i:Int))] []) (aP (.sl (dR i (da C i)).length (Gn (dR i (da C i)))) []):=by
 obtain ⟨x,hx⟩: ∃ x,x=da C i:=⟨_,rfl⟩
 have hg0:=mX C i hi
 have hg1:=Dr C i hi
 rw [← hx] at hn hg0 hg1 ⊢
 clear hx
 obtain ⟨o,n⟩:=x
 simp only at hn hg0 hg1
 refine Spec.ofN Tryz.func73 rfl Tryz.ntmps73 rfl ?_
 refine am (ai (aQ (2,0) _ rfl rfl) (ai (bq _ fA) (aj (aq (am (bb rfl rfl rfl (fb rfl rfl rfl (aX rfl (ai (bo _ _ aa rfl rfl _ rfl ab (by (simp only [aL,bf,bh,bw,bv,bH,bz,bP,eH];omega)) ag) ?_)))))))))
 refine ai (cU _ aa rfl rfl) (ai (bO _ aa rfl (by exact hg0) rfl) ?_)
 refine aj (ay (am (ai (bB _ _ rfl rfl rfl) (cp rfl (aj (aR rfl (fun hc11=> ?_) (fun hc11=> ?_)))))))
 ·skip
  obtain rfl:=opn_stop.1 hc11
  exact am (ai (bq _ fA) (aj (aG (bI (.inr rfl) rfl (.tmp kN) (Le.out [] [] .nil rfl rfl rfl trivial trivial)))))
 refine am (ai (bB _ _ rfl rfl rfl) (cp rfl (aj (aR rfl (fun hc13=> ?_) (fun hc13=> ?_)))))
 ·skip
  obtain rfl:=opn_jump.1 hc13
  have hn:=hn (.inl rfl)
  refine am (bb rfl rfl rfl (fb rfl rfl rfl (aX rfl (ai (bo _ _ aa rfl rfl _ rfl ab (by (simp only [aL,bf,bh,bw,bv,bH,bz,bP,eH];omega)) ag) ?_))))
  refine ai (cU _ aa rfl rfl) (ai (bO _ aa rfl (by exact hg1) rfl) ?_)
  refine ai (bi _ _ aa rfl ag (by (simp <;> rfl)) ah rfl) ?_
  exact kE rfl (aj (aG (bI (.inr rfl) rfl (.tmp mm) (Le.out [] [] (iY rfl (by simp [Gn,dR,Int.toNat_of_nonneg hn])) rfl rfl rfl trivial trivial))))
 refine am (ai (bB _ _ rfl rfl rfl) (cp rfl (aj (aR rfl (fun hc22=> ?_) (fun hc22=> ?_)))))
 ·skip
  obtain rfl:=opn_unl.1 hc22
  have hn:=hn (.inr rfl)
  refine am (aX rfl (ai (aZ _ _ rfl rfl (bF ab)) ?_))
  refine bb rfl rfl rfl (fb rfl rfl rfl (aX rfl (ai (bo _ _ aa rfl rfl _ rfl ab (by (simp only [aL,bf,bh,bw,bv,bH,bz,bP,eH];omega)) ag) ?_)))
  refine ai (cU _ aa rfl rfl) (ai (bO _ aa rfl (by exact hg1) rfl) ?_)
  refine ai (bi _ _ aa rfl ag (by (simp <;> rfl)) ah rfl) ?_
  exact kE rfl (aj (aG (bI (.inr rfl) rfl (.tmp mm) (Le.out [] [] (iY rfl (by simp [Gn,dR,Int.toNat_of_nonneg hn])) rfl rfl rfl trivial trivial))))
 have hs:dR i ⟨o,n⟩=[i+1]:=by
  unfold dR
  have h1:o≠ .stop:=fun e=> hc11 (opn_stop.2 e)
  have h2:o≠ .jump:=fun e=> hc13 (opn_jump.2 e)
  have h3:o≠ .unl:=fun e=> hc22 (opn_unl.2 e)
  cases o <;> first | rfl | exact absurd rfl h1 | exact absurd rfl h2 | exact absurd rfl h3
 refine cw (am (aX rfl (ai (aZ _ _ rfl rfl (bF ab)) ?_)))
 refine ai (bi _ _ aa rfl ag (by (simp <;> rfl)) ah rfl) ?_
 refine kE rfl (aj (aG ?_))
 rw [hs]
 exact bI (.inr rfl) rfl (.tmp mm) (Le.out [] [] (iY rfl (by simp [Gn])) rfl rfl rfl trivial trivial)
instance Rf:Arr Tryz.prog 24 40 1:=Arr.of Tryz.underlying24 ae
instance Qx:Arr Tryz.prog 30 9 1:=Arr.of Tryz.underlying30 ae
instance Qj:Arr Tryz.prog 81 41 1:=Arr.of Tryz.underlying81 ae
instance NF:Arr Tryz.prog 173 24 1:=Arr.of Tryz.underlying173 ae

theorem ik {l:List Int} {i:Nat} (h:i < l.length):l.getD i (-1)=l.getD i 0:=by
 rw [List.getD_eq_getElem?_getD,List.getD_eq_getElem?_getD,List.getElem?_eq_getElem h];rfl
theorem wu {n:Nat} {d:Int} {s:DS} {l:List Nat} {k:Nat} (h:k < l.length):(l.take (k+1)).foldl (jB n d) s=jB n d ((l.take k).foldl (jB n d) s) (l.getD k 0):=by
 rw [List.take_succ_eq_append_getElem h,List.foldl_append,List.getD_eq_getElem?_getD,List.getElem?_eq_getElem h];rfl
theorem Gg (n k:Nat) (h:k < n):((List.replicate k (-1:Int))++List.replicate (n - k) 0).set k (-1)=List.replicate (k+1) (-1)++List.replicate (n - (k+1)) 0:=by
 rw [List.set_append_right _ _ (by simp),List.length_replicate,Nat.sub_self,show n - k=(n - (k+1))+1 by omega,List.replicate_succ,List.set_cons_zero,show List.replicate (k+1) (-1:Int)=List.replicate k (-1)++[-1] from List.replicate_succ']
 simp
theorem CH {ρ:aB→aB} {σ:St} {F:aB→Bool} {id:aB} {e:TypeId} {sz n m:Nat} {xs ys:List PV} (hid:σ.ob id= .obj (.row e sz xs)) (hF:F id=true) (hl:n*sz=xs.length) (hy:xs=ys) (hn:n=m):Lv ρ σ F (.sl m ys) (.ref id 0 n):=by
 subst hn;exact fe hid hF hl hy
theorem DI.flag {D:Nat→Nat} {n:Nat} {s:DS} {b:Bool} (h:DI D n s):DI D n (s.1,s.2.1,b):=⟨h.len,h.val,h.ok⟩
def zp (C:List eR) (R:List Int×Bool) (z:(List Int×Bool)×Bool):Prop:=if z.2=true then ∃ f,neg z.1.1+1≤f∧jJ C f z.1=R else z.1=R
theorem ye {C:List eR} {R:List Int×Bool} {s:List Int×Bool} {f:Nat} (hf:neg s.1+1≤f) (hR:jJ C f s=R) (hd:(dz C s C.length).2.2=true→neg (dz C s C.length).1 < neg s.1):
  zp C R (((dz C s C.length).1,(dz C s C.length).2.1),(dz C s C.length).2.2):=by
 obtain ⟨g,rfl⟩: ∃ g,f=g+1:=⟨f - 1,by omega⟩
 unfold zp
 cases hb:(dz C s C.length).2.2 with
 | true=>
  have:=hd hb
  rw [if_pos rfl]
  exact ⟨g,by simp only;omega,by rw [← hR,wL hb]⟩
 | false=> rw [if_neg (by simp)];rw [← hR,wp hb]
def KL (z:(List Int×Bool)×Bool):Nat:=if z.2=true then neg z.1.1+1 else 0
theorem IB {C:List eR} {s:List Int×Bool} (hd:(dz C s C.length).2.2=true→neg (dz C s C.length).1 < neg s.1):KL (((dz C s C.length).1,(dz C s C.length).2.1),(dz C s C.length).2.2) < neg s.1+1:=by
 unfold KL
 simp only
 split
 ·rename_i h;have:=hd h;omega
 omega
theorem xT {C:List eR} {s:DS} {i:Nat} (h:s.1.getD i (-1) < 0):lJ C s i=s:=by unfold lJ;rw [if_pos h]
theorem Am {C:List eR} {s:DS} {i:Nat} (h: ¬ s.1.getD i (-1) < 0) (h2: ¬ s.1.getD i (-1) - (da C i).op.pops < 0):lJ C s i=(dR i (da C i)).foldl (jB C.length (s.1.getD i (-1) - (da C i).op.pops+(da C i).op.puts)) s:=by
 unfold lJ Er
 rw [if_neg h,if_neg h2,show max (s.1.getD i (-1) - (da C i).op.pops) 0=s.1.getD i (-1) - (da C i).op.pops by omega]
theorem vg (C:List eR) (en:Nat→Int) (dd vv:Int) (e:Int) (hC:C.length≤1000000) (D:Nat→Nat) (nv:Nat) (hg:Good D nv 0 (C.length - 1) 0 C) (hD: ∀ i,D i≤1000000) (he:0≤e→e < C.length→D e.toNat=0):
  Spec Tryz.prog 72 (ba [.agg (FD C.length (inl C) en dd vv), .v (.int .i64 e)] []) (aP (.tup [.sl (jv C e).1.length (cu (jv C e).1), .v (.bool (jv C e).2)]) []):=by
 refine Spec.ofN Tryz.func72 rfl Tryz.ntmps72 rfl ?_
 refine am (ai (aQ (2,0) _ rfl rfl) (ai (bq _ fA) (cp rfl (aj (am (bb rfl rfl rfl (fb rfl rfl rfl (ai (bp _ aa rfl) (ai (pX (17,0) _ _ aa rfl rfl C.length rfl rfl ab rfl (ow C.length)) ?_)))))))))
 refine fh rfl (aj (aU fun K3 hK3=> ?_))
 refine am (be rfl (aj (ay ?_)))
 refine bu (α:=Nat) (fun k=> k≤C.length) 123 [(1,_),(2,_)] [((2,0),_)] (fun k=> [(7, .v (.int .i64 (k:Int))),(6, .ref (6,0) 0 C.length)]) (fun k=> [((6,0), .row 3 1 (cu (List.replicate k (-1)++List.replicate (C.length - k) 0)))]) [] [] (fun k=> C.length - k) 0 ?_ (by
  refine Le.mkJ [((6,0),(17,0))] [] rfl ?_ ?_ trivial trivial ?_
  ·exact ⟨(by repeat' (exact Lv.v)),(dH (id:=(2,0)) rfl),(cr ag),(cP rfl ag),trivial⟩
  ·exact ⟨(fi rfl rfl rfl rfl (by repeat' (first | exact Lv.v | exact Lv.sl | exact bg | refine au ?_ ?_))),(fg rfl rfl rfl ag),trivial⟩
  kernel_rfl) ?_
 ·omega
 intro k hk
 have hll:(List.replicate k (-1:Int)++List.replicate (C.length - k) 0).length=C.length:=by simp;omega
 refine aU fun K5 hK5=> ?_
 refine am (aX rfl (gK rfl (ai (dg _ aa rfl rfl) (ai (bn _ _ rfl rfl rfl) (aj (aR rfl (fun hc21=> ?_) (fun hc21=> ?_)))))))
 ·skip
  have hrs:=Gg C.length k ab
  refine br (hK5 _ ?_)
  clear hK5;try clear K5
  refine aq (ay (an (gK rfl (aX rfl (ai (gC _ _ aa rfl rfl rfl _ rfl ab (by exact (Nat.zero_add _).trans (Nat.mul_one _))) ?_)))))
  refine ai (od _ _ aa rfl rfl rfl rfl rfl (by simp;omega) ((ma _ _ _ ab).trans (congrArg cu hrs))) ?_
  refine dY (an (aX rfl (ai (aZ _ _ rfl rfl (bF ab)) ?_)))
  refine be rfl (aJ (⟨k+1,?_,?_,?_⟩))
  ·omega
  ·skip
   refine Le.mkJ [] [] rfl ?_ ?_ trivial trivial ?_
   ·exact ⟨(iV rfl),(iP rfl),(cr ag),(cP rfl ag),trivial⟩
   ·exact ⟨(cm rfl rfl rfl),(fg rfl rfl rfl ag),trivial⟩
   kernel_rfl
  omega
 obtain rfl:k=C.length:=by omega
 have hrep:List.replicate C.length (-1:Int)++List.replicate (C.length - C.length) 0=List.replicate C.length (-1):=by simp
 refine bD (id (hK3 _ ?_))
 clear hK3;try clear K3
 refine aq (am (aX rfl (ai (bn _ _ rfl rfl rfl) (cM rfl (dw (fun hg29=> ?_) (fun hg29=> ?_))))))
 ·skip
  have hdf:jv C e=(List.replicate C.length (-1),true):=if_pos (.inl ab)
  refine aO rfl rfl ah ?_
  refine aO rfl rfl ah ?_
  refine aO rfl rfl ah ?_
  refine aO rfl rfl ah ?_
  refine ai (aC _ _ _ rfl bN) (aj (bL rfl rfl (am (gK rfl (fh rfl (cp rfl (aj (aG ?_))))))))
  rw [hdf]
  exact jT (.inr rfl) rfl (.tmp dV) (.tmp bN) (Le.out [] [(6,0)] (.tup rfl (au (CH rfl rfl (by simp) (congrArg cu hrep) (by simp)) lz)) rfl rfl rfl tr trivial)
 refine ax rfl rfl (aH _ ek) (ax rfl rfl (aH _ dV) (ax rfl rfl (dg _ aa rfl rfl) (ax rfl rfl (ft _ _ rfl rfl rfl) (ai (aC _ _ _ rfl bN) (aj (aR rfl (fun hc34=> ?_) (fun hc34=> ?_)))))))
 ·skip
  have hdf:jv C e=(List.replicate C.length (-1),true):=if_pos (.inr ab)
  refine am (gK rfl (fh rfl (cp rfl (aj (aG ?_)))))
  rw [hdf]
  exact jT (.inr rfl) rfl (.tmp dV) (.tmp bN) (Le.out [] [(6,0)] (.tup rfl (au (CH rfl rfl (by simp) (congrArg cu hrep) (by simp)) lz)) rfl rfl rfl tr trivial)
 have hdf:jv C e=jJ C (C.length+1) ((List.replicate C.length (-1)).set e.toNat 0,true):=if_neg ab
 have hdi0:DI D C.length ((List.replicate C.length (-1)).set e.toNat 0,true,false):=by
  have hr: ∀ i,(List.replicate C.length (-1:Int)).getD i (-1)= -1:=fun i=> by rw [List.getD_eq_getElem?_getD,List.getElem?_replicate];split <;> rfl
  refine ⟨by simp,fun i hi=> ?_,rfl⟩
  simp only
  rw [ku]
  split
  ·rename_i h;right;rw [h.1,he ab ab];rfl
  exact .inl (hr i)
 have hn0:neg ((List.replicate C.length (-1)).set e.toNat 0)≤C.length:=by
  have:=List.countP_le_length (p:=fun x:Int=> decide (x < 0)) (l:=(List.replicate C.length (-1:Int)).set e.toNat 0)
  simpa [neg] using this
 obtain ⟨R,hR⟩: ∃ R,R=jv C e:=⟨_,rfl⟩
 rw [← hR] at hdf
 refine aS (am (gK rfl (aX rfl (ai (gC _ _ aa rfl rfl rfl e.toNat ab ab (by exact (Nat.zero_add _).trans (Nat.mul_one _))) ?_))))
 refine ai (od _ _ aa rfl rfl rfl rfl rfl (by simp;omega) ((ma _ _ _ (by simp;omega)).trans (congrArg (fun l=> cu (List.set l e.toNat 0)) hrep))) ?_
 refine aj (aq ?_)
 refine aN (σ':=aE 123 [(2,_),(6,_)] [((2,0),_),((6,0),_)] [] []) kp ?_
 refine an (cp rfl (aj (aU fun K14 hK14=> ?_)))
 refine am (cp rfl (aj (ay ?_)))
 refine bu (α:=(List Int×Bool)×Bool) (fun z=> DI D C.length (z.1.1,z.1.2,false)∧zp C R z) 123 [(2,_),(6,_)] [((2,0),_)] (fun z=> [(8, .v (.bool z.1.2)),(9, .v (.bool z.2))]) (fun z=> [((6,0), .row 3 1 (cu z.1.1))]) [] [] (fun z=> KL z) (((List.replicate C.length (-1)).set e.toNat 0,true),true) ?_ (by
  refine Le.mkJ [] [] rfl ?_ ?_ trivial trivial ?_
  ·exact ⟨(iP rfl),(iR rfl),(mz ag),(mz ag),trivial⟩
  ·exact ⟨(cm rfl rfl rfl),(fg rfl rfl rfl ag),trivial⟩
  kernel_rfl) ?_
 ·exact ⟨hdi0,by unfold zp;rw [if_pos rfl];exact ⟨C.length+1,by simp only;omega,hdf.symm⟩⟩
 intro z hz
 obtain ⟨s,ch⟩:=z
 obtain ⟨hdi,hz⟩:=hz
 simp only at hdi hz ⊢
 refine aU fun K16 hK16=> ?_
 refine am (cM rfl (aj (aR rfl (fun hc39=> ?_) (fun hc39=> ?_))))
 ·skip
  obtain ⟨f,hf1,hf2⟩: ∃ f,neg s.1+1≤f∧jJ C f s=R:=by
   unfold zp at hz
   rwa [if_pos hc39] at hz
  have hpd:=(lB hg hdi C.length (Nat.le_refl _)).2.2
  refine br (hK16 _ ?_)
  clear hK16;try clear K16
  refine ay (am (cp rfl (aj (am (be rfl (aj (ay ?_)))))))
  refine bu (α:=Nat) (fun i=> i≤C.length) 123 [(2,_),(6,_)] [((2,0),_)] (fun i=> [(10, .v (.int .i64 (i:Int))),(8, .v (.bool (dz C s i).2.1)),(9, .v (.bool (dz C s i).2.2))]) (fun i=> [((6,0), .row 3 1 (cu (dz C s i).1))]) [] [] (fun i=> C.length - i) 0 ?_ (by
   refine Le.mkJ [] [] rfl ?_ ?_ trivial trivial ?_
   ·exact ⟨(iP rfl),(iR rfl),(cr ag),(mz ag),(mz ag),trivial⟩
   ·exact ⟨(cm rfl rfl rfl),(fg rfl rfl rfl ag),trivial⟩
   kernel_rfl) ?_
  ·omega
  intro i hi
  have hw:=(lB hg hdi i hi).1
  have hps:=pW C s i
  have hwl:=hw.len
  refine aU fun K20 hK20=> ?_
  refine am (aX rfl (gK rfl (ai (dg _ aa rfl rfl) (ai (bn _ _ rfl rfl rfl) (aj (aR rfl (fun hc43=> ?_) (fun hc43=> ?_)))))))
  ·skip
   have hdn:=(lB hg hdi (i+1) ab).1
   have hvi:=hw.val i ab
   generalize dz C s i=w at hw hps hwl hvi
   rw [ik ab] at hvi
   obtain ⟨hins,hpop,hsuc⟩:=hg i (da C i) (by unfold da;rw [List.getD_eq_getElem?_getD,List.getElem?_eq_getElem ab];rfl)
   rw [Nat.zero_add] at hpop hsuc
   have hDi:=hD i
   refine br (hK20 _ ?_)
   clear hK20;try clear K20
   refine aU fun K22 hK22=> ?_
   refine ay (aq (am (gK rfl (aX rfl (ai (gC _ _ aa rfl rfl rfl _ rfl ab (by exact (Nat.zero_add _).trans (Nat.mul_one _))) ?_)))))
   refine ai (mP _ aa rfl rfl (by exact ef _ _ ab) rfl) ?_
   refine ai (bn _ _ rfl rfl rfl) (aj (aR rfl (fun hc50=> ?_) (fun hc50=> ?_)))
   ·skip
    rw [xT (by rw [ik ab];omega)] at hps
    refine bD (id (hK22 _ ?_))
    clear hK22;try clear K22
    refine an (aX rfl (ai (aZ _ _ rfl rfl (bF ab)) ?_))
    refine be rfl (aJ (⟨i+1,?_,?_,?_⟩))
    ·omega
    ·skip
     refine Le.mkJ [] [] rfl ?_ ?_ trivial trivial ?_
     ·exact ⟨(iP rfl),(iR rfl),(cr ag),(mz (by (rw [hps]))),(mz (by (rw [hps]))),trivial⟩
     ·exact ⟨(cm rfl rfl rfl),(fg rfl rfl rfl (by (rw [hps]))),trivial⟩
     kernel_rfl
    omega
   have hvD:=hvi.resolve_left ab
   have hgo:=Am (C:=C) (s:=w) (i:=i) (by rw [ik ab];omega) (by rw [ik ab];omega)
   rw [ik ab,hvD] at hgo
   rw [hgo] at hps
   obtain ⟨L,hL⟩: ∃ L,L=dR i (da C i):=⟨_,rfl⟩
   have hLl:L.length≤2:=by rw [hL];unfold dR;split <;> simp
   have hnn:(da C i).op= .jump∨(da C i).op= .unl→0≤(da C i).n:=by
    unfold dh at hins
    rintro (e | e) <;> rw [e] at hins <;> exact hins
   have hnx:=ze C en dd vv i hC ab hnn
   rw [← hL] at hps hsuc hnx
   have hpp:=rR (da C i).op
   have hpq:=rS (da C i).op
   have hp3:(da C i).op.pops≤3:=by generalize (da C i).op=o;cases o <;> decide
   have hp4:(da C i).op.puts≤1:=by generalize (da C i).op=o;cases o <;> decide
   refine aS (aq ?_)
   refine aN (σ':=aE 123 [(2,_),(6,_),(8,_),(9,_),(10,_)] [((2,0),_),((6,0),_)] [] []) kp ?_
   refine bK 13 [51,52,53,54,55,56,57,58,59,60,61,62,11] [] ae ae rfl (aK rfl) (rfl:_=[_,_,_,_,_,_,_,_,_,_,_,_,_]) (rfl:_=[]) ?_
   refine ap (_,[]) (fun τ=> aH _ dV) ?_
   refine fB rfl ?_
   refine ap (_,[]) (fun τ=> aH _ ek) ?_
   refine fH rfl ?_
   refine ap (_,[]) (fun τ=> gC _ _ aa rfl rfl rfl _ rfl ab (by exact (Nat.zero_add _).trans (Nat.mul_one _))) ?_
   refine fQ rfl ?_
   refine ap (_,[]) (fun τ=> mP _ aa rfl rfl (by exact ef _ _ ab) rfl) ?_
   refine fV rfl ?_
   refine ap (_,[]) (fun τ=> aA _ aa rfl rfl rfl) ?_
   refine gd rfl ?_
   refine ap (_,[]) (fun τ=> aF _ aa rfl rfl eI) ?_
   refine gV rfl ?_
   refine ap (_,[]) (fun τ=> aH _ ek) ?_
   refine iG rfl ?_
   refine ap (_,[]) (fun τ=> bo _ _ aa rfl rfl _ rfl ab (by (simp only [aL,bf,bh,bw,bv,bH,bz,bP,eH,aL];omega)) ag) ?_
   refine jO rfl ?_
   refine ap (_,[]) (fun τ=> cU _ aa rfl rfl) ?_
   refine jW rfl ?_
   refine ap (_,[]) (fun τ=> bO _ aa rfl (by exact mX C i ab) rfl) ?_
   refine fE rfl ?_
   refine ap (_,[]) (fun τ=> (aI aa al (hpp) rfl rfl)) ?_
   refine gf rfl ?_
   refine ap (_,[]) (fun τ=> kR _ _ rfl rfl (bF (by rw [hvD];omega))) ?_
   refine jV rfl ?_
   refine ap (_,[]) (fun τ=> bq _ ek) ?_
   refine li rfl (bl ⟨rfl,?_⟩)
   refine aj (aq (am (aX rfl (ai (bn _ _ rfl rfl rfl) (aj (aW rfl (decide_eq_false (by rw [hvD];omega)) ?_))))))
   refine aS (aq ?_)
   refine aN (σ':=aE 123 [(2,_),(6,_),(8,_),(9,_),(10,_),(11,_)] [((2,0),_),((6,0),_)] [] []) kp ?_
   refine an (aX rfl (bb rfl rfl rfl (fb rfl rfl rfl (aX rfl (ai (bo _ _ aa rfl rfl _ rfl ab (by (simp only [aL,bf,bh,bw,bv,bH,bz,bP,eH,aL];omega)) ag) ?_)))))
   refine ai (cU _ aa rfl rfl) (ai (bO _ aa rfl (by exact mX C i ab) rfl) ?_)
   refine ai (aI aa al (hpq) rfl rfl) ?_
   refine ai (aZ _ _ rfl rfl (bF (by rw [hvD];omega))) ?_
   refine be rfl (aj (am (ai (az _ aa rfl rfl rfl rfl) (aX rfl (ai (aI aa al (hnx) rfl rfl) ?_)))))
   refine kE rfl (aj (am (be rfl (aj (ay ?_)))))
   refine bu (α:=Nat) (fun k=> k≤L.length) 123 [(2,_),(6,_),(10,_),(12,_)] [((2,0),_)] (fun k=> [(13, .v (.int .i64 (k:Int))),(11, .v (.int .i64 ((D i:Int) - (da C i).op.pops+(da C i).op.puts))),(8, .v (.bool ((L.take k).foldl (jB C.length ((D i:Int) - (da C i).op.pops+(da C i).op.puts)) w).2.1)),(9, .v (.bool ((L.take k).foldl (jB C.length ((D i:Int) - (da C i).op.pops+(da C i).op.puts)) w).2.2))]) (fun k=> [((6,0), .row 3 1 (cu ((L.take k).foldl (jB C.length ((D i:Int) - (da C i).op.pops+(da C i).op.puts)) w).1))]) [] [] (fun k=> L.length - k) 0 ?_ (by
    refine Le.mkJ [] [] rfl ?_ ?_ trivial trivial ?_
    ·exact ⟨(iP rfl),(iR rfl),(iV rfl),(iS rfl),(cr ag),(cr (by rw [hvD])),(mz ag),(mz ag),trivial⟩
    ·exact ⟨(cm rfl rfl rfl),(fg rfl rfl rfl ag),trivial⟩
    kernel_rfl) ?_
   ·omega
   intro k hk
   have hwd: ∀ j∈L,(D i:Int) - (da C i).op.pops+(da C i).op.puts=(D j:Int):=fun j hj=> by have:=(hsuc j hj).2.2;omega
   have hu:=(nJ (L.take k) hw (fun j hj=> hwd j (List.mem_of_mem_take hj))).1
   have hul:=hu.len
   refine aU fun K31 hK31=> ?_
   refine am (aX rfl (eV rfl (ai (bp _ aa rfl) (ai (bn _ _ rfl rfl rfl) (aj (aR rfl (fun hc80=> ?_) (fun hc80=> ?_)))))))
   ·skip
    have hfs:=wu (n:=C.length) (d:=(D i:Int) - (da C i).op.pops+(da C i).op.puts) (s:=w) (l:=L) (k:=k) ab
    have hu1:=(nJ (L.take (k+1)) hw (fun j hj=> hwd j (List.mem_of_mem_take hj))).1.len
    obtain ⟨j,hj⟩: ∃ j,j=L.getD k 0:=⟨_,rfl⟩
    have hjm:j∈L:=by rw [hj,List.getD_eq_getElem?_getD,List.getElem?_eq_getElem ab];exact List.getElem_mem ab
    obtain ⟨hj1,hj2,_⟩:=hsuc j hjm
    have hjn:j < C.length:=by omega
    have hwj:=hwd j hjm
    have hnk:=Ei L k ab
    rw [← hj] at hfs hnk
    have huv:=hu.val j hjn
    rw [ik ab] at huv
    generalize (L.take k).foldl (jB C.length ((D i:Int) - (da C i).op.pops+(da C i).op.puts)) w=u at hu hul hfs huv
    refine br (hK31 _ ?_)
    clear hK31;try clear K31
    refine aq (ay (aq (am (eV rfl (aX rfl (ai (bo _ _ aa rfl rfl _ rfl ab (by (simp only [aL,bf,bh,bw,bv,bH,bz,bP,eH,aL];omega)) (by exact Nat.mul_one _)) ?_))))))
    refine ai (bO _ aa rfl (by exact hnk) rfl) ?_
    refine ai (bn _ _ rfl rfl rfl) (cM rfl (dw (fun hg88=> ?_) (fun hg88=> ?_)))
    ·skip
     exact absurd hg88 ab
    refine ax rfl rfl (aH _ mm) (ax rfl rfl (aH _ ek) (ax rfl rfl (bo _ _ aa rfl rfl _ rfl ab (by (simp only [aL,bf,bh,bw,bv,bH,bz,bP,eH,aL];omega)) (by exact Nat.mul_one _)) ?_))
    refine ax rfl rfl (bO _ aa rfl (by exact hnk) rfl) ?_
    refine ax rfl rfl (aH _ dV) (ax rfl rfl (dg _ aa rfl rfl) (ax rfl rfl (ft _ _ rfl rfl rfl) (ai (aC _ _ _ rfl bN) (aj (aW rfl (decide_eq_false ab) ?_)))))
    refine aS (aq ?_)
    refine aN (σ':=aE 123 [(2,_),(6,_),(8,_),(9,_),(10,_),(11,_),(12,_),(13,_)] [((2,0),_),((6,0),_)] [] []) kp ?_
    refine an (gK rfl (eV rfl (aX rfl (ai (bo _ _ aa rfl rfl _ rfl ab (by (simp only [aL,bf,bh,bw,bv,bH,bz,bP,eH,aL];omega)) (by exact Nat.mul_one _)) ?_))))
    refine ai (bO _ aa rfl (by exact hnk) rfl) ?_
    refine ai (gC _ _ aa rfl rfl rfl _ rfl ab (by exact (Nat.zero_add _).trans (Nat.mul_one _))) ?_
    refine ai (mP _ aa rfl rfl (by exact ef _ _ ab) rfl) ?_
    refine ai (bn _ _ rfl rfl rfl) (aj (aR rfl (fun hc104=> ?_) (fun hc104=> ?_)))
    ·skip
     have hds:jB C.length ((D i:Int) - (da C i).op.pops+(da C i).op.puts) u j=(u.1.set j ((D i:Int) - (da C i).op.pops+(da C i).op.puts),u.2.1,true):=by
      unfold jB
      rw [if_neg ab,if_pos (by rw [ik ab];omega)]
     rw [hds] at hfs
     refine am (gK rfl (eV rfl (aX rfl (ai (bo _ _ aa rfl rfl _ rfl ab (by (simp only [aL,bf,bh,bw,bv,bH,bz,bP,eH,aL];omega)) (by exact Nat.mul_one _)) ?_))))
     refine ai (bO _ aa rfl (by exact hnk) rfl) ?_
     refine aX rfl (ai (gC _ _ aa rfl rfl rfl _ rfl ab (by exact (Nat.zero_add _).trans (Nat.mul_one _))) ?_)
     refine ai (od _ _ aa rfl rfl rfl rfl rfl (by simp;omega) (ma _ _ _ ab)) ?_
     refine aj ?_
     refine aN (σ':=aE 123 [(2,_),(6,_),(8,_),(10,_),(11,_),(12,_),(13,_)] [((2,0),_),((6,0),_)] [] []) kp ?_
     refine an (cp rfl (dY (an (aX rfl (ai (aZ _ _ rfl rfl (bF ab)) ?_)))))
     refine be rfl (aJ (⟨k+1,?_,?_,?_⟩))
     ·omega
     ·skip
      refine Le.mkJ [] [] rfl ?_ ?_ trivial trivial ?_
      ·exact ⟨(iP rfl),(iR rfl),(iV rfl),(iS rfl),(cr ag),(cr ag),(mz (by (rw [hfs]))),(mz (by (rw [hfs]))),trivial⟩
      ·exact ⟨(cm rfl rfl rfl),(fg rfl rfl rfl (by (rw [hfs]))),trivial⟩
      kernel_rfl
     omega
    have hds:jB C.length ((D i:Int) - (da C i).op.pops+(da C i).op.puts) u j=u:=by
     unfold jB
     rw [if_neg ab,if_neg (by rw [ik ab];omega),if_neg (by rw [ik ab];omega)]
    rw [hds] at hfs
    refine am (gK rfl (eV rfl (aX rfl (ai (bo _ _ aa rfl rfl _ rfl ab (by (simp only [aL,bf,bh,bw,bv,bH,bz,bP,eH,aL];omega)) (by exact Nat.mul_one _)) ?_))))
    refine ai (bO _ aa rfl (by exact hnk) rfl) ?_
    refine ai (gC _ _ aa rfl rfl rfl _ rfl ab (by exact (Nat.zero_add _).trans (Nat.mul_one _))) ?_
    refine ai (mP _ aa rfl rfl (by exact ef _ _ ab) rfl) ?_
    refine aX rfl (ai (bT _ _ rfl rfl rfl) (aj (aW rfl (by rw [bne_eq_false_iff_eq];omega) ?_)))
    refine cw ?_
    refine aN (σ':=aE 123 [(2,_),(6,_),(8,_),(9,_),(10,_),(11,_),(12,_),(13,_)] [((2,0),_),((6,0),_)] [] []) kp ?_
    refine an (aX rfl (ai (aZ _ _ rfl rfl (bF ab)) ?_))
    refine be rfl (aJ (⟨k+1,?_,?_,?_⟩))
    ·omega
    ·skip
     refine Le.mkJ [] [] rfl ?_ ?_ trivial trivial ?_
     ·exact ⟨(iP rfl),(iR rfl),(iV rfl),(iS rfl),(cr ag),(cr ag),(mz (by (rw [hfs]))),(mz (by (rw [hfs]))),trivial⟩
     ·exact ⟨(cm rfl rfl rfl),(fg rfl rfl rfl (by (rw [hfs]))),trivial⟩
     kernel_rfl
    omega
   obtain rfl:k=L.length:=by omega
   rw [List.take_length] at hu hul
   rw [List.take_length]
   refine bD (id (hK22 _ ?_))
   clear hK22;try clear K22
   refine an (aX rfl (ai (aZ _ _ rfl rfl (bF ab)) ?_))
   refine be rfl (aJ (⟨i+1,?_,?_,?_⟩))
   ·omega
   ·skip
    refine Le.mkJ [] [] rfl ?_ ?_ trivial trivial ?_
    ·exact ⟨(iP rfl),(iR rfl),(cr ag),(mz (by (rw [hps]))),(mz (by (rw [hps]))),trivial⟩
    ·exact ⟨(cm rfl rfl rfl),(fg rfl rfl rfl (by (rw [hps]))),trivial⟩
    kernel_rfl
   omega
  obtain rfl:i=C.length:=by omega
  refine bD (id (⟨(((dz C s C.length).1,(dz C s C.length).2.1),(dz C s C.length).2.2),?_,?_,?_⟩))
  ·exact ⟨hw.flag,ye hf1 hf2 hpd⟩
  ·skip
   refine Le.mkJ [] [] rfl ?_ ?_ trivial trivial ?_
   ·exact ⟨(iP rfl),(iR rfl),(mz ag),(mz ag),trivial⟩
   ·exact ⟨(cm rfl rfl rfl),(fg rfl rfl rfl ag),trivial⟩
   kernel_rfl
  rw [show KL (s,ch)=neg s.1+1 from if_pos hc39];exact IB hpd
 have hzR:s=R:=by
  unfold zp at hz
  rwa [if_neg (by simp [hc39])] at hz
 subst hzR
 have hsl:=hdi.len
 refine bD (id (hK14 _ ?_))
 clear hK14;try clear K14
 refine am (gK rfl (cM rfl (fh rfl (cp rfl (aj (aG ?_))))))
 rw [← hR]
 exact jT (.inr rfl) rfl (.tmp dV) (.tmp bN) (Le.out [] [(6,0)] (.tup rfl (au (CH rfl rfl (by simp only at hsl;simp [hsl]) rfl hsl.symm) lz)) rfl rfl rfl tr trivial)
theorem wA (C:List eR) (en:Nat→Int) (dd vv:Int) (h:Nat) (hh:h < 40) (hC:C.length≤1000000) (D:Nat→Nat) (nv:Nat) (hg:Good D nv 0 (C.length - 1) 0 C) (hD: ∀ i,D i≤1000000) (he:0≤en h→en h < C.length→D (en h).toNat=0):
  Spec Tryz.prog 74 (ba [.agg (FD C.length (inl C) en dd vv), .v (.int .i64 (h:Int))] []) (aP (.v (.int .i64 (la C (jv C (en h)).1 C.length))) []):=by
 have hds:=vg C en dd vv (en h) hC D nv hg hD he
 have hdi:=qD hg he
 have hdl:=hdi.len
 have hml:=fun k (hk:k≤C.length)=> mW (C:=C) (n:=C.length) hdi (B:=1000000) (fun i _=> hD i) k hk
 generalize jv C (en h)=R at hds hdi hdl hml
 have hen:=sO C.length (inl C) en dd vv h hh
 refine Spec.ofN Tryz.func74 rfl Tryz.ntmps74 rfl ?_
 refine am (ai (aQ (2,0) _ rfl rfl) (be rfl (aj (aq (bK 11 [11,12,13,14,15,16,10,17,18,5,6] [] ae ae rfl (aK rfl) (rfl:_=[_,_,_,_,_,_,_,_,_,_,_]) (rfl:_=[]) ?_)))))
 refine ap (_,[]) (fun τ=> az _ aa rfl rfl rfl rfl) ?_
 refine fB rfl ?_
 refine ap (_,[]) (fun τ=> aH _ ek) ?_
 refine fH rfl ?_
 refine ap (_,[]) (fun τ=> aA _ aa rfl rfl rfl) ?_
 refine fQ rfl ?_
 refine ap (_,[]) (fun τ=> cZ _ _ aa rfl rfl rfl h rfl ab (by exact congrArg (fun z=> 0+1+z) (Nat.mul_one h))) ?_
 refine fV rfl ?_
 refine ap (_,[]) (fun τ=> aF _ aa rfl rfl (by exact (congrArg (fun z=> (FD C.length (inl C) en dd vv)[z]?) ab).trans hen)) ?_
 refine gd rfl ?_
 refine ap (_,[]) (fun τ=> (aI aa al (hds) rfl rfl)) ?_
 refine gV rfl ?_
 refine ap (_,[]) (fun τ=> aH _ tN) ?_
 refine iG rfl ?_
 refine ap (_,[]) (fun τ=> cq _ rfl eI) ?_
 refine jO rfl ?_
 refine ap (_,[]) (fun τ=> cq _ rfl zW) ?_
 refine jW rfl ?_
 refine ap (_,[]) (fun τ=> bq _ mm) ?_
 refine fE rfl ?_
 refine ap (_,[]) (fun τ=> bq _ bN) ?_
 refine gf rfl (bl ⟨rfl,?_⟩)
 refine aj (am (be rfl (aj (aU fun K4 hK4=> ?_))))
 refine am (be rfl (aj (ay ?_)))
 refine bu (α:=Nat) (fun k=> k≤C.length) 53 [(2,_),(5,_)] [((2,0),_)] (fun k=> [(8, .v (.int .i64 (k:Int))),(7, .v (.int .i64 (la C R.1 k)))]) (fun k=> []) [] [] (fun k=> C.length - k) 0 ?_ (by
  refine Le.mkJ [] [] rfl ?_ ?_ trivial trivial ?_
  ·exact ⟨(iP rfl),(iS rfl),(cr ag),(cr ag),trivial⟩
  ·exact ⟨(cm rfl rfl rfl),trivial⟩
  kernel_rfl) ?_
 ·omega
 intro k hk
 have hm1:=hml k hk
 have hs:=qg C R.1 k
 simp only at hdl hm1
 refine aU fun K6 hK6=> ?_
 refine am (aX rfl (eV rfl (ai (bp _ aa rfl) (ai (bn _ _ rfl rfl rfl) (aj (aR rfl (fun hc22=> ?_) (fun hc22=> ?_)))))))
 ·skip
  have hm2:=hml (k+1) ab
  have hv:=hdi.val k ab
  simp only at hv hm2
  rw [ik ab] at hv hs
  have hDk:=hD k
  obtain ⟨q,hq⟩: ∃ q,q=da C k:=⟨_,rfl⟩
  have hp3:q.op.pops≤3:=by generalize q.op=o;cases o <;> decide
  have hp4:q.op.puts≤1:=by generalize q.op=o;cases o <;> decide
  have hpp:=rR q.op
  have hpq:=rS q.op
  have hg0:=mX C k ab
  rw [← hq] at hg0 hs
  refine br (hK6 _ ?_)
  clear hK6;try clear K6
  refine aq (ay (am (eV rfl (aX rfl (ai (bo _ _ aa rfl rfl _ rfl ab (by (simp only [aL,bf,bh,bw,bv,bH,bz,bP,eH,aL];omega)) (by exact Nat.mul_one _)) ?_)))))
  refine ai (bO _ aa rfl (by exact ef _ _ ab) rfl) ?_
  refine ai (ft _ _ rfl rfl rfl) (aj (aR rfl (fun hc29=> ?_) (fun hc29=> ?_)))
  ·skip
   rw [if_pos ab] at hs
   refine am (bb rfl rfl rfl (fb rfl rfl rfl (aX rfl (ai (bo _ _ aa rfl rfl _ rfl ab (by (simp only [aL,bf,bh,bw,bv,bH,bz,bP,eH,aL];omega)) ag) ?_))))
   refine ai (cU _ aa rfl rfl) (ai (bO _ aa rfl (by exact hg0) rfl) ?_)
   refine be rfl (aj ?_)
   refine aN (σ':=aE 53 [(2,_),(5,_),(7,_),(8,_),(9,_)] [((2,0),_)] [] []) kp ?_
   refine bK 16 [36,37,38,39,40,41,42,43,44,45,46,47,48,49,50,51] [] ae ae rfl (aK rfl) (rfl:_=[_,_,_,_,_,_,_,_,_,_,_,_,_,_,_,_]) (rfl:_=[_]) ?_
   refine ap (_,[]) (fun τ=> aH _ ek) ?_
   refine fB rfl ?_
   refine ap (_,[]) (fun τ=> aH _ mm) ?_
   refine fH rfl ?_
   refine ap (_,[]) (fun τ=> aH _ ek) ?_
   refine fQ rfl ?_
   refine ap (_,[]) (fun τ=> bo _ _ aa rfl rfl _ rfl ab (by (simp only [aL,bf,bh,bw,bv,bH,bz,bP,eH,aL];omega)) (by exact Nat.mul_one _)) ?_
   refine fV rfl ?_
   refine ap (_,[]) (fun τ=> bO _ aa rfl (by exact ef _ _ ab) rfl) ?_
   refine gd rfl ?_
   refine ap (_,[]) (fun τ=> aH _ mm) ?_
   refine gV rfl ?_
   refine ap (_,[]) (fun τ=> aH _ ek) ?_
   refine iG rfl ?_
   refine ap (_,[]) (fun τ=> bo _ _ aa rfl rfl _ rfl ab (by (simp only [aL,bf,bh,bw,bv,bH,bz,bP,eH,aL];omega)) (by exact Nat.mul_one _)) ?_
   refine jO rfl ?_
   refine ap (_,[]) (fun τ=> bO _ aa rfl (by exact ef _ _ ab) rfl) ?_
   refine jW rfl ?_
   refine ap (_,[]) (fun τ=> aH _ ek) ?_
   refine fE rfl ?_
   refine ap (_,[]) (fun τ=> (aI aa al (hpp) rfl rfl)) ?_
   refine gf rfl ?_
   refine ap (_,[]) (fun τ=> kR _ _ rfl rfl (bF ab)) ?_
   refine jV rfl ?_
   refine ap (_,[]) (fun τ=> aH _ ek) ?_
   refine li rfl ?_
   refine ap (_,[]) (fun τ=> (aI aa al (hpq) rfl rfl)) ?_
   refine nR rfl ?_
   refine ap (_,[]) (fun τ=> aZ _ _ rfl rfl (bF ab)) ?_
   refine sP rfl ?_
   refine ap (_,[]) (fun τ=> FM _ _ _ rfl rfl rfl (by exact hs.symm)) ?_
   refine sy rfl (bl ⟨rfl,?_⟩)
   refine be rfl (dY ?_)
   refine aN (σ':=aE 53 [(2,_),(5,_),(7,_),(8,_)] [((2,0),_)] [] []) kp ?_
   refine an (aX rfl (ai (aZ _ _ rfl rfl (bF ab)) ?_))
   refine be rfl (aJ (⟨k+1,?_,?_,?_⟩))
   ·omega
   ·skip
    refine Le.mkJ [] [] rfl ?_ ?_ trivial trivial ?_
    ·exact ⟨(iP rfl),(iS rfl),(cr ag),(cr ag),trivial⟩
    ·exact ⟨(cm rfl rfl rfl),trivial⟩
    kernel_rfl
   omega
  rw [if_neg ab] at hs
  refine cw (an (aX rfl (ai (aZ _ _ rfl rfl (bF ab)) ?_)))
  refine be rfl (aJ (⟨k+1,?_,?_,?_⟩))
  ·omega
  ·skip
   refine Le.mkJ [] [] rfl ?_ ?_ trivial trivial ?_
   ·exact ⟨(iP rfl),(iS rfl),(cr ag),(cr ab),trivial⟩
   ·exact ⟨(cm rfl rfl rfl),trivial⟩
   kernel_rfl
  omega
 obtain rfl:k=C.length:=by omega
 refine bD (id (hK4 _ ?_))
 clear hK4;try clear K4
 exact am (aX rfl (be rfl (aj (aG (fq rfl rfl)))))

theorem em: ∀ (e:Ex) (d x:Nat),x∈dE e d→x≤d+(dE e d).length
 | .int _,d,x,h=> by simp [dE] at h ⊢;omega
 | .bool _,d,x,h=> by simp [dE] at h ⊢;omega
 | .var _,d,x,h=> by simp [dE] at h ⊢;omega
 | .name _,d,x,h=> by simp [dE] at h ⊢;omega
 | .draw e,d,x,h=> by
  have:=em e d x
  simp only [dE,List.mem_append,List.length_append,List.length_cons,List.length_nil,List.mem_singleton] at h ⊢
  rcases h with h | h
  ·have:=this h;omega
  omega
 | .neg e,d,x,h=> by
  have:=em e d x
  simp only [dE,List.mem_append,List.length_append,List.length_cons,List.length_nil,List.mem_singleton] at h ⊢
  rcases h with h | h
  ·have:=this h;omega
  omega
 | .not e,d,x,h=> by
  have:=em e d x
  simp only [dE,List.mem_append,List.length_append,List.length_cons,List.length_nil,List.mem_singleton] at h ⊢
  rcases h with h | h
  ·have:=this h;omega
  omega
 | .bin o a b,d,x,h=> by
  have h1:=em a d x
  have h2:=em b (d+1) x
  have h3:1≤(dE b (d+1)).length:=by obtain ⟨l,hl⟩:=eO b (d+1);rw [hl];simp
  have h4:1≤(dE a d).length:=by obtain ⟨l,hl⟩:=eO a d;rw [hl];simp
  simp only [dE,List.mem_append,List.length_append] at h ⊢
  rcases h with (h | h) | h
  ·have:=h1 h;omega
  ·have:=h2 h;omega
  have:x≤d+2:=by cases o <;> simp at h <;> omega
  omega
 | .and a b,d,x,h=> by
  have h1:=em a d x
  have h2:=em b d x
  simp only [dE,List.mem_append,List.length_append,List.length_cons,List.length_nil,List.mem_singleton] at h ⊢
  rcases h with (((h | h) | h) | h) | h
  ·have:=h1 h;omega
  ·omega
  ·have:=h2 h;omega
  ·omega
  omega
 | .or a b,d,x,h=> by
  have h1:=em a d x
  have h2:=em b d x
  simp only [dE,List.mem_append,List.length_append,List.length_cons,List.length_nil,List.mem_singleton] at h ⊢
  rcases h with (((h | h) | h) | h) | h
  ·have:=h1 h;omega
  ·omega
  ·omega
  ·omega
  have:=h2 h;omega
theorem lM (e:Ex) (d:Nat):1≤(dE e d).length:=by obtain ⟨l,hl⟩:=eO e d;rw [hl];simp
mutual
theorem DF: ∀ (s:Sm) (x:Nat),x∈et s→x≤(et s).length
 | .assign _ e,x,h=> by
  have:=em e 0 x
  simp only [et,List.mem_append,List.length_append,List.length_cons,List.length_nil,List.mem_singleton] at h ⊢
  rcases h with h | h
  ·have:=this h;omega
  omega
 | .send t _ a b,x,h=> by
  have h1:=em t 0 x
  have h2:=em a 1 x
  have h3:=em b 2 x
  have k1:=lM t 0
  have k2:=lM a 1
  have k3:=lM b 2
  simp only [et,List.mem_append,List.length_append,List.length_cons,List.length_nil,List.mem_singleton] at h ⊢
  rcases h with ((h | h) | h) | h
  ·have:=h1 h;omega
  ·have:=h2 h;omega
  ·have:=h3 h;omega
  omega
 | .timer _,x,h=> by simp [et] at h ⊢;omega
 | .cancel _,x,h=> by simp [et] at h ⊢;omega
 | .sync,x,h=> by simp [et] at h ⊢;omega
 | .stop,x,h=> by simp [et] at h ⊢;omega
 | .reply a b,x,h=> by
  have h2:=em a 0 x
  have h3:=em b 1 x
  have k2:=lM a 0
  have k3:=lM b 1
  simp only [et,List.mem_append,List.length_append,List.length_cons,List.length_nil,List.mem_singleton] at h ⊢
  rcases h with (h | h) | h
  ·have:=h2 h;omega
  ·have:=h3 h;omega
  omega
 | .fail e,x,h=> by
  have:=em e 0 x
  simp only [et,List.mem_append,List.length_append,List.length_cons,List.length_nil,List.mem_singleton] at h ⊢
  rcases h with h | h
  ·have:=this h;omega
  omega
 | .loop c b,x,h=> by
  have h1:=em c 0 x
  have h2:=nX b x
  simp only [et,List.mem_append,List.length_append,List.length_cons,List.length_nil,List.mem_singleton] at h ⊢
  rcases h with ((h | h) | h) | h
  ·have:=h1 h;omega
  ·omega
  ·have:=h2 h;omega
  omega
 | .ite c a b,x,h=> by
  have h1:=em c 0 x
  have h2:=nX a x
  have h3:=nX b x
  simp only [et,List.mem_append,List.length_append,List.length_cons,List.length_nil,List.mem_singleton] at h ⊢
  rcases h with (((h | h) | h) | h) | h
  ·have:=h1 h;omega
  ·omega
  ·have:=h2 h;omega
  ·omega
  have:=h3 h;omega
theorem nX: ∀ (b:Bk) (x:Nat),x∈ml b→x≤(ml b).length
 | .nil,x,h=> by simp [ml] at h
 | .cons s b,x,h=> by
  have h1:=DF s x
  have h2:=nX b x
  simp only [ml,List.mem_append,List.length_append] at h ⊢
  rcases h with h | h
  ·have:=h1 h;omega
  have:=h2 h;omega
end
theorem xB: ∀ (l:List (Nat×Bk)) (x:Nat),x∈mi l→x≤(mi l).length
 | [],x,h=> by simp [mi] at h
 | (k,b)::l,x,h=> by
  have h1:=nX b x
  have h2:=xB l x
  simp only [mi,List.mem_append,List.length_append,List.length_cons,List.length_nil,List.mem_singleton] at h ⊢
  rcases h with (h | h) | h
  ·have:=h1 h;omega
  ·omega
  have:=h2 h;omega
theorem BF (l:List (Nat×Bk)) (i:Nat):wS l i≤(bV l 0).length:=by
 unfold wS
 rw [List.getD_eq_getElem?_getD]
 by_cases h:i < (mi l).length
 ·rw [List.getElem?_eq_getElem h,← qy l 0];exact xB l _ (List.getElem_mem h)
 rw [List.getElem?_eq_none ab];exact Nat.zero_le _

theorem oN: ∀ (l m:List (Nat×Bk)) (a:Nat),bV (l++m) a=bV l a++bV m (a+(bV l a).length)
 | [],m,a=> by simp [bV]
 | (h,b)::l,m,a=> by
  simp only [List.cons_append,bV,oN l m,List.append_assoc,List.length_append,List.length_cons,List.length_nil,Nat.add_assoc,Nat.zero_add,List.nil_append,Nat.add_comm 1 (List.length _)]
theorem uv: ∀ (l m:List (Nat×Bk)) (a:Nat),jY (l++m) a=jY l a++jY m (a+(bV l a).length)
 | [],m,a=> by simp [bV,jY]
 | (h,b)::l,m,a=> by
  simp only [List.cons_append,bV,jY,uv l m,List.append_assoc,List.length_append,List.length_cons,List.length_nil,Nat.add_assoc,Nat.zero_add,Nat.add_comm 1 (List.length _)]
def bZ (l:List (Nat×Bk)) (k:Nat):Int:=(nn (jY l 0)).getD k (-1)
theorem zj (l:List (Nat×Bk)) (p:Nat×Bk) (hp:p.1 < 40):bZ (l++[p])=lg (bZ l) p.1 (bV l 0).length:=by
 funext k
 have e:nn (jY (l++[p]) 0)=(nn (jY l 0)).set p.1 ((bV l 0).length:Int):=by
  rw [uv]
  obtain ⟨h,b⟩:=p
  simp only [jY,nn,List.foldl_append,List.foldl_cons,List.foldl_nil,Nat.zero_add]
 unfold bZ lg
 rw [e,ku]
 by_cases hk:k=p.1
 ·rw [if_pos ⟨hk,by rw [Ag];exact hp⟩,if_pos hk]
 rw [if_neg (fun h=> hk h.1),if_neg hk]
theorem vD (l:List (Nat×Bk)) (p:Nat×Bk):bV (l++[p]) 0=bV l 0++dT p.2 (bV l 0).length++[{ op:= .stop }]:=by
 rw [oN]
 obtain ⟨h,b⟩:=p
 simp [bV]
def eu (h k:Nat):Int:=if k < h∨40≤k then -1 else 0
theorem AH (h:Nat) (hh:h < 40):lg (eu h) h (-1)=eu (h+1):=by
 funext k
 unfold lg eu
 by_cases h1:k=h
 ·rw [if_pos h1,if_pos ab]
 rw [if_neg h1]
 by_cases h2:k < h∨40≤k
 ·rw [if_pos h2,if_pos ab]
 rw [if_neg h2,if_neg ab]
theorem CE:eu 40=bZ []:=by
 funext k
 have e:bZ [] k=(List.replicate 40 (-1:Int)).getD k (-1):=rfl
 rw [e,eu,if_pos ab,List.getD_eq_getElem?_getD,List.getElem?_replicate]
 by_cases hk:k < 40
 ·rw [if_pos hk];rfl
 rw [if_neg hk];rfl
theorem BW (ons:List (Nat×Bk)) (j:Nat) (h:j < ons.length):ons.take (j+1)=ons.take j++[ons[j]]:=List.take_succ_eq_append_getElem h
theorem qf (ons:List (Nat×Bk)) (j:Nat):(bV (ons.take j) 0).length≤(bV ons 0).length:=by
 conv=> rhs;rw [← List.take_append_drop j ons,oN]
 rw [List.length_append];omega
theorem yM {n:Nat} (h:n < 40):dO (n:Int) 40=n:=by unfold dO;rw [if_neg ab];omega
structure UOk (d v:List Tx) (ons:List (Nat×Bk)):Prop where
 nd:(d++v).Nodup
 len:(d++v).length≤16
 ok: ∀ p∈ons,lj (d++v).length p.2
 pp: ∀ p∈ons,sJ p.2=true
 h: ∀ p∈ons,p.1 < 40
 c:(bV ons 0).length≤1000000
 n:ons.length≤1000
theorem UOk.good {d v:List Tx} {ons:List (Nat×Bk)} (U:UOk d v ons):Good (wS ons) (d++v).length 0 ((bV ons 0).length - 1) 0 (bV ons 0):=
 CJ (wS ons) (d++v).length ons 0 0 ((bV ons 0).length - 1) U.ok (sL ons) (Nat.le_refl _) ab
theorem UOk.ent {d v:List Tx} {ons:List (Nat×Bk)} (U:UOk d v ons) (k:Nat):0≤bZ ons k→bZ ons k < (bV ons 0).length→wS ons (bZ ons k).toNat=0:=fun h0 h1=> by
 rcases ww ons k with h | ⟨e,_,h,_,h2⟩
 ·unfold bZ at h0;omega
 unfold bZ;rw [h,Int.toNat_natCast];exact h2
abbrev MD (d v:List Tx) (ons:List (Nat×Bk)):AV:= .agg (FD (bV ons 0).length (inl (bV ons 0)) (bZ ons) (d.length:Int) (v.length:Int))
abbrev zA:AV:= .agg (GU (.v (.slice none 0 0)) (fun _=> 0) 0 0)
def Ka (ons:List (Nat×Bk)):Int:=if 400 < (bV ons 0).length then 2 else 13
abbrev Dw (d v:List Tx) (ons:List (Nat×Bk)):AV:=if lc ons=true then .tup [MD d v ons, .v (.int .i64 0)] else .tup [zA, .v (.int .i64 (Ka ons))]
abbrev wo (d v:List Tx) (ons:List (Nat×Bk)):List Hd:=ons.map fun p=> (p.1,iX (d++v) p.2)
theorem nz (d v:List Tx) (ons:List (Nat×Bk)) (U:UOk d v ons):
  Spec Tryz.prog 57 (ba [JG d v (wo d v ons)] []) (aP (Dw d v ons) []):=by
 obtain ⟨H,hH⟩: ∃ H,H=wo d v ons:=⟨_,rfl⟩
 have hHl:H.length=ons.length:=by rw [hH,List.length_map]
 have hHk: ∀ k (h:k < ons.length),oG H k=((ons[k]).1,iX (d++v) (ons[k]).2):=fun k h=> by rw [hH];exact CO ons _ k h
 rw [← hH]
 clear hH
 have hUn:=U.n
 have hUc:=U.c
 have hUl:=U.len
 have hdl:d.length≤16∧v.length≤16:=by rw [List.length_append] at hUl;omega
 refine Spec.ofN Tryz.func57 rfl Tryz.ntmps57 rfl ?_
 refine am (ai (aQ (1,0) _ rfl rfl) (ai (aD (2,0) aa rfl rfl) (be rfl (aj (am (bb rfl rfl rfl (fb rfl rfl rfl (ai (bp _ aa rfl) (bb rfl rfl rfl (fb rfl rfl rfl ?_))))))))))
 refine ai (bp _ aa rfl) (ai (aM _ aa rfl (by exact Fd)) ?_)
 refine ai (aD (4,0) aa rfl rfl) (bG rfl rfl rfl rfl rfl rfl (aj (aU fun K3 hK3=> ?_)))
 refine am (be rfl (aj (ay ?_)))
 refine aN (Le.nilB (4,0) 0 (60,0) 48 2 rfl rfl rfl) ?_
 refine bu (α:=Nat) (fun q=> q≤40) 79 [(1,_),(2,_),(4,_)] [((1,0),_),((2,0),_),((60,0),_)] (fun q=> [(5, .v (.int .i64 (q:Int)))]) (fun q=> [((4,0), .box 26 [.ref (60,0) 0 0, .v (.int .i64 (eu q 0)), .v (.int .i64 (eu q 1)), .v (.int .i64 (eu q 2)), .v (.int .i64 (eu q 3)), .v (.int .i64 (eu q 4)), .v (.int .i64 (eu q 5)), .v (.int .i64 (eu q 6)), .v (.int .i64 (eu q 7)), .v (.int .i64 (eu q 8)), .v (.int .i64 (eu q 9)), .v (.int .i64 (eu q 10)), .v (.int .i64 (eu q 11)), .v (.int .i64 (eu q 12)), .v (.int .i64 (eu q 13)), .v (.int .i64 (eu q 14)), .v (.int .i64 (eu q 15)), .v (.int .i64 (eu q 16)), .v (.int .i64 (eu q 17)), .v (.int .i64 (eu q 18)), .v (.int .i64 (eu q 19)), .v (.int .i64 (eu q 20)), .v (.int .i64 (eu q 21)), .v (.int .i64 (eu q 22)), .v (.int .i64 (eu q 23)), .v (.int .i64 (eu q 24)), .v (.int .i64 (eu q 25)), .v (.int .i64 (eu q 26)), .v (.int .i64 (eu q 27)), .v (.int .i64 (eu q 28)), .v (.int .i64 (eu q 29)), .v (.int .i64 (eu q 30)), .v (.int .i64 (eu q 31)), .v (.int .i64 (eu q 32)), .v (.int .i64 (eu q 33)), .v (.int .i64 (eu q 34)), .v (.int .i64 (eu q 35)), .v (.int .i64 (eu q 36)), .v (.int .i64 (eu q 37)), .v (.int .i64 (eu q 38)), .v (.int .i64 (eu q 39)), .v (.int .i64 (d.length:Int)), .v (.int .i64 (v.length:Int))])]) [] [] (fun q=> 40 - q) 0 ?_ (by
  refine Le.mkJ [] [] rfl ?_ ?_ trivial trivial ?_
  ·exact ⟨(iP rfl),(iP rfl),(iP rfl),(cr ag),trivial⟩
  ·exact ⟨(cm rfl rfl rfl),(cm rfl rfl rfl),(cm rfl rfl rfl),(fi rfl rfl rfl rfl lz),trivial⟩
  kernel_rfl) ?_
 ·omega
 intro q hq
 refine aU fun K5 hK5=> ?_
 refine am (aX rfl (ai (bn _ _ rfl rfl rfl) (aj (aR rfl (fun hc17=> ?_) (fun hc17=> ?_)))))
 ·skip
  refine br (hK5 _ ?_)
  clear hK5;try clear K5
  refine aq (ay (an (aX rfl (bb rfl rfl rfl (ai (cZ _ _ aa rfl rfl rfl q rfl ab (by exact congrArg (fun z=> 0+1+z) (Nat.mul_one q))) ?_)))))
  refine ai (dF _ _ aa rfl rfl rfl rfl (show 0+1+q+1≤43 by omega) ((congrArg (fun z=> fY (GU (.ref (60,0) 0 0) (eu q) (d.length:Int) (v.length:Int)) z [.v (.int .i64 (-1))]) ab).trans ((sA _ _ _ _ q ab _).trans (by rw [AH _ ab])))) ?_
  refine dY (an (aX rfl (ai (aZ _ _ rfl rfl (bF ab)) ?_)))
  refine be rfl (aJ (⟨q+1,?_,?_,?_⟩))
  ·omega
  ·skip
   refine Le.mkJ [] [] rfl ?_ ?_ trivial trivial ?_
   ·exact ⟨(iP rfl),(iP rfl),(iP rfl),(cr ag),trivial⟩
   ·exact ⟨(cm rfl rfl rfl),(cm rfl rfl rfl),(cm rfl rfl rfl),(fi rfl rfl rfl rfl lz),trivial⟩
   kernel_rfl
  omega
 obtain rfl:q=40:=by omega
 rw [CE]
 refine bD (id (hK3 _ ?_))
 clear hK3;try clear K3
 refine aU fun K8 hK8=> ?_
 refine am (be rfl (aj (ay ?_)))
 refine bu (α:=Nat) (fun j=> j≤H.length) 79 [(1,_),(2,_),(4,_)] [((1,0),_),((2,0),_)] (fun j=> [(6, .v (.int .i64 (j:Int)))]) (fun j=> [((60,0), .row 48 2 (inl (bV (ons.take j) 0))),((4,0), .box 26 [.ref (60,0) 0 (bV (ons.take j) 0).length, .v (.int .i64 (bZ (ons.take j) 0)), .v (.int .i64 (bZ (ons.take j) 1)), .v (.int .i64 (bZ (ons.take j) 2)), .v (.int .i64 (bZ (ons.take j) 3)), .v (.int .i64 (bZ (ons.take j) 4)), .v (.int .i64 (bZ (ons.take j) 5)), .v (.int .i64 (bZ (ons.take j) 6)), .v (.int .i64 (bZ (ons.take j) 7)), .v (.int .i64 (bZ (ons.take j) 8)), .v (.int .i64 (bZ (ons.take j) 9)), .v (.int .i64 (bZ (ons.take j) 10)), .v (.int .i64 (bZ (ons.take j) 11)), .v (.int .i64 (bZ (ons.take j) 12)), .v (.int .i64 (bZ (ons.take j) 13)), .v (.int .i64 (bZ (ons.take j) 14)), .v (.int .i64 (bZ (ons.take j) 15)), .v (.int .i64 (bZ (ons.take j) 16)), .v (.int .i64 (bZ (ons.take j) 17)), .v (.int .i64 (bZ (ons.take j) 18)), .v (.int .i64 (bZ (ons.take j) 19)), .v (.int .i64 (bZ (ons.take j) 20)), .v (.int .i64 (bZ (ons.take j) 21)), .v (.int .i64 (bZ (ons.take j) 22)), .v (.int .i64 (bZ (ons.take j) 23)), .v (.int .i64 (bZ (ons.take j) 24)), .v (.int .i64 (bZ (ons.take j) 25)), .v (.int .i64 (bZ (ons.take j) 26)), .v (.int .i64 (bZ (ons.take j) 27)), .v (.int .i64 (bZ (ons.take j) 28)), .v (.int .i64 (bZ (ons.take j) 29)), .v (.int .i64 (bZ (ons.take j) 30)), .v (.int .i64 (bZ (ons.take j) 31)), .v (.int .i64 (bZ (ons.take j) 32)), .v (.int .i64 (bZ (ons.take j) 33)), .v (.int .i64 (bZ (ons.take j) 34)), .v (.int .i64 (bZ (ons.take j) 35)), .v (.int .i64 (bZ (ons.take j) 36)), .v (.int .i64 (bZ (ons.take j) 37)), .v (.int .i64 (bZ (ons.take j) 38)), .v (.int .i64 (bZ (ons.take j) 39)), .v (.int .i64 (d.length:Int)), .v (.int .i64 (v.length:Int))])]) [] [] (fun j=> H.length - j) 0 ?_ (by
  refine Le.mkJ [] [] rfl ?_ ?_ trivial trivial ?_
  ·exact ⟨(iP rfl),(iP rfl),(iP rfl),(cr ag),trivial⟩
  ·exact ⟨(cm rfl rfl rfl),(cm rfl rfl rfl),(fg rfl rfl rfl ag),(fi rfl rfl rfl rfl lz),trivial⟩
  kernel_rfl) ?_
 ·omega
 intro j hj
 have hct:=qf ons j
 refine aU fun K10 hK10=> ?_
 refine am (aX rfl (bb rfl rfl rfl (fb rfl rfl rfl (ai (bp _ aa rfl) (ai (bn _ _ rfl rfl rfl) (aj (aR rfl (fun hc27=> ?_) (fun hc27=> ?_))))))))
 ·skip
  have hj:j < ons.length:=by omega
  have hct1:=qf ons (j+1)
  have hUh:=U.h _ (List.getElem_mem hj)
  have hUo:=U.ok _ (List.getElem_mem hj)
  have hUp:=U.pp _ (List.getElem_mem hj)
  have hbody:=ud H j ab
  have hg0:=kx H j ab
  rw [hHk j hj] at hbody hg0
  have hsn:=vD (ons.take j) (ons[j])
  have hen:=zj (ons.take j) (ons[j]) hUh
  rw [← BW ons j hj] at hsn hen
  have hsl:=congrArg List.length hsn
  simp only [List.length_append,List.length_cons,List.length_nil] at hsl
  have hcb:=Gc (d:=d) (v:=v) (no:=H.length) (on:=mj H) U.nd ab (ons[j]).2 hUo hUp (bV (ons.take j) 0).length ab
  generalize dT (ons[j]).2 (bV (ons.take j) 0).length=C at hsn hsl hcb
  generalize (ons[j]).2=bd at hbody hcb
  generalize (ons[j]).1=h at hbody hg0 hen hUh
  have har:=jH (h:Int) 40 ab ab ab ab
  rw [yM hUh] at har
  refine br (hK10 _ ?_)
  clear hK10;try clear K10
  refine aq (ay (am (bb rfl rfl rfl (fb rfl rfl rfl (aX rfl (ai (bo _ _ aa rfl rfl _ rfl ab (by (simp only [aL,bf,bh,bw,bv,bH,bz,bP,eH,aL,List.length_map];omega)) ag) ?_))))))
  refine ai (cU _ aa rfl rfl) (ai (bO _ aa rfl (by exact hg0) rfl) ?_)
  refine ai (aI aa al (har) rfl rfl) ?_
  refine be rfl (aj (am (aX rfl (bb rfl rfl rfl (ai (aF _ aa rfl rfl eT) (ai (dg _ aa rfl rfl) (bb rfl rfl rfl (ai (cZ _ _ aa rfl rfl rfl h rfl ab (by exact congrArg (fun z=> 0+1+z) (Nat.mul_one h))) ?_))))))))
  refine ai (dF _ _ aa rfl rfl rfl rfl (show 0+1+h+1≤43 by omega) ((congrArg (fun z=> fY (GU (.ref (60,0) 0 (bV (ons.take j) 0).length) (bZ (ons.take j)) (d.length:Int) (v.length:Int)) z [.v (.int .i64 ((bV (ons.take j) 0).length:Int))]) ab).trans ((sA _ _ _ _ h ab _).trans (by rw [← hen])))) ?_
  refine aj (aq ?_)
  refine aN (σ':=aE 79 [(1,_),(2,_),(4,_),(6,_)] [((1,0),_),((2,0),_),((60,0),_),((4,0),_)] [] []) kp ?_
  refine bK 13 [43,44,45,46,47,48,49,50,51,52,53,54,55] [(50,0)] ae ae rfl (aK rfl) (rfl:_=[_,_,_,_,_,_,_,_,_,_,_,_,_]) (rfl:_=[_,_,_]) ?_
  refine ap (_,[]) (fun τ=> aA _ aa rfl rfl rfl) ?_
  refine fB rfl ?_
  refine ap (_,[]) (fun τ=> aF _ aa rfl rfl eT) ?_
  refine fH rfl ?_
  refine ap (_,[]) (fun τ=> az _ aa rfl rfl rfl rfl) ?_
  refine fQ rfl ?_
  refine ap (_,[]) (fun τ=> aA _ aa rfl rfl rfl) ?_
  refine fV rfl ?_
  refine ap (_,[]) (fun τ=> aF _ aa rfl rfl eI) ?_
  refine gd rfl ?_
  refine ap (_,[]) (fun τ=> aH _ ek) ?_
  refine gV rfl ?_
  refine ap (_,[]) (fun τ=> bo _ _ aa rfl rfl _ rfl ab (by (simp only [aL,bf,bh,bw,bv,bH,bz,bP,eH,aL,List.length_map];omega)) ag) ?_
  refine iG rfl ?_
  refine ap (_,[]) (fun τ=> cU _ aa rfl rfl) ?_
  refine jO rfl ?_
  refine ap (_,[]) (fun τ=> cg _ aa rfl (by exact hbody) rfl) ?_
  refine jW rfl ?_
  refine ap (_,[]) (fun τ=> aA _ aa rfl rfl rfl) ?_
  refine fE rfl ?_
  refine ap (_,[]) (fun τ=> aF _ aa rfl rfl eT) ?_
  refine gf rfl ?_
  refine ap (_,[]) (fun τ=> dg _ aa rfl rfl) ?_
  refine jV rfl ?_
  refine ap (_,[((50,0),_)]) (fun τ=> (bY aa [((0,8),(50,0))] ar (hcb.toI) trivial tr tr rfl rfl ae ae)) ?_
  refine li rfl (bl ⟨rfl,?_⟩)
  refine ai (du (56,0) _ _ aa rfl rfl (bP _).symm (.ref rfl (nL _) (lu _)) ab rfl (mf _ _) (show (bV (ons.take j) 0).length+C.length=(bV (ons.take j) 0++C).length by simp)) ?_
  refine bb rfl rfl rfl (bG rfl rfl rfl rfl rfl rfl (aj ?_))
  refine aN (σ':=aE 79 [(1,_),(2,_),(4,_),(6,_)] [((1,0),_),((2,0),_),((4,0),_),((56,0),_)] [] []) kp ?_
  refine an (bb rfl rfl rfl (ai (aF _ aa rfl rfl eT) (ai (aM _ aa rfl (by exact eS)) ?_)))
  refine ai (bi _ _ aa rfl ag (by (simp <;> rfl)) ah rfl) ?_
  refine ai (du (62,0) _ _ aa rfl rfl (bP _).symm (.sl rfl) (by simp;omega) rfl ((fl _ { op:= .stop }).trans (congrArg inl hsn.symm)) (show (bV (ons.take j) 0++C).length+1=(bV (ons.take (j+1)) 0).length by simp [hsl])) ?_
  refine bb rfl rfl rfl (bG rfl rfl rfl rfl rfl rfl (dY (an (aX rfl (ai (aZ _ _ rfl rfl (bF ab)) ?_)))))
  refine be rfl (aJ (⟨j+1,?_,?_,?_⟩))
  ·omega
  ·skip
   refine Le.mkJ [((60,0),(62,0))] [] rfl ?_ ?_ trivial trivial ?_
   ·exact ⟨(dH (id:=(1,0)) rfl),(dH (id:=(2,0)) rfl),(dH (id:=(4,0)) rfl),(cr ag),trivial⟩
   ·exact ⟨(fi rfl rfl rfl rfl (by repeat' (first | exact Lv.sl | exact bg | refine au ?_ ?_))),(fi rfl rfl rfl rfl (by repeat' (first | exact Lv.v | exact bg | refine au ?_ ?_))),(fg rfl rfl rfl ag),(fi rfl rfl rfl rfl lz),trivial⟩
   kernel_rfl
  omega
 obtain rfl:j=ons.length:=by omega
 rw [List.take_length]
 refine bD (id (hK8 _ ?_))
 clear hK8;try clear K8
 refine aq (am (bb rfl rfl rfl (ai (aF _ aa rfl rfl eT) (ai (dg _ aa rfl rfl) (ai (gx _ _ rfl rfl rfl) (aj (aR rfl (fun hc67=> ?_) (fun hc67=> ?_))))))))
 ·skip
  have hco:lc ons≠true:=by
   unfold lc
   rw [decide_eq_false ab,Bool.false_and]
   exact Bool.false_ne_true
  rw [Dw,if_neg hco,Ka,if_pos ab]
  refine am (ai (aM _ aa rfl (by exact Fd)) ?_)
  exact bG rfl rfl rfl rfl rfl rfl (be rfl (aj (aG (jT (.inr rfl) rfl (.cellA aa rfl rfl rfl) (.tmp kN) (Le.out [] [] (.tup rfl lz) rfl rfl rfl trivial trivial)))))
 have hl4:(bV ons 0).length≤400:=by omega
 refine aS (aU fun K19 hK19=> ?_)
 refine am (be rfl (aj (ay ?_)))
 refine aN (Le.frzB (4,0) 0 rfl rfl rfl rfl (ys:=inl (bV ons 0)) (by rw [List.drop_zero];exact List.take_of_length_le (by rw [bP];omega)) (by rw [bP];omega)) ?_
 refine bu (α:=Nat) (fun h=> h≤40∧ ∀ k,k < h→la (bV ons 0) (jv (bV ons 0) (bZ ons k)).1 (bV ons 0).length≤16) 79 [(2,_),(4,_)] [((2,0),_)] (fun h=> [(8, .v (.int .i64 (h:Int)))]) (fun h=> [((4,0), .box 26 [.sl (bV ons 0).length (inl (bV ons 0)), .v (.int .i64 (bZ ons 0)), .v (.int .i64 (bZ ons 1)), .v (.int .i64 (bZ ons 2)), .v (.int .i64 (bZ ons 3)), .v (.int .i64 (bZ ons 4)), .v (.int .i64 (bZ ons 5)), .v (.int .i64 (bZ ons 6)), .v (.int .i64 (bZ ons 7)), .v (.int .i64 (bZ ons 8)), .v (.int .i64 (bZ ons 9)), .v (.int .i64 (bZ ons 10)), .v (.int .i64 (bZ ons 11)), .v (.int .i64 (bZ ons 12)), .v (.int .i64 (bZ ons 13)), .v (.int .i64 (bZ ons 14)), .v (.int .i64 (bZ ons 15)), .v (.int .i64 (bZ ons 16)), .v (.int .i64 (bZ ons 17)), .v (.int .i64 (bZ ons 18)), .v (.int .i64 (bZ ons 19)), .v (.int .i64 (bZ ons 20)), .v (.int .i64 (bZ ons 21)), .v (.int .i64 (bZ ons 22)), .v (.int .i64 (bZ ons 23)), .v (.int .i64 (bZ ons 24)), .v (.int .i64 (bZ ons 25)), .v (.int .i64 (bZ ons 26)), .v (.int .i64 (bZ ons 27)), .v (.int .i64 (bZ ons 28)), .v (.int .i64 (bZ ons 29)), .v (.int .i64 (bZ ons 30)), .v (.int .i64 (bZ ons 31)), .v (.int .i64 (bZ ons 32)), .v (.int .i64 (bZ ons 33)), .v (.int .i64 (bZ ons 34)), .v (.int .i64 (bZ ons 35)), .v (.int .i64 (bZ ons 36)), .v (.int .i64 (bZ ons 37)), .v (.int .i64 (bZ ons 38)), .v (.int .i64 (bZ ons 39)), .v (.int .i64 (d.length:Int)), .v (.int .i64 (v.length:Int))])]) [] [] (fun h=> 40 - h) 0 ?_ (by
  refine Le.mkJ [] [] rfl ?_ ?_ trivial trivial ?_
  ·exact ⟨(iP rfl),(iP rfl),(cr ag),trivial⟩
  ·exact ⟨(cm rfl rfl rfl),(fi rfl rfl rfl rfl lz),trivial⟩
  kernel_rfl) ?_
 ·exact ⟨Nat.zero_le _,fun k hk=> absurd hk (Nat.not_lt_zero _)⟩
 intro h hh
 obtain ⟨hk,hks⟩:=hh
 refine aU fun K21 hK21=> ?_
 refine am (aX rfl (ai (bn _ _ rfl rfl rfl) (aj (aR rfl (fun hc70=> ?_) (fun hc70=> ?_)))))
 ·skip
  have hh4:h < 40:=by omega
  have hdm:=mW (C:=bV ons 0) (qD U.good (U.ent h)) (B:=1000000) (fun i _=> Nat.le_trans (BF ons i) hUc) _ (Nat.le_refl _)
  have hde:=wA (bV ons 0) (bZ ons) (d.length:Int) (v.length:Int) h hh4 hUc (wS ons) (d++v).length U.good (fun i=> Nat.le_trans (BF ons i) hUc) (U.ent h)
  refine br (hK21 _ ?_)
  clear hK21;try clear K21
  refine aq (ay (am (ai (az _ aa rfl rfl rfl rfl) (aX rfl (ai (aI aa al (hde) rfl rfl) ?_)))))
  refine ai (gx _ _ rfl rfl rfl) (aj (aR rfl (fun hc76=> ?_) (fun hc76=> ?_)))
  ·skip
   have hco:lc ons≠true:=fun e=> by
    unfold lc at e
    rw [Bool.and_eq_true,List.all_eq_true] at e
    have:=e.2 h (List.mem_range.2 hh4)
    rw [decide_eq_true_eq] at this
    exact absurd (show la (bV ons 0) (jv (bV ons 0) (bZ ons h)).1 (bV ons 0).length≤16 from this) ab
   rw [Dw,if_neg hco,Ka,if_neg ab]
   refine am (ai (aM _ aa rfl (by exact Fd)) ?_)
   exact bG rfl rfl rfl rfl rfl rfl (be rfl (aj (aG (jT (.inr rfl) rfl (.cellA aa rfl rfl rfl) (.tmp kN) (Le.out [] [] (.tup rfl lz) rfl rfl rfl trivial trivial)))))
  refine cw (an (aX rfl (ai (aZ _ _ rfl rfl (bF ab)) ?_)))
  refine be rfl (aJ (⟨h+1,?_,?_,?_⟩))
  ·exact ⟨by omega,fun k hk=> (by
    rcases Nat.lt_or_ge k h with hlt | hge
    ·exact hks k hlt
    obtain rfl:k=h:=by omega
    omega)⟩
  ·skip
   refine Le.mkJ [] [] rfl ?_ ?_ trivial trivial ?_
   ·exact ⟨(iP rfl),(iP rfl),(cr ag),trivial⟩
   ·exact ⟨(cm rfl rfl rfl),(fi rfl rfl rfl rfl lz),trivial⟩
   kernel_rfl
  omega
 obtain rfl:h=40:=by omega
 have hco:lc ons=true:=by
  unfold lc
  rw [Bool.and_eq_true,decide_eq_true_eq,List.all_eq_true]
  exact ⟨hl4,fun k hk=> decide_eq_true (hks k (List.mem_range.1 hk))⟩
 refine bD (id (hK19 _ ?_))
 clear hK19;try clear K19
 refine am (ai (az _ aa rfl rfl rfl rfl) (bG rfl rfl rfl rfl rfl rfl (be rfl (aj (aG ?_)))))
 rw [Dw,if_pos hco]
 exact jT (.inr rfl) rfl (.cellA aa rfl rfl rfl) (.tmp kN) (Le.out [] [] (.tup rfl lz) rfl rfl rfl trivial trivial)

structure mh (s:Tx) (d v:List Tx) (ons:List (Nat×Bk)):Prop extends UOk d v ons where
 p:gw s=some (d,v,wo d v ons)
 l:s.length≤3000
 wl: ∀ p∈ons,qF p.2=true
theorem Aa {s:Tx} {d v:List Tx} {ons:List (Nat×Bk)} (U:mh s d v ons) (hc:lc ons=true):
  Spec Tryz.prog 64 (ba [.v (bt s)] []) (aP (Dw d v ons) []):=by
 have h1:=qN s U.l _ _ _ U.p
 have h2:Spec Tryz.prog 97 (ba [JG d v (wo d v ons)] []) (aP (.v (.int .i64 0)) []):=qU d v ons U.nd U.len U.ok U.wl U.n
 have h3:=nz d v ons U.toUOk
 rw [Dw,if_pos hc] at h3 ⊢
 obtain ⟨H,hH⟩: ∃ H,H=wo d v ons:=⟨_,rfl⟩
 rw [← hH] at h1 h2 h3
 clear hH
 refine Spec.ofN Tryz.func64 rfl Tryz.ntmps64 rfl ?_
 refine am (ai (aD (2,0) aa rfl rfl) (be rfl (aj (am (eh rfl (ai (aI aa al (h1) rfl rfl) ?_))))))
 refine ai (aH _ tN) (ai (cq _ rfl pE) (ai (cq _ rfl ei) (ai (cq _ rfl ei) (ai (aD (4,0) aa rfl rfl) (bG rfl rfl rfl rfl rfl rfl (be rfl (be rfl (aj (aq (am ?_))))))))))
 refine aX rfl (ai (bT (r:=false) _ _ rfl rfl rfl) (aj (aW rfl rfl (aS (am (ai (az _ aa rfl rfl rfl rfl) (ai (aI aa al (h2) rfl rfl) ?_)))))))
 refine be rfl (aj (aq (aq ?_)))
 refine aN (σ':=aE 32 [(2,_),(4,_),(6,_)] [((2,0),_),((4,0),_)] [] []) kp ?_
 refine an (aX rfl (ai (bT (r:=false) _ _ rfl rfl rfl) (aj (aW rfl rfl (aS (am (ai (az _ aa rfl rfl rfl rfl) (ai (aI aa al (h3) rfl rfl) ?_))))))))
 refine ai (aH _ tN) (ai (cq _ rfl pE) (ai (cq _ rfl ei) (ai (aD (7,0) aa rfl rfl) (bG rfl rfl rfl rfl rfl rfl (be rfl (aj (am (ai (az _ aa rfl rfl rfl rfl) (aX rfl (bG rfl rfl rfl rfl rfl rfl ?_))))))))))
 exact be rfl (aj (aG (jT (.inr rfl) rfl (.cellA aa rfl rfl rfl) (.tmp kN) (Le.out [] [] (.tup rfl lz) rfl rfl rfl trivial trivial))))
theorem Dm {s:Tx} {d v:List Tx} {ons:List (Nat×Bk)} (U:mh s d v ons) (hc:lc ons≠true):
  Spec Tryz.prog 64 (ba [.v (bt s)] []) (aP (Dw d v ons) []):=by
 have h1:=qN s U.l _ _ _ U.p
 have h2:Spec Tryz.prog 97 (ba [JG d v (wo d v ons)] []) (aP (.v (.int .i64 0)) []):=qU d v ons U.nd U.len U.ok U.wl U.n
 have h3:=nz d v ons U.toUOk
 rw [Dw,if_neg hc] at h3 ⊢
 generalize Ka ons=er at h3 ⊢
 obtain ⟨H,hH⟩: ∃ H,H=wo d v ons:=⟨_,rfl⟩
 rw [← hH] at h1 h2 h3
 clear hH
 refine Spec.ofN Tryz.func64 rfl Tryz.ntmps64 rfl ?_
 refine am (ai (aD (2,0) aa rfl rfl) (be rfl (aj (am (eh rfl (ai (aI aa al (h1) rfl rfl) ?_))))))
 refine ai (aH _ tN) (ai (cq _ rfl pE) (ai (cq _ rfl ei) (ai (cq _ rfl ei) (ai (aD (4,0) aa rfl rfl) (bG rfl rfl rfl rfl rfl rfl (be rfl (be rfl (aj (aq (am ?_))))))))))
 refine aX rfl (ai (bT (r:=false) _ _ rfl rfl rfl) (aj (aW rfl rfl (aS (am (ai (az _ aa rfl rfl rfl rfl) (ai (aI aa al (h2) rfl rfl) ?_)))))))
 refine be rfl (aj (aq (aq ?_)))
 refine aN (σ':=aE 32 [(2,_),(4,_),(6,_)] [((2,0),_),((4,0),_)] [] []) kp ?_
 refine an (aX rfl (ai (bT (r:=false) _ _ rfl rfl rfl) (aj (aW rfl rfl (aS (am (ai (az _ aa rfl rfl rfl rfl) (ai (aI aa al (h3) rfl rfl) ?_))))))))
 refine ai (aH _ tN) (ai (cq _ rfl pE) (ai (cq _ rfl ei) (ai (aD (7,0) aa rfl rfl) (bG rfl rfl rfl rfl rfl rfl (be rfl (aj (am (ai (az _ aa rfl rfl rfl rfl) (aX rfl (bG rfl rfl rfl rfl rfl rfl ?_))))))))))
 exact be rfl (aj (aG (jT (.inr rfl) rfl (.cellA aa rfl rfl rfl) (.tmp kN) (Le.out [] [] (.tup rfl lz) rfl rfl rfl trivial trivial))))
theorem wH {s:Tx} {d v:List Tx} {ons:List (Nat×Bk)} (U:mh s d v ons):
  Spec Tryz.prog 64 (ba [.v (bt s)] []) (aP (Dw d v ons) []):=by
 by_cases hc:lc ons=true
 ·exact Aa U hc
 exact Dm U hc
def durs:List (List Tx):=[BL,Br,Ai,BK,CL,BM,Ct,zO,Bp,AR,tX,uP]
def vols:List (List Tx):=[Bb,By,Af,BT,Dg,Bm,Bd,CZ,Bf,BE,uG,uC]
def onss:List (List (Nat×Bk)):=[ons0,ons1,ons2,ons3,ons4,ons5,ons6,ons7,ons8,ons9,ons10,ons11]
theorem iQ {d v:List Tx} {ons:List (Nat×Bk)} (h:vw ons (d++v).length) (h1:(d++v).Nodup) (h2:(d++v).length≤16) (h3:(ons.all fun p=> sJ p.2)=true) (h4:ons.length≤1000):UOk d v ons:=
 ⟨h1,h2,h.ok,fun p hp=> (List.all_eq_true.1 h3) p hp,h.h,by have:=h.n;omega,h4⟩
theorem Jq:mh (srcs.getD 0 []) BL Bb ons0:=⟨iQ srcOk0 ah ah ae ah,Ij,of_decide_eq_true ae,srcOk0.wl⟩
theorem Je:mh (srcs.getD 1 []) Br By ons1:=⟨iQ srcOk1 ah ah ae ah,GZ,of_decide_eq_true ae,srcOk1.wl⟩
theorem JB:mh (srcs.getD 2 []) Ai Af ons2:=⟨iQ srcOk2 ah ah ae ah,Ii,of_decide_eq_true ae,srcOk2.wl⟩
theorem IU:mh (srcs.getD 3 []) BK BT ons3:=⟨iQ srcOk3 ah ah ae ah,Hm,of_decide_eq_true ae,srcOk3.wl⟩
theorem IX:mh (srcs.getD 4 []) CL Dg ons4:=⟨iQ srcOk4 ah ah ae ah,HP,of_decide_eq_true ae,srcOk4.wl⟩
theorem Js:mh (srcs.getD 5 []) BM Bm ons5:=⟨iQ srcOk5 ah ah ae ah,HU,of_decide_eq_true ae,srcOk5.wl⟩
theorem IY:mh (srcs.getD 6 []) Ct Bd ons6:=⟨iQ srcOk6 ah ah ae ah,HI,of_decide_eq_true ae,srcOk6.wl⟩
theorem JK:mh (srcs.getD 7 []) zO CZ ons7:=⟨iQ srcOk7 ah ah ae ah,Hq,of_decide_eq_true ae,srcOk7.wl⟩
theorem Jn:mh (srcs.getD 8 []) Bp Bf ons8:=⟨iQ srcOk8 ah ah ae ah,HF,of_decide_eq_true ae,srcOk8.wl⟩
theorem JD:mh (srcs.getD 9 []) AR BE ons9:=⟨iQ srcOk9 ah ah ae ah,Hu,of_decide_eq_true ae,srcOk9.wl⟩
theorem HW:mh (srcs.getD 10 []) tX uG ons10:=⟨iQ srcOk10 ah ah ae ah,ED,of_decide_eq_true ae,srcOk10.wl⟩
theorem GQ:mh (srcs.getD 11 []) uP uC ons11:=⟨iQ srcOk11 ah ah ae ah,DY,of_decide_eq_true ae,srcOk11.wl⟩
theorem Ju (k:Nat) (hk:k < 12):mh (srcs.getD k []) (durs.getD k []) (vols.getD k []) (onss.getD k [])∧vw (onss.getD k []) (durs.getD k []++vols.getD k []).length:=by
 rcases k with _ | _ | _ | _ | _ | _ | _ | _ | _ | _ | _ | _ | k
 ·exact ⟨Jq,srcOk0⟩
 ·exact ⟨Je,srcOk1⟩
 ·exact ⟨JB,srcOk2⟩
 ·exact ⟨IU,srcOk3⟩
 ·exact ⟨IX,srcOk4⟩
 ·exact ⟨Js,srcOk5⟩
 ·exact ⟨IY,srcOk6⟩
 ·exact ⟨JK,srcOk7⟩
 ·exact ⟨Jn,srcOk8⟩
 ·exact ⟨JD,srcOk9⟩
 ·exact ⟨HW,srcOk10⟩
 ·exact ⟨GQ,srcOk11⟩
 omega
theorem sY:Spec Tryz.prog 108 (ba [] []) (aP (.sl 12 (fj srcs)) []):=by
 refine Spec.ofN Tryz.func108 rfl Tryz.ntmps108 rfl ?_
 refine am (ai (bq _ fA) (aj (am (ai (bi _ _ aa rfl ag (by (simp <;> rfl)) ah rfl) ?_))))
 exact kE rfl (aj (aG (bI (.inr rfl) rfl (.tmp mm) (Le.out [] [] (iY rfl ae) rfl rfl rfl trivial trivial))))
theorem uo (n:Int) (h1: -9223372036854775808≤n) (h2:n≤9223372036854775807):
  Spec Tryz.prog 75 (ba [.v (.int .i64 n)] []) (aP (.v (bt (srcs.getD (dO n 12).toNat []))) []):=by
 have ha:=jH n 12 ab ab h1 h2
 have hlo:=jf n 12 ab
 have hhi:=jX n 12 ab
 obtain ⟨k,hk⟩: ∃ k:Nat,dO n 12=(k:Int):=⟨(dO n 12).toNat,by omega⟩
 rw [hk] at ha hlo hhi ⊢
 have hk2:k < srcs.length:=by rw [Bt];omega
 have hg:=jP srcs k hk2
 have hs:=sY
 rw [Int.toNat_natCast]
 generalize srcs=S at hg hs hk2
 refine Spec.ofN Tryz.func75 rfl Tryz.ntmps75 rfl ?_
 refine am (oP rfl (aj (am (ai (aI aa (by repeat' (exact cV)) (hs) rfl rfl) ?_))))
 refine kE rfl (aj (am (eV rfl (aX rfl (eV rfl (ai (bp _ aa rfl) (ai (aI aa al (ha) rfl rfl) ?_)))))))
 refine ai (bo _ _ aa rfl rfl _ rfl ab (by (simp only [aL,bf,bh,bw,bv,bH,bz,bP,eH,aL,List.length_map];omega)) (by exact Nat.mul_one _)) ?_
 refine ai (bO _ aa rfl (by exact hg) rfl) ?_
 exact oP rfl (aj (aG (fq rfl rfl)))
theorem sC (n:Int) (h1: -9223372036854775808≤n) (h2:n≤9223372036854775807):
  Spec Tryz.prog 39 (ba [.v (.int .i64 n)] []) (aP (MD (durs.getD (dO n 12).toNat []) (vols.getD (dO n 12).toNat []) (onss.getD (dO n 12).toNat [])) []):=by
 have hs:=uo n h1 h2
 have hlo:=jf n 12 ab
 have hhi:=jX n 12 ab
 obtain ⟨k,hk⟩: ∃ k:Nat,dO n 12=(k:Int):=⟨(dO n 12).toNat,by omega⟩
 rw [hk] at hs hlo hhi ⊢
 rw [Int.toNat_natCast] at hs ⊢
 obtain ⟨U,hS⟩:=Ju k ab
 have hb:=wH U
 rw [Dw,if_pos (zB hS)] at hb
 generalize srcs.getD k []=s at hs hb
 generalize durs.getD k []=d at hb ⊢
 generalize vols.getD k []=v at hb ⊢
 generalize onss.getD k []=ons at hb ⊢
 clear U hS
 refine Spec.ofN Tryz.func39 rfl Tryz.ntmps39 rfl ?_
 refine am (ai (aD (2,0) aa rfl rfl) (aj (am (aX rfl (ai (aI aa al (hs) rfl rfl) ?_)))))
 refine ai (aI aa al (hb) rfl rfl) ?_
 refine ai (aH _ tN) (ai (cq _ rfl pE) (ai (cq _ rfl ei) (ai (aD (3,0) aa rfl rfl) (bG rfl rfl rfl rfl rfl rfl (be rfl (aj (am (ai (az _ aa rfl rfl rfl rfl) (bG rfl rfl rfl rfl rfl rfl (aj ?_))))))))))
 exact aG (bI (.inr rfl) rfl (.cellA aa rfl rfl rfl) (Le.out [] [] (.agg rfl lz) rfl rfl rfl trivial trivial))

structure GL (L:List Int):Prop where
 n:L.length≤4611686018427387904
 r: ∀ x∈L, -9223372036854775808≤x∧x≤9223372036854775807

structure Pg where
 c:List eR
 e:Nat→Int
 d:Nat
 v:Nat
abbrev QG (p:Pg):List AV:=FD p.c.length (inl p.c) p.e (p.d:Int) (p.v:Int)
abbrev ii (p:Pg):AV:= .agg (QG p)
end Go.Proofs.YtmjnackchaahbaaGreat
