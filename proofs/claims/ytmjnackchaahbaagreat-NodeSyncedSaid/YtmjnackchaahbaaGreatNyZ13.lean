/- Part 13 of the texts that the walk leans on: the machine, the walks, the plain laws. -/
import Derived.Test.YtmjnackchaahbaaGreatNyZ12
set_option linter.unusedSimpArgs false
set_option linter.unusedVariables false
namespace Go.Proofs.YtmjnackchaahbaaGreat
open Go.RowKit

abbrev Hf (c:AV) (e:Nat→Int) (d v:Int):List AV:=[c, .v (.int .i64 (e 0)), .v (.int .i64 (e 1)), .v (.int .i64 (e 2)), .v (.int .i64 (e 3)), .v (.int .i64 (e 4)), .v (.int .i64 (e 5)), .v (.int .i64 (e 6)), .v (.int .i64 (e 7)), .v (.int .i64 (e 8)), .v (.int .i64 (e 9)), .v (.int .i64 (e 10)), .v (.int .i64 (e 11)), .v (.int .i64 (e 12)), .v (.int .i64 (e 13)), .v (.int .i64 (e 14)), .v (.int .i64 (e 15)), .v (.int .i64 (e 16)), .v (.int .i64 (e 17)), .v (.int .i64 (e 18)), .v (.int .i64 (e 19)), .v (.int .i64 (e 20)), .v (.int .i64 (e 21)), .v (.int .i64 (e 22)), .v (.int .i64 (e 23)), .v (.int .i64 (e 24)), .v (.int .i64 (e 25)), .v (.int .i64 (e 26)), .v (.int .i64 (e 27)), .v (.int .i64 (e 28)), .v (.int .i64 (e 29)), .v (.int .i64 (e 30)), .v (.int .i64 (e 31)), .v (.int .i64 (e 32)), .v (.int .i64 (e 33)), .v (.int .i64 (e 34)), .v (.int .i64 (e 35)), .v (.int .i64 (e 36)), .v (.int .i64 (e 37)), .v (.int .i64 (e 38)), .v (.int .i64 (e 39)), .v (.int .i64 d), .v (.int .i64 v)]
abbrev El (n:Nat) (xs:List PV) (e:Nat→Int) (d v:Int):List AV:=Hf (.sl n xs) e d v
def lj (e:Nat→Int) (h:Nat) (x:Int):Nat→Int:=fun k=> if k=h then x else e k
theorem tg (c:AV) (e:Nat→Int) (d v:Int) (h:Nat) (hh:h < 40) (x:Int):fW (Hf c e d v) (1+h) [.v (.int .i64 x)]=Hf c (lj e h x) d v:=by
 rcases h with _ | _ | _ | _ | _ | _ | _ | _ | _ | _ | _ | _ | _ | _ | _ | _ | _ | _ | _ | _ | _ | _ | _ | _ | _ | _ | _ | _ | _ | _ | _ | _ | _ | _ | _ | _ | _ | _ | _ | _ | h
 all_goals first | rfl | omega
theorem sZ (n:Nat) (xs:List PV) (e:Nat→Int) (d v:Int) (h:Nat) (hh:h < 40):(El n xs e d v)[1+h]? =some (.v (.int .i64 (e h))):=by
 rcases h with _ | _ | _ | _ | _ | _ | _ | _ | _ | _ | _ | _ | _ | _ | _ | _ | _ | _ | _ | _ | _ | _ | _ | _ | _ | _ | _ | _ | _ | _ | _ | _ | _ | _ | _ | _ | _ | _ | _ | _ | h
 all_goals first | rfl | omega
def GE (l:List Nat):List PV:=l.map fun (x:Nat)=> .v (.int .i64 (x:Int))
@[simp] theorem eI (l:List Nat):(GE l).length=l.length:=by simp [GE]
theorem FM (l:List Nat) (k:Nat) (h:k < l.length):(GE l)[k]? =some (.v (.int .i64 (l.getD k 0:Int))):=by simp [GE,h]
theorem zl:Spec Tryz.prog 106 (ba [.v (.int .i64 1)] []) (aO (.v (.int .i64 0)) []):=by
 refine Spec.ofN Tryz.func106 rfl Tryz.ntmps106 rfl ?_
 refine am (be rfl (aj (aq (am (aX rfl (aj (ax (aq (iE rfl rfl rfl rfl rfl (aS ?_))))))))))
 exact bL rfl rfl (am (be rfl (aj (aG (ft rfl rfl)))))
theorem Am:Spec Tryz.prog 106 (ba [.v (.int .i64 2)] []) (aO (.v (.int .i64 0)) []):=by
 refine Spec.ofN Tryz.func106 rfl Tryz.ntmps106 rfl ?_
 refine am (be rfl (aj (aq (am (aX rfl (aj (ax (aq (cI rfl rfl rfl rfl rfl (iE rfl rfl rfl rfl rfl ?_))))))))))
 exact aS (bL rfl rfl (am (be rfl (aj (aG (ft rfl rfl))))))
theorem vd:Spec Tryz.prog 106 (ba [.v (.int .i64 3)] []) (aO (.v (.int .i64 1)) []):=by
 refine Spec.ofN Tryz.func106 rfl Tryz.ntmps106 rfl ?_
 refine am (be rfl (aj (aq (am (aX rfl (aj (ax (aq ?_))))))))
 iterate 7 refine cI rfl rfl rfl rfl rfl ?_
 refine aM (σ':=aD 31 [(3,_)] [] [] []) kp ?_
 refine dZ rfl rfl rfl rfl rfl (aq ?_)
 iterate 3 refine cI rfl rfl rfl rfl rfl ?_
 exact iE rfl rfl rfl rfl rfl (aS (bL rfl rfl (am (be rfl (aj (aG (ft rfl rfl)))))))
theorem ye:Spec Tryz.prog 106 (ba [.v (.int .i64 4)] []) (aO (.v (.int .i64 0)) []):=by
 refine Spec.ofN Tryz.func106 rfl Tryz.ntmps106 rfl ?_
 refine am (be rfl (aj (aq (am (aX rfl (aj (ax (aq ?_))))))))
 iterate 2 refine cI rfl rfl rfl rfl rfl ?_
 exact iE rfl rfl rfl rfl rfl (aS (bL rfl rfl (am (be rfl (aj (aG (ft rfl rfl)))))))
theorem xV:Spec Tryz.prog 106 (ba [.v (.int .i64 5)] []) (aO (.v (.int .i64 1)) []):=by
 refine Spec.ofN Tryz.func106 rfl Tryz.ntmps106 rfl ?_
 refine am (be rfl (aj (aq (am (aX rfl (aj (ax (aq ?_))))))))
 iterate 7 refine cI rfl rfl rfl rfl rfl ?_
 refine aM (σ':=aD 31 [(3,_)] [] [] []) kp ?_
 exact dZ rfl rfl rfl rfl rfl (aq (iE rfl rfl rfl rfl rfl (aS (bL rfl rfl (am (be rfl (aj (aG (ft rfl rfl)))))))))
theorem Ce:Spec Tryz.prog 106 (ba [.v (.int .i64 6)] []) (aO (.v (.int .i64 2)) []):=by
 refine Spec.ofN Tryz.func106 rfl Tryz.ntmps106 rfl ?_
 refine am (be rfl (aj (aq (am (aX rfl (aj (ax (aq ?_))))))))
 iterate 7 refine cI rfl rfl rfl rfl rfl ?_
 refine aM (σ':=aD 31 [(3,_)] [] [] []) kp ?_
 refine dZ rfl rfl rfl rfl rfl (aq ?_)
 iterate 5 refine cI rfl rfl rfl rfl rfl ?_
 refine dZ rfl rfl rfl rfl rfl (aq (iE rfl rfl rfl rfl rfl (aS (bL rfl rfl (aq ?_)))))
 refine aM (σ':=aD 31 [] [] [] []) kp ?_
 exact an (be rfl (aj (aG (ft rfl rfl))))
theorem Az:Spec Tryz.prog 106 (ba [.v (.int .i64 7)] []) (aO (.v (.int .i64 2)) []):=by
 refine Spec.ofN Tryz.func106 rfl Tryz.ntmps106 rfl ?_
 refine am (be rfl (aj (aq (am (aX rfl (aj (ax (aq ?_))))))))
 iterate 7 refine cI rfl rfl rfl rfl rfl ?_
 refine aM (σ':=aD 31 [(3,_)] [] [] []) kp ?_
 refine dZ rfl rfl rfl rfl rfl (aq ?_)
 iterate 5 refine cI rfl rfl rfl rfl rfl ?_
 refine dZ rfl rfl rfl rfl rfl (aq (cI rfl rfl rfl rfl rfl (aq ?_)))
 refine aM (σ':=aD 31 [(3,_)] [] [] []) kp ?_
 exact zr rfl rfl rfl rfl rfl (aS (bL rfl rfl (am (be rfl (aj (aG (ft rfl rfl)))))))
theorem Bj:Spec Tryz.prog 106 (ba [.v (.int .i64 8)] []) (aO (.v (.int .i64 2)) []):=by
 refine Spec.ofN Tryz.func106 rfl Tryz.ntmps106 rfl ?_
 refine am (be rfl (aj (aq (am (aX rfl (aj (ax (aq ?_))))))))
 iterate 7 refine cI rfl rfl rfl rfl rfl ?_
 refine aM (σ':=aD 31 [(3,_)] [] [] []) kp ?_
 refine dZ rfl rfl rfl rfl rfl (aq ?_)
 iterate 5 refine cI rfl rfl rfl rfl rfl ?_
 refine dZ rfl rfl rfl rfl rfl (aq (cI rfl rfl rfl rfl rfl (aq ?_)))
 refine aM (σ':=aD 31 [(3,_)] [] [] []) kp ?_
 exact dZ rfl rfl rfl rfl rfl (iE rfl rfl rfl rfl rfl (aS (bL rfl rfl (am (be rfl (aj (aG (ft rfl rfl))))))))
theorem AW:Spec Tryz.prog 106 (ba [.v (.int .i64 9)] []) (aO (.v (.int .i64 2)) []):=by
 refine Spec.ofN Tryz.func106 rfl Tryz.ntmps106 rfl ?_
 refine am (be rfl (aj (aq (am (aX rfl (aj (ax (aq ?_))))))))
 iterate 7 refine cI rfl rfl rfl rfl rfl ?_
 refine aM (σ':=aD 31 [(3,_)] [] [] []) kp ?_
 refine dZ rfl rfl rfl rfl rfl (aq ?_)
 iterate 5 refine cI rfl rfl rfl rfl rfl ?_
 refine dZ rfl rfl rfl rfl rfl (aq (cI rfl rfl rfl rfl rfl (aq ?_)))
 refine aM (σ':=aD 31 [(3,_)] [] [] []) kp ?_
 exact dZ rfl rfl rfl rfl rfl (cI rfl rfl rfl rfl rfl (iE rfl rfl rfl rfl rfl (aS (bL rfl rfl (am (be rfl (aj (aG (ft rfl rfl)))))))))
theorem Dg:Spec Tryz.prog 106 (ba [.v (.int .i64 10)] []) (aO (.v (.int .i64 1)) []):=by
 refine Spec.ofN Tryz.func106 rfl Tryz.ntmps106 rfl ?_
 refine am (be rfl (aj (aq (am (aX rfl (aj (ax (aq ?_))))))))
 iterate 7 refine cI rfl rfl rfl rfl rfl ?_
 refine aM (σ':=aD 31 [(3,_)] [] [] []) kp ?_
 exact dZ rfl rfl rfl rfl rfl (aq (cI rfl rfl rfl rfl rfl (iE rfl rfl rfl rfl rfl (aS (bL rfl rfl (am (be rfl (aj (aG (ft rfl rfl))))))))))
theorem EA:Spec Tryz.prog 106 (ba [.v (.int .i64 11)] []) (aO (.v (.int .i64 2)) []):=by
 refine Spec.ofN Tryz.func106 rfl Tryz.ntmps106 rfl ?_
 refine am (be rfl (aj (aq (am (aX rfl (aj (ax (aq ?_))))))))
 iterate 7 refine cI rfl rfl rfl rfl rfl ?_
 refine aM (σ':=aD 31 [(3,_)] [] [] []) kp ?_
 refine dZ rfl rfl rfl rfl rfl (aq ?_)
 iterate 5 refine cI rfl rfl rfl rfl rfl ?_
 refine dZ rfl rfl rfl rfl rfl (aq (cI rfl rfl rfl rfl rfl (aq ?_)))
 refine aM (σ':=aD 31 [(3,_)] [] [] []) kp ?_
 refine dZ rfl rfl rfl rfl rfl ?_
 iterate 2 refine cI rfl rfl rfl rfl rfl ?_
 exact iE rfl rfl rfl rfl rfl (aS (bL rfl rfl (am (be rfl (aj (aG (ft rfl rfl)))))))
theorem EL:Spec Tryz.prog 106 (ba [.v (.int .i64 12)] []) (aO (.v (.int .i64 2)) []):=by
 refine Spec.ofN Tryz.func106 rfl Tryz.ntmps106 rfl ?_
 refine am (be rfl (aj (aq (am (aX rfl (aj (ax (aq ?_))))))))
 iterate 7 refine cI rfl rfl rfl rfl rfl ?_
 refine aM (σ':=aD 31 [(3,_)] [] [] []) kp ?_
 refine dZ rfl rfl rfl rfl rfl (aq ?_)
 iterate 5 refine cI rfl rfl rfl rfl rfl ?_
 refine dZ rfl rfl rfl rfl rfl (aq (cI rfl rfl rfl rfl rfl (aq ?_)))
 refine aM (σ':=aD 31 [(3,_)] [] [] []) kp ?_
 refine dZ rfl rfl rfl rfl rfl ?_
 iterate 3 refine cI rfl rfl rfl rfl rfl ?_
 exact iE rfl rfl rfl rfl rfl (aS (bL rfl rfl (am (be rfl (aj (aG (ft rfl rfl)))))))
theorem Eg:Spec Tryz.prog 106 (ba [.v (.int .i64 13)] []) (aO (.v (.int .i64 2)) []):=by
 refine Spec.ofN Tryz.func106 rfl Tryz.ntmps106 rfl ?_
 refine am (be rfl (aj (aq (am (aX rfl (aj (ax (aq ?_))))))))
 iterate 7 refine cI rfl rfl rfl rfl rfl ?_
 refine aM (σ':=aD 31 [(3,_)] [] [] []) kp ?_
 refine dZ rfl rfl rfl rfl rfl (aq ?_)
 iterate 5 refine cI rfl rfl rfl rfl rfl ?_
 refine dZ rfl rfl rfl rfl rfl (aq (cI rfl rfl rfl rfl rfl (aq ?_)))
 refine aM (σ':=aD 31 [(3,_)] [] [] []) kp ?_
 refine dZ rfl rfl rfl rfl rfl ?_
 iterate 4 refine cI rfl rfl rfl rfl rfl ?_
 exact iE rfl rfl rfl rfl rfl (aS (bL rfl rfl (am (be rfl (aj (aG (ft rfl rfl)))))))
theorem BH:Spec Tryz.prog 106 (ba [.v (.int .i64 14)] []) (aO (.v (.int .i64 1)) []):=by
 refine Spec.ofN Tryz.func106 rfl Tryz.ntmps106 rfl ?_
 refine am (be rfl (aj (aq (am (aX rfl (aj (ax (aq ?_))))))))
 iterate 7 refine cI rfl rfl rfl rfl rfl ?_
 refine aM (σ':=aD 31 [(3,_)] [] [] []) kp ?_
 refine dZ rfl rfl rfl rfl rfl (aq ?_)
 iterate 2 refine cI rfl rfl rfl rfl rfl ?_
 exact iE rfl rfl rfl rfl rfl (aS (bL rfl rfl (am (be rfl (aj (aG (ft rfl rfl)))))))
theorem yX:Spec Tryz.prog 106 (ba [.v (.int .i64 15)] []) (aO (.v (.int .i64 0)) []):=by
 refine Spec.ofN Tryz.func106 rfl Tryz.ntmps106 rfl ?_
 refine am (be rfl (aj (aq (am (aX rfl (aj (ax (aq ?_))))))))
 iterate 3 refine cI rfl rfl rfl rfl rfl ?_
 exact iE rfl rfl rfl rfl rfl (aS (bL rfl rfl (am (be rfl (aj (aG (ft rfl rfl)))))))
theorem BD:Spec Tryz.prog 106 (ba [.v (.int .i64 16)] []) (aO (.v (.int .i64 1)) []):=by
 refine Spec.ofN Tryz.func106 rfl Tryz.ntmps106 rfl ?_
 refine am (be rfl (aj (aq (am (aX rfl (aj (ax (aq ?_))))))))
 iterate 7 refine cI rfl rfl rfl rfl rfl ?_
 refine aM (σ':=aD 31 [(3,_)] [] [] []) kp ?_
 refine dZ rfl rfl rfl rfl rfl (aq ?_)
 iterate 4 refine cI rfl rfl rfl rfl rfl ?_
 exact iE rfl rfl rfl rfl rfl (aS (bL rfl rfl (am (be rfl (aj (aG (ft rfl rfl)))))))
theorem zk:Spec Tryz.prog 106 (ba [.v (.int .i64 17)] []) (aO (.v (.int .i64 3)) []):=by
 refine Spec.ofN Tryz.func106 rfl Tryz.ntmps106 rfl ?_
 refine am (be rfl (aj (aq (am (aX rfl (aj (ax (aq ?_))))))))
 iterate 7 refine cI rfl rfl rfl rfl rfl ?_
 refine aM (σ':=aD 31 [(3,_)] [] [] []) kp ?_
 refine dZ rfl rfl rfl rfl rfl (aq ?_)
 iterate 5 refine cI rfl rfl rfl rfl rfl ?_
 refine dZ rfl rfl rfl rfl rfl (aq (cI rfl rfl rfl rfl rfl (aq ?_)))
 refine aM (σ':=aD 31 [(3,_)] [] [] []) kp ?_
 refine dZ rfl rfl rfl rfl rfl ?_
 iterate 5 refine cI rfl rfl rfl rfl rfl ?_
 refine dZ rfl rfl rfl rfl rfl (iE rfl rfl rfl rfl rfl (aq ?_))
 refine aM (σ':=aD 31 [] [] [] []) kp ?_
 exact an (be rfl (aj (aG (ft rfl rfl))))
theorem we:Spec Tryz.prog 106 (ba [.v (.int .i64 18)] []) (aO (.v (.int .i64 0)) []):=by
 refine Spec.ofN Tryz.func106 rfl Tryz.ntmps106 rfl ?_
 refine am (be rfl (aj (aq (am (aX rfl (aj (ax (aq ?_))))))))
 iterate 4 refine cI rfl rfl rfl rfl rfl ?_
 exact iE rfl rfl rfl rfl rfl (aS (bL rfl rfl (am (be rfl (aj (aG (ft rfl rfl)))))))
theorem uh:Spec Tryz.prog 106 (ba [.v (.int .i64 19)] []) (aO (.v (.int .i64 0)) []):=by
 refine Spec.ofN Tryz.func106 rfl Tryz.ntmps106 rfl ?_
 refine am (be rfl (aj (aq (am (aX rfl (aj (ax (aq ?_))))))))
 iterate 5 refine cI rfl rfl rfl rfl rfl ?_
 exact iE rfl rfl rfl rfl rfl (aS (bL rfl rfl (am (be rfl (aj (aG (ft rfl rfl)))))))
theorem xH:Spec Tryz.prog 106 (ba [.v (.int .i64 20)] []) (aO (.v (.int .i64 0)) []):=by
 refine Spec.ofN Tryz.func106 rfl Tryz.ntmps106 rfl ?_
 refine am (be rfl (aj (aq (am (aX rfl (aj (ax (aq ?_))))))))
 iterate 6 refine cI rfl rfl rfl rfl rfl ?_
 refine iE rfl rfl rfl rfl rfl (aS (bL rfl rfl (aq ?_)))
 refine aM (σ':=aD 31 [] [] [] []) kp ?_
 exact an (be rfl (aj (aG (ft rfl rfl))))
theorem wG:Spec Tryz.prog 106 (ba [.v (.int .i64 21)] []) (aO (.v (.int .i64 2)) []):=by
 refine Spec.ofN Tryz.func106 rfl Tryz.ntmps106 rfl ?_
 refine am (be rfl (aj (aq (am (aX rfl (aj (ax (aq ?_))))))))
 iterate 7 refine cI rfl rfl rfl rfl rfl ?_
 refine aM (σ':=aD 31 [(3,_)] [] [] []) kp ?_
 refine dZ rfl rfl rfl rfl rfl (aq ?_)
 iterate 5 refine cI rfl rfl rfl rfl rfl ?_
 refine dZ rfl rfl rfl rfl rfl (aq (cI rfl rfl rfl rfl rfl (aq ?_)))
 refine aM (σ':=aD 31 [(3,_)] [] [] []) kp ?_
 refine dZ rfl rfl rfl rfl rfl ?_
 iterate 5 refine cI rfl rfl rfl rfl rfl ?_
 exact zr rfl rfl rfl rfl rfl (am (be rfl (aj (aG (ft rfl rfl)))))
theorem yj:Spec Tryz.prog 106 (ba [.v (.int .i64 22)] []) (aO (.v (.int .i64 1)) []):=by
 refine Spec.ofN Tryz.func106 rfl Tryz.ntmps106 rfl ?_
 refine am (be rfl (aj (aq (am (aX rfl (aj (ax (aq ?_))))))))
 iterate 7 refine cI rfl rfl rfl rfl rfl ?_
 refine aM (σ':=aD 31 [(3,_)] [] [] []) kp ?_
 refine dZ rfl rfl rfl rfl rfl (aq ?_)
 iterate 5 refine cI rfl rfl rfl rfl rfl ?_
 exact zr rfl rfl rfl rfl rfl (am (be rfl (aj (aG (ft rfl rfl)))))
theorem yF:Spec Tryz.prog 106 (ba [.v (.int .i64 23)] []) (aO (.v (.int .i64 0)) []):=by
 refine Spec.ofN Tryz.func106 rfl Tryz.ntmps106 rfl ?_
 refine am (be rfl (aj (aq (am (aX rfl (aj (ax (aq ?_))))))))
 iterate 7 refine cI rfl rfl rfl rfl rfl ?_
 refine aM (σ':=aD 31 [(3,_)] [] [] []) kp ?_
 exact zr rfl rfl rfl rfl rfl (am (be rfl (aj (aG (ft rfl rfl)))))
theorem rG (o:Opc):Spec Tryz.prog 106 (ba [.v (.int .i64 (o.num:Int))] []) (aO (.v (.int .i64 (o.pops:Int))) []):=by
 cases o
 ·exact zl
 ·exact Am
 ·exact vd
 ·exact ye
 ·exact xV
 ·exact Ce
 ·exact Az
 ·exact Bj
 ·exact AW
 ·exact Dg
 ·exact EA
 ·exact EL
 ·exact Eg
 ·exact BH
 ·exact yX
 ·exact BD
 ·exact zk
 ·exact we
 ·exact uh
 ·exact xH
 ·exact wG
 ·exact yj
 exact yF
theorem zg:Spec Tryz.prog 107 (ba [.v (.int .i64 1)] []) (aO (.v (.int .i64 1)) []):=by
 refine Spec.ofN Tryz.func107 rfl Tryz.ntmps107 rfl ?_
 refine am (be rfl (aj (aq (am (aX rfl (aj (ax (aq (iE rfl rfl rfl rfl rfl (aS ?_))))))))))
 exact bL rfl rfl (am (be rfl (aj (aG (ft rfl rfl)))))
theorem zS:Spec Tryz.prog 107 (ba [.v (.int .i64 2)] []) (aO (.v (.int .i64 1)) []):=by
 refine Spec.ofN Tryz.func107 rfl Tryz.ntmps107 rfl ?_
 refine am (be rfl (aj (aq (am (aX rfl (aj (ax (aq (cI rfl rfl rfl rfl rfl (iE rfl rfl rfl rfl rfl ?_))))))))))
 exact aS (bL rfl rfl (am (be rfl (aj (aG (ft rfl rfl))))))
theorem tV:Spec Tryz.prog 107 (ba [.v (.int .i64 3)] []) (aO (.v (.int .i64 0)) []):=by
 refine Spec.ofN Tryz.func107 rfl Tryz.ntmps107 rfl ?_
 refine am (be rfl (aj (aq (am (aX rfl (aj (ax (aq ?_))))))))
 iterate 7 refine cI rfl rfl rfl rfl rfl ?_
 refine aq ?_
 refine aM (σ':=aD 18 [(3,_)] [] [] []) kp ?_
 refine dZ rfl rfl rfl rfl rfl ?_
 iterate 4 refine cI rfl rfl rfl rfl rfl ?_
 exact dZ rfl rfl rfl rfl rfl (cr (am (be rfl (aj (aG (ft rfl rfl))))))
theorem yw:Spec Tryz.prog 107 (ba [.v (.int .i64 4)] []) (aO (.v (.int .i64 1)) []):=by
 refine Spec.ofN Tryz.func107 rfl Tryz.ntmps107 rfl ?_
 refine am (be rfl (aj (aq (am (aX rfl (aj (ax (aq ?_))))))))
 iterate 2 refine cI rfl rfl rfl rfl rfl ?_
 exact iE rfl rfl rfl rfl rfl (aS (bL rfl rfl (am (be rfl (aj (aG (ft rfl rfl)))))))
theorem zj:Spec Tryz.prog 107 (ba [.v (.int .i64 5)] []) (aO (.v (.int .i64 1)) []):=by
 refine Spec.ofN Tryz.func107 rfl Tryz.ntmps107 rfl ?_
 refine am (be rfl (aj (aq (am (aX rfl (aj (ax (aq ?_))))))))
 iterate 3 refine cI rfl rfl rfl rfl rfl ?_
 exact iE rfl rfl rfl rfl rfl (aS (bL rfl rfl (am (be rfl (aj (aG (ft rfl rfl)))))))
theorem By:Spec Tryz.prog 107 (ba [.v (.int .i64 6)] []) (aO (.v (.int .i64 1)) []):=by
 refine Spec.ofN Tryz.func107 rfl Tryz.ntmps107 rfl ?_
 refine am (be rfl (aj (aq (am (aX rfl (aj (ax (aq ?_))))))))
 iterate 6 refine cI rfl rfl rfl rfl rfl ?_
 refine iE rfl rfl rfl rfl rfl (aS (bL rfl rfl (aq ?_)))
 refine aM (σ':=aD 18 [] [] [] []) kp ?_
 exact an (be rfl (aj (aG (ft rfl rfl))))
theorem CX:Spec Tryz.prog 107 (ba [.v (.int .i64 7)] []) (aO (.v (.int .i64 1)) []):=by
 refine Spec.ofN Tryz.func107 rfl Tryz.ntmps107 rfl ?_
 refine am (be rfl (aj (aq (am (aX rfl (aj (ax (aq ?_))))))))
 iterate 7 refine cI rfl rfl rfl rfl rfl ?_
 refine aq ?_
 refine aM (σ':=aD 18 [(3,_)] [] [] []) kp ?_
 exact zr rfl rfl rfl rfl rfl (aS (bL rfl rfl (am (be rfl (aj (aG (ft rfl rfl)))))))
theorem Cy:Spec Tryz.prog 107 (ba [.v (.int .i64 8)] []) (aO (.v (.int .i64 1)) []):=by
 refine Spec.ofN Tryz.func107 rfl Tryz.ntmps107 rfl ?_
 refine am (be rfl (aj (aq (am (aX rfl (aj (ax (aq ?_))))))))
 iterate 7 refine cI rfl rfl rfl rfl rfl ?_
 refine aq ?_
 refine aM (σ':=aD 18 [(3,_)] [] [] []) kp ?_
 exact dZ rfl rfl rfl rfl rfl (iE rfl rfl rfl rfl rfl (aS (bL rfl rfl (am (be rfl (aj (aG (ft rfl rfl))))))))
theorem zG:Spec Tryz.prog 107 (ba [.v (.int .i64 9)] []) (aO (.v (.int .i64 1)) []):=by
 refine Spec.ofN Tryz.func107 rfl Tryz.ntmps107 rfl ?_
 refine am (be rfl (aj (aq (am (aX rfl (aj (ax (aq ?_))))))))
 iterate 7 refine cI rfl rfl rfl rfl rfl ?_
 refine aq ?_
 refine aM (σ':=aD 18 [(3,_)] [] [] []) kp ?_
 exact dZ rfl rfl rfl rfl rfl (cI rfl rfl rfl rfl rfl (iE rfl rfl rfl rfl rfl (aS (bL rfl rfl (am (be rfl (aj (aG (ft rfl rfl)))))))))
theorem BQ:Spec Tryz.prog 107 (ba [.v (.int .i64 10)] []) (aO (.v (.int .i64 1)) []):=by
 refine Spec.ofN Tryz.func107 rfl Tryz.ntmps107 rfl ?_
 refine am (be rfl (aj (aq (am (aX rfl (aj (ax (aq ?_))))))))
 iterate 4 refine cI rfl rfl rfl rfl rfl ?_
 exact iE rfl rfl rfl rfl rfl (aS (bL rfl rfl (am (be rfl (aj (aG (ft rfl rfl)))))))
theorem EE:Spec Tryz.prog 107 (ba [.v (.int .i64 11)] []) (aO (.v (.int .i64 1)) []):=by
 refine Spec.ofN Tryz.func107 rfl Tryz.ntmps107 rfl ?_
 refine am (be rfl (aj (aq (am (aX rfl (aj (ax (aq ?_))))))))
 iterate 7 refine cI rfl rfl rfl rfl rfl ?_
 refine aq ?_
 refine aM (σ':=aD 18 [(3,_)] [] [] []) kp ?_
 refine dZ rfl rfl rfl rfl rfl ?_
 iterate 2 refine cI rfl rfl rfl rfl rfl ?_
 exact iE rfl rfl rfl rfl rfl (aS (bL rfl rfl (am (be rfl (aj (aG (ft rfl rfl)))))))
theorem Ej:Spec Tryz.prog 107 (ba [.v (.int .i64 12)] []) (aO (.v (.int .i64 1)) []):=by
 refine Spec.ofN Tryz.func107 rfl Tryz.ntmps107 rfl ?_
 refine am (be rfl (aj (aq (am (aX rfl (aj (ax (aq ?_))))))))
 iterate 7 refine cI rfl rfl rfl rfl rfl ?_
 refine aq ?_
 refine aM (σ':=aD 18 [(3,_)] [] [] []) kp ?_
 refine dZ rfl rfl rfl rfl rfl ?_
 iterate 3 refine cI rfl rfl rfl rfl rfl ?_
 exact iE rfl rfl rfl rfl rfl (aS (bL rfl rfl (am (be rfl (aj (aG (ft rfl rfl)))))))
theorem Fu:Spec Tryz.prog 107 (ba [.v (.int .i64 13)] []) (aO (.v (.int .i64 1)) []):=by
 refine Spec.ofN Tryz.func107 rfl Tryz.ntmps107 rfl ?_
 refine am (be rfl (aj (aq (am (aX rfl (aj (ax (aq ?_))))))))
 iterate 7 refine cI rfl rfl rfl rfl rfl ?_
 refine aq ?_
 refine aM (σ':=aD 18 [(3,_)] [] [] []) kp ?_
 refine dZ rfl rfl rfl rfl rfl ?_
 iterate 4 refine cI rfl rfl rfl rfl rfl ?_
 exact zr rfl rfl rfl rfl rfl (am (be rfl (aj (aG (ft rfl rfl)))))
theorem Av:Spec Tryz.prog 107 (ba [.v (.int .i64 14)] []) (aO (.v (.int .i64 1)) []):=by
 refine Spec.ofN Tryz.func107 rfl Tryz.ntmps107 rfl ?_
 refine am (be rfl (aj (aq (am (aX rfl (aj (ax (aq ?_))))))))
 iterate 5 refine cI rfl rfl rfl rfl rfl ?_
 exact iE rfl rfl rfl rfl rfl (aS (bL rfl rfl (am (be rfl (aj (aG (ft rfl rfl)))))))
theorem xP:Spec Tryz.prog 107 (ba [.v (.int .i64 15)] []) (aO (.v (.int .i64 0)) []):=by
 refine Spec.ofN Tryz.func107 rfl Tryz.ntmps107 rfl ?_
 refine am (be rfl (aj (aq (am (aX rfl (aj (ax (aq ?_))))))))
 iterate 7 refine cI rfl rfl rfl rfl rfl ?_
 refine aq ?_
 refine aM (σ':=aD 18 [(3,_)] [] [] []) kp ?_
 refine dZ rfl rfl rfl rfl rfl ?_
 iterate 4 refine cI rfl rfl rfl rfl rfl ?_
 exact dZ rfl rfl rfl rfl rfl (cr (am (be rfl (aj (aG (ft rfl rfl))))))
theorem Ao:Spec Tryz.prog 107 (ba [.v (.int .i64 16)] []) (aO (.v (.int .i64 0)) []):=by
 refine Spec.ofN Tryz.func107 rfl Tryz.ntmps107 rfl ?_
 refine am (be rfl (aj (aq (am (aX rfl (aj (ax (aq ?_))))))))
 iterate 7 refine cI rfl rfl rfl rfl rfl ?_
 refine aq ?_
 refine aM (σ':=aD 18 [(3,_)] [] [] []) kp ?_
 refine dZ rfl rfl rfl rfl rfl ?_
 iterate 4 refine cI rfl rfl rfl rfl rfl ?_
 exact dZ rfl rfl rfl rfl rfl (cr (am (be rfl (aj (aG (ft rfl rfl))))))
theorem zb:Spec Tryz.prog 107 (ba [.v (.int .i64 17)] []) (aO (.v (.int .i64 0)) []):=by
 refine Spec.ofN Tryz.func107 rfl Tryz.ntmps107 rfl ?_
 refine am (be rfl (aj (aq (am (aX rfl (aj (ax (aq ?_))))))))
 iterate 7 refine cI rfl rfl rfl rfl rfl ?_
 refine aq ?_
 refine aM (σ':=aD 18 [(3,_)] [] [] []) kp ?_
 refine dZ rfl rfl rfl rfl rfl ?_
 iterate 4 refine cI rfl rfl rfl rfl rfl ?_
 exact dZ rfl rfl rfl rfl rfl (cr (am (be rfl (aj (aG (ft rfl rfl))))))
theorem wk:Spec Tryz.prog 107 (ba [.v (.int .i64 18)] []) (aO (.v (.int .i64 0)) []):=by
 refine Spec.ofN Tryz.func107 rfl Tryz.ntmps107 rfl ?_
 refine am (be rfl (aj (aq (am (aX rfl (aj (ax (aq ?_))))))))
 iterate 7 refine cI rfl rfl rfl rfl rfl ?_
 refine aq ?_
 refine aM (σ':=aD 18 [(3,_)] [] [] []) kp ?_
 refine dZ rfl rfl rfl rfl rfl ?_
 iterate 4 refine cI rfl rfl rfl rfl rfl ?_
 exact dZ rfl rfl rfl rfl rfl (cr (am (be rfl (aj (aG (ft rfl rfl))))))
theorem tY:Spec Tryz.prog 107 (ba [.v (.int .i64 19)] []) (aO (.v (.int .i64 0)) []):=by
 refine Spec.ofN Tryz.func107 rfl Tryz.ntmps107 rfl ?_
 refine am (be rfl (aj (aq (am (aX rfl (aj (ax (aq ?_))))))))
 iterate 7 refine cI rfl rfl rfl rfl rfl ?_
 refine aq ?_
 refine aM (σ':=aD 18 [(3,_)] [] [] []) kp ?_
 refine dZ rfl rfl rfl rfl rfl ?_
 iterate 4 refine cI rfl rfl rfl rfl rfl ?_
 exact dZ rfl rfl rfl rfl rfl (cr (am (be rfl (aj (aG (ft rfl rfl))))))
theorem yW:Spec Tryz.prog 107 (ba [.v (.int .i64 20)] []) (aO (.v (.int .i64 0)) []):=by
 refine Spec.ofN Tryz.func107 rfl Tryz.ntmps107 rfl ?_
 refine am (be rfl (aj (aq (am (aX rfl (aj (ax (aq ?_))))))))
 iterate 7 refine cI rfl rfl rfl rfl rfl ?_
 refine aq ?_
 refine aM (σ':=aD 18 [(3,_)] [] [] []) kp ?_
 refine dZ rfl rfl rfl rfl rfl ?_
 iterate 4 refine cI rfl rfl rfl rfl rfl ?_
 exact dZ rfl rfl rfl rfl rfl (cr (am (be rfl (aj (aG (ft rfl rfl))))))
theorem vW:Spec Tryz.prog 107 (ba [.v (.int .i64 21)] []) (aO (.v (.int .i64 0)) []):=by
 refine Spec.ofN Tryz.func107 rfl Tryz.ntmps107 rfl ?_
 refine am (be rfl (aj (aq (am (aX rfl (aj (ax (aq ?_))))))))
 iterate 7 refine cI rfl rfl rfl rfl rfl ?_
 refine aq ?_
 refine aM (σ':=aD 18 [(3,_)] [] [] []) kp ?_
 refine dZ rfl rfl rfl rfl rfl ?_
 iterate 4 refine cI rfl rfl rfl rfl rfl ?_
 exact dZ rfl rfl rfl rfl rfl (cr (am (be rfl (aj (aG (ft rfl rfl))))))
theorem za:Spec Tryz.prog 107 (ba [.v (.int .i64 22)] []) (aO (.v (.int .i64 0)) []):=by
 refine Spec.ofN Tryz.func107 rfl Tryz.ntmps107 rfl ?_
 refine am (be rfl (aj (aq (am (aX rfl (aj (ax (aq ?_))))))))
 iterate 7 refine cI rfl rfl rfl rfl rfl ?_
 refine aq ?_
 refine aM (σ':=aD 18 [(3,_)] [] [] []) kp ?_
 refine dZ rfl rfl rfl rfl rfl ?_
 iterate 4 refine cI rfl rfl rfl rfl rfl ?_
 exact dZ rfl rfl rfl rfl rfl (cr (am (be rfl (aj (aG (ft rfl rfl))))))
theorem yi:Spec Tryz.prog 107 (ba [.v (.int .i64 23)] []) (aO (.v (.int .i64 0)) []):=by
 refine Spec.ofN Tryz.func107 rfl Tryz.ntmps107 rfl ?_
 refine am (be rfl (aj (aq (am (aX rfl (aj (ax (aq ?_))))))))
 iterate 7 refine cI rfl rfl rfl rfl rfl ?_
 refine aq ?_
 refine aM (σ':=aD 18 [(3,_)] [] [] []) kp ?_
 refine dZ rfl rfl rfl rfl rfl ?_
 iterate 4 refine cI rfl rfl rfl rfl rfl ?_
 exact dZ rfl rfl rfl rfl rfl (cr (am (be rfl (aj (aG (ft rfl rfl))))))
theorem sa (o:Opc):Spec Tryz.prog 107 (ba [.v (.int .i64 (o.num:Int))] []) (aO (.v (.int .i64 (o.puts:Int))) []):=by
 cases o
 ·exact zg
 ·exact zS
 ·exact tV
 ·exact yw
 ·exact zj
 ·exact By
 ·exact CX
 ·exact Cy
 ·exact zG
 ·exact BQ
 ·exact EE
 ·exact Ej
 ·exact Fu
 ·exact Av
 ·exact xP
 ·exact Ao
 ·exact zb
 ·exact wk
 ·exact tY
 ·exact yW
 ·exact vW
 ·exact za
 exact yi
theorem opn_stop {o:Opc}:(o.num:Int)=23↔o= .stop:=by cases o <;> simp [Opc.num]
theorem opn_jump {o:Opc}:(o.num:Int)=15↔o= .jump:=by cases o <;> simp [Opc.num]
theorem opn_unl {o:Opc}:(o.num:Int)=16↔o= .unl:=by cases o <;> simp [Opc.num]
theorem zm (C:List eU) (e:Nat→Int) (dd vv:Int) (i:Nat) (hC:C.length≤1000000) (hi:i < C.length) (hn:(cZ C i).op= .jump∨(cZ C i).op= .unl→0≤(cZ C i).n):
  Spec Tryz.prog 73 (ba [.agg (El C.length (inl C) e dd vv), .v (.int .i64 (i:Int))] []) (aO (.sl (dQ i (cZ C i)).length (GE (dQ i (cZ C i)))) []):=by
 obtain ⟨x,hx⟩: ∃ x,x=cZ C i:=⟨_,rfl⟩
 have hg0:=nY C i hi
 have hg1:=BN C i hi
 rw [← hx] at hn hg0 hg1 ⊢
 clear hx
 obtain ⟨o,n⟩:=x
 simp only at hn hg0 hg1
 refine Spec.ofN Tryz.func73 rfl Tryz.ntmps73 rfl ?_
 refine am (ai (aR (2,0) _ rfl rfl) (ai (bp _ fz) (aj (aq (am (bb rfl rfl rfl (eV rfl rfl rfl (aX rfl (ai (bo _ _ aa rfl rfl _ rfl ab (by (simp only [aN,bg,bj,bv,bu,bH,bz,bM,eI];omega)) ag) ?_)))))))))
 refine ai (cX _ aa rfl rfl) (ai (bO _ aa rfl (by exact hg0) rfl) ?_)
 refine aj (ax (am (ai (bB _ _ rfl rfl rfl) (cp rfl (aj (aP rfl (fun hc11=> ?_) (fun hc11=> ?_)))))))
 ·skip
  obtain rfl:=opn_stop.1 hc11
  exact am (ai (bp _ fz) (aj (aG (bI (.inr rfl) rfl (.tmp kU) (Le.out [] [] .nil rfl rfl rfl trivial trivial)))))
 refine am (ai (bB _ _ rfl rfl rfl) (cp rfl (aj (aP rfl (fun hc13=> ?_) (fun hc13=> ?_)))))
 ·skip
  obtain rfl:=opn_jump.1 hc13
  have hn:=hn (.inl rfl)
  refine am (bb rfl rfl rfl (eV rfl rfl rfl (aX rfl (ai (bo _ _ aa rfl rfl _ rfl ab (by (simp only [aN,bg,bj,bv,bu,bH,bz,bM,eI];omega)) ag) ?_))))
  refine ai (cX _ aa rfl rfl) (ai (bO _ aa rfl (by exact hg1) rfl) ?_)
  refine ai (bh _ _ aa rfl ag (by (simp <;> rfl)) ah rfl) ?_
  exact kD rfl (aj (aG (bI (.inr rfl) rfl (.tmp nB) (Le.out [] [] (jf rfl (by simp [GE,dQ,Int.toNat_of_nonneg hn])) rfl rfl rfl trivial trivial))))
 refine am (ai (bB _ _ rfl rfl rfl) (cp rfl (aj (aP rfl (fun hc22=> ?_) (fun hc22=> ?_)))))
 ·skip
  obtain rfl:=opn_unl.1 hc22
  have hn:=hn (.inr rfl)
  refine am (aX rfl (ai (aZ _ _ rfl rfl (bE ab)) ?_))
  refine bb rfl rfl rfl (eV rfl rfl rfl (aX rfl (ai (bo _ _ aa rfl rfl _ rfl ab (by (simp only [aN,bg,bj,bv,bu,bH,bz,bM,eI];omega)) ag) ?_)))
  refine ai (cX _ aa rfl rfl) (ai (bO _ aa rfl (by exact hg1) rfl) ?_)
  refine ai (bh _ _ aa rfl ag (by (simp <;> rfl)) ah rfl) ?_
  exact kD rfl (aj (aG (bI (.inr rfl) rfl (.tmp nB) (Le.out [] [] (jf rfl (by simp [GE,dQ,Int.toNat_of_nonneg hn])) rfl rfl rfl trivial trivial))))
 have hs:dQ i ⟨o,n⟩=[i+1]:=by
  unfold dQ
  have h1:o≠ .stop:=fun e=> hc11 (opn_stop.2 e)
  have h2:o≠ .jump:=fun e=> hc13 (opn_jump.2 e)
  have h3:o≠ .unl:=fun e=> hc22 (opn_unl.2 e)
  cases o <;> first | rfl | exact absurd rfl h1 | exact absurd rfl h2 | exact absurd rfl h3
 refine cr (am (aX rfl (ai (aZ _ _ rfl rfl (bE ab)) ?_)))
 refine ai (bh _ _ aa rfl ag (by (simp <;> rfl)) ah rfl) ?_
 refine kD rfl (aj (aG ?_))
 rw [hs]
 exact bI (.inr rfl) rfl (.tmp nB) (Le.out [] [] (jf rfl (by simp [GE])) rfl rfl rfl trivial trivial)
instance Qb:Arr Tryz.prog 24 40 1:=Arr.of Tryz.underlying24 ae
instance Px:Arr Tryz.prog 30 9 1:=Arr.of Tryz.underlying30 ae
instance PD:Arr Tryz.prog 81 41 1:=Arr.of Tryz.underlying81 ae
instance Ny:Arr Tryz.prog 173 24 1:=Arr.of Tryz.underlying173 ae

theorem ik {l:List Int} {i:Nat} (h:i < l.length):l.getD i (-1)=l.getD i 0:=by
 rw [List.getD_eq_getElem?_getD,List.getD_eq_getElem?_getD,List.getElem?_eq_getElem h];rfl
theorem vR {n:Nat} {d:Int} {s:DS} {l:List Nat} {k:Nat} (h:k < l.length):(l.take (k+1)).foldl (jF n d) s=jF n d ((l.take k).foldl (jF n d) s) (l.getD k 0):=by
 rw [List.take_succ_eq_append_getElem h,List.foldl_append,List.getD_eq_getElem?_getD,List.getElem?_eq_getElem h];rfl
theorem Ew (n k:Nat) (h:k < n):((List.replicate k (-1:Int))++List.replicate (n - k) 0).set k (-1)=List.replicate (k+1) (-1)++List.replicate (n - (k+1)) 0:=by
 rw [List.set_append_right _ _ (by simp),List.length_replicate,Nat.sub_self,show n - k=(n - (k+1))+1 by omega,List.replicate_succ,List.set_cons_zero,show List.replicate (k+1) (-1:Int)=List.replicate k (-1)++[-1] from List.replicate_succ']
 simp
theorem AP {ρ:aB→aB} {σ:St} {F:aB→Bool} {id:aB} {e:TypeId} {sz n m:Nat} {xs ys:List PV} (hid:σ.ob id= .obj (.row e sz xs)) (hF:F id=true) (hl:n*sz=xs.length) (hy:xs=ys) (hn:n=m):Lv ρ σ F (.sl m ys) (.ref id 0 n):=by
 subst hn;exact ff hid hF hl hy
theorem DI.flag {D:Nat→Nat} {n:Nat} {s:DS} {b:Bool} (h:DI D n s):DI D n (s.1,s.2.1,b):=⟨h.len,h.val,h.ok⟩
def zq (C:List eU) (R:List Int×Bool) (z:(List Int×Bool)×Bool):Prop:=if z.2=true then ∃ f,neg z.1.1+1≤f∧jJ C f z.1=R else z.1=R
theorem xW {C:List eU} {R:List Int×Bool} {s:List Int×Bool} {f:Nat} (hf:neg s.1+1≤f) (hR:jJ C f s=R) (hd:(dy C s C.length).2.2=true→neg (dy C s C.length).1 < neg s.1):
  zq C R (((dy C s C.length).1,(dy C s C.length).2.1),(dy C s C.length).2.2):=by
 obtain ⟨g,rfl⟩: ∃ g,f=g+1:=⟨f - 1,by omega⟩
 unfold zq
 cases hb:(dy C s C.length).2.2 with
 | true=>
  have:=hd hb
  rw [if_pos rfl]
  exact ⟨g,by simp only;omega,by rw [← hR,wz hb]⟩
 | false=> rw [if_neg (by simp)];rw [← hR,wD hb]
def Kv (z:(List Int×Bool)×Bool):Nat:=if z.2=true then neg z.1.1+1 else 0
theorem Ie {C:List eU} {s:List Int×Bool} (hd:(dy C s C.length).2.2=true→neg (dy C s C.length).1 < neg s.1):Kv (((dy C s C.length).1,(dy C s C.length).2.1),(dy C s C.length).2.2) < neg s.1+1:=by
 unfold Kv
 simp only
 split
 ·rename_i h;have:=hd h;omega
 omega
theorem yI {C:List eU} {s:DS} {i:Nat} (h:s.1.getD i (-1) < 0):ln C s i=s:=by unfold ln;rw [if_pos h]
theorem CK {C:List eU} {s:DS} {i:Nat} (h: ¬ s.1.getD i (-1) < 0) (h2: ¬ s.1.getD i (-1) - (cZ C i).op.pops < 0):ln C s i=(dQ i (cZ C i)).foldl (jF C.length (s.1.getD i (-1) - (cZ C i).op.pops+(cZ C i).op.puts)) s:=by
 unfold ln Ep
 rw [if_neg h,if_neg h2,show max (s.1.getD i (-1) - (cZ C i).op.pops) 0=s.1.getD i (-1) - (cZ C i).op.pops by omega]
theorem tW (C:List eU) (en:Nat→Int) (dd vv:Int) (e:Int) (hC:C.length≤1000000) (D:Nat→Nat) (nv:Nat) (hg:Good D nv 0 (C.length - 1) 0 C) (hD: ∀ i,D i≤1000000) (he:0≤e→e < C.length→D e.toNat=0):
  Spec Tryz.prog 72 (ba [.agg (El C.length (inl C) en dd vv), .v (.int .i64 e)] []) (aO (.tup [.sl (jy C e).1.length (cm (jy C e).1), .v (.bool (jy C e).2)]) []):=by
 refine Spec.ofN Tryz.func72 rfl Tryz.ntmps72 rfl ?_
 refine am (ai (aR (2,0) _ rfl rfl) (ai (bp _ fz) (cp rfl (aj (am (bb rfl rfl rfl (eV rfl rfl rfl (ai (bn _ aa rfl) (ai (pQ (17,0) _ _ aa rfl rfl C.length rfl rfl ab rfl (oo C.length)) ?_)))))))))
 refine fh rfl (aj (aU fun K3 hK3=> ?_))
 refine am (be rfl (aj (ax ?_)))
 refine bq (α:=Nat) (fun k=> k≤C.length) 123 [(1,_),(2,_)] [((2,0),_)] (fun k=> [(7, .v (.int .i64 (k:Int))),(6, .ref (6,0) 0 C.length)]) (fun k=> [((6,0), .row 3 1 (cm (List.replicate k (-1)++List.replicate (C.length - k) 0)))]) [] [] (fun k=> C.length - k) 0 ?_ (by
  refine Le.mkJ [((6,0),(17,0))] [] rfl ?_ ?_ trivial trivial ?_
  ·exact ⟨(by repeat' (exact Lv.v)),(dI (id:=(2,0)) rfl),(co ag),(cP rfl ag),trivial⟩
  ·exact ⟨(fm rfl rfl rfl rfl (by repeat' (first | exact Lv.v | exact Lv.sl | exact bf | refine au ?_ ?_))),(fg rfl rfl rfl ag),trivial⟩
  kernel_rfl) ?_
 ·omega
 intro k hk
 have hll:(List.replicate k (-1:Int)++List.replicate (C.length - k) 0).length=C.length:=by simp;omega
 refine aU fun K5 hK5=> ?_
 refine am (aX rfl (gG rfl (ai (dg _ aa rfl rfl) (ai (bm _ _ rfl rfl rfl) (aj (aP rfl (fun hc21=> ?_) (fun hc21=> ?_)))))))
 ·skip
  have hrs:=Ew C.length k ab
  refine bs (hK5 _ ?_)
  clear hK5;try clear K5
  refine aq (ax (an (gG rfl (aX rfl (ai (gz _ _ aa rfl rfl rfl _ rfl ab (by exact (Nat.zero_add _).trans (Nat.mul_one _))) ?_)))))
  refine ai (oh _ _ aa rfl rfl rfl rfl rfl (by simp;omega) ((ma _ _ _ ab).trans (congrArg cm hrs))) ?_
  refine dS (an (aX rfl (ai (aZ _ _ rfl rfl (bE ab)) ?_)))
  refine be rfl (aJ (⟨k+1,?_,?_,?_⟩))
  ·omega
  ·skip
   refine Le.mkJ [] [] rfl ?_ ?_ trivial trivial ?_
   ·exact ⟨(iV rfl),(iP rfl),(co ag),(cP rfl ag),trivial⟩
   ·exact ⟨(ca rfl rfl rfl),(fg rfl rfl rfl ag),trivial⟩
   kernel_rfl
  omega
 obtain rfl:k=C.length:=by omega
 have hrep:List.replicate C.length (-1:Int)++List.replicate (C.length - C.length) 0=List.replicate C.length (-1):=by simp
 refine bD (id (hK3 _ ?_))
 clear hK3;try clear K3
 refine aq (am (aX rfl (ai (bm _ _ rfl rfl rfl) (cL rfl (dv (fun hg29=> ?_) (fun hg29=> ?_))))))
 ·skip
  have hdf:jy C e=(List.replicate C.length (-1),true):=if_pos (.inl ab)
  refine aQ rfl rfl ah ?_
  refine aQ rfl rfl ah ?_
  refine aQ rfl rfl ah ?_
  refine aQ rfl rfl ah ?_
  refine ai (aE _ _ _ rfl bR) (aj (bL rfl rfl (am (gG rfl (fh rfl (cp rfl (aj (aG ?_))))))))
  rw [hdf]
  exact jV (.inr rfl) rfl (.tmp dT) (.tmp bR) (Le.out [] [(6,0)] (.tup rfl (au (AP rfl rfl (by simp) (congrArg cm hrep) (by simp)) lz)) rfl rfl rfl tr trivial)
 refine ay rfl rfl (aI _ eu) (ay rfl rfl (aI _ dT) (ay rfl rfl (dg _ aa rfl rfl) (ay rfl rfl (fq _ _ rfl rfl rfl) (ai (aE _ _ _ rfl bR) (aj (aP rfl (fun hc34=> ?_) (fun hc34=> ?_)))))))
 ·skip
  have hdf:jy C e=(List.replicate C.length (-1),true):=if_pos (.inr ab)
  refine am (gG rfl (fh rfl (cp rfl (aj (aG ?_)))))
  rw [hdf]
  exact jV (.inr rfl) rfl (.tmp dT) (.tmp bR) (Le.out [] [(6,0)] (.tup rfl (au (AP rfl rfl (by simp) (congrArg cm hrep) (by simp)) lz)) rfl rfl rfl tr trivial)
 have hdf:jy C e=jJ C (C.length+1) ((List.replicate C.length (-1)).set e.toNat 0,true):=if_neg ab
 have hdi0:DI D C.length ((List.replicate C.length (-1)).set e.toNat 0,true,false):=by
  have hr: ∀ i,(List.replicate C.length (-1:Int)).getD i (-1)= -1:=fun i=> by rw [List.getD_eq_getElem?_getD,List.getElem?_replicate];split <;> rfl
  refine ⟨by simp,fun i hi=> ?_,rfl⟩
  simp only
  rw [jZ]
  split
  ·rename_i h;right;rw [h.1,he ab ab];rfl
  exact .inl (hr i)
 have hn0:neg ((List.replicate C.length (-1)).set e.toNat 0)≤C.length:=by
  have:=List.countP_le_length (p:=fun x:Int=> decide (x < 0)) (l:=(List.replicate C.length (-1:Int)).set e.toNat 0)
  simpa [neg] using this
 obtain ⟨R,hR⟩: ∃ R,R=jy C e:=⟨_,rfl⟩
 rw [← hR] at hdf
 refine aS (am (gG rfl (aX rfl (ai (gz _ _ aa rfl rfl rfl e.toNat ab ab (by exact (Nat.zero_add _).trans (Nat.mul_one _))) ?_))))
 refine ai (oh _ _ aa rfl rfl rfl rfl rfl (by simp;omega) ((ma _ _ _ (by simp;omega)).trans (congrArg (fun l=> cm (List.set l e.toNat 0)) hrep))) ?_
 refine aj (aq ?_)
 refine aM (σ':=aD 123 [(2,_),(6,_)] [((2,0),_),((6,0),_)] [] []) kp ?_
 refine an (cp rfl (aj (aU fun K14 hK14=> ?_)))
 refine am (cp rfl (aj (ax ?_)))
 refine bq (α:=(List Int×Bool)×Bool) (fun z=> DI D C.length (z.1.1,z.1.2,false)∧zq C R z) 123 [(2,_),(6,_)] [((2,0),_)] (fun z=> [(8, .v (.bool z.1.2)),(9, .v (.bool z.2))]) (fun z=> [((6,0), .row 3 1 (cm z.1.1))]) [] [] (fun z=> Kv z) (((List.replicate C.length (-1)).set e.toNat 0,true),true) ?_ (by
  refine Le.mkJ [] [] rfl ?_ ?_ trivial trivial ?_
  ·exact ⟨(iP rfl),(iR rfl),(lP ag),(lP ag),trivial⟩
  ·exact ⟨(ca rfl rfl rfl),(fg rfl rfl rfl ag),trivial⟩
  kernel_rfl) ?_
 ·exact ⟨hdi0,by unfold zq;rw [if_pos rfl];exact ⟨C.length+1,by simp only;omega,hdf.symm⟩⟩
 intro z hz
 obtain ⟨s,ch⟩:=z
 obtain ⟨hdi,hz⟩:=hz
 simp only at hdi hz ⊢
 refine aU fun K16 hK16=> ?_
 refine am (cL rfl (aj (aP rfl (fun hc39=> ?_) (fun hc39=> ?_))))
 ·skip
  obtain ⟨f,hf1,hf2⟩: ∃ f,neg s.1+1≤f∧jJ C f s=R:=by
   unfold zq at hz
   rwa [if_pos hc39] at hz
  have hpd:=(lV hg hdi C.length (Nat.le_refl _)).2.2
  refine bs (hK16 _ ?_)
  clear hK16;try clear K16
  refine ax (am (cp rfl (aj (am (be rfl (aj (ax ?_)))))))
  refine bq (α:=Nat) (fun i=> i≤C.length) 123 [(2,_),(6,_)] [((2,0),_)] (fun i=> [(10, .v (.int .i64 (i:Int))),(8, .v (.bool (dy C s i).2.1)),(9, .v (.bool (dy C s i).2.2))]) (fun i=> [((6,0), .row 3 1 (cm (dy C s i).1))]) [] [] (fun i=> C.length - i) 0 ?_ (by
   refine Le.mkJ [] [] rfl ?_ ?_ trivial trivial ?_
   ·exact ⟨(iP rfl),(iR rfl),(co ag),(lP ag),(lP ag),trivial⟩
   ·exact ⟨(ca rfl rfl rfl),(fg rfl rfl rfl ag),trivial⟩
   kernel_rfl) ?_
  ·omega
  intro i hi
  have hw:=(lV hg hdi i hi).1
  have hps:=qQ C s i
  have hwl:=hw.len
  refine aU fun K20 hK20=> ?_
  refine am (aX rfl (gG rfl (ai (dg _ aa rfl rfl) (ai (bm _ _ rfl rfl rfl) (aj (aP rfl (fun hc43=> ?_) (fun hc43=> ?_)))))))
  ·skip
   have hdn:=(lV hg hdi (i+1) ab).1
   have hvi:=hw.val i ab
   generalize dy C s i=w at hw hps hwl hvi
   rw [ik ab] at hvi
   obtain ⟨hins,hpop,hsuc⟩:=hg i (cZ C i) (by unfold cZ;rw [List.getD_eq_getElem?_getD,List.getElem?_eq_getElem ab];rfl)
   rw [Nat.zero_add] at hpop hsuc
   have hDi:=hD i
   refine bs (hK20 _ ?_)
   clear hK20;try clear K20
   refine aU fun K22 hK22=> ?_
   refine ax (aq (am (gG rfl (aX rfl (ai (gz _ _ aa rfl rfl rfl _ rfl ab (by exact (Nat.zero_add _).trans (Nat.mul_one _))) ?_)))))
   refine ai (mJ _ aa rfl rfl (by exact eb _ _ ab) rfl) ?_
   refine ai (bm _ _ rfl rfl rfl) (aj (aP rfl (fun hc50=> ?_) (fun hc50=> ?_)))
   ·skip
    rw [yI (by rw [ik ab];omega)] at hps
    refine bD (id (hK22 _ ?_))
    clear hK22;try clear K22
    refine an (aX rfl (ai (aZ _ _ rfl rfl (bE ab)) ?_))
    refine be rfl (aJ (⟨i+1,?_,?_,?_⟩))
    ·omega
    ·skip
     refine Le.mkJ [] [] rfl ?_ ?_ trivial trivial ?_
     ·exact ⟨(iP rfl),(iR rfl),(co ag),(lP (by (rw [hps]))),(lP (by (rw [hps]))),trivial⟩
     ·exact ⟨(ca rfl rfl rfl),(fg rfl rfl rfl (by (rw [hps]))),trivial⟩
     kernel_rfl
    omega
   have hvD:=hvi.resolve_left ab
   have hgo:=CK (C:=C) (s:=w) (i:=i) (by rw [ik ab];omega) (by rw [ik ab];omega)
   rw [ik ab,hvD] at hgo
   rw [hgo] at hps
   obtain ⟨L,hL⟩: ∃ L,L=dQ i (cZ C i):=⟨_,rfl⟩
   have hLl:L.length≤2:=by rw [hL];unfold dQ;split <;> simp
   have hnn:(cZ C i).op= .jump∨(cZ C i).op= .unl→0≤(cZ C i).n:=by
    unfold dh at hins
    rintro (e | e) <;> rw [e] at hins <;> exact hins
   have hnx:=zm C en dd vv i hC ab hnn
   rw [← hL] at hps hsuc hnx
   have hpp:=rG (cZ C i).op
   have hpq:=sa (cZ C i).op
   have hp3:(cZ C i).op.pops≤3:=by generalize (cZ C i).op=o;cases o <;> decide
   have hp4:(cZ C i).op.puts≤1:=by generalize (cZ C i).op=o;cases o <;> decide
   refine aS (aq ?_)
   refine aM (σ':=aD 123 [(2,_),(6,_),(8,_),(9,_),(10,_)] [((2,0),_),((6,0),_)] [] []) kp ?_
   refine bK 13 [51,52,53,54,55,56,57,58,59,60,61,62,11] [] ae ae rfl (aK rfl) (rfl:_=[_,_,_,_,_,_,_,_,_,_,_,_,_]) (rfl:_=[]) ?_
   refine ap (_,[]) (fun τ=> aI _ dT) ?_
   refine fF rfl ?_
   refine ap (_,[]) (fun τ=> aI _ eu) ?_
   refine fL rfl ?_
   refine ap (_,[]) (fun τ=> gz _ _ aa rfl rfl rfl _ rfl ab (by exact (Nat.zero_add _).trans (Nat.mul_one _))) ?_
   refine fA rfl ?_
   refine ap (_,[]) (fun τ=> mJ _ aa rfl rfl (by exact eb _ _ ab) rfl) ?_
   refine fT rfl ?_
   refine ap (_,[]) (fun τ=> aA _ aa rfl rfl rfl) ?_
   refine gj rfl ?_
   refine ap (_,[]) (fun τ=> aF _ aa rfl rfl eE) ?_
   refine gU rfl ?_
   refine ap (_,[]) (fun τ=> aI _ eu) ?_
   refine iC rfl ?_
   refine ap (_,[]) (fun τ=> bo _ _ aa rfl rfl _ rfl ab (by (simp only [aN,bg,bj,bv,bu,bH,bz,bM,eI,aN];omega)) ag) ?_
   refine jM rfl ?_
   refine ap (_,[]) (fun τ=> cX _ aa rfl rfl) ?_
   refine jX rfl ?_
   refine ap (_,[]) (fun τ=> bO _ aa rfl (by exact nY C i ab) rfl) ?_
   refine fI rfl ?_
   refine ap (_,[]) (fun τ=> (aH aa al (hpp) rfl rfl)) ?_
   refine gh rfl ?_
   refine ap (_,[]) (fun τ=> kY _ _ rfl rfl (bE (by rw [hvD];omega))) ?_
   refine jW rfl ?_
   refine ap (_,[]) (fun τ=> bp _ eu) ?_
   refine li rfl (bl ⟨rfl,?_⟩)
   refine aj (aq (am (aX rfl (ai (bm _ _ rfl rfl rfl) (aj (aW rfl (decide_eq_false (by rw [hvD];omega)) ?_))))))
   refine aS (aq ?_)
   refine aM (σ':=aD 123 [(2,_),(6,_),(8,_),(9,_),(10,_),(11,_)] [((2,0),_),((6,0),_)] [] []) kp ?_
   refine an (aX rfl (bb rfl rfl rfl (eV rfl rfl rfl (aX rfl (ai (bo _ _ aa rfl rfl _ rfl ab (by (simp only [aN,bg,bj,bv,bu,bH,bz,bM,eI,aN];omega)) ag) ?_)))))
   refine ai (cX _ aa rfl rfl) (ai (bO _ aa rfl (by exact nY C i ab) rfl) ?_)
   refine ai (aH aa al (hpq) rfl rfl) ?_
   refine ai (aZ _ _ rfl rfl (bE (by rw [hvD];omega))) ?_
   refine be rfl (aj (am (ai (az _ aa rfl rfl rfl rfl) (aX rfl (ai (aH aa al (hnx) rfl rfl) ?_)))))
   refine kD rfl (aj (am (be rfl (aj (ax ?_)))))
   refine bq (α:=Nat) (fun k=> k≤L.length) 123 [(2,_),(6,_),(10,_),(12,_)] [((2,0),_)] (fun k=> [(13, .v (.int .i64 (k:Int))),(11, .v (.int .i64 ((D i:Int) - (cZ C i).op.pops+(cZ C i).op.puts))),(8, .v (.bool ((L.take k).foldl (jF C.length ((D i:Int) - (cZ C i).op.pops+(cZ C i).op.puts)) w).2.1)),(9, .v (.bool ((L.take k).foldl (jF C.length ((D i:Int) - (cZ C i).op.pops+(cZ C i).op.puts)) w).2.2))]) (fun k=> [((6,0), .row 3 1 (cm ((L.take k).foldl (jF C.length ((D i:Int) - (cZ C i).op.pops+(cZ C i).op.puts)) w).1))]) [] [] (fun k=> L.length - k) 0 ?_ (by
    refine Le.mkJ [] [] rfl ?_ ?_ trivial trivial ?_
    ·exact ⟨(iP rfl),(iR rfl),(iV rfl),(iS rfl),(co ag),(co (by rw [hvD])),(lP ag),(lP ag),trivial⟩
    ·exact ⟨(ca rfl rfl rfl),(fg rfl rfl rfl ag),trivial⟩
    kernel_rfl) ?_
   ·omega
   intro k hk
   have hwd: ∀ j∈L,(D i:Int) - (cZ C i).op.pops+(cZ C i).op.puts=(D j:Int):=fun j hj=> by have:=(hsuc j hj).2.2;omega
   have hu:=(nn (L.take k) hw (fun j hj=> hwd j (List.mem_of_mem_take hj))).1
   have hul:=hu.len
   refine aU fun K31 hK31=> ?_
   refine am (aX rfl (eW rfl (ai (bn _ aa rfl) (ai (bm _ _ rfl rfl rfl) (aj (aP rfl (fun hc80=> ?_) (fun hc80=> ?_)))))))
   ·skip
    have hfs:=vR (n:=C.length) (d:=(D i:Int) - (cZ C i).op.pops+(cZ C i).op.puts) (s:=w) (l:=L) (k:=k) ab
    have hu1:=(nn (L.take (k+1)) hw (fun j hj=> hwd j (List.mem_of_mem_take hj))).1.len
    obtain ⟨j,hj⟩: ∃ j,j=L.getD k 0:=⟨_,rfl⟩
    have hjm:j∈L:=by rw [hj,List.getD_eq_getElem?_getD,List.getElem?_eq_getElem ab];exact List.getElem_mem ab
    obtain ⟨hj1,hj2,_⟩:=hsuc j hjm
    have hjn:j < C.length:=by omega
    have hwj:=hwd j hjm
    have hnk:=FM L k ab
    rw [← hj] at hfs hnk
    have huv:=hu.val j hjn
    rw [ik ab] at huv
    generalize (L.take k).foldl (jF C.length ((D i:Int) - (cZ C i).op.pops+(cZ C i).op.puts)) w=u at hu hul hfs huv
    refine bs (hK31 _ ?_)
    clear hK31;try clear K31
    refine aq (ax (aq (am (eW rfl (aX rfl (ai (bo _ _ aa rfl rfl _ rfl ab (by (simp only [aN,bg,bj,bv,bu,bH,bz,bM,eI,aN];omega)) (by exact Nat.mul_one _)) ?_))))))
    refine ai (bO _ aa rfl (by exact hnk) rfl) ?_
    refine ai (bm _ _ rfl rfl rfl) (cL rfl (dv (fun hg88=> ?_) (fun hg88=> ?_)))
    ·skip
     exact absurd hg88 ab
    refine ay rfl rfl (aI _ nB) (ay rfl rfl (aI _ eu) (ay rfl rfl (bo _ _ aa rfl rfl _ rfl ab (by (simp only [aN,bg,bj,bv,bu,bH,bz,bM,eI,aN];omega)) (by exact Nat.mul_one _)) ?_))
    refine ay rfl rfl (bO _ aa rfl (by exact hnk) rfl) ?_
    refine ay rfl rfl (aI _ dT) (ay rfl rfl (dg _ aa rfl rfl) (ay rfl rfl (fq _ _ rfl rfl rfl) (ai (aE _ _ _ rfl bR) (aj (aW rfl (decide_eq_false ab) ?_)))))
    refine aS (aq ?_)
    refine aM (σ':=aD 123 [(2,_),(6,_),(8,_),(9,_),(10,_),(11,_),(12,_),(13,_)] [((2,0),_),((6,0),_)] [] []) kp ?_
    refine an (gG rfl (eW rfl (aX rfl (ai (bo _ _ aa rfl rfl _ rfl ab (by (simp only [aN,bg,bj,bv,bu,bH,bz,bM,eI,aN];omega)) (by exact Nat.mul_one _)) ?_))))
    refine ai (bO _ aa rfl (by exact hnk) rfl) ?_
    refine ai (gz _ _ aa rfl rfl rfl _ rfl ab (by exact (Nat.zero_add _).trans (Nat.mul_one _))) ?_
    refine ai (mJ _ aa rfl rfl (by exact eb _ _ ab) rfl) ?_
    refine ai (bm _ _ rfl rfl rfl) (aj (aP rfl (fun hc104=> ?_) (fun hc104=> ?_)))
    ·skip
     have hds:jF C.length ((D i:Int) - (cZ C i).op.pops+(cZ C i).op.puts) u j=(u.1.set j ((D i:Int) - (cZ C i).op.pops+(cZ C i).op.puts),u.2.1,true):=by
      unfold jF
      rw [if_neg ab,if_pos (by rw [ik ab];omega)]
     rw [hds] at hfs
     refine am (gG rfl (eW rfl (aX rfl (ai (bo _ _ aa rfl rfl _ rfl ab (by (simp only [aN,bg,bj,bv,bu,bH,bz,bM,eI,aN];omega)) (by exact Nat.mul_one _)) ?_))))
     refine ai (bO _ aa rfl (by exact hnk) rfl) ?_
     refine aX rfl (ai (gz _ _ aa rfl rfl rfl _ rfl ab (by exact (Nat.zero_add _).trans (Nat.mul_one _))) ?_)
     refine ai (oh _ _ aa rfl rfl rfl rfl rfl (by simp;omega) (ma _ _ _ ab)) ?_
     refine aj ?_
     refine aM (σ':=aD 123 [(2,_),(6,_),(8,_),(10,_),(11,_),(12,_),(13,_)] [((2,0),_),((6,0),_)] [] []) kp ?_
     refine an (cp rfl (dS (an (aX rfl (ai (aZ _ _ rfl rfl (bE ab)) ?_)))))
     refine be rfl (aJ (⟨k+1,?_,?_,?_⟩))
     ·omega
     ·skip
      refine Le.mkJ [] [] rfl ?_ ?_ trivial trivial ?_
      ·exact ⟨(iP rfl),(iR rfl),(iV rfl),(iS rfl),(co ag),(co ag),(lP (by (rw [hfs]))),(lP (by (rw [hfs]))),trivial⟩
      ·exact ⟨(ca rfl rfl rfl),(fg rfl rfl rfl (by (rw [hfs]))),trivial⟩
      kernel_rfl
     omega
    have hds:jF C.length ((D i:Int) - (cZ C i).op.pops+(cZ C i).op.puts) u j=u:=by
     unfold jF
     rw [if_neg ab,if_neg (by rw [ik ab];omega),if_neg (by rw [ik ab];omega)]
    rw [hds] at hfs
    refine am (gG rfl (eW rfl (aX rfl (ai (bo _ _ aa rfl rfl _ rfl ab (by (simp only [aN,bg,bj,bv,bu,bH,bz,bM,eI,aN];omega)) (by exact Nat.mul_one _)) ?_))))
    refine ai (bO _ aa rfl (by exact hnk) rfl) ?_
    refine ai (gz _ _ aa rfl rfl rfl _ rfl ab (by exact (Nat.zero_add _).trans (Nat.mul_one _))) ?_
    refine ai (mJ _ aa rfl rfl (by exact eb _ _ ab) rfl) ?_
    refine aX rfl (ai (bY _ _ rfl rfl rfl) (aj (aW rfl (by rw [bne_eq_false_iff_eq];omega) ?_)))
    refine cr ?_
    refine aM (σ':=aD 123 [(2,_),(6,_),(8,_),(9,_),(10,_),(11,_),(12,_),(13,_)] [((2,0),_),((6,0),_)] [] []) kp ?_
    refine an (aX rfl (ai (aZ _ _ rfl rfl (bE ab)) ?_))
    refine be rfl (aJ (⟨k+1,?_,?_,?_⟩))
    ·omega
    ·skip
     refine Le.mkJ [] [] rfl ?_ ?_ trivial trivial ?_
     ·exact ⟨(iP rfl),(iR rfl),(iV rfl),(iS rfl),(co ag),(co ag),(lP (by (rw [hfs]))),(lP (by (rw [hfs]))),trivial⟩
     ·exact ⟨(ca rfl rfl rfl),(fg rfl rfl rfl (by (rw [hfs]))),trivial⟩
     kernel_rfl
    omega
   obtain rfl:k=L.length:=by omega
   rw [List.take_length] at hu hul
   rw [List.take_length]
   refine bD (id (hK22 _ ?_))
   clear hK22;try clear K22
   refine an (aX rfl (ai (aZ _ _ rfl rfl (bE ab)) ?_))
   refine be rfl (aJ (⟨i+1,?_,?_,?_⟩))
   ·omega
   ·skip
    refine Le.mkJ [] [] rfl ?_ ?_ trivial trivial ?_
    ·exact ⟨(iP rfl),(iR rfl),(co ag),(lP (by (rw [hps]))),(lP (by (rw [hps]))),trivial⟩
    ·exact ⟨(ca rfl rfl rfl),(fg rfl rfl rfl (by (rw [hps]))),trivial⟩
    kernel_rfl
   omega
  obtain rfl:i=C.length:=by omega
  refine bD (id (⟨(((dy C s C.length).1,(dy C s C.length).2.1),(dy C s C.length).2.2),?_,?_,?_⟩))
  ·exact ⟨hw.flag,xW hf1 hf2 hpd⟩
  ·skip
   refine Le.mkJ [] [] rfl ?_ ?_ trivial trivial ?_
   ·exact ⟨(iP rfl),(iR rfl),(lP ag),(lP ag),trivial⟩
   ·exact ⟨(ca rfl rfl rfl),(fg rfl rfl rfl ag),trivial⟩
   kernel_rfl
  rw [show Kv (s,ch)=neg s.1+1 from if_pos hc39];exact Ie hpd
 have hzR:s=R:=by
  unfold zq at hz
  rwa [if_neg (by simp [hc39])] at hz
 subst hzR
 have hsl:=hdi.len
 refine bD (id (hK14 _ ?_))
 clear hK14;try clear K14
 refine am (gG rfl (cL rfl (fh rfl (cp rfl (aj (aG ?_))))))
 rw [← hR]
 exact jV (.inr rfl) rfl (.tmp dT) (.tmp bR) (Le.out [] [(6,0)] (.tup rfl (au (AP rfl rfl (by simp only at hsl;simp [hsl]) rfl hsl.symm) lz)) rfl rfl rfl tr trivial)
theorem wr (C:List eU) (en:Nat→Int) (dd vv:Int) (h:Nat) (hh:h < 40) (hC:C.length≤1000000) (D:Nat→Nat) (nv:Nat) (hg:Good D nv 0 (C.length - 1) 0 C) (hD: ∀ i,D i≤1000000) (he:0≤en h→en h < C.length→D (en h).toNat=0):
  Spec Tryz.prog 74 (ba [.agg (El C.length (inl C) en dd vv), .v (.int .i64 (h:Int))] []) (aO (.v (.int .i64 (lb C (jy C (en h)).1 C.length))) []):=by
 have hds:=tW C en dd vv (en h) hC D nv hg hD he
 have hdi:=qE hg he
 have hdl:=hdi.len
 have hml:=fun k (hk:k≤C.length)=> nX (C:=C) (n:=C.length) hdi (B:=1000000) (fun i _=> hD i) k hk
 generalize jy C (en h)=R at hds hdi hdl hml
 have hen:=sZ C.length (inl C) en dd vv h hh
 refine Spec.ofN Tryz.func74 rfl Tryz.ntmps74 rfl ?_
 refine am (ai (aR (2,0) _ rfl rfl) (be rfl (aj (aq (bK 11 [11,12,13,14,15,16,10,17,18,5,6] [] ae ae rfl (aK rfl) (rfl:_=[_,_,_,_,_,_,_,_,_,_,_]) (rfl:_=[]) ?_)))))
 refine ap (_,[]) (fun τ=> az _ aa rfl rfl rfl rfl) ?_
 refine fF rfl ?_
 refine ap (_,[]) (fun τ=> aI _ eu) ?_
 refine fL rfl ?_
 refine ap (_,[]) (fun τ=> aA _ aa rfl rfl rfl) ?_
 refine fA rfl ?_
 refine ap (_,[]) (fun τ=> cY _ _ aa rfl rfl rfl h rfl ab (by exact congrArg (fun z=> 0+1+z) (Nat.mul_one h))) ?_
 refine fT rfl ?_
 refine ap (_,[]) (fun τ=> aF _ aa rfl rfl (by exact (congrArg (fun z=> (El C.length (inl C) en dd vv)[z]?) ab).trans hen)) ?_
 refine gj rfl ?_
 refine ap (_,[]) (fun τ=> (aH aa al (hds) rfl rfl)) ?_
 refine gU rfl ?_
 refine ap (_,[]) (fun τ=> aI _ tN) ?_
 refine iC rfl ?_
 refine ap (_,[]) (fun τ=> cq _ rfl eE) ?_
 refine jM rfl ?_
 refine ap (_,[]) (fun τ=> cq _ rfl Cj) ?_
 refine jX rfl ?_
 refine ap (_,[]) (fun τ=> bp _ nB) ?_
 refine fI rfl ?_
 refine ap (_,[]) (fun τ=> bp _ bR) ?_
 refine gh rfl (bl ⟨rfl,?_⟩)
 refine aj (am (be rfl (aj (aU fun K4 hK4=> ?_))))
 refine am (be rfl (aj (ax ?_)))
 refine bq (α:=Nat) (fun k=> k≤C.length) 53 [(2,_),(5,_)] [((2,0),_)] (fun k=> [(8, .v (.int .i64 (k:Int))),(7, .v (.int .i64 (lb C R.1 k)))]) (fun k=> []) [] [] (fun k=> C.length - k) 0 ?_ (by
  refine Le.mkJ [] [] rfl ?_ ?_ trivial trivial ?_
  ·exact ⟨(iP rfl),(iS rfl),(co ag),(co ag),trivial⟩
  ·exact ⟨(ca rfl rfl rfl),trivial⟩
  kernel_rfl) ?_
 ·omega
 intro k hk
 have hm1:=hml k hk
 have hs:=qr C R.1 k
 simp only at hdl hm1
 refine aU fun K6 hK6=> ?_
 refine am (aX rfl (eW rfl (ai (bn _ aa rfl) (ai (bm _ _ rfl rfl rfl) (aj (aP rfl (fun hc22=> ?_) (fun hc22=> ?_)))))))
 ·skip
  have hm2:=hml (k+1) ab
  have hv:=hdi.val k ab
  simp only at hv hm2
  rw [ik ab] at hv hs
  have hDk:=hD k
  obtain ⟨q,hq⟩: ∃ q,q=cZ C k:=⟨_,rfl⟩
  have hp3:q.op.pops≤3:=by generalize q.op=o;cases o <;> decide
  have hp4:q.op.puts≤1:=by generalize q.op=o;cases o <;> decide
  have hpp:=rG q.op
  have hpq:=sa q.op
  have hg0:=nY C k ab
  rw [← hq] at hg0 hs
  refine bs (hK6 _ ?_)
  clear hK6;try clear K6
  refine aq (ax (am (eW rfl (aX rfl (ai (bo _ _ aa rfl rfl _ rfl ab (by (simp only [aN,bg,bj,bv,bu,bH,bz,bM,eI,aN];omega)) (by exact Nat.mul_one _)) ?_)))))
  refine ai (bO _ aa rfl (by exact eb _ _ ab) rfl) ?_
  refine ai (fq _ _ rfl rfl rfl) (aj (aP rfl (fun hc29=> ?_) (fun hc29=> ?_)))
  ·skip
   rw [if_pos ab] at hs
   refine am (bb rfl rfl rfl (eV rfl rfl rfl (aX rfl (ai (bo _ _ aa rfl rfl _ rfl ab (by (simp only [aN,bg,bj,bv,bu,bH,bz,bM,eI,aN];omega)) ag) ?_))))
   refine ai (cX _ aa rfl rfl) (ai (bO _ aa rfl (by exact hg0) rfl) ?_)
   refine be rfl (aj ?_)
   refine aM (σ':=aD 53 [(2,_),(5,_),(7,_),(8,_),(9,_)] [((2,0),_)] [] []) kp ?_
   refine bK 16 [36,37,38,39,40,41,42,43,44,45,46,47,48,49,50,51] [] ae ae rfl (aK rfl) (rfl:_=[_,_,_,_,_,_,_,_,_,_,_,_,_,_,_,_]) (rfl:_=[_]) ?_
   refine ap (_,[]) (fun τ=> aI _ eu) ?_
   refine fF rfl ?_
   refine ap (_,[]) (fun τ=> aI _ nB) ?_
   refine fL rfl ?_
   refine ap (_,[]) (fun τ=> aI _ eu) ?_
   refine fA rfl ?_
   refine ap (_,[]) (fun τ=> bo _ _ aa rfl rfl _ rfl ab (by (simp only [aN,bg,bj,bv,bu,bH,bz,bM,eI,aN];omega)) (by exact Nat.mul_one _)) ?_
   refine fT rfl ?_
   refine ap (_,[]) (fun τ=> bO _ aa rfl (by exact eb _ _ ab) rfl) ?_
   refine gj rfl ?_
   refine ap (_,[]) (fun τ=> aI _ nB) ?_
   refine gU rfl ?_
   refine ap (_,[]) (fun τ=> aI _ eu) ?_
   refine iC rfl ?_
   refine ap (_,[]) (fun τ=> bo _ _ aa rfl rfl _ rfl ab (by (simp only [aN,bg,bj,bv,bu,bH,bz,bM,eI,aN];omega)) (by exact Nat.mul_one _)) ?_
   refine jM rfl ?_
   refine ap (_,[]) (fun τ=> bO _ aa rfl (by exact eb _ _ ab) rfl) ?_
   refine jX rfl ?_
   refine ap (_,[]) (fun τ=> aI _ eu) ?_
   refine fI rfl ?_
   refine ap (_,[]) (fun τ=> (aH aa al (hpp) rfl rfl)) ?_
   refine gh rfl ?_
   refine ap (_,[]) (fun τ=> kY _ _ rfl rfl (bE ab)) ?_
   refine jW rfl ?_
   refine ap (_,[]) (fun τ=> aI _ eu) ?_
   refine li rfl ?_
   refine ap (_,[]) (fun τ=> (aH aa al (hpq) rfl rfl)) ?_
   refine nh rfl ?_
   refine ap (_,[]) (fun τ=> aZ _ _ rfl rfl (bE ab)) ?_
   refine uD rfl ?_
   refine ap (_,[]) (fun τ=> Fr _ _ _ rfl rfl rfl (by exact hs.symm)) ?_
   refine uB rfl (bl ⟨rfl,?_⟩)
   refine be rfl (dS ?_)
   refine aM (σ':=aD 53 [(2,_),(5,_),(7,_),(8,_)] [((2,0),_)] [] []) kp ?_
   refine an (aX rfl (ai (aZ _ _ rfl rfl (bE ab)) ?_))
   refine be rfl (aJ (⟨k+1,?_,?_,?_⟩))
   ·omega
   ·skip
    refine Le.mkJ [] [] rfl ?_ ?_ trivial trivial ?_
    ·exact ⟨(iP rfl),(iS rfl),(co ag),(co ag),trivial⟩
    ·exact ⟨(ca rfl rfl rfl),trivial⟩
    kernel_rfl
   omega
  rw [if_neg ab] at hs
  refine cr (an (aX rfl (ai (aZ _ _ rfl rfl (bE ab)) ?_)))
  refine be rfl (aJ (⟨k+1,?_,?_,?_⟩))
  ·omega
  ·skip
   refine Le.mkJ [] [] rfl ?_ ?_ trivial trivial ?_
   ·exact ⟨(iP rfl),(iS rfl),(co ag),(co ab),trivial⟩
   ·exact ⟨(ca rfl rfl rfl),trivial⟩
   kernel_rfl
  omega
 obtain rfl:k=C.length:=by omega
 refine bD (id (hK4 _ ?_))
 clear hK4;try clear K4
 exact am (aX rfl (be rfl (aj (aG (ft rfl rfl)))))

theorem ek: ∀ (e:Ex) (d x:Nat),x∈dF e d→x≤d+(dF e d).length
 | .int _,d,x,h=> by simp [dF] at h ⊢;omega
 | .bool _,d,x,h=> by simp [dF] at h ⊢;omega
 | .var _,d,x,h=> by simp [dF] at h ⊢;omega
 | .name _,d,x,h=> by simp [dF] at h ⊢;omega
 | .draw e,d,x,h=> by
  have:=ek e d x
  simp only [dF,List.mem_append,List.length_append,List.length_cons,List.length_nil,List.mem_singleton] at h ⊢
  rcases h with h | h
  ·have:=this h;omega
  omega
 | .neg e,d,x,h=> by
  have:=ek e d x
  simp only [dF,List.mem_append,List.length_append,List.length_cons,List.length_nil,List.mem_singleton] at h ⊢
  rcases h with h | h
  ·have:=this h;omega
  omega
 | .not e,d,x,h=> by
  have:=ek e d x
  simp only [dF,List.mem_append,List.length_append,List.length_cons,List.length_nil,List.mem_singleton] at h ⊢
  rcases h with h | h
  ·have:=this h;omega
  omega
 | .bin o a b,d,x,h=> by
  have h1:=ek a d x
  have h2:=ek b (d+1) x
  have h3:1≤(dF b (d+1)).length:=by obtain ⟨l,hl⟩:=eQ b (d+1);rw [hl];simp
  have h4:1≤(dF a d).length:=by obtain ⟨l,hl⟩:=eQ a d;rw [hl];simp
  simp only [dF,List.mem_append,List.length_append] at h ⊢
  rcases h with (h | h) | h
  ·have:=h1 h;omega
  ·have:=h2 h;omega
  have:x≤d+2:=by cases o <;> simp at h <;> omega
  omega
 | .and a b,d,x,h=> by
  have h1:=ek a d x
  have h2:=ek b d x
  simp only [dF,List.mem_append,List.length_append,List.length_cons,List.length_nil,List.mem_singleton] at h ⊢
  rcases h with (((h | h) | h) | h) | h
  ·have:=h1 h;omega
  ·omega
  ·have:=h2 h;omega
  ·omega
  omega
 | .or a b,d,x,h=> by
  have h1:=ek a d x
  have h2:=ek b d x
  simp only [dF,List.mem_append,List.length_append,List.length_cons,List.length_nil,List.mem_singleton] at h ⊢
  rcases h with (((h | h) | h) | h) | h
  ·have:=h1 h;omega
  ·omega
  ·omega
  ·omega
  have:=h2 h;omega
theorem lF (e:Ex) (d:Nat):1≤(dF e d).length:=by obtain ⟨l,hl⟩:=eQ e d;rw [hl];simp
mutual
theorem DA: ∀ (s:Sm) (x:Nat),x∈eo s→x≤(eo s).length
 | .assign _ e,x,h=> by
  have:=ek e 0 x
  simp only [eo,List.mem_append,List.length_append,List.length_cons,List.length_nil,List.mem_singleton] at h ⊢
  rcases h with h | h
  ·have:=this h;omega
  omega
 | .send t _ a b,x,h=> by
  have h1:=ek t 0 x
  have h2:=ek a 1 x
  have h3:=ek b 2 x
  have k1:=lF t 0
  have k2:=lF a 1
  have k3:=lF b 2
  simp only [eo,List.mem_append,List.length_append,List.length_cons,List.length_nil,List.mem_singleton] at h ⊢
  rcases h with ((h | h) | h) | h
  ·have:=h1 h;omega
  ·have:=h2 h;omega
  ·have:=h3 h;omega
  omega
 | .timer _,x,h=> by simp [eo] at h ⊢;omega
 | .cancel _,x,h=> by simp [eo] at h ⊢;omega
 | .sync,x,h=> by simp [eo] at h ⊢;omega
 | .stop,x,h=> by simp [eo] at h ⊢;omega
 | .reply a b,x,h=> by
  have h2:=ek a 0 x
  have h3:=ek b 1 x
  have k2:=lF a 0
  have k3:=lF b 1
  simp only [eo,List.mem_append,List.length_append,List.length_cons,List.length_nil,List.mem_singleton] at h ⊢
  rcases h with (h | h) | h
  ·have:=h2 h;omega
  ·have:=h3 h;omega
  omega
 | .fail e,x,h=> by
  have:=ek e 0 x
  simp only [eo,List.mem_append,List.length_append,List.length_cons,List.length_nil,List.mem_singleton] at h ⊢
  rcases h with h | h
  ·have:=this h;omega
  omega
 | .loop c b,x,h=> by
  have h1:=ek c 0 x
  have h2:=nS b x
  simp only [eo,List.mem_append,List.length_append,List.length_cons,List.length_nil,List.mem_singleton] at h ⊢
  rcases h with ((h | h) | h) | h
  ·have:=h1 h;omega
  ·omega
  ·have:=h2 h;omega
  omega
 | .ite c a b,x,h=> by
  have h1:=ek c 0 x
  have h2:=nS a x
  have h3:=nS b x
  simp only [eo,List.mem_append,List.length_append,List.length_cons,List.length_nil,List.mem_singleton] at h ⊢
  rcases h with (((h | h) | h) | h) | h
  ·have:=h1 h;omega
  ·omega
  ·have:=h2 h;omega
  ·omega
  have:=h3 h;omega
theorem nS: ∀ (b:Bk) (x:Nat),x∈mn b→x≤(mn b).length
 | .nil,x,h=> by simp [mn] at h
 | .cons s b,x,h=> by
  have h1:=DA s x
  have h2:=nS b x
  simp only [mn,List.mem_append,List.length_append] at h ⊢
  rcases h with h | h
  ·have:=h1 h;omega
  have:=h2 h;omega
end
theorem xu: ∀ (l:List (Nat×Bk)) (x:Nat),x∈ml l→x≤(ml l).length
 | [],x,h=> by simp [ml] at h
 | (k,b)::l,x,h=> by
  have h1:=nS b x
  have h2:=xu l x
  simp only [ml,List.mem_append,List.length_append,List.length_cons,List.length_nil,List.mem_singleton] at h ⊢
  rcases h with (h | h) | h
  ·have:=h1 h;omega
  ·omega
  have:=h2 h;omega
theorem zU (l:List (Nat×Bk)) (i:Nat):xx l i≤(bT l 0).length:=by
 unfold xx
 rw [List.getD_eq_getElem?_getD]
 by_cases h:i < (ml l).length
 ·rw [List.getElem?_eq_getElem h,← qP l 0];exact xu l _ (List.getElem_mem h)
 rw [List.getElem?_eq_none ab];exact Nat.zero_le _

theorem oH: ∀ (l m:List (Nat×Bk)) (a:Nat),bT (l++m) a=bT l a++bT m (a+(bT l a).length)
 | [],m,a=> by simp [bT]
 | (h,b)::l,m,a=> by
  simp only [List.cons_append,bT,oH l m,List.append_assoc,List.length_append,List.length_cons,List.length_nil,Nat.add_assoc,Nat.zero_add,List.nil_append,Nat.add_comm 1 (List.length _)]
theorem uV: ∀ (l m:List (Nat×Bk)) (a:Nat),ka (l++m) a=ka l a++ka m (a+(bT l a).length)
 | [],m,a=> by simp [bT,ka]
 | (h,b)::l,m,a=> by
  simp only [List.cons_append,bT,ka,uV l m,List.append_assoc,List.length_append,List.length_cons,List.length_nil,Nat.add_assoc,Nat.zero_add,Nat.add_comm 1 (List.length _)]
def bX (l:List (Nat×Bk)) (k:Nat):Int:=(nC (ka l 0)).getD k (-1)
theorem yQ (l:List (Nat×Bk)) (p:Nat×Bk) (hp:p.1 < 40):bX (l++[p])=lj (bX l) p.1 (bT l 0).length:=by
 funext k
 have e:nC (ka (l++[p]) 0)=(nC (ka l 0)).set p.1 ((bT l 0).length:Int):=by
  rw [uV]
  obtain ⟨h,b⟩:=p
  simp only [ka,nC,List.foldl_append,List.foldl_cons,List.foldl_nil,Nat.zero_add]
 unfold bX lj
 rw [e,jZ]
 by_cases hk:k=p.1
 ·rw [if_pos ⟨hk,by rw [zW];exact hp⟩,if_pos hk]
 rw [if_neg (fun h=> hk h.1),if_neg hk]
theorem wE (l:List (Nat×Bk)) (p:Nat×Bk):bT (l++[p]) 0=bT l 0++dR p.2 (bT l 0).length++[{ op:= .stop }]:=by
 rw [oH]
 obtain ⟨h,b⟩:=p
 simp [bT]
def et (h k:Nat):Int:=if k < h∨40≤k then -1 else 0
theorem CW (h:Nat) (hh:h < 40):lj (et h) h (-1)=et (h+1):=by
 funext k
 unfold lj et
 by_cases h1:k=h
 ·rw [if_pos h1,if_pos ab]
 rw [if_neg h1]
 by_cases h2:k < h∨40≤k
 ·rw [if_pos h2,if_pos ab]
 rw [if_neg h2,if_neg ab]
theorem Dl:et 40=bX []:=by
 funext k
 have e:bX [] k=(List.replicate 40 (-1:Int)).getD k (-1):=rfl
 rw [e,et,if_pos ab,List.getD_eq_getElem?_getD,List.getElem?_replicate]
 by_cases hk:k < 40
 ·rw [if_pos hk];rfl
 rw [if_neg hk];rfl
theorem BJ (ons:List (Nat×Bk)) (j:Nat) (h:j < ons.length):ons.take (j+1)=ons.take j++[ons[j]]:=List.take_succ_eq_append_getElem h
theorem qf (ons:List (Nat×Bk)) (j:Nat):(bT (ons.take j) 0).length≤(bT ons 0).length:=by
 conv=> rhs;rw [← List.take_append_drop j ons,oH]
 rw [List.length_append];omega
theorem zn {n:Nat} (h:n < 40):dL (n:Int) 40=n:=by unfold dL;rw [if_neg ab];omega
structure UOk (d v:List Tx) (ons:List (Nat×Bk)):Prop where
 nd:(d++v).Nodup
 len:(d++v).length≤16
 ok: ∀ p∈ons,lg (d++v).length p.2
 pp: ∀ p∈ons,sH p.2=true
 h: ∀ p∈ons,p.1 < 40
 c:(bT ons 0).length≤1000000
 n:ons.length≤1000
theorem UOk.good {d v:List Tx} {ons:List (Nat×Bk)} (U:UOk d v ons):Good (xx ons) (d++v).length 0 ((bT ons 0).length - 1) 0 (bT ons 0):=
 BO (xx ons) (d++v).length ons 0 0 ((bT ons 0).length - 1) U.ok (sr ons) (Nat.le_refl _) ab
theorem UOk.ent {d v:List Tx} {ons:List (Nat×Bk)} (U:UOk d v ons) (k:Nat):0≤bX ons k→bX ons k < (bT ons 0).length→xx ons (bX ons k).toNat=0:=fun h0 h1=> by
 rcases vM ons k with h | ⟨e,_,h,_,h2⟩
 ·unfold bX at h0;omega
 unfold bX;rw [h,Int.toNat_natCast];exact h2
abbrev Pf (d v:List Tx) (ons:List (Nat×Bk)):AV:= .agg (El (bT ons 0).length (inl (bT ons 0)) (bX ons) (d.length:Int) (v.length:Int))
abbrev zA:AV:= .agg (Hf (.v (.slice none 0 0)) (fun _=> 0) 0 0)
def KT (ons:List (Nat×Bk)):Int:=if 400 < (bT ons 0).length then 2 else 13
abbrev Dv (d v:List Tx) (ons:List (Nat×Bk)):AV:=if kZ ons=true then .tup [Pf d v ons, .v (.int .i64 0)] else .tup [zA, .v (.int .i64 (KT ons))]
abbrev wI (d v:List Tx) (ons:List (Nat×Bk)):List Hd:=ons.map fun p=> (p.1,iX (d++v) p.2)
theorem nx (d v:List Tx) (ons:List (Nat×Bk)) (U:UOk d v ons):
  Spec Tryz.prog 57 (ba [JJ d v (wI d v ons)] []) (aO (Dv d v ons) []):=by
 obtain ⟨H,hH⟩: ∃ H,H=wI d v ons:=⟨_,rfl⟩
 have hHl:H.length=ons.length:=by rw [hH,List.length_map]
 have hHk: ∀ k (h:k < ons.length),oD H k=((ons[k]).1,iX (d++v) (ons[k]).2):=fun k h=> by rw [hH];exact Cv ons _ k h
 rw [← hH]
 clear hH
 have hUn:=U.n
 have hUc:=U.c
 have hUl:=U.len
 have hdl:d.length≤16∧v.length≤16:=by rw [List.length_append] at hUl;omega
 refine Spec.ofN Tryz.func57 rfl Tryz.ntmps57 rfl ?_
 refine am (ai (aR (1,0) _ rfl rfl) (ai (aC (2,0) aa rfl rfl) (be rfl (aj (am (bb rfl rfl rfl (eV rfl rfl rfl (ai (bn _ aa rfl) (bb rfl rfl rfl (eV rfl rfl rfl ?_))))))))))
 refine ai (bn _ aa rfl) (ai (aL _ aa rfl (by exact DK)) ?_)
 refine ai (aC (4,0) aa rfl rfl) (bG rfl rfl rfl rfl rfl rfl (aj (aU fun K3 hK3=> ?_)))
 refine am (be rfl (aj (ax ?_)))
 refine aM (Le.nilB (4,0) 0 (60,0) 48 2 rfl rfl rfl) ?_
 refine bq (α:=Nat) (fun q=> q≤40) 79 [(1,_),(2,_),(4,_)] [((1,0),_),((2,0),_),((60,0),_)] (fun q=> [(5, .v (.int .i64 (q:Int)))]) (fun q=> [((4,0), .box 26 [.ref (60,0) 0 0, .v (.int .i64 (et q 0)), .v (.int .i64 (et q 1)), .v (.int .i64 (et q 2)), .v (.int .i64 (et q 3)), .v (.int .i64 (et q 4)), .v (.int .i64 (et q 5)), .v (.int .i64 (et q 6)), .v (.int .i64 (et q 7)), .v (.int .i64 (et q 8)), .v (.int .i64 (et q 9)), .v (.int .i64 (et q 10)), .v (.int .i64 (et q 11)), .v (.int .i64 (et q 12)), .v (.int .i64 (et q 13)), .v (.int .i64 (et q 14)), .v (.int .i64 (et q 15)), .v (.int .i64 (et q 16)), .v (.int .i64 (et q 17)), .v (.int .i64 (et q 18)), .v (.int .i64 (et q 19)), .v (.int .i64 (et q 20)), .v (.int .i64 (et q 21)), .v (.int .i64 (et q 22)), .v (.int .i64 (et q 23)), .v (.int .i64 (et q 24)), .v (.int .i64 (et q 25)), .v (.int .i64 (et q 26)), .v (.int .i64 (et q 27)), .v (.int .i64 (et q 28)), .v (.int .i64 (et q 29)), .v (.int .i64 (et q 30)), .v (.int .i64 (et q 31)), .v (.int .i64 (et q 32)), .v (.int .i64 (et q 33)), .v (.int .i64 (et q 34)), .v (.int .i64 (et q 35)), .v (.int .i64 (et q 36)), .v (.int .i64 (et q 37)), .v (.int .i64 (et q 38)), .v (.int .i64 (et q 39)), .v (.int .i64 (d.length:Int)), .v (.int .i64 (v.length:Int))])]) [] [] (fun q=> 40 - q) 0 ?_ (by
  refine Le.mkJ [] [] rfl ?_ ?_ trivial trivial ?_
  ·exact ⟨(iP rfl),(iP rfl),(iP rfl),(co ag),trivial⟩
  ·exact ⟨(ca rfl rfl rfl),(ca rfl rfl rfl),(ca rfl rfl rfl),(fm rfl rfl rfl rfl lz),trivial⟩
  kernel_rfl) ?_
 ·omega
 intro q hq
 refine aU fun K5 hK5=> ?_
 refine am (aX rfl (ai (bm _ _ rfl rfl rfl) (aj (aP rfl (fun hc17=> ?_) (fun hc17=> ?_)))))
 ·skip
  refine bs (hK5 _ ?_)
  clear hK5;try clear K5
  refine aq (ax (an (aX rfl (bb rfl rfl rfl (ai (cY _ _ aa rfl rfl rfl q rfl ab (by exact congrArg (fun z=> 0+1+z) (Nat.mul_one q))) ?_)))))
  refine ai (dE _ _ aa rfl rfl rfl rfl (show 0+1+q+1≤43 by omega) ((congrArg (fun z=> fW (Hf (.ref (60,0) 0 0) (et q) (d.length:Int) (v.length:Int)) z [.v (.int .i64 (-1))]) ab).trans ((tg _ _ _ _ q ab _).trans (by rw [CW _ ab])))) ?_
  refine dS (an (aX rfl (ai (aZ _ _ rfl rfl (bE ab)) ?_)))
  refine be rfl (aJ (⟨q+1,?_,?_,?_⟩))
  ·omega
  ·skip
   refine Le.mkJ [] [] rfl ?_ ?_ trivial trivial ?_
   ·exact ⟨(iP rfl),(iP rfl),(iP rfl),(co ag),trivial⟩
   ·exact ⟨(ca rfl rfl rfl),(ca rfl rfl rfl),(ca rfl rfl rfl),(fm rfl rfl rfl rfl lz),trivial⟩
   kernel_rfl
  omega
 obtain rfl:q=40:=by omega
 rw [Dl]
 refine bD (id (hK3 _ ?_))
 clear hK3;try clear K3
 refine aU fun K8 hK8=> ?_
 refine am (be rfl (aj (ax ?_)))
 refine bq (α:=Nat) (fun j=> j≤H.length) 79 [(1,_),(2,_),(4,_)] [((1,0),_),((2,0),_)] (fun j=> [(6, .v (.int .i64 (j:Int)))]) (fun j=> [((60,0), .row 48 2 (inl (bT (ons.take j) 0))),((4,0), .box 26 [.ref (60,0) 0 (bT (ons.take j) 0).length, .v (.int .i64 (bX (ons.take j) 0)), .v (.int .i64 (bX (ons.take j) 1)), .v (.int .i64 (bX (ons.take j) 2)), .v (.int .i64 (bX (ons.take j) 3)), .v (.int .i64 (bX (ons.take j) 4)), .v (.int .i64 (bX (ons.take j) 5)), .v (.int .i64 (bX (ons.take j) 6)), .v (.int .i64 (bX (ons.take j) 7)), .v (.int .i64 (bX (ons.take j) 8)), .v (.int .i64 (bX (ons.take j) 9)), .v (.int .i64 (bX (ons.take j) 10)), .v (.int .i64 (bX (ons.take j) 11)), .v (.int .i64 (bX (ons.take j) 12)), .v (.int .i64 (bX (ons.take j) 13)), .v (.int .i64 (bX (ons.take j) 14)), .v (.int .i64 (bX (ons.take j) 15)), .v (.int .i64 (bX (ons.take j) 16)), .v (.int .i64 (bX (ons.take j) 17)), .v (.int .i64 (bX (ons.take j) 18)), .v (.int .i64 (bX (ons.take j) 19)), .v (.int .i64 (bX (ons.take j) 20)), .v (.int .i64 (bX (ons.take j) 21)), .v (.int .i64 (bX (ons.take j) 22)), .v (.int .i64 (bX (ons.take j) 23)), .v (.int .i64 (bX (ons.take j) 24)), .v (.int .i64 (bX (ons.take j) 25)), .v (.int .i64 (bX (ons.take j) 26)), .v (.int .i64 (bX (ons.take j) 27)), .v (.int .i64 (bX (ons.take j) 28)), .v (.int .i64 (bX (ons.take j) 29)), .v (.int .i64 (bX (ons.take j) 30)), .v (.int .i64 (bX (ons.take j) 31)), .v (.int .i64 (bX (ons.take j) 32)), .v (.int .i64 (bX (ons.take j) 33)), .v (.int .i64 (bX (ons.take j) 34)), .v (.int .i64 (bX (ons.take j) 35)), .v (.int .i64 (bX (ons.take j) 36)), .v (.int .i64 (bX (ons.take j) 37)), .v (.int .i64 (bX (ons.take j) 38)), .v (.int .i64 (bX (ons.take j) 39)), .v (.int .i64 (d.length:Int)), .v (.int .i64 (v.length:Int))])]) [] [] (fun j=> H.length - j) 0 ?_ (by
  refine Le.mkJ [] [] rfl ?_ ?_ trivial trivial ?_
  ·exact ⟨(iP rfl),(iP rfl),(iP rfl),(co ag),trivial⟩
  ·exact ⟨(ca rfl rfl rfl),(ca rfl rfl rfl),(fg rfl rfl rfl ag),(fm rfl rfl rfl rfl lz),trivial⟩
  kernel_rfl) ?_
 ·omega
 intro j hj
 have hct:=qf ons j
 refine aU fun K10 hK10=> ?_
 refine am (aX rfl (bb rfl rfl rfl (eV rfl rfl rfl (ai (bn _ aa rfl) (ai (bm _ _ rfl rfl rfl) (aj (aP rfl (fun hc27=> ?_) (fun hc27=> ?_))))))))
 ·skip
  have hj:j < ons.length:=by omega
  have hct1:=qf ons (j+1)
  have hUh:=U.h _ (List.getElem_mem hj)
  have hUo:=U.ok _ (List.getElem_mem hj)
  have hUp:=U.pp _ (List.getElem_mem hj)
  have hbody:=ug H j ab
  have hg0:=ki H j ab
  rw [hHk j hj] at hbody hg0
  have hsn:=wE (ons.take j) (ons[j])
  have hen:=yQ (ons.take j) (ons[j]) hUh
  rw [← BJ ons j hj] at hsn hen
  have hsl:=congrArg List.length hsn
  simp only [List.length_append,List.length_cons,List.length_nil] at hsl
  have hcb:=Fb (d:=d) (v:=v) (no:=H.length) (on:=mo H) U.nd ab (ons[j]).2 hUo hUp (bT (ons.take j) 0).length ab
  generalize dR (ons[j]).2 (bT (ons.take j) 0).length=C at hsn hsl hcb
  generalize (ons[j]).2=bd at hbody hcb
  generalize (ons[j]).1=h at hbody hg0 hen hUh
  have har:=jP (h:Int) 40 ab ab ab ab
  rw [zn hUh] at har
  refine bs (hK10 _ ?_)
  clear hK10;try clear K10
  refine aq (ax (am (bb rfl rfl rfl (eV rfl rfl rfl (aX rfl (ai (bo _ _ aa rfl rfl _ rfl ab (by (simp only [aN,bg,bj,bv,bu,bH,bz,bM,eI,aN,List.length_map];omega)) ag) ?_))))))
  refine ai (cX _ aa rfl rfl) (ai (bO _ aa rfl (by exact hg0) rfl) ?_)
  refine ai (aH aa al (har) rfl rfl) ?_
  refine be rfl (aj (am (aX rfl (bb rfl rfl rfl (ai (aF _ aa rfl rfl eN) (ai (dg _ aa rfl rfl) (bb rfl rfl rfl (ai (cY _ _ aa rfl rfl rfl h rfl ab (by exact congrArg (fun z=> 0+1+z) (Nat.mul_one h))) ?_))))))))
  refine ai (dE _ _ aa rfl rfl rfl rfl (show 0+1+h+1≤43 by omega) ((congrArg (fun z=> fW (Hf (.ref (60,0) 0 (bT (ons.take j) 0).length) (bX (ons.take j)) (d.length:Int) (v.length:Int)) z [.v (.int .i64 ((bT (ons.take j) 0).length:Int))]) ab).trans ((tg _ _ _ _ h ab _).trans (by rw [← hen])))) ?_
  refine aj (aq ?_)
  refine aM (σ':=aD 79 [(1,_),(2,_),(4,_),(6,_)] [((1,0),_),((2,0),_),((60,0),_),((4,0),_)] [] []) kp ?_
  refine bK 13 [43,44,45,46,47,48,49,50,51,52,53,54,55] [(50,0)] ae ae rfl (aK rfl) (rfl:_=[_,_,_,_,_,_,_,_,_,_,_,_,_]) (rfl:_=[_,_,_]) ?_
  refine ap (_,[]) (fun τ=> aA _ aa rfl rfl rfl) ?_
  refine fF rfl ?_
  refine ap (_,[]) (fun τ=> aF _ aa rfl rfl eN) ?_
  refine fL rfl ?_
  refine ap (_,[]) (fun τ=> az _ aa rfl rfl rfl rfl) ?_
  refine fA rfl ?_
  refine ap (_,[]) (fun τ=> aA _ aa rfl rfl rfl) ?_
  refine fT rfl ?_
  refine ap (_,[]) (fun τ=> aF _ aa rfl rfl eE) ?_
  refine gj rfl ?_
  refine ap (_,[]) (fun τ=> aI _ eu) ?_
  refine gU rfl ?_
  refine ap (_,[]) (fun τ=> bo _ _ aa rfl rfl _ rfl ab (by (simp only [aN,bg,bj,bv,bu,bH,bz,bM,eI,aN,List.length_map];omega)) ag) ?_
  refine iC rfl ?_
  refine ap (_,[]) (fun τ=> cX _ aa rfl rfl) ?_
  refine jM rfl ?_
  refine ap (_,[]) (fun τ=> cd _ aa rfl (by exact hbody) rfl) ?_
  refine jX rfl ?_
  refine ap (_,[]) (fun τ=> aA _ aa rfl rfl rfl) ?_
  refine fI rfl ?_
  refine ap (_,[]) (fun τ=> aF _ aa rfl rfl eN) ?_
  refine gh rfl ?_
  refine ap (_,[]) (fun τ=> dg _ aa rfl rfl) ?_
  refine jW rfl ?_
  refine ap (_,[((50,0),_)]) (fun τ=> (bS aa [((0,8),(50,0))] ar (hcb.toI) trivial tr tr rfl rfl ae ae)) ?_
  refine li rfl (bl ⟨rfl,?_⟩)
  refine ai (dt (56,0) _ _ aa rfl rfl (bM _).symm (.ref rfl (nV _) (lN _)) ab rfl (lW _ _) (show (bT (ons.take j) 0).length+C.length=(bT (ons.take j) 0++C).length by simp)) ?_
  refine bb rfl rfl rfl (bG rfl rfl rfl rfl rfl rfl (aj ?_))
  refine aM (σ':=aD 79 [(1,_),(2,_),(4,_),(6,_)] [((1,0),_),((2,0),_),((4,0),_),((56,0),_)] [] []) kp ?_
  refine an (bb rfl rfl rfl (ai (aF _ aa rfl rfl eN) (ai (aL _ aa rfl (by exact eR)) ?_)))
  refine ai (bh _ _ aa rfl ag (by (simp <;> rfl)) ah rfl) ?_
  refine ai (dt (62,0) _ _ aa rfl rfl (bM _).symm (.sl rfl) (by simp;omega) rfl ((fi _ { op:= .stop }).trans (congrArg inl hsn.symm)) (show (bT (ons.take j) 0++C).length+1=(bT (ons.take (j+1)) 0).length by simp [hsl])) ?_
  refine bb rfl rfl rfl (bG rfl rfl rfl rfl rfl rfl (dS (an (aX rfl (ai (aZ _ _ rfl rfl (bE ab)) ?_)))))
  refine be rfl (aJ (⟨j+1,?_,?_,?_⟩))
  ·omega
  ·skip
   refine Le.mkJ [((60,0),(62,0))] [] rfl ?_ ?_ trivial trivial ?_
   ·exact ⟨(dI (id:=(1,0)) rfl),(dI (id:=(2,0)) rfl),(dI (id:=(4,0)) rfl),(co ag),trivial⟩
   ·exact ⟨(fm rfl rfl rfl rfl (by repeat' (first | exact Lv.sl | exact bf | refine au ?_ ?_))),(fm rfl rfl rfl rfl (by repeat' (first | exact Lv.v | exact bf | refine au ?_ ?_))),(fg rfl rfl rfl ag),(fm rfl rfl rfl rfl lz),trivial⟩
   kernel_rfl
  omega
 obtain rfl:j=ons.length:=by omega
 rw [List.take_length]
 refine bD (id (hK8 _ ?_))
 clear hK8;try clear K8
 refine aq (am (bb rfl rfl rfl (ai (aF _ aa rfl rfl eN) (ai (dg _ aa rfl rfl) (ai (gA _ _ rfl rfl rfl) (aj (aP rfl (fun hc67=> ?_) (fun hc67=> ?_))))))))
 ·skip
  have hco:kZ ons≠true:=by
   unfold kZ
   rw [decide_eq_false ab,Bool.false_and]
   exact Bool.false_ne_true
  rw [Dv,if_neg hco,KT,if_pos ab]
  refine am (ai (aL _ aa rfl (by exact DK)) ?_)
  exact bG rfl rfl rfl rfl rfl rfl (be rfl (aj (aG (jV (.inr rfl) rfl (.cellA aa rfl rfl rfl) (.tmp kU) (Le.out [] [] (.tup rfl lz) rfl rfl rfl trivial trivial)))))
 have hl4:(bT ons 0).length≤400:=by omega
 refine aS (aU fun K19 hK19=> ?_)
 refine am (be rfl (aj (ax ?_)))
 refine aM (Le.frzB (4,0) 0 rfl rfl rfl rfl (ys:=inl (bT ons 0)) (by rw [List.drop_zero];exact List.take_of_length_le (by rw [bM];omega)) (by rw [bM];omega)) ?_
 refine bq (α:=Nat) (fun h=> h≤40∧ ∀ k,k < h→lb (bT ons 0) (jy (bT ons 0) (bX ons k)).1 (bT ons 0).length≤16) 79 [(2,_),(4,_)] [((2,0),_)] (fun h=> [(8, .v (.int .i64 (h:Int)))]) (fun h=> [((4,0), .box 26 [.sl (bT ons 0).length (inl (bT ons 0)), .v (.int .i64 (bX ons 0)), .v (.int .i64 (bX ons 1)), .v (.int .i64 (bX ons 2)), .v (.int .i64 (bX ons 3)), .v (.int .i64 (bX ons 4)), .v (.int .i64 (bX ons 5)), .v (.int .i64 (bX ons 6)), .v (.int .i64 (bX ons 7)), .v (.int .i64 (bX ons 8)), .v (.int .i64 (bX ons 9)), .v (.int .i64 (bX ons 10)), .v (.int .i64 (bX ons 11)), .v (.int .i64 (bX ons 12)), .v (.int .i64 (bX ons 13)), .v (.int .i64 (bX ons 14)), .v (.int .i64 (bX ons 15)), .v (.int .i64 (bX ons 16)), .v (.int .i64 (bX ons 17)), .v (.int .i64 (bX ons 18)), .v (.int .i64 (bX ons 19)), .v (.int .i64 (bX ons 20)), .v (.int .i64 (bX ons 21)), .v (.int .i64 (bX ons 22)), .v (.int .i64 (bX ons 23)), .v (.int .i64 (bX ons 24)), .v (.int .i64 (bX ons 25)), .v (.int .i64 (bX ons 26)), .v (.int .i64 (bX ons 27)), .v (.int .i64 (bX ons 28)), .v (.int .i64 (bX ons 29)), .v (.int .i64 (bX ons 30)), .v (.int .i64 (bX ons 31)), .v (.int .i64 (bX ons 32)), .v (.int .i64 (bX ons 33)), .v (.int .i64 (bX ons 34)), .v (.int .i64 (bX ons 35)), .v (.int .i64 (bX ons 36)), .v (.int .i64 (bX ons 37)), .v (.int .i64 (bX ons 38)), .v (.int .i64 (bX ons 39)), .v (.int .i64 (d.length:Int)), .v (.int .i64 (v.length:Int))])]) [] [] (fun h=> 40 - h) 0 ?_ (by
  refine Le.mkJ [] [] rfl ?_ ?_ trivial trivial ?_
  ·exact ⟨(iP rfl),(iP rfl),(co ag),trivial⟩
  ·exact ⟨(ca rfl rfl rfl),(fm rfl rfl rfl rfl lz),trivial⟩
  kernel_rfl) ?_
 ·exact ⟨Nat.zero_le _,fun k hk=> absurd hk (Nat.not_lt_zero _)⟩
 intro h hh
 obtain ⟨hk,hks⟩:=hh
 refine aU fun K21 hK21=> ?_
 refine am (aX rfl (ai (bm _ _ rfl rfl rfl) (aj (aP rfl (fun hc70=> ?_) (fun hc70=> ?_)))))
 ·skip
  have hh4:h < 40:=by omega
  have hdm:=nX (C:=bT ons 0) (qE U.good (U.ent h)) (B:=1000000) (fun i _=> Nat.le_trans (zU ons i) hUc) _ (Nat.le_refl _)
  have hde:=wr (bT ons 0) (bX ons) (d.length:Int) (v.length:Int) h hh4 hUc (xx ons) (d++v).length U.good (fun i=> Nat.le_trans (zU ons i) hUc) (U.ent h)
  refine bs (hK21 _ ?_)
  clear hK21;try clear K21
  refine aq (ax (am (ai (az _ aa rfl rfl rfl rfl) (aX rfl (ai (aH aa al (hde) rfl rfl) ?_)))))
  refine ai (gA _ _ rfl rfl rfl) (aj (aP rfl (fun hc76=> ?_) (fun hc76=> ?_)))
  ·skip
   have hco:kZ ons≠true:=fun e=> by
    unfold kZ at e
    rw [Bool.and_eq_true,List.all_eq_true] at e
    have:=e.2 h (List.mem_range.2 hh4)
    rw [decide_eq_true_eq] at this
    exact absurd (show lb (bT ons 0) (jy (bT ons 0) (bX ons h)).1 (bT ons 0).length≤16 from this) ab
   rw [Dv,if_neg hco,KT,if_neg ab]
   refine am (ai (aL _ aa rfl (by exact DK)) ?_)
   exact bG rfl rfl rfl rfl rfl rfl (be rfl (aj (aG (jV (.inr rfl) rfl (.cellA aa rfl rfl rfl) (.tmp kU) (Le.out [] [] (.tup rfl lz) rfl rfl rfl trivial trivial)))))
  refine cr (an (aX rfl (ai (aZ _ _ rfl rfl (bE ab)) ?_)))
  refine be rfl (aJ (⟨h+1,?_,?_,?_⟩))
  ·exact ⟨by omega,fun k hk=> (by
    rcases Nat.lt_or_ge k h with hlt | hge
    ·exact hks k hlt
    obtain rfl:k=h:=by omega
    omega)⟩
  ·skip
   refine Le.mkJ [] [] rfl ?_ ?_ trivial trivial ?_
   ·exact ⟨(iP rfl),(iP rfl),(co ag),trivial⟩
   ·exact ⟨(ca rfl rfl rfl),(fm rfl rfl rfl rfl lz),trivial⟩
   kernel_rfl
  omega
 obtain rfl:h=40:=by omega
 have hco:kZ ons=true:=by
  unfold kZ
  rw [Bool.and_eq_true,decide_eq_true_eq,List.all_eq_true]
  exact ⟨hl4,fun k hk=> decide_eq_true (hks k (List.mem_range.1 hk))⟩
 refine bD (id (hK19 _ ?_))
 clear hK19;try clear K19
 refine am (ai (az _ aa rfl rfl rfl rfl) (bG rfl rfl rfl rfl rfl rfl (be rfl (aj (aG ?_)))))
 rw [Dv,if_pos hco]
 exact jV (.inr rfl) rfl (.cellA aa rfl rfl rfl) (.tmp kU) (Le.out [] [] (.tup rfl lz) rfl rfl rfl trivial trivial)

structure mm (s:Tx) (d v:List Tx) (ons:List (Nat×Bk)):Prop extends UOk d v ons where
 p:gB s=some (d,v,wI d v ons)
 l:s.length≤3000
 wl: ∀ p∈ons,pP p.2=true
theorem Ak {s:Tx} {d v:List Tx} {ons:List (Nat×Bk)} (U:mm s d v ons) (hc:kZ ons=true):
  Spec Tryz.prog 64 (ba [.v (bt s)] []) (aO (Dv d v ons) []):=by
 have h1:=pV s U.l _ _ _ U.p
 have h2:Spec Tryz.prog 97 (ba [JJ d v (wI d v ons)] []) (aO (.v (.int .i64 0)) []):=qM d v ons U.nd U.len U.ok U.wl U.n
 have h3:=nx d v ons U.toUOk
 rw [Dv,if_pos hc] at h3 ⊢
 obtain ⟨H,hH⟩: ∃ H,H=wI d v ons:=⟨_,rfl⟩
 rw [← hH] at h1 h2 h3
 clear hH
 refine Spec.ofN Tryz.func64 rfl Tryz.ntmps64 rfl ?_
 refine am (ai (aC (2,0) aa rfl rfl) (be rfl (aj (am (eh rfl (ai (aH aa al (h1) rfl rfl) ?_))))))
 refine ai (aI _ tN) (ai (cq _ rfl pE) (ai (cq _ rfl eg) (ai (cq _ rfl eg) (ai (aC (4,0) aa rfl rfl) (bG rfl rfl rfl rfl rfl rfl (be rfl (be rfl (aj (aq (am ?_))))))))))
 refine aX rfl (ai (bY (r:=false) _ _ rfl rfl rfl) (aj (aW rfl rfl (aS (am (ai (az _ aa rfl rfl rfl rfl) (ai (aH aa al (h2) rfl rfl) ?_)))))))
 refine be rfl (aj (aq (aq ?_)))
 refine aM (σ':=aD 32 [(2,_),(4,_),(6,_)] [((2,0),_),((4,0),_)] [] []) kp ?_
 refine an (aX rfl (ai (bY (r:=false) _ _ rfl rfl rfl) (aj (aW rfl rfl (aS (am (ai (az _ aa rfl rfl rfl rfl) (ai (aH aa al (h3) rfl rfl) ?_))))))))
 refine ai (aI _ tN) (ai (cq _ rfl pE) (ai (cq _ rfl eg) (ai (aC (7,0) aa rfl rfl) (bG rfl rfl rfl rfl rfl rfl (be rfl (aj (am (ai (az _ aa rfl rfl rfl rfl) (aX rfl (bG rfl rfl rfl rfl rfl rfl ?_))))))))))
 exact be rfl (aj (aG (jV (.inr rfl) rfl (.cellA aa rfl rfl rfl) (.tmp kU) (Le.out [] [] (.tup rfl lz) rfl rfl rfl trivial trivial))))
theorem AL {s:Tx} {d v:List Tx} {ons:List (Nat×Bk)} (U:mm s d v ons) (hc:kZ ons≠true):
  Spec Tryz.prog 64 (ba [.v (bt s)] []) (aO (Dv d v ons) []):=by
 have h1:=pV s U.l _ _ _ U.p
 have h2:Spec Tryz.prog 97 (ba [JJ d v (wI d v ons)] []) (aO (.v (.int .i64 0)) []):=qM d v ons U.nd U.len U.ok U.wl U.n
 have h3:=nx d v ons U.toUOk
 rw [Dv,if_neg hc] at h3 ⊢
 generalize KT ons=er at h3 ⊢
 obtain ⟨H,hH⟩: ∃ H,H=wI d v ons:=⟨_,rfl⟩
 rw [← hH] at h1 h2 h3
 clear hH
 refine Spec.ofN Tryz.func64 rfl Tryz.ntmps64 rfl ?_
 refine am (ai (aC (2,0) aa rfl rfl) (be rfl (aj (am (eh rfl (ai (aH aa al (h1) rfl rfl) ?_))))))
 refine ai (aI _ tN) (ai (cq _ rfl pE) (ai (cq _ rfl eg) (ai (cq _ rfl eg) (ai (aC (4,0) aa rfl rfl) (bG rfl rfl rfl rfl rfl rfl (be rfl (be rfl (aj (aq (am ?_))))))))))
 refine aX rfl (ai (bY (r:=false) _ _ rfl rfl rfl) (aj (aW rfl rfl (aS (am (ai (az _ aa rfl rfl rfl rfl) (ai (aH aa al (h2) rfl rfl) ?_)))))))
 refine be rfl (aj (aq (aq ?_)))
 refine aM (σ':=aD 32 [(2,_),(4,_),(6,_)] [((2,0),_),((4,0),_)] [] []) kp ?_
 refine an (aX rfl (ai (bY (r:=false) _ _ rfl rfl rfl) (aj (aW rfl rfl (aS (am (ai (az _ aa rfl rfl rfl rfl) (ai (aH aa al (h3) rfl rfl) ?_))))))))
 refine ai (aI _ tN) (ai (cq _ rfl pE) (ai (cq _ rfl eg) (ai (aC (7,0) aa rfl rfl) (bG rfl rfl rfl rfl rfl rfl (be rfl (aj (am (ai (az _ aa rfl rfl rfl rfl) (aX rfl (bG rfl rfl rfl rfl rfl rfl ?_))))))))))
 exact be rfl (aj (aG (jV (.inr rfl) rfl (.cellA aa rfl rfl rfl) (.tmp kU) (Le.out [] [] (.tup rfl lz) rfl rfl rfl trivial trivial))))
theorem wJ {s:Tx} {d v:List Tx} {ons:List (Nat×Bk)} (U:mm s d v ons):
  Spec Tryz.prog 64 (ba [.v (bt s)] []) (aO (Dv d v ons) []):=by
 by_cases hc:kZ ons=true
 ·exact Ak U hc
 exact AL U hc
def durs:List (List Tx):=[Dc,BG,Ci,AZ,zR,AC,Cl,zY,CG,Cs,ud,uw]
def vols:List (List Tx):=[AE,De,Bp,BV,Df,Bn,zF,BA,CF,zE,uc,vh]
def onss:List (List (Nat×Bk)):=[ons0,ons1,ons2,ons3,ons4,ons5,ons6,ons7,ons8,ons9,ons10,ons11]
theorem iH {d v:List Tx} {ons:List (Nat×Bk)} (h:vy ons (d++v).length) (h1:(d++v).Nodup) (h2:(d++v).length≤16) (h3:(ons.all fun p=> sH p.2)=true) (h4:ons.length≤1000):UOk d v ons:=
 ⟨h1,h2,h.ok,fun p hp=> (List.all_eq_true.1 h3) p hp,h.h,by have:=h.n;omega,h4⟩
theorem JK:mm (srcs.getD 0 []) Dc AE ons0:=⟨iH srcOk0 ah ah ae ah,HM,of_decide_eq_true ae,srcOk0.wl⟩
theorem Ju:mm (srcs.getD 1 []) BG De ons1:=⟨iH srcOk1 ah ah ae ah,Hm,of_decide_eq_true ae,srcOk1.wl⟩
theorem JP:mm (srcs.getD 2 []) Ci Bp ons2:=⟨iH srcOk2 ah ah ae ah,HK,of_decide_eq_true ae,srcOk2.wl⟩
theorem JN:mm (srcs.getD 3 []) AZ BV ons3:=⟨iH srcOk3 ah ah ae ah,GM,of_decide_eq_true ae,srcOk3.wl⟩
theorem JX:mm (srcs.getD 4 []) zR Df ons4:=⟨iH srcOk4 ah ah ae ah,HH,of_decide_eq_true ae,srcOk4.wl⟩
theorem JE:mm (srcs.getD 5 []) AC Bn ons5:=⟨iH srcOk5 ah ah ae ah,IM,of_decide_eq_true ae,srcOk5.wl⟩
theorem Jc:mm (srcs.getD 6 []) Cl zF ons6:=⟨iH srcOk6 ah ah ae ah,He,of_decide_eq_true ae,srcOk6.wl⟩
theorem Kc:mm (srcs.getD 7 []) zY BA ons7:=⟨iH srcOk7 ah ah ae ah,GT,of_decide_eq_true ae,srcOk7.wl⟩
theorem Jz:mm (srcs.getD 8 []) CG CF ons8:=⟨iH srcOk8 ah ah ae ah,HZ,of_decide_eq_true ae,srcOk8.wl⟩
theorem Js:mm (srcs.getD 9 []) Cs zE ons9:=⟨iH srcOk9 ah ah ae ah,Iw,of_decide_eq_true ae,srcOk9.wl⟩
theorem GW:mm (srcs.getD 10 []) ud uc ons10:=⟨iH srcOk10 ah ah ae ah,FS,of_decide_eq_true ae,srcOk10.wl⟩
theorem Hw:mm (srcs.getD 11 []) uw vh ons11:=⟨iH srcOk11 ah ah ae ah,Fh,of_decide_eq_true ae,srcOk11.wl⟩
theorem JT (k:Nat) (hk:k < 12):mm (srcs.getD k []) (durs.getD k []) (vols.getD k []) (onss.getD k [])∧vy (onss.getD k []) (durs.getD k []++vols.getD k []).length:=by
 rcases k with _ | _ | _ | _ | _ | _ | _ | _ | _ | _ | _ | _ | k
 ·exact ⟨JK,srcOk0⟩
 ·exact ⟨Ju,srcOk1⟩
 ·exact ⟨JP,srcOk2⟩
 ·exact ⟨JN,srcOk3⟩
 ·exact ⟨JX,srcOk4⟩
 ·exact ⟨JE,srcOk5⟩
 ·exact ⟨Jc,srcOk6⟩
 ·exact ⟨Kc,srcOk7⟩
 ·exact ⟨Jz,srcOk8⟩
 ·exact ⟨Js,srcOk9⟩
 ·exact ⟨GW,srcOk10⟩
 ·exact ⟨Hw,srcOk11⟩
 omega
theorem sJ:Spec Tryz.prog 108 (ba [] []) (aO (.sl 12 (fl srcs)) []):=by
 refine Spec.ofN Tryz.func108 rfl Tryz.ntmps108 rfl ?_
 refine am (ai (bp _ fz) (aj (am (ai (bh _ _ aa rfl ag (by (simp <;> rfl)) ah rfl) ?_))))
 exact kD rfl (aj (aG (bI (.inr rfl) rfl (.tmp nB) (Le.out [] [] (jf rfl ae) rfl rfl rfl trivial trivial))))
theorem vq (n:Int) (h1: -9223372036854775808≤n) (h2:n≤9223372036854775807):
  Spec Tryz.prog 75 (ba [.v (.int .i64 n)] []) (aO (.v (bt (srcs.getD (dL n 12).toNat []))) []):=by
 have ha:=jP n 12 ab ab h1 h2
 have hlo:=jg n 12 ab
 have hhi:=kw n 12 ab
 obtain ⟨k,hk⟩: ∃ k:Nat,dL n 12=(k:Int):=⟨(dL n 12).toNat,by omega⟩
 rw [hk] at ha hlo hhi ⊢
 have hk2:k < srcs.length:=by rw [Dp];omega
 have hg:=jQ srcs k hk2
 have hs:=sJ
 rw [Int.toNat_natCast]
 generalize srcs=S at hg hs hk2
 refine Spec.ofN Tryz.func75 rfl Tryz.ntmps75 rfl ?_
 refine am (oO rfl (aj (am (ai (aH aa (by repeat' (exact cU)) (hs) rfl rfl) ?_))))
 refine kD rfl (aj (am (eW rfl (aX rfl (eW rfl (ai (bn _ aa rfl) (ai (aH aa al (ha) rfl rfl) ?_)))))))
 refine ai (bo _ _ aa rfl rfl _ rfl ab (by (simp only [aN,bg,bj,bv,bu,bH,bz,bM,eI,aN,List.length_map];omega)) (by exact Nat.mul_one _)) ?_
 refine ai (bO _ aa rfl (by exact hg) rfl) ?_
 exact oO rfl (aj (aG (ft rfl rfl)))
theorem sU (n:Int) (h1: -9223372036854775808≤n) (h2:n≤9223372036854775807):
  Spec Tryz.prog 39 (ba [.v (.int .i64 n)] []) (aO (Pf (durs.getD (dL n 12).toNat []) (vols.getD (dL n 12).toNat []) (onss.getD (dL n 12).toNat [])) []):=by
 have hs:=vq n h1 h2
 have hlo:=jg n 12 ab
 have hhi:=kw n 12 ab
 obtain ⟨k,hk⟩: ∃ k:Nat,dL n 12=(k:Int):=⟨(dL n 12).toNat,by omega⟩
 rw [hk] at hs hlo hhi ⊢
 rw [Int.toNat_natCast] at hs ⊢
 obtain ⟨U,hS⟩:=JT k ab
 have hb:=wJ U
 rw [Dv,if_pos (xO hS)] at hb
 generalize srcs.getD k []=s at hs hb
 generalize durs.getD k []=d at hb ⊢
 generalize vols.getD k []=v at hb ⊢
 generalize onss.getD k []=ons at hb ⊢
 clear U hS
 refine Spec.ofN Tryz.func39 rfl Tryz.ntmps39 rfl ?_
 refine am (ai (aC (2,0) aa rfl rfl) (aj (am (aX rfl (ai (aH aa al (hs) rfl rfl) ?_)))))
 refine ai (aH aa al (hb) rfl rfl) ?_
 refine ai (aI _ tN) (ai (cq _ rfl pE) (ai (cq _ rfl eg) (ai (aC (3,0) aa rfl rfl) (bG rfl rfl rfl rfl rfl rfl (be rfl (aj (am (ai (az _ aa rfl rfl rfl rfl) (bG rfl rfl rfl rfl rfl rfl (aj ?_))))))))))
 exact aG (bI (.inr rfl) rfl (.cellA aa rfl rfl rfl) (Le.out [] [] (.agg rfl lz) rfl rfl rfl trivial trivial))

structure GL (L:List Int):Prop where
 n:L.length≤4611686018427387904
 r: ∀ x∈L, -9223372036854775808≤x∧x≤9223372036854775807

structure Pg where
 c:List eU
 e:Nat→Int
 d:Nat
 v:Nat
abbrev Qs (p:Pg):List AV:=El p.c.length (inl p.c) p.e (p.d:Int) (p.v:Int)
abbrev ii (p:Pg):AV:= .agg (Qs p)
end Go.Proofs.YtmjnackchaahbaaGreat
