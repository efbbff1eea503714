/- part 13 -/
import Derived.Test.YtmjnackchaahbaaGreatNqZ12
set_option linter.unusedSimpArgs false
set_option linter.unusedVariables false
namespace Go.Proofs.YtmjnackchaahbaaGreat
open Go.RowKit

abbrev IM (c:AV) (e:Nat→Int) (d v:Int):List AV:=[c, .v (.int .i64 (e 0)), .v (.int .i64 (e 1)), .v (.int .i64 (e 2)), .v (.int .i64 (e 3)), .v (.int .i64 (e 4)), .v (.int .i64 (e 5)), .v (.int .i64 (e 6)), .v (.int .i64 (e 7)), .v (.int .i64 (e 8)), .v (.int .i64 (e 9)), .v (.int .i64 (e 10)), .v (.int .i64 (e 11)), .v (.int .i64 (e 12)), .v (.int .i64 (e 13)), .v (.int .i64 (e 14)), .v (.int .i64 (e 15)), .v (.int .i64 (e 16)), .v (.int .i64 (e 17)), .v (.int .i64 (e 18)), .v (.int .i64 (e 19)), .v (.int .i64 (e 20)), .v (.int .i64 (e 21)), .v (.int .i64 (e 22)), .v (.int .i64 (e 23)), .v (.int .i64 (e 24)), .v (.int .i64 (e 25)), .v (.int .i64 (e 26)), .v (.int .i64 (e 27)), .v (.int .i64 (e 28)), .v (.int .i64 (e 29)), .v (.int .i64 (e 30)), .v (.int .i64 (e 31)), .v (.int .i64 (e 32)), .v (.int .i64 (e 33)), .v (.int .i64 (e 34)), .v (.int .i64 (e 35)), .v (.int .i64 (e 36)), .v (.int .i64 (e 37)), .v (.int .i64 (e 38)), .v (.int .i64 (e 39)), .v (.int .i64 d), .v (.int .i64 v)]
abbrev DF (n:Nat) (xs:List PV) (e:Nat→Int) (d v:Int):List AV:=IM (.sl n xs) e d v
def lm (e:Nat→Int) (h:Nat) (x:Int):Nat→Int:=fun k=> if k=h then x else e k
theorem sX (c:AV) (e:Nat→Int) (d v:Int) (h:Nat) (hh:h < 40) (x:Int):fX (IM c e d v) (1+h) [.v (.int .i64 x)]=IM c (lm e h x) d v:=by
 rcases h with _ | _ | _ | _ | _ | _ | _ | _ | _ | _ | _ | _ | _ | _ | _ | _ | _ | _ | _ | _ | _ | _ | _ | _ | _ | _ | _ | _ | _ | _ | _ | _ | _ | _ | _ | _ | _ | _ | _ | _ | h
 all_goals first | rfl | omega
theorem tJ (n:Nat) (xs:List PV) (e:Nat→Int) (d v:Int) (h:Nat) (hh:h < 40):(DF n xs e d v)[1+h]? =some (.v (.int .i64 (e h))):=by
 rcases h with _ | _ | _ | _ | _ | _ | _ | _ | _ | _ | _ | _ | _ | _ | _ | _ | _ | _ | _ | _ | _ | _ | _ | _ | _ | _ | _ | _ | _ | _ | _ | _ | _ | _ | _ | _ | _ | _ | _ | _ | h
 all_goals first | rfl | omega
def Gq (l:List Nat):List PV:=l.map fun (x:Nat)=> .v (.int .i64 (x:Int))
@[simp] theorem eH (l:List Nat):(Gq l).length=l.length:=by simp [Gq]
theorem DJ (l:List Nat) (k:Nat) (h:k < l.length):(Gq l)[k]? =some (.v (.int .i64 (l.getD k 0:Int))):=by simp [Gq,h]
theorem xO:Spec Tryz.prog 106 (ba [.v (.int .i64 1)] []) (aP (.v (.int .i64 0)) []):=by
 refine Spec.ofN Tryz.func106 rfl Tryz.ntmps106 rfl ?_
 refine am (be rfl (aj (aq (am (aX rfl (aj (ay (aq (iO rfl rfl rfl rfl rfl (aT ?_))))))))))
 exact bM rfl rfl (am (be rfl (aj (aG (fv rfl rfl)))))
theorem AR:Spec Tryz.prog 106 (ba [.v (.int .i64 2)] []) (aP (.v (.int .i64 0)) []):=by
 refine Spec.ofN Tryz.func106 rfl Tryz.ntmps106 rfl ?_
 refine am (be rfl (aj (aq (am (aX rfl (aj (ay (aq (cK rfl rfl rfl rfl rfl (iO rfl rfl rfl rfl rfl ?_))))))))))
 exact aT (bM rfl rfl (am (be rfl (aj (aG (fv rfl rfl))))))
theorem tZ:Spec Tryz.prog 106 (ba [.v (.int .i64 3)] []) (aP (.v (.int .i64 1)) []):=by
 refine Spec.ofN Tryz.func106 rfl Tryz.ntmps106 rfl ?_
 refine am (be rfl (aj (aq (am (aX rfl (aj (ay (aq ?_))))))))
 iterate 7 refine cK rfl rfl rfl rfl rfl ?_
 refine aM (σ':=aE 31 [(3,_)] [] [] []) kp ?_
 refine dZ rfl rfl rfl rfl rfl (aq ?_)
 iterate 3 refine cK rfl rfl rfl rfl rfl ?_
 exact iO rfl rfl rfl rfl rfl (aT (bM rfl rfl (am (be rfl (aj (aG (fv rfl rfl)))))))
theorem yN:Spec Tryz.prog 106 (ba [.v (.int .i64 4)] []) (aP (.v (.int .i64 0)) []):=by
 refine Spec.ofN Tryz.func106 rfl Tryz.ntmps106 rfl ?_
 refine am (be rfl (aj (aq (am (aX rfl (aj (ay (aq ?_))))))))
 iterate 2 refine cK rfl rfl rfl rfl rfl ?_
 exact iO rfl rfl rfl rfl rfl (aT (bM rfl rfl (am (be rfl (aj (aG (fv rfl rfl)))))))
theorem yS:Spec Tryz.prog 106 (ba [.v (.int .i64 5)] []) (aP (.v (.int .i64 1)) []):=by
 refine Spec.ofN Tryz.func106 rfl Tryz.ntmps106 rfl ?_
 refine am (be rfl (aj (aq (am (aX rfl (aj (ay (aq ?_))))))))
 iterate 7 refine cK rfl rfl rfl rfl rfl ?_
 refine aM (σ':=aE 31 [(3,_)] [] [] []) kp ?_
 exact dZ rfl rfl rfl rfl rfl (aq (iO rfl rfl rfl rfl rfl (aT (bM rfl rfl (am (be rfl (aj (aG (fv rfl rfl)))))))))
theorem BA:Spec Tryz.prog 106 (ba [.v (.int .i64 6)] []) (aP (.v (.int .i64 2)) []):=by
 refine Spec.ofN Tryz.func106 rfl Tryz.ntmps106 rfl ?_
 refine am (be rfl (aj (aq (am (aX rfl (aj (ay (aq ?_))))))))
 iterate 7 refine cK rfl rfl rfl rfl rfl ?_
 refine aM (σ':=aE 31 [(3,_)] [] [] []) kp ?_
 refine dZ rfl rfl rfl rfl rfl (aq ?_)
 iterate 5 refine cK rfl rfl rfl rfl rfl ?_
 refine dZ rfl rfl rfl rfl rfl (aq (iO rfl rfl rfl rfl rfl (aT (bM rfl rfl (aq ?_)))))
 refine aM (σ':=aE 31 [] [] [] []) kp ?_
 exact an (be rfl (aj (aG (fv rfl rfl))))
theorem zF:Spec Tryz.prog 106 (ba [.v (.int .i64 7)] []) (aP (.v (.int .i64 2)) []):=by
 refine Spec.ofN Tryz.func106 rfl Tryz.ntmps106 rfl ?_
 refine am (be rfl (aj (aq (am (aX rfl (aj (ay (aq ?_))))))))
 iterate 7 refine cK rfl rfl rfl rfl rfl ?_
 refine aM (σ':=aE 31 [(3,_)] [] [] []) kp ?_
 refine dZ rfl rfl rfl rfl rfl (aq ?_)
 iterate 5 refine cK rfl rfl rfl rfl rfl ?_
 refine dZ rfl rfl rfl rfl rfl (aq (cK rfl rfl rfl rfl rfl (aq ?_)))
 refine aM (σ':=aE 31 [(3,_)] [] [] []) kp ?_
 exact zr rfl rfl rfl rfl rfl (aT (bM rfl rfl (am (be rfl (aj (aG (fv rfl rfl)))))))
theorem Ba:Spec Tryz.prog 106 (ba [.v (.int .i64 8)] []) (aP (.v (.int .i64 2)) []):=by
 refine Spec.ofN Tryz.func106 rfl Tryz.ntmps106 rfl ?_
 refine am (be rfl (aj (aq (am (aX rfl (aj (ay (aq ?_))))))))
 iterate 7 refine cK rfl rfl rfl rfl rfl ?_
 refine aM (σ':=aE 31 [(3,_)] [] [] []) kp ?_
 refine dZ rfl rfl rfl rfl rfl (aq ?_)
 iterate 5 refine cK rfl rfl rfl rfl rfl ?_
 refine dZ rfl rfl rfl rfl rfl (aq (cK rfl rfl rfl rfl rfl (aq ?_)))
 refine aM (σ':=aE 31 [(3,_)] [] [] []) kp ?_
 exact dZ rfl rfl rfl rfl rfl (iO rfl rfl rfl rfl rfl (aT (bM rfl rfl (am (be rfl (aj (aG (fv rfl rfl))))))))
theorem zV:Spec Tryz.prog 106 (ba [.v (.int .i64 9)] []) (aP (.v (.int .i64 2)) []):=by
 refine Spec.ofN Tryz.func106 rfl Tryz.ntmps106 rfl ?_
 refine am (be rfl (aj (aq (am (aX rfl (aj (ay (aq ?_))))))))
 iterate 7 refine cK rfl rfl rfl rfl rfl ?_
 refine aM (σ':=aE 31 [(3,_)] [] [] []) kp ?_
 refine dZ rfl rfl rfl rfl rfl (aq ?_)
 iterate 5 refine cK rfl rfl rfl rfl rfl ?_
 refine dZ rfl rfl rfl rfl rfl (aq (cK rfl rfl rfl rfl rfl (aq ?_)))
 refine aM (σ':=aE 31 [(3,_)] [] [] []) kp ?_
 exact dZ rfl rfl rfl rfl rfl (cK rfl rfl rfl rfl rfl (iO rfl rfl rfl rfl rfl (aT (bM rfl rfl (am (be rfl (aj (aG (fv rfl rfl)))))))))
theorem AO:Spec Tryz.prog 106 (ba [.v (.int .i64 10)] []) (aP (.v (.int .i64 1)) []):=by
 refine Spec.ofN Tryz.func106 rfl Tryz.ntmps106 rfl ?_
 refine am (be rfl (aj (aq (am (aX rfl (aj (ay (aq ?_))))))))
 iterate 7 refine cK rfl rfl rfl rfl rfl ?_
 refine aM (σ':=aE 31 [(3,_)] [] [] []) kp ?_
 exact dZ rfl rfl rfl rfl rfl (aq (cK rfl rfl rfl rfl rfl (iO rfl rfl rfl rfl rfl (aT (bM rfl rfl (am (be rfl (aj (aG (fv rfl rfl))))))))))
theorem Ei:Spec Tryz.prog 106 (ba [.v (.int .i64 11)] []) (aP (.v (.int .i64 2)) []):=by
 refine Spec.ofN Tryz.func106 rfl Tryz.ntmps106 rfl ?_
 refine am (be rfl (aj (aq (am (aX rfl (aj (ay (aq ?_))))))))
 iterate 7 refine cK rfl rfl rfl rfl rfl ?_
 refine aM (σ':=aE 31 [(3,_)] [] [] []) kp ?_
 refine dZ rfl rfl rfl rfl rfl (aq ?_)
 iterate 5 refine cK rfl rfl rfl rfl rfl ?_
 refine dZ rfl rfl rfl rfl rfl (aq (cK rfl rfl rfl rfl rfl (aq ?_)))
 refine aM (σ':=aE 31 [(3,_)] [] [] []) kp ?_
 refine dZ rfl rfl rfl rfl rfl ?_
 iterate 2 refine cK rfl rfl rfl rfl rfl ?_
 exact iO rfl rfl rfl rfl rfl (aT (bM rfl rfl (am (be rfl (aj (aG (fv rfl rfl)))))))
theorem Fr:Spec Tryz.prog 106 (ba [.v (.int .i64 12)] []) (aP (.v (.int .i64 2)) []):=by
 refine Spec.ofN Tryz.func106 rfl Tryz.ntmps106 rfl ?_
 refine am (be rfl (aj (aq (am (aX rfl (aj (ay (aq ?_))))))))
 iterate 7 refine cK rfl rfl rfl rfl rfl ?_
 refine aM (σ':=aE 31 [(3,_)] [] [] []) kp ?_
 refine dZ rfl rfl rfl rfl rfl (aq ?_)
 iterate 5 refine cK rfl rfl rfl rfl rfl ?_
 refine dZ rfl rfl rfl rfl rfl (aq (cK rfl rfl rfl rfl rfl (aq ?_)))
 refine aM (σ':=aE 31 [(3,_)] [] [] []) kp ?_
 refine dZ rfl rfl rfl rfl rfl ?_
 iterate 3 refine cK rfl rfl rfl rfl rfl ?_
 exact iO rfl rfl rfl rfl rfl (aT (bM rfl rfl (am (be rfl (aj (aG (fv rfl rfl)))))))
theorem Fq:Spec Tryz.prog 106 (ba [.v (.int .i64 13)] []) (aP (.v (.int .i64 2)) []):=by
 refine Spec.ofN Tryz.func106 rfl Tryz.ntmps106 rfl ?_
 refine am (be rfl (aj (aq (am (aX rfl (aj (ay (aq ?_))))))))
 iterate 7 refine cK rfl rfl rfl rfl rfl ?_
 refine aM (σ':=aE 31 [(3,_)] [] [] []) kp ?_
 refine dZ rfl rfl rfl rfl rfl (aq ?_)
 iterate 5 refine cK rfl rfl rfl rfl rfl ?_
 refine dZ rfl rfl rfl rfl rfl (aq (cK rfl rfl rfl rfl rfl (aq ?_)))
 refine aM (σ':=aE 31 [(3,_)] [] [] []) kp ?_
 refine dZ rfl rfl rfl rfl rfl ?_
 iterate 4 refine cK rfl rfl rfl rfl rfl ?_
 exact iO rfl rfl rfl rfl rfl (aT (bM rfl rfl (am (be rfl (aj (aG (fv rfl rfl)))))))
theorem AZ:Spec Tryz.prog 106 (ba [.v (.int .i64 14)] []) (aP (.v (.int .i64 1)) []):=by
 refine Spec.ofN Tryz.func106 rfl Tryz.ntmps106 rfl ?_
 refine am (be rfl (aj (aq (am (aX rfl (aj (ay (aq ?_))))))))
 iterate 7 refine cK rfl rfl rfl rfl rfl ?_
 refine aM (σ':=aE 31 [(3,_)] [] [] []) kp ?_
 refine dZ rfl rfl rfl rfl rfl (aq ?_)
 iterate 2 refine cK rfl rfl rfl rfl rfl ?_
 exact iO rfl rfl rfl rfl rfl (aT (bM rfl rfl (am (be rfl (aj (aG (fv rfl rfl)))))))
theorem yE:Spec Tryz.prog 106 (ba [.v (.int .i64 15)] []) (aP (.v (.int .i64 0)) []):=by
 refine Spec.ofN Tryz.func106 rfl Tryz.ntmps106 rfl ?_
 refine am (be rfl (aj (aq (am (aX rfl (aj (ay (aq ?_))))))))
 iterate 3 refine cK rfl rfl rfl rfl rfl ?_
 exact iO rfl rfl rfl rfl rfl (aT (bM rfl rfl (am (be rfl (aj (aG (fv rfl rfl)))))))
theorem Cv:Spec Tryz.prog 106 (ba [.v (.int .i64 16)] []) (aP (.v (.int .i64 1)) []):=by
 refine Spec.ofN Tryz.func106 rfl Tryz.ntmps106 rfl ?_
 refine am (be rfl (aj (aq (am (aX rfl (aj (ay (aq ?_))))))))
 iterate 7 refine cK rfl rfl rfl rfl rfl ?_
 refine aM (σ':=aE 31 [(3,_)] [] [] []) kp ?_
 refine dZ rfl rfl rfl rfl rfl (aq ?_)
 iterate 4 refine cK rfl rfl rfl rfl rfl ?_
 exact iO rfl rfl rfl rfl rfl (aT (bM rfl rfl (am (be rfl (aj (aG (fv rfl rfl)))))))
theorem zj:Spec Tryz.prog 106 (ba [.v (.int .i64 17)] []) (aP (.v (.int .i64 3)) []):=by
 refine Spec.ofN Tryz.func106 rfl Tryz.ntmps106 rfl ?_
 refine am (be rfl (aj (aq (am (aX rfl (aj (ay (aq ?_))))))))
 iterate 7 refine cK rfl rfl rfl rfl rfl ?_
 refine aM (σ':=aE 31 [(3,_)] [] [] []) kp ?_
 refine dZ rfl rfl rfl rfl rfl (aq ?_)
 iterate 5 refine cK rfl rfl rfl rfl rfl ?_
 refine dZ rfl rfl rfl rfl rfl (aq (cK rfl rfl rfl rfl rfl (aq ?_)))
 refine aM (σ':=aE 31 [(3,_)] [] [] []) kp ?_
 refine dZ rfl rfl rfl rfl rfl ?_
 iterate 5 refine cK rfl rfl rfl rfl rfl ?_
 refine dZ rfl rfl rfl rfl rfl (iO rfl rfl rfl rfl rfl (aq ?_))
 refine aM (σ':=aE 31 [] [] [] []) kp ?_
 exact an (be rfl (aj (aG (fv rfl rfl))))
theorem vY:Spec Tryz.prog 106 (ba [.v (.int .i64 18)] []) (aP (.v (.int .i64 0)) []):=by
 refine Spec.ofN Tryz.func106 rfl Tryz.ntmps106 rfl ?_
 refine am (be rfl (aj (aq (am (aX rfl (aj (ay (aq ?_))))))))
 iterate 4 refine cK rfl rfl rfl rfl rfl ?_
 exact iO rfl rfl rfl rfl rfl (aT (bM rfl rfl (am (be rfl (aj (aG (fv rfl rfl)))))))
theorem uG:Spec Tryz.prog 106 (ba [.v (.int .i64 19)] []) (aP (.v (.int .i64 0)) []):=by
 refine Spec.ofN Tryz.func106 rfl Tryz.ntmps106 rfl ?_
 refine am (be rfl (aj (aq (am (aX rfl (aj (ay (aq ?_))))))))
 iterate 5 refine cK rfl rfl rfl rfl rfl ?_
 exact iO rfl rfl rfl rfl rfl (aT (bM rfl rfl (am (be rfl (aj (aG (fv rfl rfl)))))))
theorem yG:Spec Tryz.prog 106 (ba [.v (.int .i64 20)] []) (aP (.v (.int .i64 0)) []):=by
 refine Spec.ofN Tryz.func106 rfl Tryz.ntmps106 rfl ?_
 refine am (be rfl (aj (aq (am (aX rfl (aj (ay (aq ?_))))))))
 iterate 6 refine cK rfl rfl rfl rfl rfl ?_
 refine iO rfl rfl rfl rfl rfl (aT (bM rfl rfl (aq ?_)))
 refine aM (σ':=aE 31 [] [] [] []) kp ?_
 exact an (be rfl (aj (aG (fv rfl rfl))))
theorem wK:Spec Tryz.prog 106 (ba [.v (.int .i64 21)] []) (aP (.v (.int .i64 2)) []):=by
 refine Spec.ofN Tryz.func106 rfl Tryz.ntmps106 rfl ?_
 refine am (be rfl (aj (aq (am (aX rfl (aj (ay (aq ?_))))))))
 iterate 7 refine cK rfl rfl rfl rfl rfl ?_
 refine aM (σ':=aE 31 [(3,_)] [] [] []) kp ?_
 refine dZ rfl rfl rfl rfl rfl (aq ?_)
 iterate 5 refine cK rfl rfl rfl rfl rfl ?_
 refine dZ rfl rfl rfl rfl rfl (aq (cK rfl rfl rfl rfl rfl (aq ?_)))
 refine aM (σ':=aE 31 [(3,_)] [] [] []) kp ?_
 refine dZ rfl rfl rfl rfl rfl ?_
 iterate 5 refine cK rfl rfl rfl rfl rfl ?_
 exact zr rfl rfl rfl rfl rfl (am (be rfl (aj (aG (fv rfl rfl)))))
theorem xN:Spec Tryz.prog 106 (ba [.v (.int .i64 22)] []) (aP (.v (.int .i64 1)) []):=by
 refine Spec.ofN Tryz.func106 rfl Tryz.ntmps106 rfl ?_
 refine am (be rfl (aj (aq (am (aX rfl (aj (ay (aq ?_))))))))
 iterate 7 refine cK rfl rfl rfl rfl rfl ?_
 refine aM (σ':=aE 31 [(3,_)] [] [] []) kp ?_
 refine dZ rfl rfl rfl rfl rfl (aq ?_)
 iterate 5 refine cK rfl rfl rfl rfl rfl ?_
 exact zr rfl rfl rfl rfl rfl (am (be rfl (aj (aG (fv rfl rfl)))))
theorem yz:Spec Tryz.prog 106 (ba [.v (.int .i64 23)] []) (aP (.v (.int .i64 0)) []):=by
 refine Spec.ofN Tryz.func106 rfl Tryz.ntmps106 rfl ?_
 refine am (be rfl (aj (aq (am (aX rfl (aj (ay (aq ?_))))))))
 iterate 7 refine cK rfl rfl rfl rfl rfl ?_
 refine aM (σ':=aE 31 [(3,_)] [] [] []) kp ?_
 exact zr rfl rfl rfl rfl rfl (am (be rfl (aj (aG (fv rfl rfl)))))
theorem ru (o:Opc):Spec Tryz.prog 106 (ba [.v (.int .i64 (o.num:Int))] []) (aP (.v (.int .i64 (o.pops:Int))) []):=by
 cases o
 ·exact xO
 ·exact AR
 ·exact tZ
 ·exact yN
 ·exact yS
 ·exact BA
 ·exact zF
 ·exact Ba
 ·exact zV
 ·exact AO
 ·exact Ei
 ·exact Fr
 ·exact Fq
 ·exact AZ
 ·exact yE
 ·exact Cv
 ·exact zj
 ·exact vY
 ·exact uG
 ·exact yG
 ·exact wK
 ·exact xN
 exact yz
theorem yH:Spec Tryz.prog 107 (ba [.v (.int .i64 1)] []) (aP (.v (.int .i64 1)) []):=by
 refine Spec.ofN Tryz.func107 rfl Tryz.ntmps107 rfl ?_
 refine am (be rfl (aj (aq (am (aX rfl (aj (ay (aq (iO rfl rfl rfl rfl rfl (aT ?_))))))))))
 exact bM rfl rfl (am (be rfl (aj (aG (fv rfl rfl)))))
theorem Bs:Spec Tryz.prog 107 (ba [.v (.int .i64 2)] []) (aP (.v (.int .i64 1)) []):=by
 refine Spec.ofN Tryz.func107 rfl Tryz.ntmps107 rfl ?_
 refine am (be rfl (aj (aq (am (aX rfl (aj (ay (aq (cK rfl rfl rfl rfl rfl (iO rfl rfl rfl rfl rfl ?_))))))))))
 exact aT (bM rfl rfl (am (be rfl (aj (aG (fv rfl rfl))))))
theorem uN:Spec Tryz.prog 107 (ba [.v (.int .i64 3)] []) (aP (.v (.int .i64 0)) []):=by
 refine Spec.ofN Tryz.func107 rfl Tryz.ntmps107 rfl ?_
 refine am (be rfl (aj (aq (am (aX rfl (aj (ay (aq ?_))))))))
 iterate 7 refine cK rfl rfl rfl rfl rfl ?_
 refine aq ?_
 refine aM (σ':=aE 18 [(3,_)] [] [] []) kp ?_
 refine dZ rfl rfl rfl rfl rfl ?_
 iterate 4 refine cK rfl rfl rfl rfl rfl ?_
 exact dZ rfl rfl rfl rfl rfl (cp (am (be rfl (aj (aG (fv rfl rfl))))))
theorem yw:Spec Tryz.prog 107 (ba [.v (.int .i64 4)] []) (aP (.v (.int .i64 1)) []):=by
 refine Spec.ofN Tryz.func107 rfl Tryz.ntmps107 rfl ?_
 refine am (be rfl (aj (aq (am (aX rfl (aj (ay (aq ?_))))))))
 iterate 2 refine cK rfl rfl rfl rfl rfl ?_
 exact iO rfl rfl rfl rfl rfl (aT (bM rfl rfl (am (be rfl (aj (aG (fv rfl rfl)))))))
theorem yX:Spec Tryz.prog 107 (ba [.v (.int .i64 5)] []) (aP (.v (.int .i64 1)) []):=by
 refine Spec.ofN Tryz.func107 rfl Tryz.ntmps107 rfl ?_
 refine am (be rfl (aj (aq (am (aX rfl (aj (ay (aq ?_))))))))
 iterate 3 refine cK rfl rfl rfl rfl rfl ?_
 exact iO rfl rfl rfl rfl rfl (aT (bM rfl rfl (am (be rfl (aj (aG (fv rfl rfl)))))))
theorem zS:Spec Tryz.prog 107 (ba [.v (.int .i64 6)] []) (aP (.v (.int .i64 1)) []):=by
 refine Spec.ofN Tryz.func107 rfl Tryz.ntmps107 rfl ?_
 refine am (be rfl (aj (aq (am (aX rfl (aj (ay (aq ?_))))))))
 iterate 6 refine cK rfl rfl rfl rfl rfl ?_
 refine iO rfl rfl rfl rfl rfl (aT (bM rfl rfl (aq ?_)))
 refine aM (σ':=aE 18 [] [] [] []) kp ?_
 exact an (be rfl (aj (aG (fv rfl rfl))))
theorem AP:Spec Tryz.prog 107 (ba [.v (.int .i64 7)] []) (aP (.v (.int .i64 1)) []):=by
 refine Spec.ofN Tryz.func107 rfl Tryz.ntmps107 rfl ?_
 refine am (be rfl (aj (aq (am (aX rfl (aj (ay (aq ?_))))))))
 iterate 7 refine cK rfl rfl rfl rfl rfl ?_
 refine aq ?_
 refine aM (σ':=aE 18 [(3,_)] [] [] []) kp ?_
 exact zr rfl rfl rfl rfl rfl (aT (bM rfl rfl (am (be rfl (aj (aG (fv rfl rfl)))))))
theorem Dc:Spec Tryz.prog 107 (ba [.v (.int .i64 8)] []) (aP (.v (.int .i64 1)) []):=by
 refine Spec.ofN Tryz.func107 rfl Tryz.ntmps107 rfl ?_
 refine am (be rfl (aj (aq (am (aX rfl (aj (ay (aq ?_))))))))
 iterate 7 refine cK rfl rfl rfl rfl rfl ?_
 refine aq ?_
 refine aM (σ':=aE 18 [(3,_)] [] [] []) kp ?_
 exact dZ rfl rfl rfl rfl rfl (iO rfl rfl rfl rfl rfl (aT (bM rfl rfl (am (be rfl (aj (aG (fv rfl rfl))))))))
theorem CO:Spec Tryz.prog 107 (ba [.v (.int .i64 9)] []) (aP (.v (.int .i64 1)) []):=by
 refine Spec.ofN Tryz.func107 rfl Tryz.ntmps107 rfl ?_
 refine am (be rfl (aj (aq (am (aX rfl (aj (ay (aq ?_))))))))
 iterate 7 refine cK rfl rfl rfl rfl rfl ?_
 refine aq ?_
 refine aM (σ':=aE 18 [(3,_)] [] [] []) kp ?_
 exact dZ rfl rfl rfl rfl rfl (cK rfl rfl rfl rfl rfl (iO rfl rfl rfl rfl rfl (aT (bM rfl rfl (am (be rfl (aj (aG (fv rfl rfl)))))))))
theorem Cj:Spec Tryz.prog 107 (ba [.v (.int .i64 10)] []) (aP (.v (.int .i64 1)) []):=by
 refine Spec.ofN Tryz.func107 rfl Tryz.ntmps107 rfl ?_
 refine am (be rfl (aj (aq (am (aX rfl (aj (ay (aq ?_))))))))
 iterate 4 refine cK rfl rfl rfl rfl rfl ?_
 exact iO rfl rfl rfl rfl rfl (aT (bM rfl rfl (am (be rfl (aj (aG (fv rfl rfl)))))))
theorem Fd:Spec Tryz.prog 107 (ba [.v (.int .i64 11)] []) (aP (.v (.int .i64 1)) []):=by
 refine Spec.ofN Tryz.func107 rfl Tryz.ntmps107 rfl ?_
 refine am (be rfl (aj (aq (am (aX rfl (aj (ay (aq ?_))))))))
 iterate 7 refine cK rfl rfl rfl rfl rfl ?_
 refine aq ?_
 refine aM (σ':=aE 18 [(3,_)] [] [] []) kp ?_
 refine dZ rfl rfl rfl rfl rfl ?_
 iterate 2 refine cK rfl rfl rfl rfl rfl ?_
 exact iO rfl rfl rfl rfl rfl (aT (bM rfl rfl (am (be rfl (aj (aG (fv rfl rfl)))))))
theorem Ga:Spec Tryz.prog 107 (ba [.v (.int .i64 12)] []) (aP (.v (.int .i64 1)) []):=by
 refine Spec.ofN Tryz.func107 rfl Tryz.ntmps107 rfl ?_
 refine am (be rfl (aj (aq (am (aX rfl (aj (ay (aq ?_))))))))
 iterate 7 refine cK rfl rfl rfl rfl rfl ?_
 refine aq ?_
 refine aM (σ':=aE 18 [(3,_)] [] [] []) kp ?_
 refine dZ rfl rfl rfl rfl rfl ?_
 iterate 3 refine cK rfl rfl rfl rfl rfl ?_
 exact iO rfl rfl rfl rfl rfl (aT (bM rfl rfl (am (be rfl (aj (aG (fv rfl rfl)))))))
theorem Gg:Spec Tryz.prog 107 (ba [.v (.int .i64 13)] []) (aP (.v (.int .i64 1)) []):=by
 refine Spec.ofN Tryz.func107 rfl Tryz.ntmps107 rfl ?_
 refine am (be rfl (aj (aq (am (aX rfl (aj (ay (aq ?_))))))))
 iterate 7 refine cK rfl rfl rfl rfl rfl ?_
 refine aq ?_
 refine aM (σ':=aE 18 [(3,_)] [] [] []) kp ?_
 refine dZ rfl rfl rfl rfl rfl ?_
 iterate 4 refine cK rfl rfl rfl rfl rfl ?_
 exact zr rfl rfl rfl rfl rfl (am (be rfl (aj (aG (fv rfl rfl)))))
theorem AB:Spec Tryz.prog 107 (ba [.v (.int .i64 14)] []) (aP (.v (.int .i64 1)) []):=by
 refine Spec.ofN Tryz.func107 rfl Tryz.ntmps107 rfl ?_
 refine am (be rfl (aj (aq (am (aX rfl (aj (ay (aq ?_))))))))
 iterate 5 refine cK rfl rfl rfl rfl rfl ?_
 exact iO rfl rfl rfl rfl rfl (aT (bM rfl rfl (am (be rfl (aj (aG (fv rfl rfl)))))))
theorem yD:Spec Tryz.prog 107 (ba [.v (.int .i64 15)] []) (aP (.v (.int .i64 0)) []):=by
 refine Spec.ofN Tryz.func107 rfl Tryz.ntmps107 rfl ?_
 refine am (be rfl (aj (aq (am (aX rfl (aj (ay (aq ?_))))))))
 iterate 7 refine cK rfl rfl rfl rfl rfl ?_
 refine aq ?_
 refine aM (σ':=aE 18 [(3,_)] [] [] []) kp ?_
 refine dZ rfl rfl rfl rfl rfl ?_
 iterate 4 refine cK rfl rfl rfl rfl rfl ?_
 exact dZ rfl rfl rfl rfl rfl (cp (am (be rfl (aj (aG (fv rfl rfl))))))
theorem By:Spec Tryz.prog 107 (ba [.v (.int .i64 16)] []) (aP (.v (.int .i64 0)) []):=by
 refine Spec.ofN Tryz.func107 rfl Tryz.ntmps107 rfl ?_
 refine am (be rfl (aj (aq (am (aX rfl (aj (ay (aq ?_))))))))
 iterate 7 refine cK rfl rfl rfl rfl rfl ?_
 refine aq ?_
 refine aM (σ':=aE 18 [(3,_)] [] [] []) kp ?_
 refine dZ rfl rfl rfl rfl rfl ?_
 iterate 4 refine cK rfl rfl rfl rfl rfl ?_
 exact dZ rfl rfl rfl rfl rfl (cp (am (be rfl (aj (aG (fv rfl rfl))))))
theorem yl:Spec Tryz.prog 107 (ba [.v (.int .i64 17)] []) (aP (.v (.int .i64 0)) []):=by
 refine Spec.ofN Tryz.func107 rfl Tryz.ntmps107 rfl ?_
 refine am (be rfl (aj (aq (am (aX rfl (aj (ay (aq ?_))))))))
 iterate 7 refine cK rfl rfl rfl rfl rfl ?_
 refine aq ?_
 refine aM (σ':=aE 18 [(3,_)] [] [] []) kp ?_
 refine dZ rfl rfl rfl rfl rfl ?_
 iterate 4 refine cK rfl rfl rfl rfl rfl ?_
 exact dZ rfl rfl rfl rfl rfl (cp (am (be rfl (aj (aG (fv rfl rfl))))))
theorem wr:Spec Tryz.prog 107 (ba [.v (.int .i64 18)] []) (aP (.v (.int .i64 0)) []):=by
 refine Spec.ofN Tryz.func107 rfl Tryz.ntmps107 rfl ?_
 refine am (be rfl (aj (aq (am (aX rfl (aj (ay (aq ?_))))))))
 iterate 7 refine cK rfl rfl rfl rfl rfl ?_
 refine aq ?_
 refine aM (σ':=aE 18 [(3,_)] [] [] []) kp ?_
 refine dZ rfl rfl rfl rfl rfl ?_
 iterate 4 refine cK rfl rfl rfl rfl rfl ?_
 exact dZ rfl rfl rfl rfl rfl (cp (am (be rfl (aj (aG (fv rfl rfl))))))
theorem uZ:Spec Tryz.prog 107 (ba [.v (.int .i64 19)] []) (aP (.v (.int .i64 0)) []):=by
 refine Spec.ofN Tryz.func107 rfl Tryz.ntmps107 rfl ?_
 refine am (be rfl (aj (aq (am (aX rfl (aj (ay (aq ?_))))))))
 iterate 7 refine cK rfl rfl rfl rfl rfl ?_
 refine aq ?_
 refine aM (σ':=aE 18 [(3,_)] [] [] []) kp ?_
 refine dZ rfl rfl rfl rfl rfl ?_
 iterate 4 refine cK rfl rfl rfl rfl rfl ?_
 exact dZ rfl rfl rfl rfl rfl (cp (am (be rfl (aj (aG (fv rfl rfl))))))
theorem xU:Spec Tryz.prog 107 (ba [.v (.int .i64 20)] []) (aP (.v (.int .i64 0)) []):=by
 refine Spec.ofN Tryz.func107 rfl Tryz.ntmps107 rfl ?_
 refine am (be rfl (aj (aq (am (aX rfl (aj (ay (aq ?_))))))))
 iterate 7 refine cK rfl rfl rfl rfl rfl ?_
 refine aq ?_
 refine aM (σ':=aE 18 [(3,_)] [] [] []) kp ?_
 refine dZ rfl rfl rfl rfl rfl ?_
 iterate 4 refine cK rfl rfl rfl rfl rfl ?_
 exact dZ rfl rfl rfl rfl rfl (cp (am (be rfl (aj (aG (fv rfl rfl))))))
theorem vK:Spec Tryz.prog 107 (ba [.v (.int .i64 21)] []) (aP (.v (.int .i64 0)) []):=by
 refine Spec.ofN Tryz.func107 rfl Tryz.ntmps107 rfl ?_
 refine am (be rfl (aj (aq (am (aX rfl (aj (ay (aq ?_))))))))
 iterate 7 refine cK rfl rfl rfl rfl rfl ?_
 refine aq ?_
 refine aM (σ':=aE 18 [(3,_)] [] [] []) kp ?_
 refine dZ rfl rfl rfl rfl rfl ?_
 iterate 4 refine cK rfl rfl rfl rfl rfl ?_
 exact dZ rfl rfl rfl rfl rfl (cp (am (be rfl (aj (aG (fv rfl rfl))))))
theorem xM:Spec Tryz.prog 107 (ba [.v (.int .i64 22)] []) (aP (.v (.int .i64 0)) []):=by
 refine Spec.ofN Tryz.func107 rfl Tryz.ntmps107 rfl ?_
 refine am (be rfl (aj (aq (am (aX rfl (aj (ay (aq ?_))))))))
 iterate 7 refine cK rfl rfl rfl rfl rfl ?_
 refine aq ?_
 refine aM (σ':=aE 18 [(3,_)] [] [] []) kp ?_
 refine dZ rfl rfl rfl rfl rfl ?_
 iterate 4 refine cK rfl rfl rfl rfl rfl ?_
 exact dZ rfl rfl rfl rfl rfl (cp (am (be rfl (aj (aG (fv rfl rfl))))))
theorem yO:Spec Tryz.prog 107 (ba [.v (.int .i64 23)] []) (aP (.v (.int .i64 0)) []):=by
 refine Spec.ofN Tryz.func107 rfl Tryz.ntmps107 rfl ?_
 refine am (be rfl (aj (aq (am (aX rfl (aj (ay (aq ?_))))))))
 iterate 7 refine cK rfl rfl rfl rfl rfl ?_
 refine aq ?_
 refine aM (σ':=aE 18 [(3,_)] [] [] []) kp ?_
 refine dZ rfl rfl rfl rfl rfl ?_
 iterate 4 refine cK rfl rfl rfl rfl rfl ?_
 exact dZ rfl rfl rfl rfl rfl (cp (am (be rfl (aj (aG (fv rfl rfl))))))
theorem rq (o:Opc):Spec Tryz.prog 107 (ba [.v (.int .i64 (o.num:Int))] []) (aP (.v (.int .i64 (o.puts:Int))) []):=by
 cases o
 ·exact yH
 ·exact Bs
 ·exact uN
 ·exact yw
 ·exact yX
 ·exact zS
 ·exact AP
 ·exact Dc
 ·exact CO
 ·exact Cj
 ·exact Fd
 ·exact Ga
 ·exact Gg
 ·exact AB
 ·exact yD
 ·exact By
 ·exact yl
 ·exact wr
 ·exact uZ
 ·exact xU
 ·exact vK
 ·exact xM
 exact yO
theorem opn_stop {o:Opc}:(o.num:Int)=23↔o= .stop:=by cases o <;> simp [Opc.num]
theorem opn_jump {o:Opc}:(o.num:Int)=15↔o= .jump:=by cases o <;> simp [Opc.num]
theorem opn_unl {o:Opc}:(o.num:Int)=16↔o= .unl:=by cases o <;> simp [Opc.num]
theorem zk (C:List eW) (e:Nat→Int) (dd vv:Int) (i:Nat) (hC:C.length≤1000000) (hi:i < C.length) (hn:(cZ C i).op= .jump∨(cZ C i).op= .unl→0≤(cZ C i).n):
  Spec Tryz.prog 73 (ba [.agg (DF C.length (inl C) e dd vv), .v (.int .i64 (i:Int))] []) (aP (.sl (dR i (cZ C i)).length (Gq (dR i (cZ C i)))) []):=by
 obtain ⟨x,hx⟩: ∃ x,x=cZ C i:=⟨_,rfl⟩
 have hg0:=ng C i hi
 have hg1:=BT C i hi
 rw [← hx] at hn hg0 hg1 ⊢
 clear hx
 obtain ⟨o,n⟩:=x
 simp only at hn hg0 hg1
 refine Spec.ofN Tryz.func73 rfl Tryz.ntmps73 rfl ?_
 refine am (ai (aQ (2,0) _ rfl rfl) (ai (bp _ fC) (aj (aq (am (bb rfl rfl rfl (eZ rfl rfl rfl (aX rfl (ai (bn _ _ aa rfl rfl _ rfl ab (by (simp only [aO,bg,bj,bv,bu,bH,bw,bP,eH];omega)) ag) ?_)))))))))
 refine ai (di _ aa rfl rfl) (ai (bT _ aa rfl (by exact hg0) rfl) ?_)
 refine aj (ay (am (ai (bC _ _ rfl rfl rfl) (cu rfl (aj (aR rfl (fun hc11=> ?_) (fun hc11=> ?_)))))))
 ·skip
  obtain rfl:=opn_stop.1 hc11
  exact am (ai (bp _ fC) (aj (aG (bI (.inr rfl) rfl (.tmp lb) (Le.out [] [] .nil rfl rfl rfl trivial trivial)))))
 refine am (ai (bC _ _ rfl rfl rfl) (cu rfl (aj (aR rfl (fun hc13=> ?_) (fun hc13=> ?_)))))
 ·skip
  obtain rfl:=opn_jump.1 hc13
  have hn:=hn (.inl rfl)
  refine am (bb rfl rfl rfl (eZ rfl rfl rfl (aX rfl (ai (bn _ _ aa rfl rfl _ rfl ab (by (simp only [aO,bg,bj,bv,bu,bH,bw,bP,eH];omega)) ag) ?_))))
  refine ai (di _ aa rfl rfl) (ai (bT _ aa rfl (by exact hg1) rfl) ?_)
  refine ai (bh _ _ aa rfl ag (by (simp <;> rfl)) ah rfl) ?_
  exact kH rfl (aj (aG (bI (.inr rfl) rfl (.tmp mL) (Le.out [] [] (jl rfl (by simp [Gq,dR,Int.toNat_of_nonneg hn])) rfl rfl rfl trivial trivial))))
 refine am (ai (bC _ _ rfl rfl rfl) (cu rfl (aj (aR rfl (fun hc22=> ?_) (fun hc22=> ?_)))))
 ·skip
  obtain rfl:=opn_unl.1 hc22
  have hn:=hn (.inr rfl)
  refine am (aX rfl (ai (aZ _ _ rfl rfl (bD ab)) ?_))
  refine bb rfl rfl rfl (eZ rfl rfl rfl (aX rfl (ai (bn _ _ aa rfl rfl _ rfl ab (by (simp only [aO,bg,bj,bv,bu,bH,bw,bP,eH];omega)) ag) ?_)))
  refine ai (di _ aa rfl rfl) (ai (bT _ aa rfl (by exact hg1) rfl) ?_)
  refine ai (bh _ _ aa rfl ag (by (simp <;> rfl)) ah rfl) ?_
  exact kH rfl (aj (aG (bI (.inr rfl) rfl (.tmp mL) (Le.out [] [] (jl rfl (by simp [Gq,dR,Int.toNat_of_nonneg hn])) rfl rfl rfl trivial trivial))))
 have hs:dR i ⟨o,n⟩=[i+1]:=by
  unfold dR
  have h1:o≠ .stop:=fun e=> hc11 (opn_stop.2 e)
  have h2:o≠ .jump:=fun e=> hc13 (opn_jump.2 e)
  have h3:o≠ .unl:=fun e=> hc22 (opn_unl.2 e)
  cases o <;> first | rfl | exact absurd rfl h1 | exact absurd rfl h2 | exact absurd rfl h3
 refine cp (am (aX rfl (ai (aZ _ _ rfl rfl (bD ab)) ?_)))
 refine ai (bh _ _ aa rfl ag (by (simp <;> rfl)) ah rfl) ?_
 refine kH rfl (aj (aG ?_))
 rw [hs]
 exact bI (.inr rfl) rfl (.tmp mL) (Le.out [] [] (jl rfl (by simp [Gq])) rfl rfl rfl trivial trivial)
instance QG:Arr Tryz.prog 24 40 1:=Arr.of Tryz.underlying24 ae
instance QP:Arr Tryz.prog 30 9 1:=Arr.of Tryz.underlying30 ae
instance Qj:Arr Tryz.prog 81 41 1:=Arr.of Tryz.underlying81 ae
instance Pj:Arr Tryz.prog 173 24 1:=Arr.of Tryz.underlying173 ae

theorem ip {l:List Int} {i:Nat} (h:i < l.length):l.getD i (-1)=l.getD i 0:=by
 rw [List.getD_eq_getElem?_getD,List.getD_eq_getElem?_getD,List.getElem?_eq_getElem h];rfl
theorem wc {n:Nat} {d:Int} {s:DS} {l:List Nat} {k:Nat} (h:k < l.length):(l.take (k+1)).foldl (jJ n d) s=jJ n d ((l.take k).foldl (jJ n d) s) (l.getD k 0):=by
 rw [List.take_succ_eq_append_getElem h,List.foldl_append,List.getD_eq_getElem?_getD,List.getElem?_eq_getElem h];rfl
theorem EH (n k:Nat) (h:k < n):((List.replicate k (-1:Int))++List.replicate (n - k) 0).set k (-1)=List.replicate (k+1) (-1)++List.replicate (n - (k+1)) 0:=by
 rw [List.set_append_right _ _ (by simp),List.length_replicate,Nat.sub_self,show n - k=(n - (k+1))+1 by omega,List.replicate_succ,List.set_cons_zero,show List.replicate (k+1) (-1:Int)=List.replicate k (-1)++[-1] from List.replicate_succ']
 simp
theorem Bl {ρ:aC→aC} {σ:St} {F:aC→Bool} {id:aC} {e:TypeId} {sz n m:Nat} {xs ys:List PV} (hid:σ.ob id= .obj (.row e sz xs)) (hF:F id=true) (hl:n*sz=xs.length) (hy:xs=ys) (hn:n=m):Lv ρ σ F (.sl m ys) (.ref id 0 n):=by
 subst hn;exact fi hid hF hl hy
theorem DI.flag {D:Nat→Nat} {n:Nat} {s:DS} {b:Bool} (h:DI D n s):DI D n (s.1,s.2.1,b):=⟨h.len,h.val,h.ok⟩
def xI (C:List eW) (R:List Int×Bool) (z:(List Int×Bool)×Bool):Prop:=if z.2=true then ∃ f,neg z.1.1+1≤f∧jT C f z.1=R else z.1=R
theorem yB {C:List eW} {R:List Int×Bool} {s:List Int×Bool} {f:Nat} (hf:neg s.1+1≤f) (hR:jT C f s=R) (hd:(dE C s C.length).2.2=true→neg (dE C s C.length).1 < neg s.1):
  xI C R (((dE C s C.length).1,(dE C s C.length).2.1),(dE C s C.length).2.2):=by
 obtain ⟨g,rfl⟩: ∃ g,f=g+1:=⟨f - 1,by omega⟩
 unfold xI
 cases hb:(dE C s C.length).2.2 with
 | true=>
  have:=hd hb
  rw [if_pos rfl]
  exact ⟨g,by simp only;omega,by rw [← hR,wD hb]⟩
 | false=> rw [if_neg (by simp)];rw [← hR,vX hb]
def Kk (z:(List Int×Bool)×Bool):Nat:=if z.2=true then neg z.1.1+1 else 0
theorem GK {C:List eW} {s:List Int×Bool} (hd:(dE C s C.length).2.2=true→neg (dE C s C.length).1 < neg s.1):Kk (((dE C s C.length).1,(dE C s C.length).2.1),(dE C s C.length).2.2) < neg s.1+1:=by
 unfold Kk
 simp only
 split
 ·rename_i h;have:=hd h;omega
 omega
theorem yu {C:List eW} {s:DS} {i:Nat} (h:s.1.getD i (-1) < 0):lw C s i=s:=by unfold lw;rw [if_pos h]
theorem BK {C:List eW} {s:DS} {i:Nat} (h: ¬ s.1.getD i (-1) < 0) (h2: ¬ s.1.getD i (-1) - (cZ C i).op.pops < 0):lw C s i=(dR i (cZ C i)).foldl (jJ C.length (s.1.getD i (-1) - (cZ C i).op.pops+(cZ C i).op.puts)) s:=by
 unfold lw Fs
 rw [if_neg h,if_neg h2,show max (s.1.getD i (-1) - (cZ C i).op.pops) 0=s.1.getD i (-1) - (cZ C i).op.pops by omega]
theorem uz (C:List eW) (en:Nat→Int) (dd vv:Int) (e:Int) (hC:C.length≤1000000) (D:Nat→Nat) (nv:Nat) (hg:Good D nv 0 (C.length - 1) 0 C) (hD: ∀ i,D i≤1000000) (he:0≤e→e < C.length→D e.toNat=0):
  Spec Tryz.prog 72 (ba [.agg (DF C.length (inl C) en dd vv), .v (.int .i64 e)] []) (aP (.tup [.sl (jy C e).1.length (cw (jy C e).1), .v (.bool (jy C e).2)]) []):=by
 refine Spec.ofN Tryz.func72 rfl Tryz.ntmps72 rfl ?_
 refine am (ai (aQ (2,0) _ rfl rfl) (ai (bp _ fC) (cu rfl (aj (am (bb rfl rfl rfl (eZ rfl rfl rfl (ai (bo _ aa rfl) (ai (pS (17,0) _ _ aa rfl rfl C.length rfl rfl ab rfl (oE C.length)) ?_)))))))))
 refine fk rfl (aj (aU fun K3 hK3=> ?_))
 refine am (be rfl (aj (ay ?_)))
 refine bq (α:=Nat) (fun k=> k≤C.length) 123 [(1,_),(2,_)] [((2,0),_)] (fun k=> [(7, .v (.int .i64 (k:Int))),(6, .ref (6,0) 0 C.length)]) (fun k=> [((6,0), .row 3 1 (cw (List.replicate k (-1)++List.replicate (C.length - k) 0)))]) [] [] (fun k=> C.length - k) 0 ?_ (by
  refine Le.mkJ [((6,0),(17,0))] [] rfl ?_ ?_ trivial trivial ?_
  ·exact ⟨(by repeat' (exact Lv.v)),(dJ (id:=(2,0)) rfl),(co ag),(cP rfl ag),trivial⟩
  ·exact ⟨(fu rfl rfl rfl rfl (by repeat' (first | exact Lv.v | exact Lv.sl | exact bf | refine ax ?_ ?_))),(fj rfl rfl rfl ag),trivial⟩
  kernel_rfl) ?_
 ·omega
 intro k hk
 have hll:(List.replicate k (-1:Int)++List.replicate (C.length - k) 0).length=C.length:=by simp;omega
 refine aU fun K5 hK5=> ?_
 refine am (aX rfl (gI rfl (ai (cV _ aa rfl rfl) (ai (bl _ _ rfl rfl rfl) (aj (aR rfl (fun hc21=> ?_) (fun hc21=> ?_)))))))
 ·skip
  have hrs:=EH C.length k ab
  refine bs (hK5 _ ?_)
  clear hK5;try clear K5
  refine aq (ay (an (gI rfl (aX rfl (ai (fh _ _ aa rfl rfl rfl _ rfl ab (by exact (Nat.zero_add _).trans (Nat.mul_one _))) ?_)))))
  refine ai (oA _ _ aa rfl rfl rfl rfl rfl (by simp;omega) ((lZ _ _ _ ab).trans (congrArg cw hrs))) ?_
  refine ek (an (aX rfl (ai (aZ _ _ rfl rfl (bD ab)) ?_)))
  refine be rfl (aJ (⟨k+1,?_,?_,?_⟩))
  ·omega
  ·skip
   refine Le.mkJ [] [] rfl ?_ ?_ trivial trivial ?_
   ·exact ⟨(iV rfl),(iP rfl),(co ag),(cP rfl ag),trivial⟩
   ·exact ⟨(bF rfl rfl rfl),(fj rfl rfl rfl ag),trivial⟩
   kernel_rfl
  omega
 obtain rfl:k=C.length:=by omega
 have hrep:List.replicate C.length (-1:Int)++List.replicate (C.length - C.length) 0=List.replicate C.length (-1):=by simp
 refine bB (id (hK3 _ ?_))
 clear hK3;try clear K3
 refine aq (am (aX rfl (ai (bl _ _ rfl rfl rfl) (cE rfl (dw (fun hg29=> ?_) (fun hg29=> ?_))))))
 ·skip
  have hdf:jy C e=(List.replicate C.length (-1),true):=if_pos (.inl ab)
  refine aK rfl rfl ah ?_
  refine aK rfl rfl ah ?_
  refine aK rfl rfl ah ?_
  refine aK rfl rfl ah ?_
  refine ai (aB _ _ _ rfl bJ) (aj (bM rfl rfl (am (gI rfl (fk rfl (cu rfl (aj (aG ?_))))))))
  rw [hdf]
  exact jW (.inr rfl) rfl (.tmp dW) (.tmp bJ) (Le.out [] [(6,0)] (.tup rfl (ax (Bl rfl rfl (by simp) (congrArg cw hrep) (by simp)) lz)) rfl rfl rfl tr trivial)
 refine au rfl rfl (aH _ eg) (au rfl rfl (aH _ dW) (au rfl rfl (cV _ aa rfl rfl) (au rfl rfl (fw _ _ rfl rfl rfl) (ai (aB _ _ _ rfl bJ) (aj (aR rfl (fun hc34=> ?_) (fun hc34=> ?_)))))))
 ·skip
  have hdf:jy C e=(List.replicate C.length (-1),true):=if_pos (.inr ab)
  refine am (gI rfl (fk rfl (cu rfl (aj (aG ?_)))))
  rw [hdf]
  exact jW (.inr rfl) rfl (.tmp dW) (.tmp bJ) (Le.out [] [(6,0)] (.tup rfl (ax (Bl rfl rfl (by simp) (congrArg cw hrep) (by simp)) lz)) rfl rfl rfl tr trivial)
 have hdf:jy C e=jT C (C.length+1) ((List.replicate C.length (-1)).set e.toNat 0,true):=if_neg ab
 have hdi0:DI D C.length ((List.replicate C.length (-1)).set e.toNat 0,true,false):=by
  have hr: ∀ i,(List.replicate C.length (-1:Int)).getD i (-1)= -1:=fun i=> by rw [List.getD_eq_getElem?_getD,List.getElem?_replicate];split <;> rfl
  refine ⟨by simp,fun i hi=> ?_,rfl⟩
  simp only
  rw [kA]
  split
  ·rename_i h;right;rw [h.1,he ab ab];rfl
  exact .inl (hr i)
 have hn0:neg ((List.replicate C.length (-1)).set e.toNat 0)≤C.length:=by
  have:=List.countP_le_length (p:=fun x:Int=> decide (x < 0)) (l:=(List.replicate C.length (-1:Int)).set e.toNat 0)
  simpa [neg] using this
 obtain ⟨R,hR⟩: ∃ R,R=jy C e:=⟨_,rfl⟩
 rw [← hR] at hdf
 refine aT (am (gI rfl (aX rfl (ai (fh _ _ aa rfl rfl rfl e.toNat ab ab (by exact (Nat.zero_add _).trans (Nat.mul_one _))) ?_))))
 refine ai (oA _ _ aa rfl rfl rfl rfl rfl (by simp;omega) ((lZ _ _ _ (by simp;omega)).trans (congrArg (fun l=> cw (List.set l e.toNat 0)) hrep))) ?_
 refine aj (aq ?_)
 refine aM (σ':=aE 123 [(2,_),(6,_)] [((2,0),_),((6,0),_)] [] []) kp ?_
 refine an (cu rfl (aj (aU fun K14 hK14=> ?_)))
 refine am (cu rfl (aj (ay ?_)))
 refine bq (α:=(List Int×Bool)×Bool) (fun z=> DI D C.length (z.1.1,z.1.2,false)∧xI C R z) 123 [(2,_),(6,_)] [((2,0),_)] (fun z=> [(8, .v (.bool z.1.2)),(9, .v (.bool z.2))]) (fun z=> [((6,0), .row 3 1 (cw z.1.1))]) [] [] (fun z=> Kk z) (((List.replicate C.length (-1)).set e.toNat 0,true),true) ?_ (by
  refine Le.mkJ [] [] rfl ?_ ?_ trivial trivial ?_
  ·exact ⟨(iP rfl),(iR rfl),(mw ag),(mw ag),trivial⟩
  ·exact ⟨(bF rfl rfl rfl),(fj rfl rfl rfl ag),trivial⟩
  kernel_rfl) ?_
 ·exact ⟨hdi0,by unfold xI;rw [if_pos rfl];exact ⟨C.length+1,by simp only;omega,hdf.symm⟩⟩
 intro z hz
 obtain ⟨s,ch⟩:=z
 obtain ⟨hdi,hz⟩:=hz
 simp only at hdi hz ⊢
 refine aU fun K16 hK16=> ?_
 refine am (cE rfl (aj (aR rfl (fun hc39=> ?_) (fun hc39=> ?_))))
 ·skip
  obtain ⟨f,hf1,hf2⟩: ∃ f,neg s.1+1≤f∧jT C f s=R:=by
   unfold xI at hz
   rwa [if_pos hc39] at hz
  have hpd:=(ls hg hdi C.length (Nat.le_refl _)).2.2
  refine bs (hK16 _ ?_)
  clear hK16;try clear K16
  refine ay (am (cu rfl (aj (am (be rfl (aj (ay ?_)))))))
  refine bq (α:=Nat) (fun i=> i≤C.length) 123 [(2,_),(6,_)] [((2,0),_)] (fun i=> [(10, .v (.int .i64 (i:Int))),(8, .v (.bool (dE C s i).2.1)),(9, .v (.bool (dE C s i).2.2))]) (fun i=> [((6,0), .row 3 1 (cw (dE C s i).1))]) [] [] (fun i=> C.length - i) 0 ?_ (by
   refine Le.mkJ [] [] rfl ?_ ?_ trivial trivial ?_
   ·exact ⟨(iP rfl),(iR rfl),(co ag),(mw ag),(mw ag),trivial⟩
   ·exact ⟨(bF rfl rfl rfl),(fj rfl rfl rfl ag),trivial⟩
   kernel_rfl) ?_
  ·omega
  intro i hi
  have hw:=(ls hg hdi i hi).1
  have hps:=qf C s i
  have hwl:=hw.len
  refine aU fun K20 hK20=> ?_
  refine am (aX rfl (gI rfl (ai (cV _ aa rfl rfl) (ai (bl _ _ rfl rfl rfl) (aj (aR rfl (fun hc43=> ?_) (fun hc43=> ?_)))))))
  ·skip
   have hdn:=(ls hg hdi (i+1) ab).1
   have hvi:=hw.val i ab
   generalize dE C s i=w at hw hps hwl hvi
   rw [ip ab] at hvi
   obtain ⟨hins,hpop,hsuc⟩:=hg i (cZ C i) (by unfold cZ;rw [List.getD_eq_getElem?_getD,List.getElem?_eq_getElem ab];rfl)
   rw [Nat.zero_add] at hpop hsuc
   have hDi:=hD i
   refine bs (hK20 _ ?_)
   clear hK20;try clear K20
   refine aU fun K22 hK22=> ?_
   refine ay (aq (am (gI rfl (aX rfl (ai (fh _ _ aa rfl rfl rfl _ rfl ab (by exact (Nat.zero_add _).trans (Nat.mul_one _))) ?_)))))
   refine ai (jX _ aa rfl rfl (by exact eb _ _ ab) rfl) ?_
   refine ai (bl _ _ rfl rfl rfl) (aj (aR rfl (fun hc50=> ?_) (fun hc50=> ?_)))
   ·skip
    rw [yu (by rw [ip ab];omega)] at hps
    refine bB (id (hK22 _ ?_))
    clear hK22;try clear K22
    refine an (aX rfl (ai (aZ _ _ rfl rfl (bD ab)) ?_))
    refine be rfl (aJ (⟨i+1,?_,?_,?_⟩))
    ·omega
    ·skip
     refine Le.mkJ [] [] rfl ?_ ?_ trivial trivial ?_
     ·exact ⟨(iP rfl),(iR rfl),(co ag),(mw (by (rw [hps]))),(mw (by (rw [hps]))),trivial⟩
     ·exact ⟨(bF rfl rfl rfl),(fj rfl rfl rfl (by (rw [hps]))),trivial⟩
     kernel_rfl
    omega
   have hvD:=hvi.resolve_left ab
   have hgo:=BK (C:=C) (s:=w) (i:=i) (by rw [ip ab];omega) (by rw [ip ab];omega)
   rw [ip ab,hvD] at hgo
   rw [hgo] at hps
   obtain ⟨L,hL⟩: ∃ L,L=dR i (cZ C i):=⟨_,rfl⟩
   have hLl:L.length≤2:=by rw [hL];unfold dR;split <;> simp
   have hnn:(cZ C i).op= .jump∨(cZ C i).op= .unl→0≤(cZ C i).n:=by
    unfold dj at hins
    rintro (e | e) <;> rw [e] at hins <;> exact hins
   have hnx:=zk C en dd vv i hC ab hnn
   rw [← hL] at hps hsuc hnx
   have hpp:=ru (cZ C i).op
   have hpq:=rq (cZ C i).op
   have hp3:(cZ C i).op.pops≤3:=by generalize (cZ C i).op=o;cases o <;> decide
   have hp4:(cZ C i).op.puts≤1:=by generalize (cZ C i).op=o;cases o <;> decide
   refine aT (aq ?_)
   refine aM (σ':=aE 123 [(2,_),(6,_),(8,_),(9,_),(10,_)] [((2,0),_),((6,0),_)] [] []) kp ?_
   refine bO 13 [51,52,53,54,55,56,57,58,59,60,61,62,11] [] ae ae rfl (aL rfl) (rfl:_=[_,_,_,_,_,_,_,_,_,_,_,_,_]) (rfl:_=[]) ?_
   refine ap (_,[]) (fun τ=> aH _ dW) ?_
   refine fP rfl ?_
   refine ap (_,[]) (fun τ=> aH _ eg) ?_
   refine fQ rfl ?_
   refine ap (_,[]) (fun τ=> fh _ _ aa rfl rfl rfl _ rfl ab (by exact (Nat.zero_add _).trans (Nat.mul_one _))) ?_
   refine fU rfl ?_
   refine ap (_,[]) (fun τ=> jX _ aa rfl rfl (by exact eb _ _ ab) rfl) ?_
   refine fY rfl ?_
   refine ap (_,[]) (fun τ=> aA _ aa rfl rfl rfl) ?_
   refine gz rfl ?_
   refine ap (_,[]) (fun τ=> aF _ aa rfl rfl eG) ?_
   refine gZ rfl ?_
   refine ap (_,[]) (fun τ=> aH _ eg) ?_
   refine jg rfl ?_
   refine ap (_,[]) (fun τ=> bn _ _ aa rfl rfl _ rfl ab (by (simp only [aO,bg,bj,bv,bu,bH,bw,bP,eH,aO];omega)) ag) ?_
   refine ka rfl ?_
   refine ap (_,[]) (fun τ=> di _ aa rfl rfl) ?_
   refine kG rfl ?_
   refine ap (_,[]) (fun τ=> bT _ aa rfl (by exact ng C i ab) rfl) ?_
   refine fW rfl ?_
   refine ap (_,[]) (fun τ=> (aI aa al (hpp) rfl rfl)) ?_
   refine gL rfl ?_
   refine ap (_,[]) (fun τ=> jt _ _ rfl rfl (bD (by rw [hvD];omega))) ?_
   refine kP rfl ?_
   refine ap (_,[]) (fun τ=> bp _ eg) ?_
   refine mt rfl (bm ⟨rfl,?_⟩)
   refine aj (aq (am (aX rfl (ai (bl _ _ rfl rfl rfl) (aj (aW rfl (decide_eq_false (by rw [hvD];omega)) ?_))))))
   refine aT (aq ?_)
   refine aM (σ':=aE 123 [(2,_),(6,_),(8,_),(9,_),(10,_),(11,_)] [((2,0),_),((6,0),_)] [] []) kp ?_
   refine an (aX rfl (bb rfl rfl rfl (eZ rfl rfl rfl (aX rfl (ai (bn _ _ aa rfl rfl _ rfl ab (by (simp only [aO,bg,bj,bv,bu,bH,bw,bP,eH,aO];omega)) ag) ?_)))))
   refine ai (di _ aa rfl rfl) (ai (bT _ aa rfl (by exact ng C i ab) rfl) ?_)
   refine ai (aI aa al (hpq) rfl rfl) ?_
   refine ai (aZ _ _ rfl rfl (bD (by rw [hvD];omega))) ?_
   refine be rfl (aj (am (ai (az _ aa rfl rfl rfl rfl) (aX rfl (ai (aI aa al (hnx) rfl rfl) ?_)))))
   refine kH rfl (aj (am (be rfl (aj (ay ?_)))))
   refine bq (α:=Nat) (fun k=> k≤L.length) 123 [(2,_),(6,_),(10,_),(12,_)] [((2,0),_)] (fun k=> [(13, .v (.int .i64 (k:Int))),(11, .v (.int .i64 ((D i:Int) - (cZ C i).op.pops+(cZ C i).op.puts))),(8, .v (.bool ((L.take k).foldl (jJ C.length ((D i:Int) - (cZ C i).op.pops+(cZ C i).op.puts)) w).2.1)),(9, .v (.bool ((L.take k).foldl (jJ C.length ((D i:Int) - (cZ C i).op.pops+(cZ C i).op.puts)) w).2.2))]) (fun k=> [((6,0), .row 3 1 (cw ((L.take k).foldl (jJ C.length ((D i:Int) - (cZ C i).op.pops+(cZ C i).op.puts)) w).1))]) [] [] (fun k=> L.length - k) 0 ?_ (by
    refine Le.mkJ [] [] rfl ?_ ?_ trivial trivial ?_
    ·exact ⟨(iP rfl),(iR rfl),(iV rfl),(iS rfl),(co ag),(co (by rw [hvD])),(mw ag),(mw ag),trivial⟩
    ·exact ⟨(bF rfl rfl rfl),(fj rfl rfl rfl ag),trivial⟩
    kernel_rfl) ?_
   ·omega
   intro k hk
   have hwd: ∀ j∈L,(D i:Int) - (cZ C i).op.pops+(cZ C i).op.puts=(D j:Int):=fun j hj=> by have:=(hsuc j hj).2.2;omega
   have hu:=(og (L.take k) hw (fun j hj=> hwd j (List.mem_of_mem_take hj))).1
   have hul:=hu.len
   refine aU fun K31 hK31=> ?_
   refine am (aX rfl (eY rfl (ai (bo _ aa rfl) (ai (bl _ _ rfl rfl rfl) (aj (aR rfl (fun hc80=> ?_) (fun hc80=> ?_)))))))
   ·skip
    have hfs:=wc (n:=C.length) (d:=(D i:Int) - (cZ C i).op.pops+(cZ C i).op.puts) (s:=w) (l:=L) (k:=k) ab
    have hu1:=(og (L.take (k+1)) hw (fun j hj=> hwd j (List.mem_of_mem_take hj))).1.len
    obtain ⟨j,hj⟩: ∃ j,j=L.getD k 0:=⟨_,rfl⟩
    have hjm:j∈L:=by rw [hj,List.getD_eq_getElem?_getD,List.getElem?_eq_getElem ab];exact List.getElem_mem ab
    obtain ⟨hj1,hj2,_⟩:=hsuc j hjm
    have hjn:j < C.length:=by omega
    have hwj:=hwd j hjm
    have hnk:=DJ L k ab
    rw [← hj] at hfs hnk
    have huv:=hu.val j hjn
    rw [ip ab] at huv
    generalize (L.take k).foldl (jJ C.length ((D i:Int) - (cZ C i).op.pops+(cZ C i).op.puts)) w=u at hu hul hfs huv
    refine bs (hK31 _ ?_)
    clear hK31;try clear K31
    refine aq (ay (aq (am (eY rfl (aX rfl (ai (bn _ _ aa rfl rfl _ rfl ab (by (simp only [aO,bg,bj,bv,bu,bH,bw,bP,eH,aO];omega)) (by exact Nat.mul_one _)) ?_))))))
    refine ai (bT _ aa rfl (by exact hnk) rfl) ?_
    refine ai (bl _ _ rfl rfl rfl) (cE rfl (dw (fun hg88=> ?_) (fun hg88=> ?_)))
    ·skip
     exact absurd hg88 ab
    refine au rfl rfl (aH _ mL) (au rfl rfl (aH _ eg) (au rfl rfl (bn _ _ aa rfl rfl _ rfl ab (by (simp only [aO,bg,bj,bv,bu,bH,bw,bP,eH,aO];omega)) (by exact Nat.mul_one _)) ?_))
    refine au rfl rfl (bT _ aa rfl (by exact hnk) rfl) ?_
    refine au rfl rfl (aH _ dW) (au rfl rfl (cV _ aa rfl rfl) (au rfl rfl (fw _ _ rfl rfl rfl) (ai (aB _ _ _ rfl bJ) (aj (aW rfl (decide_eq_false ab) ?_)))))
    refine aT (aq ?_)
    refine aM (σ':=aE 123 [(2,_),(6,_),(8,_),(9,_),(10,_),(11,_),(12,_),(13,_)] [((2,0),_),((6,0),_)] [] []) kp ?_
    refine an (gI rfl (eY rfl (aX rfl (ai (bn _ _ aa rfl rfl _ rfl ab (by (simp only [aO,bg,bj,bv,bu,bH,bw,bP,eH,aO];omega)) (by exact Nat.mul_one _)) ?_))))
    refine ai (bT _ aa rfl (by exact hnk) rfl) ?_
    refine ai (fh _ _ aa rfl rfl rfl _ rfl ab (by exact (Nat.zero_add _).trans (Nat.mul_one _))) ?_
    refine ai (jX _ aa rfl rfl (by exact eb _ _ ab) rfl) ?_
    refine ai (bl _ _ rfl rfl rfl) (aj (aR rfl (fun hc104=> ?_) (fun hc104=> ?_)))
    ·skip
     have hds:jJ C.length ((D i:Int) - (cZ C i).op.pops+(cZ C i).op.puts) u j=(u.1.set j ((D i:Int) - (cZ C i).op.pops+(cZ C i).op.puts),u.2.1,true):=by
      unfold jJ
      rw [if_neg ab,if_pos (by rw [ip ab];omega)]
     rw [hds] at hfs
     refine am (gI rfl (eY rfl (aX rfl (ai (bn _ _ aa rfl rfl _ rfl ab (by (simp only [aO,bg,bj,bv,bu,bH,bw,bP,eH,aO];omega)) (by exact Nat.mul_one _)) ?_))))
     refine ai (bT _ aa rfl (by exact hnk) rfl) ?_
     refine aX rfl (ai (fh _ _ aa rfl rfl rfl _ rfl ab (by exact (Nat.zero_add _).trans (Nat.mul_one _))) ?_)
     refine ai (oA _ _ aa rfl rfl rfl rfl rfl (by simp;omega) (lZ _ _ _ ab)) ?_
     refine aj ?_
     refine aM (σ':=aE 123 [(2,_),(6,_),(8,_),(10,_),(11,_),(12,_),(13,_)] [((2,0),_),((6,0),_)] [] []) kp ?_
     refine an (cu rfl (ek (an (aX rfl (ai (aZ _ _ rfl rfl (bD ab)) ?_)))))
     refine be rfl (aJ (⟨k+1,?_,?_,?_⟩))
     ·omega
     ·skip
      refine Le.mkJ [] [] rfl ?_ ?_ trivial trivial ?_
      ·exact ⟨(iP rfl),(iR rfl),(iV rfl),(iS rfl),(co ag),(co ag),(mw (by (rw [hfs]))),(mw (by (rw [hfs]))),trivial⟩
      ·exact ⟨(bF rfl rfl rfl),(fj rfl rfl rfl (by (rw [hfs]))),trivial⟩
      kernel_rfl
     omega
    have hds:jJ C.length ((D i:Int) - (cZ C i).op.pops+(cZ C i).op.puts) u j=u:=by
     unfold jJ
     rw [if_neg ab,if_neg (by rw [ip ab];omega),if_neg (by rw [ip ab];omega)]
    rw [hds] at hfs
    refine am (gI rfl (eY rfl (aX rfl (ai (bn _ _ aa rfl rfl _ rfl ab (by (simp only [aO,bg,bj,bv,bu,bH,bw,bP,eH,aO];omega)) (by exact Nat.mul_one _)) ?_))))
    refine ai (bT _ aa rfl (by exact hnk) rfl) ?_
    refine ai (fh _ _ aa rfl rfl rfl _ rfl ab (by exact (Nat.zero_add _).trans (Nat.mul_one _))) ?_
    refine ai (jX _ aa rfl rfl (by exact eb _ _ ab) rfl) ?_
    refine aX rfl (ai (bL _ _ rfl rfl rfl) (aj (aW rfl (by rw [bne_eq_false_iff_eq];omega) ?_)))
    refine cp ?_
    refine aM (σ':=aE 123 [(2,_),(6,_),(8,_),(9,_),(10,_),(11,_),(12,_),(13,_)] [((2,0),_),((6,0),_)] [] []) kp ?_
    refine an (aX rfl (ai (aZ _ _ rfl rfl (bD ab)) ?_))
    refine be rfl (aJ (⟨k+1,?_,?_,?_⟩))
    ·omega
    ·skip
     refine Le.mkJ [] [] rfl ?_ ?_ trivial trivial ?_
     ·exact ⟨(iP rfl),(iR rfl),(iV rfl),(iS rfl),(co ag),(co ag),(mw (by (rw [hfs]))),(mw (by (rw [hfs]))),trivial⟩
     ·exact ⟨(bF rfl rfl rfl),(fj rfl rfl rfl (by (rw [hfs]))),trivial⟩
     kernel_rfl
    omega
   obtain rfl:k=L.length:=by omega
   rw [List.take_length] at hu hul
   rw [List.take_length]
   refine bB (id (hK22 _ ?_))
   clear hK22;try clear K22
   refine an (aX rfl (ai (aZ _ _ rfl rfl (bD ab)) ?_))
   refine be rfl (aJ (⟨i+1,?_,?_,?_⟩))
   ·omega
   ·skip
    refine Le.mkJ [] [] rfl ?_ ?_ trivial trivial ?_
    ·exact ⟨(iP rfl),(iR rfl),(co ag),(mw (by (rw [hps]))),(mw (by (rw [hps]))),trivial⟩
    ·exact ⟨(bF rfl rfl rfl),(fj rfl rfl rfl (by (rw [hps]))),trivial⟩
    kernel_rfl
   omega
  obtain rfl:i=C.length:=by omega
  refine bB (id (⟨(((dE C s C.length).1,(dE C s C.length).2.1),(dE C s C.length).2.2),?_,?_,?_⟩))
  ·exact ⟨hw.flag,yB hf1 hf2 hpd⟩
  ·skip
   refine Le.mkJ [] [] rfl ?_ ?_ trivial trivial ?_
   ·exact ⟨(iP rfl),(iR rfl),(mw ag),(mw ag),trivial⟩
   ·exact ⟨(bF rfl rfl rfl),(fj rfl rfl rfl ag),trivial⟩
   kernel_rfl
  rw [show Kk (s,ch)=neg s.1+1 from if_pos hc39];exact GK hpd
 have hzR:s=R:=by
  unfold xI at hz
  rwa [if_neg (by simp [hc39])] at hz
 subst hzR
 have hsl:=hdi.len
 refine bB (id (hK14 _ ?_))
 clear hK14;try clear K14
 refine am (gI rfl (cE rfl (fk rfl (cu rfl (aj (aG ?_))))))
 rw [← hR]
 exact jW (.inr rfl) rfl (.tmp dW) (.tmp bJ) (Le.out [] [(6,0)] (.tup rfl (ax (Bl rfl rfl (by simp only at hsl;simp [hsl]) rfl hsl.symm) lz)) rfl rfl rfl tr trivial)
theorem vT (C:List eW) (en:Nat→Int) (dd vv:Int) (h:Nat) (hh:h < 40) (hC:C.length≤1000000) (D:Nat→Nat) (nv:Nat) (hg:Good D nv 0 (C.length - 1) 0 C) (hD: ∀ i,D i≤1000000) (he:0≤en h→en h < C.length→D (en h).toNat=0):
  Spec Tryz.prog 74 (ba [.agg (DF C.length (inl C) en dd vv), .v (.int .i64 (h:Int))] []) (aP (.v (.int .i64 (ld C (jy C (en h)).1 C.length))) []):=by
 have hds:=uz C en dd vv (en h) hC D nv hg hD he
 have hdi:=qR hg he
 have hdl:=hdi.len
 have hml:=fun k (hk:k≤C.length)=> oe (C:=C) (n:=C.length) hdi (B:=1000000) (fun i _=> hD i) k hk
 generalize jy C (en h)=R at hds hdi hdl hml
 have hen:=tJ C.length (inl C) en dd vv h hh
 refine Spec.ofN Tryz.func74 rfl Tryz.ntmps74 rfl ?_
 refine am (ai (aQ (2,0) _ rfl rfl) (be rfl (aj (aq (bO 11 [11,12,13,14,15,16,10,17,18,5,6] [] ae ae rfl (aL rfl) (rfl:_=[_,_,_,_,_,_,_,_,_,_,_]) (rfl:_=[]) ?_)))))
 refine ap (_,[]) (fun τ=> az _ aa rfl rfl rfl rfl) ?_
 refine fP rfl ?_
 refine ap (_,[]) (fun τ=> aH _ eg) ?_
 refine fQ rfl ?_
 refine ap (_,[]) (fun τ=> aA _ aa rfl rfl rfl) ?_
 refine fU rfl ?_
 refine ap (_,[]) (fun τ=> da _ _ aa rfl rfl rfl h rfl ab (by exact congrArg (fun z=> 0+1+z) (Nat.mul_one h))) ?_
 refine fY rfl ?_
 refine ap (_,[]) (fun τ=> aF _ aa rfl rfl (by exact (congrArg (fun z=> (DF C.length (inl C) en dd vv)[z]?) ab).trans hen)) ?_
 refine gz rfl ?_
 refine ap (_,[]) (fun τ=> (aI aa al (hds) rfl rfl)) ?_
 refine gZ rfl ?_
 refine ap (_,[]) (fun τ=> aH _ tQ) ?_
 refine jg rfl ?_
 refine ap (_,[]) (fun τ=> cq _ rfl eG) ?_
 refine ka rfl ?_
 refine ap (_,[]) (fun τ=> cq _ rfl BX) ?_
 refine kG rfl ?_
 refine ap (_,[]) (fun τ=> bp _ mL) ?_
 refine fW rfl ?_
 refine ap (_,[]) (fun τ=> bp _ bJ) ?_
 refine gL rfl (bm ⟨rfl,?_⟩)
 refine aj (am (be rfl (aj (aU fun K4 hK4=> ?_))))
 refine am (be rfl (aj (ay ?_)))
 refine bq (α:=Nat) (fun k=> k≤C.length) 53 [(2,_),(5,_)] [((2,0),_)] (fun k=> [(8, .v (.int .i64 (k:Int))),(7, .v (.int .i64 (ld C R.1 k)))]) (fun k=> []) [] [] (fun k=> C.length - k) 0 ?_ (by
  refine Le.mkJ [] [] rfl ?_ ?_ trivial trivial ?_
  ·exact ⟨(iP rfl),(iS rfl),(co ag),(co ag),trivial⟩
  ·exact ⟨(bF rfl rfl rfl),trivial⟩
  kernel_rfl) ?_
 ·omega
 intro k hk
 have hm1:=hml k hk
 have hs:=pP C R.1 k
 simp only at hdl hm1
 refine aU fun K6 hK6=> ?_
 refine am (aX rfl (eY rfl (ai (bo _ aa rfl) (ai (bl _ _ rfl rfl rfl) (aj (aR rfl (fun hc22=> ?_) (fun hc22=> ?_)))))))
 ·skip
  have hm2:=hml (k+1) ab
  have hv:=hdi.val k ab
  simp only at hv hm2
  rw [ip ab] at hv hs
  have hDk:=hD k
  obtain ⟨q,hq⟩: ∃ q,q=cZ C k:=⟨_,rfl⟩
  have hp3:q.op.pops≤3:=by generalize q.op=o;cases o <;> decide
  have hp4:q.op.puts≤1:=by generalize q.op=o;cases o <;> decide
  have hpp:=ru q.op
  have hpq:=rq q.op
  have hg0:=ng C k ab
  rw [← hq] at hg0 hs
  refine bs (hK6 _ ?_)
  clear hK6;try clear K6
  refine aq (ay (am (eY rfl (aX rfl (ai (bn _ _ aa rfl rfl _ rfl ab (by (simp only [aO,bg,bj,bv,bu,bH,bw,bP,eH,aO];omega)) (by exact Nat.mul_one _)) ?_)))))
  refine ai (bT _ aa rfl (by exact eb _ _ ab) rfl) ?_
  refine ai (fw _ _ rfl rfl rfl) (aj (aR rfl (fun hc29=> ?_) (fun hc29=> ?_)))
  ·skip
   rw [if_pos ab] at hs
   refine am (bb rfl rfl rfl (eZ rfl rfl rfl (aX rfl (ai (bn _ _ aa rfl rfl _ rfl ab (by (simp only [aO,bg,bj,bv,bu,bH,bw,bP,eH,aO];omega)) ag) ?_))))
   refine ai (di _ aa rfl rfl) (ai (bT _ aa rfl (by exact hg0) rfl) ?_)
   refine be rfl (aj ?_)
   refine aM (σ':=aE 53 [(2,_),(5,_),(7,_),(8,_),(9,_)] [((2,0),_)] [] []) kp ?_
   refine bO 16 [36,37,38,39,40,41,42,43,44,45,46,47,48,49,50,51] [] ae ae rfl (aL rfl) (rfl:_=[_,_,_,_,_,_,_,_,_,_,_,_,_,_,_,_]) (rfl:_=[_]) ?_
   refine ap (_,[]) (fun τ=> aH _ eg) ?_
   refine fP rfl ?_
   refine ap (_,[]) (fun τ=> aH _ mL) ?_
   refine fQ rfl ?_
   refine ap (_,[]) (fun τ=> aH _ eg) ?_
   refine fU rfl ?_
   refine ap (_,[]) (fun τ=> bn _ _ aa rfl rfl _ rfl ab (by (simp only [aO,bg,bj,bv,bu,bH,bw,bP,eH,aO];omega)) (by exact Nat.mul_one _)) ?_
   refine fY rfl ?_
   refine ap (_,[]) (fun τ=> bT _ aa rfl (by exact eb _ _ ab) rfl) ?_
   refine gz rfl ?_
   refine ap (_,[]) (fun τ=> aH _ mL) ?_
   refine gZ rfl ?_
   refine ap (_,[]) (fun τ=> aH _ eg) ?_
   refine jg rfl ?_
   refine ap (_,[]) (fun τ=> bn _ _ aa rfl rfl _ rfl ab (by (simp only [aO,bg,bj,bv,bu,bH,bw,bP,eH,aO];omega)) (by exact Nat.mul_one _)) ?_
   refine ka rfl ?_
   refine ap (_,[]) (fun τ=> bT _ aa rfl (by exact eb _ _ ab) rfl) ?_
   refine kG rfl ?_
   refine ap (_,[]) (fun τ=> aH _ eg) ?_
   refine fW rfl ?_
   refine ap (_,[]) (fun τ=> (aI aa al (hpp) rfl rfl)) ?_
   refine gL rfl ?_
   refine ap (_,[]) (fun τ=> jt _ _ rfl rfl (bD ab)) ?_
   refine kP rfl ?_
   refine ap (_,[]) (fun τ=> aH _ eg) ?_
   refine mt rfl ?_
   refine ap (_,[]) (fun τ=> (aI aa al (hpq) rfl rfl)) ?_
   refine pw rfl ?_
   refine ap (_,[]) (fun τ=> aZ _ _ rfl rfl (bD ab)) ?_
   refine vZ rfl ?_
   refine ap (_,[]) (fun τ=> EW _ _ _ rfl rfl rfl (by exact hs.symm)) ?_
   refine wJ rfl (bm ⟨rfl,?_⟩)
   refine be rfl (ek ?_)
   refine aM (σ':=aE 53 [(2,_),(5,_),(7,_),(8,_)] [((2,0),_)] [] []) kp ?_
   refine an (aX rfl (ai (aZ _ _ rfl rfl (bD ab)) ?_))
   refine be rfl (aJ (⟨k+1,?_,?_,?_⟩))
   ·omega
   ·skip
    refine Le.mkJ [] [] rfl ?_ ?_ trivial trivial ?_
    ·exact ⟨(iP rfl),(iS rfl),(co ag),(co ag),trivial⟩
    ·exact ⟨(bF rfl rfl rfl),trivial⟩
    kernel_rfl
   omega
  rw [if_neg ab] at hs
  refine cp (an (aX rfl (ai (aZ _ _ rfl rfl (bD ab)) ?_)))
  refine be rfl (aJ (⟨k+1,?_,?_,?_⟩))
  ·omega
  ·skip
   refine Le.mkJ [] [] rfl ?_ ?_ trivial trivial ?_
   ·exact ⟨(iP rfl),(iS rfl),(co ag),(co ab),trivial⟩
   ·exact ⟨(bF rfl rfl rfl),trivial⟩
   kernel_rfl
  omega
 obtain rfl:k=C.length:=by omega
 refine bB (id (hK4 _ ?_))
 clear hK4;try clear K4
 exact am (aX rfl (be rfl (aj (aG (fv rfl rfl)))))

theorem eo: ∀ (e:Ex) (d x:Nat),x∈dG e d→x≤d+(dG e d).length
 | .int _,d,x,h=> by simp [dG] at h ⊢;omega
 | .bool _,d,x,h=> by simp [dG] at h ⊢;omega
 | .var _,d,x,h=> by simp [dG] at h ⊢;omega
 | .name _,d,x,h=> by simp [dG] at h ⊢;omega
 | .draw e,d,x,h=> by
  have:=eo e d x
  simp only [dG,List.mem_append,List.length_append,List.length_cons,List.length_nil,List.mem_singleton] at h ⊢
  rcases h with h | h
  ·have:=this h;omega
  omega
 | .neg e,d,x,h=> by
  have:=eo e d x
  simp only [dG,List.mem_append,List.length_append,List.length_cons,List.length_nil,List.mem_singleton] at h ⊢
  rcases h with h | h
  ·have:=this h;omega
  omega
 | .not e,d,x,h=> by
  have:=eo e d x
  simp only [dG,List.mem_append,List.length_append,List.length_cons,List.length_nil,List.mem_singleton] at h ⊢
  rcases h with h | h
  ·have:=this h;omega
  omega
 | .bin o a b,d,x,h=> by
  have h1:=eo a d x
  have h2:=eo b (d+1) x
  have h3:1≤(dG b (d+1)).length:=by obtain ⟨l,hl⟩:=eR b (d+1);rw [hl];simp
  have h4:1≤(dG a d).length:=by obtain ⟨l,hl⟩:=eR a d;rw [hl];simp
  simp only [dG,List.mem_append,List.length_append] at h ⊢
  rcases h with (h | h) | h
  ·have:=h1 h;omega
  ·have:=h2 h;omega
  have:x≤d+2:=by cases o <;> simp at h <;> omega
  omega
 | .and a b,d,x,h=> by
  have h1:=eo a d x
  have h2:=eo b d x
  simp only [dG,List.mem_append,List.length_append,List.length_cons,List.length_nil,List.mem_singleton] at h ⊢
  rcases h with (((h | h) | h) | h) | h
  ·have:=h1 h;omega
  ·omega
  ·have:=h2 h;omega
  ·omega
  omega
 | .or a b,d,x,h=> by
  have h1:=eo a d x
  have h2:=eo b d x
  simp only [dG,List.mem_append,List.length_append,List.length_cons,List.length_nil,List.mem_singleton] at h ⊢
  rcases h with (((h | h) | h) | h) | h
  ·have:=h1 h;omega
  ·omega
  ·omega
  ·omega
  have:=h2 h;omega
theorem lD (e:Ex) (d:Nat):1≤(dG e d).length:=by obtain ⟨l,hl⟩:=eR e d;rw [hl];simp
mutual
theorem FM: ∀ (s:Sm) (x:Nat),x∈eu s→x≤(eu s).length
 | .assign _ e,x,h=> by
  have:=eo e 0 x
  simp only [eu,List.mem_append,List.length_append,List.length_cons,List.length_nil,List.mem_singleton] at h ⊢
  rcases h with h | h
  ·have:=this h;omega
  omega
 | .send t _ a b,x,h=> by
  have h1:=eo t 0 x
  have h2:=eo a 1 x
  have h3:=eo b 2 x
  have k1:=lD t 0
  have k2:=lD a 1
  have k3:=lD b 2
  simp only [eu,List.mem_append,List.length_append,List.length_cons,List.length_nil,List.mem_singleton] at h ⊢
  rcases h with ((h | h) | h) | h
  ·have:=h1 h;omega
  ·have:=h2 h;omega
  ·have:=h3 h;omega
  omega
 | .timer _,x,h=> by simp [eu] at h ⊢;omega
 | .cancel _,x,h=> by simp [eu] at h ⊢;omega
 | .sync,x,h=> by simp [eu] at h ⊢;omega
 | .stop,x,h=> by simp [eu] at h ⊢;omega
 | .reply a b,x,h=> by
  have h2:=eo a 0 x
  have h3:=eo b 1 x
  have k2:=lD a 0
  have k3:=lD b 1
  simp only [eu,List.mem_append,List.length_append,List.length_cons,List.length_nil,List.mem_singleton] at h ⊢
  rcases h with (h | h) | h
  ·have:=h2 h;omega
  ·have:=h3 h;omega
  omega
 | .fail e,x,h=> by
  have:=eo e 0 x
  simp only [eu,List.mem_append,List.length_append,List.length_cons,List.length_nil,List.mem_singleton] at h ⊢
  rcases h with h | h
  ·have:=this h;omega
  omega
 | .loop c b,x,h=> by
  have h1:=eo c 0 x
  have h2:=nS b x
  simp only [eu,List.mem_append,List.length_append,List.length_cons,List.length_nil,List.mem_singleton] at h ⊢
  rcases h with ((h | h) | h) | h
  ·have:=h1 h;omega
  ·omega
  ·have:=h2 h;omega
  omega
 | .ite c a b,x,h=> by
  have h1:=eo c 0 x
  have h2:=nS a x
  have h3:=nS b x
  simp only [eu,List.mem_append,List.length_append,List.length_cons,List.length_nil,List.mem_singleton] at h ⊢
  rcases h with (((h | h) | h) | h) | h
  ·have:=h1 h;omega
  ·omega
  ·have:=h2 h;omega
  ·omega
  have:=h3 h;omega
theorem nS: ∀ (b:Bk) (x:Nat),x∈mv b→x≤(mv b).length
 | .nil,x,h=> by simp [mv] at h
 | .cons s b,x,h=> by
  have h1:=FM s x
  have h2:=nS b x
  simp only [mv,List.mem_append,List.length_append] at h ⊢
  rcases h with h | h
  ·have:=h1 h;omega
  have:=h2 h;omega
end
theorem xp: ∀ (l:List (Nat×Bk)) (x:Nat),x∈ms l→x≤(ms l).length
 | [],x,h=> by simp [ms] at h
 | (k,b)::l,x,h=> by
  have h1:=nS b x
  have h2:=xp l x
  simp only [ms,List.mem_append,List.length_append,List.length_cons,List.length_nil,List.mem_singleton] at h ⊢
  rcases h with (h | h) | h
  ·have:=h1 h;omega
  ·omega
  have:=h2 h;omega
theorem zU (l:List (Nat×Bk)) (i:Nat):wP l i≤(bV l 0).length:=by
 unfold wP
 rw [List.getD_eq_getElem?_getD]
 by_cases h:i < (ms l).length
 ·rw [List.getElem?_eq_getElem h,← qb l 0];exact xp l _ (List.getElem_mem h)
 rw [List.getElem?_eq_none ab];exact Nat.zero_le _

theorem oq: ∀ (l m:List (Nat×Bk)) (a:Nat),bV (l++m) a=bV l a++bV m (a+(bV l a).length)
 | [],m,a=> by simp [bV]
 | (h,b)::l,m,a=> by
  simp only [List.cons_append,bV,oq l m,List.append_assoc,List.length_append,List.length_cons,List.length_nil,Nat.add_assoc,Nat.zero_add,List.nil_append,Nat.add_comm 1 (List.length _)]
theorem uA: ∀ (l m:List (Nat×Bk)) (a:Nat),kD (l++m) a=kD l a++kD m (a+(bV l a).length)
 | [],m,a=> by simp [bV,kD]
 | (h,b)::l,m,a=> by
  simp only [List.cons_append,bV,kD,uA l m,List.append_assoc,List.length_append,List.length_cons,List.length_nil,Nat.add_assoc,Nat.zero_add,Nat.add_comm 1 (List.length _)]
def bZ (l:List (Nat×Bk)) (k:Nat):Int:=(nk (kD l 0)).getD k (-1)
theorem yR (l:List (Nat×Bk)) (p:Nat×Bk) (hp:p.1 < 40):bZ (l++[p])=lm (bZ l) p.1 (bV l 0).length:=by
 funext k
 have e:nk (kD (l++[p]) 0)=(nk (kD l 0)).set p.1 ((bV l 0).length:Int):=by
  rw [uA]
  obtain ⟨h,b⟩:=p
  simp only [kD,nk,List.foldl_append,List.foldl_cons,List.foldl_nil,Nat.zero_add]
 unfold bZ lm
 rw [e,kA]
 by_cases hk:k=p.1
 ·rw [if_pos ⟨hk,by rw [Am];exact hp⟩,if_pos hk]
 rw [if_neg (fun h=> hk h.1),if_neg hk]
theorem vH (l:List (Nat×Bk)) (p:Nat×Bk):bV (l++[p]) 0=bV l 0++dT p.2 (bV l 0).length++[{ op:= .stop }]:=by
 rw [oq]
 obtain ⟨h,b⟩:=p
 simp [bV]
def ev (h k:Nat):Int:=if k < h∨40≤k then -1 else 0
theorem Bt (h:Nat) (hh:h < 40):lm (ev h) h (-1)=ev (h+1):=by
 funext k
 unfold lm ev
 by_cases h1:k=h
 ·rw [if_pos h1,if_pos ab]
 rw [if_neg h1]
 by_cases h2:k < h∨40≤k
 ·rw [if_pos h2,if_pos ab]
 rw [if_neg h2,if_neg ab]
theorem Dr:ev 40=bZ []:=by
 funext k
 have e:bZ [] k=(List.replicate 40 (-1:Int)).getD k (-1):=rfl
 rw [e,ev,if_pos ab,List.getD_eq_getElem?_getD,List.getElem?_replicate]
 by_cases hk:k < 40
 ·rw [if_pos hk];rfl
 rw [if_neg hk];rfl
theorem Bb (ons:List (Nat×Bk)) (j:Nat) (h:j < ons.length):ons.take (j+1)=ons.take j++[ons[j]]:=List.take_succ_eq_append_getElem h
theorem pV (ons:List (Nat×Bk)) (j:Nat):(bV (ons.take j) 0).length≤(bV ons 0).length:=by
 conv=> rhs;rw [← List.take_append_drop j ons,oq]
 rw [List.length_append];omega
theorem zd {n:Nat} (h:n < 40):dv (n:Int) 40=n:=by unfold dv;rw [if_neg ab];omega
structure UOk (d v:List Tx) (ons:List (Nat×Bk)):Prop where
 nd:(d++v).Nodup
 len:(d++v).length≤16
 ok: ∀ p∈ons,lj (d++v).length p.2
 pp: ∀ p∈ons,sP p.2=true
 h: ∀ p∈ons,p.1 < 40
 c:(bV ons 0).length≤1000000
 n:ons.length≤1000
theorem UOk.good {d v:List Tx} {ons:List (Nat×Bk)} (U:UOk d v ons):Good (wP ons) (d++v).length 0 ((bV ons 0).length - 1) 0 (bV ons 0):=
 BV (wP ons) (d++v).length ons 0 0 ((bV ons 0).length - 1) U.ok (sQ ons) (Nat.le_refl _) ab
theorem UOk.ent {d v:List Tx} {ons:List (Nat×Bk)} (U:UOk d v ons) (k:Nat):0≤bZ ons k→bZ ons k < (bV ons 0).length→wP ons (bZ ons k).toNat=0:=fun h0 h1=> by
 rcases vJ ons k with h | ⟨e,_,h,_,h2⟩
 ·unfold bZ at h0;omega
 unfold bZ;rw [h,Int.toNat_natCast];exact h2
abbrev MJ (d v:List Tx) (ons:List (Nat×Bk)):AV:= .agg (DF (bV ons 0).length (inl (bV ons 0)) (bZ ons) (d.length:Int) (v.length:Int))
abbrev zA:AV:= .agg (IM (.v (.slice none 0 0)) (fun _=> 0) 0 0)
def Kq (ons:List (Nat×Bk)):Int:=if 400 < (bV ons 0).length then 2 else 13
abbrev Dw (d v:List Tx) (ons:List (Nat×Bk)):AV:=if lf ons=true then .tup [MJ d v ons, .v (.int .i64 0)] else .tup [zA, .v (.int .i64 (Kq ons))]
abbrev wn (d v:List Tx) (ons:List (Nat×Bk)):List Hd:=ons.map fun p=> (p.1,jj (d++v) p.2)
theorem nR (d v:List Tx) (ons:List (Nat×Bk)) (U:UOk d v ons):
  Spec Tryz.prog 57 (ba [JJ d v (wn d v ons)] []) (aP (Dw d v ons) []):=by
 obtain ⟨H,hH⟩: ∃ H,H=wn d v ons:=⟨_,rfl⟩
 have hHl:H.length=ons.length:=by rw [hH,List.length_map]
 have hHk: ∀ k (h:k < ons.length),oO H k=((ons[k]).1,jj (d++v) (ons[k]).2):=fun k h=> by rw [hH];exact BO ons _ k h
 rw [← hH]
 clear hH
 have hUn:=U.n
 have hUc:=U.c
 have hUl:=U.len
 have hdl:d.length≤16∧v.length≤16:=by rw [List.length_append] at hUl;omega
 refine Spec.ofN Tryz.func57 rfl Tryz.ntmps57 rfl ?_
 refine am (ai (aQ (1,0) _ rfl rfl) (ai (aD (2,0) aa rfl rfl) (be rfl (aj (am (bb rfl rfl rfl (eZ rfl rfl rfl (ai (bo _ aa rfl) (bb rfl rfl rfl (eZ rfl rfl rfl ?_))))))))))
 refine ai (bo _ aa rfl) (ai (aN _ aa rfl (by exact FA)) ?_)
 refine ai (aD (4,0) aa rfl rfl) (bG rfl rfl rfl rfl rfl rfl (aj (aU fun K3 hK3=> ?_)))
 refine am (be rfl (aj (ay ?_)))
 refine aM (Le.nilB (4,0) 0 (60,0) 48 2 rfl rfl rfl) ?_
 refine bq (α:=Nat) (fun q=> q≤40) 79 [(1,_),(2,_),(4,_)] [((1,0),_),((2,0),_),((60,0),_)] (fun q=> [(5, .v (.int .i64 (q:Int)))]) (fun q=> [((4,0), .box 26 [.ref (60,0) 0 0, .v (.int .i64 (ev q 0)), .v (.int .i64 (ev q 1)), .v (.int .i64 (ev q 2)), .v (.int .i64 (ev q 3)), .v (.int .i64 (ev q 4)), .v (.int .i64 (ev q 5)), .v (.int .i64 (ev q 6)), .v (.int .i64 (ev q 7)), .v (.int .i64 (ev q 8)), .v (.int .i64 (ev q 9)), .v (.int .i64 (ev q 10)), .v (.int .i64 (ev q 11)), .v (.int .i64 (ev q 12)), .v (.int .i64 (ev q 13)), .v (.int .i64 (ev q 14)), .v (.int .i64 (ev q 15)), .v (.int .i64 (ev q 16)), .v (.int .i64 (ev q 17)), .v (.int .i64 (ev q 18)), .v (.int .i64 (ev q 19)), .v (.int .i64 (ev q 20)), .v (.int .i64 (ev q 21)), .v (.int .i64 (ev q 22)), .v (.int .i64 (ev q 23)), .v (.int .i64 (ev q 24)), .v (.int .i64 (ev q 25)), .v (.int .i64 (ev q 26)), .v (.int .i64 (ev q 27)), .v (.int .i64 (ev q 28)), .v (.int .i64 (ev q 29)), .v (.int .i64 (ev q 30)), .v (.int .i64 (ev q 31)), .v (.int .i64 (ev q 32)), .v (.int .i64 (ev q 33)), .v (.int .i64 (ev q 34)), .v (.int .i64 (ev q 35)), .v (.int .i64 (ev q 36)), .v (.int .i64 (ev q 37)), .v (.int .i64 (ev q 38)), .v (.int .i64 (ev q 39)), .v (.int .i64 (d.length:Int)), .v (.int .i64 (v.length:Int))])]) [] [] (fun q=> 40 - q) 0 ?_ (by
  refine Le.mkJ [] [] rfl ?_ ?_ trivial trivial ?_
  ·exact ⟨(iP rfl),(iP rfl),(iP rfl),(co ag),trivial⟩
  ·exact ⟨(bF rfl rfl rfl),(bF rfl rfl rfl),(bF rfl rfl rfl),(fu rfl rfl rfl rfl lz),trivial⟩
  kernel_rfl) ?_
 ·omega
 intro q hq
 refine aU fun K5 hK5=> ?_
 refine am (aX rfl (ai (bl _ _ rfl rfl rfl) (aj (aR rfl (fun hc17=> ?_) (fun hc17=> ?_)))))
 ·skip
  refine bs (hK5 _ ?_)
  clear hK5;try clear K5
  refine aq (ay (an (aX rfl (bb rfl rfl rfl (ai (da _ _ aa rfl rfl rfl q rfl ab (by exact congrArg (fun z=> 0+1+z) (Nat.mul_one q))) ?_)))))
  refine ai (dH _ _ aa rfl rfl rfl rfl (show 0+1+q+1≤43 by omega) ((congrArg (fun z=> fX (IM (.ref (60,0) 0 0) (ev q) (d.length:Int) (v.length:Int)) z [.v (.int .i64 (-1))]) ab).trans ((sX _ _ _ _ q ab _).trans (by rw [Bt _ ab])))) ?_
  refine ek (an (aX rfl (ai (aZ _ _ rfl rfl (bD ab)) ?_)))
  refine be rfl (aJ (⟨q+1,?_,?_,?_⟩))
  ·omega
  ·skip
   refine Le.mkJ [] [] rfl ?_ ?_ trivial trivial ?_
   ·exact ⟨(iP rfl),(iP rfl),(iP rfl),(co ag),trivial⟩
   ·exact ⟨(bF rfl rfl rfl),(bF rfl rfl rfl),(bF rfl rfl rfl),(fu rfl rfl rfl rfl lz),trivial⟩
   kernel_rfl
  omega
 obtain rfl:q=40:=by omega
 rw [Dr]
 refine bB (id (hK3 _ ?_))
 clear hK3;try clear K3
 refine aU fun K8 hK8=> ?_
 refine am (be rfl (aj (ay ?_)))
 refine bq (α:=Nat) (fun j=> j≤H.length) 79 [(1,_),(2,_),(4,_)] [((1,0),_),((2,0),_)] (fun j=> [(6, .v (.int .i64 (j:Int)))]) (fun j=> [((60,0), .row 48 2 (inl (bV (ons.take j) 0))),((4,0), .box 26 [.ref (60,0) 0 (bV (ons.take j) 0).length, .v (.int .i64 (bZ (ons.take j) 0)), .v (.int .i64 (bZ (ons.take j) 1)), .v (.int .i64 (bZ (ons.take j) 2)), .v (.int .i64 (bZ (ons.take j) 3)), .v (.int .i64 (bZ (ons.take j) 4)), .v (.int .i64 (bZ (ons.take j) 5)), .v (.int .i64 (bZ (ons.take j) 6)), .v (.int .i64 (bZ (ons.take j) 7)), .v (.int .i64 (bZ (ons.take j) 8)), .v (.int .i64 (bZ (ons.take j) 9)), .v (.int .i64 (bZ (ons.take j) 10)), .v (.int .i64 (bZ (ons.take j) 11)), .v (.int .i64 (bZ (ons.take j) 12)), .v (.int .i64 (bZ (ons.take j) 13)), .v (.int .i64 (bZ (ons.take j) 14)), .v (.int .i64 (bZ (ons.take j) 15)), .v (.int .i64 (bZ (ons.take j) 16)), .v (.int .i64 (bZ (ons.take j) 17)), .v (.int .i64 (bZ (ons.take j) 18)), .v (.int .i64 (bZ (ons.take j) 19)), .v (.int .i64 (bZ (ons.take j) 20)), .v (.int .i64 (bZ (ons.take j) 21)), .v (.int .i64 (bZ (ons.take j) 22)), .v (.int .i64 (bZ (ons.take j) 23)), .v (.int .i64 (bZ (ons.take j) 24)), .v (.int .i64 (bZ (ons.take j) 25)), .v (.int .i64 (bZ (ons.take j) 26)), .v (.int .i64 (bZ (ons.take j) 27)), .v (.int .i64 (bZ (ons.take j) 28)), .v (.int .i64 (bZ (ons.take j) 29)), .v (.int .i64 (bZ (ons.take j) 30)), .v (.int .i64 (bZ (ons.take j) 31)), .v (.int .i64 (bZ (ons.take j) 32)), .v (.int .i64 (bZ (ons.take j) 33)), .v (.int .i64 (bZ (ons.take j) 34)), .v (.int .i64 (bZ (ons.take j) 35)), .v (.int .i64 (bZ (ons.take j) 36)), .v (.int .i64 (bZ (ons.take j) 37)), .v (.int .i64 (bZ (ons.take j) 38)), .v (.int .i64 (bZ (ons.take j) 39)), .v (.int .i64 (d.length:Int)), .v (.int .i64 (v.length:Int))])]) [] [] (fun j=> H.length - j) 0 ?_ (by
  refine Le.mkJ [] [] rfl ?_ ?_ trivial trivial ?_
  ·exact ⟨(iP rfl),(iP rfl),(iP rfl),(co ag),trivial⟩
  ·exact ⟨(bF rfl rfl rfl),(bF rfl rfl rfl),(fj rfl rfl rfl ag),(fu rfl rfl rfl rfl lz),trivial⟩
  kernel_rfl) ?_
 ·omega
 intro j hj
 have hct:=pV ons j
 refine aU fun K10 hK10=> ?_
 refine am (aX rfl (bb rfl rfl rfl (eZ rfl rfl rfl (ai (bo _ aa rfl) (ai (bl _ _ rfl rfl rfl) (aj (aR rfl (fun hc27=> ?_) (fun hc27=> ?_))))))))
 ·skip
  have hj:j < ons.length:=by omega
  have hct1:=pV ons (j+1)
  have hUh:=U.h _ (List.getElem_mem hj)
  have hUo:=U.ok _ (List.getElem_mem hj)
  have hUp:=U.pp _ (List.getElem_mem hj)
  have hbody:=uh H j ab
  have hg0:=kb H j ab
  rw [hHk j hj] at hbody hg0
  have hsn:=vH (ons.take j) (ons[j])
  have hen:=yR (ons.take j) (ons[j]) hUh
  rw [← Bb ons j hj] at hsn hen
  have hsl:=congrArg List.length hsn
  simp only [List.length_append,List.length_cons,List.length_nil] at hsl
  have hcb:=EZ (d:=d) (v:=v) (no:=H.length) (on:=mb H) U.nd ab (ons[j]).2 hUo hUp (bV (ons.take j) 0).length ab
  generalize dT (ons[j]).2 (bV (ons.take j) 0).length=C at hsn hsl hcb
  generalize (ons[j]).2=bd at hbody hcb
  generalize (ons[j]).1=h at hbody hg0 hen hUh
  have har:=ir (h:Int) 40 ab ab ab ab
  rw [zd hUh] at har
  refine bs (hK10 _ ?_)
  clear hK10;try clear K10
  refine aq (ay (am (bb rfl rfl rfl (eZ rfl rfl rfl (aX rfl (ai (bn _ _ aa rfl rfl _ rfl ab (by (simp only [aO,bg,bj,bv,bu,bH,bw,bP,eH,aO,List.length_map];omega)) ag) ?_))))))
  refine ai (di _ aa rfl rfl) (ai (bT _ aa rfl (by exact hg0) rfl) ?_)
  refine ai (aI aa al (har) rfl rfl) ?_
  refine be rfl (aj (am (aX rfl (bb rfl rfl rfl (ai (aF _ aa rfl rfl ei) (ai (cV _ aa rfl rfl) (bb rfl rfl rfl (ai (da _ _ aa rfl rfl rfl h rfl ab (by exact congrArg (fun z=> 0+1+z) (Nat.mul_one h))) ?_))))))))
  refine ai (dH _ _ aa rfl rfl rfl rfl (show 0+1+h+1≤43 by omega) ((congrArg (fun z=> fX (IM (.ref (60,0) 0 (bV (ons.take j) 0).length) (bZ (ons.take j)) (d.length:Int) (v.length:Int)) z [.v (.int .i64 ((bV (ons.take j) 0).length:Int))]) ab).trans ((sX _ _ _ _ h ab _).trans (by rw [← hen])))) ?_
  refine aj (aq ?_)
  refine aM (σ':=aE 79 [(1,_),(2,_),(4,_),(6,_)] [((1,0),_),((2,0),_),((60,0),_),((4,0),_)] [] []) kp ?_
  refine bO 13 [43,44,45,46,47,48,49,50,51,52,53,54,55] [(50,0)] ae ae rfl (aL rfl) (rfl:_=[_,_,_,_,_,_,_,_,_,_,_,_,_]) (rfl:_=[_,_,_]) ?_
  refine ap (_,[]) (fun τ=> aA _ aa rfl rfl rfl) ?_
  refine fP rfl ?_
  refine ap (_,[]) (fun τ=> aF _ aa rfl rfl ei) ?_
  refine fQ rfl ?_
  refine ap (_,[]) (fun τ=> az _ aa rfl rfl rfl rfl) ?_
  refine fU rfl ?_
  refine ap (_,[]) (fun τ=> aA _ aa rfl rfl rfl) ?_
  refine fY rfl ?_
  refine ap (_,[]) (fun τ=> aF _ aa rfl rfl eG) ?_
  refine gz rfl ?_
  refine ap (_,[]) (fun τ=> aH _ eg) ?_
  refine gZ rfl ?_
  refine ap (_,[]) (fun τ=> bn _ _ aa rfl rfl _ rfl ab (by (simp only [aO,bg,bj,bv,bu,bH,bw,bP,eH,aO,List.length_map];omega)) ag) ?_
  refine jg rfl ?_
  refine ap (_,[]) (fun τ=> di _ aa rfl rfl) ?_
  refine ka rfl ?_
  refine ap (_,[]) (fun τ=> cg _ aa rfl (by exact hbody) rfl) ?_
  refine kG rfl ?_
  refine ap (_,[]) (fun τ=> aA _ aa rfl rfl rfl) ?_
  refine fW rfl ?_
  refine ap (_,[]) (fun τ=> aF _ aa rfl rfl ei) ?_
  refine gL rfl ?_
  refine ap (_,[]) (fun τ=> cV _ aa rfl rfl) ?_
  refine kP rfl ?_
  refine ap (_,[((50,0),_)]) (fun τ=> (bW aa [((0,8),(50,0))] ar (hcb.toI) trivial tr tr rfl rfl ae ae)) ?_
  refine mt rfl (bm ⟨rfl,?_⟩)
  refine ai (du (56,0) _ _ aa rfl rfl (bP _).symm (.ref rfl (od _) (lB _)) ab rfl (mr _ _) (show (bV (ons.take j) 0).length+C.length=(bV (ons.take j) 0++C).length by simp)) ?_
  refine bb rfl rfl rfl (bG rfl rfl rfl rfl rfl rfl (aj ?_))
  refine aM (σ':=aE 79 [(1,_),(2,_),(4,_),(6,_)] [((1,0),_),((2,0),_),((4,0),_),((56,0),_)] [] []) kp ?_
  refine an (bb rfl rfl rfl (ai (aF _ aa rfl rfl ei) (ai (aN _ aa rfl (by exact eV)) ?_)))
  refine ai (bh _ _ aa rfl ag (by (simp <;> rfl)) ah rfl) ?_
  refine ai (du (62,0) _ _ aa rfl rfl (bP _).symm (.sl rfl) (by simp;omega) rfl ((fl _ { op:= .stop }).trans (congrArg inl hsn.symm)) (show (bV (ons.take j) 0++C).length+1=(bV (ons.take (j+1)) 0).length by simp [hsl])) ?_
  refine bb rfl rfl rfl (bG rfl rfl rfl rfl rfl rfl (ek (an (aX rfl (ai (aZ _ _ rfl rfl (bD ab)) ?_)))))
  refine be rfl (aJ (⟨j+1,?_,?_,?_⟩))
  ·omega
  ·skip
   refine Le.mkJ [((60,0),(62,0))] [] rfl ?_ ?_ trivial trivial ?_
   ·exact ⟨(dJ (id:=(1,0)) rfl),(dJ (id:=(2,0)) rfl),(dJ (id:=(4,0)) rfl),(co ag),trivial⟩
   ·exact ⟨(fu rfl rfl rfl rfl (by repeat' (first | exact Lv.sl | exact bf | refine ax ?_ ?_))),(fu rfl rfl rfl rfl (by repeat' (first | exact Lv.v | exact bf | refine ax ?_ ?_))),(fj rfl rfl rfl ag),(fu rfl rfl rfl rfl lz),trivial⟩
   kernel_rfl
  omega
 obtain rfl:j=ons.length:=by omega
 rw [List.take_length]
 refine bB (id (hK8 _ ?_))
 clear hK8;try clear K8
 refine aq (am (bb rfl rfl rfl (ai (aF _ aa rfl rfl ei) (ai (cV _ aa rfl rfl) (ai (fM _ _ rfl rfl rfl) (aj (aR rfl (fun hc67=> ?_) (fun hc67=> ?_))))))))
 ·skip
  have hco:lf ons≠true:=by
   unfold lf
   rw [decide_eq_false ab,Bool.false_and]
   exact Bool.false_ne_true
  rw [Dw,if_neg hco,Kq,if_pos ab]
  refine am (ai (aN _ aa rfl (by exact FA)) ?_)
  exact bG rfl rfl rfl rfl rfl rfl (be rfl (aj (aG (jW (.inr rfl) rfl (.cellA aa rfl rfl rfl) (.tmp lb) (Le.out [] [] (.tup rfl lz) rfl rfl rfl trivial trivial)))))
 have hl4:(bV ons 0).length≤400:=by omega
 refine aT (aU fun K19 hK19=> ?_)
 refine am (be rfl (aj (ay ?_)))
 refine aM (Le.frzB (4,0) 0 rfl rfl rfl rfl (ys:=inl (bV ons 0)) (by rw [List.drop_zero];exact List.take_of_length_le (by rw [bP];omega)) (by rw [bP];omega)) ?_
 refine bq (α:=Nat) (fun h=> h≤40∧ ∀ k,k < h→ld (bV ons 0) (jy (bV ons 0) (bZ ons k)).1 (bV ons 0).length≤16) 79 [(2,_),(4,_)] [((2,0),_)] (fun h=> [(8, .v (.int .i64 (h:Int)))]) (fun h=> [((4,0), .box 26 [.sl (bV ons 0).length (inl (bV ons 0)), .v (.int .i64 (bZ ons 0)), .v (.int .i64 (bZ ons 1)), .v (.int .i64 (bZ ons 2)), .v (.int .i64 (bZ ons 3)), .v (.int .i64 (bZ ons 4)), .v (.int .i64 (bZ ons 5)), .v (.int .i64 (bZ ons 6)), .v (.int .i64 (bZ ons 7)), .v (.int .i64 (bZ ons 8)), .v (.int .i64 (bZ ons 9)), .v (.int .i64 (bZ ons 10)), .v (.int .i64 (bZ ons 11)), .v (.int .i64 (bZ ons 12)), .v (.int .i64 (bZ ons 13)), .v (.int .i64 (bZ ons 14)), .v (.int .i64 (bZ ons 15)), .v (.int .i64 (bZ ons 16)), .v (.int .i64 (bZ ons 17)), .v (.int .i64 (bZ ons 18)), .v (.int .i64 (bZ ons 19)), .v (.int .i64 (bZ ons 20)), .v (.int .i64 (bZ ons 21)), .v (.int .i64 (bZ ons 22)), .v (.int .i64 (bZ ons 23)), .v (.int .i64 (bZ ons 24)), .v (.int .i64 (bZ ons 25)), .v (.int .i64 (bZ ons 26)), .v (.int .i64 (bZ ons 27)), .v (.int .i64 (bZ ons 28)), .v (.int .i64 (bZ ons 29)), .v (.int .i64 (bZ ons 30)), .v (.int .i64 (bZ ons 31)), .v (.int .i64 (bZ ons 32)), .v (.int .i64 (bZ ons 33)), .v (.int .i64 (bZ ons 34)), .v (.int .i64 (bZ ons 35)), .v (.int .i64 (bZ ons 36)), .v (.int .i64 (bZ ons 37)), .v (.int .i64 (bZ ons 38)), .v (.int .i64 (bZ ons 39)), .v (.int .i64 (d.length:Int)), .v (.int .i64 (v.length:Int))])]) [] [] (fun h=> 40 - h) 0 ?_ (by
  refine Le.mkJ [] [] rfl ?_ ?_ trivial trivial ?_
  ·exact ⟨(iP rfl),(iP rfl),(co ag),trivial⟩
  ·exact ⟨(bF rfl rfl rfl),(fu rfl rfl rfl rfl lz),trivial⟩
  kernel_rfl) ?_
 ·exact ⟨Nat.zero_le _,fun k hk=> absurd hk (Nat.not_lt_zero _)⟩
 intro h hh
 obtain ⟨hk,hks⟩:=hh
 refine aU fun K21 hK21=> ?_
 refine am (aX rfl (ai (bl _ _ rfl rfl rfl) (aj (aR rfl (fun hc70=> ?_) (fun hc70=> ?_)))))
 ·skip
  have hh4:h < 40:=by omega
  have hdm:=oe (C:=bV ons 0) (qR U.good (U.ent h)) (B:=1000000) (fun i _=> Nat.le_trans (zU ons i) hUc) _ (Nat.le_refl _)
  have hde:=vT (bV ons 0) (bZ ons) (d.length:Int) (v.length:Int) h hh4 hUc (wP ons) (d++v).length U.good (fun i=> Nat.le_trans (zU ons i) hUc) (U.ent h)
  refine bs (hK21 _ ?_)
  clear hK21;try clear K21
  refine aq (ay (am (ai (az _ aa rfl rfl rfl rfl) (aX rfl (ai (aI aa al (hde) rfl rfl) ?_)))))
  refine ai (fM _ _ rfl rfl rfl) (aj (aR rfl (fun hc76=> ?_) (fun hc76=> ?_)))
  ·skip
   have hco:lf ons≠true:=fun e=> by
    unfold lf at e
    rw [Bool.and_eq_true,List.all_eq_true] at e
    have:=e.2 h (List.mem_range.2 hh4)
    rw [decide_eq_true_eq] at this
    exact absurd (show ld (bV ons 0) (jy (bV ons 0) (bZ ons h)).1 (bV ons 0).length≤16 from this) ab
   rw [Dw,if_neg hco,Kq,if_neg ab]
   refine am (ai (aN _ aa rfl (by exact FA)) ?_)
   exact bG rfl rfl rfl rfl rfl rfl (be rfl (aj (aG (jW (.inr rfl) rfl (.cellA aa rfl rfl rfl) (.tmp lb) (Le.out [] [] (.tup rfl lz) rfl rfl rfl trivial trivial)))))
  refine cp (an (aX rfl (ai (aZ _ _ rfl rfl (bD ab)) ?_)))
  refine be rfl (aJ (⟨h+1,?_,?_,?_⟩))
  ·exact ⟨by omega,fun k hk=> (by
    rcases Nat.lt_or_ge k h with hlt | hge
    ·exact hks k hlt
    obtain rfl:k=h:=by omega
    omega)⟩
  ·skip
   refine Le.mkJ [] [] rfl ?_ ?_ trivial trivial ?_
   ·exact ⟨(iP rfl),(iP rfl),(co ag),trivial⟩
   ·exact ⟨(bF rfl rfl rfl),(fu rfl rfl rfl rfl lz),trivial⟩
   kernel_rfl
  omega
 obtain rfl:h=40:=by omega
 have hco:lf ons=true:=by
  unfold lf
  rw [Bool.and_eq_true,decide_eq_true_eq,List.all_eq_true]
  exact ⟨hl4,fun k hk=> decide_eq_true (hks k (List.mem_range.1 hk))⟩
 refine bB (id (hK19 _ ?_))
 clear hK19;try clear K19
 refine am (ai (az _ aa rfl rfl rfl rfl) (bG rfl rfl rfl rfl rfl rfl (be rfl (aj (aG ?_)))))
 rw [Dw,if_pos hco]
 exact jW (.inr rfl) rfl (.cellA aa rfl rfl rfl) (.tmp lb) (Le.out [] [] (.tup rfl lz) rfl rfl rfl trivial trivial)

structure mu (s:Tx) (d v:List Tx) (ons:List (Nat×Bk)):Prop extends UOk d v ons where
 p:gx s=some (d,v,wn d v ons)
 l:s.length≤3000
 wl: ∀ p∈ons,qF p.2=true
theorem CY {s:Tx} {d v:List Tx} {ons:List (Nat×Bk)} (U:mu s d v ons) (hc:lf ons=true):
  Spec Tryz.prog 64 (ba [.v (bt s)] []) (aP (Dw d v ons) []):=by
 have h1:=qm s U.l _ _ _ U.p
 have h2:Spec Tryz.prog 97 (ba [JJ d v (wn d v ons)] []) (aP (.v (.int .i64 0)) []):=qB d v ons U.nd U.len U.ok U.wl U.n
 have h3:=nR d v ons U.toUOk
 rw [Dw,if_pos hc] at h3 ⊢
 obtain ⟨H,hH⟩: ∃ H,H=wn d v ons:=⟨_,rfl⟩
 rw [← hH] at h1 h2 h3
 clear hH
 refine Spec.ofN Tryz.func64 rfl Tryz.ntmps64 rfl ?_
 refine am (ai (aD (2,0) aa rfl rfl) (be rfl (aj (am (ej rfl (ai (aI aa al (h1) rfl rfl) ?_))))))
 refine ai (aH _ tQ) (ai (cq _ rfl pF) (ai (cq _ rfl ee) (ai (cq _ rfl ee) (ai (aD (4,0) aa rfl rfl) (bG rfl rfl rfl rfl rfl rfl (be rfl (be rfl (aj (aq (am ?_))))))))))
 refine aX rfl (ai (bL (r:=false) _ _ rfl rfl rfl) (aj (aW rfl rfl (aT (am (ai (az _ aa rfl rfl rfl rfl) (ai (aI aa al (h2) rfl rfl) ?_)))))))
 refine be rfl (aj (aq (aq ?_)))
 refine aM (σ':=aE 32 [(2,_),(4,_),(6,_)] [((2,0),_),((4,0),_)] [] []) kp ?_
 refine an (aX rfl (ai (bL (r:=false) _ _ rfl rfl rfl) (aj (aW rfl rfl (aT (am (ai (az _ aa rfl rfl rfl rfl) (ai (aI aa al (h3) rfl rfl) ?_))))))))
 refine ai (aH _ tQ) (ai (cq _ rfl pF) (ai (cq _ rfl ee) (ai (aD (7,0) aa rfl rfl) (bG rfl rfl rfl rfl rfl rfl (be rfl (aj (am (ai (az _ aa rfl rfl rfl rfl) (aX rfl (bG rfl rfl rfl rfl rfl rfl ?_))))))))))
 exact be rfl (aj (aG (jW (.inr rfl) rfl (.cellA aa rfl rfl rfl) (.tmp lb) (Le.out [] [] (.tup rfl lz) rfl rfl rfl trivial trivial))))
theorem BI {s:Tx} {d v:List Tx} {ons:List (Nat×Bk)} (U:mu s d v ons) (hc:lf ons≠true):
  Spec Tryz.prog 64 (ba [.v (bt s)] []) (aP (Dw d v ons) []):=by
 have h1:=qm s U.l _ _ _ U.p
 have h2:Spec Tryz.prog 97 (ba [JJ d v (wn d v ons)] []) (aP (.v (.int .i64 0)) []):=qB d v ons U.nd U.len U.ok U.wl U.n
 have h3:=nR d v ons U.toUOk
 rw [Dw,if_neg hc] at h3 ⊢
 generalize Kq ons=er at h3 ⊢
 obtain ⟨H,hH⟩: ∃ H,H=wn d v ons:=⟨_,rfl⟩
 rw [← hH] at h1 h2 h3
 clear hH
 refine Spec.ofN Tryz.func64 rfl Tryz.ntmps64 rfl ?_
 refine am (ai (aD (2,0) aa rfl rfl) (be rfl (aj (am (ej rfl (ai (aI aa al (h1) rfl rfl) ?_))))))
 refine ai (aH _ tQ) (ai (cq _ rfl pF) (ai (cq _ rfl ee) (ai (cq _ rfl ee) (ai (aD (4,0) aa rfl rfl) (bG rfl rfl rfl rfl rfl rfl (be rfl (be rfl (aj (aq (am ?_))))))))))
 refine aX rfl (ai (bL (r:=false) _ _ rfl rfl rfl) (aj (aW rfl rfl (aT (am (ai (az _ aa rfl rfl rfl rfl) (ai (aI aa al (h2) rfl rfl) ?_)))))))
 refine be rfl (aj (aq (aq ?_)))
 refine aM (σ':=aE 32 [(2,_),(4,_),(6,_)] [((2,0),_),((4,0),_)] [] []) kp ?_
 refine an (aX rfl (ai (bL (r:=false) _ _ rfl rfl rfl) (aj (aW rfl rfl (aT (am (ai (az _ aa rfl rfl rfl rfl) (ai (aI aa al (h3) rfl rfl) ?_))))))))
 refine ai (aH _ tQ) (ai (cq _ rfl pF) (ai (cq _ rfl ee) (ai (aD (7,0) aa rfl rfl) (bG rfl rfl rfl rfl rfl rfl (be rfl (aj (am (ai (az _ aa rfl rfl rfl rfl) (aX rfl (bG rfl rfl rfl rfl rfl rfl ?_))))))))))
 exact be rfl (aj (aG (jW (.inr rfl) rfl (.cellA aa rfl rfl rfl) (.tmp lb) (Le.out [] [] (.tup rfl lz) rfl rfl rfl trivial trivial))))
theorem wj {s:Tx} {d v:List Tx} {ons:List (Nat×Bk)} (U:mu s d v ons):
  Spec Tryz.prog 64 (ba [.v (bt s)] []) (aP (Dw d v ons) []):=by
 by_cases hc:lf ons=true
 ·exact CY U hc
 exact BI U hc
def durs:List (List Tx):=[Do,zx,Ad,Dq,BF,Dj,Br,Ai,Dh,zB,vk,tY]
def vols:List (List Tx):=[AC,zR,Bi,Cf,Ak,BZ,AM,Au,Ck,AT,uF,vt]
def onss:List (List (Nat×Bk)):=[ons0,ons1,ons2,ons3,ons4,ons5,ons6,ons7,ons8,ons9,ons10,ons11]
theorem iX {d v:List Tx} {ons:List (Nat×Bk)} (h:vC ons (d++v).length) (h1:(d++v).Nodup) (h2:(d++v).length≤16) (h3:(ons.all fun p=> sP p.2)=true) (h4:ons.length≤1000):UOk d v ons:=
 ⟨h1,h2,h.ok,fun p hp=> (List.all_eq_true.1 h3) p hp,h.h,by have:=h.n;omega,h4⟩
theorem Jk:mu (srcs.getD 0 []) Do AC ons0:=⟨iX srcOk0 ah ah ae ah,HQ,of_decide_eq_true ae,srcOk0.wl⟩
theorem JA:mu (srcs.getD 1 []) zx zR ons1:=⟨iX srcOk1 ah ah ae ah,Hr,of_decide_eq_true ae,srcOk1.wl⟩
theorem IY:mu (srcs.getD 2 []) Ad Bi ons2:=⟨iX srcOk2 ah ah ae ah,Is,of_decide_eq_true ae,srcOk2.wl⟩
theorem JV:mu (srcs.getD 3 []) Dq Cf ons3:=⟨iX srcOk3 ah ah ae ah,GX,of_decide_eq_true ae,srcOk3.wl⟩
theorem JN:mu (srcs.getD 4 []) BF Ak ons4:=⟨iX srcOk4 ah ah ae ah,Hk,of_decide_eq_true ae,srcOk4.wl⟩
theorem JW:mu (srcs.getD 5 []) Dj BZ ons5:=⟨iX srcOk5 ah ah ae ah,Ie,of_decide_eq_true ae,srcOk5.wl⟩
theorem Ji:mu (srcs.getD 6 []) Br AM ons6:=⟨iX srcOk6 ah ah ae ah,Hw,of_decide_eq_true ae,srcOk6.wl⟩
theorem JI:mu (srcs.getD 7 []) Ai Au ons7:=⟨iX srcOk7 ah ah ae ah,Hy,of_decide_eq_true ae,srcOk7.wl⟩
theorem JT:mu (srcs.getD 8 []) Dh Ck ons8:=⟨iX srcOk8 ah ah ae ah,HH,of_decide_eq_true ae,srcOk8.wl⟩
theorem Jv:mu (srcs.getD 9 []) zB AT ons9:=⟨iX srcOk9 ah ah ae ah,Hf,of_decide_eq_true ae,srcOk9.wl⟩
theorem GP:mu (srcs.getD 10 []) vk uF ons10:=⟨iX srcOk10 ah ah ae ah,Et,of_decide_eq_true ae,srcOk10.wl⟩
theorem Ig:mu (srcs.getD 11 []) tY vt ons11:=⟨iX srcOk11 ah ah ae ah,Dz,of_decide_eq_true ae,srcOk11.wl⟩
theorem Jf (k:Nat) (hk:k < 12):mu (srcs.getD k []) (durs.getD k []) (vols.getD k []) (onss.getD k [])∧vC (onss.getD k []) (durs.getD k []++vols.getD k []).length:=by
 rcases k with _ | _ | _ | _ | _ | _ | _ | _ | _ | _ | _ | _ | k
 ·exact ⟨Jk,srcOk0⟩
 ·exact ⟨JA,srcOk1⟩
 ·exact ⟨IY,srcOk2⟩
 ·exact ⟨JV,srcOk3⟩
 ·exact ⟨JN,srcOk4⟩
 ·exact ⟨JW,srcOk5⟩
 ·exact ⟨Ji,srcOk6⟩
 ·exact ⟨JI,srcOk7⟩
 ·exact ⟨JT,srcOk8⟩
 ·exact ⟨Jv,srcOk9⟩
 ·exact ⟨GP,srcOk10⟩
 ·exact ⟨Ig,srcOk11⟩
 omega
theorem sL:Spec Tryz.prog 108 (ba [] []) (aP (.sl 12 (fo srcs)) []):=by
 refine Spec.ofN Tryz.func108 rfl Tryz.ntmps108 rfl ?_
 refine am (ai (bp _ fC) (aj (am (ai (bh _ _ aa rfl ag (by (simp <;> rfl)) ah rfl) ?_))))
 exact kH rfl (aj (aG (bI (.inr rfl) rfl (.tmp mL) (Le.out [] [] (jl rfl ae) rfl rfl rfl trivial trivial))))
theorem uc (n:Int) (h1: -9223372036854775808≤n) (h2:n≤9223372036854775807):
  Spec Tryz.prog 75 (ba [.v (.int .i64 n)] []) (aP (.v (bt (srcs.getD (dv n 12).toNat []))) []):=by
 have ha:=ir n 12 ab ab h1 h2
 have hlo:=ia n 12 ab
 have hhi:=jo n 12 ab
 obtain ⟨k,hk⟩: ∃ k:Nat,dv n 12=(k:Int):=⟨(dv n 12).toNat,by omega⟩
 rw [hk] at ha hlo hhi ⊢
 have hk2:k < srcs.length:=by rw [Ca];omega
 have hg:=jO srcs k hk2
 have hs:=sL
 rw [Int.toNat_natCast]
 generalize srcs=S at hg hs hk2
 refine Spec.ofN Tryz.func75 rfl Tryz.ntmps75 rfl ?_
 refine am (oH rfl (aj (am (ai (aI aa (by repeat' (exact cX)) (hs) rfl rfl) ?_))))
 refine kH rfl (aj (am (eY rfl (aX rfl (eY rfl (ai (bo _ aa rfl) (ai (aI aa al (ha) rfl rfl) ?_)))))))
 refine ai (bn _ _ aa rfl rfl _ rfl ab (by (simp only [aO,bg,bj,bv,bu,bH,bw,bP,eH,aO,List.length_map];omega)) (by exact Nat.mul_one _)) ?_
 refine ai (bT _ aa rfl (by exact hg) rfl) ?_
 exact oH rfl (aj (aG (fv rfl rfl)))
theorem sj (n:Int) (h1: -9223372036854775808≤n) (h2:n≤9223372036854775807):
  Spec Tryz.prog 39 (ba [.v (.int .i64 n)] []) (aP (MJ (durs.getD (dv n 12).toNat []) (vols.getD (dv n 12).toNat []) (onss.getD (dv n 12).toNat [])) []):=by
 have hs:=uc n h1 h2
 have hlo:=ia n 12 ab
 have hhi:=jo n 12 ab
 obtain ⟨k,hk⟩: ∃ k:Nat,dv n 12=(k:Int):=⟨(dv n 12).toNat,by omega⟩
 rw [hk] at hs hlo hhi ⊢
 rw [Int.toNat_natCast] at hs ⊢
 obtain ⟨U,hS⟩:=Jf k ab
 have hb:=wj U
 rw [Dw,if_pos (zb hS)] at hb
 generalize srcs.getD k []=s at hs hb
 generalize durs.getD k []=d at hb ⊢
 generalize vols.getD k []=v at hb ⊢
 generalize onss.getD k []=ons at hb ⊢
 clear U hS
 refine Spec.ofN Tryz.func39 rfl Tryz.ntmps39 rfl ?_
 refine am (ai (aD (2,0) aa rfl rfl) (aj (am (aX rfl (ai (aI aa al (hs) rfl rfl) ?_)))))
 refine ai (aI aa al (hb) rfl rfl) ?_
 refine ai (aH _ tQ) (ai (cq _ rfl pF) (ai (cq _ rfl ee) (ai (aD (3,0) aa rfl rfl) (bG rfl rfl rfl rfl rfl rfl (be rfl (aj (am (ai (az _ aa rfl rfl rfl rfl) (bG rfl rfl rfl rfl rfl rfl (aj ?_))))))))))
 exact aG (bI (.inr rfl) rfl (.cellA aa rfl rfl rfl) (Le.out [] [] (.agg rfl lz) rfl rfl rfl trivial trivial))

structure GL (L:List Int):Prop where
 n:L.length≤4611686018427387904
 r: ∀ x∈L, -9223372036854775808≤x∧x≤9223372036854775807

structure Pg where
 c:List eW
 e:Nat→Int
 d:Nat
 v:Nat
abbrev QN (p:Pg):List AV:=DF p.c.length (inl p.c) p.e (p.d:Int) (p.v:Int)
abbrev il (p:Pg):AV:= .agg (QN p)
end Go.Proofs.YtmjnackchaahbaaGreat
