/- Part 13 of the texts that the walk leans on: the machine, the walks, the plain laws. -/
import Derived.Test.YtmjnackchaahbaaGreatNmZ12
set_option linter.unusedSimpArgs false
set_option linter.unusedVariables false
namespace Go.Proofs.YtmjnackchaahbaaGreat
open Go.RowKit

abbrev Hf (c:AV) (e:Nat→Int) (d v:Int):List AV:=[c, .v (.int .i64 (e 0)), .v (.int .i64 (e 1)), .v (.int .i64 (e 2)), .v (.int .i64 (e 3)), .v (.int .i64 (e 4)), .v (.int .i64 (e 5)), .v (.int .i64 (e 6)), .v (.int .i64 (e 7)), .v (.int .i64 (e 8)), .v (.int .i64 (e 9)), .v (.int .i64 (e 10)), .v (.int .i64 (e 11)), .v (.int .i64 (e 12)), .v (.int .i64 (e 13)), .v (.int .i64 (e 14)), .v (.int .i64 (e 15)), .v (.int .i64 (e 16)), .v (.int .i64 (e 17)), .v (.int .i64 (e 18)), .v (.int .i64 (e 19)), .v (.int .i64 (e 20)), .v (.int .i64 (e 21)), .v (.int .i64 (e 22)), .v (.int .i64 (e 23)), .v (.int .i64 (e 24)), .v (.int .i64 (e 25)), .v (.int .i64 (e 26)), .v (.int .i64 (e 27)), .v (.int .i64 (e 28)), .v (.int .i64 (e 29)), .v (.int .i64 (e 30)), .v (.int .i64 (e 31)), .v (.int .i64 (e 32)), .v (.int .i64 (e 33)), .v (.int .i64 (e 34)), .v (.int .i64 (e 35)), .v (.int .i64 (e 36)), .v (.int .i64 (e 37)), .v (.int .i64 (e 38)), .v (.int .i64 (e 39)), .v (.int .i64 d), .v (.int .i64 v)]
abbrev Et (n:Nat) (xs:List PV) (e:Nat→Int) (d v:Int):List AV:=Hf (.sl n xs) e d v
def li (e:Nat→Int) (h:Nat) (x:Int):Nat→Int:=fun k=> if k=h then x else e k
theorem sW (c:AV) (e:Nat→Int) (d v:Int) (h:Nat) (hh:h < 40) (x:Int):fW (Hf c e d v) (1+h) [.v (.int .i64 x)]=Hf c (li e h x) d v:=by
 rcases h with _ | _ | _ | _ | _ | _ | _ | _ | _ | _ | _ | _ | _ | _ | _ | _ | _ | _ | _ | _ | _ | _ | _ | _ | _ | _ | _ | _ | _ | _ | _ | _ | _ | _ | _ | _ | _ | _ | _ | _ | h
 all_goals first | rfl | omega
theorem te (n:Nat) (xs:List PV) (e:Nat→Int) (d v:Int) (h:Nat) (hh:h < 40):(Et n xs e d v)[1+h]? =some (.v (.int .i64 (e h))):=by
 rcases h with _ | _ | _ | _ | _ | _ | _ | _ | _ | _ | _ | _ | _ | _ | _ | _ | _ | _ | _ | _ | _ | _ | _ | _ | _ | _ | _ | _ | _ | _ | _ | _ | _ | _ | _ | _ | _ | _ | _ | _ | h
 all_goals first | rfl | omega
def GB (l:List Nat):List PV:=l.map fun (x:Nat)=> .v (.int .i64 (x:Int))
@[simp] theorem eE (l:List Nat):(GB l).length=l.length:=by simp [GB]
theorem FX (l:List Nat) (k:Nat) (h:k < l.length):(GB l)[k]? =some (.v (.int .i64 (l.getD k 0:Int))):=by simp [GB,h]
theorem yp:Spec Tryz.prog 106 (ba [.v (.int .i64 1)] []) (aO (.v (.int .i64 0)) []):=by
 refine Spec.ofN Tryz.func106 rfl Tryz.ntmps106 rfl ?_
 refine am (be rfl (aj (aq (am (aX rfl (aj (ay (aq (iG rfl rfl rfl rfl rfl (aS ?_))))))))))
 exact bK rfl rfl (am (be rfl (aj (aG (fu rfl rfl)))))
theorem Af:Spec Tryz.prog 106 (ba [.v (.int .i64 2)] []) (aO (.v (.int .i64 0)) []):=by
 refine Spec.ofN Tryz.func106 rfl Tryz.ntmps106 rfl ?_
 refine am (be rfl (aj (aq (am (aX rfl (aj (ay (aq (cK rfl rfl rfl rfl rfl (iG rfl rfl rfl rfl rfl ?_))))))))))
 exact aS (bK rfl rfl (am (be rfl (aj (aG (fu rfl rfl))))))
theorem tY:Spec Tryz.prog 106 (ba [.v (.int .i64 3)] []) (aO (.v (.int .i64 1)) []):=by
 refine Spec.ofN Tryz.func106 rfl Tryz.ntmps106 rfl ?_
 refine am (be rfl (aj (aq (am (aX rfl (aj (ay (aq ?_))))))))
 iterate 7 refine cK rfl rfl rfl rfl rfl ?_
 refine aM (σ':=aD 31 [(3,_)] [] [] []) kp ?_
 refine eb rfl rfl rfl rfl rfl (aq ?_)
 iterate 3 refine cK rfl rfl rfl rfl rfl ?_
 exact iG rfl rfl rfl rfl rfl (aS (bK rfl rfl (am (be rfl (aj (aG (fu rfl rfl)))))))
theorem yx:Spec Tryz.prog 106 (ba [.v (.int .i64 4)] []) (aO (.v (.int .i64 0)) []):=by
 refine Spec.ofN Tryz.func106 rfl Tryz.ntmps106 rfl ?_
 refine am (be rfl (aj (aq (am (aX rfl (aj (ay (aq ?_))))))))
 iterate 2 refine cK rfl rfl rfl rfl rfl ?_
 exact iG rfl rfl rfl rfl rfl (aS (bK rfl rfl (am (be rfl (aj (aG (fu rfl rfl)))))))
theorem zr:Spec Tryz.prog 106 (ba [.v (.int .i64 5)] []) (aO (.v (.int .i64 1)) []):=by
 refine Spec.ofN Tryz.func106 rfl Tryz.ntmps106 rfl ?_
 refine am (be rfl (aj (aq (am (aX rfl (aj (ay (aq ?_))))))))
 iterate 7 refine cK rfl rfl rfl rfl rfl ?_
 refine aM (σ':=aD 31 [(3,_)] [] [] []) kp ?_
 exact eb rfl rfl rfl rfl rfl (aq (iG rfl rfl rfl rfl rfl (aS (bK rfl rfl (am (be rfl (aj (aG (fu rfl rfl)))))))))
theorem Ca:Spec Tryz.prog 106 (ba [.v (.int .i64 6)] []) (aO (.v (.int .i64 2)) []):=by
 refine Spec.ofN Tryz.func106 rfl Tryz.ntmps106 rfl ?_
 refine am (be rfl (aj (aq (am (aX rfl (aj (ay (aq ?_))))))))
 iterate 7 refine cK rfl rfl rfl rfl rfl ?_
 refine aM (σ':=aD 31 [(3,_)] [] [] []) kp ?_
 refine eb rfl rfl rfl rfl rfl (aq ?_)
 iterate 5 refine cK rfl rfl rfl rfl rfl ?_
 refine eb rfl rfl rfl rfl rfl (aq (iG rfl rfl rfl rfl rfl (aS (bK rfl rfl (aq ?_)))))
 refine aM (σ':=aD 31 [] [] [] []) kp ?_
 exact an (be rfl (aj (aG (fu rfl rfl))))
theorem Ai:Spec Tryz.prog 106 (ba [.v (.int .i64 7)] []) (aO (.v (.int .i64 2)) []):=by
 refine Spec.ofN Tryz.func106 rfl Tryz.ntmps106 rfl ?_
 refine am (be rfl (aj (aq (am (aX rfl (aj (ay (aq ?_))))))))
 iterate 7 refine cK rfl rfl rfl rfl rfl ?_
 refine aM (σ':=aD 31 [(3,_)] [] [] []) kp ?_
 refine eb rfl rfl rfl rfl rfl (aq ?_)
 iterate 5 refine cK rfl rfl rfl rfl rfl ?_
 refine eb rfl rfl rfl rfl rfl (aq (cK rfl rfl rfl rfl rfl (aq ?_)))
 refine aM (σ':=aD 31 [(3,_)] [] [] []) kp ?_
 exact zC rfl rfl rfl rfl rfl (aS (bK rfl rfl (am (be rfl (aj (aG (fu rfl rfl)))))))
theorem Cp:Spec Tryz.prog 106 (ba [.v (.int .i64 8)] []) (aO (.v (.int .i64 2)) []):=by
 refine Spec.ofN Tryz.func106 rfl Tryz.ntmps106 rfl ?_
 refine am (be rfl (aj (aq (am (aX rfl (aj (ay (aq ?_))))))))
 iterate 7 refine cK rfl rfl rfl rfl rfl ?_
 refine aM (σ':=aD 31 [(3,_)] [] [] []) kp ?_
 refine eb rfl rfl rfl rfl rfl (aq ?_)
 iterate 5 refine cK rfl rfl rfl rfl rfl ?_
 refine eb rfl rfl rfl rfl rfl (aq (cK rfl rfl rfl rfl rfl (aq ?_)))
 refine aM (σ':=aD 31 [(3,_)] [] [] []) kp ?_
 exact eb rfl rfl rfl rfl rfl (iG rfl rfl rfl rfl rfl (aS (bK rfl rfl (am (be rfl (aj (aG (fu rfl rfl))))))))
theorem AL:Spec Tryz.prog 106 (ba [.v (.int .i64 9)] []) (aO (.v (.int .i64 2)) []):=by
 refine Spec.ofN Tryz.func106 rfl Tryz.ntmps106 rfl ?_
 refine am (be rfl (aj (aq (am (aX rfl (aj (ay (aq ?_))))))))
 iterate 7 refine cK rfl rfl rfl rfl rfl ?_
 refine aM (σ':=aD 31 [(3,_)] [] [] []) kp ?_
 refine eb rfl rfl rfl rfl rfl (aq ?_)
 iterate 5 refine cK rfl rfl rfl rfl rfl ?_
 refine eb rfl rfl rfl rfl rfl (aq (cK rfl rfl rfl rfl rfl (aq ?_)))
 refine aM (σ':=aD 31 [(3,_)] [] [] []) kp ?_
 exact eb rfl rfl rfl rfl rfl (cK rfl rfl rfl rfl rfl (iG rfl rfl rfl rfl rfl (aS (bK rfl rfl (am (be rfl (aj (aG (fu rfl rfl)))))))))
theorem Dg:Spec Tryz.prog 106 (ba [.v (.int .i64 10)] []) (aO (.v (.int .i64 1)) []):=by
 refine Spec.ofN Tryz.func106 rfl Tryz.ntmps106 rfl ?_
 refine am (be rfl (aj (aq (am (aX rfl (aj (ay (aq ?_))))))))
 iterate 7 refine cK rfl rfl rfl rfl rfl ?_
 refine aM (σ':=aD 31 [(3,_)] [] [] []) kp ?_
 exact eb rfl rfl rfl rfl rfl (aq (cK rfl rfl rfl rfl rfl (iG rfl rfl rfl rfl rfl (aS (bK rfl rfl (am (be rfl (aj (aG (fu rfl rfl))))))))))
theorem EJ:Spec Tryz.prog 106 (ba [.v (.int .i64 11)] []) (aO (.v (.int .i64 2)) []):=by
 refine Spec.ofN Tryz.func106 rfl Tryz.ntmps106 rfl ?_
 refine am (be rfl (aj (aq (am (aX rfl (aj (ay (aq ?_))))))))
 iterate 7 refine cK rfl rfl rfl rfl rfl ?_
 refine aM (σ':=aD 31 [(3,_)] [] [] []) kp ?_
 refine eb rfl rfl rfl rfl rfl (aq ?_)
 iterate 5 refine cK rfl rfl rfl rfl rfl ?_
 refine eb rfl rfl rfl rfl rfl (aq (cK rfl rfl rfl rfl rfl (aq ?_)))
 refine aM (σ':=aD 31 [(3,_)] [] [] []) kp ?_
 refine eb rfl rfl rfl rfl rfl ?_
 iterate 2 refine cK rfl rfl rfl rfl rfl ?_
 exact iG rfl rfl rfl rfl rfl (aS (bK rfl rfl (am (be rfl (aj (aG (fu rfl rfl)))))))
theorem Gj:Spec Tryz.prog 106 (ba [.v (.int .i64 12)] []) (aO (.v (.int .i64 2)) []):=by
 refine Spec.ofN Tryz.func106 rfl Tryz.ntmps106 rfl ?_
 refine am (be rfl (aj (aq (am (aX rfl (aj (ay (aq ?_))))))))
 iterate 7 refine cK rfl rfl rfl rfl rfl ?_
 refine aM (σ':=aD 31 [(3,_)] [] [] []) kp ?_
 refine eb rfl rfl rfl rfl rfl (aq ?_)
 iterate 5 refine cK rfl rfl rfl rfl rfl ?_
 refine eb rfl rfl rfl rfl rfl (aq (cK rfl rfl rfl rfl rfl (aq ?_)))
 refine aM (σ':=aD 31 [(3,_)] [] [] []) kp ?_
 refine eb rfl rfl rfl rfl rfl ?_
 iterate 3 refine cK rfl rfl rfl rfl rfl ?_
 exact iG rfl rfl rfl rfl rfl (aS (bK rfl rfl (am (be rfl (aj (aG (fu rfl rfl)))))))
theorem Fm:Spec Tryz.prog 106 (ba [.v (.int .i64 13)] []) (aO (.v (.int .i64 2)) []):=by
 refine Spec.ofN Tryz.func106 rfl Tryz.ntmps106 rfl ?_
 refine am (be rfl (aj (aq (am (aX rfl (aj (ay (aq ?_))))))))
 iterate 7 refine cK rfl rfl rfl rfl rfl ?_
 refine aM (σ':=aD 31 [(3,_)] [] [] []) kp ?_
 refine eb rfl rfl rfl rfl rfl (aq ?_)
 iterate 5 refine cK rfl rfl rfl rfl rfl ?_
 refine eb rfl rfl rfl rfl rfl (aq (cK rfl rfl rfl rfl rfl (aq ?_)))
 refine aM (σ':=aD 31 [(3,_)] [] [] []) kp ?_
 refine eb rfl rfl rfl rfl rfl ?_
 iterate 4 refine cK rfl rfl rfl rfl rfl ?_
 exact iG rfl rfl rfl rfl rfl (aS (bK rfl rfl (am (be rfl (aj (aG (fu rfl rfl)))))))
theorem Dy:Spec Tryz.prog 106 (ba [.v (.int .i64 14)] []) (aO (.v (.int .i64 1)) []):=by
 refine Spec.ofN Tryz.func106 rfl Tryz.ntmps106 rfl ?_
 refine am (be rfl (aj (aq (am (aX rfl (aj (ay (aq ?_))))))))
 iterate 7 refine cK rfl rfl rfl rfl rfl ?_
 refine aM (σ':=aD 31 [(3,_)] [] [] []) kp ?_
 refine eb rfl rfl rfl rfl rfl (aq ?_)
 iterate 2 refine cK rfl rfl rfl rfl rfl ?_
 exact iG rfl rfl rfl rfl rfl (aS (bK rfl rfl (am (be rfl (aj (aG (fu rfl rfl)))))))
theorem yJ:Spec Tryz.prog 106 (ba [.v (.int .i64 15)] []) (aO (.v (.int .i64 0)) []):=by
 refine Spec.ofN Tryz.func106 rfl Tryz.ntmps106 rfl ?_
 refine am (be rfl (aj (aq (am (aX rfl (aj (ay (aq ?_))))))))
 iterate 3 refine cK rfl rfl rfl rfl rfl ?_
 exact iG rfl rfl rfl rfl rfl (aS (bK rfl rfl (am (be rfl (aj (aG (fu rfl rfl)))))))
theorem Aj:Spec Tryz.prog 106 (ba [.v (.int .i64 16)] []) (aO (.v (.int .i64 1)) []):=by
 refine Spec.ofN Tryz.func106 rfl Tryz.ntmps106 rfl ?_
 refine am (be rfl (aj (aq (am (aX rfl (aj (ay (aq ?_))))))))
 iterate 7 refine cK rfl rfl rfl rfl rfl ?_
 refine aM (σ':=aD 31 [(3,_)] [] [] []) kp ?_
 refine eb rfl rfl rfl rfl rfl (aq ?_)
 iterate 4 refine cK rfl rfl rfl rfl rfl ?_
 exact iG rfl rfl rfl rfl rfl (aS (bK rfl rfl (am (be rfl (aj (aG (fu rfl rfl)))))))
theorem yP:Spec Tryz.prog 106 (ba [.v (.int .i64 17)] []) (aO (.v (.int .i64 3)) []):=by
 refine Spec.ofN Tryz.func106 rfl Tryz.ntmps106 rfl ?_
 refine am (be rfl (aj (aq (am (aX rfl (aj (ay (aq ?_))))))))
 iterate 7 refine cK rfl rfl rfl rfl rfl ?_
 refine aM (σ':=aD 31 [(3,_)] [] [] []) kp ?_
 refine eb rfl rfl rfl rfl rfl (aq ?_)
 iterate 5 refine cK rfl rfl rfl rfl rfl ?_
 refine eb rfl rfl rfl rfl rfl (aq (cK rfl rfl rfl rfl rfl (aq ?_)))
 refine aM (σ':=aD 31 [(3,_)] [] [] []) kp ?_
 refine eb rfl rfl rfl rfl rfl ?_
 iterate 5 refine cK rfl rfl rfl rfl rfl ?_
 refine eb rfl rfl rfl rfl rfl (iG rfl rfl rfl rfl rfl (aq ?_))
 refine aM (σ':=aD 31 [] [] [] []) kp ?_
 exact an (be rfl (aj (aG (fu rfl rfl))))
theorem wp:Spec Tryz.prog 106 (ba [.v (.int .i64 18)] []) (aO (.v (.int .i64 0)) []):=by
 refine Spec.ofN Tryz.func106 rfl Tryz.ntmps106 rfl ?_
 refine am (be rfl (aj (aq (am (aX rfl (aj (ay (aq ?_))))))))
 iterate 4 refine cK rfl rfl rfl rfl rfl ?_
 exact iG rfl rfl rfl rfl rfl (aS (bK rfl rfl (am (be rfl (aj (aG (fu rfl rfl)))))))
theorem vi:Spec Tryz.prog 106 (ba [.v (.int .i64 19)] []) (aO (.v (.int .i64 0)) []):=by
 refine Spec.ofN Tryz.func106 rfl Tryz.ntmps106 rfl ?_
 refine am (be rfl (aj (aq (am (aX rfl (aj (ay (aq ?_))))))))
 iterate 5 refine cK rfl rfl rfl rfl rfl ?_
 exact iG rfl rfl rfl rfl rfl (aS (bK rfl rfl (am (be rfl (aj (aG (fu rfl rfl)))))))
theorem yZ:Spec Tryz.prog 106 (ba [.v (.int .i64 20)] []) (aO (.v (.int .i64 0)) []):=by
 refine Spec.ofN Tryz.func106 rfl Tryz.ntmps106 rfl ?_
 refine am (be rfl (aj (aq (am (aX rfl (aj (ay (aq ?_))))))))
 iterate 6 refine cK rfl rfl rfl rfl rfl ?_
 refine iG rfl rfl rfl rfl rfl (aS (bK rfl rfl (aq ?_)))
 refine aM (σ':=aD 31 [] [] [] []) kp ?_
 exact an (be rfl (aj (aG (fu rfl rfl))))
theorem wh:Spec Tryz.prog 106 (ba [.v (.int .i64 21)] []) (aO (.v (.int .i64 2)) []):=by
 refine Spec.ofN Tryz.func106 rfl Tryz.ntmps106 rfl ?_
 refine am (be rfl (aj (aq (am (aX rfl (aj (ay (aq ?_))))))))
 iterate 7 refine cK rfl rfl rfl rfl rfl ?_
 refine aM (σ':=aD 31 [(3,_)] [] [] []) kp ?_
 refine eb rfl rfl rfl rfl rfl (aq ?_)
 iterate 5 refine cK rfl rfl rfl rfl rfl ?_
 refine eb rfl rfl rfl rfl rfl (aq (cK rfl rfl rfl rfl rfl (aq ?_)))
 refine aM (σ':=aD 31 [(3,_)] [] [] []) kp ?_
 refine eb rfl rfl rfl rfl rfl ?_
 iterate 5 refine cK rfl rfl rfl rfl rfl ?_
 exact zC rfl rfl rfl rfl rfl (am (be rfl (aj (aG (fu rfl rfl)))))
theorem zu:Spec Tryz.prog 106 (ba [.v (.int .i64 22)] []) (aO (.v (.int .i64 1)) []):=by
 refine Spec.ofN Tryz.func106 rfl Tryz.ntmps106 rfl ?_
 refine am (be rfl (aj (aq (am (aX rfl (aj (ay (aq ?_))))))))
 iterate 7 refine cK rfl rfl rfl rfl rfl ?_
 refine aM (σ':=aD 31 [(3,_)] [] [] []) kp ?_
 refine eb rfl rfl rfl rfl rfl (aq ?_)
 iterate 5 refine cK rfl rfl rfl rfl rfl ?_
 exact zC rfl rfl rfl rfl rfl (am (be rfl (aj (aG (fu rfl rfl)))))
theorem zw:Spec Tryz.prog 106 (ba [.v (.int .i64 23)] []) (aO (.v (.int .i64 0)) []):=by
 refine Spec.ofN Tryz.func106 rfl Tryz.ntmps106 rfl ?_
 refine am (be rfl (aj (aq (am (aX rfl (aj (ay (aq ?_))))))))
 iterate 7 refine cK rfl rfl rfl rfl rfl ?_
 refine aM (σ':=aD 31 [(3,_)] [] [] []) kp ?_
 exact zC rfl rfl rfl rfl rfl (am (be rfl (aj (aG (fu rfl rfl)))))
theorem rE (o:Opc):Spec Tryz.prog 106 (ba [.v (.int .i64 (o.num:Int))] []) (aO (.v (.int .i64 (o.pops:Int))) []):=by
 cases o
 ·exact yp
 ·exact Af
 ·exact tY
 ·exact yx
 ·exact zr
 ·exact Ca
 ·exact Ai
 ·exact Cp
 ·exact AL
 ·exact Dg
 ·exact EJ
 ·exact Gj
 ·exact Fm
 ·exact Dy
 ·exact yJ
 ·exact Aj
 ·exact yP
 ·exact wp
 ·exact vi
 ·exact yZ
 ·exact wh
 ·exact zu
 exact zw
theorem yT:Spec Tryz.prog 107 (ba [.v (.int .i64 1)] []) (aO (.v (.int .i64 1)) []):=by
 refine Spec.ofN Tryz.func107 rfl Tryz.ntmps107 rfl ?_
 refine am (be rfl (aj (aq (am (aX rfl (aj (ay (aq (iG rfl rfl rfl rfl rfl (aS ?_))))))))))
 exact bK rfl rfl (am (be rfl (aj (aG (fu rfl rfl)))))
theorem CS:Spec Tryz.prog 107 (ba [.v (.int .i64 2)] []) (aO (.v (.int .i64 1)) []):=by
 refine Spec.ofN Tryz.func107 rfl Tryz.ntmps107 rfl ?_
 refine am (be rfl (aj (aq (am (aX rfl (aj (ay (aq (cK rfl rfl rfl rfl rfl (iG rfl rfl rfl rfl rfl ?_))))))))))
 exact aS (bK rfl rfl (am (be rfl (aj (aG (fu rfl rfl))))))
theorem uP:Spec Tryz.prog 107 (ba [.v (.int .i64 3)] []) (aO (.v (.int .i64 0)) []):=by
 refine Spec.ofN Tryz.func107 rfl Tryz.ntmps107 rfl ?_
 refine am (be rfl (aj (aq (am (aX rfl (aj (ay (aq ?_))))))))
 iterate 7 refine cK rfl rfl rfl rfl rfl ?_
 refine aq ?_
 refine aM (σ':=aD 18 [(3,_)] [] [] []) kp ?_
 refine eb rfl rfl rfl rfl rfl ?_
 iterate 4 refine cK rfl rfl rfl rfl rfl ?_
 exact eb rfl rfl rfl rfl rfl (cq (am (be rfl (aj (aG (fu rfl rfl))))))
theorem xU:Spec Tryz.prog 107 (ba [.v (.int .i64 4)] []) (aO (.v (.int .i64 1)) []):=by
 refine Spec.ofN Tryz.func107 rfl Tryz.ntmps107 rfl ?_
 refine am (be rfl (aj (aq (am (aX rfl (aj (ay (aq ?_))))))))
 iterate 2 refine cK rfl rfl rfl rfl rfl ?_
 exact iG rfl rfl rfl rfl rfl (aS (bK rfl rfl (am (be rfl (aj (aG (fu rfl rfl)))))))
theorem yE:Spec Tryz.prog 107 (ba [.v (.int .i64 5)] []) (aO (.v (.int .i64 1)) []):=by
 refine Spec.ofN Tryz.func107 rfl Tryz.ntmps107 rfl ?_
 refine am (be rfl (aj (aq (am (aX rfl (aj (ay (aq ?_))))))))
 iterate 3 refine cK rfl rfl rfl rfl rfl ?_
 exact iG rfl rfl rfl rfl rfl (aS (bK rfl rfl (am (be rfl (aj (aG (fu rfl rfl)))))))
theorem BX:Spec Tryz.prog 107 (ba [.v (.int .i64 6)] []) (aO (.v (.int .i64 1)) []):=by
 refine Spec.ofN Tryz.func107 rfl Tryz.ntmps107 rfl ?_
 refine am (be rfl (aj (aq (am (aX rfl (aj (ay (aq ?_))))))))
 iterate 6 refine cK rfl rfl rfl rfl rfl ?_
 refine iG rfl rfl rfl rfl rfl (aS (bK rfl rfl (aq ?_)))
 refine aM (σ':=aD 18 [] [] [] []) kp ?_
 exact an (be rfl (aj (aG (fu rfl rfl))))
theorem Ch:Spec Tryz.prog 107 (ba [.v (.int .i64 7)] []) (aO (.v (.int .i64 1)) []):=by
 refine Spec.ofN Tryz.func107 rfl Tryz.ntmps107 rfl ?_
 refine am (be rfl (aj (aq (am (aX rfl (aj (ay (aq ?_))))))))
 iterate 7 refine cK rfl rfl rfl rfl rfl ?_
 refine aq ?_
 refine aM (σ':=aD 18 [(3,_)] [] [] []) kp ?_
 exact zC rfl rfl rfl rfl rfl (aS (bK rfl rfl (am (be rfl (aj (aG (fu rfl rfl)))))))
theorem Db:Spec Tryz.prog 107 (ba [.v (.int .i64 8)] []) (aO (.v (.int .i64 1)) []):=by
 refine Spec.ofN Tryz.func107 rfl Tryz.ntmps107 rfl ?_
 refine am (be rfl (aj (aq (am (aX rfl (aj (ay (aq ?_))))))))
 iterate 7 refine cK rfl rfl rfl rfl rfl ?_
 refine aq ?_
 refine aM (σ':=aD 18 [(3,_)] [] [] []) kp ?_
 exact eb rfl rfl rfl rfl rfl (iG rfl rfl rfl rfl rfl (aS (bK rfl rfl (am (be rfl (aj (aG (fu rfl rfl))))))))
theorem CZ:Spec Tryz.prog 107 (ba [.v (.int .i64 9)] []) (aO (.v (.int .i64 1)) []):=by
 refine Spec.ofN Tryz.func107 rfl Tryz.ntmps107 rfl ?_
 refine am (be rfl (aj (aq (am (aX rfl (aj (ay (aq ?_))))))))
 iterate 7 refine cK rfl rfl rfl rfl rfl ?_
 refine aq ?_
 refine aM (σ':=aD 18 [(3,_)] [] [] []) kp ?_
 exact eb rfl rfl rfl rfl rfl (cK rfl rfl rfl rfl rfl (iG rfl rfl rfl rfl rfl (aS (bK rfl rfl (am (be rfl (aj (aG (fu rfl rfl)))))))))
theorem Dj:Spec Tryz.prog 107 (ba [.v (.int .i64 10)] []) (aO (.v (.int .i64 1)) []):=by
 refine Spec.ofN Tryz.func107 rfl Tryz.ntmps107 rfl ?_
 refine am (be rfl (aj (aq (am (aX rfl (aj (ay (aq ?_))))))))
 iterate 4 refine cK rfl rfl rfl rfl rfl ?_
 exact iG rfl rfl rfl rfl rfl (aS (bK rfl rfl (am (be rfl (aj (aG (fu rfl rfl)))))))
theorem FL:Spec Tryz.prog 107 (ba [.v (.int .i64 11)] []) (aO (.v (.int .i64 1)) []):=by
 refine Spec.ofN Tryz.func107 rfl Tryz.ntmps107 rfl ?_
 refine am (be rfl (aj (aq (am (aX rfl (aj (ay (aq ?_))))))))
 iterate 7 refine cK rfl rfl rfl rfl rfl ?_
 refine aq ?_
 refine aM (σ':=aD 18 [(3,_)] [] [] []) kp ?_
 refine eb rfl rfl rfl rfl rfl ?_
 iterate 2 refine cK rfl rfl rfl rfl rfl ?_
 exact iG rfl rfl rfl rfl rfl (aS (bK rfl rfl (am (be rfl (aj (aG (fu rfl rfl)))))))
theorem Ew:Spec Tryz.prog 107 (ba [.v (.int .i64 12)] []) (aO (.v (.int .i64 1)) []):=by
 refine Spec.ofN Tryz.func107 rfl Tryz.ntmps107 rfl ?_
 refine am (be rfl (aj (aq (am (aX rfl (aj (ay (aq ?_))))))))
 iterate 7 refine cK rfl rfl rfl rfl rfl ?_
 refine aq ?_
 refine aM (σ':=aD 18 [(3,_)] [] [] []) kp ?_
 refine eb rfl rfl rfl rfl rfl ?_
 iterate 3 refine cK rfl rfl rfl rfl rfl ?_
 exact iG rfl rfl rfl rfl rfl (aS (bK rfl rfl (am (be rfl (aj (aG (fu rfl rfl)))))))
theorem Fl:Spec Tryz.prog 107 (ba [.v (.int .i64 13)] []) (aO (.v (.int .i64 1)) []):=by
 refine Spec.ofN Tryz.func107 rfl Tryz.ntmps107 rfl ?_
 refine am (be rfl (aj (aq (am (aX rfl (aj (ay (aq ?_))))))))
 iterate 7 refine cK rfl rfl rfl rfl rfl ?_
 refine aq ?_
 refine aM (σ':=aD 18 [(3,_)] [] [] []) kp ?_
 refine eb rfl rfl rfl rfl rfl ?_
 iterate 4 refine cK rfl rfl rfl rfl rfl ?_
 exact zC rfl rfl rfl rfl rfl (am (be rfl (aj (aG (fu rfl rfl)))))
theorem zQ:Spec Tryz.prog 107 (ba [.v (.int .i64 14)] []) (aO (.v (.int .i64 1)) []):=by
 refine Spec.ofN Tryz.func107 rfl Tryz.ntmps107 rfl ?_
 refine am (be rfl (aj (aq (am (aX rfl (aj (ay (aq ?_))))))))
 iterate 5 refine cK rfl rfl rfl rfl rfl ?_
 exact iG rfl rfl rfl rfl rfl (aS (bK rfl rfl (am (be rfl (aj (aG (fu rfl rfl)))))))
theorem yO:Spec Tryz.prog 107 (ba [.v (.int .i64 15)] []) (aO (.v (.int .i64 0)) []):=by
 refine Spec.ofN Tryz.func107 rfl Tryz.ntmps107 rfl ?_
 refine am (be rfl (aj (aq (am (aX rfl (aj (ay (aq ?_))))))))
 iterate 7 refine cK rfl rfl rfl rfl rfl ?_
 refine aq ?_
 refine aM (σ':=aD 18 [(3,_)] [] [] []) kp ?_
 refine eb rfl rfl rfl rfl rfl ?_
 iterate 4 refine cK rfl rfl rfl rfl rfl ?_
 exact eb rfl rfl rfl rfl rfl (cq (am (be rfl (aj (aG (fu rfl rfl))))))
theorem CC:Spec Tryz.prog 107 (ba [.v (.int .i64 16)] []) (aO (.v (.int .i64 0)) []):=by
 refine Spec.ofN Tryz.func107 rfl Tryz.ntmps107 rfl ?_
 refine am (be rfl (aj (aq (am (aX rfl (aj (ay (aq ?_))))))))
 iterate 7 refine cK rfl rfl rfl rfl rfl ?_
 refine aq ?_
 refine aM (σ':=aD 18 [(3,_)] [] [] []) kp ?_
 refine eb rfl rfl rfl rfl rfl ?_
 iterate 4 refine cK rfl rfl rfl rfl rfl ?_
 exact eb rfl rfl rfl rfl rfl (cq (am (be rfl (aj (aG (fu rfl rfl))))))
theorem yG:Spec Tryz.prog 107 (ba [.v (.int .i64 17)] []) (aO (.v (.int .i64 0)) []):=by
 refine Spec.ofN Tryz.func107 rfl Tryz.ntmps107 rfl ?_
 refine am (be rfl (aj (aq (am (aX rfl (aj (ay (aq ?_))))))))
 iterate 7 refine cK rfl rfl rfl rfl rfl ?_
 refine aq ?_
 refine aM (σ':=aD 18 [(3,_)] [] [] []) kp ?_
 refine eb rfl rfl rfl rfl rfl ?_
 iterate 4 refine cK rfl rfl rfl rfl rfl ?_
 exact eb rfl rfl rfl rfl rfl (cq (am (be rfl (aj (aG (fu rfl rfl))))))
theorem vJ:Spec Tryz.prog 107 (ba [.v (.int .i64 18)] []) (aO (.v (.int .i64 0)) []):=by
 refine Spec.ofN Tryz.func107 rfl Tryz.ntmps107 rfl ?_
 refine am (be rfl (aj (aq (am (aX rfl (aj (ay (aq ?_))))))))
 iterate 7 refine cK rfl rfl rfl rfl rfl ?_
 refine aq ?_
 refine aM (σ':=aD 18 [(3,_)] [] [] []) kp ?_
 refine eb rfl rfl rfl rfl rfl ?_
 iterate 4 refine cK rfl rfl rfl rfl rfl ?_
 exact eb rfl rfl rfl rfl rfl (cq (am (be rfl (aj (aG (fu rfl rfl))))))
theorem vh:Spec Tryz.prog 107 (ba [.v (.int .i64 19)] []) (aO (.v (.int .i64 0)) []):=by
 refine Spec.ofN Tryz.func107 rfl Tryz.ntmps107 rfl ?_
 refine am (be rfl (aj (aq (am (aX rfl (aj (ay (aq ?_))))))))
 iterate 7 refine cK rfl rfl rfl rfl rfl ?_
 refine aq ?_
 refine aM (σ':=aD 18 [(3,_)] [] [] []) kp ?_
 refine eb rfl rfl rfl rfl rfl ?_
 iterate 4 refine cK rfl rfl rfl rfl rfl ?_
 exact eb rfl rfl rfl rfl rfl (cq (am (be rfl (aj (aG (fu rfl rfl))))))
theorem yc:Spec Tryz.prog 107 (ba [.v (.int .i64 20)] []) (aO (.v (.int .i64 0)) []):=by
 refine Spec.ofN Tryz.func107 rfl Tryz.ntmps107 rfl ?_
 refine am (be rfl (aj (aq (am (aX rfl (aj (ay (aq ?_))))))))
 iterate 7 refine cK rfl rfl rfl rfl rfl ?_
 refine aq ?_
 refine aM (σ':=aD 18 [(3,_)] [] [] []) kp ?_
 refine eb rfl rfl rfl rfl rfl ?_
 iterate 4 refine cK rfl rfl rfl rfl rfl ?_
 exact eb rfl rfl rfl rfl rfl (cq (am (be rfl (aj (aG (fu rfl rfl))))))
theorem wd:Spec Tryz.prog 107 (ba [.v (.int .i64 21)] []) (aO (.v (.int .i64 0)) []):=by
 refine Spec.ofN Tryz.func107 rfl Tryz.ntmps107 rfl ?_
 refine am (be rfl (aj (aq (am (aX rfl (aj (ay (aq ?_))))))))
 iterate 7 refine cK rfl rfl rfl rfl rfl ?_
 refine aq ?_
 refine aM (σ':=aD 18 [(3,_)] [] [] []) kp ?_
 refine eb rfl rfl rfl rfl rfl ?_
 iterate 4 refine cK rfl rfl rfl rfl rfl ?_
 exact eb rfl rfl rfl rfl rfl (cq (am (be rfl (aj (aG (fu rfl rfl))))))
theorem ze:Spec Tryz.prog 107 (ba [.v (.int .i64 22)] []) (aO (.v (.int .i64 0)) []):=by
 refine Spec.ofN Tryz.func107 rfl Tryz.ntmps107 rfl ?_
 refine am (be rfl (aj (aq (am (aX rfl (aj (ay (aq ?_))))))))
 iterate 7 refine cK rfl rfl rfl rfl rfl ?_
 refine aq ?_
 refine aM (σ':=aD 18 [(3,_)] [] [] []) kp ?_
 refine eb rfl rfl rfl rfl rfl ?_
 iterate 4 refine cK rfl rfl rfl rfl rfl ?_
 exact eb rfl rfl rfl rfl rfl (cq (am (be rfl (aj (aG (fu rfl rfl))))))
theorem xQ:Spec Tryz.prog 107 (ba [.v (.int .i64 23)] []) (aO (.v (.int .i64 0)) []):=by
 refine Spec.ofN Tryz.func107 rfl Tryz.ntmps107 rfl ?_
 refine am (be rfl (aj (aq (am (aX rfl (aj (ay (aq ?_))))))))
 iterate 7 refine cK rfl rfl rfl rfl rfl ?_
 refine aq ?_
 refine aM (σ':=aD 18 [(3,_)] [] [] []) kp ?_
 refine eb rfl rfl rfl rfl rfl ?_
 iterate 4 refine cK rfl rfl rfl rfl rfl ?_
 exact eb rfl rfl rfl rfl rfl (cq (am (be rfl (aj (aG (fu rfl rfl))))))
theorem rM (o:Opc):Spec Tryz.prog 107 (ba [.v (.int .i64 (o.num:Int))] []) (aO (.v (.int .i64 (o.puts:Int))) []):=by
 cases o
 ·exact yT
 ·exact CS
 ·exact uP
 ·exact xU
 ·exact yE
 ·exact BX
 ·exact Ch
 ·exact Db
 ·exact CZ
 ·exact Dj
 ·exact FL
 ·exact Ew
 ·exact Fl
 ·exact zQ
 ·exact yO
 ·exact CC
 ·exact yG
 ·exact vJ
 ·exact vh
 ·exact yc
 ·exact wd
 ·exact ze
 exact xQ
theorem opn_stop {o:Opc}:(o.num:Int)=23↔o= .stop:=by cases o <;> simp [Opc.num]
theorem opn_jump {o:Opc}:(o.num:Int)=15↔o= .jump:=by cases o <;> simp [Opc.num]
theorem opn_unl {o:Opc}:(o.num:Int)=16↔o= .unl:=by cases o <;> simp [Opc.num]
theorem yS (C:List eV) (e:Nat→Int) (dd vv:Int) (i:Nat) (hC:C.length≤1000000) (hi:i < C.length) (hn:(cY C i).op= .jump∨(cY C i).op= .unl→0≤(cY C i).n):
  Spec Tryz.prog 73 (ba [.agg (Et C.length (inl C) e dd vv), .v (.int .i64 (i:Int))] []) (aO (.sl (dU i (cY C i)).length (GB (dU i (cY C i)))) []):=by
 obtain ⟨x,hx⟩: ∃ x,x=cY C i:=⟨_,rfl⟩
 have hg0:=nc C i hi
 have hg1:=zY C i hi
 rw [← hx] at hn hg0 hg1 ⊢
 clear hx
 obtain ⟨o,n⟩:=x
 simp only at hn hg0 hg1
 refine Spec.ofN Tryz.func73 rfl Tryz.ntmps73 rfl ?_
 refine am (ai (aQ (2,0) _ rfl rfl) (ai (bp _ fy) (aj (aq (am (bb rfl rfl rfl (eZ rfl rfl rfl (aX rfl (ai (bo _ _ aa rfl rfl _ rfl ab (by (simp only [aN,bh,bk,bv,bu,bH,bw,bM,eE];omega)) ag) ?_)))))))))
 refine ai (du _ aa rfl rfl) (ai (bU _ aa rfl (by exact hg0) rfl) ?_)
 refine aj (ay (am (ai (bC _ _ rfl rfl rfl) (cr rfl (aj (aR rfl (fun hc11=> ?_) (fun hc11=> ?_)))))))
 ·skip
  obtain rfl:=opn_stop.1 hc11
  exact am (ai (bp _ fy) (aj (aG (bG (.inr rfl) rfl (.tmp kQ) (Le.out [] [] .nil rfl rfl rfl trivial trivial)))))
 refine am (ai (bC _ _ rfl rfl rfl) (cr rfl (aj (aR rfl (fun hc13=> ?_) (fun hc13=> ?_)))))
 ·skip
  obtain rfl:=opn_jump.1 hc13
  have hn:=hn (.inl rfl)
  refine am (bb rfl rfl rfl (eZ rfl rfl rfl (aX rfl (ai (bo _ _ aa rfl rfl _ rfl ab (by (simp only [aN,bh,bk,bv,bu,bH,bw,bM,eE];omega)) ag) ?_))))
  refine ai (du _ aa rfl rfl) (ai (bU _ aa rfl (by exact hg1) rfl) ?_)
  refine ai (bg _ _ aa rfl ag (by (simp <;> rfl)) ah rfl) ?_
  exact kE rfl (aj (aG (bG (.inr rfl) rfl (.tmp nh) (Le.out [] [] (iY rfl (by simp [GB,dU,Int.toNat_of_nonneg hn])) rfl rfl rfl trivial trivial))))
 refine am (ai (bC _ _ rfl rfl rfl) (cr rfl (aj (aR rfl (fun hc22=> ?_) (fun hc22=> ?_)))))
 ·skip
  obtain rfl:=opn_unl.1 hc22
  have hn:=hn (.inr rfl)
  refine am (aX rfl (ai (aZ _ _ rfl rfl (bE ab)) ?_))
  refine bb rfl rfl rfl (eZ rfl rfl rfl (aX rfl (ai (bo _ _ aa rfl rfl _ rfl ab (by (simp only [aN,bh,bk,bv,bu,bH,bw,bM,eE];omega)) ag) ?_)))
  refine ai (du _ aa rfl rfl) (ai (bU _ aa rfl (by exact hg1) rfl) ?_)
  refine ai (bg _ _ aa rfl ag (by (simp <;> rfl)) ah rfl) ?_
  exact kE rfl (aj (aG (bG (.inr rfl) rfl (.tmp nh) (Le.out [] [] (iY rfl (by simp [GB,dU,Int.toNat_of_nonneg hn])) rfl rfl rfl trivial trivial))))
 have hs:dU i ⟨o,n⟩=[i+1]:=by
  unfold dU
  have h1:o≠ .stop:=fun e=> hc11 (opn_stop.2 e)
  have h2:o≠ .jump:=fun e=> hc13 (opn_jump.2 e)
  have h3:o≠ .unl:=fun e=> hc22 (opn_unl.2 e)
  cases o <;> first | rfl | exact absurd rfl h1 | exact absurd rfl h2 | exact absurd rfl h3
 refine cq (am (aX rfl (ai (aZ _ _ rfl rfl (bE ab)) ?_)))
 refine ai (bg _ _ aa rfl ag (by (simp <;> rfl)) ah rfl) ?_
 refine kE rfl (aj (aG ?_))
 rw [hs]
 exact bG (.inr rfl) rfl (.tmp nh) (Le.out [] [] (iY rfl (by simp [GB])) rfl rfl rfl trivial trivial)
instance QI:Arr Tryz.prog 24 40 1:=Arr.of Tryz.underlying24 ae
instance QP:Arr Tryz.prog 30 9 1:=Arr.of Tryz.underlying30 ae
instance QU:Arr Tryz.prog 81 41 1:=Arr.of Tryz.underlying81 ae
instance NC:Arr Tryz.prog 173 24 1:=Arr.of Tryz.underlying173 ae

theorem im {l:List Int} {i:Nat} (h:i < l.length):l.getD i (-1)=l.getD i 0:=by
 rw [List.getD_eq_getElem?_getD,List.getD_eq_getElem?_getD,List.getElem?_eq_getElem h];rfl
theorem wB {n:Nat} {d:Int} {s:DS} {l:List Nat} {k:Nat} (h:k < l.length):(l.take (k+1)).foldl (jD n d) s=jD n d ((l.take k).foldl (jD n d) s) (l.getD k 0):=by
 rw [List.take_succ_eq_append_getElem h,List.foldl_append,List.getD_eq_getElem?_getD,List.getElem?_eq_getElem h];rfl
theorem Ed (n k:Nat) (h:k < n):((List.replicate k (-1:Int))++List.replicate (n - k) 0).set k (-1)=List.replicate (k+1) (-1)++List.replicate (n - (k+1)) 0:=by
 rw [List.set_append_right _ _ (by simp),List.length_replicate,Nat.sub_self,show n - k=(n - (k+1))+1 by omega,List.replicate_succ,List.set_cons_zero,show List.replicate (k+1) (-1:Int)=List.replicate k (-1)++[-1] from List.replicate_succ']
 simp
theorem Al {ρ:aB→aB} {σ:St} {F:aB→Bool} {id:aB} {e:TypeId} {sz n m:Nat} {xs ys:List PV} (hid:σ.ob id= .obj (.row e sz xs)) (hF:F id=true) (hl:n*sz=xs.length) (hy:xs=ys) (hn:n=m):Lv ρ σ F (.sl m ys) (.ref id 0 n):=by
 subst hn;exact fg hid hF hl hy
theorem DI.flag {D:Nat→Nat} {n:Nat} {s:DS} {b:Bool} (h:DI D n s):DI D n (s.1,s.2.1,b):=⟨h.len,h.val,h.ok⟩
def yV (C:List eV) (R:List Int×Bool) (z:(List Int×Bool)×Bool):Prop:=if z.2=true then ∃ f,neg z.1.1+1≤f∧jM C f z.1=R else z.1=R
theorem xS {C:List eV} {R:List Int×Bool} {s:List Int×Bool} {f:Nat} (hf:neg s.1+1≤f) (hR:jM C f s=R) (hd:(dC C s C.length).2.2=true→neg (dC C s C.length).1 < neg s.1):
  yV C R (((dC C s C.length).1,(dC C s C.length).2.1),(dC C s C.length).2.2):=by
 obtain ⟨g,rfl⟩: ∃ g,f=g+1:=⟨f - 1,by omega⟩
 unfold yV
 cases hb:(dC C s C.length).2.2 with
 | true=>
  have:=hd hb
  rw [if_pos rfl]
  exact ⟨g,by simp only;omega,by rw [← hR,wz hb]⟩
 | false=> rw [if_neg (by simp)];rw [← hR,wo hb]
def KC (z:(List Int×Bool)×Bool):Nat:=if z.2=true then neg z.1.1+1 else 0
theorem Hn {C:List eV} {s:List Int×Bool} (hd:(dC C s C.length).2.2=true→neg (dC C s C.length).1 < neg s.1):KC (((dC C s C.length).1,(dC C s C.length).2.1),(dC C s C.length).2.2) < neg s.1+1:=by
 unfold KC
 simp only
 split
 ·rename_i h;have:=hd h;omega
 omega
theorem yb {C:List eV} {s:DS} {i:Nat} (h:s.1.getD i (-1) < 0):lA C s i=s:=by unfold lA;rw [if_pos h]
theorem CO {C:List eV} {s:DS} {i:Nat} (h: ¬ s.1.getD i (-1) < 0) (h2: ¬ s.1.getD i (-1) - (cY C i).op.pops < 0):lA C s i=(dU i (cY C i)).foldl (jD C.length (s.1.getD i (-1) - (cY C i).op.pops+(cY C i).op.puts)) s:=by
 unfold lA Ey
 rw [if_neg h,if_neg h2,show max (s.1.getD i (-1) - (cY C i).op.pops) 0=s.1.getD i (-1) - (cY C i).op.pops by omega]
theorem uQ (C:List eV) (en:Nat→Int) (dd vv:Int) (e:Int) (hC:C.length≤1000000) (D:Nat→Nat) (nv:Nat) (hg:Good D nv 0 (C.length - 1) 0 C) (hD: ∀ i,D i≤1000000) (he:0≤e→e < C.length→D e.toNat=0):
  Spec Tryz.prog 72 (ba [.agg (Et C.length (inl C) en dd vv), .v (.int .i64 e)] []) (aO (.tup [.sl (jq C e).1.length (cp (jq C e).1), .v (.bool (jq C e).2)]) []):=by
 refine Spec.ofN Tryz.func72 rfl Tryz.ntmps72 rfl ?_
 refine am (ai (aQ (2,0) _ rfl rfl) (ai (bp _ fy) (cr rfl (aj (am (bb rfl rfl rfl (eZ rfl rfl rfl (ai (bn _ aa rfl) (ai (qN (17,0) _ _ aa rfl rfl C.length rfl rfl ab rfl (oW C.length)) ?_)))))))))
 refine fh rfl (aj (aU fun K3 hK3=> ?_))
 refine am (be rfl (aj (ay ?_)))
 refine bq (α:=Nat) (fun k=> k≤C.length) 123 [(1,_),(2,_)] [((2,0),_)] (fun k=> [(7, .v (.int .i64 (k:Int))),(6, .ref (6,0) 0 C.length)]) (fun k=> [((6,0), .row 3 1 (cp (List.replicate k (-1)++List.replicate (C.length - k) 0)))]) [] [] (fun k=> C.length - k) 0 ?_ (by
  refine Le.mkJ [((6,0),(17,0))] [] rfl ?_ ?_ trivial trivial ?_
  ·exact ⟨(by repeat' (exact Lv.v)),(dz (id:=(2,0)) rfl),(cm ag),(cI rfl ag),trivial⟩
  ·exact ⟨(fi rfl rfl rfl rfl (by repeat' (first | exact Lv.v | exact Lv.sl | exact bf | refine au ?_ ?_))),(eX rfl rfl rfl ag),trivial⟩
  kernel_rfl) ?_
 ·omega
 intro k hk
 have hll:(List.replicate k (-1:Int)++List.replicate (C.length - k) 0).length=C.length:=by simp;omega
 refine aU fun K5 hK5=> ?_
 refine am (aX rfl (gw rfl (ai (dh _ aa rfl rfl) (ai (bl _ _ rfl rfl rfl) (aj (aR rfl (fun hc21=> ?_) (fun hc21=> ?_)))))))
 ·skip
  have hrs:=Ed C.length k ab
  refine bs (hK5 _ ?_)
  clear hK5;try clear K5
  refine aq (ay (an (gw rfl (aX rfl (ai (fZ _ _ aa rfl rfl rfl _ rfl ab (by exact (Nat.zero_add _).trans (Nat.mul_one _))) ?_)))))
  refine ai (oE _ _ aa rfl rfl rfl rfl rfl (by simp;omega) ((mc _ _ _ ab).trans (congrArg cp hrs))) ?_
  refine eg (an (aX rfl (ai (aZ _ _ rfl rfl (bE ab)) ?_)))
  refine be rfl (aJ (⟨k+1,?_,?_,?_⟩))
  ·omega
  ·skip
   refine Le.mkJ [] [] rfl ?_ ?_ trivial trivial ?_
   ·exact ⟨(iV rfl),(iP rfl),(cm ag),(cI rfl ag),trivial⟩
   ·exact ⟨(ci rfl rfl rfl),(eX rfl rfl rfl ag),trivial⟩
   kernel_rfl
  omega
 obtain rfl:k=C.length:=by omega
 have hrep:List.replicate C.length (-1:Int)++List.replicate (C.length - C.length) 0=List.replicate C.length (-1):=by simp
 refine bA (id (hK3 _ ?_))
 clear hK3;try clear K3
 refine aq (am (aX rfl (ai (bl _ _ rfl rfl rfl) (cL rfl (dw (fun hg29=> ?_) (fun hg29=> ?_))))))
 ·skip
  have hdf:jq C e=(List.replicate C.length (-1),true):=if_pos (.inl ab)
  refine aP rfl rfl ah ?_
  refine aP rfl rfl ah ?_
  refine aP rfl rfl ah ?_
  refine aP rfl rfl ah ?_
  refine ai (aE _ _ _ rfl bR) (aj (bK rfl rfl (am (gw rfl (fh rfl (cr rfl (aj (aG ?_))))))))
  rw [hdf]
  exact jR (.inr rfl) rfl (.tmp dR) (.tmp bR) (Le.out [] [(6,0)] (.tup rfl (au (Al rfl rfl (by simp) (congrArg cp hrep) (by simp)) lz)) rfl rfl rfl tr trivial)
 refine ax rfl rfl (aI _ em) (ax rfl rfl (aI _ dR) (ax rfl rfl (dh _ aa rfl rfl) (ax rfl rfl (fv _ _ rfl rfl rfl) (ai (aE _ _ _ rfl bR) (aj (aR rfl (fun hc34=> ?_) (fun hc34=> ?_)))))))
 ·skip
  have hdf:jq C e=(List.replicate C.length (-1),true):=if_pos (.inr ab)
  refine am (gw rfl (fh rfl (cr rfl (aj (aG ?_)))))
  rw [hdf]
  exact jR (.inr rfl) rfl (.tmp dR) (.tmp bR) (Le.out [] [(6,0)] (.tup rfl (au (Al rfl rfl (by simp) (congrArg cp hrep) (by simp)) lz)) rfl rfl rfl tr trivial)
 have hdf:jq C e=jM C (C.length+1) ((List.replicate C.length (-1)).set e.toNat 0,true):=if_neg ab
 have hdi0:DI D C.length ((List.replicate C.length (-1)).set e.toNat 0,true,false):=by
  have hr: ∀ i,(List.replicate C.length (-1:Int)).getD i (-1)= -1:=fun i=> by rw [List.getD_eq_getElem?_getD,List.getElem?_replicate];split <;> rfl
  refine ⟨by simp,fun i hi=> ?_,rfl⟩
  simp only
  rw [kz]
  split
  ·rename_i h;right;rw [h.1,he ab ab];rfl
  exact .inl (hr i)
 have hn0:neg ((List.replicate C.length (-1)).set e.toNat 0)≤C.length:=by
  have:=List.countP_le_length (p:=fun x:Int=> decide (x < 0)) (l:=(List.replicate C.length (-1:Int)).set e.toNat 0)
  simpa [neg] using this
 obtain ⟨R,hR⟩: ∃ R,R=jq C e:=⟨_,rfl⟩
 rw [← hR] at hdf
 refine aS (am (gw rfl (aX rfl (ai (fZ _ _ aa rfl rfl rfl e.toNat ab ab (by exact (Nat.zero_add _).trans (Nat.mul_one _))) ?_))))
 refine ai (oE _ _ aa rfl rfl rfl rfl rfl (by simp;omega) ((mc _ _ _ (by simp;omega)).trans (congrArg (fun l=> cp (List.set l e.toNat 0)) hrep))) ?_
 refine aj (aq ?_)
 refine aM (σ':=aD 123 [(2,_),(6,_)] [((2,0),_),((6,0),_)] [] []) kp ?_
 refine an (cr rfl (aj (aU fun K14 hK14=> ?_)))
 refine am (cr rfl (aj (ay ?_)))
 refine bq (α:=(List Int×Bool)×Bool) (fun z=> DI D C.length (z.1.1,z.1.2,false)∧yV C R z) 123 [(2,_),(6,_)] [((2,0),_)] (fun z=> [(8, .v (.bool z.1.2)),(9, .v (.bool z.2))]) (fun z=> [((6,0), .row 3 1 (cp z.1.1))]) [] [] (fun z=> KC z) (((List.replicate C.length (-1)).set e.toNat 0,true),true) ?_ (by
  refine Le.mkJ [] [] rfl ?_ ?_ trivial trivial ?_
  ·exact ⟨(iP rfl),(iR rfl),(og ag),(og ag),trivial⟩
  ·exact ⟨(ci rfl rfl rfl),(eX rfl rfl rfl ag),trivial⟩
  kernel_rfl) ?_
 ·exact ⟨hdi0,by unfold yV;rw [if_pos rfl];exact ⟨C.length+1,by simp only;omega,hdf.symm⟩⟩
 intro z hz
 obtain ⟨s,ch⟩:=z
 obtain ⟨hdi,hz⟩:=hz
 simp only at hdi hz ⊢
 refine aU fun K16 hK16=> ?_
 refine am (cL rfl (aj (aR rfl (fun hc39=> ?_) (fun hc39=> ?_))))
 ·skip
  obtain ⟨f,hf1,hf2⟩: ∃ f,neg s.1+1≤f∧jM C f s=R:=by
   unfold yV at hz
   rwa [if_pos hc39] at hz
  have hpd:=(lx hg hdi C.length (Nat.le_refl _)).2.2
  refine bs (hK16 _ ?_)
  clear hK16;try clear K16
  refine ay (am (cr rfl (aj (am (be rfl (aj (ay ?_)))))))
  refine bq (α:=Nat) (fun i=> i≤C.length) 123 [(2,_),(6,_)] [((2,0),_)] (fun i=> [(10, .v (.int .i64 (i:Int))),(8, .v (.bool (dC C s i).2.1)),(9, .v (.bool (dC C s i).2.2))]) (fun i=> [((6,0), .row 3 1 (cp (dC C s i).1))]) [] [] (fun i=> C.length - i) 0 ?_ (by
   refine Le.mkJ [] [] rfl ?_ ?_ trivial trivial ?_
   ·exact ⟨(iP rfl),(iR rfl),(cm ag),(og ag),(og ag),trivial⟩
   ·exact ⟨(ci rfl rfl rfl),(eX rfl rfl rfl ag),trivial⟩
   kernel_rfl) ?_
  ·omega
  intro i hi
  have hw:=(lx hg hdi i hi).1
  have hps:=qz C s i
  have hwl:=hw.len
  refine aU fun K20 hK20=> ?_
  refine am (aX rfl (gw rfl (ai (dh _ aa rfl rfl) (ai (bl _ _ rfl rfl rfl) (aj (aR rfl (fun hc43=> ?_) (fun hc43=> ?_)))))))
  ·skip
   have hdn:=(lx hg hdi (i+1) ab).1
   have hvi:=hw.val i ab
   generalize dC C s i=w at hw hps hwl hvi
   rw [im ab] at hvi
   obtain ⟨hins,hpop,hsuc⟩:=hg i (cY C i) (by unfold cY;rw [List.getD_eq_getElem?_getD,List.getElem?_eq_getElem ab];rfl)
   rw [Nat.zero_add] at hpop hsuc
   have hDi:=hD i
   refine bs (hK20 _ ?_)
   clear hK20;try clear K20
   refine aU fun K22 hK22=> ?_
   refine ay (aq (am (gw rfl (aX rfl (ai (fZ _ _ aa rfl rfl rfl _ rfl ab (by exact (Nat.zero_add _).trans (Nat.mul_one _))) ?_)))))
   refine ai (mM _ aa rfl rfl (by exact ee _ _ ab) rfl) ?_
   refine ai (bl _ _ rfl rfl rfl) (aj (aR rfl (fun hc50=> ?_) (fun hc50=> ?_)))
   ·skip
    rw [yb (by rw [im ab];omega)] at hps
    refine bA (id (hK22 _ ?_))
    clear hK22;try clear K22
    refine an (aX rfl (ai (aZ _ _ rfl rfl (bE ab)) ?_))
    refine be rfl (aJ (⟨i+1,?_,?_,?_⟩))
    ·omega
    ·skip
     refine Le.mkJ [] [] rfl ?_ ?_ trivial trivial ?_
     ·exact ⟨(iP rfl),(iR rfl),(cm ag),(og (by (rw [hps]))),(og (by (rw [hps]))),trivial⟩
     ·exact ⟨(ci rfl rfl rfl),(eX rfl rfl rfl (by (rw [hps]))),trivial⟩
     kernel_rfl
    omega
   have hvD:=hvi.resolve_left ab
   have hgo:=CO (C:=C) (s:=w) (i:=i) (by rw [im ab];omega) (by rw [im ab];omega)
   rw [im ab,hvD] at hgo
   rw [hgo] at hps
   obtain ⟨L,hL⟩: ∃ L,L=dU i (cY C i):=⟨_,rfl⟩
   have hLl:L.length≤2:=by rw [hL];unfold dU;split <;> simp
   have hnn:(cY C i).op= .jump∨(cY C i).op= .unl→0≤(cY C i).n:=by
    unfold di at hins
    rintro (e | e) <;> rw [e] at hins <;> exact hins
   have hnx:=yS C en dd vv i hC ab hnn
   rw [← hL] at hps hsuc hnx
   have hpp:=rE (cY C i).op
   have hpq:=rM (cY C i).op
   have hp3:(cY C i).op.pops≤3:=by generalize (cY C i).op=o;cases o <;> decide
   have hp4:(cY C i).op.puts≤1:=by generalize (cY C i).op=o;cases o <;> decide
   refine aS (aq ?_)
   refine aM (σ':=aD 123 [(2,_),(6,_),(8,_),(9,_),(10,_)] [((2,0),_),((6,0),_)] [] []) kp ?_
   refine bJ 13 [51,52,53,54,55,56,57,58,59,60,61,62,11] [] ae ae rfl (aK rfl) (rfl:_=[_,_,_,_,_,_,_,_,_,_,_,_,_]) (rfl:_=[]) ?_
   refine ap (_,[]) (fun τ=> aI _ dR) ?_
   refine fP rfl ?_
   refine ap (_,[]) (fun τ=> aI _ em) ?_
   refine fO rfl ?_
   refine ap (_,[]) (fun τ=> fZ _ _ aa rfl rfl rfl _ rfl ab (by exact (Nat.zero_add _).trans (Nat.mul_one _))) ?_
   refine fN rfl ?_
   refine ap (_,[]) (fun τ=> mM _ aa rfl rfl (by exact ee _ _ ab) rfl) ?_
   refine fS rfl ?_
   refine ap (_,[]) (fun τ=> aA _ aa rfl rfl rfl) ?_
   refine gk rfl ?_
   refine ap (_,[]) (fun τ=> aF _ aa rfl rfl eF) ?_
   refine gU rfl ?_
   refine ap (_,[]) (fun τ=> aI _ em) ?_
   refine iL rfl ?_
   refine ap (_,[]) (fun τ=> bo _ _ aa rfl rfl _ rfl ab (by (simp only [aN,bh,bk,bv,bu,bH,bw,bM,eE,aN];omega)) ag) ?_
   refine jU rfl ?_
   refine ap (_,[]) (fun τ=> du _ aa rfl rfl) ?_
   refine kD rfl ?_
   refine ap (_,[]) (fun τ=> bU _ aa rfl (by exact nc C i ab) rfl) ?_
   refine fV rfl ?_
   refine ap (_,[]) (fun τ=> (aH aa al (hpp) rfl rfl)) ?_
   refine gF rfl ?_
   refine ap (_,[]) (fun τ=> kO _ _ rfl rfl (bE (by rw [hvD];omega))) ?_
   refine kM rfl ?_
   refine ap (_,[]) (fun τ=> bp _ em) ?_
   refine mr rfl (bm ⟨rfl,?_⟩)
   refine aj (aq (am (aX rfl (ai (bl _ _ rfl rfl rfl) (aj (aW rfl (decide_eq_false (by rw [hvD];omega)) ?_))))))
   refine aS (aq ?_)
   refine aM (σ':=aD 123 [(2,_),(6,_),(8,_),(9,_),(10,_),(11,_)] [((2,0),_),((6,0),_)] [] []) kp ?_
   refine an (aX rfl (bb rfl rfl rfl (eZ rfl rfl rfl (aX rfl (ai (bo _ _ aa rfl rfl _ rfl ab (by (simp only [aN,bh,bk,bv,bu,bH,bw,bM,eE,aN];omega)) ag) ?_)))))
   refine ai (du _ aa rfl rfl) (ai (bU _ aa rfl (by exact nc C i ab) rfl) ?_)
   refine ai (aH aa al (hpq) rfl rfl) ?_
   refine ai (aZ _ _ rfl rfl (bE (by rw [hvD];omega))) ?_
   refine be rfl (aj (am (ai (az _ aa rfl rfl rfl rfl) (aX rfl (ai (aH aa al (hnx) rfl rfl) ?_)))))
   refine kE rfl (aj (am (be rfl (aj (ay ?_)))))
   refine bq (α:=Nat) (fun k=> k≤L.length) 123 [(2,_),(6,_),(10,_),(12,_)] [((2,0),_)] (fun k=> [(13, .v (.int .i64 (k:Int))),(11, .v (.int .i64 ((D i:Int) - (cY C i).op.pops+(cY C i).op.puts))),(8, .v (.bool ((L.take k).foldl (jD C.length ((D i:Int) - (cY C i).op.pops+(cY C i).op.puts)) w).2.1)),(9, .v (.bool ((L.take k).foldl (jD C.length ((D i:Int) - (cY C i).op.pops+(cY C i).op.puts)) w).2.2))]) (fun k=> [((6,0), .row 3 1 (cp ((L.take k).foldl (jD C.length ((D i:Int) - (cY C i).op.pops+(cY C i).op.puts)) w).1))]) [] [] (fun k=> L.length - k) 0 ?_ (by
    refine Le.mkJ [] [] rfl ?_ ?_ trivial trivial ?_
    ·exact ⟨(iP rfl),(iR rfl),(iV rfl),(iS rfl),(cm ag),(cm (by rw [hvD])),(og ag),(og ag),trivial⟩
    ·exact ⟨(ci rfl rfl rfl),(eX rfl rfl rfl ag),trivial⟩
    kernel_rfl) ?_
   ·omega
   intro k hk
   have hwd: ∀ j∈L,(D i:Int) - (cY C i).op.pops+(cY C i).op.puts=(D j:Int):=fun j hj=> by have:=(hsuc j hj).2.2;omega
   have hu:=(nR (L.take k) hw (fun j hj=> hwd j (List.mem_of_mem_take hj))).1
   have hul:=hu.len
   refine aU fun K31 hK31=> ?_
   refine am (aX rfl (eY rfl (ai (bn _ aa rfl) (ai (bl _ _ rfl rfl rfl) (aj (aR rfl (fun hc80=> ?_) (fun hc80=> ?_)))))))
   ·skip
    have hfs:=wB (n:=C.length) (d:=(D i:Int) - (cY C i).op.pops+(cY C i).op.puts) (s:=w) (l:=L) (k:=k) ab
    have hu1:=(nR (L.take (k+1)) hw (fun j hj=> hwd j (List.mem_of_mem_take hj))).1.len
    obtain ⟨j,hj⟩: ∃ j,j=L.getD k 0:=⟨_,rfl⟩
    have hjm:j∈L:=by rw [hj,List.getD_eq_getElem?_getD,List.getElem?_eq_getElem ab];exact List.getElem_mem ab
    obtain ⟨hj1,hj2,_⟩:=hsuc j hjm
    have hjn:j < C.length:=by omega
    have hwj:=hwd j hjm
    have hnk:=FX L k ab
    rw [← hj] at hfs hnk
    have huv:=hu.val j hjn
    rw [im ab] at huv
    generalize (L.take k).foldl (jD C.length ((D i:Int) - (cY C i).op.pops+(cY C i).op.puts)) w=u at hu hul hfs huv
    refine bs (hK31 _ ?_)
    clear hK31;try clear K31
    refine aq (ay (aq (am (eY rfl (aX rfl (ai (bo _ _ aa rfl rfl _ rfl ab (by (simp only [aN,bh,bk,bv,bu,bH,bw,bM,eE,aN];omega)) (by exact Nat.mul_one _)) ?_))))))
    refine ai (bU _ aa rfl (by exact hnk) rfl) ?_
    refine ai (bl _ _ rfl rfl rfl) (cL rfl (dw (fun hg88=> ?_) (fun hg88=> ?_)))
    ·skip
     exact absurd hg88 ab
    refine ax rfl rfl (aI _ nh) (ax rfl rfl (aI _ em) (ax rfl rfl (bo _ _ aa rfl rfl _ rfl ab (by (simp only [aN,bh,bk,bv,bu,bH,bw,bM,eE,aN];omega)) (by exact Nat.mul_one _)) ?_))
    refine ax rfl rfl (bU _ aa rfl (by exact hnk) rfl) ?_
    refine ax rfl rfl (aI _ dR) (ax rfl rfl (dh _ aa rfl rfl) (ax rfl rfl (fv _ _ rfl rfl rfl) (ai (aE _ _ _ rfl bR) (aj (aW rfl (decide_eq_false ab) ?_)))))
    refine aS (aq ?_)
    refine aM (σ':=aD 123 [(2,_),(6,_),(8,_),(9,_),(10,_),(11,_),(12,_),(13,_)] [((2,0),_),((6,0),_)] [] []) kp ?_
    refine an (gw rfl (eY rfl (aX rfl (ai (bo _ _ aa rfl rfl _ rfl ab (by (simp only [aN,bh,bk,bv,bu,bH,bw,bM,eE,aN];omega)) (by exact Nat.mul_one _)) ?_))))
    refine ai (bU _ aa rfl (by exact hnk) rfl) ?_
    refine ai (fZ _ _ aa rfl rfl rfl _ rfl ab (by exact (Nat.zero_add _).trans (Nat.mul_one _))) ?_
    refine ai (mM _ aa rfl rfl (by exact ee _ _ ab) rfl) ?_
    refine ai (bl _ _ rfl rfl rfl) (aj (aR rfl (fun hc104=> ?_) (fun hc104=> ?_)))
    ·skip
     have hds:jD C.length ((D i:Int) - (cY C i).op.pops+(cY C i).op.puts) u j=(u.1.set j ((D i:Int) - (cY C i).op.pops+(cY C i).op.puts),u.2.1,true):=by
      unfold jD
      rw [if_neg ab,if_pos (by rw [im ab];omega)]
     rw [hds] at hfs
     refine am (gw rfl (eY rfl (aX rfl (ai (bo _ _ aa rfl rfl _ rfl ab (by (simp only [aN,bh,bk,bv,bu,bH,bw,bM,eE,aN];omega)) (by exact Nat.mul_one _)) ?_))))
     refine ai (bU _ aa rfl (by exact hnk) rfl) ?_
     refine aX rfl (ai (fZ _ _ aa rfl rfl rfl _ rfl ab (by exact (Nat.zero_add _).trans (Nat.mul_one _))) ?_)
     refine ai (oE _ _ aa rfl rfl rfl rfl rfl (by simp;omega) (mc _ _ _ ab)) ?_
     refine aj ?_
     refine aM (σ':=aD 123 [(2,_),(6,_),(8,_),(10,_),(11,_),(12,_),(13,_)] [((2,0),_),((6,0),_)] [] []) kp ?_
     refine an (cr rfl (eg (an (aX rfl (ai (aZ _ _ rfl rfl (bE ab)) ?_)))))
     refine be rfl (aJ (⟨k+1,?_,?_,?_⟩))
     ·omega
     ·skip
      refine Le.mkJ [] [] rfl ?_ ?_ trivial trivial ?_
      ·exact ⟨(iP rfl),(iR rfl),(iV rfl),(iS rfl),(cm ag),(cm ag),(og (by (rw [hfs]))),(og (by (rw [hfs]))),trivial⟩
      ·exact ⟨(ci rfl rfl rfl),(eX rfl rfl rfl (by (rw [hfs]))),trivial⟩
      kernel_rfl
     omega
    have hds:jD C.length ((D i:Int) - (cY C i).op.pops+(cY C i).op.puts) u j=u:=by
     unfold jD
     rw [if_neg ab,if_neg (by rw [im ab];omega),if_neg (by rw [im ab];omega)]
    rw [hds] at hfs
    refine am (gw rfl (eY rfl (aX rfl (ai (bo _ _ aa rfl rfl _ rfl ab (by (simp only [aN,bh,bk,bv,bu,bH,bw,bM,eE,aN];omega)) (by exact Nat.mul_one _)) ?_))))
    refine ai (bU _ aa rfl (by exact hnk) rfl) ?_
    refine ai (fZ _ _ aa rfl rfl rfl _ rfl ab (by exact (Nat.zero_add _).trans (Nat.mul_one _))) ?_
    refine ai (mM _ aa rfl rfl (by exact ee _ _ ab) rfl) ?_
    refine aX rfl (ai (bX _ _ rfl rfl rfl) (aj (aW rfl (by rw [bne_eq_false_iff_eq];omega) ?_)))
    refine cq ?_
    refine aM (σ':=aD 123 [(2,_),(6,_),(8,_),(9,_),(10,_),(11,_),(12,_),(13,_)] [((2,0),_),((6,0),_)] [] []) kp ?_
    refine an (aX rfl (ai (aZ _ _ rfl rfl (bE ab)) ?_))
    refine be rfl (aJ (⟨k+1,?_,?_,?_⟩))
    ·omega
    ·skip
     refine Le.mkJ [] [] rfl ?_ ?_ trivial trivial ?_
     ·exact ⟨(iP rfl),(iR rfl),(iV rfl),(iS rfl),(cm ag),(cm ag),(og (by (rw [hfs]))),(og (by (rw [hfs]))),trivial⟩
     ·exact ⟨(ci rfl rfl rfl),(eX rfl rfl rfl (by (rw [hfs]))),trivial⟩
     kernel_rfl
    omega
   obtain rfl:k=L.length:=by omega
   rw [List.take_length] at hu hul
   rw [List.take_length]
   refine bA (id (hK22 _ ?_))
   clear hK22;try clear K22
   refine an (aX rfl (ai (aZ _ _ rfl rfl (bE ab)) ?_))
   refine be rfl (aJ (⟨i+1,?_,?_,?_⟩))
   ·omega
   ·skip
    refine Le.mkJ [] [] rfl ?_ ?_ trivial trivial ?_
    ·exact ⟨(iP rfl),(iR rfl),(cm ag),(og (by (rw [hps]))),(og (by (rw [hps]))),trivial⟩
    ·exact ⟨(ci rfl rfl rfl),(eX rfl rfl rfl (by (rw [hps]))),trivial⟩
    kernel_rfl
   omega
  obtain rfl:i=C.length:=by omega
  refine bA (id (⟨(((dC C s C.length).1,(dC C s C.length).2.1),(dC C s C.length).2.2),?_,?_,?_⟩))
  ·exact ⟨hw.flag,xS hf1 hf2 hpd⟩
  ·skip
   refine Le.mkJ [] [] rfl ?_ ?_ trivial trivial ?_
   ·exact ⟨(iP rfl),(iR rfl),(og ag),(og ag),trivial⟩
   ·exact ⟨(ci rfl rfl rfl),(eX rfl rfl rfl ag),trivial⟩
   kernel_rfl
  rw [show KC (s,ch)=neg s.1+1 from if_pos hc39];exact Hn hpd
 have hzR:s=R:=by
  unfold yV at hz
  rwa [if_neg (by simp [hc39])] at hz
 subst hzR
 have hsl:=hdi.len
 refine bA (id (hK14 _ ?_))
 clear hK14;try clear K14
 refine am (gw rfl (cL rfl (fh rfl (cr rfl (aj (aG ?_))))))
 rw [← hR]
 exact jR (.inr rfl) rfl (.tmp dR) (.tmp bR) (Le.out [] [(6,0)] (.tup rfl (au (Al rfl rfl (by simp only at hsl;simp [hsl]) rfl hsl.symm) lz)) rfl rfl rfl tr trivial)
theorem wK (C:List eV) (en:Nat→Int) (dd vv:Int) (h:Nat) (hh:h < 40) (hC:C.length≤1000000) (D:Nat→Nat) (nv:Nat) (hg:Good D nv 0 (C.length - 1) 0 C) (hD: ∀ i,D i≤1000000) (he:0≤en h→en h < C.length→D (en h).toNat=0):
  Spec Tryz.prog 74 (ba [.agg (Et C.length (inl C) en dd vv), .v (.int .i64 (h:Int))] []) (aO (.v (.int .i64 (ld C (jq C (en h)).1 C.length))) []):=by
 have hds:=uQ C en dd vv (en h) hC D nv hg hD he
 have hdi:=qC hg he
 have hdl:=hdi.len
 have hml:=fun k (hk:k≤C.length)=> ny (C:=C) (n:=C.length) hdi (B:=1000000) (fun i _=> hD i) k hk
 generalize jq C (en h)=R at hds hdi hdl hml
 have hen:=te C.length (inl C) en dd vv h hh
 refine Spec.ofN Tryz.func74 rfl Tryz.ntmps74 rfl ?_
 refine am (ai (aQ (2,0) _ rfl rfl) (be rfl (aj (aq (bJ 11 [11,12,13,14,15,16,10,17,18,5,6] [] ae ae rfl (aK rfl) (rfl:_=[_,_,_,_,_,_,_,_,_,_,_]) (rfl:_=[]) ?_)))))
 refine ap (_,[]) (fun τ=> az _ aa rfl rfl rfl rfl) ?_
 refine fP rfl ?_
 refine ap (_,[]) (fun τ=> aI _ em) ?_
 refine fO rfl ?_
 refine ap (_,[]) (fun τ=> aA _ aa rfl rfl rfl) ?_
 refine fN rfl ?_
 refine ap (_,[]) (fun τ=> da _ _ aa rfl rfl rfl h rfl ab (by exact congrArg (fun z=> 0+1+z) (Nat.mul_one h))) ?_
 refine fS rfl ?_
 refine ap (_,[]) (fun τ=> aF _ aa rfl rfl (by exact (congrArg (fun z=> (Et C.length (inl C) en dd vv)[z]?) ab).trans hen)) ?_
 refine gk rfl ?_
 refine ap (_,[]) (fun τ=> (aH aa al (hds) rfl rfl)) ?_
 refine gU rfl ?_
 refine ap (_,[]) (fun τ=> aI _ tU) ?_
 refine iL rfl ?_
 refine ap (_,[]) (fun τ=> co _ rfl eF) ?_
 refine jU rfl ?_
 refine ap (_,[]) (fun τ=> co _ rfl Ct) ?_
 refine kD rfl ?_
 refine ap (_,[]) (fun τ=> bp _ nh) ?_
 refine fV rfl ?_
 refine ap (_,[]) (fun τ=> bp _ bR) ?_
 refine gF rfl (bm ⟨rfl,?_⟩)
 refine aj (am (be rfl (aj (aU fun K4 hK4=> ?_))))
 refine am (be rfl (aj (ay ?_)))
 refine bq (α:=Nat) (fun k=> k≤C.length) 53 [(2,_),(5,_)] [((2,0),_)] (fun k=> [(8, .v (.int .i64 (k:Int))),(7, .v (.int .i64 (ld C R.1 k)))]) (fun k=> []) [] [] (fun k=> C.length - k) 0 ?_ (by
  refine Le.mkJ [] [] rfl ?_ ?_ trivial trivial ?_
  ·exact ⟨(iP rfl),(iS rfl),(cm ag),(cm ag),trivial⟩
  ·exact ⟨(ci rfl rfl rfl),trivial⟩
  kernel_rfl) ?_
 ·omega
 intro k hk
 have hm1:=hml k hk
 have hs:=qW C R.1 k
 simp only at hdl hm1
 refine aU fun K6 hK6=> ?_
 refine am (aX rfl (eY rfl (ai (bn _ aa rfl) (ai (bl _ _ rfl rfl rfl) (aj (aR rfl (fun hc22=> ?_) (fun hc22=> ?_)))))))
 ·skip
  have hm2:=hml (k+1) ab
  have hv:=hdi.val k ab
  simp only at hv hm2
  rw [im ab] at hv hs
  have hDk:=hD k
  obtain ⟨q,hq⟩: ∃ q,q=cY C k:=⟨_,rfl⟩
  have hp3:q.op.pops≤3:=by generalize q.op=o;cases o <;> decide
  have hp4:q.op.puts≤1:=by generalize q.op=o;cases o <;> decide
  have hpp:=rE q.op
  have hpq:=rM q.op
  have hg0:=nc C k ab
  rw [← hq] at hg0 hs
  refine bs (hK6 _ ?_)
  clear hK6;try clear K6
  refine aq (ay (am (eY rfl (aX rfl (ai (bo _ _ aa rfl rfl _ rfl ab (by (simp only [aN,bh,bk,bv,bu,bH,bw,bM,eE,aN];omega)) (by exact Nat.mul_one _)) ?_)))))
  refine ai (bU _ aa rfl (by exact ee _ _ ab) rfl) ?_
  refine ai (fv _ _ rfl rfl rfl) (aj (aR rfl (fun hc29=> ?_) (fun hc29=> ?_)))
  ·skip
   rw [if_pos ab] at hs
   refine am (bb rfl rfl rfl (eZ rfl rfl rfl (aX rfl (ai (bo _ _ aa rfl rfl _ rfl ab (by (simp only [aN,bh,bk,bv,bu,bH,bw,bM,eE,aN];omega)) ag) ?_))))
   refine ai (du _ aa rfl rfl) (ai (bU _ aa rfl (by exact hg0) rfl) ?_)
   refine be rfl (aj ?_)
   refine aM (σ':=aD 53 [(2,_),(5,_),(7,_),(8,_),(9,_)] [((2,0),_)] [] []) kp ?_
   refine bJ 16 [36,37,38,39,40,41,42,43,44,45,46,47,48,49,50,51] [] ae ae rfl (aK rfl) (rfl:_=[_,_,_,_,_,_,_,_,_,_,_,_,_,_,_,_]) (rfl:_=[_]) ?_
   refine ap (_,[]) (fun τ=> aI _ em) ?_
   refine fP rfl ?_
   refine ap (_,[]) (fun τ=> aI _ nh) ?_
   refine fO rfl ?_
   refine ap (_,[]) (fun τ=> aI _ em) ?_
   refine fN rfl ?_
   refine ap (_,[]) (fun τ=> bo _ _ aa rfl rfl _ rfl ab (by (simp only [aN,bh,bk,bv,bu,bH,bw,bM,eE,aN];omega)) (by exact Nat.mul_one _)) ?_
   refine fS rfl ?_
   refine ap (_,[]) (fun τ=> bU _ aa rfl (by exact ee _ _ ab) rfl) ?_
   refine gk rfl ?_
   refine ap (_,[]) (fun τ=> aI _ nh) ?_
   refine gU rfl ?_
   refine ap (_,[]) (fun τ=> aI _ em) ?_
   refine iL rfl ?_
   refine ap (_,[]) (fun τ=> bo _ _ aa rfl rfl _ rfl ab (by (simp only [aN,bh,bk,bv,bu,bH,bw,bM,eE,aN];omega)) (by exact Nat.mul_one _)) ?_
   refine jU rfl ?_
   refine ap (_,[]) (fun τ=> bU _ aa rfl (by exact ee _ _ ab) rfl) ?_
   refine kD rfl ?_
   refine ap (_,[]) (fun τ=> aI _ em) ?_
   refine fV rfl ?_
   refine ap (_,[]) (fun τ=> (aH aa al (hpp) rfl rfl)) ?_
   refine gF rfl ?_
   refine ap (_,[]) (fun τ=> kO _ _ rfl rfl (bE ab)) ?_
   refine kM rfl ?_
   refine ap (_,[]) (fun τ=> aI _ em) ?_
   refine mr rfl ?_
   refine ap (_,[]) (fun τ=> (aH aa al (hpq) rfl rfl)) ?_
   refine pv rfl ?_
   refine ap (_,[]) (fun τ=> aZ _ _ rfl rfl (bE ab)) ?_
   refine wP rfl ?_
   refine ap (_,[]) (fun τ=> Gg _ _ _ rfl rfl rfl (by exact hs.symm)) ?_
   refine vU rfl (bm ⟨rfl,?_⟩)
   refine be rfl (eg ?_)
   refine aM (σ':=aD 53 [(2,_),(5,_),(7,_),(8,_)] [((2,0),_)] [] []) kp ?_
   refine an (aX rfl (ai (aZ _ _ rfl rfl (bE ab)) ?_))
   refine be rfl (aJ (⟨k+1,?_,?_,?_⟩))
   ·omega
   ·skip
    refine Le.mkJ [] [] rfl ?_ ?_ trivial trivial ?_
    ·exact ⟨(iP rfl),(iS rfl),(cm ag),(cm ag),trivial⟩
    ·exact ⟨(ci rfl rfl rfl),trivial⟩
    kernel_rfl
   omega
  rw [if_neg ab] at hs
  refine cq (an (aX rfl (ai (aZ _ _ rfl rfl (bE ab)) ?_)))
  refine be rfl (aJ (⟨k+1,?_,?_,?_⟩))
  ·omega
  ·skip
   refine Le.mkJ [] [] rfl ?_ ?_ trivial trivial ?_
   ·exact ⟨(iP rfl),(iS rfl),(cm ag),(cm ab),trivial⟩
   ·exact ⟨(ci rfl rfl rfl),trivial⟩
   kernel_rfl
  omega
 obtain rfl:k=C.length:=by omega
 refine bA (id (hK4 _ ?_))
 clear hK4;try clear K4
 exact am (aX rfl (be rfl (aj (aG (fu rfl rfl)))))

theorem et: ∀ (e:Ex) (d x:Nat),x∈dJ e d→x≤d+(dJ e d).length
 | .int _,d,x,h=> by simp [dJ] at h ⊢;omega
 | .bool _,d,x,h=> by simp [dJ] at h ⊢;omega
 | .var _,d,x,h=> by simp [dJ] at h ⊢;omega
 | .name _,d,x,h=> by simp [dJ] at h ⊢;omega
 | .draw e,d,x,h=> by
  have:=et e d x
  simp only [dJ,List.mem_append,List.length_append,List.length_cons,List.length_nil,List.mem_singleton] at h ⊢
  rcases h with h | h
  ·have:=this h;omega
  omega
 | .neg e,d,x,h=> by
  have:=et e d x
  simp only [dJ,List.mem_append,List.length_append,List.length_cons,List.length_nil,List.mem_singleton] at h ⊢
  rcases h with h | h
  ·have:=this h;omega
  omega
 | .not e,d,x,h=> by
  have:=et e d x
  simp only [dJ,List.mem_append,List.length_append,List.length_cons,List.length_nil,List.mem_singleton] at h ⊢
  rcases h with h | h
  ·have:=this h;omega
  omega
 | .bin o a b,d,x,h=> by
  have h1:=et a d x
  have h2:=et b (d+1) x
  have h3:1≤(dJ b (d+1)).length:=by obtain ⟨l,hl⟩:=eO b (d+1);rw [hl];simp
  have h4:1≤(dJ a d).length:=by obtain ⟨l,hl⟩:=eO a d;rw [hl];simp
  simp only [dJ,List.mem_append,List.length_append] at h ⊢
  rcases h with (h | h) | h
  ·have:=h1 h;omega
  ·have:=h2 h;omega
  have:x≤d+2:=by cases o <;> simp at h <;> omega
  omega
 | .and a b,d,x,h=> by
  have h1:=et a d x
  have h2:=et b d x
  simp only [dJ,List.mem_append,List.length_append,List.length_cons,List.length_nil,List.mem_singleton] at h ⊢
  rcases h with (((h | h) | h) | h) | h
  ·have:=h1 h;omega
  ·omega
  ·have:=h2 h;omega
  ·omega
  omega
 | .or a b,d,x,h=> by
  have h1:=et a d x
  have h2:=et b d x
  simp only [dJ,List.mem_append,List.length_append,List.length_cons,List.length_nil,List.mem_singleton] at h ⊢
  rcases h with (((h | h) | h) | h) | h
  ·have:=h1 h;omega
  ·omega
  ·omega
  ·omega
  have:=h2 h;omega
theorem lw (e:Ex) (d:Nat):1≤(dJ e d).length:=by obtain ⟨l,hl⟩:=eO e d;rw [hl];simp
mutual
theorem EY: ∀ (s:Sm) (x:Nat),x∈eu s→x≤(eu s).length
 | .assign _ e,x,h=> by
  have:=et e 0 x
  simp only [eu,List.mem_append,List.length_append,List.length_cons,List.length_nil,List.mem_singleton] at h ⊢
  rcases h with h | h
  ·have:=this h;omega
  omega
 | .send t _ a b,x,h=> by
  have h1:=et t 0 x
  have h2:=et a 1 x
  have h3:=et b 2 x
  have k1:=lw t 0
  have k2:=lw a 1
  have k3:=lw b 2
  simp only [eu,List.mem_append,List.length_append,List.length_cons,List.length_nil,List.mem_singleton] at h ⊢
  rcases h with ((h | h) | h) | h
  ·have:=h1 h;omega
  ·have:=h2 h;omega
  ·have:=h3 h;omega
  omega
 | .timer _,x,h=> by simp [eu] at h ⊢;omega
 | .cancel _,x,h=> by simp [eu] at h ⊢;omega
 | .sync,x,h=> by simp [eu] at h ⊢;omega
 | .stop,x,h=> by simp [eu] at h ⊢;omega
 | .reply a b,x,h=> by
  have h2:=et a 0 x
  have h3:=et b 1 x
  have k2:=lw a 0
  have k3:=lw b 1
  simp only [eu,List.mem_append,List.length_append,List.length_cons,List.length_nil,List.mem_singleton] at h ⊢
  rcases h with (h | h) | h
  ·have:=h2 h;omega
  ·have:=h3 h;omega
  omega
 | .fail e,x,h=> by
  have:=et e 0 x
  simp only [eu,List.mem_append,List.length_append,List.length_cons,List.length_nil,List.mem_singleton] at h ⊢
  rcases h with h | h
  ·have:=this h;omega
  omega
 | .loop c b,x,h=> by
  have h1:=et c 0 x
  have h2:=oe b x
  simp only [eu,List.mem_append,List.length_append,List.length_cons,List.length_nil,List.mem_singleton] at h ⊢
  rcases h with ((h | h) | h) | h
  ·have:=h1 h;omega
  ·omega
  ·have:=h2 h;omega
  omega
 | .ite c a b,x,h=> by
  have h1:=et c 0 x
  have h2:=oe a x
  have h3:=oe b x
  simp only [eu,List.mem_append,List.length_append,List.length_cons,List.length_nil,List.mem_singleton] at h ⊢
  rcases h with (((h | h) | h) | h) | h
  ·have:=h1 h;omega
  ·omega
  ·have:=h2 h;omega
  ·omega
  have:=h3 h;omega
theorem oe: ∀ (b:Bk) (x:Nat),x∈ms b→x≤(ms b).length
 | .nil,x,h=> by simp [ms] at h
 | .cons s b,x,h=> by
  have h1:=EY s x
  have h2:=oe b x
  simp only [ms,List.mem_append,List.length_append] at h ⊢
  rcases h with h | h
  ·have:=h1 h;omega
  have:=h2 h;omega
end
theorem wY: ∀ (l:List (Nat×Bk)) (x:Nat),x∈mo l→x≤(mo l).length
 | [],x,h=> by simp [mo] at h
 | (k,b)::l,x,h=> by
  have h1:=oe b x
  have h2:=wY l x
  simp only [mo,List.mem_append,List.length_append,List.length_cons,List.length_nil,List.mem_singleton] at h ⊢
  rcases h with (h | h) | h
  ·have:=h1 h;omega
  ·omega
  have:=h2 h;omega
theorem Bd (l:List (Nat×Bk)) (i:Nat):xC l i≤(bS l 0).length:=by
 unfold xC
 rw [List.getD_eq_getElem?_getD]
 by_cases h:i < (mo l).length
 ·rw [List.getElem?_eq_getElem h,← qG l 0];exact wY l _ (List.getElem_mem h)
 rw [List.getElem?_eq_none ab];exact Nat.zero_le _

theorem oA: ∀ (l m:List (Nat×Bk)) (a:Nat),bS (l++m) a=bS l a++bS m (a+(bS l a).length)
 | [],m,a=> by simp [bS]
 | (h,b)::l,m,a=> by
  simp only [List.cons_append,bS,oA l m,List.append_assoc,List.length_append,List.length_cons,List.length_nil,Nat.add_assoc,Nat.zero_add,List.nil_append,Nat.add_comm 1 (List.length _)]
theorem tW: ∀ (l m:List (Nat×Bk)) (a:Nat),ko (l++m) a=ko l a++ko m (a+(bS l a).length)
 | [],m,a=> by simp [bS,ko]
 | (h,b)::l,m,a=> by
  simp only [List.cons_append,bS,ko,tW l m,List.append_assoc,List.length_append,List.length_cons,List.length_nil,Nat.add_assoc,Nat.zero_add,Nat.add_comm 1 (List.length _)]
def bY (l:List (Nat×Bk)) (k:Nat):Int:=(nU (ko l 0)).getD k (-1)
theorem yA (l:List (Nat×Bk)) (p:Nat×Bk) (hp:p.1 < 40):bY (l++[p])=li (bY l) p.1 (bS l 0).length:=by
 funext k
 have e:nU (ko (l++[p]) 0)=(nU (ko l 0)).set p.1 ((bS l 0).length:Int):=by
  rw [tW]
  obtain ⟨h,b⟩:=p
  simp only [ko,nU,List.foldl_append,List.foldl_cons,List.foldl_nil,Nat.zero_add]
 unfold bY li
 rw [e,kz]
 by_cases hk:k=p.1
 ·rw [if_pos ⟨hk,by rw [CX];exact hp⟩,if_pos hk]
 rw [if_neg (fun h=> hk h.1),if_neg hk]
theorem wU (l:List (Nat×Bk)) (p:Nat×Bk):bS (l++[p]) 0=bS l 0++dS p.2 (bS l 0).length++[{ op:= .stop }]:=by
 rw [oA]
 obtain ⟨h,b⟩:=p
 simp [bS]
def ev (h k:Nat):Int:=if k < h∨40≤k then -1 else 0
theorem Cb (h:Nat) (hh:h < 40):li (ev h) h (-1)=ev (h+1):=by
 funext k
 unfold li ev
 by_cases h1:k=h
 ·rw [if_pos h1,if_pos ab]
 rw [if_neg h1]
 by_cases h2:k < h∨40≤k
 ·rw [if_pos h2,if_pos ab]
 rw [if_neg h2,if_neg ab]
theorem Dx:ev 40=bY []:=by
 funext k
 have e:bY [] k=(List.replicate 40 (-1:Int)).getD k (-1):=rfl
 rw [e,ev,if_pos ab,List.getD_eq_getElem?_getD,List.getElem?_replicate]
 by_cases hk:k < 40
 ·rw [if_pos hk];rfl
 rw [if_neg hk];rfl
theorem AD (ons:List (Nat×Bk)) (j:Nat) (h:j < ons.length):ons.take (j+1)=ons.take j++[ons[j]]:=List.take_succ_eq_append_getElem h
theorem qs (ons:List (Nat×Bk)) (j:Nat):(bS (ons.take j) 0).length≤(bS ons 0).length:=by
 conv=> rhs;rw [← List.take_append_drop j ons,oA]
 rw [List.length_append];omega
theorem yy {n:Nat} (h:n < 40):dx (n:Int) 40=n:=by unfold dx;rw [if_neg ab];omega
structure UOk (d v:List Tx) (ons:List (Nat×Bk)):Prop where
 nd:(d++v).Nodup
 len:(d++v).length≤16
 ok: ∀ p∈ons,lm (d++v).length p.2
 pp: ∀ p∈ons,sI p.2=true
 h: ∀ p∈ons,p.1 < 40
 c:(bS ons 0).length≤1000000
 n:ons.length≤1000
theorem UOk.good {d v:List Tx} {ons:List (Nat×Bk)} (U:UOk d v ons):Good (xC ons) (d++v).length 0 ((bS ons 0).length - 1) 0 (bS ons 0):=
 Cn (xC ons) (d++v).length ons 0 0 ((bS ons 0).length - 1) U.ok (sR ons) (Nat.le_refl _) ab
theorem UOk.ent {d v:List Tx} {ons:List (Nat×Bk)} (U:UOk d v ons) (k:Nat):0≤bY ons k→bY ons k < (bS ons 0).length→xC ons (bY ons k).toNat=0:=fun h0 h1=> by
 rcases wJ ons k with h | ⟨e,_,h,_,h2⟩
 ·unfold bY at h0;omega
 unfold bY;rw [h,Int.toNat_natCast];exact h2
abbrev OJ (d v:List Tx) (ons:List (Nat×Bk)):AV:= .agg (Et (bS ons 0).length (inl (bS ons 0)) (bY ons) (d.length:Int) (v.length:Int))
abbrev zA:AV:= .agg (Hf (.v (.slice none 0 0)) (fun _=> 0) 0 0)
def Kz (ons:List (Nat×Bk)):Int:=if 400 < (bS ons 0).length then 2 else 13
abbrev DB (d v:List Tx) (ons:List (Nat×Bk)):AV:=if lc ons=true then .tup [OJ d v ons, .v (.int .i64 0)] else .tup [zA, .v (.int .i64 (Kz ons))]
abbrev wx (d v:List Tx) (ons:List (Nat×Bk)):List Hd:=ons.map fun p=> (p.1,jb (d++v) p.2)
theorem nN (d v:List Tx) (ons:List (Nat×Bk)) (U:UOk d v ons):
  Spec Tryz.prog 57 (ba [Ki d v (wx d v ons)] []) (aO (DB d v ons) []):=by
 obtain ⟨H,hH⟩: ∃ H,H=wx d v ons:=⟨_,rfl⟩
 have hHl:H.length=ons.length:=by rw [hH,List.length_map]
 have hHk: ∀ k (h:k < ons.length),oM H k=((ons[k]).1,jb (d++v) (ons[k]).2):=fun k h=> by rw [hH];exact Dz ons _ k h
 rw [← hH]
 clear hH
 have hUn:=U.n
 have hUc:=U.c
 have hUl:=U.len
 have hdl:d.length≤16∧v.length≤16:=by rw [List.length_append] at hUl;omega
 refine Spec.ofN Tryz.func57 rfl Tryz.ntmps57 rfl ?_
 refine am (ai (aQ (1,0) _ rfl rfl) (ai (aC (2,0) aa rfl rfl) (be rfl (aj (am (bb rfl rfl rfl (eZ rfl rfl rfl (ai (bn _ aa rfl) (bb rfl rfl rfl (eZ rfl rfl rfl ?_))))))))))
 refine ai (bn _ aa rfl) (ai (aL _ aa rfl (by exact FA)) ?_)
 refine ai (aC (4,0) aa rfl rfl) (bF rfl rfl rfl rfl rfl rfl (aj (aU fun K3 hK3=> ?_)))
 refine am (be rfl (aj (ay ?_)))
 refine aM (Le.nilB (4,0) 0 (60,0) 48 2 rfl rfl rfl) ?_
 refine bq (α:=Nat) (fun q=> q≤40) 79 [(1,_),(2,_),(4,_)] [((1,0),_),((2,0),_),((60,0),_)] (fun q=> [(5, .v (.int .i64 (q:Int)))]) (fun q=> [((4,0), .box 26 [.ref (60,0) 0 0, .v (.int .i64 (ev q 0)), .v (.int .i64 (ev q 1)), .v (.int .i64 (ev q 2)), .v (.int .i64 (ev q 3)), .v (.int .i64 (ev q 4)), .v (.int .i64 (ev q 5)), .v (.int .i64 (ev q 6)), .v (.int .i64 (ev q 7)), .v (.int .i64 (ev q 8)), .v (.int .i64 (ev q 9)), .v (.int .i64 (ev q 10)), .v (.int .i64 (ev q 11)), .v (.int .i64 (ev q 12)), .v (.int .i64 (ev q 13)), .v (.int .i64 (ev q 14)), .v (.int .i64 (ev q 15)), .v (.int .i64 (ev q 16)), .v (.int .i64 (ev q 17)), .v (.int .i64 (ev q 18)), .v (.int .i64 (ev q 19)), .v (.int .i64 (ev q 20)), .v (.int .i64 (ev q 21)), .v (.int .i64 (ev q 22)), .v (.int .i64 (ev q 23)), .v (.int .i64 (ev q 24)), .v (.int .i64 (ev q 25)), .v (.int .i64 (ev q 26)), .v (.int .i64 (ev q 27)), .v (.int .i64 (ev q 28)), .v (.int .i64 (ev q 29)), .v (.int .i64 (ev q 30)), .v (.int .i64 (ev q 31)), .v (.int .i64 (ev q 32)), .v (.int .i64 (ev q 33)), .v (.int .i64 (ev q 34)), .v (.int .i64 (ev q 35)), .v (.int .i64 (ev q 36)), .v (.int .i64 (ev q 37)), .v (.int .i64 (ev q 38)), .v (.int .i64 (ev q 39)), .v (.int .i64 (d.length:Int)), .v (.int .i64 (v.length:Int))])]) [] [] (fun q=> 40 - q) 0 ?_ (by
  refine Le.mkJ [] [] rfl ?_ ?_ trivial trivial ?_
  ·exact ⟨(iP rfl),(iP rfl),(iP rfl),(cm ag),trivial⟩
  ·exact ⟨(ci rfl rfl rfl),(ci rfl rfl rfl),(ci rfl rfl rfl),(fi rfl rfl rfl rfl lz),trivial⟩
  kernel_rfl) ?_
 ·omega
 intro q hq
 refine aU fun K5 hK5=> ?_
 refine am (aX rfl (ai (bl _ _ rfl rfl rfl) (aj (aR rfl (fun hc17=> ?_) (fun hc17=> ?_)))))
 ·skip
  refine bs (hK5 _ ?_)
  clear hK5;try clear K5
  refine aq (ay (an (aX rfl (bb rfl rfl rfl (ai (da _ _ aa rfl rfl rfl q rfl ab (by exact congrArg (fun z=> 0+1+z) (Nat.mul_one q))) ?_)))))
  refine ai (dH _ _ aa rfl rfl rfl rfl (show 0+1+q+1≤43 by omega) ((congrArg (fun z=> fW (Hf (.ref (60,0) 0 0) (ev q) (d.length:Int) (v.length:Int)) z [.v (.int .i64 (-1))]) ab).trans ((sW _ _ _ _ q ab _).trans (by rw [Cb _ ab])))) ?_
  refine eg (an (aX rfl (ai (aZ _ _ rfl rfl (bE ab)) ?_)))
  refine be rfl (aJ (⟨q+1,?_,?_,?_⟩))
  ·omega
  ·skip
   refine Le.mkJ [] [] rfl ?_ ?_ trivial trivial ?_
   ·exact ⟨(iP rfl),(iP rfl),(iP rfl),(cm ag),trivial⟩
   ·exact ⟨(ci rfl rfl rfl),(ci rfl rfl rfl),(ci rfl rfl rfl),(fi rfl rfl rfl rfl lz),trivial⟩
   kernel_rfl
  omega
 obtain rfl:q=40:=by omega
 rw [Dx]
 refine bA (id (hK3 _ ?_))
 clear hK3;try clear K3
 refine aU fun K8 hK8=> ?_
 refine am (be rfl (aj (ay ?_)))
 refine bq (α:=Nat) (fun j=> j≤H.length) 79 [(1,_),(2,_),(4,_)] [((1,0),_),((2,0),_)] (fun j=> [(6, .v (.int .i64 (j:Int)))]) (fun j=> [((60,0), .row 48 2 (inl (bS (ons.take j) 0))),((4,0), .box 26 [.ref (60,0) 0 (bS (ons.take j) 0).length, .v (.int .i64 (bY (ons.take j) 0)), .v (.int .i64 (bY (ons.take j) 1)), .v (.int .i64 (bY (ons.take j) 2)), .v (.int .i64 (bY (ons.take j) 3)), .v (.int .i64 (bY (ons.take j) 4)), .v (.int .i64 (bY (ons.take j) 5)), .v (.int .i64 (bY (ons.take j) 6)), .v (.int .i64 (bY (ons.take j) 7)), .v (.int .i64 (bY (ons.take j) 8)), .v (.int .i64 (bY (ons.take j) 9)), .v (.int .i64 (bY (ons.take j) 10)), .v (.int .i64 (bY (ons.take j) 11)), .v (.int .i64 (bY (ons.take j) 12)), .v (.int .i64 (bY (ons.take j) 13)), .v (.int .i64 (bY (ons.take j) 14)), .v (.int .i64 (bY (ons.take j) 15)), .v (.int .i64 (bY (ons.take j) 16)), .v (.int .i64 (bY (ons.take j) 17)), .v (.int .i64 (bY (ons.take j) 18)), .v (.int .i64 (bY (ons.take j) 19)), .v (.int .i64 (bY (ons.take j) 20)), .v (.int .i64 (bY (ons.take j) 21)), .v (.int .i64 (bY (ons.take j) 22)), .v (.int .i64 (bY (ons.take j) 23)), .v (.int .i64 (bY (ons.take j) 24)), .v (.int .i64 (bY (ons.take j) 25)), .v (.int .i64 (bY (ons.take j) 26)), .v (.int .i64 (bY (ons.take j) 27)), .v (.int .i64 (bY (ons.take j) 28)), .v (.int .i64 (bY (ons.take j) 29)), .v (.int .i64 (bY (ons.take j) 30)), .v (.int .i64 (bY (ons.take j) 31)), .v (.int .i64 (bY (ons.take j) 32)), .v (.int .i64 (bY (ons.take j) 33)), .v (.int .i64 (bY (ons.take j) 34)), .v (.int .i64 (bY (ons.take j) 35)), .v (.int .i64 (bY (ons.take j) 36)), .v (.int .i64 (bY (ons.take j) 37)), .v (.int .i64 (bY (ons.take j) 38)), .v (.int .i64 (bY (ons.take j) 39)), .v (.int .i64 (d.length:Int)), .v (.int .i64 (v.length:Int))])]) [] [] (fun j=> H.length - j) 0 ?_ (by
  refine Le.mkJ [] [] rfl ?_ ?_ trivial trivial ?_
  ·exact ⟨(iP rfl),(iP rfl),(iP rfl),(cm ag),trivial⟩
  ·exact ⟨(ci rfl rfl rfl),(ci rfl rfl rfl),(eX rfl rfl rfl ag),(fi rfl rfl rfl rfl lz),trivial⟩
  kernel_rfl) ?_
 ·omega
 intro j hj
 have hct:=qs ons j
 refine aU fun K10 hK10=> ?_
 refine am (aX rfl (bb rfl rfl rfl (eZ rfl rfl rfl (ai (bn _ aa rfl) (ai (bl _ _ rfl rfl rfl) (aj (aR rfl (fun hc27=> ?_) (fun hc27=> ?_))))))))
 ·skip
  have hj:j < ons.length:=by omega
  have hct1:=qs ons (j+1)
  have hUh:=U.h _ (List.getElem_mem hj)
  have hUo:=U.ok _ (List.getElem_mem hj)
  have hUp:=U.pp _ (List.getElem_mem hj)
  have hbody:=uB H j ab
  have hg0:=kB H j ab
  rw [hHk j hj] at hbody hg0
  have hsn:=wU (ons.take j) (ons[j])
  have hen:=yA (ons.take j) (ons[j]) hUh
  rw [← AD ons j hj] at hsn hen
  have hsl:=congrArg List.length hsn
  simp only [List.length_append,List.length_cons,List.length_nil] at hsl
  have hcb:=EN (d:=d) (v:=v) (no:=H.length) (on:=mq H) U.nd ab (ons[j]).2 hUo hUp (bS (ons.take j) 0).length ab
  generalize dS (ons[j]).2 (bS (ons.take j) 0).length=C at hsn hsl hcb
  generalize (ons[j]).2=bd at hbody hcb
  generalize (ons[j]).1=h at hbody hg0 hen hUh
  have har:=iz (h:Int) 40 ab ab ab ab
  rw [yy hUh] at har
  refine bs (hK10 _ ?_)
  clear hK10;try clear K10
  refine aq (ay (am (bb rfl rfl rfl (eZ rfl rfl rfl (aX rfl (ai (bo _ _ aa rfl rfl _ rfl ab (by (simp only [aN,bh,bk,bv,bu,bH,bw,bM,eE,aN,List.length_map];omega)) ag) ?_))))))
  refine ai (du _ aa rfl rfl) (ai (bU _ aa rfl (by exact hg0) rfl) ?_)
  refine ai (aH aa al (har) rfl rfl) ?_
  refine be rfl (aj (am (aX rfl (bb rfl rfl rfl (ai (aF _ aa rfl rfl eW) (ai (dh _ aa rfl rfl) (bb rfl rfl rfl (ai (da _ _ aa rfl rfl rfl h rfl ab (by exact congrArg (fun z=> 0+1+z) (Nat.mul_one h))) ?_))))))))
  refine ai (dH _ _ aa rfl rfl rfl rfl (show 0+1+h+1≤43 by omega) ((congrArg (fun z=> fW (Hf (.ref (60,0) 0 (bS (ons.take j) 0).length) (bY (ons.take j)) (d.length:Int) (v.length:Int)) z [.v (.int .i64 ((bS (ons.take j) 0).length:Int))]) ab).trans ((sW _ _ _ _ h ab _).trans (by rw [← hen])))) ?_
  refine aj (aq ?_)
  refine aM (σ':=aD 79 [(1,_),(2,_),(4,_),(6,_)] [((1,0),_),((2,0),_),((60,0),_),((4,0),_)] [] []) kp ?_
  refine bJ 13 [43,44,45,46,47,48,49,50,51,52,53,54,55] [(50,0)] ae ae rfl (aK rfl) (rfl:_=[_,_,_,_,_,_,_,_,_,_,_,_,_]) (rfl:_=[_,_,_]) ?_
  refine ap (_,[]) (fun τ=> aA _ aa rfl rfl rfl) ?_
  refine fP rfl ?_
  refine ap (_,[]) (fun τ=> aF _ aa rfl rfl eW) ?_
  refine fO rfl ?_
  refine ap (_,[]) (fun τ=> az _ aa rfl rfl rfl rfl) ?_
  refine fN rfl ?_
  refine ap (_,[]) (fun τ=> aA _ aa rfl rfl rfl) ?_
  refine fS rfl ?_
  refine ap (_,[]) (fun τ=> aF _ aa rfl rfl eF) ?_
  refine gk rfl ?_
  refine ap (_,[]) (fun τ=> aI _ em) ?_
  refine gU rfl ?_
  refine ap (_,[]) (fun τ=> bo _ _ aa rfl rfl _ rfl ab (by (simp only [aN,bh,bk,bv,bu,bH,bw,bM,eE,aN,List.length_map];omega)) ag) ?_
  refine iL rfl ?_
  refine ap (_,[]) (fun τ=> du _ aa rfl rfl) ?_
  refine jU rfl ?_
  refine ap (_,[]) (fun τ=> cd _ aa rfl (by exact hbody) rfl) ?_
  refine kD rfl ?_
  refine ap (_,[]) (fun τ=> aA _ aa rfl rfl rfl) ?_
  refine fV rfl ?_
  refine ap (_,[]) (fun τ=> aF _ aa rfl rfl eW) ?_
  refine gF rfl ?_
  refine ap (_,[]) (fun τ=> dh _ aa rfl rfl) ?_
  refine kM rfl ?_
  refine ap (_,[((50,0),_)]) (fun τ=> (bV aa [((0,8),(50,0))] ar (hcb.toI) trivial tr tr rfl rfl ae ae)) ?_
  refine mr rfl (bm ⟨rfl,?_⟩)
  refine ai (dq (56,0) _ _ aa rfl rfl (bM _).symm (.ref rfl (nj _) (lS _)) ab rfl (lY _ _) (show (bS (ons.take j) 0).length+C.length=(bS (ons.take j) 0++C).length by simp)) ?_
  refine bb rfl rfl rfl (bF rfl rfl rfl rfl rfl rfl (aj ?_))
  refine aM (σ':=aD 79 [(1,_),(2,_),(4,_),(6,_)] [((1,0),_),((2,0),_),((4,0),_),((56,0),_)] [] []) kp ?_
  refine an (bb rfl rfl rfl (ai (aF _ aa rfl rfl eW) (ai (aL _ aa rfl (by exact eS)) ?_)))
  refine ai (bg _ _ aa rfl ag (by (simp <;> rfl)) ah rfl) ?_
  refine ai (dq (62,0) _ _ aa rfl rfl (bM _).symm (.sl rfl) (by simp;omega) rfl ((fo _ { op:= .stop }).trans (congrArg inl hsn.symm)) (show (bS (ons.take j) 0++C).length+1=(bS (ons.take (j+1)) 0).length by simp [hsl])) ?_
  refine bb rfl rfl rfl (bF rfl rfl rfl rfl rfl rfl (eg (an (aX rfl (ai (aZ _ _ rfl rfl (bE ab)) ?_)))))
  refine be rfl (aJ (⟨j+1,?_,?_,?_⟩))
  ·omega
  ·skip
   refine Le.mkJ [((60,0),(62,0))] [] rfl ?_ ?_ trivial trivial ?_
   ·exact ⟨(dz (id:=(1,0)) rfl),(dz (id:=(2,0)) rfl),(dz (id:=(4,0)) rfl),(cm ag),trivial⟩
   ·exact ⟨(fi rfl rfl rfl rfl (by repeat' (first | exact Lv.sl | exact bf | refine au ?_ ?_))),(fi rfl rfl rfl rfl (by repeat' (first | exact Lv.v | exact bf | refine au ?_ ?_))),(eX rfl rfl rfl ag),(fi rfl rfl rfl rfl lz),trivial⟩
   kernel_rfl
  omega
 obtain rfl:j=ons.length:=by omega
 rw [List.take_length]
 refine bA (id (hK8 _ ?_))
 clear hK8;try clear K8
 refine aq (am (bb rfl rfl rfl (ai (aF _ aa rfl rfl eW) (ai (dh _ aa rfl rfl) (ai (fU _ _ rfl rfl rfl) (aj (aR rfl (fun hc67=> ?_) (fun hc67=> ?_))))))))
 ·skip
  have hco:lc ons≠true:=by
   unfold lc
   rw [decide_eq_false ab,Bool.false_and]
   exact Bool.false_ne_true
  rw [DB,if_neg hco,Kz,if_pos ab]
  refine am (ai (aL _ aa rfl (by exact FA)) ?_)
  exact bF rfl rfl rfl rfl rfl rfl (be rfl (aj (aG (jR (.inr rfl) rfl (.cellA aa rfl rfl rfl) (.tmp kQ) (Le.out [] [] (.tup rfl lz) rfl rfl rfl trivial trivial)))))
 have hl4:(bS ons 0).length≤400:=by omega
 refine aS (aU fun K19 hK19=> ?_)
 refine am (be rfl (aj (ay ?_)))
 refine aM (Le.frzB (4,0) 0 rfl rfl rfl rfl (ys:=inl (bS ons 0)) (by rw [List.drop_zero];exact List.take_of_length_le (by rw [bM];omega)) (by rw [bM];omega)) ?_
 refine bq (α:=Nat) (fun h=> h≤40∧ ∀ k,k < h→ld (bS ons 0) (jq (bS ons 0) (bY ons k)).1 (bS ons 0).length≤16) 79 [(2,_),(4,_)] [((2,0),_)] (fun h=> [(8, .v (.int .i64 (h:Int)))]) (fun h=> [((4,0), .box 26 [.sl (bS ons 0).length (inl (bS ons 0)), .v (.int .i64 (bY ons 0)), .v (.int .i64 (bY ons 1)), .v (.int .i64 (bY ons 2)), .v (.int .i64 (bY ons 3)), .v (.int .i64 (bY ons 4)), .v (.int .i64 (bY ons 5)), .v (.int .i64 (bY ons 6)), .v (.int .i64 (bY ons 7)), .v (.int .i64 (bY ons 8)), .v (.int .i64 (bY ons 9)), .v (.int .i64 (bY ons 10)), .v (.int .i64 (bY ons 11)), .v (.int .i64 (bY ons 12)), .v (.int .i64 (bY ons 13)), .v (.int .i64 (bY ons 14)), .v (.int .i64 (bY ons 15)), .v (.int .i64 (bY ons 16)), .v (.int .i64 (bY ons 17)), .v (.int .i64 (bY ons 18)), .v (.int .i64 (bY ons 19)), .v (.int .i64 (bY ons 20)), .v (.int .i64 (bY ons 21)), .v (.int .i64 (bY ons 22)), .v (.int .i64 (bY ons 23)), .v (.int .i64 (bY ons 24)), .v (.int .i64 (bY ons 25)), .v (.int .i64 (bY ons 26)), .v (.int .i64 (bY ons 27)), .v (.int .i64 (bY ons 28)), .v (.int .i64 (bY ons 29)), .v (.int .i64 (bY ons 30)), .v (.int .i64 (bY ons 31)), .v (.int .i64 (bY ons 32)), .v (.int .i64 (bY ons 33)), .v (.int .i64 (bY ons 34)), .v (.int .i64 (bY ons 35)), .v (.int .i64 (bY ons 36)), .v (.int .i64 (bY ons 37)), .v (.int .i64 (bY ons 38)), .v (.int .i64 (bY ons 39)), .v (.int .i64 (d.length:Int)), .v (.int .i64 (v.length:Int))])]) [] [] (fun h=> 40 - h) 0 ?_ (by
  refine Le.mkJ [] [] rfl ?_ ?_ trivial trivial ?_
  ·exact ⟨(iP rfl),(iP rfl),(cm ag),trivial⟩
  ·exact ⟨(ci rfl rfl rfl),(fi rfl rfl rfl rfl lz),trivial⟩
  kernel_rfl) ?_
 ·exact ⟨Nat.zero_le _,fun k hk=> absurd hk (Nat.not_lt_zero _)⟩
 intro h hh
 obtain ⟨hk,hks⟩:=hh
 refine aU fun K21 hK21=> ?_
 refine am (aX rfl (ai (bl _ _ rfl rfl rfl) (aj (aR rfl (fun hc70=> ?_) (fun hc70=> ?_)))))
 ·skip
  have hh4:h < 40:=by omega
  have hdm:=ny (C:=bS ons 0) (qC U.good (U.ent h)) (B:=1000000) (fun i _=> Nat.le_trans (Bd ons i) hUc) _ (Nat.le_refl _)
  have hde:=wK (bS ons 0) (bY ons) (d.length:Int) (v.length:Int) h hh4 hUc (xC ons) (d++v).length U.good (fun i=> Nat.le_trans (Bd ons i) hUc) (U.ent h)
  refine bs (hK21 _ ?_)
  clear hK21;try clear K21
  refine aq (ay (am (ai (az _ aa rfl rfl rfl rfl) (aX rfl (ai (aH aa al (hde) rfl rfl) ?_)))))
  refine ai (fU _ _ rfl rfl rfl) (aj (aR rfl (fun hc76=> ?_) (fun hc76=> ?_)))
  ·skip
   have hco:lc ons≠true:=fun e=> by
    unfold lc at e
    rw [Bool.and_eq_true,List.all_eq_true] at e
    have:=e.2 h (List.mem_range.2 hh4)
    rw [decide_eq_true_eq] at this
    exact absurd (show ld (bS ons 0) (jq (bS ons 0) (bY ons h)).1 (bS ons 0).length≤16 from this) ab
   rw [DB,if_neg hco,Kz,if_neg ab]
   refine am (ai (aL _ aa rfl (by exact FA)) ?_)
   exact bF rfl rfl rfl rfl rfl rfl (be rfl (aj (aG (jR (.inr rfl) rfl (.cellA aa rfl rfl rfl) (.tmp kQ) (Le.out [] [] (.tup rfl lz) rfl rfl rfl trivial trivial)))))
  refine cq (an (aX rfl (ai (aZ _ _ rfl rfl (bE ab)) ?_)))
  refine be rfl (aJ (⟨h+1,?_,?_,?_⟩))
  ·exact ⟨by omega,fun k hk=> (by
    rcases Nat.lt_or_ge k h with hlt | hge
    ·exact hks k hlt
    obtain rfl:k=h:=by omega
    omega)⟩
  ·skip
   refine Le.mkJ [] [] rfl ?_ ?_ trivial trivial ?_
   ·exact ⟨(iP rfl),(iP rfl),(cm ag),trivial⟩
   ·exact ⟨(ci rfl rfl rfl),(fi rfl rfl rfl rfl lz),trivial⟩
   kernel_rfl
  omega
 obtain rfl:h=40:=by omega
 have hco:lc ons=true:=by
  unfold lc
  rw [Bool.and_eq_true,decide_eq_true_eq,List.all_eq_true]
  exact ⟨hl4,fun k hk=> decide_eq_true (hks k (List.mem_range.1 hk))⟩
 refine bA (id (hK19 _ ?_))
 clear hK19;try clear K19
 refine am (ai (az _ aa rfl rfl rfl rfl) (bF rfl rfl rfl rfl rfl rfl (be rfl (aj (aG ?_)))))
 rw [DB,if_pos hco]
 exact jR (.inr rfl) rfl (.cellA aa rfl rfl rfl) (.tmp kQ) (Le.out [] [] (.tup rfl lz) rfl rfl rfl trivial trivial)

structure mm (s:Tx) (d v:List Tx) (ons:List (Nat×Bk)):Prop extends UOk d v ons where
 p:gv s=some (d,v,wx d v ons)
 l:s.length≤3000
 wl: ∀ p∈ons,pY p.2=true
theorem Bw {s:Tx} {d v:List Tx} {ons:List (Nat×Bk)} (U:mm s d v ons) (hc:lc ons=true):
  Spec Tryz.prog 64 (ba [.v (bt s)] []) (aO (DB d v ons) []):=by
 have h1:=qJ s U.l _ _ _ U.p
 have h2:Spec Tryz.prog 97 (ba [Ki d v (wx d v ons)] []) (aO (.v (.int .i64 0)) []):=qR d v ons U.nd U.len U.ok U.wl U.n
 have h3:=nN d v ons U.toUOk
 rw [DB,if_pos hc] at h3 ⊢
 obtain ⟨H,hH⟩: ∃ H,H=wx d v ons:=⟨_,rfl⟩
 rw [← hH] at h1 h2 h3
 clear hH
 refine Spec.ofN Tryz.func64 rfl Tryz.ntmps64 rfl ?_
 refine am (ai (aC (2,0) aa rfl rfl) (be rfl (aj (am (ej rfl (ai (aH aa al (h1) rfl rfl) ?_))))))
 refine ai (aI _ tU) (ai (co _ rfl pI) (ai (co _ rfl ei) (ai (co _ rfl ei) (ai (aC (4,0) aa rfl rfl) (bF rfl rfl rfl rfl rfl rfl (be rfl (be rfl (aj (aq (am ?_))))))))))
 refine aX rfl (ai (bX (r:=false) _ _ rfl rfl rfl) (aj (aW rfl rfl (aS (am (ai (az _ aa rfl rfl rfl rfl) (ai (aH aa al (h2) rfl rfl) ?_)))))))
 refine be rfl (aj (aq (aq ?_)))
 refine aM (σ':=aD 32 [(2,_),(4,_),(6,_)] [((2,0),_),((4,0),_)] [] []) kp ?_
 refine an (aX rfl (ai (bX (r:=false) _ _ rfl rfl rfl) (aj (aW rfl rfl (aS (am (ai (az _ aa rfl rfl rfl rfl) (ai (aH aa al (h3) rfl rfl) ?_))))))))
 refine ai (aI _ tU) (ai (co _ rfl pI) (ai (co _ rfl ei) (ai (aC (7,0) aa rfl rfl) (bF rfl rfl rfl rfl rfl rfl (be rfl (aj (am (ai (az _ aa rfl rfl rfl rfl) (aX rfl (bF rfl rfl rfl rfl rfl rfl ?_))))))))))
 exact be rfl (aj (aG (jR (.inr rfl) rfl (.cellA aa rfl rfl rfl) (.tmp kQ) (Le.out [] [] (.tup rfl lz) rfl rfl rfl trivial trivial))))
theorem Bl {s:Tx} {d v:List Tx} {ons:List (Nat×Bk)} (U:mm s d v ons) (hc:lc ons≠true):
  Spec Tryz.prog 64 (ba [.v (bt s)] []) (aO (DB d v ons) []):=by
 have h1:=qJ s U.l _ _ _ U.p
 have h2:Spec Tryz.prog 97 (ba [Ki d v (wx d v ons)] []) (aO (.v (.int .i64 0)) []):=qR d v ons U.nd U.len U.ok U.wl U.n
 have h3:=nN d v ons U.toUOk
 rw [DB,if_neg hc] at h3 ⊢
 generalize Kz ons=er at h3 ⊢
 obtain ⟨H,hH⟩: ∃ H,H=wx d v ons:=⟨_,rfl⟩
 rw [← hH] at h1 h2 h3
 clear hH
 refine Spec.ofN Tryz.func64 rfl Tryz.ntmps64 rfl ?_
 refine am (ai (aC (2,0) aa rfl rfl) (be rfl (aj (am (ej rfl (ai (aH aa al (h1) rfl rfl) ?_))))))
 refine ai (aI _ tU) (ai (co _ rfl pI) (ai (co _ rfl ei) (ai (co _ rfl ei) (ai (aC (4,0) aa rfl rfl) (bF rfl rfl rfl rfl rfl rfl (be rfl (be rfl (aj (aq (am ?_))))))))))
 refine aX rfl (ai (bX (r:=false) _ _ rfl rfl rfl) (aj (aW rfl rfl (aS (am (ai (az _ aa rfl rfl rfl rfl) (ai (aH aa al (h2) rfl rfl) ?_)))))))
 refine be rfl (aj (aq (aq ?_)))
 refine aM (σ':=aD 32 [(2,_),(4,_),(6,_)] [((2,0),_),((4,0),_)] [] []) kp ?_
 refine an (aX rfl (ai (bX (r:=false) _ _ rfl rfl rfl) (aj (aW rfl rfl (aS (am (ai (az _ aa rfl rfl rfl rfl) (ai (aH aa al (h3) rfl rfl) ?_))))))))
 refine ai (aI _ tU) (ai (co _ rfl pI) (ai (co _ rfl ei) (ai (aC (7,0) aa rfl rfl) (bF rfl rfl rfl rfl rfl rfl (be rfl (aj (am (ai (az _ aa rfl rfl rfl rfl) (aX rfl (bF rfl rfl rfl rfl rfl rfl ?_))))))))))
 exact be rfl (aj (aG (jR (.inr rfl) rfl (.cellA aa rfl rfl rfl) (.tmp kQ) (Le.out [] [] (.tup rfl lz) rfl rfl rfl trivial trivial))))
theorem wa {s:Tx} {d v:List Tx} {ons:List (Nat×Bk)} (U:mm s d v ons):
  Spec Tryz.prog 64 (ba [.v (bt s)] []) (aO (DB d v ons) []):=by
 by_cases hc:lc ons=true
 ·exact Bw U hc
 exact Bl U hc
def durs:List (List Tx):=[zJ,Dh,BZ,AE,BS,AS,Bz,Ab,Dt,CN,um,vA]
def vols:List (List Tx):=[AB,Cc,Ds,CP,Aq,BR,Dw,Au,BD,Dn,vc,uA]
def onss:List (List (Nat×Bk)):=[ons0,ons1,ons2,ons3,ons4,ons5,ons6,ons7,ons8,ons9,ons10,ons11]
theorem iQ {d v:List Tx} {ons:List (Nat×Bk)} (h:vE ons (d++v).length) (h1:(d++v).Nodup) (h2:(d++v).length≤16) (h3:(ons.all fun p=> sI p.2)=true) (h4:ons.length≤1000):UOk d v ons:=
 ⟨h1,h2,h.ok,fun p hp=> (List.all_eq_true.1 h3) p hp,h.h,by have:=h.n;omega,h4⟩
theorem JX:mm (srcs.getD 0 []) zJ AB ons0:=⟨iQ srcOk0 ah ah ae ah,Ip,of_decide_eq_true ae,srcOk0.wl⟩
theorem Jr:mm (srcs.getD 1 []) Dh Cc ons1:=⟨iQ srcOk1 ah ah ae ah,HE,of_decide_eq_true ae,srcOk1.wl⟩
theorem JD:mm (srcs.getD 2 []) BZ Ds ons2:=⟨iQ srcOk2 ah ah ae ah,HQ,of_decide_eq_true ae,srcOk2.wl⟩
theorem JJ:mm (srcs.getD 3 []) AE CP ons3:=⟨iQ srcOk3 ah ah ae ah,HG,of_decide_eq_true ae,srcOk3.wl⟩
theorem Jn:mm (srcs.getD 4 []) BS Aq ons4:=⟨iQ srcOk4 ah ah ae ah,Hy,of_decide_eq_true ae,srcOk4.wl⟩
theorem JW:mm (srcs.getD 5 []) AS BR ons5:=⟨iQ srcOk5 ah ah ae ah,Hz,of_decide_eq_true ae,srcOk5.wl⟩
theorem Kb:mm (srcs.getD 6 []) Bz Dw ons6:=⟨iQ srcOk6 ah ah ae ah,IZ,of_decide_eq_true ae,srcOk6.wl⟩
theorem JK:mm (srcs.getD 7 []) Ab Au ons7:=⟨iQ srcOk7 ah ah ae ah,IU,of_decide_eq_true ae,srcOk7.wl⟩
theorem JO:mm (srcs.getD 8 []) Dt BD ons8:=⟨iQ srcOk8 ah ah ae ah,Id,of_decide_eq_true ae,srcOk8.wl⟩
theorem Kh:mm (srcs.getD 9 []) CN Dn ons9:=⟨iQ srcOk9 ah ah ae ah,IK,of_decide_eq_true ae,srcOk9.wl⟩
theorem IO:mm (srcs.getD 10 []) um vc ons10:=⟨iQ srcOk10 ah ah ae ah,FY,of_decide_eq_true ae,srcOk10.wl⟩
theorem Ic:mm (srcs.getD 11 []) vA uA ons11:=⟨iQ srcOk11 ah ah ae ah,Gf,of_decide_eq_true ae,srcOk11.wl⟩
theorem Jz (k:Nat) (hk:k < 12):mm (srcs.getD k []) (durs.getD k []) (vols.getD k []) (onss.getD k [])∧vE (onss.getD k []) (durs.getD k []++vols.getD k []).length:=by
 rcases k with _ | _ | _ | _ | _ | _ | _ | _ | _ | _ | _ | _ | k
 ·exact ⟨JX,srcOk0⟩
 ·exact ⟨Jr,srcOk1⟩
 ·exact ⟨JD,srcOk2⟩
 ·exact ⟨JJ,srcOk3⟩
 ·exact ⟨Jn,srcOk4⟩
 ·exact ⟨JW,srcOk5⟩
 ·exact ⟨Kb,srcOk6⟩
 ·exact ⟨JK,srcOk7⟩
 ·exact ⟨JO,srcOk8⟩
 ·exact ⟨Kh,srcOk9⟩
 ·exact ⟨IO,srcOk10⟩
 ·exact ⟨Ic,srcOk11⟩
 omega
theorem tD:Spec Tryz.prog 108 (ba [] []) (aO (.sl 12 (fm srcs)) []):=by
 refine Spec.ofN Tryz.func108 rfl Tryz.ntmps108 rfl ?_
 refine am (ai (bp _ fy) (aj (am (ai (bg _ _ aa rfl ag (by (simp <;> rfl)) ah rfl) ?_))))
 exact kE rfl (aj (aG (bG (.inr rfl) rfl (.tmp nh) (Le.out [] [] (iY rfl ae) rfl rfl rfl trivial trivial))))
theorem uL (n:Int) (h1: -9223372036854775808≤n) (h2:n≤9223372036854775807):
  Spec Tryz.prog 75 (ba [.v (.int .i64 n)] []) (aO (.v (bt (srcs.getD (dx n 12).toNat []))) []):=by
 have ha:=iz n 12 ab ab h1 h2
 have hlo:=gZ n 12 ab
 have hhi:=jj n 12 ab
 obtain ⟨k,hk⟩: ∃ k:Nat,dx n 12=(k:Int):=⟨(dx n 12).toNat,by omega⟩
 rw [hk] at ha hlo hhi ⊢
 have hk2:k < srcs.length:=by rw [zF];omega
 have hg:=jK srcs k hk2
 have hs:=tD
 rw [Int.toNat_natCast]
 generalize srcs=S at hg hs hk2
 refine Spec.ofN Tryz.func75 rfl Tryz.ntmps75 rfl ?_
 refine am (oT rfl (aj (am (ai (aH aa (by repeat' (exact cV)) (hs) rfl rfl) ?_))))
 refine kE rfl (aj (am (eY rfl (aX rfl (eY rfl (ai (bn _ aa rfl) (ai (aH aa al (ha) rfl rfl) ?_)))))))
 refine ai (bo _ _ aa rfl rfl _ rfl ab (by (simp only [aN,bh,bk,bv,bu,bH,bw,bM,eE,aN,List.length_map];omega)) (by exact Nat.mul_one _)) ?_
 refine ai (bU _ aa rfl (by exact hg) rfl) ?_
 exact oT rfl (aj (aG (fu rfl rfl)))
theorem sQ (n:Int) (h1: -9223372036854775808≤n) (h2:n≤9223372036854775807):
  Spec Tryz.prog 39 (ba [.v (.int .i64 n)] []) (aO (OJ (durs.getD (dx n 12).toNat []) (vols.getD (dx n 12).toNat []) (onss.getD (dx n 12).toNat [])) []):=by
 have hs:=uL n h1 h2
 have hlo:=gZ n 12 ab
 have hhi:=jj n 12 ab
 obtain ⟨k,hk⟩: ∃ k:Nat,dx n 12=(k:Int):=⟨(dx n 12).toNat,by omega⟩
 rw [hk] at hs hlo hhi ⊢
 rw [Int.toNat_natCast] at hs ⊢
 obtain ⟨U,hS⟩:=Jz k ab
 have hb:=wa U
 rw [DB,if_pos (zq hS)] at hb
 generalize srcs.getD k []=s at hs hb
 generalize durs.getD k []=d at hb ⊢
 generalize vols.getD k []=v at hb ⊢
 generalize onss.getD k []=ons at hb ⊢
 clear U hS
 refine Spec.ofN Tryz.func39 rfl Tryz.ntmps39 rfl ?_
 refine am (ai (aC (2,0) aa rfl rfl) (aj (am (aX rfl (ai (aH aa al (hs) rfl rfl) ?_)))))
 refine ai (aH aa al (hb) rfl rfl) ?_
 refine ai (aI _ tU) (ai (co _ rfl pI) (ai (co _ rfl ei) (ai (aC (3,0) aa rfl rfl) (bF rfl rfl rfl rfl rfl rfl (be rfl (aj (am (ai (az _ aa rfl rfl rfl rfl) (bF rfl rfl rfl rfl rfl rfl (aj ?_))))))))))
 exact aG (bG (.inr rfl) rfl (.cellA aa rfl rfl rfl) (Le.out [] [] (.agg rfl lz) rfl rfl rfl trivial trivial))

structure GL (L:List Int):Prop where
 n:L.length≤4611686018427387904
 r: ∀ x∈L, -9223372036854775808≤x∧x≤9223372036854775807

structure Pg where
 c:List eV
 e:Nat→Int
 d:Nat
 v:Nat
abbrev QB (p:Pg):List AV:=Et p.c.length (inl p.c) p.e (p.d:Int) (p.v:Int)
abbrev ii (p:Pg):AV:= .agg (QB p)
end Go.Proofs.YtmjnackchaahbaaGreat
