/- Part 13 of the texts that the walk leans on: the machine, the walks, the plain laws. -/
import Derived.Test.YtmjnackchaahbaaGreatNkZ12
set_option linter.unusedSimpArgs false
set_option linter.unusedVariables false
namespace Go.Proofs.YtmjnackchaahbaaGreat
open Go.RowKit

abbrev HG (c:AV) (e:Nat→Int) (d v:Int):List AV:=[c, .v (.int .i64 (e 0)), .v (.int .i64 (e 1)), .v (.int .i64 (e 2)), .v (.int .i64 (e 3)), .v (.int .i64 (e 4)), .v (.int .i64 (e 5)), .v (.int .i64 (e 6)), .v (.int .i64 (e 7)), .v (.int .i64 (e 8)), .v (.int .i64 (e 9)), .v (.int .i64 (e 10)), .v (.int .i64 (e 11)), .v (.int .i64 (e 12)), .v (.int .i64 (e 13)), .v (.int .i64 (e 14)), .v (.int .i64 (e 15)), .v (.int .i64 (e 16)), .v (.int .i64 (e 17)), .v (.int .i64 (e 18)), .v (.int .i64 (e 19)), .v (.int .i64 (e 20)), .v (.int .i64 (e 21)), .v (.int .i64 (e 22)), .v (.int .i64 (e 23)), .v (.int .i64 (e 24)), .v (.int .i64 (e 25)), .v (.int .i64 (e 26)), .v (.int .i64 (e 27)), .v (.int .i64 (e 28)), .v (.int .i64 (e 29)), .v (.int .i64 (e 30)), .v (.int .i64 (e 31)), .v (.int .i64 (e 32)), .v (.int .i64 (e 33)), .v (.int .i64 (e 34)), .v (.int .i64 (e 35)), .v (.int .i64 (e 36)), .v (.int .i64 (e 37)), .v (.int .i64 (e 38)), .v (.int .i64 (e 39)), .v (.int .i64 d), .v (.int .i64 v)]
abbrev Fj (n:Nat) (xs:List PV) (e:Nat→Int) (d v:Int):List AV:=HG (.sl n xs) e d v
def lc (e:Nat→Int) (h:Nat) (x:Int):Nat→Int:=fun k=> if k=h then x else e k
theorem sS (c:AV) (e:Nat→Int) (d v:Int) (h:Nat) (hh:h < 40) (x:Int):fY (HG c e d v) (1+h) [.v (.int .i64 x)]=HG c (lc e h x) d v:=by
 rcases h with _ | _ | _ | _ | _ | _ | _ | _ | _ | _ | _ | _ | _ | _ | _ | _ | _ | _ | _ | _ | _ | _ | _ | _ | _ | _ | _ | _ | _ | _ | _ | _ | _ | _ | _ | _ | _ | _ | _ | _ | h
 all_goals first | rfl | omega
theorem td (n:Nat) (xs:List PV) (e:Nat→Int) (d v:Int) (h:Nat) (hh:h < 40):(Fj n xs e d v)[1+h]? =some (.v (.int .i64 (e h))):=by
 rcases h with _ | _ | _ | _ | _ | _ | _ | _ | _ | _ | _ | _ | _ | _ | _ | _ | _ | _ | _ | _ | _ | _ | _ | _ | _ | _ | _ | _ | _ | _ | _ | _ | _ | _ | _ | _ | _ | _ | _ | _ | h
 all_goals first | rfl | omega
def Gi (l:List Nat):List PV:=l.map fun (x:Nat)=> .v (.int .i64 (x:Int))
@[simp] theorem eH (l:List Nat):(Gi l).length=l.length:=by simp [Gi]
theorem Dx (l:List Nat) (k:Nat) (h:k < l.length):(Gi l)[k]? =some (.v (.int .i64 (l.getD k 0:Int))):=by simp [Gi,h]
theorem yK:Spec Tryz.prog 106 (ba [.v (.int .i64 1)] []) (aP (.v (.int .i64 0)) []):=by
 refine Spec.ofN Tryz.func106 rfl Tryz.ntmps106 rfl ?_
 refine am (bg rfl (aj (aq (am (aX rfl (aj (ay (aq (iC rfl rfl rfl rfl rfl (aS ?_))))))))))
 exact bK rfl rfl (am (bg rfl (aj (aG (fv rfl rfl)))))
theorem AR:Spec Tryz.prog 106 (ba [.v (.int .i64 2)] []) (aP (.v (.int .i64 0)) []):=by
 refine Spec.ofN Tryz.func106 rfl Tryz.ntmps106 rfl ?_
 refine am (bg rfl (aj (aq (am (aX rfl (aj (ay (aq (cK rfl rfl rfl rfl rfl (iC rfl rfl rfl rfl rfl ?_))))))))))
 exact aS (bK rfl rfl (am (bg rfl (aj (aG (fv rfl rfl))))))
theorem uf:Spec Tryz.prog 106 (ba [.v (.int .i64 3)] []) (aP (.v (.int .i64 1)) []):=by
 refine Spec.ofN Tryz.func106 rfl Tryz.ntmps106 rfl ?_
 refine am (bg rfl (aj (aq (am (aX rfl (aj (ay (aq ?_))))))))
 iterate 7 refine cK rfl rfl rfl rfl rfl ?_
 refine aM (σ':=aE 31 [(3,_)] [] [] []) kp ?_
 refine eb rfl rfl rfl rfl rfl (aq ?_)
 iterate 3 refine cK rfl rfl rfl rfl rfl ?_
 exact iC rfl rfl rfl rfl rfl (aS (bK rfl rfl (am (bg rfl (aj (aG (fv rfl rfl)))))))
theorem xD:Spec Tryz.prog 106 (ba [.v (.int .i64 4)] []) (aP (.v (.int .i64 0)) []):=by
 refine Spec.ofN Tryz.func106 rfl Tryz.ntmps106 rfl ?_
 refine am (bg rfl (aj (aq (am (aX rfl (aj (ay (aq ?_))))))))
 iterate 2 refine cK rfl rfl rfl rfl rfl ?_
 exact iC rfl rfl rfl rfl rfl (aS (bK rfl rfl (am (bg rfl (aj (aG (fv rfl rfl)))))))
theorem xM:Spec Tryz.prog 106 (ba [.v (.int .i64 5)] []) (aP (.v (.int .i64 1)) []):=by
 refine Spec.ofN Tryz.func106 rfl Tryz.ntmps106 rfl ?_
 refine am (bg rfl (aj (aq (am (aX rfl (aj (ay (aq ?_))))))))
 iterate 7 refine cK rfl rfl rfl rfl rfl ?_
 refine aM (σ':=aE 31 [(3,_)] [] [] []) kp ?_
 exact eb rfl rfl rfl rfl rfl (aq (iC rfl rfl rfl rfl rfl (aS (bK rfl rfl (am (bg rfl (aj (aG (fv rfl rfl)))))))))
theorem AF:Spec Tryz.prog 106 (ba [.v (.int .i64 6)] []) (aP (.v (.int .i64 2)) []):=by
 refine Spec.ofN Tryz.func106 rfl Tryz.ntmps106 rfl ?_
 refine am (bg rfl (aj (aq (am (aX rfl (aj (ay (aq ?_))))))))
 iterate 7 refine cK rfl rfl rfl rfl rfl ?_
 refine aM (σ':=aE 31 [(3,_)] [] [] []) kp ?_
 refine eb rfl rfl rfl rfl rfl (aq ?_)
 iterate 5 refine cK rfl rfl rfl rfl rfl ?_
 refine eb rfl rfl rfl rfl rfl (aq (iC rfl rfl rfl rfl rfl (aS (bK rfl rfl (aq ?_)))))
 refine aM (σ':=aE 31 [] [] [] []) kp ?_
 exact an (bg rfl (aj (aG (fv rfl rfl))))
theorem Bx:Spec Tryz.prog 106 (ba [.v (.int .i64 7)] []) (aP (.v (.int .i64 2)) []):=by
 refine Spec.ofN Tryz.func106 rfl Tryz.ntmps106 rfl ?_
 refine am (bg rfl (aj (aq (am (aX rfl (aj (ay (aq ?_))))))))
 iterate 7 refine cK rfl rfl rfl rfl rfl ?_
 refine aM (σ':=aE 31 [(3,_)] [] [] []) kp ?_
 refine eb rfl rfl rfl rfl rfl (aq ?_)
 iterate 5 refine cK rfl rfl rfl rfl rfl ?_
 refine eb rfl rfl rfl rfl rfl (aq (cK rfl rfl rfl rfl rfl (aq ?_)))
 refine aM (σ':=aE 31 [(3,_)] [] [] []) kp ?_
 exact zr rfl rfl rfl rfl rfl (aS (bK rfl rfl (am (bg rfl (aj (aG (fv rfl rfl)))))))
theorem BM:Spec Tryz.prog 106 (ba [.v (.int .i64 8)] []) (aP (.v (.int .i64 2)) []):=by
 refine Spec.ofN Tryz.func106 rfl Tryz.ntmps106 rfl ?_
 refine am (bg rfl (aj (aq (am (aX rfl (aj (ay (aq ?_))))))))
 iterate 7 refine cK rfl rfl rfl rfl rfl ?_
 refine aM (σ':=aE 31 [(3,_)] [] [] []) kp ?_
 refine eb rfl rfl rfl rfl rfl (aq ?_)
 iterate 5 refine cK rfl rfl rfl rfl rfl ?_
 refine eb rfl rfl rfl rfl rfl (aq (cK rfl rfl rfl rfl rfl (aq ?_)))
 refine aM (σ':=aE 31 [(3,_)] [] [] []) kp ?_
 exact eb rfl rfl rfl rfl rfl (iC rfl rfl rfl rfl rfl (aS (bK rfl rfl (am (bg rfl (aj (aG (fv rfl rfl))))))))
theorem BX:Spec Tryz.prog 106 (ba [.v (.int .i64 9)] []) (aP (.v (.int .i64 2)) []):=by
 refine Spec.ofN Tryz.func106 rfl Tryz.ntmps106 rfl ?_
 refine am (bg rfl (aj (aq (am (aX rfl (aj (ay (aq ?_))))))))
 iterate 7 refine cK rfl rfl rfl rfl rfl ?_
 refine aM (σ':=aE 31 [(3,_)] [] [] []) kp ?_
 refine eb rfl rfl rfl rfl rfl (aq ?_)
 iterate 5 refine cK rfl rfl rfl rfl rfl ?_
 refine eb rfl rfl rfl rfl rfl (aq (cK rfl rfl rfl rfl rfl (aq ?_)))
 refine aM (σ':=aE 31 [(3,_)] [] [] []) kp ?_
 exact eb rfl rfl rfl rfl rfl (cK rfl rfl rfl rfl rfl (iC rfl rfl rfl rfl rfl (aS (bK rfl rfl (am (bg rfl (aj (aG (fv rfl rfl)))))))))
theorem AP:Spec Tryz.prog 106 (ba [.v (.int .i64 10)] []) (aP (.v (.int .i64 1)) []):=by
 refine Spec.ofN Tryz.func106 rfl Tryz.ntmps106 rfl ?_
 refine am (bg rfl (aj (aq (am (aX rfl (aj (ay (aq ?_))))))))
 iterate 7 refine cK rfl rfl rfl rfl rfl ?_
 refine aM (σ':=aE 31 [(3,_)] [] [] []) kp ?_
 exact eb rfl rfl rfl rfl rfl (aq (cK rfl rfl rfl rfl rfl (iC rfl rfl rfl rfl rfl (aS (bK rfl rfl (am (bg rfl (aj (aG (fv rfl rfl))))))))))
theorem Ek:Spec Tryz.prog 106 (ba [.v (.int .i64 11)] []) (aP (.v (.int .i64 2)) []):=by
 refine Spec.ofN Tryz.func106 rfl Tryz.ntmps106 rfl ?_
 refine am (bg rfl (aj (aq (am (aX rfl (aj (ay (aq ?_))))))))
 iterate 7 refine cK rfl rfl rfl rfl rfl ?_
 refine aM (σ':=aE 31 [(3,_)] [] [] []) kp ?_
 refine eb rfl rfl rfl rfl rfl (aq ?_)
 iterate 5 refine cK rfl rfl rfl rfl rfl ?_
 refine eb rfl rfl rfl rfl rfl (aq (cK rfl rfl rfl rfl rfl (aq ?_)))
 refine aM (σ':=aE 31 [(3,_)] [] [] []) kp ?_
 refine eb rfl rfl rfl rfl rfl ?_
 iterate 2 refine cK rfl rfl rfl rfl rfl ?_
 exact iC rfl rfl rfl rfl rfl (aS (bK rfl rfl (am (bg rfl (aj (aG (fv rfl rfl)))))))
theorem Fd:Spec Tryz.prog 106 (ba [.v (.int .i64 12)] []) (aP (.v (.int .i64 2)) []):=by
 refine Spec.ofN Tryz.func106 rfl Tryz.ntmps106 rfl ?_
 refine am (bg rfl (aj (aq (am (aX rfl (aj (ay (aq ?_))))))))
 iterate 7 refine cK rfl rfl rfl rfl rfl ?_
 refine aM (σ':=aE 31 [(3,_)] [] [] []) kp ?_
 refine eb rfl rfl rfl rfl rfl (aq ?_)
 iterate 5 refine cK rfl rfl rfl rfl rfl ?_
 refine eb rfl rfl rfl rfl rfl (aq (cK rfl rfl rfl rfl rfl (aq ?_)))
 refine aM (σ':=aE 31 [(3,_)] [] [] []) kp ?_
 refine eb rfl rfl rfl rfl rfl ?_
 iterate 3 refine cK rfl rfl rfl rfl rfl ?_
 exact iC rfl rfl rfl rfl rfl (aS (bK rfl rfl (am (bg rfl (aj (aG (fv rfl rfl)))))))
theorem Dy:Spec Tryz.prog 106 (ba [.v (.int .i64 13)] []) (aP (.v (.int .i64 2)) []):=by
 refine Spec.ofN Tryz.func106 rfl Tryz.ntmps106 rfl ?_
 refine am (bg rfl (aj (aq (am (aX rfl (aj (ay (aq ?_))))))))
 iterate 7 refine cK rfl rfl rfl rfl rfl ?_
 refine aM (σ':=aE 31 [(3,_)] [] [] []) kp ?_
 refine eb rfl rfl rfl rfl rfl (aq ?_)
 iterate 5 refine cK rfl rfl rfl rfl rfl ?_
 refine eb rfl rfl rfl rfl rfl (aq (cK rfl rfl rfl rfl rfl (aq ?_)))
 refine aM (σ':=aE 31 [(3,_)] [] [] []) kp ?_
 refine eb rfl rfl rfl rfl rfl ?_
 iterate 4 refine cK rfl rfl rfl rfl rfl ?_
 exact iC rfl rfl rfl rfl rfl (aS (bK rfl rfl (am (bg rfl (aj (aG (fv rfl rfl)))))))
theorem BV:Spec Tryz.prog 106 (ba [.v (.int .i64 14)] []) (aP (.v (.int .i64 1)) []):=by
 refine Spec.ofN Tryz.func106 rfl Tryz.ntmps106 rfl ?_
 refine am (bg rfl (aj (aq (am (aX rfl (aj (ay (aq ?_))))))))
 iterate 7 refine cK rfl rfl rfl rfl rfl ?_
 refine aM (σ':=aE 31 [(3,_)] [] [] []) kp ?_
 refine eb rfl rfl rfl rfl rfl (aq ?_)
 iterate 2 refine cK rfl rfl rfl rfl rfl ?_
 exact iC rfl rfl rfl rfl rfl (aS (bK rfl rfl (am (bg rfl (aj (aG (fv rfl rfl)))))))
theorem xL:Spec Tryz.prog 106 (ba [.v (.int .i64 15)] []) (aP (.v (.int .i64 0)) []):=by
 refine Spec.ofN Tryz.func106 rfl Tryz.ntmps106 rfl ?_
 refine am (bg rfl (aj (aq (am (aX rfl (aj (ay (aq ?_))))))))
 iterate 3 refine cK rfl rfl rfl rfl rfl ?_
 exact iC rfl rfl rfl rfl rfl (aS (bK rfl rfl (am (bg rfl (aj (aG (fv rfl rfl)))))))
theorem AG:Spec Tryz.prog 106 (ba [.v (.int .i64 16)] []) (aP (.v (.int .i64 1)) []):=by
 refine Spec.ofN Tryz.func106 rfl Tryz.ntmps106 rfl ?_
 refine am (bg rfl (aj (aq (am (aX rfl (aj (ay (aq ?_))))))))
 iterate 7 refine cK rfl rfl rfl rfl rfl ?_
 refine aM (σ':=aE 31 [(3,_)] [] [] []) kp ?_
 refine eb rfl rfl rfl rfl rfl (aq ?_)
 iterate 4 refine cK rfl rfl rfl rfl rfl ?_
 exact iC rfl rfl rfl rfl rfl (aS (bK rfl rfl (am (bg rfl (aj (aG (fv rfl rfl)))))))
theorem yC:Spec Tryz.prog 106 (ba [.v (.int .i64 17)] []) (aP (.v (.int .i64 3)) []):=by
 refine Spec.ofN Tryz.func106 rfl Tryz.ntmps106 rfl ?_
 refine am (bg rfl (aj (aq (am (aX rfl (aj (ay (aq ?_))))))))
 iterate 7 refine cK rfl rfl rfl rfl rfl ?_
 refine aM (σ':=aE 31 [(3,_)] [] [] []) kp ?_
 refine eb rfl rfl rfl rfl rfl (aq ?_)
 iterate 5 refine cK rfl rfl rfl rfl rfl ?_
 refine eb rfl rfl rfl rfl rfl (aq (cK rfl rfl rfl rfl rfl (aq ?_)))
 refine aM (σ':=aE 31 [(3,_)] [] [] []) kp ?_
 refine eb rfl rfl rfl rfl rfl ?_
 iterate 5 refine cK rfl rfl rfl rfl rfl ?_
 refine eb rfl rfl rfl rfl rfl (iC rfl rfl rfl rfl rfl (aq ?_))
 refine aM (σ':=aE 31 [] [] [] []) kp ?_
 exact an (bg rfl (aj (aG (fv rfl rfl))))
theorem wa:Spec Tryz.prog 106 (ba [.v (.int .i64 18)] []) (aP (.v (.int .i64 0)) []):=by
 refine Spec.ofN Tryz.func106 rfl Tryz.ntmps106 rfl ?_
 refine am (bg rfl (aj (aq (am (aX rfl (aj (ay (aq ?_))))))))
 iterate 4 refine cK rfl rfl rfl rfl rfl ?_
 exact iC rfl rfl rfl rfl rfl (aS (bK rfl rfl (am (bg rfl (aj (aG (fv rfl rfl)))))))
theorem uX:Spec Tryz.prog 106 (ba [.v (.int .i64 19)] []) (aP (.v (.int .i64 0)) []):=by
 refine Spec.ofN Tryz.func106 rfl Tryz.ntmps106 rfl ?_
 refine am (bg rfl (aj (aq (am (aX rfl (aj (ay (aq ?_))))))))
 iterate 5 refine cK rfl rfl rfl rfl rfl ?_
 exact iC rfl rfl rfl rfl rfl (aS (bK rfl rfl (am (bg rfl (aj (aG (fv rfl rfl)))))))
theorem xT:Spec Tryz.prog 106 (ba [.v (.int .i64 20)] []) (aP (.v (.int .i64 0)) []):=by
 refine Spec.ofN Tryz.func106 rfl Tryz.ntmps106 rfl ?_
 refine am (bg rfl (aj (aq (am (aX rfl (aj (ay (aq ?_))))))))
 iterate 6 refine cK rfl rfl rfl rfl rfl ?_
 refine iC rfl rfl rfl rfl rfl (aS (bK rfl rfl (aq ?_)))
 refine aM (σ':=aE 31 [] [] [] []) kp ?_
 exact an (bg rfl (aj (aG (fv rfl rfl))))
theorem vz:Spec Tryz.prog 106 (ba [.v (.int .i64 21)] []) (aP (.v (.int .i64 2)) []):=by
 refine Spec.ofN Tryz.func106 rfl Tryz.ntmps106 rfl ?_
 refine am (bg rfl (aj (aq (am (aX rfl (aj (ay (aq ?_))))))))
 iterate 7 refine cK rfl rfl rfl rfl rfl ?_
 refine aM (σ':=aE 31 [(3,_)] [] [] []) kp ?_
 refine eb rfl rfl rfl rfl rfl (aq ?_)
 iterate 5 refine cK rfl rfl rfl rfl rfl ?_
 refine eb rfl rfl rfl rfl rfl (aq (cK rfl rfl rfl rfl rfl (aq ?_)))
 refine aM (σ':=aE 31 [(3,_)] [] [] []) kp ?_
 refine eb rfl rfl rfl rfl rfl ?_
 iterate 5 refine cK rfl rfl rfl rfl rfl ?_
 exact zr rfl rfl rfl rfl rfl (am (bg rfl (aj (aG (fv rfl rfl)))))
theorem ym:Spec Tryz.prog 106 (ba [.v (.int .i64 22)] []) (aP (.v (.int .i64 1)) []):=by
 refine Spec.ofN Tryz.func106 rfl Tryz.ntmps106 rfl ?_
 refine am (bg rfl (aj (aq (am (aX rfl (aj (ay (aq ?_))))))))
 iterate 7 refine cK rfl rfl rfl rfl rfl ?_
 refine aM (σ':=aE 31 [(3,_)] [] [] []) kp ?_
 refine eb rfl rfl rfl rfl rfl (aq ?_)
 iterate 5 refine cK rfl rfl rfl rfl rfl ?_
 exact zr rfl rfl rfl rfl rfl (am (bg rfl (aj (aG (fv rfl rfl)))))
theorem yk:Spec Tryz.prog 106 (ba [.v (.int .i64 23)] []) (aP (.v (.int .i64 0)) []):=by
 refine Spec.ofN Tryz.func106 rfl Tryz.ntmps106 rfl ?_
 refine am (bg rfl (aj (aq (am (aX rfl (aj (ay (aq ?_))))))))
 iterate 7 refine cK rfl rfl rfl rfl rfl ?_
 refine aM (σ':=aE 31 [(3,_)] [] [] []) kp ?_
 exact zr rfl rfl rfl rfl rfl (am (bg rfl (aj (aG (fv rfl rfl)))))
theorem rp (o:Opc):Spec Tryz.prog 106 (ba [.v (.int .i64 (o.num:Int))] []) (aP (.v (.int .i64 (o.pops:Int))) []):=by
 cases o
 ·exact yK
 ·exact AR
 ·exact uf
 ·exact xD
 ·exact xM
 ·exact AF
 ·exact Bx
 ·exact BM
 ·exact BX
 ·exact AP
 ·exact Ek
 ·exact Fd
 ·exact Dy
 ·exact BV
 ·exact xL
 ·exact AG
 ·exact yC
 ·exact wa
 ·exact uX
 ·exact xT
 ·exact vz
 ·exact ym
 exact yk
theorem yy:Spec Tryz.prog 107 (ba [.v (.int .i64 1)] []) (aP (.v (.int .i64 1)) []):=by
 refine Spec.ofN Tryz.func107 rfl Tryz.ntmps107 rfl ?_
 refine am (bg rfl (aj (aq (am (aX rfl (aj (ay (aq (iC rfl rfl rfl rfl rfl (aS ?_))))))))))
 exact bK rfl rfl (am (bg rfl (aj (aG (fv rfl rfl)))))
theorem Cb:Spec Tryz.prog 107 (ba [.v (.int .i64 2)] []) (aP (.v (.int .i64 1)) []):=by
 refine Spec.ofN Tryz.func107 rfl Tryz.ntmps107 rfl ?_
 refine am (bg rfl (aj (aq (am (aX rfl (aj (ay (aq (cK rfl rfl rfl rfl rfl (iC rfl rfl rfl rfl rfl ?_))))))))))
 exact aS (bK rfl rfl (am (bg rfl (aj (aG (fv rfl rfl))))))
theorem ui:Spec Tryz.prog 107 (ba [.v (.int .i64 3)] []) (aP (.v (.int .i64 0)) []):=by
 refine Spec.ofN Tryz.func107 rfl Tryz.ntmps107 rfl ?_
 refine am (bg rfl (aj (aq (am (aX rfl (aj (ay (aq ?_))))))))
 iterate 7 refine cK rfl rfl rfl rfl rfl ?_
 refine aq ?_
 refine aM (σ':=aE 18 [(3,_)] [] [] []) kp ?_
 refine eb rfl rfl rfl rfl rfl ?_
 iterate 4 refine cK rfl rfl rfl rfl rfl ?_
 exact eb rfl rfl rfl rfl rfl (cr (am (bg rfl (aj (aG (fv rfl rfl))))))
theorem xN:Spec Tryz.prog 107 (ba [.v (.int .i64 4)] []) (aP (.v (.int .i64 1)) []):=by
 refine Spec.ofN Tryz.func107 rfl Tryz.ntmps107 rfl ?_
 refine am (bg rfl (aj (aq (am (aX rfl (aj (ay (aq ?_))))))))
 iterate 2 refine cK rfl rfl rfl rfl rfl ?_
 exact iC rfl rfl rfl rfl rfl (aS (bK rfl rfl (am (bg rfl (aj (aG (fv rfl rfl)))))))
theorem xE:Spec Tryz.prog 107 (ba [.v (.int .i64 5)] []) (aP (.v (.int .i64 1)) []):=by
 refine Spec.ofN Tryz.func107 rfl Tryz.ntmps107 rfl ?_
 refine am (bg rfl (aj (aq (am (aX rfl (aj (ay (aq ?_))))))))
 iterate 3 refine cK rfl rfl rfl rfl rfl ?_
 exact iC rfl rfl rfl rfl rfl (aS (bK rfl rfl (am (bg rfl (aj (aG (fv rfl rfl)))))))
theorem CX:Spec Tryz.prog 107 (ba [.v (.int .i64 6)] []) (aP (.v (.int .i64 1)) []):=by
 refine Spec.ofN Tryz.func107 rfl Tryz.ntmps107 rfl ?_
 refine am (bg rfl (aj (aq (am (aX rfl (aj (ay (aq ?_))))))))
 iterate 6 refine cK rfl rfl rfl rfl rfl ?_
 refine iC rfl rfl rfl rfl rfl (aS (bK rfl rfl (aq ?_)))
 refine aM (σ':=aE 18 [] [] [] []) kp ?_
 exact an (bg rfl (aj (aG (fv rfl rfl))))
theorem De:Spec Tryz.prog 107 (ba [.v (.int .i64 7)] []) (aP (.v (.int .i64 1)) []):=by
 refine Spec.ofN Tryz.func107 rfl Tryz.ntmps107 rfl ?_
 refine am (bg rfl (aj (aq (am (aX rfl (aj (ay (aq ?_))))))))
 iterate 7 refine cK rfl rfl rfl rfl rfl ?_
 refine aq ?_
 refine aM (σ':=aE 18 [(3,_)] [] [] []) kp ?_
 exact zr rfl rfl rfl rfl rfl (aS (bK rfl rfl (am (bg rfl (aj (aG (fv rfl rfl)))))))
theorem BL:Spec Tryz.prog 107 (ba [.v (.int .i64 8)] []) (aP (.v (.int .i64 1)) []):=by
 refine Spec.ofN Tryz.func107 rfl Tryz.ntmps107 rfl ?_
 refine am (bg rfl (aj (aq (am (aX rfl (aj (ay (aq ?_))))))))
 iterate 7 refine cK rfl rfl rfl rfl rfl ?_
 refine aq ?_
 refine aM (σ':=aE 18 [(3,_)] [] [] []) kp ?_
 exact eb rfl rfl rfl rfl rfl (iC rfl rfl rfl rfl rfl (aS (bK rfl rfl (am (bg rfl (aj (aG (fv rfl rfl))))))))
theorem zL:Spec Tryz.prog 107 (ba [.v (.int .i64 9)] []) (aP (.v (.int .i64 1)) []):=by
 refine Spec.ofN Tryz.func107 rfl Tryz.ntmps107 rfl ?_
 refine am (bg rfl (aj (aq (am (aX rfl (aj (ay (aq ?_))))))))
 iterate 7 refine cK rfl rfl rfl rfl rfl ?_
 refine aq ?_
 refine aM (σ':=aE 18 [(3,_)] [] [] []) kp ?_
 exact eb rfl rfl rfl rfl rfl (cK rfl rfl rfl rfl rfl (iC rfl rfl rfl rfl rfl (aS (bK rfl rfl (am (bg rfl (aj (aG (fv rfl rfl)))))))))
theorem BA:Spec Tryz.prog 107 (ba [.v (.int .i64 10)] []) (aP (.v (.int .i64 1)) []):=by
 refine Spec.ofN Tryz.func107 rfl Tryz.ntmps107 rfl ?_
 refine am (bg rfl (aj (aq (am (aX rfl (aj (ay (aq ?_))))))))
 iterate 4 refine cK rfl rfl rfl rfl rfl ?_
 exact iC rfl rfl rfl rfl rfl (aS (bK rfl rfl (am (bg rfl (aj (aG (fv rfl rfl)))))))
theorem FV:Spec Tryz.prog 107 (ba [.v (.int .i64 11)] []) (aP (.v (.int .i64 1)) []):=by
 refine Spec.ofN Tryz.func107 rfl Tryz.ntmps107 rfl ?_
 refine am (bg rfl (aj (aq (am (aX rfl (aj (ay (aq ?_))))))))
 iterate 7 refine cK rfl rfl rfl rfl rfl ?_
 refine aq ?_
 refine aM (σ':=aE 18 [(3,_)] [] [] []) kp ?_
 refine eb rfl rfl rfl rfl rfl ?_
 iterate 2 refine cK rfl rfl rfl rfl rfl ?_
 exact iC rfl rfl rfl rfl rfl (aS (bK rfl rfl (am (bg rfl (aj (aG (fv rfl rfl)))))))
theorem FH:Spec Tryz.prog 107 (ba [.v (.int .i64 12)] []) (aP (.v (.int .i64 1)) []):=by
 refine Spec.ofN Tryz.func107 rfl Tryz.ntmps107 rfl ?_
 refine am (bg rfl (aj (aq (am (aX rfl (aj (ay (aq ?_))))))))
 iterate 7 refine cK rfl rfl rfl rfl rfl ?_
 refine aq ?_
 refine aM (σ':=aE 18 [(3,_)] [] [] []) kp ?_
 refine eb rfl rfl rfl rfl rfl ?_
 iterate 3 refine cK rfl rfl rfl rfl rfl ?_
 exact iC rfl rfl rfl rfl rfl (aS (bK rfl rfl (am (bg rfl (aj (aG (fv rfl rfl)))))))
theorem Eb:Spec Tryz.prog 107 (ba [.v (.int .i64 13)] []) (aP (.v (.int .i64 1)) []):=by
 refine Spec.ofN Tryz.func107 rfl Tryz.ntmps107 rfl ?_
 refine am (bg rfl (aj (aq (am (aX rfl (aj (ay (aq ?_))))))))
 iterate 7 refine cK rfl rfl rfl rfl rfl ?_
 refine aq ?_
 refine aM (σ':=aE 18 [(3,_)] [] [] []) kp ?_
 refine eb rfl rfl rfl rfl rfl ?_
 iterate 4 refine cK rfl rfl rfl rfl rfl ?_
 exact zr rfl rfl rfl rfl rfl (am (bg rfl (aj (aG (fv rfl rfl)))))
theorem CA:Spec Tryz.prog 107 (ba [.v (.int .i64 14)] []) (aP (.v (.int .i64 1)) []):=by
 refine Spec.ofN Tryz.func107 rfl Tryz.ntmps107 rfl ?_
 refine am (bg rfl (aj (aq (am (aX rfl (aj (ay (aq ?_))))))))
 iterate 5 refine cK rfl rfl rfl rfl rfl ?_
 exact iC rfl rfl rfl rfl rfl (aS (bK rfl rfl (am (bg rfl (aj (aG (fv rfl rfl)))))))
theorem yn:Spec Tryz.prog 107 (ba [.v (.int .i64 15)] []) (aP (.v (.int .i64 0)) []):=by
 refine Spec.ofN Tryz.func107 rfl Tryz.ntmps107 rfl ?_
 refine am (bg rfl (aj (aq (am (aX rfl (aj (ay (aq ?_))))))))
 iterate 7 refine cK rfl rfl rfl rfl rfl ?_
 refine aq ?_
 refine aM (σ':=aE 18 [(3,_)] [] [] []) kp ?_
 refine eb rfl rfl rfl rfl rfl ?_
 iterate 4 refine cK rfl rfl rfl rfl rfl ?_
 exact eb rfl rfl rfl rfl rfl (cr (am (bg rfl (aj (aG (fv rfl rfl))))))
theorem Am:Spec Tryz.prog 107 (ba [.v (.int .i64 16)] []) (aP (.v (.int .i64 0)) []):=by
 refine Spec.ofN Tryz.func107 rfl Tryz.ntmps107 rfl ?_
 refine am (bg rfl (aj (aq (am (aX rfl (aj (ay (aq ?_))))))))
 iterate 7 refine cK rfl rfl rfl rfl rfl ?_
 refine aq ?_
 refine aM (σ':=aE 18 [(3,_)] [] [] []) kp ?_
 refine eb rfl rfl rfl rfl rfl ?_
 iterate 4 refine cK rfl rfl rfl rfl rfl ?_
 exact eb rfl rfl rfl rfl rfl (cr (am (bg rfl (aj (aG (fv rfl rfl))))))
theorem yY:Spec Tryz.prog 107 (ba [.v (.int .i64 17)] []) (aP (.v (.int .i64 0)) []):=by
 refine Spec.ofN Tryz.func107 rfl Tryz.ntmps107 rfl ?_
 refine am (bg rfl (aj (aq (am (aX rfl (aj (ay (aq ?_))))))))
 iterate 7 refine cK rfl rfl rfl rfl rfl ?_
 refine aq ?_
 refine aM (σ':=aE 18 [(3,_)] [] [] []) kp ?_
 refine eb rfl rfl rfl rfl rfl ?_
 iterate 4 refine cK rfl rfl rfl rfl rfl ?_
 exact eb rfl rfl rfl rfl rfl (cr (am (bg rfl (aj (aG (fv rfl rfl))))))
theorem wc:Spec Tryz.prog 107 (ba [.v (.int .i64 18)] []) (aP (.v (.int .i64 0)) []):=by
 refine Spec.ofN Tryz.func107 rfl Tryz.ntmps107 rfl ?_
 refine am (bg rfl (aj (aq (am (aX rfl (aj (ay (aq ?_))))))))
 iterate 7 refine cK rfl rfl rfl rfl rfl ?_
 refine aq ?_
 refine aM (σ':=aE 18 [(3,_)] [] [] []) kp ?_
 refine eb rfl rfl rfl rfl rfl ?_
 iterate 4 refine cK rfl rfl rfl rfl rfl ?_
 exact eb rfl rfl rfl rfl rfl (cr (am (bg rfl (aj (aG (fv rfl rfl))))))
theorem uO:Spec Tryz.prog 107 (ba [.v (.int .i64 19)] []) (aP (.v (.int .i64 0)) []):=by
 refine Spec.ofN Tryz.func107 rfl Tryz.ntmps107 rfl ?_
 refine am (bg rfl (aj (aq (am (aX rfl (aj (ay (aq ?_))))))))
 iterate 7 refine cK rfl rfl rfl rfl rfl ?_
 refine aq ?_
 refine aM (σ':=aE 18 [(3,_)] [] [] []) kp ?_
 refine eb rfl rfl rfl rfl rfl ?_
 iterate 4 refine cK rfl rfl rfl rfl rfl ?_
 exact eb rfl rfl rfl rfl rfl (cr (am (bg rfl (aj (aG (fv rfl rfl))))))
theorem yZ:Spec Tryz.prog 107 (ba [.v (.int .i64 20)] []) (aP (.v (.int .i64 0)) []):=by
 refine Spec.ofN Tryz.func107 rfl Tryz.ntmps107 rfl ?_
 refine am (bg rfl (aj (aq (am (aX rfl (aj (ay (aq ?_))))))))
 iterate 7 refine cK rfl rfl rfl rfl rfl ?_
 refine aq ?_
 refine aM (σ':=aE 18 [(3,_)] [] [] []) kp ?_
 refine eb rfl rfl rfl rfl rfl ?_
 iterate 4 refine cK rfl rfl rfl rfl rfl ?_
 exact eb rfl rfl rfl rfl rfl (cr (am (bg rfl (aj (aG (fv rfl rfl))))))
theorem vN:Spec Tryz.prog 107 (ba [.v (.int .i64 21)] []) (aP (.v (.int .i64 0)) []):=by
 refine Spec.ofN Tryz.func107 rfl Tryz.ntmps107 rfl ?_
 refine am (bg rfl (aj (aq (am (aX rfl (aj (ay (aq ?_))))))))
 iterate 7 refine cK rfl rfl rfl rfl rfl ?_
 refine aq ?_
 refine aM (σ':=aE 18 [(3,_)] [] [] []) kp ?_
 refine eb rfl rfl rfl rfl rfl ?_
 iterate 4 refine cK rfl rfl rfl rfl rfl ?_
 exact eb rfl rfl rfl rfl rfl (cr (am (bg rfl (aj (aG (fv rfl rfl))))))
theorem yc:Spec Tryz.prog 107 (ba [.v (.int .i64 22)] []) (aP (.v (.int .i64 0)) []):=by
 refine Spec.ofN Tryz.func107 rfl Tryz.ntmps107 rfl ?_
 refine am (bg rfl (aj (aq (am (aX rfl (aj (ay (aq ?_))))))))
 iterate 7 refine cK rfl rfl rfl rfl rfl ?_
 refine aq ?_
 refine aM (σ':=aE 18 [(3,_)] [] [] []) kp ?_
 refine eb rfl rfl rfl rfl rfl ?_
 iterate 4 refine cK rfl rfl rfl rfl rfl ?_
 exact eb rfl rfl rfl rfl rfl (cr (am (bg rfl (aj (aG (fv rfl rfl))))))
theorem yd:Spec Tryz.prog 107 (ba [.v (.int .i64 23)] []) (aP (.v (.int .i64 0)) []):=by
 refine Spec.ofN Tryz.func107 rfl Tryz.ntmps107 rfl ?_
 refine am (bg rfl (aj (aq (am (aX rfl (aj (ay (aq ?_))))))))
 iterate 7 refine cK rfl rfl rfl rfl rfl ?_
 refine aq ?_
 refine aM (σ':=aE 18 [(3,_)] [] [] []) kp ?_
 refine eb rfl rfl rfl rfl rfl ?_
 iterate 4 refine cK rfl rfl rfl rfl rfl ?_
 exact eb rfl rfl rfl rfl rfl (cr (am (bg rfl (aj (aG (fv rfl rfl))))))
theorem rB (o:Opc):Spec Tryz.prog 107 (ba [.v (.int .i64 (o.num:Int))] []) (aP (.v (.int .i64 (o.puts:Int))) []):=by
 cases o
 ·exact yy
 ·exact Cb
 ·exact ui
 ·exact xN
 ·exact xE
 ·exact CX
 ·exact De
 ·exact BL
 ·exact zL
 ·exact BA
 ·exact FV
 ·exact FH
 ·exact Eb
 ·exact CA
 ·exact yn
 ·exact Am
 ·exact yY
 ·exact wc
 ·exact uO
 ·exact yZ
 ·exact vN
 ·exact yc
 exact yd
theorem opn_stop {o:Opc}:(o.num:Int)=23↔o= .stop:=by cases o <;> simp [Opc.num]
theorem opn_jump {o:Opc}:(o.num:Int)=15↔o= .jump:=by cases o <;> simp [Opc.num]
theorem opn_unl {o:Opc}:(o.num:Int)=16↔o= .unl:=by cases o <;> simp [Opc.num]
theorem xK (C:List eW) (e:Nat→Int) (dd vv:Int) (i:Nat) (hC:C.length≤1000000) (hi:i < C.length) (hn:(cW C i).op= .jump∨(cW C i).op= .unl→0≤(cW C i).n):
  Spec Tryz.prog 73 (ba [.agg (Fj C.length (inl C) e dd vv), .v (.int .i64 (i:Int))] []) (aP (.sl (dT i (cW C i)).length (Gi (dT i (cW C i)))) []):=by
 obtain ⟨x,hx⟩: ∃ x,x=cW C i:=⟨_,rfl⟩
 have hg0:=mZ C i hi
 have hg1:=Br C i hi
 rw [← hx] at hn hg0 hg1 ⊢
 clear hx
 obtain ⟨o,n⟩:=x
 simp only at hn hg0 hg1
 refine Spec.ofN Tryz.func73 rfl Tryz.ntmps73 rfl ?_
 refine am (ai (aQ (2,0) _ rfl rfl) (ai (bp _ fA) (aj (aq (am (bc rfl rfl rfl (eQ rfl rfl rfl (aX rfl (ai (bn _ _ aa rfl rfl _ rfl ab (by (simp only [aL,bb,bj,bv,bu,bG,bw,bO,eH];omega)) ag) ?_)))))))))
 refine ai (cX _ aa rfl rfl) (ai (bL _ aa rfl (by exact hg0) rfl) ?_)
 refine aj (ay (am (ai (bC _ _ rfl rfl rfl) (cu rfl (aj (aR rfl (fun hc11=> ?_) (fun hc11=> ?_)))))))
 ·skip
  obtain rfl:=opn_stop.1 hc11
  exact am (ai (bp _ fA) (aj (aG (bH (.inr rfl) rfl (.tmp kL) (Le.out [] [] .nil rfl rfl rfl trivial trivial)))))
 refine am (ai (bC _ _ rfl rfl rfl) (cu rfl (aj (aR rfl (fun hc13=> ?_) (fun hc13=> ?_)))))
 ·skip
  obtain rfl:=opn_jump.1 hc13
  have hn:=hn (.inl rfl)
  refine am (bc rfl rfl rfl (eQ rfl rfl rfl (aX rfl (ai (bn _ _ aa rfl rfl _ rfl ab (by (simp only [aL,bb,bj,bv,bu,bG,bw,bO,eH];omega)) ag) ?_))))
  refine ai (cX _ aa rfl rfl) (ai (bL _ aa rfl (by exact hg1) rfl) ?_)
  refine ai (bh _ _ aa rfl ag (by (simp <;> rfl)) ah rfl) ?_
  exact kB rfl (aj (aG (bH (.inr rfl) rfl (.tmp mx) (Le.out [] [] (ja rfl (by simp [Gi,dT,Int.toNat_of_nonneg hn])) rfl rfl rfl trivial trivial))))
 refine am (ai (bC _ _ rfl rfl rfl) (cu rfl (aj (aR rfl (fun hc22=> ?_) (fun hc22=> ?_)))))
 ·skip
  obtain rfl:=opn_unl.1 hc22
  have hn:=hn (.inr rfl)
  refine am (aX rfl (ai (aZ _ _ rfl rfl (bD ab)) ?_))
  refine bc rfl rfl rfl (eQ rfl rfl rfl (aX rfl (ai (bn _ _ aa rfl rfl _ rfl ab (by (simp only [aL,bb,bj,bv,bu,bG,bw,bO,eH];omega)) ag) ?_)))
  refine ai (cX _ aa rfl rfl) (ai (bL _ aa rfl (by exact hg1) rfl) ?_)
  refine ai (bh _ _ aa rfl ag (by (simp <;> rfl)) ah rfl) ?_
  exact kB rfl (aj (aG (bH (.inr rfl) rfl (.tmp mx) (Le.out [] [] (ja rfl (by simp [Gi,dT,Int.toNat_of_nonneg hn])) rfl rfl rfl trivial trivial))))
 have hs:dT i ⟨o,n⟩=[i+1]:=by
  unfold dT
  have h1:o≠ .stop:=fun e=> hc11 (opn_stop.2 e)
  have h2:o≠ .jump:=fun e=> hc13 (opn_jump.2 e)
  have h3:o≠ .unl:=fun e=> hc22 (opn_unl.2 e)
  cases o <;> first | rfl | exact absurd rfl h1 | exact absurd rfl h2 | exact absurd rfl h3
 refine cr (am (aX rfl (ai (aZ _ _ rfl rfl (bD ab)) ?_)))
 refine ai (bh _ _ aa rfl ag (by (simp <;> rfl)) ah rfl) ?_
 refine kB rfl (aj (aG ?_))
 rw [hs]
 exact bH (.inr rfl) rfl (.tmp mx) (Le.out [] [] (ja rfl (by simp [Gi])) rfl rfl rfl trivial trivial)
instance PH:Arr Tryz.prog 24 40 1:=Arr.of Tryz.underlying24 ae
instance QD:Arr Tryz.prog 30 9 1:=Arr.of Tryz.underlying30 ae
instance Qo:Arr Tryz.prog 81 41 1:=Arr.of Tryz.underlying81 ae
instance Ob:Arr Tryz.prog 173 24 1:=Arr.of Tryz.underlying173 ae

theorem ii {l:List Int} {i:Nat} (h:i < l.length):l.getD i (-1)=l.getD i 0:=by
 rw [List.getD_eq_getElem?_getD,List.getD_eq_getElem?_getD,List.getElem?_eq_getElem h];rfl
theorem vM {n:Nat} {d:Int} {s:DS} {l:List Nat} {k:Nat} (h:k < l.length):(l.take (k+1)).foldl (jC n d) s=jC n d ((l.take k).foldl (jC n d) s) (l.getD k 0):=by
 rw [List.take_succ_eq_append_getElem h,List.foldl_append,List.getD_eq_getElem?_getD,List.getElem?_eq_getElem h];rfl
theorem Es (n k:Nat) (h:k < n):((List.replicate k (-1:Int))++List.replicate (n - k) 0).set k (-1)=List.replicate (k+1) (-1)++List.replicate (n - (k+1)) 0:=by
 rw [List.set_append_right _ _ (by simp),List.length_replicate,Nat.sub_self,show n - k=(n - (k+1))+1 by omega,List.replicate_succ,List.set_cons_zero,show List.replicate (k+1) (-1:Int)=List.replicate k (-1)++[-1] from List.replicate_succ']
 simp
theorem Bg {ρ:aC→aC} {σ:St} {F:aC→Bool} {id:aC} {e:TypeId} {sz n m:Nat} {xs ys:List PV} (hid:σ.ob id= .obj (.row e sz xs)) (hF:F id=true) (hl:n*sz=xs.length) (hy:xs=ys) (hn:n=m):Lv ρ σ F (.sl m ys) (.ref id 0 n):=by
 subst hn;exact fj hid hF hl hy
theorem DI.flag {D:Nat→Nat} {n:Nat} {s:DS} {b:Bool} (h:DI D n s):DI D n (s.1,s.2.1,b):=⟨h.len,h.val,h.ok⟩
def zg (C:List eW) (R:List Int×Bool) (z:(List Int×Bool)×Bool):Prop:=if z.2=true then ∃ f,neg z.1.1+1≤f∧jN C f z.1=R else z.1=R
theorem yf {C:List eW} {R:List Int×Bool} {s:List Int×Bool} {f:Nat} (hf:neg s.1+1≤f) (hR:jN C f s=R) (hd:(dD C s C.length).2.2=true→neg (dD C s C.length).1 < neg s.1):
  zg C R (((dD C s C.length).1,(dD C s C.length).2.1),(dD C s C.length).2.2):=by
 obtain ⟨g,rfl⟩: ∃ g,f=g+1:=⟨f - 1,by omega⟩
 unfold zg
 cases hb:(dD C s C.length).2.2 with
 | true=>
  have:=hd hb
  rw [if_pos rfl]
  exact ⟨g,by simp only;omega,by rw [← hR,wi hb]⟩
 | false=> rw [if_neg (by simp)];rw [← hR,vE hb]
def Kf (z:(List Int×Bool)×Bool):Nat:=if z.2=true then neg z.1.1+1 else 0
theorem HX {C:List eW} {s:List Int×Bool} (hd:(dD C s C.length).2.2=true→neg (dD C s C.length).1 < neg s.1):Kf (((dD C s C.length).1,(dD C s C.length).2.1),(dD C s C.length).2.2) < neg s.1+1:=by
 unfold Kf
 simp only
 split
 ·rename_i h;have:=hd h;omega
 omega
theorem yi {C:List eW} {s:DS} {i:Nat} (h:s.1.getD i (-1) < 0):ll C s i=s:=by unfold ll;rw [if_pos h]
theorem Aw {C:List eW} {s:DS} {i:Nat} (h: ¬ s.1.getD i (-1) < 0) (h2: ¬ s.1.getD i (-1) - (cW C i).op.pops < 0):ll C s i=(dT i (cW C i)).foldl (jC C.length (s.1.getD i (-1) - (cW C i).op.pops+(cW C i).op.puts)) s:=by
 unfold ll EO
 rw [if_neg h,if_neg h2,show max (s.1.getD i (-1) - (cW C i).op.pops) 0=s.1.getD i (-1) - (cW C i).op.pops by omega]
theorem uh (C:List eW) (en:Nat→Int) (dd vv:Int) (e:Int) (hC:C.length≤1000000) (D:Nat→Nat) (nv:Nat) (hg:Good D nv 0 (C.length - 1) 0 C) (hD: ∀ i,D i≤1000000) (he:0≤e→e < C.length→D e.toNat=0):
  Spec Tryz.prog 72 (ba [.agg (Fj C.length (inl C) en dd vv), .v (.int .i64 e)] []) (aP (.tup [.sl (jn C e).1.length (cm (jn C e).1), .v (.bool (jn C e).2)]) []):=by
 refine Spec.ofN Tryz.func72 rfl Tryz.ntmps72 rfl ?_
 refine am (ai (aQ (2,0) _ rfl rfl) (ai (bp _ fA) (cu rfl (aj (am (bc rfl rfl rfl (eQ rfl rfl rfl (ai (bi _ aa rfl) (ai (qG (17,0) _ _ aa rfl rfl C.length rfl rfl ab rfl (oM C.length)) ?_)))))))))
 refine fe rfl (aj (aT fun K3 hK3=> ?_))
 refine am (bg rfl (aj (ay ?_)))
 refine bq (α:=Nat) (fun k=> k≤C.length) 123 [(1,_),(2,_)] [((2,0),_)] (fun k=> [(7, .v (.int .i64 (k:Int))),(6, .ref (6,0) 0 C.length)]) (fun k=> [((6,0), .row 3 1 (cm (List.replicate k (-1)++List.replicate (C.length - k) 0)))]) [] [] (fun k=> C.length - k) 0 ?_ (by
  refine Le.mkJ [((6,0),(17,0))] [] rfl ?_ ?_ trivial trivial ?_
  ·exact ⟨(by repeat' (exact Lv.v)),(du (id:=(2,0)) rfl),(ci ag),(cJ rfl ag),trivial⟩
  ·exact ⟨(eY rfl rfl rfl rfl (by repeat' (first | exact Lv.v | exact Lv.sl | exact bf | refine ax ?_ ?_))),(eZ rfl rfl rfl ag),trivial⟩
  kernel_rfl) ?_
 ·omega
 intro k hk
 have hll:(List.replicate k (-1:Int)++List.replicate (C.length - k) 0).length=C.length:=by simp;omega
 refine aT fun K5 hK5=> ?_
 refine am (aX rfl (gz rfl (ai (dg _ aa rfl rfl) (ai (bm _ _ rfl rfl rfl) (aj (aR rfl (fun hc21=> ?_) (fun hc21=> ?_)))))))
 ·skip
  have hrs:=Es C.length k ab
  refine br (hK5 _ ?_)
  clear hK5;try clear K5
  refine aq (ay (an (gz rfl (aX rfl (ai (gx _ _ aa rfl rfl rfl _ rfl ab (by exact (Nat.zero_add _).trans (Nat.mul_one _))) ?_)))))
  refine ai (oR _ _ aa rfl rfl rfl rfl rfl (by simp;omega) ((lS _ _ _ ab).trans (congrArg cm hrs))) ?_
  refine eh (an (aX rfl (ai (aZ _ _ rfl rfl (bD ab)) ?_)))
  refine bg rfl (aJ (⟨k+1,?_,?_,?_⟩))
  ·omega
  ·skip
   refine Le.mkJ [] [] rfl ?_ ?_ trivial trivial ?_
   ·exact ⟨(iV rfl),(iP rfl),(ci ag),(cJ rfl ag),trivial⟩
   ·exact ⟨(cj rfl rfl rfl),(eZ rfl rfl rfl ag),trivial⟩
   kernel_rfl
  omega
 obtain rfl:k=C.length:=by omega
 have hrep:List.replicate C.length (-1:Int)++List.replicate (C.length - C.length) 0=List.replicate C.length (-1):=by simp
 refine bA (id (hK3 _ ?_))
 clear hK3;try clear K3
 refine aq (am (aX rfl (ai (bm _ _ rfl rfl rfl) (cI rfl (dv (fun hg29=> ?_) (fun hg29=> ?_))))))
 ·skip
  have hdf:jn C e=(List.replicate C.length (-1),true):=if_pos (.inl ab)
  refine aO rfl rfl ah ?_
  refine aO rfl rfl ah ?_
  refine aO rfl rfl ah ?_
  refine aO rfl rfl ah ?_
  refine ai (aD _ _ _ rfl bT) (aj (bK rfl rfl (am (gz rfl (fe rfl (cu rfl (aj (aG ?_))))))))
  rw [hdf]
  exact jS (.inr rfl) rfl (.tmp dR) (.tmp bT) (Le.out [] [(6,0)] (.tup rfl (ax (Bg rfl rfl (by simp) (congrArg cm hrep) (by simp)) lz)) rfl rfl rfl tr trivial)
 refine au rfl rfl (aI _ et) (au rfl rfl (aI _ dR) (au rfl rfl (dg _ aa rfl rfl) (au rfl rfl (fu _ _ rfl rfl rfl) (ai (aD _ _ _ rfl bT) (aj (aR rfl (fun hc34=> ?_) (fun hc34=> ?_)))))))
 ·skip
  have hdf:jn C e=(List.replicate C.length (-1),true):=if_pos (.inr ab)
  refine am (gz rfl (fe rfl (cu rfl (aj (aG ?_)))))
  rw [hdf]
  exact jS (.inr rfl) rfl (.tmp dR) (.tmp bT) (Le.out [] [(6,0)] (.tup rfl (ax (Bg rfl rfl (by simp) (congrArg cm hrep) (by simp)) lz)) rfl rfl rfl tr trivial)
 have hdf:jn C e=jN C (C.length+1) ((List.replicate C.length (-1)).set e.toNat 0,true):=if_neg ab
 have hdi0:DI D C.length ((List.replicate C.length (-1)).set e.toNat 0,true,false):=by
  have hr: ∀ i,(List.replicate C.length (-1:Int)).getD i (-1)= -1:=fun i=> by rw [List.getD_eq_getElem?_getD,List.getElem?_replicate];split <;> rfl
  refine ⟨by simp,fun i hi=> ?_,rfl⟩
  simp only
  rw [kw]
  split
  ·rename_i h;right;rw [h.1,he ab ab];rfl
  exact .inl (hr i)
 have hn0:neg ((List.replicate C.length (-1)).set e.toNat 0)≤C.length:=by
  have:=List.countP_le_length (p:=fun x:Int=> decide (x < 0)) (l:=(List.replicate C.length (-1:Int)).set e.toNat 0)
  simpa [neg] using this
 obtain ⟨R,hR⟩: ∃ R,R=jn C e:=⟨_,rfl⟩
 rw [← hR] at hdf
 refine aS (am (gz rfl (aX rfl (ai (gx _ _ aa rfl rfl rfl e.toNat ab ab (by exact (Nat.zero_add _).trans (Nat.mul_one _))) ?_))))
 refine ai (oR _ _ aa rfl rfl rfl rfl rfl (by simp;omega) ((lS _ _ _ (by simp;omega)).trans (congrArg (fun l=> cm (List.set l e.toNat 0)) hrep))) ?_
 refine aj (aq ?_)
 refine aM (σ':=aE 123 [(2,_),(6,_)] [((2,0),_),((6,0),_)] [] []) kp ?_
 refine an (cu rfl (aj (aT fun K14 hK14=> ?_)))
 refine am (cu rfl (aj (ay ?_)))
 refine bq (α:=(List Int×Bool)×Bool) (fun z=> DI D C.length (z.1.1,z.1.2,false)∧zg C R z) 123 [(2,_),(6,_)] [((2,0),_)] (fun z=> [(8, .v (.bool z.1.2)),(9, .v (.bool z.2))]) (fun z=> [((6,0), .row 3 1 (cm z.1.1))]) [] [] (fun z=> Kf z) (((List.replicate C.length (-1)).set e.toNat 0,true),true) ?_ (by
  refine Le.mkJ [] [] rfl ?_ ?_ trivial trivial ?_
  ·exact ⟨(iP rfl),(iR rfl),(nX ag),(nX ag),trivial⟩
  ·exact ⟨(cj rfl rfl rfl),(eZ rfl rfl rfl ag),trivial⟩
  kernel_rfl) ?_
 ·exact ⟨hdi0,by unfold zg;rw [if_pos rfl];exact ⟨C.length+1,by simp only;omega,hdf.symm⟩⟩
 intro z hz
 obtain ⟨s,ch⟩:=z
 obtain ⟨hdi,hz⟩:=hz
 simp only at hdi hz ⊢
 refine aT fun K16 hK16=> ?_
 refine am (cI rfl (aj (aR rfl (fun hc39=> ?_) (fun hc39=> ?_))))
 ·skip
  obtain ⟨f,hf1,hf2⟩: ∃ f,neg s.1+1≤f∧jN C f s=R:=by
   unfold zg at hz
   rwa [if_pos hc39] at hz
  have hpd:=(lO hg hdi C.length (Nat.le_refl _)).2.2
  refine br (hK16 _ ?_)
  clear hK16;try clear K16
  refine ay (am (cu rfl (aj (am (bg rfl (aj (ay ?_)))))))
  refine bq (α:=Nat) (fun i=> i≤C.length) 123 [(2,_),(6,_)] [((2,0),_)] (fun i=> [(10, .v (.int .i64 (i:Int))),(8, .v (.bool (dD C s i).2.1)),(9, .v (.bool (dD C s i).2.2))]) (fun i=> [((6,0), .row 3 1 (cm (dD C s i).1))]) [] [] (fun i=> C.length - i) 0 ?_ (by
   refine Le.mkJ [] [] rfl ?_ ?_ trivial trivial ?_
   ·exact ⟨(iP rfl),(iR rfl),(ci ag),(nX ag),(nX ag),trivial⟩
   ·exact ⟨(cj rfl rfl rfl),(eZ rfl rfl rfl ag),trivial⟩
   kernel_rfl) ?_
  ·omega
  intro i hi
  have hw:=(lO hg hdi i hi).1
  have hps:=pM C s i
  have hwl:=hw.len
  refine aT fun K20 hK20=> ?_
  refine am (aX rfl (gz rfl (ai (dg _ aa rfl rfl) (ai (bm _ _ rfl rfl rfl) (aj (aR rfl (fun hc43=> ?_) (fun hc43=> ?_)))))))
  ·skip
   have hdn:=(lO hg hdi (i+1) ab).1
   have hvi:=hw.val i ab
   generalize dD C s i=w at hw hps hwl hvi
   rw [ii ab] at hvi
   obtain ⟨hins,hpop,hsuc⟩:=hg i (cW C i) (by unfold cW;rw [List.getD_eq_getElem?_getD,List.getElem?_eq_getElem ab];rfl)
   rw [Nat.zero_add] at hpop hsuc
   have hDi:=hD i
   refine br (hK20 _ ?_)
   clear hK20;try clear K20
   refine aT fun K22 hK22=> ?_
   refine ay (aq (am (gz rfl (aX rfl (ai (gx _ _ aa rfl rfl rfl _ rfl ab (by exact (Nat.zero_add _).trans (Nat.mul_one _))) ?_)))))
   refine ai (mN _ aa rfl rfl (by exact dI _ _ ab) rfl) ?_
   refine ai (bm _ _ rfl rfl rfl) (aj (aR rfl (fun hc50=> ?_) (fun hc50=> ?_)))
   ·skip
    rw [yi (by rw [ii ab];omega)] at hps
    refine bA (id (hK22 _ ?_))
    clear hK22;try clear K22
    refine an (aX rfl (ai (aZ _ _ rfl rfl (bD ab)) ?_))
    refine bg rfl (aJ (⟨i+1,?_,?_,?_⟩))
    ·omega
    ·skip
     refine Le.mkJ [] [] rfl ?_ ?_ trivial trivial ?_
     ·exact ⟨(iP rfl),(iR rfl),(ci ag),(nX (by (rw [hps]))),(nX (by (rw [hps]))),trivial⟩
     ·exact ⟨(cj rfl rfl rfl),(eZ rfl rfl rfl (by (rw [hps]))),trivial⟩
     kernel_rfl
    omega
   have hvD:=hvi.resolve_left ab
   have hgo:=Aw (C:=C) (s:=w) (i:=i) (by rw [ii ab];omega) (by rw [ii ab];omega)
   rw [ii ab,hvD] at hgo
   rw [hgo] at hps
   obtain ⟨L,hL⟩: ∃ L,L=dT i (cW C i):=⟨_,rfl⟩
   have hLl:L.length≤2:=by rw [hL];unfold dT;split <;> simp
   have hnn:(cW C i).op= .jump∨(cW C i).op= .unl→0≤(cW C i).n:=by
    unfold di at hins
    rintro (e | e) <;> rw [e] at hins <;> exact hins
   have hnx:=xK C en dd vv i hC ab hnn
   rw [← hL] at hps hsuc hnx
   have hpp:=rp (cW C i).op
   have hpq:=rB (cW C i).op
   have hp3:(cW C i).op.pops≤3:=by generalize (cW C i).op=o;cases o <;> decide
   have hp4:(cW C i).op.puts≤1:=by generalize (cW C i).op=o;cases o <;> decide
   refine aS (aq ?_)
   refine aM (σ':=aE 123 [(2,_),(6,_),(8,_),(9,_),(10,_)] [((2,0),_),((6,0),_)] [] []) kp ?_
   refine bJ 13 [51,52,53,54,55,56,57,58,59,60,61,62,11] [] ae ae rfl (aK rfl) (rfl:_=[_,_,_,_,_,_,_,_,_,_,_,_,_]) (rfl:_=[]) ?_
   refine ap (_,[]) (fun τ=> aI _ dR) ?_
   refine fO rfl ?_
   refine ap (_,[]) (fun τ=> aI _ et) ?_
   refine fN rfl ?_
   refine ap (_,[]) (fun τ=> gx _ _ aa rfl rfl rfl _ rfl ab (by exact (Nat.zero_add _).trans (Nat.mul_one _))) ?_
   refine fP rfl ?_
   refine ap (_,[]) (fun τ=> mN _ aa rfl rfl (by exact dI _ _ ab) rfl) ?_
   refine fV rfl ?_
   refine ap (_,[]) (fun τ=> aA _ aa rfl rfl rfl) ?_
   refine gm rfl ?_
   refine ap (_,[]) (fun τ=> aF _ aa rfl rfl ed) ?_
   refine gY rfl ?_
   refine ap (_,[]) (fun τ=> aI _ et) ?_
   refine iH rfl ?_
   refine ap (_,[]) (fun τ=> bn _ _ aa rfl rfl _ rfl ab (by (simp only [aL,bb,bj,bv,bu,bG,bw,bO,eH,aL];omega)) ag) ?_
   refine jU rfl ?_
   refine ap (_,[]) (fun τ=> cX _ aa rfl rfl) ?_
   refine kA rfl ?_
   refine ap (_,[]) (fun τ=> bL _ aa rfl (by exact mZ C i ab) rfl) ?_
   refine gf rfl ?_
   refine ap (_,[]) (fun τ=> (aH aa al (hpp) rfl rfl)) ?_
   refine gJ rfl ?_
   refine ap (_,[]) (fun τ=> kE _ _ rfl rfl (bD (by rw [hvD];omega))) ?_
   refine kS rfl ?_
   refine ap (_,[]) (fun τ=> bp _ et) ?_
   refine mi rfl (bo ⟨rfl,?_⟩)
   refine aj (aq (am (aX rfl (ai (bm _ _ rfl rfl rfl) (aj (aW rfl (decide_eq_false (by rw [hvD];omega)) ?_))))))
   refine aS (aq ?_)
   refine aM (σ':=aE 123 [(2,_),(6,_),(8,_),(9,_),(10,_),(11,_)] [((2,0),_),((6,0),_)] [] []) kp ?_
   refine an (aX rfl (bc rfl rfl rfl (eQ rfl rfl rfl (aX rfl (ai (bn _ _ aa rfl rfl _ rfl ab (by (simp only [aL,bb,bj,bv,bu,bG,bw,bO,eH,aL];omega)) ag) ?_)))))
   refine ai (cX _ aa rfl rfl) (ai (bL _ aa rfl (by exact mZ C i ab) rfl) ?_)
   refine ai (aH aa al (hpq) rfl rfl) ?_
   refine ai (aZ _ _ rfl rfl (bD (by rw [hvD];omega))) ?_
   refine bg rfl (aj (am (ai (az _ aa rfl rfl rfl rfl) (aX rfl (ai (aH aa al (hnx) rfl rfl) ?_)))))
   refine kB rfl (aj (am (bg rfl (aj (ay ?_)))))
   refine bq (α:=Nat) (fun k=> k≤L.length) 123 [(2,_),(6,_),(10,_),(12,_)] [((2,0),_)] (fun k=> [(13, .v (.int .i64 (k:Int))),(11, .v (.int .i64 ((D i:Int) - (cW C i).op.pops+(cW C i).op.puts))),(8, .v (.bool ((L.take k).foldl (jC C.length ((D i:Int) - (cW C i).op.pops+(cW C i).op.puts)) w).2.1)),(9, .v (.bool ((L.take k).foldl (jC C.length ((D i:Int) - (cW C i).op.pops+(cW C i).op.puts)) w).2.2))]) (fun k=> [((6,0), .row 3 1 (cm ((L.take k).foldl (jC C.length ((D i:Int) - (cW C i).op.pops+(cW C i).op.puts)) w).1))]) [] [] (fun k=> L.length - k) 0 ?_ (by
    refine Le.mkJ [] [] rfl ?_ ?_ trivial trivial ?_
    ·exact ⟨(iP rfl),(iR rfl),(iV rfl),(iS rfl),(ci ag),(ci (by rw [hvD])),(nX ag),(nX ag),trivial⟩
    ·exact ⟨(cj rfl rfl rfl),(eZ rfl rfl rfl ag),trivial⟩
    kernel_rfl) ?_
   ·omega
   intro k hk
   have hwd: ∀ j∈L,(D i:Int) - (cW C i).op.pops+(cW C i).op.puts=(D j:Int):=fun j hj=> by have:=(hsuc j hj).2.2;omega
   have hu:=(nI (L.take k) hw (fun j hj=> hwd j (List.mem_of_mem_take hj))).1
   have hul:=hu.len
   refine aT fun K31 hK31=> ?_
   refine am (aX rfl (eO rfl (ai (bi _ aa rfl) (ai (bm _ _ rfl rfl rfl) (aj (aR rfl (fun hc80=> ?_) (fun hc80=> ?_)))))))
   ·skip
    have hfs:=vM (n:=C.length) (d:=(D i:Int) - (cW C i).op.pops+(cW C i).op.puts) (s:=w) (l:=L) (k:=k) ab
    have hu1:=(nI (L.take (k+1)) hw (fun j hj=> hwd j (List.mem_of_mem_take hj))).1.len
    obtain ⟨j,hj⟩: ∃ j,j=L.getD k 0:=⟨_,rfl⟩
    have hjm:j∈L:=by rw [hj,List.getD_eq_getElem?_getD,List.getElem?_eq_getElem ab];exact List.getElem_mem ab
    obtain ⟨hj1,hj2,_⟩:=hsuc j hjm
    have hjn:j < C.length:=by omega
    have hwj:=hwd j hjm
    have hnk:=Dx L k ab
    rw [← hj] at hfs hnk
    have huv:=hu.val j hjn
    rw [ii ab] at huv
    generalize (L.take k).foldl (jC C.length ((D i:Int) - (cW C i).op.pops+(cW C i).op.puts)) w=u at hu hul hfs huv
    refine br (hK31 _ ?_)
    clear hK31;try clear K31
    refine aq (ay (aq (am (eO rfl (aX rfl (ai (bn _ _ aa rfl rfl _ rfl ab (by (simp only [aL,bb,bj,bv,bu,bG,bw,bO,eH,aL];omega)) (by exact Nat.mul_one _)) ?_))))))
    refine ai (bL _ aa rfl (by exact hnk) rfl) ?_
    refine ai (bm _ _ rfl rfl rfl) (cI rfl (dv (fun hg88=> ?_) (fun hg88=> ?_)))
    ·skip
     exact absurd hg88 ab
    refine au rfl rfl (aI _ mx) (au rfl rfl (aI _ et) (au rfl rfl (bn _ _ aa rfl rfl _ rfl ab (by (simp only [aL,bb,bj,bv,bu,bG,bw,bO,eH,aL];omega)) (by exact Nat.mul_one _)) ?_))
    refine au rfl rfl (bL _ aa rfl (by exact hnk) rfl) ?_
    refine au rfl rfl (aI _ dR) (au rfl rfl (dg _ aa rfl rfl) (au rfl rfl (fu _ _ rfl rfl rfl) (ai (aD _ _ _ rfl bT) (aj (aW rfl (decide_eq_false ab) ?_)))))
    refine aS (aq ?_)
    refine aM (σ':=aE 123 [(2,_),(6,_),(8,_),(9,_),(10,_),(11,_),(12,_),(13,_)] [((2,0),_),((6,0),_)] [] []) kp ?_
    refine an (gz rfl (eO rfl (aX rfl (ai (bn _ _ aa rfl rfl _ rfl ab (by (simp only [aL,bb,bj,bv,bu,bG,bw,bO,eH,aL];omega)) (by exact Nat.mul_one _)) ?_))))
    refine ai (bL _ aa rfl (by exact hnk) rfl) ?_
    refine ai (gx _ _ aa rfl rfl rfl _ rfl ab (by exact (Nat.zero_add _).trans (Nat.mul_one _))) ?_
    refine ai (mN _ aa rfl rfl (by exact dI _ _ ab) rfl) ?_
    refine ai (bm _ _ rfl rfl rfl) (aj (aR rfl (fun hc104=> ?_) (fun hc104=> ?_)))
    ·skip
     have hds:jC C.length ((D i:Int) - (cW C i).op.pops+(cW C i).op.puts) u j=(u.1.set j ((D i:Int) - (cW C i).op.pops+(cW C i).op.puts),u.2.1,true):=by
      unfold jC
      rw [if_neg ab,if_pos (by rw [ii ab];omega)]
     rw [hds] at hfs
     refine am (gz rfl (eO rfl (aX rfl (ai (bn _ _ aa rfl rfl _ rfl ab (by (simp only [aL,bb,bj,bv,bu,bG,bw,bO,eH,aL];omega)) (by exact Nat.mul_one _)) ?_))))
     refine ai (bL _ aa rfl (by exact hnk) rfl) ?_
     refine aX rfl (ai (gx _ _ aa rfl rfl rfl _ rfl ab (by exact (Nat.zero_add _).trans (Nat.mul_one _))) ?_)
     refine ai (oR _ _ aa rfl rfl rfl rfl rfl (by simp;omega) (lS _ _ _ ab)) ?_
     refine aj ?_
     refine aM (σ':=aE 123 [(2,_),(6,_),(8,_),(10,_),(11,_),(12,_),(13,_)] [((2,0),_),((6,0),_)] [] []) kp ?_
     refine an (cu rfl (eh (an (aX rfl (ai (aZ _ _ rfl rfl (bD ab)) ?_)))))
     refine bg rfl (aJ (⟨k+1,?_,?_,?_⟩))
     ·omega
     ·skip
      refine Le.mkJ [] [] rfl ?_ ?_ trivial trivial ?_
      ·exact ⟨(iP rfl),(iR rfl),(iV rfl),(iS rfl),(ci ag),(ci ag),(nX (by (rw [hfs]))),(nX (by (rw [hfs]))),trivial⟩
      ·exact ⟨(cj rfl rfl rfl),(eZ rfl rfl rfl (by (rw [hfs]))),trivial⟩
      kernel_rfl
     omega
    have hds:jC C.length ((D i:Int) - (cW C i).op.pops+(cW C i).op.puts) u j=u:=by
     unfold jC
     rw [if_neg ab,if_neg (by rw [ii ab];omega),if_neg (by rw [ii ab];omega)]
    rw [hds] at hfs
    refine am (gz rfl (eO rfl (aX rfl (ai (bn _ _ aa rfl rfl _ rfl ab (by (simp only [aL,bb,bj,bv,bu,bG,bw,bO,eH,aL];omega)) (by exact Nat.mul_one _)) ?_))))
    refine ai (bL _ aa rfl (by exact hnk) rfl) ?_
    refine ai (gx _ _ aa rfl rfl rfl _ rfl ab (by exact (Nat.zero_add _).trans (Nat.mul_one _))) ?_
    refine ai (mN _ aa rfl rfl (by exact dI _ _ ab) rfl) ?_
    refine aX rfl (ai (bN _ _ rfl rfl rfl) (aj (aW rfl (by rw [bne_eq_false_iff_eq];omega) ?_)))
    refine cr ?_
    refine aM (σ':=aE 123 [(2,_),(6,_),(8,_),(9,_),(10,_),(11,_),(12,_),(13,_)] [((2,0),_),((6,0),_)] [] []) kp ?_
    refine an (aX rfl (ai (aZ _ _ rfl rfl (bD ab)) ?_))
    refine bg rfl (aJ (⟨k+1,?_,?_,?_⟩))
    ·omega
    ·skip
     refine Le.mkJ [] [] rfl ?_ ?_ trivial trivial ?_
     ·exact ⟨(iP rfl),(iR rfl),(iV rfl),(iS rfl),(ci ag),(ci ag),(nX (by (rw [hfs]))),(nX (by (rw [hfs]))),trivial⟩
     ·exact ⟨(cj rfl rfl rfl),(eZ rfl rfl rfl (by (rw [hfs]))),trivial⟩
     kernel_rfl
    omega
   obtain rfl:k=L.length:=by omega
   rw [List.take_length] at hu hul
   rw [List.take_length]
   refine bA (id (hK22 _ ?_))
   clear hK22;try clear K22
   refine an (aX rfl (ai (aZ _ _ rfl rfl (bD ab)) ?_))
   refine bg rfl (aJ (⟨i+1,?_,?_,?_⟩))
   ·omega
   ·skip
    refine Le.mkJ [] [] rfl ?_ ?_ trivial trivial ?_
    ·exact ⟨(iP rfl),(iR rfl),(ci ag),(nX (by (rw [hps]))),(nX (by (rw [hps]))),trivial⟩
    ·exact ⟨(cj rfl rfl rfl),(eZ rfl rfl rfl (by (rw [hps]))),trivial⟩
    kernel_rfl
   omega
  obtain rfl:i=C.length:=by omega
  refine bA (id (⟨(((dD C s C.length).1,(dD C s C.length).2.1),(dD C s C.length).2.2),?_,?_,?_⟩))
  ·exact ⟨hw.flag,yf hf1 hf2 hpd⟩
  ·skip
   refine Le.mkJ [] [] rfl ?_ ?_ trivial trivial ?_
   ·exact ⟨(iP rfl),(iR rfl),(nX ag),(nX ag),trivial⟩
   ·exact ⟨(cj rfl rfl rfl),(eZ rfl rfl rfl ag),trivial⟩
   kernel_rfl
  rw [show Kf (s,ch)=neg s.1+1 from if_pos hc39];exact HX hpd
 have hzR:s=R:=by
  unfold zg at hz
  rwa [if_neg (by simp [hc39])] at hz
 subst hzR
 have hsl:=hdi.len
 refine bA (id (hK14 _ ?_))
 clear hK14;try clear K14
 refine am (gz rfl (cI rfl (fe rfl (cu rfl (aj (aG ?_))))))
 rw [← hR]
 exact jS (.inr rfl) rfl (.tmp dR) (.tmp bT) (Le.out [] [(6,0)] (.tup rfl (ax (Bg rfl rfl (by simp only at hsl;simp [hsl]) rfl hsl.symm) lz)) rfl rfl rfl tr trivial)
theorem wq (C:List eW) (en:Nat→Int) (dd vv:Int) (h:Nat) (hh:h < 40) (hC:C.length≤1000000) (D:Nat→Nat) (nv:Nat) (hg:Good D nv 0 (C.length - 1) 0 C) (hD: ∀ i,D i≤1000000) (he:0≤en h→en h < C.length→D (en h).toNat=0):
  Spec Tryz.prog 74 (ba [.agg (Fj C.length (inl C) en dd vv), .v (.int .i64 (h:Int))] []) (aP (.v (.int .i64 (kX C (jn C (en h)).1 C.length))) []):=by
 have hds:=uh C en dd vv (en h) hC D nv hg hD he
 have hdi:=qm hg he
 have hdl:=hdi.len
 have hml:=fun k (hk:k≤C.length)=> nz (C:=C) (n:=C.length) hdi (B:=1000000) (fun i _=> hD i) k hk
 generalize jn C (en h)=R at hds hdi hdl hml
 have hen:=td C.length (inl C) en dd vv h hh
 refine Spec.ofN Tryz.func74 rfl Tryz.ntmps74 rfl ?_
 refine am (ai (aQ (2,0) _ rfl rfl) (bg rfl (aj (aq (bJ 11 [11,12,13,14,15,16,10,17,18,5,6] [] ae ae rfl (aK rfl) (rfl:_=[_,_,_,_,_,_,_,_,_,_,_]) (rfl:_=[]) ?_)))))
 refine ap (_,[]) (fun τ=> az _ aa rfl rfl rfl rfl) ?_
 refine fO rfl ?_
 refine ap (_,[]) (fun τ=> aI _ et) ?_
 refine fN rfl ?_
 refine ap (_,[]) (fun τ=> aA _ aa rfl rfl rfl) ?_
 refine fP rfl ?_
 refine ap (_,[]) (fun τ=> cV _ _ aa rfl rfl rfl h rfl ab (by exact congrArg (fun z=> 0+1+z) (Nat.mul_one h))) ?_
 refine fV rfl ?_
 refine ap (_,[]) (fun τ=> aF _ aa rfl rfl (by exact (congrArg (fun z=> (Fj C.length (inl C) en dd vv)[z]?) ab).trans hen)) ?_
 refine gm rfl ?_
 refine ap (_,[]) (fun τ=> (aH aa al (hds) rfl rfl)) ?_
 refine gY rfl ?_
 refine ap (_,[]) (fun τ=> aI _ tK) ?_
 refine iH rfl ?_
 refine ap (_,[]) (fun τ=> cp _ rfl ed) ?_
 refine jU rfl ?_
 refine ap (_,[]) (fun τ=> cp _ rfl CZ) ?_
 refine kA rfl ?_
 refine ap (_,[]) (fun τ=> bp _ mx) ?_
 refine gf rfl ?_
 refine ap (_,[]) (fun τ=> bp _ bT) ?_
 refine gJ rfl (bo ⟨rfl,?_⟩)
 refine aj (am (bg rfl (aj (aT fun K4 hK4=> ?_))))
 refine am (bg rfl (aj (ay ?_)))
 refine bq (α:=Nat) (fun k=> k≤C.length) 53 [(2,_),(5,_)] [((2,0),_)] (fun k=> [(8, .v (.int .i64 (k:Int))),(7, .v (.int .i64 (kX C R.1 k)))]) (fun k=> []) [] [] (fun k=> C.length - k) 0 ?_ (by
  refine Le.mkJ [] [] rfl ?_ ?_ trivial trivial ?_
  ·exact ⟨(iP rfl),(iS rfl),(ci ag),(ci ag),trivial⟩
  ·exact ⟨(cj rfl rfl rfl),trivial⟩
  kernel_rfl) ?_
 ·omega
 intro k hk
 have hm1:=hml k hk
 have hs:=qF C R.1 k
 simp only at hdl hm1
 refine aT fun K6 hK6=> ?_
 refine am (aX rfl (eO rfl (ai (bi _ aa rfl) (ai (bm _ _ rfl rfl rfl) (aj (aR rfl (fun hc22=> ?_) (fun hc22=> ?_)))))))
 ·skip
  have hm2:=hml (k+1) ab
  have hv:=hdi.val k ab
  simp only at hv hm2
  rw [ii ab] at hv hs
  have hDk:=hD k
  obtain ⟨q,hq⟩: ∃ q,q=cW C k:=⟨_,rfl⟩
  have hp3:q.op.pops≤3:=by generalize q.op=o;cases o <;> decide
  have hp4:q.op.puts≤1:=by generalize q.op=o;cases o <;> decide
  have hpp:=rp q.op
  have hpq:=rB q.op
  have hg0:=mZ C k ab
  rw [← hq] at hg0 hs
  refine br (hK6 _ ?_)
  clear hK6;try clear K6
  refine aq (ay (am (eO rfl (aX rfl (ai (bn _ _ aa rfl rfl _ rfl ab (by (simp only [aL,bb,bj,bv,bu,bG,bw,bO,eH,aL];omega)) (by exact Nat.mul_one _)) ?_)))))
  refine ai (bL _ aa rfl (by exact dI _ _ ab) rfl) ?_
  refine ai (fu _ _ rfl rfl rfl) (aj (aR rfl (fun hc29=> ?_) (fun hc29=> ?_)))
  ·skip
   rw [if_pos ab] at hs
   refine am (bc rfl rfl rfl (eQ rfl rfl rfl (aX rfl (ai (bn _ _ aa rfl rfl _ rfl ab (by (simp only [aL,bb,bj,bv,bu,bG,bw,bO,eH,aL];omega)) ag) ?_))))
   refine ai (cX _ aa rfl rfl) (ai (bL _ aa rfl (by exact hg0) rfl) ?_)
   refine bg rfl (aj ?_)
   refine aM (σ':=aE 53 [(2,_),(5,_),(7,_),(8,_),(9,_)] [((2,0),_)] [] []) kp ?_
   refine bJ 16 [36,37,38,39,40,41,42,43,44,45,46,47,48,49,50,51] [] ae ae rfl (aK rfl) (rfl:_=[_,_,_,_,_,_,_,_,_,_,_,_,_,_,_,_]) (rfl:_=[_]) ?_
   refine ap (_,[]) (fun τ=> aI _ et) ?_
   refine fO rfl ?_
   refine ap (_,[]) (fun τ=> aI _ mx) ?_
   refine fN rfl ?_
   refine ap (_,[]) (fun τ=> aI _ et) ?_
   refine fP rfl ?_
   refine ap (_,[]) (fun τ=> bn _ _ aa rfl rfl _ rfl ab (by (simp only [aL,bb,bj,bv,bu,bG,bw,bO,eH,aL];omega)) (by exact Nat.mul_one _)) ?_
   refine fV rfl ?_
   refine ap (_,[]) (fun τ=> bL _ aa rfl (by exact dI _ _ ab) rfl) ?_
   refine gm rfl ?_
   refine ap (_,[]) (fun τ=> aI _ mx) ?_
   refine gY rfl ?_
   refine ap (_,[]) (fun τ=> aI _ et) ?_
   refine iH rfl ?_
   refine ap (_,[]) (fun τ=> bn _ _ aa rfl rfl _ rfl ab (by (simp only [aL,bb,bj,bv,bu,bG,bw,bO,eH,aL];omega)) (by exact Nat.mul_one _)) ?_
   refine jU rfl ?_
   refine ap (_,[]) (fun τ=> bL _ aa rfl (by exact dI _ _ ab) rfl) ?_
   refine kA rfl ?_
   refine ap (_,[]) (fun τ=> aI _ et) ?_
   refine gf rfl ?_
   refine ap (_,[]) (fun τ=> (aH aa al (hpp) rfl rfl)) ?_
   refine gJ rfl ?_
   refine ap (_,[]) (fun τ=> kE _ _ rfl rfl (bD ab)) ?_
   refine kS rfl ?_
   refine ap (_,[]) (fun τ=> aI _ et) ?_
   refine mi rfl ?_
   refine ap (_,[]) (fun τ=> (aH aa al (hpq) rfl rfl)) ?_
   refine pj rfl ?_
   refine ap (_,[]) (fun τ=> aZ _ _ rfl rfl (bD ab)) ?_
   refine wG rfl ?_
   refine ap (_,[]) (fun τ=> DV _ _ _ rfl rfl rfl (by exact hs.symm)) ?_
   refine vQ rfl (bo ⟨rfl,?_⟩)
   refine bg rfl (eh ?_)
   refine aM (σ':=aE 53 [(2,_),(5,_),(7,_),(8,_)] [((2,0),_)] [] []) kp ?_
   refine an (aX rfl (ai (aZ _ _ rfl rfl (bD ab)) ?_))
   refine bg rfl (aJ (⟨k+1,?_,?_,?_⟩))
   ·omega
   ·skip
    refine Le.mkJ [] [] rfl ?_ ?_ trivial trivial ?_
    ·exact ⟨(iP rfl),(iS rfl),(ci ag),(ci ag),trivial⟩
    ·exact ⟨(cj rfl rfl rfl),trivial⟩
    kernel_rfl
   omega
  rw [if_neg ab] at hs
  refine cr (an (aX rfl (ai (aZ _ _ rfl rfl (bD ab)) ?_)))
  refine bg rfl (aJ (⟨k+1,?_,?_,?_⟩))
  ·omega
  ·skip
   refine Le.mkJ [] [] rfl ?_ ?_ trivial trivial ?_
   ·exact ⟨(iP rfl),(iS rfl),(ci ag),(ci ab),trivial⟩
   ·exact ⟨(cj rfl rfl rfl),trivial⟩
   kernel_rfl
  omega
 obtain rfl:k=C.length:=by omega
 refine bA (id (hK4 _ ?_))
 clear hK4;try clear K4
 exact am (aX rfl (bg rfl (aj (aG (fv rfl rfl)))))

theorem eo: ∀ (e:Ex) (d x:Nat),x∈dF e d→x≤d+(dF e d).length
 | .int _,d,x,h=> by simp [dF] at h ⊢;omega
 | .bool _,d,x,h=> by simp [dF] at h ⊢;omega
 | .var _,d,x,h=> by simp [dF] at h ⊢;omega
 | .name _,d,x,h=> by simp [dF] at h ⊢;omega
 | .draw e,d,x,h=> by
  have:=eo e d x
  simp only [dF,List.mem_append,List.length_append,List.length_cons,List.length_nil,List.mem_singleton] at h ⊢
  rcases h with h | h
  ·have:=this h;omega
  omega
 | .neg e,d,x,h=> by
  have:=eo e d x
  simp only [dF,List.mem_append,List.length_append,List.length_cons,List.length_nil,List.mem_singleton] at h ⊢
  rcases h with h | h
  ·have:=this h;omega
  omega
 | .not e,d,x,h=> by
  have:=eo e d x
  simp only [dF,List.mem_append,List.length_append,List.length_cons,List.length_nil,List.mem_singleton] at h ⊢
  rcases h with h | h
  ·have:=this h;omega
  omega
 | .bin o a b,d,x,h=> by
  have h1:=eo a d x
  have h2:=eo b (d+1) x
  have h3:1≤(dF b (d+1)).length:=by obtain ⟨l,hl⟩:=eS b (d+1);rw [hl];simp
  have h4:1≤(dF a d).length:=by obtain ⟨l,hl⟩:=eS a d;rw [hl];simp
  simp only [dF,List.mem_append,List.length_append] at h ⊢
  rcases h with (h | h) | h
  ·have:=h1 h;omega
  ·have:=h2 h;omega
  have:x≤d+2:=by cases o <;> simp at h <;> omega
  omega
 | .and a b,d,x,h=> by
  have h1:=eo a d x
  have h2:=eo b d x
  simp only [dF,List.mem_append,List.length_append,List.length_cons,List.length_nil,List.mem_singleton] at h ⊢
  rcases h with (((h | h) | h) | h) | h
  ·have:=h1 h;omega
  ·omega
  ·have:=h2 h;omega
  ·omega
  omega
 | .or a b,d,x,h=> by
  have h1:=eo a d x
  have h2:=eo b d x
  simp only [dF,List.mem_append,List.length_append,List.length_cons,List.length_nil,List.mem_singleton] at h ⊢
  rcases h with (((h | h) | h) | h) | h
  ·have:=h1 h;omega
  ·omega
  ·omega
  ·omega
  have:=h2 h;omega
theorem lC (e:Ex) (d:Nat):1≤(dF e d).length:=by obtain ⟨l,hl⟩:=eS e d;rw [hl];simp
mutual
theorem FU: ∀ (s:Sm) (x:Nat),x∈ev s→x≤(ev s).length
 | .assign _ e,x,h=> by
  have:=eo e 0 x
  simp only [ev,List.mem_append,List.length_append,List.length_cons,List.length_nil,List.mem_singleton] at h ⊢
  rcases h with h | h
  ·have:=this h;omega
  omega
 | .send t _ a b,x,h=> by
  have h1:=eo t 0 x
  have h2:=eo a 1 x
  have h3:=eo b 2 x
  have k1:=lC t 0
  have k2:=lC a 1
  have k3:=lC b 2
  simp only [ev,List.mem_append,List.length_append,List.length_cons,List.length_nil,List.mem_singleton] at h ⊢
  rcases h with ((h | h) | h) | h
  ·have:=h1 h;omega
  ·have:=h2 h;omega
  ·have:=h3 h;omega
  omega
 | .timer _,x,h=> by simp [ev] at h ⊢;omega
 | .cancel _,x,h=> by simp [ev] at h ⊢;omega
 | .sync,x,h=> by simp [ev] at h ⊢;omega
 | .stop,x,h=> by simp [ev] at h ⊢;omega
 | .reply a b,x,h=> by
  have h2:=eo a 0 x
  have h3:=eo b 1 x
  have k2:=lC a 0
  have k3:=lC b 1
  simp only [ev,List.mem_append,List.length_append,List.length_cons,List.length_nil,List.mem_singleton] at h ⊢
  rcases h with (h | h) | h
  ·have:=h2 h;omega
  ·have:=h3 h;omega
  omega
 | .fail e,x,h=> by
  have:=eo e 0 x
  simp only [ev,List.mem_append,List.length_append,List.length_cons,List.length_nil,List.mem_singleton] at h ⊢
  rcases h with h | h
  ·have:=this h;omega
  omega
 | .loop c b,x,h=> by
  have h1:=eo c 0 x
  have h2:=nu b x
  simp only [ev,List.mem_append,List.length_append,List.length_cons,List.length_nil,List.mem_singleton] at h ⊢
  rcases h with ((h | h) | h) | h
  ·have:=h1 h;omega
  ·omega
  ·have:=h2 h;omega
  omega
 | .ite c a b,x,h=> by
  have h1:=eo c 0 x
  have h2:=nu a x
  have h3:=nu b x
  simp only [ev,List.mem_append,List.length_append,List.length_cons,List.length_nil,List.mem_singleton] at h ⊢
  rcases h with (((h | h) | h) | h) | h
  ·have:=h1 h;omega
  ·omega
  ·have:=h2 h;omega
  ·omega
  have:=h3 h;omega
theorem nu: ∀ (b:Bk) (x:Nat),x∈mh b→x≤(mh b).length
 | .nil,x,h=> by simp [mh] at h
 | .cons s b,x,h=> by
  have h1:=FU s x
  have h2:=nu b x
  simp only [mh,List.mem_append,List.length_append] at h ⊢
  rcases h with h | h
  ·have:=h1 h;omega
  have:=h2 h;omega
end
theorem wI: ∀ (l:List (Nat×Bk)) (x:Nat),x∈mf l→x≤(mf l).length
 | [],x,h=> by simp [mf] at h
 | (k,b)::l,x,h=> by
  have h1:=nu b x
  have h2:=wI l x
  simp only [mf,List.mem_append,List.length_append,List.length_cons,List.length_nil,List.mem_singleton] at h ⊢
  rcases h with (h | h) | h
  ·have:=h1 h;omega
  ·omega
  have:=h2 h;omega
theorem zV (l:List (Nat×Bk)) (i:Nat):xw l i≤(bV l 0).length:=by
 unfold xw
 rw [List.getD_eq_getElem?_getD]
 by_cases h:i < (mf l).length
 ·rw [List.getElem?_eq_getElem h,← qo l 0];exact wI l _ (List.getElem_mem h)
 rw [List.getElem?_eq_none ab];exact Nat.zero_le _

theorem ou: ∀ (l m:List (Nat×Bk)) (a:Nat),bV (l++m) a=bV l a++bV m (a+(bV l a).length)
 | [],m,a=> by simp [bV]
 | (h,b)::l,m,a=> by
  simp only [List.cons_append,bV,ou l m,List.append_assoc,List.length_append,List.length_cons,List.length_nil,Nat.add_assoc,Nat.zero_add,List.nil_append,Nat.add_comm 1 (List.length _)]
theorem ur: ∀ (l m:List (Nat×Bk)) (a:Nat),kj (l++m) a=kj l a++kj m (a+(bV l a).length)
 | [],m,a=> by simp [bV,kj]
 | (h,b)::l,m,a=> by
  simp only [List.cons_append,bV,kj,ur l m,List.append_assoc,List.length_append,List.length_cons,List.length_nil,Nat.add_assoc,Nat.zero_add,Nat.add_comm 1 (List.length _)]
def bY (l:List (Nat×Bk)) (k:Nat):Int:=(ny (kj l 0)).getD k (-1)
theorem zb (l:List (Nat×Bk)) (p:Nat×Bk) (hp:p.1 < 40):bY (l++[p])=lc (bY l) p.1 (bV l 0).length:=by
 funext k
 have e:ny (kj (l++[p]) 0)=(ny (kj l 0)).set p.1 ((bV l 0).length:Int):=by
  rw [ur]
  obtain ⟨h,b⟩:=p
  simp only [kj,ny,List.foldl_append,List.foldl_cons,List.foldl_nil,Nat.zero_add]
 unfold bY lc
 rw [e,kw]
 by_cases hk:k=p.1
 ·rw [if_pos ⟨hk,by rw [Bd];exact hp⟩,if_pos hk]
 rw [if_neg (fun h=> hk h.1),if_neg hk]
theorem wD (l:List (Nat×Bk)) (p:Nat×Bk):bV (l++[p]) 0=bV l 0++dU p.2 (bV l 0).length++[{ op:= .stop }]:=by
 rw [ou]
 obtain ⟨h,b⟩:=p
 simp [bV]
def eu (h k:Nat):Int:=if k < h∨40≤k then -1 else 0
theorem CG (h:Nat) (hh:h < 40):lc (eu h) h (-1)=eu (h+1):=by
 funext k
 unfold lc eu
 by_cases h1:k=h
 ·rw [if_pos h1,if_pos ab]
 rw [if_neg h1]
 by_cases h2:k < h∨40≤k
 ·rw [if_pos h2,if_pos ab]
 rw [if_neg h2,if_neg ab]
theorem zG:eu 40=bY []:=by
 funext k
 have e:bY [] k=(List.replicate 40 (-1:Int)).getD k (-1):=rfl
 rw [e,eu,if_pos ab,List.getD_eq_getElem?_getD,List.getElem?_replicate]
 by_cases hk:k < 40
 ·rw [if_pos hk];rfl
 rw [if_neg hk];rfl
theorem AN (ons:List (Nat×Bk)) (j:Nat) (h:j < ons.length):ons.take (j+1)=ons.take j++[ons[j]]:=List.take_succ_eq_append_getElem h
theorem qa (ons:List (Nat×Bk)) (j:Nat):(bV (ons.take j) 0).length≤(bV ons 0).length:=by
 conv=> rhs;rw [← List.take_append_drop j ons,ou]
 rw [List.length_append];omega
theorem za {n:Nat} (h:n < 40):dL (n:Int) 40=n:=by unfold dL;rw [if_neg ab];omega
structure UOk (d v:List Tx) (ons:List (Nat×Bk)):Prop where
 nd:(d++v).Nodup
 len:(d++v).length≤16
 ok: ∀ p∈ons,ld (d++v).length p.2
 pp: ∀ p∈ons,so p.2=true
 h: ∀ p∈ons,p.1 < 40
 c:(bV ons 0).length≤1000000
 n:ons.length≤1000
theorem UOk.good {d v:List Tx} {ons:List (Nat×Bk)} (U:UOk d v ons):Good (xw ons) (d++v).length 0 ((bV ons 0).length - 1) 0 (bV ons 0):=
 Cg (xw ons) (d++v).length ons 0 0 ((bV ons 0).length - 1) U.ok (tE ons) (Nat.le_refl _) ab
theorem UOk.ent {d v:List Tx} {ons:List (Nat×Bk)} (U:UOk d v ons) (k:Nat):0≤bY ons k→bY ons k < (bV ons 0).length→xw ons (bY ons k).toNat=0:=fun h0 h1=> by
 rcases vY ons k with h | ⟨e,_,h,_,h2⟩
 ·unfold bY at h0;omega
 unfold bY;rw [h,Int.toNat_natCast];exact h2
abbrev On (d v:List Tx) (ons:List (Nat×Bk)):AV:= .agg (Fj (bV ons 0).length (inl (bV ons 0)) (bY ons) (d.length:Int) (v.length:Int))
abbrev zA:AV:= .agg (HG (.v (.slice none 0 0)) (fun _=> 0) 0 0)
def KA (ons:List (Nat×Bk)):Int:=if 400 < (bV ons 0).length then 2 else 13
abbrev Dn (d v:List Tx) (ons:List (Nat×Bk)):AV:=if kZ ons=true then .tup [On d v ons, .v (.int .i64 0)] else .tup [zA, .v (.int .i64 (KA ons))]
abbrev vF (d v:List Tx) (ons:List (Nat×Bk)):List Hd:=ons.map fun p=> (p.1,iX (d++v) p.2)
theorem nL (d v:List Tx) (ons:List (Nat×Bk)) (U:UOk d v ons):
  Spec Tryz.prog 57 (ba [JA d v (vF d v ons)] []) (aP (Dn d v ons) []):=by
 obtain ⟨H,hH⟩: ∃ H,H=vF d v ons:=⟨_,rfl⟩
 have hHl:H.length=ons.length:=by rw [hH,List.length_map]
 have hHk: ∀ k (h:k < ons.length),oQ H k=((ons[k]).1,iX (d++v) (ons[k]).2):=fun k h=> by rw [hH];exact zR ons _ k h
 rw [← hH]
 clear hH
 have hUn:=U.n
 have hUc:=U.c
 have hUl:=U.len
 have hdl:d.length≤16∧v.length≤16:=by rw [List.length_append] at hUl;omega
 refine Spec.ofN Tryz.func57 rfl Tryz.ntmps57 rfl ?_
 refine am (ai (aQ (1,0) _ rfl rfl) (ai (aB (2,0) aa rfl rfl) (bg rfl (aj (am (bc rfl rfl rfl (eQ rfl rfl rfl (ai (bi _ aa rfl) (bc rfl rfl rfl (eQ rfl rfl rfl ?_))))))))))
 refine ai (bi _ aa rfl) (ai (aN _ aa rfl (by exact DM)) ?_)
 refine ai (aB (4,0) aa rfl rfl) (bF rfl rfl rfl rfl rfl rfl (aj (aT fun K3 hK3=> ?_)))
 refine am (bg rfl (aj (ay ?_)))
 refine aM (Le.nilB (4,0) 0 (60,0) 48 2 rfl rfl rfl) ?_
 refine bq (α:=Nat) (fun q=> q≤40) 79 [(1,_),(2,_),(4,_)] [((1,0),_),((2,0),_),((60,0),_)] (fun q=> [(5, .v (.int .i64 (q:Int)))]) (fun q=> [((4,0), .box 26 [.ref (60,0) 0 0, .v (.int .i64 (eu q 0)), .v (.int .i64 (eu q 1)), .v (.int .i64 (eu q 2)), .v (.int .i64 (eu q 3)), .v (.int .i64 (eu q 4)), .v (.int .i64 (eu q 5)), .v (.int .i64 (eu q 6)), .v (.int .i64 (eu q 7)), .v (.int .i64 (eu q 8)), .v (.int .i64 (eu q 9)), .v (.int .i64 (eu q 10)), .v (.int .i64 (eu q 11)), .v (.int .i64 (eu q 12)), .v (.int .i64 (eu q 13)), .v (.int .i64 (eu q 14)), .v (.int .i64 (eu q 15)), .v (.int .i64 (eu q 16)), .v (.int .i64 (eu q 17)), .v (.int .i64 (eu q 18)), .v (.int .i64 (eu q 19)), .v (.int .i64 (eu q 20)), .v (.int .i64 (eu q 21)), .v (.int .i64 (eu q 22)), .v (.int .i64 (eu q 23)), .v (.int .i64 (eu q 24)), .v (.int .i64 (eu q 25)), .v (.int .i64 (eu q 26)), .v (.int .i64 (eu q 27)), .v (.int .i64 (eu q 28)), .v (.int .i64 (eu q 29)), .v (.int .i64 (eu q 30)), .v (.int .i64 (eu q 31)), .v (.int .i64 (eu q 32)), .v (.int .i64 (eu q 33)), .v (.int .i64 (eu q 34)), .v (.int .i64 (eu q 35)), .v (.int .i64 (eu q 36)), .v (.int .i64 (eu q 37)), .v (.int .i64 (eu q 38)), .v (.int .i64 (eu q 39)), .v (.int .i64 (d.length:Int)), .v (.int .i64 (v.length:Int))])]) [] [] (fun q=> 40 - q) 0 ?_ (by
  refine Le.mkJ [] [] rfl ?_ ?_ trivial trivial ?_
  ·exact ⟨(iP rfl),(iP rfl),(iP rfl),(ci ag),trivial⟩
  ·exact ⟨(cj rfl rfl rfl),(cj rfl rfl rfl),(cj rfl rfl rfl),(eY rfl rfl rfl rfl lz),trivial⟩
  kernel_rfl) ?_
 ·omega
 intro q hq
 refine aT fun K5 hK5=> ?_
 refine am (aX rfl (ai (bm _ _ rfl rfl rfl) (aj (aR rfl (fun hc17=> ?_) (fun hc17=> ?_)))))
 ·skip
  refine br (hK5 _ ?_)
  clear hK5;try clear K5
  refine aq (ay (an (aX rfl (bc rfl rfl rfl (ai (cV _ _ aa rfl rfl rfl q rfl ab (by exact congrArg (fun z=> 0+1+z) (Nat.mul_one q))) ?_)))))
  refine ai (dG _ _ aa rfl rfl rfl rfl (show 0+1+q+1≤43 by omega) ((congrArg (fun z=> fY (HG (.ref (60,0) 0 0) (eu q) (d.length:Int) (v.length:Int)) z [.v (.int .i64 (-1))]) ab).trans ((sS _ _ _ _ q ab _).trans (by rw [CG _ ab])))) ?_
  refine eh (an (aX rfl (ai (aZ _ _ rfl rfl (bD ab)) ?_)))
  refine bg rfl (aJ (⟨q+1,?_,?_,?_⟩))
  ·omega
  ·skip
   refine Le.mkJ [] [] rfl ?_ ?_ trivial trivial ?_
   ·exact ⟨(iP rfl),(iP rfl),(iP rfl),(ci ag),trivial⟩
   ·exact ⟨(cj rfl rfl rfl),(cj rfl rfl rfl),(cj rfl rfl rfl),(eY rfl rfl rfl rfl lz),trivial⟩
   kernel_rfl
  omega
 obtain rfl:q=40:=by omega
 rw [zG]
 refine bA (id (hK3 _ ?_))
 clear hK3;try clear K3
 refine aT fun K8 hK8=> ?_
 refine am (bg rfl (aj (ay ?_)))
 refine bq (α:=Nat) (fun j=> j≤H.length) 79 [(1,_),(2,_),(4,_)] [((1,0),_),((2,0),_)] (fun j=> [(6, .v (.int .i64 (j:Int)))]) (fun j=> [((60,0), .row 48 2 (inl (bV (ons.take j) 0))),((4,0), .box 26 [.ref (60,0) 0 (bV (ons.take j) 0).length, .v (.int .i64 (bY (ons.take j) 0)), .v (.int .i64 (bY (ons.take j) 1)), .v (.int .i64 (bY (ons.take j) 2)), .v (.int .i64 (bY (ons.take j) 3)), .v (.int .i64 (bY (ons.take j) 4)), .v (.int .i64 (bY (ons.take j) 5)), .v (.int .i64 (bY (ons.take j) 6)), .v (.int .i64 (bY (ons.take j) 7)), .v (.int .i64 (bY (ons.take j) 8)), .v (.int .i64 (bY (ons.take j) 9)), .v (.int .i64 (bY (ons.take j) 10)), .v (.int .i64 (bY (ons.take j) 11)), .v (.int .i64 (bY (ons.take j) 12)), .v (.int .i64 (bY (ons.take j) 13)), .v (.int .i64 (bY (ons.take j) 14)), .v (.int .i64 (bY (ons.take j) 15)), .v (.int .i64 (bY (ons.take j) 16)), .v (.int .i64 (bY (ons.take j) 17)), .v (.int .i64 (bY (ons.take j) 18)), .v (.int .i64 (bY (ons.take j) 19)), .v (.int .i64 (bY (ons.take j) 20)), .v (.int .i64 (bY (ons.take j) 21)), .v (.int .i64 (bY (ons.take j) 22)), .v (.int .i64 (bY (ons.take j) 23)), .v (.int .i64 (bY (ons.take j) 24)), .v (.int .i64 (bY (ons.take j) 25)), .v (.int .i64 (bY (ons.take j) 26)), .v (.int .i64 (bY (ons.take j) 27)), .v (.int .i64 (bY (ons.take j) 28)), .v (.int .i64 (bY (ons.take j) 29)), .v (.int .i64 (bY (ons.take j) 30)), .v (.int .i64 (bY (ons.take j) 31)), .v (.int .i64 (bY (ons.take j) 32)), .v (.int .i64 (bY (ons.take j) 33)), .v (.int .i64 (bY (ons.take j) 34)), .v (.int .i64 (bY (ons.take j) 35)), .v (.int .i64 (bY (ons.take j) 36)), .v (.int .i64 (bY (ons.take j) 37)), .v (.int .i64 (bY (ons.take j) 38)), .v (.int .i64 (bY (ons.take j) 39)), .v (.int .i64 (d.length:Int)), .v (.int .i64 (v.length:Int))])]) [] [] (fun j=> H.length - j) 0 ?_ (by
  refine Le.mkJ [] [] rfl ?_ ?_ trivial trivial ?_
  ·exact ⟨(iP rfl),(iP rfl),(iP rfl),(ci ag),trivial⟩
  ·exact ⟨(cj rfl rfl rfl),(cj rfl rfl rfl),(eZ rfl rfl rfl ag),(eY rfl rfl rfl rfl lz),trivial⟩
  kernel_rfl) ?_
 ·omega
 intro j hj
 have hct:=qa ons j
 refine aT fun K10 hK10=> ?_
 refine am (aX rfl (bc rfl rfl rfl (eQ rfl rfl rfl (ai (bi _ aa rfl) (ai (bm _ _ rfl rfl rfl) (aj (aR rfl (fun hc27=> ?_) (fun hc27=> ?_))))))))
 ·skip
  have hj:j < ons.length:=by omega
  have hct1:=qa ons (j+1)
  have hUh:=U.h _ (List.getElem_mem hj)
  have hUo:=U.ok _ (List.getElem_mem hj)
  have hUp:=U.pp _ (List.getElem_mem hj)
  have hbody:=tP H j ab
  have hg0:=ky H j ab
  rw [hHk j hj] at hbody hg0
  have hsn:=wD (ons.take j) (ons[j])
  have hen:=zb (ons.take j) (ons[j]) hUh
  rw [← AN ons j hj] at hsn hen
  have hsl:=congrArg List.length hsn
  simp only [List.length_append,List.length_cons,List.length_nil] at hsl
  have hcb:=Fe (d:=d) (v:=v) (no:=H.length) (on:=mj H) U.nd ab (ons[j]).2 hUo hUp (bV (ons.take j) 0).length ab
  generalize dU (ons[j]).2 (bV (ons.take j) 0).length=C at hsn hsl hcb
  generalize (ons[j]).2=bd at hbody hcb
  generalize (ons[j]).1=h at hbody hg0 hen hUh
  have har:=jL (h:Int) 40 ab ab ab ab
  rw [za hUh] at har
  refine br (hK10 _ ?_)
  clear hK10;try clear K10
  refine aq (ay (am (bc rfl rfl rfl (eQ rfl rfl rfl (aX rfl (ai (bn _ _ aa rfl rfl _ rfl ab (by (simp only [aL,bb,bj,bv,bu,bG,bw,bO,eH,aL,List.length_map];omega)) ag) ?_))))))
  refine ai (cX _ aa rfl rfl) (ai (bL _ aa rfl (by exact hg0) rfl) ?_)
  refine ai (aH aa al (har) rfl rfl) ?_
  refine bg rfl (aj (am (aX rfl (bc rfl rfl rfl (ai (aF _ aa rfl rfl eT) (ai (dg _ aa rfl rfl) (bc rfl rfl rfl (ai (cV _ _ aa rfl rfl rfl h rfl ab (by exact congrArg (fun z=> 0+1+z) (Nat.mul_one h))) ?_))))))))
  refine ai (dG _ _ aa rfl rfl rfl rfl (show 0+1+h+1≤43 by omega) ((congrArg (fun z=> fY (HG (.ref (60,0) 0 (bV (ons.take j) 0).length) (bY (ons.take j)) (d.length:Int) (v.length:Int)) z [.v (.int .i64 ((bV (ons.take j) 0).length:Int))]) ab).trans ((sS _ _ _ _ h ab _).trans (by rw [← hen])))) ?_
  refine aj (aq ?_)
  refine aM (σ':=aE 79 [(1,_),(2,_),(4,_),(6,_)] [((1,0),_),((2,0),_),((60,0),_),((4,0),_)] [] []) kp ?_
  refine bJ 13 [43,44,45,46,47,48,49,50,51,52,53,54,55] [(50,0)] ae ae rfl (aK rfl) (rfl:_=[_,_,_,_,_,_,_,_,_,_,_,_,_]) (rfl:_=[_,_,_]) ?_
  refine ap (_,[]) (fun τ=> aA _ aa rfl rfl rfl) ?_
  refine fO rfl ?_
  refine ap (_,[]) (fun τ=> aF _ aa rfl rfl eT) ?_
  refine fN rfl ?_
  refine ap (_,[]) (fun τ=> az _ aa rfl rfl rfl rfl) ?_
  refine fP rfl ?_
  refine ap (_,[]) (fun τ=> aA _ aa rfl rfl rfl) ?_
  refine fV rfl ?_
  refine ap (_,[]) (fun τ=> aF _ aa rfl rfl ed) ?_
  refine gm rfl ?_
  refine ap (_,[]) (fun τ=> aI _ et) ?_
  refine gY rfl ?_
  refine ap (_,[]) (fun τ=> bn _ _ aa rfl rfl _ rfl ab (by (simp only [aL,bb,bj,bv,bu,bG,bw,bO,eH,aL,List.length_map];omega)) ag) ?_
  refine iH rfl ?_
  refine ap (_,[]) (fun τ=> cX _ aa rfl rfl) ?_
  refine jU rfl ?_
  refine ap (_,[]) (fun τ=> ca _ aa rfl (by exact hbody) rfl) ?_
  refine kA rfl ?_
  refine ap (_,[]) (fun τ=> aA _ aa rfl rfl rfl) ?_
  refine gf rfl ?_
  refine ap (_,[]) (fun τ=> aF _ aa rfl rfl eT) ?_
  refine gJ rfl ?_
  refine ap (_,[]) (fun τ=> dg _ aa rfl rfl) ?_
  refine kS rfl ?_
  refine ap (_,[((50,0),_)]) (fun τ=> (bQ aa [((0,8),(50,0))] ar (hcb.toI) trivial tr tr rfl rfl ae ae)) ?_
  refine mi rfl (bo ⟨rfl,?_⟩)
  refine ai (dh (56,0) _ _ aa rfl rfl (bO _).symm (.ref rfl (nn _) (lp _)) ab rfl (lT _ _) (show (bV (ons.take j) 0).length+C.length=(bV (ons.take j) 0++C).length by simp)) ?_
  refine bc rfl rfl rfl (bF rfl rfl rfl rfl rfl rfl (aj ?_))
  refine aM (σ':=aE 79 [(1,_),(2,_),(4,_),(6,_)] [((1,0),_),((2,0),_),((4,0),_),((56,0),_)] [] []) kp ?_
  refine an (bc rfl rfl rfl (ai (aF _ aa rfl rfl eT) (ai (aN _ aa rfl (by exact eX)) ?_)))
  refine ai (bh _ _ aa rfl ag (by (simp <;> rfl)) ah rfl) ?_
  refine ai (dh (62,0) _ _ aa rfl rfl (bO _).symm (.sl rfl) (by simp;omega) rfl ((fq _ { op:= .stop }).trans (congrArg inl hsn.symm)) (show (bV (ons.take j) 0++C).length+1=(bV (ons.take (j+1)) 0).length by simp [hsl])) ?_
  refine bc rfl rfl rfl (bF rfl rfl rfl rfl rfl rfl (eh (an (aX rfl (ai (aZ _ _ rfl rfl (bD ab)) ?_)))))
  refine bg rfl (aJ (⟨j+1,?_,?_,?_⟩))
  ·omega
  ·skip
   refine Le.mkJ [((60,0),(62,0))] [] rfl ?_ ?_ trivial trivial ?_
   ·exact ⟨(du (id:=(1,0)) rfl),(du (id:=(2,0)) rfl),(du (id:=(4,0)) rfl),(ci ag),trivial⟩
   ·exact ⟨(eY rfl rfl rfl rfl (by repeat' (first | exact Lv.sl | exact bf | refine ax ?_ ?_))),(eY rfl rfl rfl rfl (by repeat' (first | exact Lv.v | exact bf | refine ax ?_ ?_))),(eZ rfl rfl rfl ag),(eY rfl rfl rfl rfl lz),trivial⟩
   kernel_rfl
  omega
 obtain rfl:j=ons.length:=by omega
 rw [List.take_length]
 refine bA (id (hK8 _ ?_))
 clear hK8;try clear K8
 refine aq (am (bc rfl rfl rfl (ai (aF _ aa rfl rfl eT) (ai (dg _ aa rfl rfl) (ai (gb _ _ rfl rfl rfl) (aj (aR rfl (fun hc67=> ?_) (fun hc67=> ?_))))))))
 ·skip
  have hco:kZ ons≠true:=by
   unfold kZ
   rw [decide_eq_false ab,Bool.false_and]
   exact Bool.false_ne_true
  rw [Dn,if_neg hco,KA,if_pos ab]
  refine am (ai (aN _ aa rfl (by exact DM)) ?_)
  exact bF rfl rfl rfl rfl rfl rfl (bg rfl (aj (aG (jS (.inr rfl) rfl (.cellA aa rfl rfl rfl) (.tmp kL) (Le.out [] [] (.tup rfl lz) rfl rfl rfl trivial trivial)))))
 have hl4:(bV ons 0).length≤400:=by omega
 refine aS (aT fun K19 hK19=> ?_)
 refine am (bg rfl (aj (ay ?_)))
 refine aM (Le.frzB (4,0) 0 rfl rfl rfl rfl (ys:=inl (bV ons 0)) (by rw [List.drop_zero];exact List.take_of_length_le (by rw [bO];omega)) (by rw [bO];omega)) ?_
 refine bq (α:=Nat) (fun h=> h≤40∧ ∀ k,k < h→kX (bV ons 0) (jn (bV ons 0) (bY ons k)).1 (bV ons 0).length≤16) 79 [(2,_),(4,_)] [((2,0),_)] (fun h=> [(8, .v (.int .i64 (h:Int)))]) (fun h=> [((4,0), .box 26 [.sl (bV ons 0).length (inl (bV ons 0)), .v (.int .i64 (bY ons 0)), .v (.int .i64 (bY ons 1)), .v (.int .i64 (bY ons 2)), .v (.int .i64 (bY ons 3)), .v (.int .i64 (bY ons 4)), .v (.int .i64 (bY ons 5)), .v (.int .i64 (bY ons 6)), .v (.int .i64 (bY ons 7)), .v (.int .i64 (bY ons 8)), .v (.int .i64 (bY ons 9)), .v (.int .i64 (bY ons 10)), .v (.int .i64 (bY ons 11)), .v (.int .i64 (bY ons 12)), .v (.int .i64 (bY ons 13)), .v (.int .i64 (bY ons 14)), .v (.int .i64 (bY ons 15)), .v (.int .i64 (bY ons 16)), .v (.int .i64 (bY ons 17)), .v (.int .i64 (bY ons 18)), .v (.int .i64 (bY ons 19)), .v (.int .i64 (bY ons 20)), .v (.int .i64 (bY ons 21)), .v (.int .i64 (bY ons 22)), .v (.int .i64 (bY ons 23)), .v (.int .i64 (bY ons 24)), .v (.int .i64 (bY ons 25)), .v (.int .i64 (bY ons 26)), .v (.int .i64 (bY ons 27)), .v (.int .i64 (bY ons 28)), .v (.int .i64 (bY ons 29)), .v (.int .i64 (bY ons 30)), .v (.int .i64 (bY ons 31)), .v (.int .i64 (bY ons 32)), .v (.int .i64 (bY ons 33)), .v (.int .i64 (bY ons 34)), .v (.int .i64 (bY ons 35)), .v (.int .i64 (bY ons 36)), .v (.int .i64 (bY ons 37)), .v (.int .i64 (bY ons 38)), .v (.int .i64 (bY ons 39)), .v (.int .i64 (d.length:Int)), .v (.int .i64 (v.length:Int))])]) [] [] (fun h=> 40 - h) 0 ?_ (by
  refine Le.mkJ [] [] rfl ?_ ?_ trivial trivial ?_
  ·exact ⟨(iP rfl),(iP rfl),(ci ag),trivial⟩
  ·exact ⟨(cj rfl rfl rfl),(eY rfl rfl rfl rfl lz),trivial⟩
  kernel_rfl) ?_
 ·exact ⟨Nat.zero_le _,fun k hk=> absurd hk (Nat.not_lt_zero _)⟩
 intro h hh
 obtain ⟨hk,hks⟩:=hh
 refine aT fun K21 hK21=> ?_
 refine am (aX rfl (ai (bm _ _ rfl rfl rfl) (aj (aR rfl (fun hc70=> ?_) (fun hc70=> ?_)))))
 ·skip
  have hh4:h < 40:=by omega
  have hdm:=nz (C:=bV ons 0) (qm U.good (U.ent h)) (B:=1000000) (fun i _=> Nat.le_trans (zV ons i) hUc) _ (Nat.le_refl _)
  have hde:=wq (bV ons 0) (bY ons) (d.length:Int) (v.length:Int) h hh4 hUc (xw ons) (d++v).length U.good (fun i=> Nat.le_trans (zV ons i) hUc) (U.ent h)
  refine br (hK21 _ ?_)
  clear hK21;try clear K21
  refine aq (ay (am (ai (az _ aa rfl rfl rfl rfl) (aX rfl (ai (aH aa al (hde) rfl rfl) ?_)))))
  refine ai (gb _ _ rfl rfl rfl) (aj (aR rfl (fun hc76=> ?_) (fun hc76=> ?_)))
  ·skip
   have hco:kZ ons≠true:=fun e=> by
    unfold kZ at e
    rw [Bool.and_eq_true,List.all_eq_true] at e
    have:=e.2 h (List.mem_range.2 hh4)
    rw [decide_eq_true_eq] at this
    exact absurd (show kX (bV ons 0) (jn (bV ons 0) (bY ons h)).1 (bV ons 0).length≤16 from this) ab
   rw [Dn,if_neg hco,KA,if_neg ab]
   refine am (ai (aN _ aa rfl (by exact DM)) ?_)
   exact bF rfl rfl rfl rfl rfl rfl (bg rfl (aj (aG (jS (.inr rfl) rfl (.cellA aa rfl rfl rfl) (.tmp kL) (Le.out [] [] (.tup rfl lz) rfl rfl rfl trivial trivial)))))
  refine cr (an (aX rfl (ai (aZ _ _ rfl rfl (bD ab)) ?_)))
  refine bg rfl (aJ (⟨h+1,?_,?_,?_⟩))
  ·exact ⟨by omega,fun k hk=> (by
    rcases Nat.lt_or_ge k h with hlt | hge
    ·exact hks k hlt
    obtain rfl:k=h:=by omega
    omega)⟩
  ·skip
   refine Le.mkJ [] [] rfl ?_ ?_ trivial trivial ?_
   ·exact ⟨(iP rfl),(iP rfl),(ci ag),trivial⟩
   ·exact ⟨(cj rfl rfl rfl),(eY rfl rfl rfl rfl lz),trivial⟩
   kernel_rfl
  omega
 obtain rfl:h=40:=by omega
 have hco:kZ ons=true:=by
  unfold kZ
  rw [Bool.and_eq_true,decide_eq_true_eq,List.all_eq_true]
  exact ⟨hl4,fun k hk=> decide_eq_true (hks k (List.mem_range.1 hk))⟩
 refine bA (id (hK19 _ ?_))
 clear hK19;try clear K19
 refine am (ai (az _ aa rfl rfl rfl rfl) (bF rfl rfl rfl rfl rfl rfl (bg rfl (aj (aG ?_)))))
 rw [Dn,if_pos hco]
 exact jS (.inr rfl) rfl (.cellA aa rfl rfl rfl) (.tmp kL) (Le.out [] [] (.tup rfl lz) rfl rfl rfl trivial trivial)

structure ml (s:Tx) (d v:List Tx) (ons:List (Nat×Bk)):Prop extends UOk d v ons where
 p:gu s=some (d,v,vF d v ons)
 l:s.length≤3000
 wl: ∀ p∈ons,qR p.2=true
theorem Aj {s:Tx} {d v:List Tx} {ons:List (Nat×Bk)} (U:ml s d v ons) (hc:kZ ons=true):
  Spec Tryz.prog 64 (ba [.v (bt s)] []) (aP (Dn d v ons) []):=by
 have h1:=pW s U.l _ _ _ U.p
 have h2:Spec Tryz.prog 97 (ba [JA d v (vF d v ons)] []) (aP (.v (.int .i64 0)) []):=qN d v ons U.nd U.len U.ok U.wl U.n
 have h3:=nL d v ons U.toUOk
 rw [Dn,if_pos hc] at h3 ⊢
 obtain ⟨H,hH⟩: ∃ H,H=vF d v ons:=⟨_,rfl⟩
 rw [← hH] at h1 h2 h3
 clear hH
 refine Spec.ofN Tryz.func64 rfl Tryz.ntmps64 rfl ?_
 refine am (ai (aB (2,0) aa rfl rfl) (bg rfl (aj (am (ej rfl (ai (aH aa al (h1) rfl rfl) ?_))))))
 refine ai (aI _ tK) (ai (cp _ rfl px) (ai (cp _ rfl ef) (ai (cp _ rfl ef) (ai (aB (4,0) aa rfl rfl) (bF rfl rfl rfl rfl rfl rfl (bg rfl (bg rfl (aj (aq (am ?_))))))))))
 refine aX rfl (ai (bN (r:=false) _ _ rfl rfl rfl) (aj (aW rfl rfl (aS (am (ai (az _ aa rfl rfl rfl rfl) (ai (aH aa al (h2) rfl rfl) ?_)))))))
 refine bg rfl (aj (aq (aq ?_)))
 refine aM (σ':=aE 32 [(2,_),(4,_),(6,_)] [((2,0),_),((4,0),_)] [] []) kp ?_
 refine an (aX rfl (ai (bN (r:=false) _ _ rfl rfl rfl) (aj (aW rfl rfl (aS (am (ai (az _ aa rfl rfl rfl rfl) (ai (aH aa al (h3) rfl rfl) ?_))))))))
 refine ai (aI _ tK) (ai (cp _ rfl px) (ai (cp _ rfl ef) (ai (aB (7,0) aa rfl rfl) (bF rfl rfl rfl rfl rfl rfl (bg rfl (aj (am (ai (az _ aa rfl rfl rfl rfl) (aX rfl (bF rfl rfl rfl rfl rfl rfl ?_))))))))))
 exact bg rfl (aj (aG (jS (.inr rfl) rfl (.cellA aa rfl rfl rfl) (.tmp kL) (Le.out [] [] (.tup rfl lz) rfl rfl rfl trivial trivial))))
theorem zW {s:Tx} {d v:List Tx} {ons:List (Nat×Bk)} (U:ml s d v ons) (hc:kZ ons≠true):
  Spec Tryz.prog 64 (ba [.v (bt s)] []) (aP (Dn d v ons) []):=by
 have h1:=pW s U.l _ _ _ U.p
 have h2:Spec Tryz.prog 97 (ba [JA d v (vF d v ons)] []) (aP (.v (.int .i64 0)) []):=qN d v ons U.nd U.len U.ok U.wl U.n
 have h3:=nL d v ons U.toUOk
 rw [Dn,if_neg hc] at h3 ⊢
 generalize KA ons=er at h3 ⊢
 obtain ⟨H,hH⟩: ∃ H,H=vF d v ons:=⟨_,rfl⟩
 rw [← hH] at h1 h2 h3
 clear hH
 refine Spec.ofN Tryz.func64 rfl Tryz.ntmps64 rfl ?_
 refine am (ai (aB (2,0) aa rfl rfl) (bg rfl (aj (am (ej rfl (ai (aH aa al (h1) rfl rfl) ?_))))))
 refine ai (aI _ tK) (ai (cp _ rfl px) (ai (cp _ rfl ef) (ai (cp _ rfl ef) (ai (aB (4,0) aa rfl rfl) (bF rfl rfl rfl rfl rfl rfl (bg rfl (bg rfl (aj (aq (am ?_))))))))))
 refine aX rfl (ai (bN (r:=false) _ _ rfl rfl rfl) (aj (aW rfl rfl (aS (am (ai (az _ aa rfl rfl rfl rfl) (ai (aH aa al (h2) rfl rfl) ?_)))))))
 refine bg rfl (aj (aq (aq ?_)))
 refine aM (σ':=aE 32 [(2,_),(4,_),(6,_)] [((2,0),_),((4,0),_)] [] []) kp ?_
 refine an (aX rfl (ai (bN (r:=false) _ _ rfl rfl rfl) (aj (aW rfl rfl (aS (am (ai (az _ aa rfl rfl rfl rfl) (ai (aH aa al (h3) rfl rfl) ?_))))))))
 refine ai (aI _ tK) (ai (cp _ rfl px) (ai (cp _ rfl ef) (ai (aB (7,0) aa rfl rfl) (bF rfl rfl rfl rfl rfl rfl (bg rfl (aj (am (ai (az _ aa rfl rfl rfl rfl) (aX rfl (bF rfl rfl rfl rfl rfl rfl ?_))))))))))
 exact bg rfl (aj (aG (jS (.inr rfl) rfl (.cellA aa rfl rfl rfl) (.tmp kL) (Le.out [] [] (.tup rfl lz) rfl rfl rfl trivial trivial))))
theorem vC {s:Tx} {d v:List Tx} {ons:List (Nat×Bk)} (U:ml s d v ons):
  Spec Tryz.prog 64 (ba [.v (bt s)] []) (aP (Dn d v ons) []):=by
 by_cases hc:kZ ons=true
 ·exact Aj U hc
 exact zW U hc
def durs:List (List Tx):=[CI,Cu,BZ,zw,Bn,AW,zu,Bu,CS,zJ,uR,vd]
def vols:List (List Tx):=[AJ,CC,BB,Cn,AE,CJ,CD,CK,zC,AS,ve,uk]
def onss:List (List (Nat×Bk)):=[ons0,ons1,ons2,ons3,ons4,ons5,ons6,ons7,ons8,ons9,ons10,ons11]
theorem iL {d v:List Tx} {ons:List (Nat×Bk)} (h:vt ons (d++v).length) (h1:(d++v).Nodup) (h2:(d++v).length≤16) (h3:(ons.all fun p=> so p.2)=true) (h4:ons.length≤1000):UOk d v ons:=
 ⟨h1,h2,h.ok,fun p hp=> (List.all_eq_true.1 h3) p hp,h.h,by have:=h.n;omega,h4⟩
theorem IQ:ml (srcs.getD 0 []) CI AJ ons0:=⟨iL srcOk0 ah ah ae ah,Iw,of_decide_eq_true ae,srcOk0.wl⟩
theorem Jx:ml (srcs.getD 1 []) Cu CC ons1:=⟨iL srcOk1 ah ah ae ah,HO,of_decide_eq_true ae,srcOk1.wl⟩
theorem JF:ml (srcs.getD 2 []) BZ BB ons2:=⟨iL srcOk2 ah ah ae ah,GO,of_decide_eq_true ae,srcOk2.wl⟩
theorem JE:ml (srcs.getD 3 []) zw Cn ons3:=⟨iL srcOk3 ah ah ae ah,HF,of_decide_eq_true ae,srcOk3.wl⟩
theorem IO:ml (srcs.getD 4 []) Bn AE ons4:=⟨iL srcOk4 ah ah ae ah,GW,of_decide_eq_true ae,srcOk4.wl⟩
theorem Js:ml (srcs.getD 5 []) AW CJ ons5:=⟨iL srcOk5 ah ah ae ah,Ij,of_decide_eq_true ae,srcOk5.wl⟩
theorem IZ:ml (srcs.getD 6 []) zu CD ons6:=⟨iL srcOk6 ah ah ae ah,Hl,of_decide_eq_true ae,srcOk6.wl⟩
theorem Jl:ml (srcs.getD 7 []) Bu CK ons7:=⟨iL srcOk7 ah ah ae ah,IB,of_decide_eq_true ae,srcOk7.wl⟩
theorem IP:ml (srcs.getD 8 []) CS zC ons8:=⟨iL srcOk8 ah ah ae ah,Hn,of_decide_eq_true ae,srcOk8.wl⟩
theorem JC:ml (srcs.getD 9 []) zJ AS ons9:=⟨iL srcOk9 ah ah ae ah,GF,of_decide_eq_true ae,srcOk9.wl⟩
theorem HS:ml (srcs.getD 10 []) uR ve ons10:=⟨iL srcOk10 ah ah ae ah,FR,of_decide_eq_true ae,srcOk10.wl⟩
theorem Iy:ml (srcs.getD 11 []) vd uk ons11:=⟨iL srcOk11 ah ah ae ah,Dv,of_decide_eq_true ae,srcOk11.wl⟩
theorem Jk (k:Nat) (hk:k < 12):ml (srcs.getD k []) (durs.getD k []) (vols.getD k []) (onss.getD k [])∧vt (onss.getD k []) (durs.getD k []++vols.getD k []).length:=by
 rcases k with _ | _ | _ | _ | _ | _ | _ | _ | _ | _ | _ | _ | k
 ·exact ⟨IQ,srcOk0⟩
 ·exact ⟨Jx,srcOk1⟩
 ·exact ⟨JF,srcOk2⟩
 ·exact ⟨JE,srcOk3⟩
 ·exact ⟨IO,srcOk4⟩
 ·exact ⟨Js,srcOk5⟩
 ·exact ⟨IZ,srcOk6⟩
 ·exact ⟨Jl,srcOk7⟩
 ·exact ⟨IP,srcOk8⟩
 ·exact ⟨JC,srcOk9⟩
 ·exact ⟨HS,srcOk10⟩
 ·exact ⟨Iy,srcOk11⟩
 omega
theorem tG:Spec Tryz.prog 108 (ba [] []) (aP (.sl 12 (fm srcs)) []):=by
 refine Spec.ofN Tryz.func108 rfl Tryz.ntmps108 rfl ?_
 refine am (ai (bp _ fA) (aj (am (ai (bh _ _ aa rfl ag (by (simp <;> rfl)) ah rfl) ?_))))
 exact kB rfl (aj (aG (bH (.inr rfl) rfl (.tmp mx) (Le.out [] [] (ja rfl ae) rfl rfl rfl trivial trivial))))
theorem uA (n:Int) (h1: -9223372036854775808≤n) (h2:n≤9223372036854775807):
  Spec Tryz.prog 75 (ba [.v (.int .i64 n)] []) (aP (.v (bt (srcs.getD (dL n 12).toNat []))) []):=by
 have ha:=jL n 12 ab ab h1 h2
 have hlo:=jg n 12 ab
 have hhi:=jW n 12 ab
 obtain ⟨k,hk⟩: ∃ k:Nat,dL n 12=(k:Int):=⟨(dL n 12).toNat,by omega⟩
 rw [hk] at ha hlo hhi ⊢
 have hk2:k < srcs.length:=by rw [zQ];omega
 have hg:=jI srcs k hk2
 have hs:=tG
 rw [Int.toNat_natCast]
 generalize srcs=S at hg hs hk2
 refine Spec.ofN Tryz.func75 rfl Tryz.ntmps75 rfl ?_
 refine am (oz rfl (aj (am (ai (aH aa (by repeat' (exact cT)) (hs) rfl rfl) ?_))))
 refine kB rfl (aj (am (eO rfl (aX rfl (eO rfl (ai (bi _ aa rfl) (ai (aH aa al (ha) rfl rfl) ?_)))))))
 refine ai (bn _ _ aa rfl rfl _ rfl ab (by (simp only [aL,bb,bj,bv,bu,bG,bw,bO,eH,aL,List.length_map];omega)) (by exact Nat.mul_one _)) ?_
 refine ai (bL _ aa rfl (by exact hg) rfl) ?_
 exact oz rfl (aj (aG (fv rfl rfl)))
theorem sV (n:Int) (h1: -9223372036854775808≤n) (h2:n≤9223372036854775807):
  Spec Tryz.prog 39 (ba [.v (.int .i64 n)] []) (aP (On (durs.getD (dL n 12).toNat []) (vols.getD (dL n 12).toNat []) (onss.getD (dL n 12).toNat [])) []):=by
 have hs:=uA n h1 h2
 have hlo:=jg n 12 ab
 have hhi:=jW n 12 ab
 obtain ⟨k,hk⟩: ∃ k:Nat,dL n 12=(k:Int):=⟨(dL n 12).toNat,by omega⟩
 rw [hk] at hs hlo hhi ⊢
 rw [Int.toNat_natCast] at hs ⊢
 obtain ⟨U,hS⟩:=Jk k ab
 have hb:=vC U
 rw [Dn,if_pos (yq hS)] at hb
 generalize srcs.getD k []=s at hs hb
 generalize durs.getD k []=d at hb ⊢
 generalize vols.getD k []=v at hb ⊢
 generalize onss.getD k []=ons at hb ⊢
 clear U hS
 refine Spec.ofN Tryz.func39 rfl Tryz.ntmps39 rfl ?_
 refine am (ai (aB (2,0) aa rfl rfl) (aj (am (aX rfl (ai (aH aa al (hs) rfl rfl) ?_)))))
 refine ai (aH aa al (hb) rfl rfl) ?_
 refine ai (aI _ tK) (ai (cp _ rfl px) (ai (cp _ rfl ef) (ai (aB (3,0) aa rfl rfl) (bF rfl rfl rfl rfl rfl rfl (bg rfl (aj (am (ai (az _ aa rfl rfl rfl rfl) (bF rfl rfl rfl rfl rfl rfl (aj ?_))))))))))
 exact aG (bH (.inr rfl) rfl (.cellA aa rfl rfl rfl) (Le.out [] [] (.agg rfl lz) rfl rfl rfl trivial trivial))

structure GL (L:List Int):Prop where
 n:L.length≤4611686018427387904
 r: ∀ x∈L, -9223372036854775808≤x∧x≤9223372036854775807

structure Pg where
 c:List eW
 e:Nat→Int
 d:Nat
 v:Nat
abbrev Qh (p:Pg):List AV:=Fj p.c.length (inl p.c) p.e (p.d:Int) (p.v:Int)
abbrev ij (p:Pg):AV:= .agg (Qh p)
end Go.Proofs.YtmjnackchaahbaaGreat
