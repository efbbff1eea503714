/- part 11 -/
import Derived.Test.YtmjnackchaahbaaGreatVhZ10
set_option linter.unusedSimpArgs false
set_option linter.unusedVariables false
set_option maxHeartbeats 2000000
namespace Go.Proofs.YtmjnackchaahbaaGreat
open Go.RowKit

abbrev Fs (c:AV) (e:Nat→Int) (d v:Int):List AV:=[c, .v (.int .i64 (e 0)), .v (.int .i64 (e 1)), .v (.int .i64 (e 2)), .v (.int .i64 (e 3)), .v (.int .i64 (e 4)), .v (.int .i64 (e 5)), .v (.int .i64 (e 6)), .v (.int .i64 (e 7)), .v (.int .i64 (e 8)), .v (.int .i64 (e 9)), .v (.int .i64 (e 10)), .v (.int .i64 (e 11)), .v (.int .i64 (e 12)), .v (.int .i64 (e 13)), .v (.int .i64 (e 14)), .v (.int .i64 (e 15)), .v (.int .i64 (e 16)), .v (.int .i64 (e 17)), .v (.int .i64 (e 18)), .v (.int .i64 (e 19)), .v (.int .i64 (e 20)), .v (.int .i64 (e 21)), .v (.int .i64 (e 22)), .v (.int .i64 (e 23)), .v (.int .i64 (e 24)), .v (.int .i64 (e 25)), .v (.int .i64 (e 26)), .v (.int .i64 (e 27)), .v (.int .i64 (e 28)), .v (.int .i64 (e 29)), .v (.int .i64 (e 30)), .v (.int .i64 (e 31)), .v (.int .i64 (e 32)), .v (.int .i64 (e 33)), .v (.int .i64 (e 34)), .v (.int .i64 (e 35)), .v (.int .i64 (e 36)), .v (.int .i64 (e 37)), .v (.int .i64 (e 38)), .v (.int .i64 (e 39)), .v (.int .i64 d), .v (.int .i64 v)]
abbrev rX (n:Nat) (xs:List PV) (e:Nat→Int) (d v:Int):List AV:=Fs (.sl n xs) e d v
def pS (e:Nat→Int) (h:Nat) (x:Int):Nat→Int:=fun k=> if k=h then x else e k
theorem oA (c:AV) (e:Nat→Int) (d v:Int) (h:Nat) (hh:h < 40) (x:Int):ez (Fs c e d v) (1+h) [.v (.int .i64 x)]=Fs c (pS e h x) d v:=by
 rcases h with _ | _ | _ | _ | _ | _ | _ | _ | _ | _ | _ | _ | _ | _ | _ | _ | _ | _ | _ | _ | _ | _ | _ | _ | _ | _ | _ | _ | _ | _ | _ | _ | _ | _ | _ | _ | _ | _ | _ | _ | h
 all_goals first | rfl | omega
theorem kM (n:Nat) (xs:List PV) (e:Nat→Int) (d v:Int) (h:Nat) (hh:h < 40):(rX n xs e d v)[1+h]? =some (.v (.int .i64 (e h))):=by
 rcases h with _ | _ | _ | _ | _ | _ | _ | _ | _ | _ | _ | _ | _ | _ | _ | _ | _ | _ | _ | _ | _ | _ | _ | _ | _ | _ | _ | _ | _ | _ | _ | _ | _ | _ | _ | _ | _ | _ | _ | _ | h
 all_goals first | rfl | omega
def nC (l:List Nat):List PV:=l.map fun (x:Nat)=> .v (.int .i64 (x:Int))
@[simp] theorem dP (l:List Nat):(nC l).length=l.length:=by simp [nC]
theorem Ei (l:List Nat) (k:Nat) (h:k < l.length):(nC l)[k]? =some (.v (.int .i64 (l.getD k 0:Int))):=by simp [nC,h]
theorem xA:Spec Tryz.prog 106 (aQ [.v (.int .i64 1)] []) (aG (.v (.int .i64 0)) []):=by
 refine Spec.ofN Tryz.func106 rfl Tryz.ntmps106 rfl ?_
 refine go 19 ?_
 exact aq (eu rfl rfl)
theorem yZ:Spec Tryz.prog 106 (aQ [.v (.int .i64 2)] []) (aG (.v (.int .i64 0)) []):=by
 refine Spec.ofN Tryz.func106 rfl Tryz.ntmps106 rfl ?_
 refine go 24 ?_
 exact aq (eu rfl rfl)
theorem uv:Spec Tryz.prog 106 (aQ [.v (.int .i64 3)] []) (aG (.v (.int .i64 1)) []):=by
 refine Spec.ofN Tryz.func106 rfl Tryz.ntmps106 rfl ?_
 refine go 44 ?_
 refine az (σ':=ap 31 [(3,_)] [] [] []) kp ?_
 refine go 31 ?_
 exact aq (eu rfl rfl)
theorem yE:Spec Tryz.prog 106 (aQ [.v (.int .i64 4)] []) (aG (.v (.int .i64 0)) []):=by
 refine Spec.ofN Tryz.func106 rfl Tryz.ntmps106 rfl ?_
 refine go 29 ?_
 exact aq (eu rfl rfl)
theorem yB:Spec Tryz.prog 106 (aQ [.v (.int .i64 5)] []) (aG (.v (.int .i64 1)) []):=by
 refine Spec.ofN Tryz.func106 rfl Tryz.ntmps106 rfl ?_
 refine go 44 ?_
 refine az (σ':=ap 31 [(3,_)] [] [] []) kp ?_
 refine go 16 ?_
 exact aq (eu rfl rfl)
theorem Af:Spec Tryz.prog 106 (aQ [.v (.int .i64 6)] []) (aG (.v (.int .i64 2)) []):=by
 refine Spec.ofN Tryz.func106 rfl Tryz.ntmps106 rfl ?_
 refine go 44 ?_
 refine az (σ':=ap 31 [(3,_)] [] [] []) kp ?_
 refine go 44 ?_
 refine aA ?_
 refine az (σ':=ap 31 [] [] [] []) kp ?_
 exact an (bF rfl (aj (aq (eu rfl rfl))))
theorem zt:Spec Tryz.prog 106 (aQ [.v (.int .i64 7)] []) (aG (.v (.int .i64 2)) []):=by
 refine Spec.ofN Tryz.func106 rfl Tryz.ntmps106 rfl ?_
 refine go 44 ?_
 refine az (σ':=ap 31 [(3,_)] [] [] []) kp ?_
 refine go 42 ?_
 refine aA ?_
 refine az (σ':=ap 31 [(3,_)] [] [] []) kp ?_
 refine go 10 ?_
 exact aq (eu rfl rfl)
theorem BZ:Spec Tryz.prog 106 (aQ [.v (.int .i64 8)] []) (aG (.v (.int .i64 2)) []):=by
 refine Spec.ofN Tryz.func106 rfl Tryz.ntmps106 rfl ?_
 refine go 44 ?_
 refine az (σ':=ap 31 [(3,_)] [] [] []) kp ?_
 refine go 42 ?_
 refine aA ?_
 refine az (σ':=ap 31 [(3,_)] [] [] []) kp ?_
 refine go 15 ?_
 exact aq (eu rfl rfl)
theorem yT:Spec Tryz.prog 106 (aQ [.v (.int .i64 9)] []) (aG (.v (.int .i64 2)) []):=by
 refine Spec.ofN Tryz.func106 rfl Tryz.ntmps106 rfl ?_
 refine go 44 ?_
 refine az (σ':=ap 31 [(3,_)] [] [] []) kp ?_
 refine go 42 ?_
 refine aA ?_
 refine az (σ':=ap 31 [(3,_)] [] [] []) kp ?_
 refine go 20 ?_
 exact aq (eu rfl rfl)
theorem zF:Spec Tryz.prog 106 (aQ [.v (.int .i64 10)] []) (aG (.v (.int .i64 1)) []):=by
 refine Spec.ofN Tryz.func106 rfl Tryz.ntmps106 rfl ?_
 refine go 44 ?_
 refine az (σ':=ap 31 [(3,_)] [] [] []) kp ?_
 refine go 21 ?_
 exact aq (eu rfl rfl)
theorem CB:Spec Tryz.prog 106 (aQ [.v (.int .i64 11)] []) (aG (.v (.int .i64 2)) []):=by
 refine Spec.ofN Tryz.func106 rfl Tryz.ntmps106 rfl ?_
 refine go 44 ?_
 refine az (σ':=ap 31 [(3,_)] [] [] []) kp ?_
 refine go 42 ?_
 refine aA ?_
 refine az (σ':=ap 31 [(3,_)] [] [] []) kp ?_
 refine go 25 ?_
 exact aq (eu rfl rfl)
theorem Cs:Spec Tryz.prog 106 (aQ [.v (.int .i64 12)] []) (aG (.v (.int .i64 2)) []):=by
 refine Spec.ofN Tryz.func106 rfl Tryz.ntmps106 rfl ?_
 refine go 44 ?_
 refine az (σ':=ap 31 [(3,_)] [] [] []) kp ?_
 refine go 42 ?_
 refine aA ?_
 refine az (σ':=ap 31 [(3,_)] [] [] []) kp ?_
 refine go 30 ?_
 exact aq (eu rfl rfl)
theorem Dx:Spec Tryz.prog 106 (aQ [.v (.int .i64 13)] []) (aG (.v (.int .i64 2)) []):=by
 refine Spec.ofN Tryz.func106 rfl Tryz.ntmps106 rfl ?_
 refine go 44 ?_
 refine az (σ':=ap 31 [(3,_)] [] [] []) kp ?_
 refine go 42 ?_
 refine aA ?_
 refine az (σ':=ap 31 [(3,_)] [] [] []) kp ?_
 refine go 35 ?_
 exact aq (eu rfl rfl)
theorem Bb:Spec Tryz.prog 106 (aQ [.v (.int .i64 14)] []) (aG (.v (.int .i64 1)) []):=by
 refine Spec.ofN Tryz.func106 rfl Tryz.ntmps106 rfl ?_
 refine go 44 ?_
 refine az (σ':=ap 31 [(3,_)] [] [] []) kp ?_
 refine go 26 ?_
 exact aq (eu rfl rfl)
theorem yx:Spec Tryz.prog 106 (aQ [.v (.int .i64 15)] []) (aG (.v (.int .i64 0)) []):=by
 refine Spec.ofN Tryz.func106 rfl Tryz.ntmps106 rfl ?_
 refine go 34 ?_
 exact aq (eu rfl rfl)
theorem Ae:Spec Tryz.prog 106 (aQ [.v (.int .i64 16)] []) (aG (.v (.int .i64 1)) []):=by
 refine Spec.ofN Tryz.func106 rfl Tryz.ntmps106 rfl ?_
 refine go 44 ?_
 refine az (σ':=ap 31 [(3,_)] [] [] []) kp ?_
 refine go 36 ?_
 exact aq (eu rfl rfl)
theorem xo:Spec Tryz.prog 106 (aQ [.v (.int .i64 17)] []) (aG (.v (.int .i64 3)) []):=by
 refine Spec.ofN Tryz.func106 rfl Tryz.ntmps106 rfl ?_
 refine go 44 ?_
 refine az (σ':=ap 31 [(3,_)] [] [] []) kp ?_
 refine go 42 ?_
 refine aA ?_
 refine az (σ':=ap 31 [(3,_)] [] [] []) kp ?_
 refine go 40 ?_
 refine aA ?_
 refine az (σ':=ap 31 [] [] [] []) kp ?_
 exact an (bF rfl (aj (aq (eu rfl rfl))))
theorem vh:Spec Tryz.prog 106 (aQ [.v (.int .i64 18)] []) (aG (.v (.int .i64 0)) []):=by
 refine Spec.ofN Tryz.func106 rfl Tryz.ntmps106 rfl ?_
 refine go 39 ?_
 exact aq (eu rfl rfl)
theorem tn:Spec Tryz.prog 106 (aQ [.v (.int .i64 19)] []) (aG (.v (.int .i64 0)) []):=by
 refine Spec.ofN Tryz.func106 rfl Tryz.ntmps106 rfl ?_
 refine go 44 ?_
 exact aq (eu rfl rfl)
theorem yI:Spec Tryz.prog 106 (aQ [.v (.int .i64 20)] []) (aG (.v (.int .i64 0)) []):=by
 refine Spec.ofN Tryz.func106 rfl Tryz.ntmps106 rfl ?_
 refine go 46 ?_
 refine aA ?_
 refine az (σ':=ap 31 [] [] [] []) kp ?_
 exact an (bF rfl (aj (aq (eu rfl rfl))))
theorem vK:Spec Tryz.prog 106 (aQ [.v (.int .i64 21)] []) (aG (.v (.int .i64 2)) []):=by
 refine Spec.ofN Tryz.func106 rfl Tryz.ntmps106 rfl ?_
 refine go 44 ?_
 refine az (σ':=ap 31 [(3,_)] [] [] []) kp ?_
 refine go 42 ?_
 refine aA ?_
 refine az (σ':=ap 31 [(3,_)] [] [] []) kp ?_
 refine go 38 ?_
 exact aq (eu rfl rfl)
theorem yg:Spec Tryz.prog 106 (aQ [.v (.int .i64 22)] []) (aG (.v (.int .i64 1)) []):=by
 refine Spec.ofN Tryz.func106 rfl Tryz.ntmps106 rfl ?_
 refine go 44 ?_
 refine az (σ':=ap 31 [(3,_)] [] [] []) kp ?_
 refine go 39 ?_
 exact aq (eu rfl rfl)
theorem ym:Spec Tryz.prog 106 (aQ [.v (.int .i64 23)] []) (aG (.v (.int .i64 0)) []):=by
 refine Spec.ofN Tryz.func106 rfl Tryz.ntmps106 rfl ?_
 refine go 44 ?_
 refine az (σ':=ap 31 [(3,_)] [] [] []) kp ?_
 refine go 8 ?_
 exact aq (eu rfl rfl)
theorem dW (o:Opc):Spec Tryz.prog 106 (aQ [.v (.int .i64 (o.num:Int))] []) (aG (.v (.int .i64 (o.pops:Int))) []):=by
 cases o
 ·exact xA
 ·exact yZ
 ·exact uv
 ·exact yE
 ·exact yB
 ·exact Af
 ·exact zt
 ·exact BZ
 ·exact yT
 ·exact zF
 ·exact CB
 ·exact Cs
 ·exact Dx
 ·exact Bb
 ·exact yx
 ·exact Ae
 ·exact xo
 ·exact vh
 ·exact tn
 ·exact yI
 ·exact vK
 ·exact yg
 exact ym
theorem xZ:Spec Tryz.prog 107 (aQ [.v (.int .i64 1)] []) (aG (.v (.int .i64 1)) []):=by
 refine Spec.ofN Tryz.func107 rfl Tryz.ntmps107 rfl ?_
 refine go 19 ?_
 exact aq (eu rfl rfl)
theorem zG:Spec Tryz.prog 107 (aQ [.v (.int .i64 2)] []) (aG (.v (.int .i64 1)) []):=by
 refine Spec.ofN Tryz.func107 rfl Tryz.ntmps107 rfl ?_
 refine go 24 ?_
 exact aq (eu rfl rfl)
theorem td:Spec Tryz.prog 107 (aQ [.v (.int .i64 3)] []) (aG (.v (.int .i64 0)) []):=by
 refine Spec.ofN Tryz.func107 rfl Tryz.ntmps107 rfl ?_
 refine go 44 ?_
 refine aA ?_
 refine az (σ':=ap 18 [(3,_)] [] [] []) kp ?_
 refine go 34 ?_
 exact aq (eu rfl rfl)
theorem xL:Spec Tryz.prog 107 (aQ [.v (.int .i64 4)] []) (aG (.v (.int .i64 1)) []):=by
 refine Spec.ofN Tryz.func107 rfl Tryz.ntmps107 rfl ?_
 refine go 29 ?_
 exact aq (eu rfl rfl)
theorem xU:Spec Tryz.prog 107 (aQ [.v (.int .i64 5)] []) (aG (.v (.int .i64 1)) []):=by
 refine Spec.ofN Tryz.func107 rfl Tryz.ntmps107 rfl ?_
 refine go 34 ?_
 exact aq (eu rfl rfl)
theorem zo:Spec Tryz.prog 107 (aQ [.v (.int .i64 6)] []) (aG (.v (.int .i64 1)) []):=by
 refine Spec.ofN Tryz.func107 rfl Tryz.ntmps107 rfl ?_
 refine go 46 ?_
 refine aA ?_
 refine az (σ':=ap 18 [] [] [] []) kp ?_
 exact an (bF rfl (aj (aq (eu rfl rfl))))
theorem AF:Spec Tryz.prog 107 (aQ [.v (.int .i64 7)] []) (aG (.v (.int .i64 1)) []):=by
 refine Spec.ofN Tryz.func107 rfl Tryz.ntmps107 rfl ?_
 refine go 44 ?_
 refine aA ?_
 refine az (σ':=ap 18 [(3,_)] [] [] []) kp ?_
 refine go 10 ?_
 exact aq (eu rfl rfl)
theorem Bm:Spec Tryz.prog 107 (aQ [.v (.int .i64 8)] []) (aG (.v (.int .i64 1)) []):=by
 refine Spec.ofN Tryz.func107 rfl Tryz.ntmps107 rfl ?_
 refine go 44 ?_
 refine aA ?_
 refine az (σ':=ap 18 [(3,_)] [] [] []) kp ?_
 refine go 15 ?_
 exact aq (eu rfl rfl)
theorem Cc:Spec Tryz.prog 107 (aQ [.v (.int .i64 9)] []) (aG (.v (.int .i64 1)) []):=by
 refine Spec.ofN Tryz.func107 rfl Tryz.ntmps107 rfl ?_
 refine go 44 ?_
 refine aA ?_
 refine az (σ':=ap 18 [(3,_)] [] [] []) kp ?_
 refine go 20 ?_
 exact aq (eu rfl rfl)
theorem Aa:Spec Tryz.prog 107 (aQ [.v (.int .i64 10)] []) (aG (.v (.int .i64 1)) []):=by
 refine Spec.ofN Tryz.func107 rfl Tryz.ntmps107 rfl ?_
 refine go 39 ?_
 exact aq (eu rfl rfl)
theorem Fg:Spec Tryz.prog 107 (aQ [.v (.int .i64 11)] []) (aG (.v (.int .i64 1)) []):=by
 refine Spec.ofN Tryz.func107 rfl Tryz.ntmps107 rfl ?_
 refine go 44 ?_
 refine aA ?_
 refine az (σ':=ap 18 [(3,_)] [] [] []) kp ?_
 refine go 25 ?_
 exact aq (eu rfl rfl)
theorem DU:Spec Tryz.prog 107 (aQ [.v (.int .i64 12)] []) (aG (.v (.int .i64 1)) []):=by
 refine Spec.ofN Tryz.func107 rfl Tryz.ntmps107 rfl ?_
 refine go 44 ?_
 refine aA ?_
 refine az (σ':=ap 18 [(3,_)] [] [] []) kp ?_
 refine go 30 ?_
 exact aq (eu rfl rfl)
theorem En:Spec Tryz.prog 107 (aQ [.v (.int .i64 13)] []) (aG (.v (.int .i64 1)) []):=by
 refine Spec.ofN Tryz.func107 rfl Tryz.ntmps107 rfl ?_
 refine go 44 ?_
 refine aA ?_
 refine az (σ':=ap 18 [(3,_)] [] [] []) kp ?_
 refine go 33 ?_
 exact aq (eu rfl rfl)
theorem zQ:Spec Tryz.prog 107 (aQ [.v (.int .i64 14)] []) (aG (.v (.int .i64 1)) []):=by
 refine Spec.ofN Tryz.func107 rfl Tryz.ntmps107 rfl ?_
 refine go 44 ?_
 exact aq (eu rfl rfl)
theorem xB:Spec Tryz.prog 107 (aQ [.v (.int .i64 15)] []) (aG (.v (.int .i64 0)) []):=by
 refine Spec.ofN Tryz.func107 rfl Tryz.ntmps107 rfl ?_
 refine go 44 ?_
 refine aA ?_
 refine az (σ':=ap 18 [(3,_)] [] [] []) kp ?_
 refine go 34 ?_
 exact aq (eu rfl rfl)
theorem Bn:Spec Tryz.prog 107 (aQ [.v (.int .i64 16)] []) (aG (.v (.int .i64 0)) []):=by
 refine Spec.ofN Tryz.func107 rfl Tryz.ntmps107 rfl ?_
 refine go 44 ?_
 refine aA ?_
 refine az (σ':=ap 18 [(3,_)] [] [] []) kp ?_
 refine go 34 ?_
 exact aq (eu rfl rfl)
theorem yn:Spec Tryz.prog 107 (aQ [.v (.int .i64 17)] []) (aG (.v (.int .i64 0)) []):=by
 refine Spec.ofN Tryz.func107 rfl Tryz.ntmps107 rfl ?_
 refine go 44 ?_
 refine aA ?_
 refine az (σ':=ap 18 [(3,_)] [] [] []) kp ?_
 refine go 34 ?_
 exact aq (eu rfl rfl)
theorem vn:Spec Tryz.prog 107 (aQ [.v (.int .i64 18)] []) (aG (.v (.int .i64 0)) []):=by
 refine Spec.ofN Tryz.func107 rfl Tryz.ntmps107 rfl ?_
 refine go 44 ?_
 refine aA ?_
 refine az (σ':=ap 18 [(3,_)] [] [] []) kp ?_
 refine go 34 ?_
 exact aq (eu rfl rfl)
theorem sV:Spec Tryz.prog 107 (aQ [.v (.int .i64 19)] []) (aG (.v (.int .i64 0)) []):=by
 refine Spec.ofN Tryz.func107 rfl Tryz.ntmps107 rfl ?_
 refine go 44 ?_
 refine aA ?_
 refine az (σ':=ap 18 [(3,_)] [] [] []) kp ?_
 refine go 34 ?_
 exact aq (eu rfl rfl)
theorem ya:Spec Tryz.prog 107 (aQ [.v (.int .i64 20)] []) (aG (.v (.int .i64 0)) []):=by
 refine Spec.ofN Tryz.func107 rfl Tryz.ntmps107 rfl ?_
 refine go 44 ?_
 refine aA ?_
 refine az (σ':=ap 18 [(3,_)] [] [] []) kp ?_
 refine go 34 ?_
 exact aq (eu rfl rfl)
theorem vt:Spec Tryz.prog 107 (aQ [.v (.int .i64 21)] []) (aG (.v (.int .i64 0)) []):=by
 refine Spec.ofN Tryz.func107 rfl Tryz.ntmps107 rfl ?_
 refine go 44 ?_
 refine aA ?_
 refine az (σ':=ap 18 [(3,_)] [] [] []) kp ?_
 refine go 34 ?_
 exact aq (eu rfl rfl)
theorem xl:Spec Tryz.prog 107 (aQ [.v (.int .i64 22)] []) (aG (.v (.int .i64 0)) []):=by
 refine Spec.ofN Tryz.func107 rfl Tryz.ntmps107 rfl ?_
 refine go 44 ?_
 refine aA ?_
 refine az (σ':=ap 18 [(3,_)] [] [] []) kp ?_
 refine go 34 ?_
 exact aq (eu rfl rfl)
theorem yq:Spec Tryz.prog 107 (aQ [.v (.int .i64 23)] []) (aG (.v (.int .i64 0)) []):=by
 refine Spec.ofN Tryz.func107 rfl Tryz.ntmps107 rfl ?_
 refine go 44 ?_
 refine aA ?_
 refine az (σ':=ap 18 [(3,_)] [] [] []) kp ?_
 refine go 34 ?_
 exact aq (eu rfl rfl)
theorem rc (o:Opc):Spec Tryz.prog 107 (aQ [.v (.int .i64 (o.num:Int))] []) (aG (.v (.int .i64 (o.puts:Int))) []):=by
 cases o
 ·exact xZ
 ·exact zG
 ·exact td
 ·exact xL
 ·exact xU
 ·exact zo
 ·exact AF
 ·exact Bm
 ·exact Cc
 ·exact Aa
 ·exact Fg
 ·exact DU
 ·exact En
 ·exact zQ
 ·exact xB
 ·exact Bn
 ·exact yn
 ·exact vn
 ·exact sV
 ·exact ya
 ·exact vt
 ·exact xl
 exact yq
theorem opn_stop {o:Opc}:(o.num:Int)=23↔o= .stop:=by cases o <;> simp [Opc.num]
theorem opn_jump {o:Opc}:(o.num:Int)=15↔o= .jump:=by cases o <;> simp [Opc.num]
theorem opn_unl {o:Opc}:(o.num:Int)=16↔o= .unl:=by cases o <;> simp [Opc.num]
theorem rf (C:List bq) (e:Nat→Int) (dd vv:Int) (i:Nat) (hC:C.length≤1000000) (hi:i < C.length) (hn:(bC C i).op= .jump∨(bC C i).op= .unl→0≤(bC C i).n):
  Spec Tryz.prog 73 (aQ [.agg (rX C.length (inl C) e dd vv), .v (.int .i64 (i:Int))] []) (aG (.sl (bP i (bC C i)).length (nC (bP i (bC C i)))) []):=by
 obtain ⟨x,hx⟩: ∃ x,x=bC C i:=⟨_,rfl⟩
 have hg0:=mQ C i hi
 have hg1:=AH C i hi
 rw [← hx] at hn hg0 hg1 ⊢
 clear hx
 obtain ⟨o,n⟩:=x
 simp only at hn hg0 hg1
 refine Spec.ofN Tryz.func73 rfl Tryz.ntmps73 rfl ?_
 refine aH (ai (ed (2,0) _ rfl rfl) (ai (bg _ fg) (go 6 ?_)))
 refine ai (aL _ _ aa rfl rfl _ rfl ab (by (simp only [aM,aW,aV,bj,bl,bk,ba,bo,dP];omega)) ag) ?_
 refine ai (dI _ aa rfl rfl) (ai (bh _ aa rfl (by exact hg0) rfl) ?_)
 refine aj (aN (aH (ai (ca _ _ rfl rfl rfl) (gP rfl (aj (aD rfl (fun hc11=> ?_) (fun hc11=> ?_)))))))
 ·obtain rfl:=opn_stop.1 hc11
  exact aH (ai (bg _ fg) (aj (aq (dm (.inr rfl) rfl (.tmp iH) (Le.out [] [] .nil rfl rfl rfl trivial trivial)))))
 refine aH (ai (ca _ _ rfl rfl rfl) (gP rfl (aj (aD rfl (fun hc13=> ?_) (fun hc13=> ?_)))))
 ·obtain rfl:=opn_jump.1 hc13
  have hn:=hn (.inl rfl)
  refine go 4 ?_
  refine ai (aL _ _ aa rfl rfl _ rfl ab (by (simp only [aM,aW,aV,bj,bl,bk,ba,bo,dP];omega)) ag) ?_
  refine ai (dI _ aa rfl rfl) (ai (bh _ aa rfl (by exact hg1) rfl) ?_)
  refine go 3 ?_
  exact aq (dm (.inr rfl) rfl (.tmp qd) (Le.out [] [] (iu rfl (by simp [nC,bP,Int.toNat_of_nonneg hn])) rfl rfl rfl trivial trivial))
 refine aH (ai (ca _ _ rfl rfl rfl) (gP rfl (aj (aD rfl (fun hc22=> ?_) (fun hc22=> ?_)))))
 ·obtain rfl:=opn_unl.1 hc22
  have hn:=hn (.inr rfl)
  refine go 6 ?_
  refine ai (aL _ _ aa rfl rfl _ rfl ab (by (simp only [aM,aW,aV,bj,bl,bk,ba,bo,dP];omega)) ag) ?_
  refine ai (dI _ aa rfl rfl) (ai (bh _ aa rfl (by exact hg1) rfl) ?_)
  refine go 3 ?_
  exact aq (dm (.inr rfl) rfl (.tmp qd) (Le.out [] [] (iu rfl (by simp [nC,bP,Int.toNat_of_nonneg hn])) rfl rfl rfl trivial trivial))
 have hs:bP i ⟨o,n⟩=[i+1]:=by
  unfold bP
  have h1:o≠ .stop:=fun e=> hc11 (opn_stop.2 e)
  have h2:o≠ .jump:=fun e=> hc13 (opn_jump.2 e)
  have h3:o≠ .unl:=fun e=> hc22 (opn_unl.2 e)
  cases o <;> first | rfl | exact absurd rfl h1 | exact absurd rfl h2 | exact absurd rfl h3
 refine go 7 ?_
 refine aq ?_
 rw [hs]
 exact dm (.inr rfl) rfl (.tmp qd) (Le.out [] [] (iu rfl (by simp [nC])) rfl rfl rfl trivial trivial)
instance Oo:Arr Tryz.prog 24 40 1:=Arr.of Tryz.underlying24 ae
instance Qf:Arr Tryz.prog 30 9 1:=Arr.of Tryz.underlying30 ae
instance MQ:Arr Tryz.prog 173 24 1:=Arr.of Tryz.underlying173 ae
end Go.Proofs.YtmjnackchaahbaaGreat

set_option maxHeartbeats 2000000
namespace Go.Proofs.YtmjnackchaahbaaGreat
open Go.RowKit

theorem gg {l:List Int} {i:Nat} (h:i < l.length):l.getD i (-1)=l.getD i 0:=by
 rw [List.getD_eq_getElem?_getD,List.getD_eq_getElem?_getD,List.getElem?_eq_getElem h];rfl
theorem wa {n:Nat} {d:Int} {s:DS} {l:List Nat} {k:Nat} (h:k < l.length):(l.take (k+1)).foldl (gx n d) s=gx n d ((l.take k).foldl (gx n d) s) (l.getD k 0):=by
 rw [List.take_succ_eq_append_getElem h,List.foldl_append,List.getD_eq_getElem?_getD,List.getElem?_eq_getElem h];rfl
theorem CN (n k:Nat) (h:k < n):((List.replicate k (-1:Int))++List.replicate (n - k) 0).set k (-1)=List.replicate (k+1) (-1)++List.replicate (n - (k+1)) 0:=by
 rw [List.set_append_right _ _ (by simp),List.length_replicate,Nat.sub_self,show n - k=(n - (k+1))+1 by omega,List.replicate_succ,List.set_cons_zero,show List.replicate (k+1) (-1:Int)=List.replicate k (-1)++[-1] from List.replicate_succ']
 simp
theorem za {ρ:ay→ay} {σ:St} {F:ay→Bool} {id:ay} {e:TypeId} {sz n m:Nat} {xs ys:List PV} (hid:σ.ob id= .obj (.row e sz xs)) (hF:F id=true) (hl:n*sz=xs.length) (hy:xs=ys) (hn:n=m):Lv ρ σ F (.sl m ys) (.ref id 0 n):=by
 subst hn;exact iO hid hF hl hy
theorem DI.flag {D:Nat→Nat} {n:Nat} {s:DS} {b:Bool} (h:DI D n s):DI D n (s.1,s.2.1,b):=⟨h.len,h.val,h.ok⟩
def xT (C:List bq) (R:List Int×Bool) (z:(List Int×Bool)×Bool):Prop:=if z.2=true then ∃ f,neg z.1.1+1≤f∧gE C f z.1=R else z.1=R
theorem xg {C:List bq} {R:List Int×Bool} {s:List Int×Bool} {f:Nat} (hf:neg s.1+1≤f) (hR:gE C f s=R) (hd:(cF C s C.length).2.2=true→neg (cF C s C.length).1 < neg s.1):
  xT C R (((cF C s C.length).1,(cF C s C.length).2.1),(cF C s C.length).2.2):=by
 obtain ⟨g,rfl⟩: ∃ g,f=g+1:=⟨f - 1,by omega⟩
 unfold xT
 cases hb:(cF C s C.length).2.2 with
 | true=>
  have:=hd hb
  rw [if_pos rfl]
  exact ⟨g,by simp only;omega,by rw [← hR,vM hb]⟩
 | false=> rw [if_neg (by simp)];rw [← hR,uE hb]
def Kl (z:(List Int×Bool)×Bool):Nat:=if z.2=true then neg z.1.1+1 else 0
theorem GX {C:List bq} {s:List Int×Bool} (hd:(cF C s C.length).2.2=true→neg (cF C s C.length).1 < neg s.1):Kl (((cF C s C.length).1,(cF C s C.length).2.1),(cF C s C.length).2.2) < neg s.1+1:=by
 unfold Kl
 simp only
 split
 ·rename_i h;have:=hd h;omega
 omega
theorem xC {C:List bq} {s:DS} {i:Nat} (h:s.1.getD i (-1) < 0):jm C s i=s:=by unfold jm;rw [if_pos h]
theorem yR {C:List bq} {s:DS} {i:Nat} (h: ¬ s.1.getD i (-1) < 0) (h2: ¬ s.1.getD i (-1) - (bC C i).op.pops < 0):jm C s i=(bP i (bC C i)).foldl (gx C.length (s.1.getD i (-1) - (bC C i).op.pops+(bC C i).op.puts)) s:=by
 unfold jm DZ
 rw [if_neg h,if_neg h2,show max (s.1.getD i (-1) - (bC C i).op.pops) 0=s.1.getD i (-1) - (bC C i).op.pops by omega]
theorem nJ (C:List bq) (en:Nat→Int) (dd vv:Int) (e:Int) (hC:C.length≤1000000) (D:Nat→Nat) (nv:Nat) (hg:Good D nv 0 (C.length - 1) 0 C) (hD: ∀ i,D i≤1000000) (he:0≤e→e < C.length→D e.toNat=0):
  Spec Tryz.prog 72 (aQ [.agg (rX C.length (inl C) en dd vv), .v (.int .i64 e)] []) (aG (.tup [.sl (eY C e).1.length (cB (eY C e).1), .v (.bool (eY C e).2)]) []):=by
 refine Spec.ofN Tryz.func72 rfl Tryz.ntmps72 rfl ?_
 refine aH (ai (ed (2,0) _ rfl rfl) (ai (bg _ fg) (go 6 ?_)))
 refine ai (IR (17,0) _ _ aa rfl rfl C.length rfl rfl ab rfl (yo C.length)) ?_
 refine gF rfl (aj (ax fun K3 hK3=> ?_))
 refine aH (bF rfl (aj (aN ?_)))
 refine aX (α:=Nat) (fun k=> k≤C.length) 123 [(1,_),(2,_)] [((2,0),_)] (fun k=> [(7, .v (.int .i64 (k:Int))),(6, .ref (6,0) 0 C.length)]) (fun k=> [((6,0), .row 3 1 (cB (List.replicate k (-1)++List.replicate (C.length - k) 0)))]) [] [] (fun k=> C.length - k) 0 ?_ (by
  refine Le.mkJ [((6,0),(17,0))] [] rfl ?_ ?_ trivial trivial ?_
  ·exact ⟨(by repeat' (exact Lv.v)),(di (id:=(2,0)) rfl),(eN ag),(eH rfl ag),trivial⟩
  ·exact ⟨(iq rfl rfl rfl rfl (by repeat' (first | exact Lv.v | exact Lv.sl | exact bz | refine aB ?_ ?_))),(im rfl rfl rfl ag),trivial⟩
  kernel_rfl) ?_
 ·omega
 intro k hk
 have hll:(List.replicate k (-1:Int)++List.replicate (C.length - k) 0).length=C.length:=by simp;omega
 refine ax fun K5 hK5=> ?_
 refine go 6 ?_
 refine aD rfl (fun hc21=> ?_) (fun hc21=> ?_)
 ·have hrs:=CN C.length k ab
  refine aU (hK5 _ ?_)
  refine aA (aN (an (sR rfl (bE rfl (ai (fM _ _ aa rfl rfl rfl _ rfl ab (by exact (Nat.zero_add _).trans (Nat.mul_one _))) ?_)))))
  refine ai (nh _ _ aa rfl rfl rfl rfl rfl (by simp;omega) ((mC _ _ _ ab).trans (congrArg cB hrs))) ?_
  refine go 5 ?_
  refine am (⟨k+1,?_,?_,?_⟩)
  ·omega
  ·exact kj [0,2] [] []
  omega
 obtain rfl:k=C.length:=by omega
 have hrep:List.replicate C.length (-1:Int)++List.replicate (C.length - C.length) 0=List.replicate C.length (-1):=by simp
 refine bm (id (hK3 _ ?_))
 refine go 5 ?_
 refine dn (fun hg29=> ?_) (fun hg29=> ?_)
 ·have hdf:eY C e=(List.replicate C.length (-1),true):=if_pos (.inl ab)
  refine go 12 ?_
  refine aq ?_
  rw [hdf]
  exact kI (.inr rfl) rfl (.tmp qj) (.tmp rD) (Le.out [] [(6,0)] (.tup rfl (aB (za rfl rfl (by simp) (congrArg cB hrep) (by simp)) lz)) rfl rfl rfl tr trivial)
 refine go 6 ?_
 refine aD rfl (fun hc34=> ?_) (fun hc34=> ?_)
 ·have hdf:eY C e=(List.replicate C.length (-1),true):=if_pos (.inr ab)
  refine go 5 ?_
  refine aq ?_
  rw [hdf]
  exact kI (.inr rfl) rfl (.tmp qj) (.tmp rD) (Le.out [] [(6,0)] (.tup rfl (aB (za rfl rfl (by simp) (congrArg cB hrep) (by simp)) lz)) rfl rfl rfl tr trivial)
 have hdf:eY C e=gE C (C.length+1) ((List.replicate C.length (-1)).set e.toNat 0,true):=if_neg ab
 have hdi0:DI D C.length ((List.replicate C.length (-1)).set e.toNat 0,true,false):=by
  have hr: ∀ i,(List.replicate C.length (-1:Int)).getD i (-1)= -1:=fun i=> by rw [List.getD_eq_getElem?_getD,List.getElem?_replicate];split <;> rfl
  refine ⟨by simp,fun i hi=> ?_,rfl⟩
  simp only
  rw [ga]
  split
  ·rename_i h;right;rw [h.1,he ab ab];rfl
  exact .inl (hr i)
 have hn0:neg ((List.replicate C.length (-1)).set e.toNat 0)≤C.length:=by
  have:=List.countP_le_length (p:=fun x:Int=> decide (x < 0)) (l:=(List.replicate C.length (-1:Int)).set e.toNat 0)
  simpa [neg] using this
 obtain ⟨R,hR⟩: ∃ R,R=eY C e:=⟨_,rfl⟩
 rw [← hR] at hdf
 refine cX (aH (sR rfl (bE rfl (ai (fM _ _ aa rfl rfl rfl e.toNat ab ab (by exact (Nat.zero_add _).trans (Nat.mul_one _))) ?_))))
 refine ai (nh _ _ aa rfl rfl rfl rfl rfl (by simp;omega) ((mC _ _ _ (by simp;omega)).trans (congrArg (fun l=> cB (List.set l e.toNat 0)) hrep))) ?_
 refine aj (aA ?_)
 refine az (σ':=ap 123 [(2,_),(6,_)] [((2,0),_),((6,0),_)] [] []) kp ?_
 refine an (gP rfl (aj (ax fun K14 hK14=> ?_)))
 refine aH (gP rfl (aj (aN ?_)))
 refine aX (α:=(List Int×Bool)×Bool) (fun z=> DI D C.length (z.1.1,z.1.2,false)∧xT C R z) 123 [(2,_),(6,_)] [((2,0),_)] (fun z=> [(8, .v (.bool z.1.2)),(9, .v (.bool z.2))]) (fun z=> [((6,0), .row 3 1 (cB z.1.1))]) [] [] (fun z=> Kl z) (((List.replicate C.length (-1)).set e.toNat 0,true),true) ?_ (kj [0,2] [] []) ?_
 ·exact ⟨hdi0,by unfold xT;rw [if_pos rfl];exact ⟨C.length+1,by simp only;omega,hdf.symm⟩⟩
 intro z hz
 obtain ⟨s,ch⟩:=z
 obtain ⟨hdi,hz⟩:=hz
 simp only at hdi hz ⊢
 refine ax fun K16 hK16=> ?_
 refine aH (HY rfl (aj (aD rfl (fun hc39=> ?_) (fun hc39=> ?_))))
 ·obtain ⟨f,hf1,hf2⟩: ∃ f,neg s.1+1≤f∧gE C f s=R:=by
   unfold xT at hz
   rwa [if_pos hc39] at hz
  have hpd:=(kB hg hdi C.length (Nat.le_refl _)).2.2
  refine aU (hK16 _ ?_)
  refine go 8 ?_
  refine aX (α:=Nat) (fun i=> i≤C.length) 123 [(2,_),(6,_)] [((2,0),_)] (fun i=> [(10, .v (.int .i64 (i:Int))),(8, .v (.bool (cF C s i).2.1)),(9, .v (.bool (cF C s i).2.2))]) (fun i=> [((6,0), .row 3 1 (cB (cF C s i).1))]) [] [] (fun i=> C.length - i) 0 ?_ (kj [0,2] [] []) ?_
  ·omega
  intro i hi
  have hw:=(kB hg hdi i hi).1
  have hps:=lM C s i
  have hwl:=hw.len
  refine ax fun K20 hK20=> ?_
  refine go 6 ?_
  refine aD rfl (fun hc43=> ?_) (fun hc43=> ?_)
  ·have hdn:=(kB hg hdi (i+1) ab).1
   have hvi:=hw.val i ab
   generalize cF C s i=w at hw hps hwl hvi
   rw [gg ab] at hvi
   obtain ⟨hins,hpop,hsuc⟩:=hg i (bC C i) (by unfold bC;rw [List.getD_eq_getElem?_getD,List.getElem?_eq_getElem ab];rfl)
   rw [Nat.zero_add] at hpop hsuc
   have hDi:=hD i
   refine aU (hK20 _ ?_)
   refine ax fun K22 hK22=> ?_
   refine aN (aA (aH (sR rfl (bE rfl (ai (fM _ _ aa rfl rfl rfl _ rfl ab (by exact (Nat.zero_add _).trans (Nat.mul_one _))) ?_)))))
   refine ai (ke _ aa rfl rfl (by exact cU _ _ ab) rfl) ?_
   refine ai (dg _ _ rfl rfl rfl) (aj (aD rfl (fun hc50=> ?_) (fun hc50=> ?_)))
   ·rw [xC (by rw [gg ab];omega)] at hps
    refine bm (id (hK22 _ ?_))
    refine go 4 ?_
    refine am (⟨i+1,?_,?_,?_⟩)
    ·omega
    ·refine Le.mkJ [] [] rfl ?_ ?_ trivial trivial ?_
     ·exact ⟨(iP rfl),(iR rfl),(eN ag),(qK (by (rw [hps]))),(qK (by (rw [hps]))),trivial⟩
     ·exact ⟨(dc rfl rfl rfl),(im rfl rfl rfl (by (rw [hps]))),trivial⟩
     kernel_rfl
    omega
   have hvD:=hvi.resolve_left ab
   have hgo:=yR (C:=C) (s:=w) (i:=i) (by rw [gg ab];omega) (by rw [gg ab];omega)
   rw [gg ab,hvD] at hgo
   rw [hgo] at hps
   obtain ⟨L,hL⟩: ∃ L,L=bP i (bC C i):=⟨_,rfl⟩
   have hLl:L.length≤2:=by rw [hL];unfold bP;split <;> simp
   have hnn:(bC C i).op= .jump∨(bC C i).op= .unl→0≤(bC C i).n:=by
    unfold cg at hins
    rintro (e | e) <;> rw [e] at hins <;> exact hins
   have hnx:=rf C en dd vv i hC ab hnn
   rw [← hL] at hps hsuc hnx
   have hpp:=dW (bC C i).op
   have hpq:=rc (bC C i).op
   have hp3:(bC C i).op.pops≤3:=by generalize (bC C i).op=o;cases o <;> decide
   have hp4:(bC C i).op.puts≤1:=by generalize (bC C i).op=o;cases o <;> decide
   refine cX (aA ?_)
   refine az (σ':=ap 123 [(2,_),(6,_),(8,_),(9,_),(10,_)] [((2,0),_),((6,0),_)] [] []) kp ?_
   refine dA 13 [] ?_
   refine go 4 ?_
   refine aJ (_,[]) (fun τ=> fM _ _ aa rfl rfl rfl _ rfl ab (by exact (Nat.zero_add _).trans (Nat.mul_one _))) ?_
   refine go 1 ?_
   refine aJ (_,[]) (fun τ=> ke _ aa rfl rfl (by exact cU _ _ ab) rfl) ?_
   refine go 7 ?_
   refine aJ (_,[]) (fun τ=> aL _ _ aa rfl rfl _ rfl ab (by (simp only [aM,aW,aV,bj,bl,bk,ba,bo,dP,aM];omega)) ag) ?_
   refine go 3 ?_
   refine aJ (_,[]) (fun τ=> bh _ aa rfl (by exact mQ C i ab) rfl) ?_
   refine go 1 ?_
   refine aJ (_,[]) (fun τ=> (au aa al (hpp) rfl rfl)) ?_
   refine go 1 ?_
   refine aJ (_,[]) (fun τ=> bB _ _ rfl rfl (bT (by rw [hvD];omega))) ?_
   refine go 10 ?_
   refine cd rfl (decide_eq_false (by rw [hvD];omega)) ?_
   refine cX (aA ?_)
   refine az (σ':=ap 123 [(2,_),(6,_),(8,_),(9,_),(10,_),(11,_)] [((2,0),_),((6,0),_)] [] []) kp ?_
   refine go 5 ?_
   refine ai (aL _ _ aa rfl rfl _ rfl ab (by (simp only [aM,aW,aV,bj,bl,bk,ba,bo,dP,aM];omega)) ag) ?_
   refine ai (dI _ aa rfl rfl) (ai (bh _ aa rfl (by exact mQ C i ab) rfl) ?_)
   refine ai (au aa al (hpq) rfl rfl) ?_
   refine ai (dL _ _ rfl rfl (bT (by rw [hvD];omega))) ?_
   refine go 5 ?_
   refine ai (au aa al (hnx) rfl rfl) ?_
   refine go 6 ?_
   refine aX (α:=Nat) (fun k=> k≤L.length) 123 [(2,_),(6,_),(10,_),(12,_)] [((2,0),_)] (fun k=> [(13, .v (.int .i64 (k:Int))),(11, .v (.int .i64 ((D i:Int) - (bC C i).op.pops+(bC C i).op.puts))),(8, .v (.bool ((L.take k).foldl (gx C.length ((D i:Int) - (bC C i).op.pops+(bC C i).op.puts)) w).2.1)),(9, .v (.bool ((L.take k).foldl (gx C.length ((D i:Int) - (bC C i).op.pops+(bC C i).op.puts)) w).2.2))]) (fun k=> [((6,0), .row 3 1 (cB ((L.take k).foldl (gx C.length ((D i:Int) - (bC C i).op.pops+(bC C i).op.puts)) w).1))]) [] [] (fun k=> L.length - k) 0 ?_ (by
    refine Le.mkJ [] [] rfl ?_ ?_ trivial trivial ?_
    ·exact ⟨(iP rfl),(iR rfl),(iV rfl),(iS rfl),(eN ag),(eN (by rw [hvD])),(qK ag),(qK ag),trivial⟩
    ·exact ⟨(dc rfl rfl rfl),(im rfl rfl rfl ag),trivial⟩
    kernel_rfl) ?_
   ·omega
   intro k hk
   have hwd: ∀ j∈L,(D i:Int) - (bC C i).op.pops+(bC C i).op.puts=(D j:Int):=fun j hj=> by have:=(hsuc j hj).2.2;omega
   have hu:=(mi (L.take k) hw (fun j hj=> hwd j (List.mem_of_mem_take hj))).1
   have hul:=hu.len
   refine ax fun K31 hK31=> ?_
   refine go 6 ?_
   refine aD rfl (fun hc80=> ?_) (fun hc80=> ?_)
   ·have hfs:=wa (n:=C.length) (d:=(D i:Int) - (bC C i).op.pops+(bC C i).op.puts) (s:=w) (l:=L) (k:=k) ab
    have hu1:=(mi (L.take (k+1)) hw (fun j hj=> hwd j (List.mem_of_mem_take hj))).1.len
    obtain ⟨j,hj⟩: ∃ j,j=L.getD k 0:=⟨_,rfl⟩
    have hjm:j∈L:=by rw [hj,List.getD_eq_getElem?_getD,List.getElem?_eq_getElem ab];exact List.getElem_mem ab
    obtain ⟨hj1,hj2,_⟩:=hsuc j hjm
    have hjn:j < C.length:=by omega
    have hwj:=hwd j hjm
    have hnk:=Ei L k ab
    rw [← hj] at hfs hnk
    have huv:=hu.val j hjn
    rw [gg ab] at huv
    generalize (L.take k).foldl (gx C.length ((D i:Int) - (bC C i).op.pops+(bC C i).op.puts)) w=u at hu hul hfs huv
    refine aU (hK31 _ ?_)
    refine go 6 ?_
    refine ai (aL _ _ aa rfl rfl _ rfl ab (by (simp only [aM,aW,aV,bj,bl,bk,ba,bo,dP,aM];omega)) (by exact Nat.mul_one _)) ?_
    refine ai (bh _ aa rfl (by exact hnk) rfl) ?_
    refine go 2 ?_
    refine dn (fun hg88=> ?_) (fun hg88=> ?_)
    ·exact absurd hg88 ab
    refine go 2 ?_
    refine aZ rfl rfl (aL _ _ aa rfl rfl _ rfl ab (by (simp only [aM,aW,aV,bj,bl,bk,ba,bo,dP,aM];omega)) (by exact Nat.mul_one _)) ?_
    refine aZ rfl rfl (bh _ aa rfl (by exact hnk) rfl) ?_
    refine go 5 ?_
    refine cd rfl (decide_eq_false ab) ?_
    refine cX (aA ?_)
    refine az (σ':=ap 123 [(2,_),(6,_),(8,_),(9,_),(10,_),(11,_),(12,_),(13,_)] [((2,0),_),((6,0),_)] [] []) kp ?_
    refine an (sR rfl (jV rfl (bE rfl (ai (aL _ _ aa rfl rfl _ rfl ab (by (simp only [aM,aW,aV,bj,bl,bk,ba,bo,dP,aM];omega)) (by exact Nat.mul_one _)) ?_))))
    refine ai (bh _ aa rfl (by exact hnk) rfl) ?_
    refine ai (fM _ _ aa rfl rfl rfl _ rfl ab (by exact (Nat.zero_add _).trans (Nat.mul_one _))) ?_
    refine ai (ke _ aa rfl rfl (by exact cU _ _ ab) rfl) ?_
    refine ai (dg _ _ rfl rfl rfl) (aj (aD rfl (fun hc104=> ?_) (fun hc104=> ?_)))
    ·have hds:gx C.length ((D i:Int) - (bC C i).op.pops+(bC C i).op.puts) u j=(u.1.set j ((D i:Int) - (bC C i).op.pops+(bC C i).op.puts),u.2.1,true):=by
      unfold gx
      rw [if_neg ab,if_pos (by rw [gg ab];omega)]
     rw [hds] at hfs
     refine aH (sR rfl (jV rfl (bE rfl (ai (aL _ _ aa rfl rfl _ rfl ab (by (simp only [aM,aW,aV,bj,bl,bk,ba,bo,dP,aM];omega)) (by exact Nat.mul_one _)) ?_))))
     refine ai (bh _ aa rfl (by exact hnk) rfl) ?_
     refine bE rfl (ai (fM _ _ aa rfl rfl rfl _ rfl ab (by exact (Nat.zero_add _).trans (Nat.mul_one _))) ?_)
     refine ai (nh _ _ aa rfl rfl rfl rfl rfl (by simp;omega) (mC _ _ _ ab)) ?_
     refine aj ?_
     refine az (σ':=ap 123 [(2,_),(6,_),(8,_),(10,_),(11,_),(12,_),(13,_)] [((2,0),_),((6,0),_)] [] []) kp ?_
     refine go 7 ?_
     refine am (⟨k+1,?_,?_,?_⟩)
     ·omega
     ·refine Le.mkJ [] [] rfl ?_ ?_ trivial trivial ?_
      ·exact ⟨(iP rfl),(iR rfl),(iV rfl),(iS rfl),(eN ag),(eN ag),(qK (by (rw [hfs]))),(qK (by (rw [hfs]))),trivial⟩
      ·exact ⟨(dc rfl rfl rfl),(im rfl rfl rfl (by (rw [hfs]))),trivial⟩
      kernel_rfl
     omega
    have hds:gx C.length ((D i:Int) - (bC C i).op.pops+(bC C i).op.puts) u j=u:=by
     unfold gx
     rw [if_neg ab,if_neg (by rw [gg ab];omega),if_neg (by rw [gg ab];omega)]
    rw [hds] at hfs
    refine aH (sR rfl (jV rfl (bE rfl (ai (aL _ _ aa rfl rfl _ rfl ab (by (simp only [aM,aW,aV,bj,bl,bk,ba,bo,dP,aM];omega)) (by exact Nat.mul_one _)) ?_))))
    refine ai (bh _ aa rfl (by exact hnk) rfl) ?_
    refine ai (fM _ _ aa rfl rfl rfl _ rfl ab (by exact (Nat.zero_add _).trans (Nat.mul_one _))) ?_
    refine ai (ke _ aa rfl rfl (by exact cU _ _ ab) rfl) ?_
    refine bE rfl (ai (dv _ _ rfl rfl rfl) (aj (cd rfl (by rw [bne_eq_false_iff_eq];omega) ?_)))
    refine lk ?_
    refine az (σ':=ap 123 [(2,_),(6,_),(8,_),(9,_),(10,_),(11,_),(12,_),(13,_)] [((2,0),_),((6,0),_)] [] []) kp ?_
    refine go 4 ?_
    refine am (⟨k+1,?_,?_,?_⟩)
    ·omega
    ·refine Le.mkJ [] [] rfl ?_ ?_ trivial trivial ?_
     ·exact ⟨(iP rfl),(iR rfl),(iV rfl),(iS rfl),(eN ag),(eN ag),(qK (by (rw [hfs]))),(qK (by (rw [hfs]))),trivial⟩
     ·exact ⟨(dc rfl rfl rfl),(im rfl rfl rfl (by (rw [hfs]))),trivial⟩
     kernel_rfl
    omega
   obtain rfl:k=L.length:=by omega
   rw [List.take_length] at hu hul
   rw [List.take_length]
   refine bm (id (hK22 _ ?_))
   refine go 4 ?_
   refine am (⟨i+1,?_,?_,?_⟩)
   ·omega
   ·refine Le.mkJ [] [] rfl ?_ ?_ trivial trivial ?_
    ·exact ⟨(iP rfl),(iR rfl),(eN ag),(qK (by (rw [hps]))),(qK (by (rw [hps]))),trivial⟩
    ·exact ⟨(dc rfl rfl rfl),(im rfl rfl rfl (by (rw [hps]))),trivial⟩
    kernel_rfl
   omega
  obtain rfl:i=C.length:=by omega
  refine bm (id (⟨(((cF C s C.length).1,(cF C s C.length).2.1),(cF C s C.length).2.2),?_,?_,?_⟩))
  ·exact ⟨hw.flag,xg hf1 hf2 hpd⟩
  ·exact kj [0,2] [] []
  rw [show Kl (s,ch)=neg s.1+1 from if_pos hc39];exact GX hpd
 have hzR:s=R:=by
  unfold xT at hz
  rwa [if_neg (by simp [hc39])] at hz
 subst hzR
 have hsl:=hdi.len
 refine bm (id (hK14 _ ?_))
 refine go 6 ?_
 refine aq ?_
 rw [← hR]
 exact kI (.inr rfl) rfl (.tmp qj) (.tmp rD) (Le.out [] [(6,0)] (.tup rfl (aB (za rfl rfl (by simp only at hsl;simp [hsl]) rfl hsl.symm) lz)) rfl rfl rfl tr trivial)
theorem pO (C:List bq) (en:Nat→Int) (dd vv:Int) (h:Nat) (hh:h < 40) (hC:C.length≤1000000) (D:Nat→Nat) (nv:Nat) (hg:Good D nv 0 (C.length - 1) 0 C) (hD: ∀ i,D i≤1000000) (he:0≤en h→en h < C.length→D (en h).toNat=0):
  Spec Tryz.prog 74 (aQ [.agg (rX C.length (inl C) en dd vv), .v (.int .i64 (h:Int))] []) (aG (.v (.int .i64 (hQ C (eY C (en h)).1 C.length))) []):=by
 have hds:=nJ C en dd vv (en h) hC D nv hg hD he
 have hdi:=kC hg he
 have hdl:=hdi.len
 have hml:=fun k (hk:k≤C.length)=> mu (C:=C) (n:=C.length) hdi (B:=1000000) (fun i _=> hD i) k hk
 generalize eY C (en h)=R at hds hdi hdl hml
 have hen:=kM C.length (inl C) en dd vv h hh
 refine Spec.ofN Tryz.func74 rfl Tryz.ntmps74 rfl ?_
 refine go 4 ?_
 refine aA (dA 11 [] ?_)
 refine go 6 ?_
 refine aJ (_,[]) (fun τ=> dC _ _ aa rfl rfl rfl h rfl ab (by exact congrArg (fun z=> 0+1+z) (Nat.mul_one h))) ?_
 refine go 1 ?_
 refine aJ (_,[]) (fun τ=> bM _ aa rfl rfl (by exact (congrArg (fun z=> (rX C.length (inl C) en dd vv)[z]?) ab).trans hen)) ?_
 refine go 1 ?_
 refine aJ (_,[]) (fun τ=> (au aa al (hds) rfl rfl)) ?_
 refine go 16 ?_
 refine ax fun K4 hK4=> ?_
 refine aH (bF rfl (aj (aN ?_)))
 refine aX (α:=Nat) (fun k=> k≤C.length) 53 [(2,_),(5,_)] [((2,0),_)] (fun k=> [(8, .v (.int .i64 (k:Int))),(7, .v (.int .i64 (hQ C R.1 k)))]) (fun k=> []) [] [] (fun k=> C.length - k) 0 ?_ (kj [0] [] []) ?_
 ·omega
 intro k hk
 have hm1:=hml k hk
 have hs:=lK C R.1 k
 simp only at hdl hm1
 refine ax fun K6 hK6=> ?_
 refine go 6 ?_
 refine aD rfl (fun hc22=> ?_) (fun hc22=> ?_)
 ·have hm2:=hml (k+1) ab
  have hv:=hdi.val k ab
  simp only at hv hm2
  rw [gg ab] at hv hs
  have hDk:=hD k
  obtain ⟨q,hq⟩: ∃ q,q=bC C k:=⟨_,rfl⟩
  have hp3:q.op.pops≤3:=by generalize q.op=o;cases o <;> decide
  have hp4:q.op.puts≤1:=by generalize q.op=o;cases o <;> decide
  have hpp:=dW q.op
  have hpq:=rc q.op
  have hg0:=mQ C k ab
  rw [← hq] at hg0 hs
  refine aU (hK6 _ ?_)
  refine aA (aN (aH (jV rfl (bE rfl (ai (aL _ _ aa rfl rfl _ rfl ab (by (simp only [aM,aW,aV,bj,bl,bk,ba,bo,dP,aM];omega)) (by exact Nat.mul_one _)) ?_)))))
  refine ai (bh _ aa rfl (by exact cU _ _ ab) rfl) ?_
  refine ai (cf _ _ rfl rfl rfl) (aj (aD rfl (fun hc29=> ?_) (fun hc29=> ?_)))
  ·rw [if_pos ab] at hs
   refine go 4 ?_
   refine ai (aL _ _ aa rfl rfl _ rfl ab (by (simp only [aM,aW,aV,bj,bl,bk,ba,bo,dP,aM];omega)) ag) ?_
   refine ai (dI _ aa rfl rfl) (ai (bh _ aa rfl (by exact hg0) rfl) ?_)
   refine bF rfl (aj ?_)
   refine az (σ':=ap 53 [(2,_),(5,_),(7,_),(8,_),(9,_)] [((2,0),_)] [] []) kp ?_
   refine dA 16 [] ?_
   refine go 6 ?_
   refine aJ (_,[]) (fun τ=> aL _ _ aa rfl rfl _ rfl ab (by (simp only [aM,aW,aV,bj,bl,bk,ba,bo,dP,aM];omega)) (by exact Nat.mul_one _)) ?_
   refine go 1 ?_
   refine aJ (_,[]) (fun τ=> bh _ aa rfl (by exact cU _ _ ab) rfl) ?_
   refine go 5 ?_
   refine aJ (_,[]) (fun τ=> aL _ _ aa rfl rfl _ rfl ab (by (simp only [aM,aW,aV,bj,bl,bk,ba,bo,dP,aM];omega)) (by exact Nat.mul_one _)) ?_
   refine go 1 ?_
   refine aJ (_,[]) (fun τ=> bh _ aa rfl (by exact cU _ _ ab) rfl) ?_
   refine go 3 ?_
   refine aJ (_,[]) (fun τ=> (au aa al (hpp) rfl rfl)) ?_
   refine go 5 ?_
   refine aJ (_,[]) (fun τ=> (au aa al (hpq) rfl rfl)) ?_
   refine go 3 ?_
   refine aJ (_,[]) (fun τ=> DV _ _ _ rfl rfl rfl (by exact hs.symm)) ?_
   refine go 4 ?_
   refine az (σ':=ap 53 [(2,_),(5,_),(7,_),(8,_)] [((2,0),_)] [] []) kp ?_
   refine go 4 ?_
   refine am (⟨k+1,?_,?_,?_⟩)
   ·omega
   ·exact kj [0] [] []
   omega
  rw [if_neg ab] at hs
  refine go 5 ?_
  refine am (⟨k+1,?_,?_,?_⟩)
  ·omega
  ·refine Le.mkJ [] [] rfl ?_ ?_ trivial trivial ?_
   ·exact ⟨(iP rfl),(iS rfl),(eN ag),(eN ab),trivial⟩
   ·exact ⟨(dc rfl rfl rfl),trivial⟩
   kernel_rfl
  omega
 obtain rfl:k=C.length:=by omega
 refine bm (id (hK4 _ ?_))
 exact aH (bE rfl (bF rfl (aj (aq (eu rfl rfl)))))
end Go.Proofs.YtmjnackchaahbaaGreat

set_option maxHeartbeats 2000000
namespace Go.Proofs.YtmjnackchaahbaaGreat
open Go.RowKit

theorem dx: ∀ (e:Ex) (d x:Nat),x∈cO e d→x≤d+(cO e d).length
 | .int _,d,x,h=> by simp [cO] at h ⊢;omega
 | .bool _,d,x,h=> by simp [cO] at h ⊢;omega
 | .var _,d,x,h=> by simp [cO] at h ⊢;omega
 | .name _,d,x,h=> by simp [cO] at h ⊢;omega
 | .draw e,d,x,h=> by
  have:=dx e d x
  simp only [cO,List.mem_append,List.length_append,List.length_cons,List.length_nil,List.mem_singleton] at h ⊢
  rcases h with h | h
  ·have:=this h;omega
  omega
 | .neg e,d,x,h=> by
  have:=dx e d x
  simp only [cO,List.mem_append,List.length_append,List.length_cons,List.length_nil,List.mem_singleton] at h ⊢
  rcases h with h | h
  ·have:=this h;omega
  omega
 | .not e,d,x,h=> by
  have:=dx e d x
  simp only [cO,List.mem_append,List.length_append,List.length_cons,List.length_nil,List.mem_singleton] at h ⊢
  rcases h with h | h
  ·have:=this h;omega
  omega
 | .bin o a b,d,x,h=> by
  have h1:=dx a d x
  have h2:=dx b (d+1) x
  have h3:1≤(cO b (d+1)).length:=by obtain ⟨l,hl⟩:=dS b (d+1);rw [hl];simp
  have h4:1≤(cO a d).length:=by obtain ⟨l,hl⟩:=dS a d;rw [hl];simp
  simp only [cO,List.mem_append,List.length_append] at h ⊢
  rcases h with (h | h) | h
  ·have:=h1 h;omega
  ·have:=h2 h;omega
  have:x≤d+2:=by cases o <;> simp at h <;> omega
  omega
 | .and a b,d,x,h=> by
  have h1:=dx a d x
  have h2:=dx b d x
  simp only [cO,List.mem_append,List.length_append,List.length_cons,List.length_nil,List.mem_singleton] at h ⊢
  rcases h with (((h | h) | h) | h) | h
  ·have:=h1 h;omega
  ·omega
  ·have:=h2 h;omega
  ·omega
  omega
 | .or a b,d,x,h=> by
  have h1:=dx a d x
  have h2:=dx b d x
  simp only [cO,List.mem_append,List.length_append,List.length_cons,List.length_nil,List.mem_singleton] at h ⊢
  rcases h with (((h | h) | h) | h) | h
  ·have:=h1 h;omega
  ·omega
  ·omega
  ·omega
  have:=h2 h;omega
theorem kf (e:Ex) (d:Nat):1≤(cO e d).length:=by obtain ⟨l,hl⟩:=dS e d;rw [hl];simp
mutual
theorem Eg: ∀ (s:Sm) (x:Nat),x∈dB s→x≤(dB s).length
 | .assign _ e,x,h=> by
  have:=dx e 0 x
  simp only [dB,List.mem_append,List.length_append,List.length_cons,List.length_nil,List.mem_singleton] at h ⊢
  rcases h with h | h
  ·have:=this h;omega
  omega
 | .send t _ a b,x,h=> by
  have h1:=dx t 0 x
  have h2:=dx a 1 x
  have h3:=dx b 2 x
  have k1:=kf t 0
  have k2:=kf a 1
  have k3:=kf b 2
  simp only [dB,List.mem_append,List.length_append,List.length_cons,List.length_nil,List.mem_singleton] at h ⊢
  rcases h with ((h | h) | h) | h
  ·have:=h1 h;omega
  ·have:=h2 h;omega
  ·have:=h3 h;omega
  omega
 | .timer _,x,h=> by simp [dB] at h ⊢;omega
 | .cancel _,x,h=> by simp [dB] at h ⊢;omega
 | .sync,x,h=> by simp [dB] at h ⊢;omega
 | .stop,x,h=> by simp [dB] at h ⊢;omega
 | .reply a b,x,h=> by
  have h2:=dx a 0 x
  have h3:=dx b 1 x
  have k2:=kf a 0
  have k3:=kf b 1
  simp only [dB,List.mem_append,List.length_append,List.length_cons,List.length_nil,List.mem_singleton] at h ⊢
  rcases h with (h | h) | h
  ·have:=h2 h;omega
  ·have:=h3 h;omega
  omega
 | .fail e,x,h=> by
  have:=dx e 0 x
  simp only [dB,List.mem_append,List.length_append,List.length_cons,List.length_nil,List.mem_singleton] at h ⊢
  rcases h with h | h
  ·have:=this h;omega
  omega
 | .loop c b,x,h=> by
  have h1:=dx c 0 x
  have h2:=mt b x
  simp only [dB,List.mem_append,List.length_append,List.length_cons,List.length_nil,List.mem_singleton] at h ⊢
  rcases h with ((h | h) | h) | h
  ·have:=h1 h;omega
  ·omega
  ·have:=h2 h;omega
  omega
 | .ite c a b,x,h=> by
  have h1:=dx c 0 x
  have h2:=mt a x
  have h3:=mt b x
  simp only [dB,List.mem_append,List.length_append,List.length_cons,List.length_nil,List.mem_singleton] at h ⊢
  rcases h with (((h | h) | h) | h) | h
  ·have:=h1 h;omega
  ·omega
  ·have:=h2 h;omega
  ·omega
  have:=h3 h;omega
theorem mt: ∀ (b:Bk) (x:Nat),x∈la b→x≤(la b).length
 | .nil,x,h=> by simp [la] at h
 | .cons s b,x,h=> by
  have h1:=Eg s x
  have h2:=mt b x
  simp only [la,List.mem_append,List.length_append] at h ⊢
  rcases h with h | h
  ·have:=h1 h;omega
  have:=h2 h;omega
end
theorem we: ∀ (l:List (Nat×Bk)) (x:Nat),x∈gL l→x≤(gL l).length
 | [],x,h=> by simp [gL] at h
 | (k,b)::l,x,h=> by
  have h1:=mt b x
  have h2:=we l x
  simp only [gL,List.mem_append,List.length_append,List.length_cons,List.length_nil,List.mem_singleton] at h ⊢
  rcases h with (h | h) | h
  ·have:=h1 h;omega
  ·omega
  have:=h2 h;omega
theorem sH (l:List (Nat×Bk)) (i:Nat):lx l i≤(aO l 0).length:=by
 unfold lx
 rw [List.getD_eq_getElem?_getD]
 by_cases h:i < (gL l).length
 ·rw [List.getElem?_eq_getElem h,← kk l 0];exact we l _ (List.getElem_mem h)
 rw [List.getElem?_eq_none ab];exact Nat.zero_le _

theorem gN: ∀ (l m:List (Nat×Bk)) (a:Nat),aO (l++m) a=aO l a++aO m (a+(aO l a).length)
 | [],m,a=> by simp [aO]
 | (h,b)::l,m,a=> by
  simp only [List.cons_append,aO,gN l m,List.append_assoc,List.length_append,List.length_cons,List.length_nil,Nat.add_assoc,Nat.zero_add,List.nil_append,Nat.add_comm 1 (List.length _)]
theorem tX: ∀ (l m:List (Nat×Bk)) (a:Nat),iX (l++m) a=iX l a++iX m (a+(aO l a).length)
 | [],m,a=> by simp [aO,iX]
 | (h,b)::l,m,a=> by
  simp only [List.cons_append,aO,iX,tX l m,List.append_assoc,List.length_append,List.length_cons,List.length_nil,Nat.add_assoc,Nat.zero_add,Nat.add_comm 1 (List.length _)]
def bi (l:List (Nat×Bk)) (k:Nat):Int:=(mD (iX l 0)).getD k (-1)
theorem jp (l:List (Nat×Bk)) (p:Nat×Bk) (hp:p.1 < 40):bi (l++[p])=pS (bi l) p.1 (aO l 0).length:=by
 funext k
 have e:mD (iX (l++[p]) 0)=(mD (iX l 0)).set p.1 ((aO l 0).length:Int):=by
  rw [tX]
  obtain ⟨h,b⟩:=p
  simp only [iX,mD,List.foldl_append,List.foldl_cons,List.foldl_nil,Nat.zero_add]
 unfold bi pS
 rw [e,ga]
 by_cases hk:k=p.1
 ·rw [if_pos ⟨hk,by rw [AM];exact hp⟩,if_pos hk]
 rw [if_neg (fun h=> hk h.1),if_neg hk]
theorem pB (l:List (Nat×Bk)) (p:Nat×Bk):aO (l++[p]) 0=aO l 0++bK p.2 (aO l 0).length++[{ op:= .stop }]:=by
 rw [gN]
 obtain ⟨h,b⟩:=p
 simp [aO]
def bO (h k:Nat):Int:=if k < h∨40≤k then -1 else 0
theorem tQ (h:Nat) (hh:h < 40):pS (bO h) h (-1)=bO (h+1):=by
 funext k
 unfold pS bO
 by_cases h1:k=h
 ·rw [if_pos h1,if_pos ab]
 rw [if_neg h1]
 by_cases h2:k < h∨40≤k
 ·rw [if_pos h2,if_pos ab]
 rw [if_neg h2,if_neg ab]
theorem oM:bO 40=bi []:=by
 funext k
 have e:bi [] k=(List.replicate 40 (-1:Int)).getD k (-1):=rfl
 rw [e,bO,if_pos ab,List.getD_eq_getElem?_getD,List.getElem?_replicate]
 by_cases hk:k < 40
 ·rw [if_pos hk];rfl
 rw [if_neg hk];rfl
theorem ul (ons:List (Nat×Bk)) (j:Nat) (h:j < ons.length):ons.take (j+1)=ons.take j++[ons[j]]:=List.take_succ_eq_append_getElem h
theorem jD (ons:List (Nat×Bk)) (j:Nat):(aO (ons.take j) 0).length≤(aO ons 0).length:=by
 conv=> rhs;rw [← List.take_append_drop j ons,gN]
 rw [List.length_append];omega
theorem xm {n:Nat} (h:n < 40):gZ (n:Int) 40=n:=by unfold gZ;rw [if_neg ab];omega
structure UOk (d v:List Tx) (ons:List (Nat×Bk)):Prop where
 nd:(d++v).Nodup
 len:(d++v).length≤16
 ok: ∀ p∈ons,gz (d++v).length p.2
 pp: ∀ p∈ons,lN p.2=true
 h: ∀ p∈ons,p.1 < 40
 c:(aO ons 0).length≤1000000
 n:ons.length≤1000
theorem UOk.good {d v:List Tx} {ons:List (Nat×Bk)} (U:UOk d v ons):Good (lx ons) (d++v).length 0 ((aO ons 0).length - 1) 0 (aO ons 0):=
 wR (lx ons) (d++v).length ons 0 0 ((aO ons 0).length - 1) U.ok (oy ons) (Nat.le_refl _) ab
theorem UOk.ent {d v:List Tx} {ons:List (Nat×Bk)} (U:UOk d v ons) (k:Nat):0≤bi ons k→bi ons k < (aO ons 0).length→lx ons (bi ons k).toNat=0:=fun h0 h1=> by
 rcases oR ons k with h | ⟨e,_,h,_,h2⟩
 ·unfold bi at h0;omega
 unfold bi;rw [h,Int.toNat_natCast];exact h2
abbrev GA (d v:List Tx) (ons:List (Nat×Bk)):AV:= .agg (rX (aO ons 0).length (inl (aO ons 0)) (bi ons) (d.length:Int) (v.length:Int))
abbrev zA:AV:= .agg (Fs (.v (.slice none 0 0)) (fun _=> 0) 0 0)
def zw (ons:List (Nat×Bk)):Int:=if 400 < (aO ons 0).length then 2 else 13
abbrev Ck (d v:List Tx) (ons:List (Nat×Bk)):AV:=if jP ons=true then .tup [GA d v ons, .v (.int .i64 0)] else .tup [zA, .v (.int .i64 (zw ons))]
abbrev kv (d v:List Tx) (ons:List (Nat×Bk)):List Hd:=ons.map fun p=> (p.1,ip (d++v) p.2)
theorem ml (d v:List Tx) (ons:List (Nat×Bk)) (U:UOk d v ons):
  Spec Tryz.prog 57 (aQ [DG d v (kv d v ons)] []) (aG (Ck d v ons) []):=by
 obtain ⟨H,hH⟩: ∃ H,H=kv d v ons:=⟨_,rfl⟩
 have hHl:H.length=ons.length:=by rw [hH,List.length_map]
 have hHk: ∀ k (h:k < ons.length),jW H k=((ons[k]).1,ip (d++v) (ons[k]).2):=fun k h=> by rw [hH];exact sJ ons _ k h
 rw [← hH]
 clear hH
 have hUn:=U.n
 have hUc:=U.c
 have hUl:=U.len
 have hdl:d.length≤16∧v.length≤16:=by rw [List.length_append] at hUl;omega
 refine Spec.ofN Tryz.func57 rfl Tryz.ntmps57 rfl ?_
 refine go 16 ?_
 refine ax fun K3 hK3=> ?_
 refine aH (bF rfl (aj (aN ?_)))
 refine az (Le.nilB (4,0) 0 (60,0) 48 2 rfl rfl rfl) ?_
 refine aX (α:=Nat) (fun q=> q≤40) 79 [(1,_),(2,_),(4,_)] [((1,0),_),((2,0),_),((60,0),_)] (fun q=> [(5, .v (.int .i64 (q:Int)))]) (fun q=> [((4,0), .box 26 [.ref (60,0) 0 0, .v (.int .i64 (bO q 0)), .v (.int .i64 (bO q 1)), .v (.int .i64 (bO q 2)), .v (.int .i64 (bO q 3)), .v (.int .i64 (bO q 4)), .v (.int .i64 (bO q 5)), .v (.int .i64 (bO q 6)), .v (.int .i64 (bO q 7)), .v (.int .i64 (bO q 8)), .v (.int .i64 (bO q 9)), .v (.int .i64 (bO q 10)), .v (.int .i64 (bO q 11)), .v (.int .i64 (bO q 12)), .v (.int .i64 (bO q 13)), .v (.int .i64 (bO q 14)), .v (.int .i64 (bO q 15)), .v (.int .i64 (bO q 16)), .v (.int .i64 (bO q 17)), .v (.int .i64 (bO q 18)), .v (.int .i64 (bO q 19)), .v (.int .i64 (bO q 20)), .v (.int .i64 (bO q 21)), .v (.int .i64 (bO q 22)), .v (.int .i64 (bO q 23)), .v (.int .i64 (bO q 24)), .v (.int .i64 (bO q 25)), .v (.int .i64 (bO q 26)), .v (.int .i64 (bO q 27)), .v (.int .i64 (bO q 28)), .v (.int .i64 (bO q 29)), .v (.int .i64 (bO q 30)), .v (.int .i64 (bO q 31)), .v (.int .i64 (bO q 32)), .v (.int .i64 (bO q 33)), .v (.int .i64 (bO q 34)), .v (.int .i64 (bO q 35)), .v (.int .i64 (bO q 36)), .v (.int .i64 (bO q 37)), .v (.int .i64 (bO q 38)), .v (.int .i64 (bO q 39)), .v (.int .i64 (d.length:Int)), .v (.int .i64 (v.length:Int))])]) [] [] (fun q=> 40 - q) 0 ?_ (kj [0,0,0,1] [] []) ?_
 ·omega
 intro q hq
 refine ax fun K5 hK5=> ?_
 refine go 4 ?_
 refine aD rfl (fun hc17=> ?_) (fun hc17=> ?_)
 ·refine aU (hK5 _ ?_)
  refine go 5 ?_
  refine ai (dC _ _ aa rfl rfl rfl q rfl ab (by exact congrArg (fun z=> 0+1+z) (Nat.mul_one q))) ?_
  refine ai (fU _ _ aa rfl rfl rfl rfl (show 0+1+q+1≤43 by omega) ((congrArg (fun z=> ez (Fs (.ref (60,0) 0 0) (bO q) (d.length:Int) (v.length:Int)) z [.v (.int .i64 (-1))]) ab).trans ((oA _ _ _ _ q ab _).trans (by rw [tQ _ ab])))) ?_
  refine go 5 ?_
  refine am (⟨q+1,?_,?_,?_⟩)
  ·omega
  ·exact kj [0,0,0,1] [] []
  omega
 obtain rfl:q=40:=by omega
 rw [oM]
 refine bm (id (hK3 _ ?_))
 refine ax fun K8 hK8=> ?_
 refine aH (bF rfl (aj (aN ?_)))
 refine aX (α:=Nat) (fun j=> j≤H.length) 79 [(1,_),(2,_),(4,_)] [((1,0),_),((2,0),_)] (fun j=> [(6, .v (.int .i64 (j:Int)))]) (fun j=> [((60,0), .row 48 2 (inl (aO (ons.take j) 0))),((4,0), .box 26 [.ref (60,0) 0 (aO (ons.take j) 0).length, .v (.int .i64 (bi (ons.take j) 0)), .v (.int .i64 (bi (ons.take j) 1)), .v (.int .i64 (bi (ons.take j) 2)), .v (.int .i64 (bi (ons.take j) 3)), .v (.int .i64 (bi (ons.take j) 4)), .v (.int .i64 (bi (ons.take j) 5)), .v (.int .i64 (bi (ons.take j) 6)), .v (.int .i64 (bi (ons.take j) 7)), .v (.int .i64 (bi (ons.take j) 8)), .v (.int .i64 (bi (ons.take j) 9)), .v (.int .i64 (bi (ons.take j) 10)), .v (.int .i64 (bi (ons.take j) 11)), .v (.int .i64 (bi (ons.take j) 12)), .v (.int .i64 (bi (ons.take j) 13)), .v (.int .i64 (bi (ons.take j) 14)), .v (.int .i64 (bi (ons.take j) 15)), .v (.int .i64 (bi (ons.take j) 16)), .v (.int .i64 (bi (ons.take j) 17)), .v (.int .i64 (bi (ons.take j) 18)), .v (.int .i64 (bi (ons.take j) 19)), .v (.int .i64 (bi (ons.take j) 20)), .v (.int .i64 (bi (ons.take j) 21)), .v (.int .i64 (bi (ons.take j) 22)), .v (.int .i64 (bi (ons.take j) 23)), .v (.int .i64 (bi (ons.take j) 24)), .v (.int .i64 (bi (ons.take j) 25)), .v (.int .i64 (bi (ons.take j) 26)), .v (.int .i64 (bi (ons.take j) 27)), .v (.int .i64 (bi (ons.take j) 28)), .v (.int .i64 (bi (ons.take j) 29)), .v (.int .i64 (bi (ons.take j) 30)), .v (.int .i64 (bi (ons.take j) 31)), .v (.int .i64 (bi (ons.take j) 32)), .v (.int .i64 (bi (ons.take j) 33)), .v (.int .i64 (bi (ons.take j) 34)), .v (.int .i64 (bi (ons.take j) 35)), .v (.int .i64 (bi (ons.take j) 36)), .v (.int .i64 (bi (ons.take j) 37)), .v (.int .i64 (bi (ons.take j) 38)), .v (.int .i64 (bi (ons.take j) 39)), .v (.int .i64 (d.length:Int)), .v (.int .i64 (v.length:Int))])]) [] [] (fun j=> H.length - j) 0 ?_ (kj [0,0,2,1] [] []) ?_
 ·omega
 intro j hj
 have hct:=jD ons j
 refine ax fun K10 hK10=> ?_
 refine go 7 ?_
 refine aD rfl (fun hc27=> ?_) (fun hc27=> ?_)
 ·have hj:j < ons.length:=by omega
  have hct1:=jD ons (j+1)
  have hUh:=U.h _ (List.getElem_mem hj)
  have hUo:=U.ok _ (List.getElem_mem hj)
  have hUp:=U.pp _ (List.getElem_mem hj)
  have hbody:=sS H j ab
  have hg0:=gY H j ab
  rw [hHk j hj] at hbody hg0
  have hsn:=pB (ons.take j) (ons[j])
  have hen:=jp (ons.take j) (ons[j]) hUh
  rw [← ul ons j hj] at hsn hen
  have hsl:=congrArg List.length hsn
  simp only [List.length_append,List.length_cons,List.length_nil] at hsl
  have hcb:=DR (d:=d) (v:=v) (no:=H.length) (on:=jr H) U.nd ab (ons[j]).2 hUo hUp (aO (ons.take j) 0).length ab
  generalize bK (ons[j]).2 (aO (ons.take j) 0).length=C at hsn hsl hcb
  generalize (ons[j]).2=bd at hbody hcb
  generalize (ons[j]).1=h at hbody hg0 hen hUh
  have har:=iG (h:Int) 40 ab ab ab ab
  rw [xm hUh] at har
  refine aU (hK10 _ ?_)
  refine go 6 ?_
  refine ai (aL _ _ aa rfl rfl _ rfl ab (by (simp only [aM,aW,aV,bj,bl,bk,ba,bo,dP,aM,List.length_map];omega)) ag) ?_
  refine ai (dI _ aa rfl rfl) (ai (bh _ aa rfl (by exact hg0) rfl) ?_)
  refine ai (au aa al (har) rfl rfl) ?_
  refine go 8 ?_
  refine ai (dC _ _ aa rfl rfl rfl h rfl ab (by exact congrArg (fun z=> 0+1+z) (Nat.mul_one h))) ?_
  refine ai (fU _ _ aa rfl rfl rfl rfl (show 0+1+h+1≤43 by omega) ((congrArg (fun z=> ez (Fs (.ref (60,0) 0 (aO (ons.take j) 0).length) (bi (ons.take j)) (d.length:Int) (v.length:Int)) z [.v (.int .i64 ((aO (ons.take j) 0).length:Int))]) ab).trans ((oA _ _ _ _ h ab _).trans (by rw [← hen])))) ?_
  refine aj (aA ?_)
  refine az (σ':=ap 79 [(1,_),(2,_),(4,_),(6,_)] [((1,0),_),((2,0),_),((60,0),_),((4,0),_)] [] []) kp ?_
  refine dA 13 [(50,0)] ?_
  refine go 12 ?_
  refine aJ (_,[]) (fun τ=> aL _ _ aa rfl rfl _ rfl ab (by (simp only [aM,aW,aV,bj,bl,bk,ba,bo,dP,aM,List.length_map];omega)) ag) ?_
  refine go 3 ?_
  refine aJ (_,[]) (fun τ=> bu _ aa rfl (by exact hbody) rfl) ?_
  refine go 7 ?_
  refine aJ (_,[((50,0),_)]) (fun τ=> (db aa [((0,8),(50,0))] ar (hcb.toI) trivial tr tr rfl rfl ae ae)) ?_
  refine go 1 ?_
  refine cD ⟨rfl,?_⟩
  refine ai (cG (56,0) _ _ aa rfl rfl (bo _).symm (.ref rfl (lT _) (kA _)) ab rfl (kP _ _) (show (aO (ons.take j) 0).length+C.length=(aO (ons.take j) 0++C).length by simp)) ?_
  refine go 3 ?_
  refine az (σ':=ap 79 [(1,_),(2,_),(4,_),(6,_)] [((1,0),_),((2,0),_),((4,0),_),((56,0),_)] [] []) kp ?_
  refine go 5 ?_
  refine ai (cG (62,0) _ _ aa rfl rfl (bo _).symm (.sl rfl) (by simp;omega) rfl ((dU _ { op:= .stop }).trans (congrArg inl hsn.symm)) (show (aO (ons.take j) 0++C).length+1=(aO (ons.take (j+1)) 0).length by simp [hsl])) ?_
  refine go 7 ?_
  refine am (⟨j+1,?_,?_,?_⟩)
  ·omega
  ·refine Le.mkJ [((60,0),(62,0))] [] rfl ?_ ?_ trivial trivial ?_
   ·exact ⟨(di (id:=(1,0)) rfl),(di (id:=(2,0)) rfl),(di (id:=(4,0)) rfl),(eN ag),trivial⟩
   ·exact ⟨(iq rfl rfl rfl rfl (by repeat' (first | exact Lv.sl | exact bz | refine aB ?_ ?_))),(iq rfl rfl rfl rfl (by repeat' (first | exact Lv.v | exact bz | refine aB ?_ ?_))),(im rfl rfl rfl ag),(iq rfl rfl rfl rfl lz),trivial⟩
   kernel_rfl
  omega
 obtain rfl:j=ons.length:=by omega
 rw [List.take_length]
 refine bm (id (hK8 _ ?_))
 refine go 7 ?_
 refine aD rfl (fun hc67=> ?_) (fun hc67=> ?_)
 ·have hco:jP ons≠true:=by
   unfold jP
   rw [decide_eq_false ab,Bool.false_and]
   exact Bool.false_ne_true
  rw [Ck,if_neg hco,zw,if_pos ab]
  refine go 5 ?_
  exact aq (kI (.inr rfl) rfl (.cellA aa rfl rfl rfl) (.tmp iH) (Le.out [] [] (.tup rfl lz) rfl rfl rfl trivial trivial))
 have hl4:(aO ons 0).length≤400:=by omega
 refine cX (ax fun K19 hK19=> ?_)
 refine aH (bF rfl (aj (aN ?_)))
 refine az (Le.frzB (4,0) 0 rfl rfl rfl rfl (ys:=inl (aO ons 0)) (by rw [List.drop_zero];exact List.take_of_length_le (by rw [bo];omega)) (by rw [bo];omega)) ?_
 refine aX (α:=Nat) (fun h=> h≤40∧ ∀ k,k < h→hQ (aO ons 0) (eY (aO ons 0) (bi ons k)).1 (aO ons 0).length≤16) 79 [(2,_),(4,_)] [((2,0),_)] (fun h=> [(8, .v (.int .i64 (h:Int)))]) (fun h=> [((4,0), .box 26 [.sl (aO ons 0).length (inl (aO ons 0)), .v (.int .i64 (bi ons 0)), .v (.int .i64 (bi ons 1)), .v (.int .i64 (bi ons 2)), .v (.int .i64 (bi ons 3)), .v (.int .i64 (bi ons 4)), .v (.int .i64 (bi ons 5)), .v (.int .i64 (bi ons 6)), .v (.int .i64 (bi ons 7)), .v (.int .i64 (bi ons 8)), .v (.int .i64 (bi ons 9)), .v (.int .i64 (bi ons 10)), .v (.int .i64 (bi ons 11)), .v (.int .i64 (bi ons 12)), .v (.int .i64 (bi ons 13)), .v (.int .i64 (bi ons 14)), .v (.int .i64 (bi ons 15)), .v (.int .i64 (bi ons 16)), .v (.int .i64 (bi ons 17)), .v (.int .i64 (bi ons 18)), .v (.int .i64 (bi ons 19)), .v (.int .i64 (bi ons 20)), .v (.int .i64 (bi ons 21)), .v (.int .i64 (bi ons 22)), .v (.int .i64 (bi ons 23)), .v (.int .i64 (bi ons 24)), .v (.int .i64 (bi ons 25)), .v (.int .i64 (bi ons 26)), .v (.int .i64 (bi ons 27)), .v (.int .i64 (bi ons 28)), .v (.int .i64 (bi ons 29)), .v (.int .i64 (bi ons 30)), .v (.int .i64 (bi ons 31)), .v (.int .i64 (bi ons 32)), .v (.int .i64 (bi ons 33)), .v (.int .i64 (bi ons 34)), .v (.int .i64 (bi ons 35)), .v (.int .i64 (bi ons 36)), .v (.int .i64 (bi ons 37)), .v (.int .i64 (bi ons 38)), .v (.int .i64 (bi ons 39)), .v (.int .i64 (d.length:Int)), .v (.int .i64 (v.length:Int))])]) [] [] (fun h=> 40 - h) 0 ?_ (kj [0,1] [] []) ?_
 ·exact ⟨Nat.zero_le _,fun k hk=> absurd hk (Nat.not_lt_zero _)⟩
 intro h hh
 obtain ⟨hk,hks⟩:=hh
 refine ax fun K21 hK21=> ?_
 refine go 4 ?_
 refine aD rfl (fun hc70=> ?_) (fun hc70=> ?_)
 ·have hh4:h < 40:=by omega
  have hdm:=mu (C:=aO ons 0) (kC U.good (U.ent h)) (B:=1000000) (fun i _=> Nat.le_trans (sH ons i) hUc) _ (Nat.le_refl _)
  have hde:=pO (aO ons 0) (bi ons) (d.length:Int) (v.length:Int) h hh4 hUc (lx ons) (d++v).length U.good (fun i=> Nat.le_trans (sH ons i) hUc) (U.ent h)
  refine aU (hK21 _ ?_)
  refine go 5 ?_
  refine ai (au aa al (hde) rfl rfl) ?_
  refine ai (du _ _ rfl rfl rfl) (aj (aD rfl (fun hc76=> ?_) (fun hc76=> ?_)))
  ·have hco:jP ons≠true:=fun e=> by
    unfold jP at e
    rw [Bool.and_eq_true,List.all_eq_true] at e
    have:=e.2 h (List.mem_range.2 hh4)
    rw [decide_eq_true_eq] at this
    exact absurd (show hQ (aO ons 0) (eY (aO ons 0) (bi ons h)).1 (aO ons 0).length≤16 from this) ab
   rw [Ck,if_neg hco,zw,if_neg ab]
   refine go 5 ?_
   exact aq (kI (.inr rfl) rfl (.cellA aa rfl rfl rfl) (.tmp iH) (Le.out [] [] (.tup rfl lz) rfl rfl rfl trivial trivial))
  refine go 5 ?_
  refine am (⟨h+1,?_,?_,?_⟩)
  ·exact ⟨by omega,fun k hk=> (by
    rcases Nat.lt_or_ge k h with hlt | hge
    ·exact hks k hlt
    obtain rfl:k=h:=by omega
    omega)⟩
  ·exact kj [0,1] [] []
  omega
 obtain rfl:h=40:=by omega
 have hco:jP ons=true:=by
  unfold jP
  rw [Bool.and_eq_true,decide_eq_true_eq,List.all_eq_true]
  exact ⟨hl4,fun k hk=> decide_eq_true (hks k (List.mem_range.1 hk))⟩
 refine bm (id (hK19 _ ?_))
 refine go 5 ?_
 refine aq ?_
 rw [Ck,if_pos hco]
 exact kI (.inr rfl) rfl (.cellA aa rfl rfl rfl) (.tmp iH) (Le.out [] [] (.tup rfl lz) rfl rfl rfl trivial trivial)
end Go.Proofs.YtmjnackchaahbaaGreat

set_option maxHeartbeats 2000000
namespace Go.Proofs.YtmjnackchaahbaaGreat
open Go.RowKit

structure CY (s:Tx) (d v:List Tx) (ons:List (Nat×Bk)):Prop extends UOk d v ons where
 p:rR s=some (d,v,kv d v ons)
 l:s.length≤3000
 wl: ∀ p∈ons,pt p.2=true
theorem AO {s:Tx} {d v:List Tx} {ons:List (Nat×Bk)} (U:CY s d v ons) (hc:jP ons=true):
  Spec Tryz.prog 64 (aQ [.v (bt s)] []) (aG (Ck d v ons) []):=by
 have h1:=pP s U.l _ _ _ U.p
 have h2:Spec Tryz.prog 97 (aQ [DG d v (kv d v ons)] []) (aG (.v (.int .i64 0)) []):=oP d v ons U.nd U.len U.ok U.wl U.n
 have h3:=ml d v ons U.toUOk
 rw [Ck,if_pos hc] at h3 ⊢
 obtain ⟨H,hH⟩: ∃ H,H=kv d v ons:=⟨_,rfl⟩
 rw [← hH] at h1 h2 h3
 clear hH
 refine Spec.ofN Tryz.func64 rfl Tryz.ntmps64 rfl ?_
 refine go 6 ?_
 refine ai (au aa al (h1) rfl rfl) ?_
 refine go 18 ?_
 refine ai (au aa al (h2) rfl rfl) ?_
 refine bF rfl (aj (aA (aA ?_)))
 refine az (σ':=ap 32 [(2,_),(4,_),(6,_)] [((2,0),_),((4,0),_)] [] []) kp ?_
 refine go 8 ?_
 refine ai (au aa al (h3) rfl rfl) ?_
 refine go 13 ?_
 exact aq (kI (.inr rfl) rfl (.cellA aa rfl rfl rfl) (.tmp iH) (Le.out [] [] (.tup rfl lz) rfl rfl rfl trivial trivial))
theorem zK {s:Tx} {d v:List Tx} {ons:List (Nat×Bk)} (U:CY s d v ons) (hc:jP ons≠true):
  Spec Tryz.prog 64 (aQ [.v (bt s)] []) (aG (Ck d v ons) []):=by
 have h1:=pP s U.l _ _ _ U.p
 have h2:Spec Tryz.prog 97 (aQ [DG d v (kv d v ons)] []) (aG (.v (.int .i64 0)) []):=oP d v ons U.nd U.len U.ok U.wl U.n
 have h3:=ml d v ons U.toUOk
 rw [Ck,if_neg hc] at h3 ⊢
 generalize zw ons=er at h3 ⊢
 obtain ⟨H,hH⟩: ∃ H,H=kv d v ons:=⟨_,rfl⟩
 rw [← hH] at h1 h2 h3
 clear hH
 refine Spec.ofN Tryz.func64 rfl Tryz.ntmps64 rfl ?_
 refine go 6 ?_
 refine ai (au aa al (h1) rfl rfl) ?_
 refine go 18 ?_
 refine ai (au aa al (h2) rfl rfl) ?_
 refine bF rfl (aj (aA (aA ?_)))
 refine az (σ':=ap 32 [(2,_),(4,_),(6,_)] [((2,0),_),((4,0),_)] [] []) kp ?_
 refine go 8 ?_
 refine ai (au aa al (h3) rfl rfl) ?_
 refine go 13 ?_
 exact aq (kI (.inr rfl) rfl (.cellA aa rfl rfl rfl) (.tmp iH) (Le.out [] [] (.tup rfl lz) rfl rfl rfl trivial trivial))
theorem vI {s:Tx} {d v:List Tx} {ons:List (Nat×Bk)} (U:CY s d v ons):
  Spec Tryz.prog 64 (aQ [.v (bt s)] []) (aG (Ck d v ons) []):=by
 by_cases hc:jP ons=true
 ·exact AO U hc
 exact zK U hc
theorem Hz {d v:List Tx} {ons:List (Nat×Bk)} (h:Kc ons (d++v).length) (h1:(d++v).Nodup) (h2:(d++v).length≤16) (h3:(ons.all fun p=> lN p.2)=true) (h4:ons.length≤1000):UOk d v ons:=
 ⟨h1,h2,h.ok,fun p hp=> (List.all_eq_true.1 h3) p hp,h.h,by have:=h.n;omega,h4⟩
theorem usrcL:CY GZ EV Cy onsL:=⟨Hz srcOkL ah ah ae ah,Hm,of_decide_eq_true ae,srcOkL.wl⟩
end Go.Proofs.YtmjnackchaahbaaGreat

set_option maxHeartbeats 2000000
namespace Go.Proofs.YtmjnackchaahbaaGreat
open Go.RowKit

def ct (L:List Int) (i:Nat):Int:=if i < L.length then gZ (L.getD i 0) 1000000 else 0
theorem uN (L:List Int) (i:Nat):0≤ct L i:=by
 unfold ct;split
 ·exact nb _ _ ab
 omega
theorem uJ (L:List Int) (i:Nat):ct L i < 1000000:=by
 unfold ct;split
 ·exact nA _ _ ab
 omega
abbrev GB (L:List Int) (i:Nat):List (ay×Cells):=[((0,9), .box 139 [.sl L.length (cB L), .v (.int .i64 (i:Int))])]
abbrev GV (L:List Int) (i:Nat) (v:AV):St:=aP v (GB L i) [(0,9)] [(0,9)]
abbrev GO (L:List Int) (d:Nd) (i:Nat):St:=GV L i (dJ d)
structure GL (L:List Int):Prop where
 n:L.length≤4611686018427387904
 r: ∀ x∈L, -9223372036854775808≤x∧x≤9223372036854775807
theorem pE {L:List Int} (h:GL L) (i:Nat) (hi:i≤2000000):
  Spec Tryz.prog 58 (aQ [.sl L.length (cB L), .v (.int .i64 (i:Int)), .v (.int .i64 1000000)] []) (aG (.v (.int .i64 (ct L i))) []):=by
 have hn:=h.n
 by_cases hk:i < L.length
 ·have hr:=h.r (L.getD i 0) (by rw [List.getD_eq_getElem?_getD,List.getElem?_eq_getElem hk];exact List.getElem_mem hk)
  have ha:=iG (L.getD i 0) 1000000 ab ab hr.1 hr.2
  rw [show ct L i=gZ (L.getD i 0) 1000000 from if_pos hk]
  refine Spec.ofN Tryz.func58 rfl Tryz.ntmps58 rfl ?_
  refine go 6 ?_
  refine ai (dg (r:=false) _ _ rfl rfl (decide_eq_false ab)) ?_
  refine go 4 ?_
  refine aZ rfl rfl (cf (r:=false) _ _ rfl rfl (decide_eq_false ab)) ?_
  refine go 7 ?_
  refine ai (aL _ _ aa rfl rfl _ rfl ab (by (simp only [aM,aW,aV,bj,aM];omega)) (by exact Nat.mul_one _)) ?_
  refine ai (bh _ aa rfl (by exact cU _ _ ab) rfl) ?_
  refine bE rfl (ai (au aa al (ha) rfl rfl) ?_)
  exact bF rfl (aj (aq (eu rfl rfl)))
 rw [show ct L i=0 from if_neg hk]
 refine Spec.ofN Tryz.func58 rfl Tryz.ntmps58 rfl ?_
 refine go 6 ?_
 refine ai (dg (r:=false) _ _ rfl rfl (decide_eq_false ab)) ?_
 refine go 4 ?_
 refine aZ rfl rfl (cf (r:=true) _ _ rfl rfl (decide_eq_true ab)) ?_
 refine go 6 ?_
 exact aq (eu rfl rfl)
theorem bL {L:List Int} (h:GL L) (i n:Nat) (hi:i≤1000000) (hn:1≤n∧n≤1000000):
  Spec Tryz.prog 66 (aE [.ptr (0,9) 0, .v (.int .i64 (n:Int))] (GB L i)) (GV L (i+1) (.v (.int .i64 (ef (ct L) i n:Int)))):=by
 have hp:=pE h i ab
 have hlo:=uN L i
 have hhi:=uJ L i
 have hq:(ef (ct L) i n:Int)=(ct L i).tmod n:=by
  unfold ef
  rw [Int.tmod_eq_emod_of_nonneg hlo,Int.natCast_emod,Int.toNat_of_nonneg hlo]
 rw [hq]
 generalize ct L i=v at hp hlo hhi
 refine Spec.ofNI Tryz.func66 rfl Tryz.ntmps66 rfl ?_
 refine aH (bF rfl (aj (aA (dA 10 [] ?_))))
 refine go 16 ?_
 refine aJ (_,[]) (fun τ=> (au aa al (hp) rfl rfl)) ?_
 refine go 15 ?_
 refine aA ?_
 refine az (σ':=ap 25 [(1,_),(5,_)] [((0,9),_)] [(0,9)] [(0,9)]) kp ?_
 refine an (bE rfl (bE rfl (ai (cA _ _ rfl rfl ab rfl) ?_)))
 exact bF rfl (aj (aq (dm (.inr rfl) rfl (.tmp nV) (Le.outI [] [] .v rfl rfl rfl trivial ob tr rfl))))
abbrev dG:List Tx:=[[100],[100,100,49]]
abbrev vG:List Tx:=[[118],[119,50]]
theorem ck {L:List Int} (h:GL L) (i:Nat) (hi:i≤1000000):
  Spec Tryz.prog 168 (aE [.ptr (0,9) 0] (GB L i)) (GV L (i+1) (.v (bt ((dG++vG).getD (ef (ct L) i 4) [])))):=by
 have hp:=bL h i 4 hi ab
 have hk:=co (ct L) i (show 0 < 4 by omega)
 generalize ef (ct L) i 4=k at hp hk
 have hg:=ew (dG++vG) k hk
 refine Spec.ofNI Tryz.func168 rfl Tryz.ntmps168 rfl ?_
 refine go 6 ?_
 refine ai (aF (hp)) (ai (aL _ _ aa rfl rfl _ rfl ab ah (by exact Nat.mul_one _)) ?_)
 refine ai (bh _ aa rfl (by exact hg) rfl) ?_
 exact sM rfl (aj (aq (dm (.inr rfl) rfl (.tmp iH) (Le.outI [] [] .v rfl rfl rfl trivial ob tr rfl))))
abbrev nmG:List Tx:=dG++vG
abbrev PK (L:List Int) (n i q:Nat):Prop:=Spec Tryz.prog 66 (aE [.ptr (0,9) 0, .v (.int .i64 (n:Int))] (GB L i)) (GV L (i+1) (.v (.int .i64 (q:Int))))
abbrev EI (L:List Int) (d:Int) (i:Nat) (e:Nd) (j:Nat):Prop:=Spec Tryz.prog 169 (aE [.ptr (0,9) 0, .v (.int .i64 d)] (GB L i)) (GO L e j)
abbrev EB (L:List Int) (d:Int) (i:Nat) (e:Nd) (j:Nat):Prop:=Spec Tryz.prog 170 (aE [.ptr (0,9) 0, .v (.int .i64 d)] (GB L i)) (GO L e j)
theorem Jl {L:List Int} (lv:Int) (hlv:lv≤0) (i:Nat) {q:Nat} (hq:PK L 12 i q) (hk:q % 6=0) {c:Nat} (hc:c < 8) (h1:PK L 8 (i+1) c):EI L lv i (nd 12 (([0,1,2,3,7,100,2147483647,30]:List Int).getD c 0).toNat [] []) (i+2):=by
 have hg:(cB [0,1,2,3,7,100,2147483647,30])[c]? =some (.v (.int .i64 (((([0,1,2,3,7,100,2147483647,30]:List Int).getD c 0).toNat:Nat):Int))):=by
  have:c=0∨c=1∨c=2∨c=3∨c=4∨c=5∨c=6∨c=7:=by omega
  rcases this with rfl | rfl | rfl | rfl | rfl | rfl | rfl | rfl <;> rfl
 refine Spec.ofNI Tryz.func169 rfl Tryz.ntmps169 rfl ?_
 refine go 5 ?_
 refine ai (aF (hq)) (bF rfl (aj (aA (aH (bE rfl (ai (bn (r:=true) _ _ rfl rfl (decide_eq_true hlv)) ?_))))))
 refine aj (dH rfl rfl (an (bE rfl (ai (cA (r:=((0:Nat):Int)) _ _ rfl rfl ab ((Int.tmod_eq_emod_of_nonneg ab).trans ab)) ?_))))
 refine go 15 ?_
 refine ax fun K9 hK9=> ?_
 refine go 3 ?_
 refine ai (aF (h1)) (ai (aL _ _ aa rfl rfl _ rfl ab ah (by exact Nat.mul_one _)) ?_)
 refine ai (bh _ aa rfl (by exact hg) rfl) ?_
 refine go 2 ?_
 refine am (hK9 _ ?_)
 exact aq (dR [])
theorem Iv {L:List Int} (lv:Int) (hlv:lv≤0) (i:Nat) {q:Nat} (hq:PK L 12 i q) (hk:q % 6=1) {c:Nat} (hc:c < 8) (h1:PK L 8 (i+1) c):EI L lv i (nd 12 (([0,1,2,3,7,100,2147483647,30]:List Int).getD c 0).toNat [] []) (i+2):=by
 have hg:(cB [0,1,2,3,7,100,2147483647,30])[c]? =some (.v (.int .i64 (((([0,1,2,3,7,100,2147483647,30]:List Int).getD c 0).toNat:Nat):Int))):=by
  have:c=0∨c=1∨c=2∨c=3∨c=4∨c=5∨c=6∨c=7:=by omega
  rcases this with rfl | rfl | rfl | rfl | rfl | rfl | rfl | rfl <;> rfl
 refine Spec.ofNI Tryz.func169 rfl Tryz.ntmps169 rfl ?_
 refine go 5 ?_
 refine ai (aF (hq)) (bF rfl (aj (aA (aH (bE rfl (ai (bn (r:=true) _ _ rfl rfl (decide_eq_true hlv)) ?_))))))
 refine aj (dH rfl rfl (an (bE rfl (ai (cA (r:=((1:Nat):Int)) _ _ rfl rfl ab ((Int.tmod_eq_emod_of_nonneg ab).trans ab)) ?_))))
 refine go 18 ?_
 refine ax fun K9 hK9=> ?_
 refine go 3 ?_
 refine ai (aF (h1)) (ai (aL _ _ aa rfl rfl _ rfl ab ah (by exact Nat.mul_one _)) ?_)
 refine ai (bh _ aa rfl (by exact hg) rfl) ?_
 refine go 2 ?_
 refine am (hK9 _ ?_)
 exact aq (dR [])
theorem Jj {L:List Int} (lv:Int) (hlv:lv≤0) (i:Nat) {q:Nat} (hq:PK L 12 i q) (hk:q % 6=2) (h:GL L) (hi:i≤999999):EI L lv i (nd 14 0 (nmG.getD (ef (ct L) (i+1) 4) []) []) (i+2):=by
 refine Spec.ofNI Tryz.func169 rfl Tryz.ntmps169 rfl ?_
 refine go 5 ?_
 refine ai (aF (hq)) (bF rfl (aj (aA (aH (bE rfl (ai (bn (r:=true) _ _ rfl rfl (decide_eq_true hlv)) ?_))))))
 refine aj (dH rfl rfl (an (bE rfl (ai (cA (r:=((2:Nat):Int)) _ _ rfl rfl ab ((Int.tmod_eq_emod_of_nonneg ab).trans ab)) ?_))))
 refine go 26 ?_
 refine ax fun K11 hK11=> ?_
 refine az (σ':=ap 72 [(0,_),(4,_)] [((0,9),_),((4,0),_)] [(0,9)] [(0,9)]) kp ?_
 refine an (bN rfl (ai (aF (ck h (i+1) ab)) ?_))
 refine go 2 ?_
 refine am (hK11 _ ?_)
 exact aq (dR [])
theorem Iu {L:List Int} (lv:Int) (hlv:lv≤0) (i:Nat) {q:Nat} (hq:PK L 12 i q) (hk:q % 6=3) (h:GL L) (hi:i≤999999):EI L lv i (nd 14 0 (nmG.getD (ef (ct L) (i+1) 4) []) []) (i+2):=by
 refine Spec.ofNI Tryz.func169 rfl Tryz.ntmps169 rfl ?_
 refine go 5 ?_
 refine ai (aF (hq)) (bF rfl (aj (aA (aH (bE rfl (ai (bn (r:=true) _ _ rfl rfl (decide_eq_true hlv)) ?_))))))
 refine aj (dH rfl rfl (an (bE rfl (ai (cA (r:=((3:Nat):Int)) _ _ rfl rfl ab ((Int.tmod_eq_emod_of_nonneg ab).trans ab)) ?_))))
 refine go 24 ?_
 refine az (σ':=ap 72 [(0,_),(1,_),(4,_),(14,_)] [((0,9),_),((4,0),_)] [(0,9)] [(0,9)]) kp ?_
 refine MT rfl rfl rfl rfl rfl (ax fun K11 hK11=> ?_)
 refine an (bN rfl (ai (aF (ck h (i+1) ab)) ?_))
 refine go 2 ?_
 refine am (hK11 _ ?_)
 exact aq (dR [])
theorem HS {L:List Int} (lv:Int) (hlv:lv≤0) (i:Nat) {q:Nat} (hq:PK L 12 i q) (hk:q % 6=4) {c:Nat} (hc:c < 9) (h1:PK L 9 (i+1) c):EI L lv i (nd 15 0 (bltT.getD c []) []) (i+2):=by
 have hg:=ew bltT c hc
 refine Spec.ofNI Tryz.func169 rfl Tryz.ntmps169 rfl ?_
 refine go 5 ?_
 refine ai (aF (hq)) (bF rfl (aj (aA (aH (bE rfl (ai (bn (r:=true) _ _ rfl rfl (decide_eq_true hlv)) ?_))))))
 refine aj (dH rfl rfl (an (bE rfl (ai (cA (r:=((4:Nat):Int)) _ _ rfl rfl ab ((Int.tmod_eq_emod_of_nonneg ab).trans ab)) ?_))))
 refine go 24 ?_
 refine az (σ':=ap 72 [(0,_),(1,_),(4,_),(14,_)] [((0,9),_),((4,0),_)] [(0,9)] [(0,9)]) kp ?_
 refine go 13 ?_
 refine ax fun K13 hK13=> ?_
 refine an (ai (au aa (by repeat' (exact cL)) (el) rfl rfl) ?_)
 refine bN rfl (ai (aF (h1)) (ai (aL _ _ aa rfl rfl _ rfl ab ah (by exact Nat.mul_one _)) ?_))
 refine ai (bh _ aa rfl (by exact hg) rfl) ?_
 refine go 2 ?_
 refine am (hK13 _ ?_)
 exact aq (dR [])
theorem Ib {L:List Int} (lv:Int) (hlv:lv≤0) (i:Nat) {q:Nat} (hq:PK L 12 i q) (hk:q % 6=5) {c:Nat} (hc:c < 9) (h1:PK L 9 (i+1) c):EI L lv i (nd 15 0 (bltT.getD c []) []) (i+2):=by
 have hg:=ew bltT c hc
 refine Spec.ofNI Tryz.func169 rfl Tryz.ntmps169 rfl ?_
 refine go 5 ?_
 refine ai (aF (hq)) (bF rfl (aj (aA (aH (bE rfl (ai (bn (r:=true) _ _ rfl rfl (decide_eq_true hlv)) ?_))))))
 refine aj (dH rfl rfl (an (bE rfl (ai (cA (r:=((5:Nat):Int)) _ _ rfl rfl ab ((Int.tmod_eq_emod_of_nonneg ab).trans ab)) ?_))))
 refine go 24 ?_
 refine az (σ':=ap 72 [(0,_),(1,_),(4,_),(14,_)] [((0,9),_),((4,0),_)] [(0,9)] [(0,9)]) kp ?_
 refine go 16 ?_
 refine ax fun K13 hK13=> ?_
 refine an (ai (au aa (by repeat' (exact cL)) (el) rfl rfl) ?_)
 refine bN rfl (ai (aF (h1)) (ai (aL _ _ aa rfl rfl _ rfl ab ah (by exact Nat.mul_one _)) ?_))
 refine ai (bh _ aa rfl (by exact hg) rfl) ?_
 refine go 2 ?_
 refine am (hK13 _ ?_)
 exact aq (dR [])
theorem IE {L:List Int} (d:Nat) (hd:d≤10) (i:Nat) (hq:PK L 12 i 0) {c:Nat} (hc:c < 8) (h1:PK L 8 (i+1) c):EI L ((d+1:Nat):Int) i (nd 12 (([0,1,2,3,7,100,2147483647,30]:List Int).getD c 0).toNat [] []) (i+2):=by
 have hg:(cB [0,1,2,3,7,100,2147483647,30])[c]? =some (.v (.int .i64 (((([0,1,2,3,7,100,2147483647,30]:List Int).getD c 0).toNat:Nat):Int))):=by
  have:c=0∨c=1∨c=2∨c=3∨c=4∨c=5∨c=6∨c=7:=by omega
  rcases this with rfl | rfl | rfl | rfl | rfl | rfl | rfl | rfl <;> rfl
 refine Spec.ofNI Tryz.func169 rfl Tryz.ntmps169 rfl ?_
 refine go 5 ?_
 refine ai (aF (hq)) (bF rfl (aj (aA (aH (bE rfl (ai (bn (r:=false) _ _ rfl rfl (decide_eq_false ab)) ?_))))))
 refine go 16 ?_
 refine ax fun K9 hK9=> ?_
 refine go 3 ?_
 refine ai (aF (h1)) (ai (aL _ _ aa rfl rfl _ rfl ab ah (by exact Nat.mul_one _)) ?_)
 refine ai (bh _ aa rfl (by exact hg) rfl) ?_
 refine go 2 ?_
 refine am (hK9 _ ?_)
 exact aq (dR [])
theorem IA {L:List Int} (d:Nat) (hd:d≤10) (i:Nat) (hq:PK L 12 i 1) {c:Nat} (hc:c < 8) (h1:PK L 8 (i+1) c):EI L ((d+1:Nat):Int) i (nd 12 (([0,1,2,3,7,100,2147483647,30]:List Int).getD c 0).toNat [] []) (i+2):=by
 have hg:(cB [0,1,2,3,7,100,2147483647,30])[c]? =some (.v (.int .i64 (((([0,1,2,3,7,100,2147483647,30]:List Int).getD c 0).toNat:Nat):Int))):=by
  have:c=0∨c=1∨c=2∨c=3∨c=4∨c=5∨c=6∨c=7:=by omega
  rcases this with rfl | rfl | rfl | rfl | rfl | rfl | rfl | rfl <;> rfl
 refine Spec.ofNI Tryz.func169 rfl Tryz.ntmps169 rfl ?_
 refine go 5 ?_
 refine ai (aF (hq)) (bF rfl (aj (aA (aH (bE rfl (ai (bn (r:=false) _ _ rfl rfl (decide_eq_false ab)) ?_))))))
 refine go 19 ?_
 refine ax fun K9 hK9=> ?_
 refine go 3 ?_
 refine ai (aF (h1)) (ai (aL _ _ aa rfl rfl _ rfl ab ah (by exact Nat.mul_one _)) ?_)
 refine ai (bh _ aa rfl (by exact hg) rfl) ?_
 refine go 2 ?_
 refine am (hK9 _ ?_)
 exact aq (dR [])
theorem Ix {L:List Int} (d:Nat) (hd:d≤10) (i:Nat) (hq:PK L 12 i 2) (h:GL L) (hi:i≤999999):EI L ((d+1:Nat):Int) i (nd 14 0 (nmG.getD (ef (ct L) (i+1) 4) []) []) (i+2):=by
 refine Spec.ofNI Tryz.func169 rfl Tryz.ntmps169 rfl ?_
 refine go 5 ?_
 refine ai (aF (hq)) (bF rfl (aj (aA (aH (bE rfl (ai (bn (r:=false) _ _ rfl rfl (decide_eq_false ab)) ?_))))))
 refine go 27 ?_
 refine ax fun K11 hK11=> ?_
 refine an (bN rfl (ai (aF (ck h (i+1) ab)) ?_))
 refine go 2 ?_
 refine am (hK11 _ ?_)
 exact aq (dR [])
theorem Ia {L:List Int} (d:Nat) (hd:d≤10) (i:Nat) (hq:PK L 12 i 3) (h:GL L) (hi:i≤999999):EI L ((d+1:Nat):Int) i (nd 14 0 (nmG.getD (ef (ct L) (i+1) 4) []) []) (i+2):=by
 refine Spec.ofNI Tryz.func169 rfl Tryz.ntmps169 rfl ?_
 refine go 5 ?_
 refine ai (aF (hq)) (bF rfl (aj (aA (aH (bE rfl (ai (bn (r:=false) _ _ rfl rfl (decide_eq_false ab)) ?_))))))
 refine go 30 ?_
 refine ax fun K11 hK11=> ?_
 refine az (σ':=ap 72 [(0,_),(4,_)] [((0,9),_),((4,0),_)] [(0,9)] [(0,9)]) kp ?_
 refine an (bN rfl (ai (aF (ck h (i+1) ab)) ?_))
 refine go 2 ?_
 refine am (hK11 _ ?_)
 exact aq (dR [])
theorem Jc {L:List Int} (d:Nat) (hd:d≤10) (i:Nat) (hq:PK L 12 i 4) {c:Nat} (hc:c < 9) (h1:PK L 9 (i+1) c):EI L ((d+1:Nat):Int) i (nd 15 0 (bltT.getD c []) []) (i+2):=by
 have hg:=ew bltT c hc
 refine Spec.ofNI Tryz.func169 rfl Tryz.ntmps169 rfl ?_
 refine go 5 ?_
 refine ai (aF (hq)) (bF rfl (aj (aA (aH (bE rfl (ai (bn (r:=false) _ _ rfl rfl (decide_eq_false ab)) ?_))))))
 refine go 31 ?_
 refine aA ?_
 refine az (σ':=ap 72 [(0,_),(1,_),(4,_),(14,_)] [((0,9),_),((4,0),_)] [(0,9)] [(0,9)]) kp ?_
 refine go 7 ?_
 refine ax fun K13 hK13=> ?_
 refine an (ai (au aa (by repeat' (exact cL)) (el) rfl rfl) ?_)
 refine bN rfl (ai (aF (h1)) (ai (aL _ _ aa rfl rfl _ rfl ab ah (by exact Nat.mul_one _)) ?_))
 refine ai (bh _ aa rfl (by exact hg) rfl) ?_
 refine go 2 ?_
 refine am (hK13 _ ?_)
 exact aq (dR [])
theorem ID {L:List Int} (d:Nat) (hd:d≤10) (i:Nat) (hq:PK L 12 i 5) {c:Nat} (hc:c < 9) (h1:PK L 9 (i+1) c):EI L ((d+1:Nat):Int) i (nd 15 0 (bltT.getD c []) []) (i+2):=by
 have hg:=ew bltT c hc
 refine Spec.ofNI Tryz.func169 rfl Tryz.ntmps169 rfl ?_
 refine go 5 ?_
 refine ai (aF (hq)) (bF rfl (aj (aA (aH (bE rfl (ai (bn (r:=false) _ _ rfl rfl (decide_eq_false ab)) ?_))))))
 refine go 31 ?_
 refine aA ?_
 refine az (σ':=ap 72 [(0,_),(1,_),(4,_),(14,_)] [((0,9),_),((4,0),_)] [(0,9)] [(0,9)]) kp ?_
 refine go 10 ?_
 refine ax fun K13 hK13=> ?_
 refine an (ai (au aa (by repeat' (exact cL)) (el) rfl rfl) ?_)
 refine bN rfl (ai (aF (h1)) (ai (aL _ _ aa rfl rfl _ rfl ab ah (by exact Nat.mul_one _)) ?_))
 refine ai (bh _ aa rfl (by exact hg) rfl) ?_
 refine go 2 ?_
 refine am (hK13 _ ?_)
 exact aq (dR [])
theorem Iq {L:List Int} (d:Nat) (hd:d≤10) (i:Nat) (hq:PK L 12 i 6) {a:Nd} {j:Nat} (h1:EI L d (i+1) a j):EI L ((d+1:Nat):Int) i (nd 16 0 [] [a]) j:=by
 refine Spec.ofNI Tryz.func169 rfl Tryz.ntmps169 rfl ?_
 refine go 5 ?_
 refine ai (aF (hq)) (bF rfl (aj (aA (aH (bE rfl (ai (bn (r:=false) _ _ rfl rfl (decide_eq_false ab)) ?_))))))
 refine go 31 ?_
 refine aA ?_
 refine az (σ':=ap 72 [(0,_),(1,_),(4,_),(14,_)] [((0,9),_),((4,0),_)] [(0,9)] [(0,9)]) kp ?_
 refine go 15 ?_
 refine ax fun K14 hK14=> ?_
 refine an (bN rfl (bE rfl (ai (bB (r:=(d:Int)) _ _ rfl rfl ((bT ab).trans ab)) ?_)))
 refine ai (aF (h1)) (go 3 ?_)
 refine am (hK14 _ ?_)
 exact aq (dR [])
theorem Ip {L:List Int} (d:Nat) (hd:d≤10) (i:Nat) (hq:PK L 12 i 7) {a:Nd} {j:Nat} (h1:EI L d (i+1) a j):EI L ((d+1:Nat):Int) i (nd 17 0 [45] [a]) j:=by
 refine Spec.ofNI Tryz.func169 rfl Tryz.ntmps169 rfl ?_
 refine go 5 ?_
 refine ai (aF (hq)) (bF rfl (aj (aA (aH (bE rfl (ai (bn (r:=false) _ _ rfl rfl (decide_eq_false ab)) ?_))))))
 refine go 31 ?_
 refine aA ?_
 refine az (σ':=ap 72 [(0,_),(1,_),(4,_),(14,_)] [((0,9),_),((4,0),_)] [(0,9)] [(0,9)]) kp ?_
 refine go 20 ?_
 refine ax fun K15 hK15=> ?_
 refine an (bN rfl (bE rfl (ai (bB (r:=(d:Int)) _ _ rfl rfl ((bT ab).trans ab)) ?_)))
 refine ai (aF (h1)) (go 3 ?_)
 refine am (hK15 _ ?_)
 exact aq (dR [])
theorem Iw {L:List Int} (d:Nat) (hd:d≤10) (i:Nat) (hq:PK L 12 i 8) {o:Nat} (ho:o < 4) (h0:PK L 4 (i+1) o) {a b:Nd} {j1 j2:Nat} (h1:EI L d (i+2) a j1) (h2:EI L d j1 b j2):EI L ((d+1:Nat):Int) i (nd 18 0 (oS o).txt [a,b]) j2:=by
 have hg:(dh [[43],[45],[42],[47]])[o]? =some (.v (bt (oS o).txt)):=by
  have:o=0∨o=1∨o=2∨o=3:=by omega
  rcases this with rfl | rfl | rfl | rfl <;> rfl
 refine Spec.ofNI Tryz.func169 rfl Tryz.ntmps169 rfl ?_
 refine go 5 ?_
 refine ai (aF (hq)) (bF rfl (aj (aA (aH (bE rfl (ai (bn (r:=false) _ _ rfl rfl (decide_eq_false ab)) ?_))))))
 refine go 31 ?_
 refine aA ?_
 refine az (σ':=ap 72 [(0,_),(1,_),(4,_),(14,_)] [((0,9),_),((4,0),_)] [(0,9)] [(0,9)]) kp ?_
 refine go 21 ?_
 refine ax fun K15 hK15=> ?_
 refine go 3 ?_
 refine ai (aF (h0)) (ai (aL _ _ aa rfl rfl _ rfl ab ah (by exact Nat.mul_one _)) ?_)
 refine ai (bh _ aa rfl (by exact hg) rfl) ?_
 refine sM rfl (am (hK15 _ ?_))
 refine ax fun K16 hK16=> ?_
 refine an (bN rfl (bE rfl (ai (bB (r:=(d:Int)) _ _ rfl rfl ((bT ab).trans ab)) ?_)))
 refine ai (aF (h1)) (go 2 ?_)
 refine am (hK16 _ ?_)
 refine ax fun K17 hK17=> ?_
 refine az (σ':=ap 72 [(0,_),(1,_),(4,_),(6,_),(7,_)] [((0,9),_),((4,0),_),((7,0),_)] [(0,9)] [(0,9)]) kp ?_
 refine dA 7 [(0,9)] ?_
 refine go 8 ?_
 refine aJ (_,[]) (fun τ=> bB (r:=(d:Int)) _ _ rfl rfl ((bT ab).trans ab)) ?_
 refine go 1 ?_
 refine aJ (_,[((0,9),_)]) (fun τ=> (bR aa ar (h2) ob rfl rfl ae)) ?_
 refine go 6 ?_
 refine am (hK17 _ ?_)
 exact aq (dR [])
theorem Ir {L:List Int} (d:Nat) (hd:d≤10) (i:Nat) (hq:PK L 12 i 9) {o:Nat} (ho:o < 4) (h0:PK L 4 (i+1) o) {a b:Nd} {j1 j2:Nat} (h1:EI L d (i+2) a j1) (h2:EI L d j1 b j2):EI L ((d+1:Nat):Int) i (nd 18 0 (oS o).txt [a,b]) j2:=by
 have hg:(dh [[43],[45],[42],[47]])[o]? =some (.v (bt (oS o).txt)):=by
  have:o=0∨o=1∨o=2∨o=3:=by omega
  rcases this with rfl | rfl | rfl | rfl <;> rfl
 refine Spec.ofNI Tryz.func169 rfl Tryz.ntmps169 rfl ?_
 refine go 5 ?_
 refine ai (aF (hq)) (bF rfl (aj (aA (aH (bE rfl (ai (bn (r:=false) _ _ rfl rfl (decide_eq_false ab)) ?_))))))
 refine go 31 ?_
 refine aA ?_
 refine az (σ':=ap 72 [(0,_),(1,_),(4,_),(14,_)] [((0,9),_),((4,0),_)] [(0,9)] [(0,9)]) kp ?_
 refine go 21 ?_
 refine ax fun K15 hK15=> ?_
 refine go 3 ?_
 refine ai (aF (h0)) (ai (aL _ _ aa rfl rfl _ rfl ab ah (by exact Nat.mul_one _)) ?_)
 refine ai (bh _ aa rfl (by exact hg) rfl) ?_
 refine sM rfl (am (hK15 _ ?_))
 refine ax fun K16 hK16=> ?_
 refine an (bN rfl (bE rfl (ai (bB (r:=(d:Int)) _ _ rfl rfl ((bT ab).trans ab)) ?_)))
 refine ai (aF (h1)) (go 2 ?_)
 refine am (hK16 _ ?_)
 refine ax fun K17 hK17=> ?_
 refine az (σ':=ap 72 [(0,_),(1,_),(4,_),(6,_),(7,_)] [((0,9),_),((4,0),_),((7,0),_)] [(0,9)] [(0,9)]) kp ?_
 refine dA 7 [(0,9)] ?_
 refine go 8 ?_
 refine aJ (_,[]) (fun τ=> bB (r:=(d:Int)) _ _ rfl rfl ((bT ab).trans ab)) ?_
 refine go 1 ?_
 refine aJ (_,[((0,9),_)]) (fun τ=> (bR aa ar (h2) ob rfl rfl ae)) ?_
 refine go 6 ?_
 refine am (hK17 _ ?_)
 exact aq (dR [])
theorem Ga {L:List Int} (d:Nat) (hd:d≤10) (i:Nat) (hq:PK L 12 i 10) {o:Nat} (ho:o < 4) (h0:PK L 4 (i+1) o) {a b:Nd} {j1 j2:Nat} (h1:EI L d (i+2) a j1) (h2:EI L d j1 b j2):EI L ((d+1:Nat):Int) i (nd 18 0 (oS o).txt [a,b]) j2:=by
 have hg:(dh [[43],[45],[42],[47]])[o]? =some (.v (bt (oS o).txt)):=by
  have:o=0∨o=1∨o=2∨o=3:=by omega
  rcases this with rfl | rfl | rfl | rfl <;> rfl
 refine Spec.ofNI Tryz.func169 rfl Tryz.ntmps169 rfl ?_
 refine go 5 ?_
 refine ai (aF (hq)) (bF rfl (aj (aA (aH (bE rfl (ai (bn (r:=false) _ _ rfl rfl (decide_eq_false ab)) ?_))))))
 refine go 31 ?_
 refine aA ?_
 refine az (σ':=ap 72 [(0,_),(1,_),(4,_),(14,_)] [((0,9),_),((4,0),_)] [(0,9)] [(0,9)]) kp ?_
 refine go 21 ?_
 refine ax fun K15 hK15=> ?_
 refine go 3 ?_
 refine ai (aF (h0)) (ai (aL _ _ aa rfl rfl _ rfl ab ah (by exact Nat.mul_one _)) ?_)
 refine ai (bh _ aa rfl (by exact hg) rfl) ?_
 refine sM rfl (am (hK15 _ ?_))
 refine ax fun K16 hK16=> ?_
 refine an (bN rfl (bE rfl (ai (bB (r:=(d:Int)) _ _ rfl rfl ((bT ab).trans ab)) ?_)))
 refine ai (aF (h1)) (go 2 ?_)
 refine am (hK16 _ ?_)
 refine ax fun K17 hK17=> ?_
 refine az (σ':=ap 72 [(0,_),(1,_),(4,_),(6,_),(7,_)] [((0,9),_),((4,0),_),((7,0),_)] [(0,9)] [(0,9)]) kp ?_
 refine dA 7 [(0,9)] ?_
 refine go 8 ?_
 refine aJ (_,[]) (fun τ=> bB (r:=(d:Int)) _ _ rfl rfl ((bT ab).trans ab)) ?_
 refine go 1 ?_
 refine aJ (_,[((0,9),_)]) (fun τ=> (bR aa ar (h2) ob rfl rfl ae)) ?_
 refine go 6 ?_
 refine am (hK17 _ ?_)
 exact aq (dR [])
theorem GI {L:List Int} (d:Nat) (hd:d≤10) (i:Nat) (hq:PK L 12 i 11) {o:Nat} (ho:o < 4) (h0:PK L 4 (i+1) o) {a b:Nd} {j1 j2:Nat} (h1:EI L d (i+2) a j1) (h2:EI L d j1 b j2):EI L ((d+1:Nat):Int) i (nd 18 0 (oS o).txt [a,b]) j2:=by
 have hg:(dh [[43],[45],[42],[47]])[o]? =some (.v (bt (oS o).txt)):=by
  have:o=0∨o=1∨o=2∨o=3:=by omega
  rcases this with rfl | rfl | rfl | rfl <;> rfl
 refine Spec.ofNI Tryz.func169 rfl Tryz.ntmps169 rfl ?_
 refine go 5 ?_
 refine ai (aF (hq)) (bF rfl (aj (aA (aH (bE rfl (ai (bn (r:=false) _ _ rfl rfl (decide_eq_false ab)) ?_))))))
 refine go 31 ?_
 refine aA ?_
 refine az (σ':=ap 72 [(0,_),(1,_),(4,_),(14,_)] [((0,9),_),((4,0),_)] [(0,9)] [(0,9)]) kp ?_
 refine go 21 ?_
 refine ax fun K15 hK15=> ?_
 refine go 3 ?_
 refine ai (aF (h0)) (ai (aL _ _ aa rfl rfl _ rfl ab ah (by exact Nat.mul_one _)) ?_)
 refine ai (bh _ aa rfl (by exact hg) rfl) ?_
 refine sM rfl (am (hK15 _ ?_))
 refine ax fun K16 hK16=> ?_
 refine an (bN rfl (bE rfl (ai (bB (r:=(d:Int)) _ _ rfl rfl ((bT ab).trans ab)) ?_)))
 refine ai (aF (h1)) (go 2 ?_)
 refine am (hK16 _ ?_)
 refine ax fun K17 hK17=> ?_
 refine az (σ':=ap 72 [(0,_),(1,_),(4,_),(6,_),(7,_)] [((0,9),_),((4,0),_),((7,0),_)] [(0,9)] [(0,9)]) kp ?_
 refine dA 7 [(0,9)] ?_
 refine go 8 ?_
 refine aJ (_,[]) (fun τ=> bB (r:=(d:Int)) _ _ rfl rfl ((bT ab).trans ab)) ?_
 refine go 1 ?_
 refine aJ (_,[((0,9),_)]) (fun τ=> (bR aa ar (h2) ob rfl rfl ae)) ?_
 refine go 6 ?_
 refine am (hK17 _ ?_)
 exact aq (dR [])
theorem sQ {L:List Int} (h:GL L) (lv:Int) (hlv:lv≤0) (i:Nat) (hi:i≤999000) {q:Nat} (hq:PK L 12 i q):EI L lv i (dk nmG (jO (ct L) (q % 6) (i+1)).1) (jO (ct L) (q % 6) (i+1)).2:=by
 obtain ⟨k,hk⟩: ∃ k,q % 6=k:=⟨_,rfl⟩
 have hk6:k < 6:=by omega
 have h8:=bL h (i+1) 8 ab ab
 have h9:=bL h (i+1) 9 ab ab
 have l8:=co (ct L) (i+1) (show 0 < 8 by omega)
 have l9:=co (ct L) (i+1) (show 0 < 9 by omega)
 have:k=0∨k=1∨k=2∨k=3∨k=4∨k=5:=by omega
 rw [hk]
 rcases this with rfl | rfl | rfl | rfl | rfl | rfl
 ·exact Jl lv hlv i hq hk l8 h8
 ·exact Iv lv hlv i hq hk l8 h8
 ·exact Jj lv hlv i hq hk h ab
 ·exact Iu lv hlv i hq hk h ab
 ·exact HS lv hlv i hq hk l9 h9
 exact Ib lv hlv i hq hk l9 h9
theorem fV {L:List Int} (h:GL L): ∀ (d i:Nat),d≤10→i+4*2 ^ d≤900000→EI L d i (dk nmG (bW (ct L) d i).1) (bW (ct L) d i).2
 | 0,i,_,hi=> sQ h 0 ab i ab (bL h i 12 ab ab)
 | d+1,i,hd,hi=> by
  have hp:1≤2 ^ d:=Nat.one_le_two_pow
  have hq:2 ^ (d+1)=2*2 ^ d:=by rw [Nat.pow_succ];omega
  have ih:=fun j hj=> fV h d j ab hj
  have hpk:=bL h i 12 ab ab
  have hlt:=co (ct L) i (show 0 < 12 by omega)
  have h8:=bL h (i+1) 8 ab ab
  have h9:=bL h (i+1) 9 ab ab
  have l8:=co (ct L) (i+1) (show 0 < 8 by omega)
  have l9:=co (ct L) (i+1) (show 0 < 9 by omega)
  rw [bW]
  generalize ef (ct L) i 12=k at hpk hlt ⊢
  have:k=0∨k=1∨k=2∨k=3∨k=4∨k=5∨k=6∨k=7∨8≤k:=by omega
  rcases this with rfl | rfl | rfl | rfl | rfl | rfl | rfl | rfl | hk
  ·exact IE d ab i hpk l8 h8
  ·exact IA d ab i hpk l8 h8
  ·exact Ix d ab i hpk h ab
  ·exact Ia d ab i hpk h ab
  ·exact Jc d ab i hpk l9 h9
  ·exact ID d ab i hpk l9 h9
  ·exact Iq d ab i hpk (ih (i+1) ab)
  ·exact Ip d ab i hpk (ih (i+1) ab)
  rw [if_neg ab,if_neg ab,if_neg ab]
  have h4:=bL h (i+1) 4 ab ab
  have l4:=co (ct L) (i+1) (show 0 < 4 by omega)
  have hj:=fT (ct L) d (i+2)
  have ha:=ih (i+2) ab
  have hb:=ih (bW (ct L) d (i+2)).2 ab
  have:k=8∨k=9∨k=10∨k=11:=by omega
  rcases this with rfl | rfl | rfl | rfl
  ·exact Iw d ab i hpk l4 h4 ha hb
  ·exact Ir d ab i hpk l4 h4 ha hb
  ·exact Ga d ab i hpk l4 h4 ha hb
  exact GI d ab i hpk l4 h4 ha hb
end Go.Proofs.YtmjnackchaahbaaGreat
