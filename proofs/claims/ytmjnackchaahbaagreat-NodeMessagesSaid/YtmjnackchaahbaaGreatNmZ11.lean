/- Part 11 of the texts that the walk leans on: the machine, the walks, the plain laws. -/
import Derived.Test.YtmjnackchaahbaaGreatNmZ10
set_option linter.unusedSimpArgs false
set_option linter.unusedVariables false
namespace Go.Proofs.YtmjnackchaahbaaGreat
open Go.RowKit

def lj (l:List Nd) (j:Nat):Nd:=l.getD j ⟨0,0,[],0,[]⟩
theorem Ie (l:List Nd) (k:Nat) (h:k < l.length):lj l k=l[k]:=by simp [lj,h]
theorem cP (l:List Nd) (k:Nat) (h:k < l.length):PV.ups (((mS l).drop (k*4)).take 4)=[.v (.int .i64 ((lj l k).k:Int)), .v (.int .i64 ((lj l k).n:Int)), .v (bt (lj l k).s), .sl (lj l k).kn (lj l k).kids]:=by
 rw [Ie l k h,show ((mS l).drop (k*4)).take 4=l[k].row from lf Nd.row 4 (fun _=> rfl) l k h];rfl
theorem gE (l:List Tx) (n:Nat) (hn:l.length=n) (h1:n≤1000) (t:Tx):Spec Tryz.prog 204 (ba [.sl n (fm l), .v (bt t)] []) (aO (.v (.bool (decide (t∈l)))) []):=by
 refine Spec.ofN Tryz.func204 rfl Tryz.ntmps204 rfl ?_
 refine am (cr rfl (aj (aU fun K2 hK2=> ?_)))
 refine am (be rfl (aj (ay ?_)))
 refine bq (α:=Nat) (fun k=> k≤n∧t∉l.take k) 18 [(0,_),(1,_)] [] (fun k=> [(5, .v (.int .i64 (k:Int)))]) (fun k=> []) [] [] (fun k=> n - k) 0 ?_ (by
  refine Le.mkJ [] [] rfl ?_ ?_ trivial trivial ?_
  ·exact ⟨(iS rfl),(iV rfl),(cm ag),trivial⟩
  ·exact trivial
  kernel_rfl) ?_
 ·exact ⟨Nat.zero_le _,by simp⟩
 intro k hk
 obtain ⟨hk,hnt⟩:=hk
 refine aU fun K4 hK4=> ?_
 refine am (aX rfl (eY rfl (ai (bn _ aa rfl) (ai (bl _ _ rfl rfl rfl) (aj (aR rfl (fun hc9=> ?_) (fun hc9=> ?_)))))))
 ·skip
  refine bs (hK4 _ ?_)
  clear hK4;try clear K4
  refine aq (ay (am (eY rfl (aX rfl (ai (bo _ _ aa rfl rfl _ rfl ab (by (simp only [aN,bh,bk,bv,bu,bH,bw];omega)) (by exact Nat.mul_one _)) ?_)))))
  refine ai (bU _ aa rfl (by exact jK _ _ ab) rfl) ?_
  refine ej rfl (ai (aV _ _ Tryz.underlying9 rfl rfl rfl) (aj (aR rfl (fun hc17=> ?_) (fun hc17=> ?_))))
  ·skip
   refine am (cr rfl (aj (aG (rK rfl rfl ?_))))
   exact decide_eq_true (hc17 ▸ kf ab)
  refine cq (an (aX rfl (ai (aZ _ _ rfl rfl (bE ab)) ?_)))
  refine be rfl (aJ (⟨k+1,?_,?_,?_⟩))
  ·exact ⟨by omega,kV hnt ab hc17⟩
  ·skip
   refine Le.mkJ [] [] rfl ?_ ?_ trivial trivial ?_
   ·exact ⟨(iS rfl),(iV rfl),(cm ag),trivial⟩
   ·exact trivial
   kernel_rfl
  omega
 have hall:t∉l:=by rwa [List.take_of_length_le ab] at hnt
 refine bA (id (hK2 _ ?_))
 clear hK2;try clear K2
 refine am (cr rfl (aj (aG (rK rfl rfl ?_))))
 exact decide_eq_false hall
def xV:List Tx:=[[60],[60,61],[62],[62,61],[61,61],[33,61]]
theorem mE (t:Tx):Spec Tryz.prog 227 (ba [.v (bt t)] []) (aO (.v (.bool (decide (t∈xV)))) []):=by
 refine Spec.ofN Tryz.func227 rfl Tryz.ntmps227 rfl ?_
 refine am (cr rfl (aj (am (ai (bg _ _ aa rfl ag (by (simp <;> rfl)) ah rfl) ?_))))
 refine ej rfl (ai (aH aa al (gE xV 6 rfl ab t) rfl rfl) ?_)
 refine cr rfl (aj (aG (rK rfl rfl ?_)))
 rfl
theorem Io (n:Nat):Spec Tryz.prog 203 (ba [py (nd 12 n [] [])] []) (aO (.v (.int .i64 1)) []):=by
 refine Spec.ofN Tryz.func203 rfl Tryz.ntmps203 rfl ?_
 refine am (ai (aQ (1,0) _ rfl rfl) (be rfl (aj (aq (am (bb rfl rfl rfl (cf rfl rfl rfl (kv rfl rfl rfl (cL rfl (aP rfl rfl ah ?_))))))))))
 refine aP rfl rfl ah ?_
 refine aP rfl rfl ah ?_
 refine ai (aE _ _ _ rfl bR) (cL rfl (aP rfl rfl ah ?_))
 refine aP rfl rfl ah ?_
 refine aP rfl rfl ah ?_
 refine ai (aE _ _ _ rfl bR) (aj (bK rfl rfl (aq ?_)))
 refine aM (σ':=aD 80 [] [] [] []) kp ?_
 exact an (be rfl (aj (aG (fu rfl rfl))))
theorem It (s:Tx):Spec Tryz.prog 203 (ba [py (nd 14 0 s [])] []) (aO (.v (.int .i64 1)) []):=by
 refine Spec.ofN Tryz.func203 rfl Tryz.ntmps203 rfl ?_
 refine am (ai (aQ (1,0) _ rfl rfl) (be rfl (aj (aq (am (bb rfl rfl rfl (cf rfl rfl rfl (gQ rfl rfl rfl (cL rfl (ax rfl rfl (aA _ aa rfl rfl rfl) ?_))))))))))
 refine ax rfl rfl (aF _ aa rfl rfl ei) (ax rfl rfl (bC (r:=true) _ _ rfl rfl rfl) (ai (aE _ _ _ rfl bR) (cL rfl (aP rfl rfl ah ?_))))
 refine aP rfl rfl ah ?_
 refine aP rfl rfl ah ?_
 refine ai (aE _ _ _ rfl bR) (aj (bK rfl rfl (aq ?_)))
 refine aM (σ':=aD 80 [] [] [] []) kp ?_
 exact an (be rfl (aj (aG (fu rfl rfl))))
theorem Fu (s:Tx):Spec Tryz.prog 203 (ba [py (nd 15 0 s [])] []) (aO (.v (.int .i64 1)) []):=by
 refine Spec.ofN Tryz.func203 rfl Tryz.ntmps203 rfl ?_
 refine am (ai (aQ (1,0) _ rfl rfl) (be rfl (aj (aq (am (bb rfl rfl rfl (cf rfl rfl rfl (gQ rfl rfl rfl (cL rfl (ax rfl rfl (aA _ aa rfl rfl rfl) ?_))))))))))
 refine ax rfl rfl (aF _ aa rfl rfl ei) (ax rfl rfl (bC (r:=false) _ _ rfl rfl rfl) (ai (aE _ _ _ rfl bR) (cL rfl (ax rfl rfl (aA _ aa rfl rfl rfl) (ax rfl rfl (aF _ aa rfl rfl ei) (ax rfl rfl (bC (r:=true) _ _ rfl rfl rfl) (ai (aE _ _ _ rfl bR) (aj (bK rfl rfl (aq ?_))))))))))
 refine aM (σ':=aD 80 [] [] [] []) kp ?_
 exact an (be rfl (aj (aG (fu rfl rfl))))
theorem EX (n:Nat):Spec Tryz.prog 203 (ba [py (nd 13 n [] [])] []) (aO (.v (.int .i64 2)) []):=by
 refine Spec.ofN Tryz.func203 rfl Tryz.ntmps203 rfl ?_
 refine am (ai (aQ (1,0) _ rfl rfl) (be rfl (aj (aq (am (bb rfl rfl rfl (cf rfl rfl rfl (gQ rfl rfl rfl (cL rfl (ax rfl rfl (aA _ aa rfl rfl rfl) ?_))))))))))
 refine ax rfl rfl (aF _ aa rfl rfl ei) (ax rfl rfl (bC (r:=false) _ _ rfl rfl rfl) (ai (aE _ _ _ rfl bR) (cL rfl (ax rfl rfl (aA _ aa rfl rfl rfl) (ax rfl rfl (aF _ aa rfl rfl ei) (ax rfl rfl (bC (r:=false) _ _ rfl rfl rfl) (ai (aE _ _ _ rfl bR) (aj (aW rfl rfl (aS ?_))))))))))
 refine aq (aq ?_)
 refine aM (σ':=aD 80 [(1,_)] [((1,0),_)] [] []) kp ?_
 exact an (bb rfl rfl rfl (cf rfl rfl rfl (kv rfl rfl rfl (aj (bK rfl rfl (am (be rfl (aj (aG (fu rfl rfl))))))))))
theorem EU (L:List Nd) (hL:L.length≤3) (t:Nat→Nat) (ht: ∀ j,t j≤2) (h: ∀ j,j < L.length→Spec Tryz.prog 203 (ba [py (lj L j)] []) (aO (.v (.int .i64 (t j:Int))) [])) (r:Nat) (hr1:(∀ j,j < L.length→t j=1)→r=1) (hr0: ∀ j,j < L.length→t j≠1→r=0):
  Spec Tryz.prog 203 (ba [.agg [.v (.int .i64 16), .v (.int .i64 0), .v (bt []), .sl L.length (mS L)]] []) (aO (.v (.int .i64 (r:Int))) []):=by
 refine Spec.ofN Tryz.func203 rfl Tryz.ntmps203 rfl ?_
 refine am (ai (aQ (1,0) _ rfl rfl) (be rfl (aj (aq (am (bb rfl rfl rfl (cf rfl rfl rfl (gQ rfl rfl rfl (cL rfl (ax rfl rfl (aA _ aa rfl rfl rfl) ?_))))))))))
 refine ax rfl rfl (aF _ aa rfl rfl ei) (ax rfl rfl (bC (r:=false) _ _ rfl rfl rfl) (ai (aE _ _ _ rfl bR) (cL rfl (ax rfl rfl (aA _ aa rfl rfl rfl) (ax rfl rfl (aF _ aa rfl rfl ei) (ax rfl rfl (bC (r:=false) _ _ rfl rfl rfl) (ai (aE _ _ _ rfl bR) (aj (aW rfl rfl (aS ?_))))))))))
 refine aq (aq ?_)
 refine aM (σ':=aD 80 [(1,_)] [((1,0),_)] [] []) kp ?_
 refine an (bb rfl rfl rfl (cf rfl rfl rfl (gQ rfl rfl rfl (aj (aW rfl rfl (aS (aq (am (bb rfl rfl rfl (cf rfl rfl rfl ?_))))))))))
 refine ai (bX (r:=false) _ _ rfl rfl rfl) (cL rfl (aP rfl rfl ah ?_))
 refine aP rfl rfl ah ?_
 refine aP rfl rfl ah ?_
 refine ai (aE _ _ _ rfl bR) (cL rfl (aP rfl rfl ah ?_))
 refine aP rfl rfl ah ?_
 refine aP rfl rfl ah ?_
 refine ai (aE _ _ _ rfl bR) (aj (aW rfl rfl (aS (aq ?_))))
 refine aM (σ':=aD 80 [(1,_)] [((1,0),_)] [] []) kp ?_
 refine an (be rfl (aj (am (be rfl (aj (aq (am (bb rfl rfl rfl (cf rfl rfl rfl (gQ rfl rfl rfl ?_))))))))))
 refine cL rfl (aP rfl rfl ah ?_)
 refine aP rfl rfl ah ?_
 refine aP rfl rfl ah ?_
 refine ai (aE _ _ _ rfl bR) (cL rfl (ax rfl rfl (aA _ aa rfl rfl rfl) (ax rfl rfl (aF _ aa rfl rfl ei) (ax rfl rfl (bC (r:=false) _ _ rfl rfl rfl) (ax rfl rfl (aI _ bR) (aP rfl rfl ah ?_))))))
 refine aP rfl rfl ah ?_
 refine aP rfl rfl ah ?_
 refine aP rfl rfl ah ?_
 refine ax rfl rfl (aE _ _ _ rfl bR) (ai (aE _ _ _ rfl bR) (aj (aW rfl rfl (aS (aq (aq ?_))))))
 refine aM (σ':=aD 80 [(1,_),(3,_),(4,_)] [((1,0),_)] [] []) kp ?_
 refine an (bb rfl rfl rfl (cf rfl rfl rfl (gQ rfl rfl rfl (cL rfl (aP rfl rfl ah ?_)))))
 refine aP rfl rfl ah ?_
 refine aP rfl rfl ah ?_
 refine ai (aE _ _ _ rfl bR) (aj (aW rfl rfl (aS (aU fun K14 hK14=> ?_))))
 refine am (be rfl (aj (ay ?_)))
 refine bq (α:=Nat) (fun j=> j≤L.length∧ ∀ q,q < j→t q=1) 80 [(1,_),(3,_),(4,_)] [((1,0),_)] (fun j=> [(5, .v (.int .i64 (j:Int)))]) (fun j=> []) [] [] (fun j=> L.length - j) 0 ?_ (by
  refine Le.mkJ [] [] rfl ?_ ?_ trivial trivial ?_
  ·exact ⟨(iP rfl),(iV rfl),(iV rfl),(cm ag),trivial⟩
  ·exact ⟨(ci rfl rfl rfl),trivial⟩
  kernel_rfl) ?_
 ·exact ⟨Nat.zero_le _,fun q hq=> by omega⟩
 intro j hj
 obtain ⟨hj,hall⟩:=hj
 have htj:=ht j
 refine aU fun K16 hK16=> ?_
 refine am (aX rfl (bb rfl rfl rfl (eZ rfl rfl rfl (ai (bn _ aa rfl) (ai (bl _ _ rfl rfl rfl) (aj (aR rfl (fun hc67=> ?_) (fun hc67=> ?_))))))))
 ·skip
  refine bs (hK16 _ ?_)
  clear hK16;try clear K16
  refine aq (ay (am (bb rfl rfl rfl (eZ rfl rfl rfl (aX rfl (ai (bo _ _ aa rfl rfl _ rfl ab (by (simp only [aN,bh,bk,bv,bu,bH,bw];omega)) ag) ?_))))))
  refine ai (cd _ aa rfl (by exact cP _ _ ab) rfl) ?_
  refine ai (aH aa al (h j ab) rfl rfl) ?_
  refine be rfl (aj (am (aX rfl (aX rfl (ai (bX _ _ rfl rfl rfl) (aj (aR rfl (fun hc78=> ?_) (fun hc78=> ?_))))))))
  ·skip
   have hr:=hr0 j ab ab
   refine aq ?_
   refine aM (σ':=aD 80 [] [] [] []) kp ?_
   refine an (be rfl (aj (aG (rU rfl rfl ?_))))
   rw [hr];rfl
  have hall1: ∀ q,q < j+1→t q=1:=fun q hq=> by
   by_cases h:q < j
   ·exact hall q h
   obtain rfl:q=j:=by omega
   omega
  refine cq ?_
  refine aM (σ':=aD 80 [(1,_),(3,_),(4,_),(5,_)] [((1,0),_)] [] []) kp ?_
  refine an (aX rfl (ai (aZ _ _ rfl rfl (bE ab)) ?_))
  refine be rfl (aJ (⟨j+1,?_,?_,?_⟩))
  ·exact ⟨by omega,hall1⟩
  ·skip
   refine Le.mkJ [] [] rfl ?_ ?_ trivial trivial ?_
   ·exact ⟨(iP rfl),(iV rfl),(iV rfl),(cm ag),trivial⟩
   ·exact ⟨(ci rfl rfl rfl),trivial⟩
   kernel_rfl
  omega
 have hr:=hr1 fun q hq=> hall q ab
 refine bA (id (hK14 _ ?_))
 clear hK14;try clear K14
 refine am (aX rfl (be rfl (aj (aG (rU rfl rfl ?_)))))
 rw [hr];rfl
theorem HD (L:List Nd) (hL:L.length≤3) (t:Nat→Nat) (ht: ∀ j,t j≤2) (h: ∀ j,j < L.length→Spec Tryz.prog 203 (ba [py (lj L j)] []) (aO (.v (.int .i64 (t j:Int))) [])) (r:Nat) (hr1:(∀ j,j < L.length→t j=1)→r=1) (hr0: ∀ j,j < L.length→t j≠1→r=0):
  Spec Tryz.prog 203 (ba [.agg [.v (.int .i64 17), .v (.int .i64 0), .v (bt [45]), .sl L.length (mS L)]] []) (aO (.v (.int .i64 (r:Int))) []):=by
 refine Spec.ofN Tryz.func203 rfl Tryz.ntmps203 rfl ?_
 refine am (ai (aQ (1,0) _ rfl rfl) (be rfl (aj (aq (am (bb rfl rfl rfl (cf rfl rfl rfl (gQ rfl rfl rfl (cL rfl (ax rfl rfl (aA _ aa rfl rfl rfl) ?_))))))))))
 refine ax rfl rfl (aF _ aa rfl rfl ei) (ax rfl rfl (bC (r:=false) _ _ rfl rfl rfl) (ai (aE _ _ _ rfl bR) (cL rfl (ax rfl rfl (aA _ aa rfl rfl rfl) (ax rfl rfl (aF _ aa rfl rfl ei) (ax rfl rfl (bC (r:=false) _ _ rfl rfl rfl) (ai (aE _ _ _ rfl bR) (aj (aW rfl rfl (aS ?_))))))))))
 refine aq (aq ?_)
 refine aM (σ':=aD 80 [(1,_)] [((1,0),_)] [] []) kp ?_
 refine an (bb rfl rfl rfl (cf rfl rfl rfl (gQ rfl rfl rfl (aj (aW rfl rfl (aS (aq (am (bb rfl rfl rfl (cf rfl rfl rfl ?_))))))))))
 refine ai (bX (r:=true) _ _ rfl rfl rfl) (cL rfl (ax rfl rfl (aA _ aa rfl rfl rfl) (ax rfl rfl (aF _ aa rfl rfl ei) (ax rfl rfl (bX (r:=false) _ _ rfl rfl rfl) (ai (aE _ _ _ rfl bR) (cL rfl (aP rfl rfl ah ?_)))))))
 refine aP rfl rfl ah ?_
 refine aP rfl rfl ah ?_
 refine ai (aE _ _ _ rfl bR) (aj (aW rfl rfl (aS (aq ?_))))
 refine aM (σ':=aD 80 [(1,_)] [((1,0),_)] [] []) kp ?_
 refine an (be rfl (aj (am (be rfl (aj (aq (am (bb rfl rfl rfl (cf rfl rfl rfl (kv rfl rfl rfl ?_))))))))))
 refine cL rfl (ax rfl rfl (aA _ aa rfl rfl rfl) (ax rfl rfl (aF _ aa rfl rfl fB) (ax rfl rfl (aV (r:=false) _ _ Tryz.underlying9 rfl rfl rfl) (ai (aE _ _ _ rfl bR) (cL rfl (ax rfl rfl (aA _ aa rfl rfl rfl) (ax rfl rfl (aF _ aa rfl rfl ei) (ax rfl rfl (bC (r:=false) _ _ rfl rfl rfl) (ax rfl rfl (aI _ bR) (aP rfl rfl ah ?_))))))))))
 refine aP rfl rfl ah ?_
 refine aP rfl rfl ah ?_
 refine aP rfl rfl ah ?_
 refine ax rfl rfl (aE _ _ _ rfl bR) (ai (aE _ _ _ rfl bR) (aj (aW rfl rfl (aS (aq (aq ?_))))))
 refine aM (σ':=aD 80 [(1,_),(3,_),(4,_)] [((1,0),_)] [] []) kp ?_
 refine an (bb rfl rfl rfl (cf rfl rfl rfl (gQ rfl rfl rfl (cL rfl (aP rfl rfl ah ?_)))))
 refine aP rfl rfl ah ?_
 refine aP rfl rfl ah ?_
 refine ai (aE _ _ _ rfl bR) (aj (aW rfl rfl (aS (aU fun K14 hK14=> ?_))))
 refine am (be rfl (aj (ay ?_)))
 refine bq (α:=Nat) (fun j=> j≤L.length∧ ∀ q,q < j→t q=1) 80 [(1,_),(3,_),(4,_)] [((1,0),_)] (fun j=> [(5, .v (.int .i64 (j:Int)))]) (fun j=> []) [] [] (fun j=> L.length - j) 0 ?_ (by
  refine Le.mkJ [] [] rfl ?_ ?_ trivial trivial ?_
  ·exact ⟨(iP rfl),(iV rfl),(iV rfl),(cm ag),trivial⟩
  ·exact ⟨(ci rfl rfl rfl),trivial⟩
  kernel_rfl) ?_
 ·exact ⟨Nat.zero_le _,fun q hq=> by omega⟩
 intro j hj
 obtain ⟨hj,hall⟩:=hj
 have htj:=ht j
 refine aU fun K16 hK16=> ?_
 refine am (aX rfl (bb rfl rfl rfl (eZ rfl rfl rfl (ai (bn _ aa rfl) (ai (bl _ _ rfl rfl rfl) (aj (aR rfl (fun hc67=> ?_) (fun hc67=> ?_))))))))
 ·skip
  refine bs (hK16 _ ?_)
  clear hK16;try clear K16
  refine aq (ay (am (bb rfl rfl rfl (eZ rfl rfl rfl (aX rfl (ai (bo _ _ aa rfl rfl _ rfl ab (by (simp only [aN,bh,bk,bv,bu,bH,bw];omega)) ag) ?_))))))
  refine ai (cd _ aa rfl (by exact cP _ _ ab) rfl) ?_
  refine ai (aH aa al (h j ab) rfl rfl) ?_
  refine be rfl (aj (am (aX rfl (aX rfl (ai (bX _ _ rfl rfl rfl) (aj (aR rfl (fun hc78=> ?_) (fun hc78=> ?_))))))))
  ·skip
   have hr:=hr0 j ab ab
   refine aq ?_
   refine aM (σ':=aD 80 [] [] [] []) kp ?_
   refine an (be rfl (aj (aG (rU rfl rfl ?_))))
   rw [hr];rfl
  have hall1: ∀ q,q < j+1→t q=1:=fun q hq=> by
   by_cases h:q < j
   ·exact hall q h
   obtain rfl:q=j:=by omega
   omega
  refine cq ?_
  refine aM (σ':=aD 80 [(1,_),(3,_),(4,_),(5,_)] [((1,0),_)] [] []) kp ?_
  refine an (aX rfl (ai (aZ _ _ rfl rfl (bE ab)) ?_))
  refine be rfl (aJ (⟨j+1,?_,?_,?_⟩))
  ·exact ⟨by omega,hall1⟩
  ·skip
   refine Le.mkJ [] [] rfl ?_ ?_ trivial trivial ?_
   ·exact ⟨(iP rfl),(iV rfl),(iV rfl),(cm ag),trivial⟩
   ·exact ⟨(ci rfl rfl rfl),trivial⟩
   kernel_rfl
  omega
 have hr:=hr1 fun q hq=> hall q ab
 refine bA (id (hK14 _ ?_))
 clear hK14;try clear K14
 refine am (aX rfl (be rfl (aj (aG (rU rfl rfl ?_)))))
 rw [hr];rfl
theorem Hr (L:List Nd) (hL:L.length≤3) (t:Nat→Nat) (ht: ∀ j,t j≤2) (h: ∀ j,j < L.length→Spec Tryz.prog 203 (ba [py (lj L j)] []) (aO (.v (.int .i64 (t j:Int))) [])) (r:Nat) (hr1:(∀ j,j < L.length→t j=2)→r=2) (hr0: ∀ j,j < L.length→t j≠2→r=0):
  Spec Tryz.prog 203 (ba [.agg [.v (.int .i64 17), .v (.int .i64 0), .v (bt [33]), .sl L.length (mS L)]] []) (aO (.v (.int .i64 (r:Int))) []):=by
 refine Spec.ofN Tryz.func203 rfl Tryz.ntmps203 rfl ?_
 refine am (ai (aQ (1,0) _ rfl rfl) (be rfl (aj (aq (am (bb rfl rfl rfl (cf rfl rfl rfl (gQ rfl rfl rfl (cL rfl (ax rfl rfl (aA _ aa rfl rfl rfl) ?_))))))))))
 refine ax rfl rfl (aF _ aa rfl rfl ei) (ax rfl rfl (bC (r:=false) _ _ rfl rfl rfl) (ai (aE _ _ _ rfl bR) (cL rfl (ax rfl rfl (aA _ aa rfl rfl rfl) (ax rfl rfl (aF _ aa rfl rfl ei) (ax rfl rfl (bC (r:=false) _ _ rfl rfl rfl) (ai (aE _ _ _ rfl bR) (aj (aW rfl rfl (aS ?_))))))))))
 refine aq (aq ?_)
 refine aM (σ':=aD 80 [(1,_)] [((1,0),_)] [] []) kp ?_
 refine an (bb rfl rfl rfl (cf rfl rfl rfl (gQ rfl rfl rfl (aj (aW rfl rfl (aS (aq (am (bb rfl rfl rfl (cf rfl rfl rfl ?_))))))))))
 refine ai (bX (r:=true) _ _ rfl rfl rfl) (cL rfl (ax rfl rfl (aA _ aa rfl rfl rfl) (ax rfl rfl (aF _ aa rfl rfl ei) (ax rfl rfl (bX (r:=false) _ _ rfl rfl rfl) (ai (aE _ _ _ rfl bR) (cL rfl (aP rfl rfl ah ?_)))))))
 refine aP rfl rfl ah ?_
 refine aP rfl rfl ah ?_
 refine ai (aE _ _ _ rfl bR) (aj (aW rfl rfl (aS (aq ?_))))
 refine aM (σ':=aD 80 [(1,_)] [((1,0),_)] [] []) kp ?_
 refine an (be rfl (aj (am (be rfl (aj (aq (am (bb rfl rfl rfl (cf rfl rfl rfl (kv rfl rfl rfl ?_))))))))))
 refine cL rfl (ax rfl rfl (aA _ aa rfl rfl rfl) (ax rfl rfl (aF _ aa rfl rfl fB) (ax rfl rfl (aV (r:=true) _ _ Tryz.underlying9 rfl rfl rfl) (ai (aE _ _ _ rfl bR) (cL rfl (aP rfl rfl ah ?_))))))
 refine aP rfl rfl ah ?_
 refine aP rfl rfl ah ?_
 refine aP rfl rfl ah ?_
 refine gK rfl rfl (gK rfl rfl (gK rfl rfl (gK rfl rfl (aP rfl rfl ah ?_))))
 refine ai (aE _ _ _ rfl bR) (aj (bK rfl rfl (aq ?_)))
 refine aM (σ':=aD 80 [(1,_)] [((1,0),_)] [] []) kp ?_
 refine an (be rfl (aj (an (be rfl (aj (aq (am (bb rfl rfl rfl (cf rfl rfl rfl (gQ rfl rfl rfl ?_))))))))))
 refine cL rfl (aP rfl rfl ah ?_)
 refine aP rfl rfl ah ?_
 refine aP rfl rfl ah ?_
 refine ai (aE _ _ _ rfl bR) (aj (aW rfl rfl (aS (aU fun K15 hK15=> ?_))))
 refine am (be rfl (aj (ay ?_)))
 refine bq (α:=Nat) (fun j=> j≤L.length∧ ∀ q,q < j→t q=2) 80 [(1,_),(3,_),(4,_)] [((1,0),_)] (fun j=> [(5, .v (.int .i64 (j:Int)))]) (fun j=> []) [] [] (fun j=> L.length - j) 0 ?_ (by
  refine Le.mkJ [] [] rfl ?_ ?_ trivial trivial ?_
  ·exact ⟨(iP rfl),(iV rfl),(iV rfl),(cm ag),trivial⟩
  ·exact ⟨(ci rfl rfl rfl),trivial⟩
  kernel_rfl) ?_
 ·exact ⟨Nat.zero_le _,fun q hq=> by omega⟩
 intro j hj
 obtain ⟨hj,hall⟩:=hj
 have htj:=ht j
 refine aU fun K17 hK17=> ?_
 refine am (aX rfl (bb rfl rfl rfl (eZ rfl rfl rfl (ai (bn _ aa rfl) (ai (bl _ _ rfl rfl rfl) (aj (aR rfl (fun hc67=> ?_) (fun hc67=> ?_))))))))
 ·skip
  refine bs (hK17 _ ?_)
  clear hK17;try clear K17
  refine aq (ay (am (bb rfl rfl rfl (eZ rfl rfl rfl (aX rfl (ai (bo _ _ aa rfl rfl _ rfl ab (by (simp only [aN,bh,bk,bv,bu,bH,bw];omega)) ag) ?_))))))
  refine ai (cd _ aa rfl (by exact cP _ _ ab) rfl) ?_
  refine ai (aH aa al (h j ab) rfl rfl) ?_
  refine be rfl (aj (am (aX rfl (aX rfl (ai (bX _ _ rfl rfl rfl) (aj (aR rfl (fun hc78=> ?_) (fun hc78=> ?_))))))))
  ·skip
   have hr:=hr0 j ab ab
   refine aq ?_
   refine aM (σ':=aD 80 [] [] [] []) kp ?_
   refine an (be rfl (aj (aG (rU rfl rfl ?_))))
   rw [hr];rfl
  have hall1: ∀ q,q < j+1→t q=2:=fun q hq=> by
   by_cases h:q < j
   ·exact hall q h
   obtain rfl:q=j:=by omega
   omega
  refine cq ?_
  refine aM (σ':=aD 80 [(1,_),(3,_),(4,_),(5,_)] [((1,0),_)] [] []) kp ?_
  refine an (aX rfl (ai (aZ _ _ rfl rfl (bE ab)) ?_))
  refine be rfl (aJ (⟨j+1,?_,?_,?_⟩))
  ·exact ⟨by omega,hall1⟩
  ·skip
   refine Le.mkJ [] [] rfl ?_ ?_ trivial trivial ?_
   ·exact ⟨(iP rfl),(iV rfl),(iV rfl),(cm ag),trivial⟩
   ·exact ⟨(ci rfl rfl rfl),trivial⟩
   kernel_rfl
  omega
 have hr:=hr1 fun q hq=> hall q ab
 refine bA (id (hK15 _ ?_))
 clear hK15;try clear K15
 refine am (aX rfl (be rfl (aj (aG (rU rfl rfl ?_)))))
 rw [hr];rfl
theorem uG (s:Tx) (hs1:s∈[[38,38],[124,124]]) (hs2:s∉xV) (L:List Nd) (hL:L.length≤3) (t:Nat→Nat) (ht: ∀ j,t j≤2) (h: ∀ j,j < L.length→Spec Tryz.prog 203 (ba [py (lj L j)] []) (aO (.v (.int .i64 (t j:Int))) [])) (r:Nat) (hr1:(∀ j,j < L.length→t j=2)→r=2) (hr0: ∀ j,j < L.length→t j≠2→r=0):
  Spec Tryz.prog 203 (ba [.agg [.v (.int .i64 18), .v (.int .i64 0), .v (bt s), .sl L.length (mS L)]] []) (aO (.v (.int .i64 (r:Int))) []):=by
 refine Spec.ofN Tryz.func203 rfl Tryz.ntmps203 rfl ?_
 refine am (ai (aQ (1,0) _ rfl rfl) (be rfl (aj (aq (am (bb rfl rfl rfl (cf rfl rfl rfl (gQ rfl rfl rfl (cL rfl (ax rfl rfl (aA _ aa rfl rfl rfl) ?_))))))))))
 refine ax rfl rfl (aF _ aa rfl rfl ei) (ax rfl rfl (bC (r:=false) _ _ rfl rfl rfl) (ai (aE _ _ _ rfl bR) (cL rfl (ax rfl rfl (aA _ aa rfl rfl rfl) (ax rfl rfl (aF _ aa rfl rfl ei) (ax rfl rfl (bC (r:=false) _ _ rfl rfl rfl) (ai (aE _ _ _ rfl bR) (aj (aW rfl rfl (aS ?_))))))))))
 refine aq (aq ?_)
 refine aM (σ':=aD 80 [(1,_)] [((1,0),_)] [] []) kp ?_
 refine an (bb rfl rfl rfl (cf rfl rfl rfl (gQ rfl rfl rfl (aj (aW rfl rfl (aS (aq (am (bb rfl rfl rfl (cf rfl rfl rfl ?_))))))))))
 refine ai (bX (r:=true) _ _ rfl rfl rfl) (cL rfl (ax rfl rfl (aA _ aa rfl rfl rfl) (ax rfl rfl (aF _ aa rfl rfl ei) (ax rfl rfl (bX (r:=true) _ _ rfl rfl rfl) (ai (aE _ _ _ rfl bR) (cL rfl (ax rfl rfl (aA _ aa rfl rfl rfl) (ax rfl rfl (aF _ aa rfl rfl ei) (ax rfl rfl (bX (r:=false) _ _ rfl rfl rfl) (ai (aE _ _ _ rfl bR) ?_))))))))))
 refine aj (aW rfl rfl (aS (aq ?_)))
 refine aM (σ':=aD 80 [(1,_)] [((1,0),_)] [] []) kp ?_
 refine an (be rfl (aj (am (be rfl (aj (aq (am (bb rfl rfl rfl (cf rfl rfl rfl (gQ rfl rfl rfl ?_))))))))))
 refine cL rfl (aP rfl rfl ah ?_)
 refine aP rfl rfl ah ?_
 refine aP rfl rfl ah ?_
 refine ai (aE _ _ _ rfl bR) (cL rfl (ax rfl rfl (aA _ aa rfl rfl rfl) (ax rfl rfl (aF _ aa rfl rfl ei) (ax rfl rfl (bC (r:=true) _ _ rfl rfl rfl) (ax rfl rfl (aI _ bR) (ax rfl rfl (bg _ _ aa rfl ag (by (simp <;> rfl)) ah rfl) ?_))))))
 refine ax rfl rfl (aA _ aa rfl rfl rfl) (ax rfl rfl (aF _ aa rfl rfl fB) (ax rfl rfl (aH aa al (gE [[38,38],[124,124]] 2 rfl ab s) rfl rfl) ?_))
 refine ax rfl rfl (aE _ _ _ rfl bR) (ai (aE _ _ _ rfl bR) (aj (bK rfl (decide_eq_true hs1) ?_)))
 refine aq ?_
 refine aM (σ':=aD 80 [(1,_)] [((1,0),_)] [] []) kp ?_
 refine an (be rfl (aj (an (be rfl (aj (aq (am (bb rfl rfl rfl (cf rfl rfl rfl (kv rfl rfl rfl ?_))))))))))
 refine cL rfl (ax rfl rfl (aA _ aa rfl rfl rfl) (ax rfl rfl (aF _ aa rfl rfl fB) (ax rfl rfl (aH aa al (mE s) rfl rfl) ?_)))
 refine ai (aE _ _ _ rfl bR) (aj (aW rfl (decide_eq_false hs2) ?_))
 refine aS (aU fun K15 hK15=> ?_)
 refine am (be rfl (aj (ay ?_)))
 refine bq (α:=Nat) (fun j=> j≤L.length∧ ∀ q,q < j→t q=2) 80 [(1,_),(3,_),(4,_)] [((1,0),_)] (fun j=> [(5, .v (.int .i64 (j:Int)))]) (fun j=> []) [] [] (fun j=> L.length - j) 0 ?_ (by
  refine Le.mkJ [] [] rfl ?_ ?_ trivial trivial ?_
  ·exact ⟨(iP rfl),(iV rfl),(iV rfl),(cm ag),trivial⟩
  ·exact ⟨(ci rfl rfl rfl),trivial⟩
  kernel_rfl) ?_
 ·exact ⟨Nat.zero_le _,fun q hq=> by omega⟩
 intro j hj
 obtain ⟨hj,hall⟩:=hj
 have htj:=ht j
 refine aU fun K17 hK17=> ?_
 refine am (aX rfl (bb rfl rfl rfl (eZ rfl rfl rfl (ai (bn _ aa rfl) (ai (bl _ _ rfl rfl rfl) (aj (aR rfl (fun hc67=> ?_) (fun hc67=> ?_))))))))
 ·skip
  refine bs (hK17 _ ?_)
  clear hK17;try clear K17
  refine aq (ay (am (bb rfl rfl rfl (eZ rfl rfl rfl (aX rfl (ai (bo _ _ aa rfl rfl _ rfl ab (by (simp only [aN,bh,bk,bv,bu,bH,bw];omega)) ag) ?_))))))
  refine ai (cd _ aa rfl (by exact cP _ _ ab) rfl) ?_
  refine ai (aH aa al (h j ab) rfl rfl) ?_
  refine be rfl (aj (am (aX rfl (aX rfl (ai (bX _ _ rfl rfl rfl) (aj (aR rfl (fun hc78=> ?_) (fun hc78=> ?_))))))))
  ·skip
   have hr:=hr0 j ab ab
   refine aq ?_
   refine aM (σ':=aD 80 [] [] [] []) kp ?_
   refine an (be rfl (aj (aG (rU rfl rfl ?_))))
   rw [hr];rfl
  have hall1: ∀ q,q < j+1→t q=2:=fun q hq=> by
   by_cases h:q < j
   ·exact hall q h
   obtain rfl:q=j:=by omega
   omega
  refine cq ?_
  refine aM (σ':=aD 80 [(1,_),(3,_),(4,_),(5,_)] [((1,0),_)] [] []) kp ?_
  refine an (aX rfl (ai (aZ _ _ rfl rfl (bE ab)) ?_))
  refine be rfl (aJ (⟨j+1,?_,?_,?_⟩))
  ·exact ⟨by omega,hall1⟩
  ·skip
   refine Le.mkJ [] [] rfl ?_ ?_ trivial trivial ?_
   ·exact ⟨(iP rfl),(iV rfl),(iV rfl),(cm ag),trivial⟩
   ·exact ⟨(ci rfl rfl rfl),trivial⟩
   kernel_rfl
  omega
 have hr:=hr1 fun q hq=> hall q ab
 refine bA (id (hK15 _ ?_))
 clear hK15;try clear K15
 refine am (aX rfl (be rfl (aj (aG (rU rfl rfl ?_)))))
 rw [hr];rfl
theorem HO (s:Tx) (hs1:s∉[[38,38],[124,124]]) (hs2:s∈xV) (L:List Nd) (hL:L.length≤3) (t:Nat→Nat) (ht: ∀ j,t j≤2) (h: ∀ j,j < L.length→Spec Tryz.prog 203 (ba [py (lj L j)] []) (aO (.v (.int .i64 (t j:Int))) [])) (r:Nat) (hr1:(∀ j,j < L.length→t j=1)→r=2) (hr0: ∀ j,j < L.length→t j≠1→r=0):
  Spec Tryz.prog 203 (ba [.agg [.v (.int .i64 18), .v (.int .i64 0), .v (bt s), .sl L.length (mS L)]] []) (aO (.v (.int .i64 (r:Int))) []):=by
 refine Spec.ofN Tryz.func203 rfl Tryz.ntmps203 rfl ?_
 refine am (ai (aQ (1,0) _ rfl rfl) (be rfl (aj (aq (am (bb rfl rfl rfl (cf rfl rfl rfl (gQ rfl rfl rfl (cL rfl (ax rfl rfl (aA _ aa rfl rfl rfl) ?_))))))))))
 refine ax rfl rfl (aF _ aa rfl rfl ei) (ax rfl rfl (bC (r:=false) _ _ rfl rfl rfl) (ai (aE _ _ _ rfl bR) (cL rfl (ax rfl rfl (aA _ aa rfl rfl rfl) (ax rfl rfl (aF _ aa rfl rfl ei) (ax rfl rfl (bC (r:=false) _ _ rfl rfl rfl) (ai (aE _ _ _ rfl bR) (aj (aW rfl rfl (aS ?_))))))))))
 refine aq (aq ?_)
 refine aM (σ':=aD 80 [(1,_)] [((1,0),_)] [] []) kp ?_
 refine an (bb rfl rfl rfl (cf rfl rfl rfl (gQ rfl rfl rfl (aj (aW rfl rfl (aS (aq (am (bb rfl rfl rfl (cf rfl rfl rfl ?_))))))))))
 refine ai (bX (r:=true) _ _ rfl rfl rfl) (cL rfl (ax rfl rfl (aA _ aa rfl rfl rfl) (ax rfl rfl (aF _ aa rfl rfl ei) (ax rfl rfl (bX (r:=true) _ _ rfl rfl rfl) (ai (aE _ _ _ rfl bR) (cL rfl (ax rfl rfl (aA _ aa rfl rfl rfl) (ax rfl rfl (aF _ aa rfl rfl ei) (ax rfl rfl (bX (r:=false) _ _ rfl rfl rfl) (ai (aE _ _ _ rfl bR) ?_))))))))))
 refine aj (aW rfl rfl (aS (aq ?_)))
 refine aM (σ':=aD 80 [(1,_)] [((1,0),_)] [] []) kp ?_
 refine an (be rfl (aj (am (be rfl (aj (aq (am (bb rfl rfl rfl (cf rfl rfl rfl (gQ rfl rfl rfl ?_))))))))))
 refine cL rfl (aP rfl rfl ah ?_)
 refine aP rfl rfl ah ?_
 refine aP rfl rfl ah ?_
 refine ai (aE _ _ _ rfl bR) (cL rfl (ax rfl rfl (aA _ aa rfl rfl rfl) (ax rfl rfl (aF _ aa rfl rfl ei) (ax rfl rfl (bC (r:=true) _ _ rfl rfl rfl) (ax rfl rfl (aI _ bR) (ax rfl rfl (bg _ _ aa rfl ag (by (simp <;> rfl)) ah rfl) ?_))))))
 refine ax rfl rfl (aA _ aa rfl rfl rfl) (ax rfl rfl (aF _ aa rfl rfl fB) (ax rfl rfl (aH aa al (gE [[38,38],[124,124]] 2 rfl ab s) rfl rfl) ?_))
 refine ax rfl rfl (aE _ _ _ rfl bR) (ai (aE _ _ _ rfl bR) (aj (aW rfl (decide_eq_false hs1) ?_)))
 refine aS (aq (aq ?_))
 refine aM (σ':=aD 80 [(1,_),(3,_),(4,_)] [((1,0),_)] [] []) kp ?_
 refine an (bb rfl rfl rfl (cf rfl rfl rfl (kv rfl rfl rfl (cL rfl (ax rfl rfl (aA _ aa rfl rfl rfl) (ax rfl rfl (aF _ aa rfl rfl fB) (ax rfl rfl (aH aa al (mE s) rfl rfl) ?_)))))))
 refine ai (aE _ _ _ rfl bR) (aj (bK rfl (decide_eq_true hs2) ?_))
 refine an (be rfl (aj (aU fun K14 hK14=> ?_)))
 refine am (be rfl (aj (ay ?_)))
 refine bq (α:=Nat) (fun j=> j≤L.length∧ ∀ q,q < j→t q=1) 80 [(1,_),(3,_),(4,_)] [((1,0),_)] (fun j=> [(5, .v (.int .i64 (j:Int)))]) (fun j=> []) [] [] (fun j=> L.length - j) 0 ?_ (by
  refine Le.mkJ [] [] rfl ?_ ?_ trivial trivial ?_
  ·exact ⟨(iP rfl),(iV rfl),(iV rfl),(cm ag),trivial⟩
  ·exact ⟨(ci rfl rfl rfl),trivial⟩
  kernel_rfl) ?_
 ·exact ⟨Nat.zero_le _,fun q hq=> by omega⟩
 intro j hj
 obtain ⟨hj,hall⟩:=hj
 have htj:=ht j
 refine aU fun K16 hK16=> ?_
 refine am (aX rfl (bb rfl rfl rfl (eZ rfl rfl rfl (ai (bn _ aa rfl) (ai (bl _ _ rfl rfl rfl) (aj (aR rfl (fun hc67=> ?_) (fun hc67=> ?_))))))))
 ·skip
  refine bs (hK16 _ ?_)
  clear hK16;try clear K16
  refine aq (ay (am (bb rfl rfl rfl (eZ rfl rfl rfl (aX rfl (ai (bo _ _ aa rfl rfl _ rfl ab (by (simp only [aN,bh,bk,bv,bu,bH,bw];omega)) ag) ?_))))))
  refine ai (cd _ aa rfl (by exact cP _ _ ab) rfl) ?_
  refine ai (aH aa al (h j ab) rfl rfl) ?_
  refine be rfl (aj (am (aX rfl (aX rfl (ai (bX _ _ rfl rfl rfl) (aj (aR rfl (fun hc78=> ?_) (fun hc78=> ?_))))))))
  ·skip
   have hr:=hr0 j ab ab
   refine aq ?_
   refine aM (σ':=aD 80 [] [] [] []) kp ?_
   refine an (be rfl (aj (aG (rU rfl rfl ?_))))
   rw [hr];rfl
  have hall1: ∀ q,q < j+1→t q=1:=fun q hq=> by
   by_cases h:q < j
   ·exact hall q h
   obtain rfl:q=j:=by omega
   omega
  refine cq ?_
  refine aM (σ':=aD 80 [(1,_),(3,_),(4,_),(5,_)] [((1,0),_)] [] []) kp ?_
  refine an (aX rfl (ai (aZ _ _ rfl rfl (bE ab)) ?_))
  refine be rfl (aJ (⟨j+1,?_,?_,?_⟩))
  ·exact ⟨by omega,hall1⟩
  ·skip
   refine Le.mkJ [] [] rfl ?_ ?_ trivial trivial ?_
   ·exact ⟨(iP rfl),(iV rfl),(iV rfl),(cm ag),trivial⟩
   ·exact ⟨(ci rfl rfl rfl),trivial⟩
   kernel_rfl
  omega
 have hr:=hr1 fun q hq=> hall q ab
 refine bA (id (hK14 _ ?_))
 clear hK14;try clear K14
 refine am (aX rfl (be rfl (aj (aG (rU rfl rfl ?_)))))
 rw [hr];rfl
theorem CL (s:Tx) (hs1:s∉[[38,38],[124,124]]) (hs2:s∉xV) (L:List Nd) (hL:L.length≤3) (t:Nat→Nat) (ht: ∀ j,t j≤2) (h: ∀ j,j < L.length→Spec Tryz.prog 203 (ba [py (lj L j)] []) (aO (.v (.int .i64 (t j:Int))) [])) (r:Nat) (hr1:(∀ j,j < L.length→t j=1)→r=1) (hr0: ∀ j,j < L.length→t j≠1→r=0):
  Spec Tryz.prog 203 (ba [.agg [.v (.int .i64 18), .v (.int .i64 0), .v (bt s), .sl L.length (mS L)]] []) (aO (.v (.int .i64 (r:Int))) []):=by
 refine Spec.ofN Tryz.func203 rfl Tryz.ntmps203 rfl ?_
 refine am (ai (aQ (1,0) _ rfl rfl) (be rfl (aj (aq (am (bb rfl rfl rfl (cf rfl rfl rfl (gQ rfl rfl rfl (cL rfl (ax rfl rfl (aA _ aa rfl rfl rfl) ?_))))))))))
 refine ax rfl rfl (aF _ aa rfl rfl ei) (ax rfl rfl (bC (r:=false) _ _ rfl rfl rfl) (ai (aE _ _ _ rfl bR) (cL rfl (ax rfl rfl (aA _ aa rfl rfl rfl) (ax rfl rfl (aF _ aa rfl rfl ei) (ax rfl rfl (bC (r:=false) _ _ rfl rfl rfl) (ai (aE _ _ _ rfl bR) (aj (aW rfl rfl (aS ?_))))))))))
 refine aq (aq ?_)
 refine aM (σ':=aD 80 [(1,_)] [((1,0),_)] [] []) kp ?_
 refine an (bb rfl rfl rfl (cf rfl rfl rfl (gQ rfl rfl rfl (aj (aW rfl rfl (aS (aq (am (bb rfl rfl rfl (cf rfl rfl rfl ?_))))))))))
 refine ai (bX (r:=true) _ _ rfl rfl rfl) (cL rfl (ax rfl rfl (aA _ aa rfl rfl rfl) (ax rfl rfl (aF _ aa rfl rfl ei) (ax rfl rfl (bX (r:=true) _ _ rfl rfl rfl) (ai (aE _ _ _ rfl bR) (cL rfl (ax rfl rfl (aA _ aa rfl rfl rfl) (ax rfl rfl (aF _ aa rfl rfl ei) (ax rfl rfl (bX (r:=false) _ _ rfl rfl rfl) (ai (aE _ _ _ rfl bR) ?_))))))))))
 refine aj (aW rfl rfl (aS (aq ?_)))
 refine aM (σ':=aD 80 [(1,_)] [((1,0),_)] [] []) kp ?_
 refine an (be rfl (aj (am (be rfl (aj (aq (am (bb rfl rfl rfl (cf rfl rfl rfl (gQ rfl rfl rfl ?_))))))))))
 refine cL rfl (aP rfl rfl ah ?_)
 refine aP rfl rfl ah ?_
 refine aP rfl rfl ah ?_
 refine ai (aE _ _ _ rfl bR) (cL rfl (ax rfl rfl (aA _ aa rfl rfl rfl) (ax rfl rfl (aF _ aa rfl rfl ei) (ax rfl rfl (bC (r:=true) _ _ rfl rfl rfl) (ax rfl rfl (aI _ bR) (ax rfl rfl (bg _ _ aa rfl ag (by (simp <;> rfl)) ah rfl) ?_))))))
 refine ax rfl rfl (aA _ aa rfl rfl rfl) (ax rfl rfl (aF _ aa rfl rfl fB) (ax rfl rfl (aH aa al (gE [[38,38],[124,124]] 2 rfl ab s) rfl rfl) ?_))
 refine ax rfl rfl (aE _ _ _ rfl bR) (ai (aE _ _ _ rfl bR) (aj (aW rfl (decide_eq_false hs1) ?_)))
 refine aS (aq (aq ?_))
 refine aM (σ':=aD 80 [(1,_),(3,_),(4,_)] [((1,0),_)] [] []) kp ?_
 refine an (bb rfl rfl rfl (cf rfl rfl rfl (kv rfl rfl rfl (cL rfl (ax rfl rfl (aA _ aa rfl rfl rfl) (ax rfl rfl (aF _ aa rfl rfl fB) (ax rfl rfl (aH aa al (mE s) rfl rfl) ?_)))))))
 refine ai (aE _ _ _ rfl bR) (aj (aW rfl (decide_eq_false hs2) ?_))
 refine aS (aU fun K14 hK14=> ?_)
 refine am (be rfl (aj (ay ?_)))
 refine bq (α:=Nat) (fun j=> j≤L.length∧ ∀ q,q < j→t q=1) 80 [(1,_),(3,_),(4,_)] [((1,0),_)] (fun j=> [(5, .v (.int .i64 (j:Int)))]) (fun j=> []) [] [] (fun j=> L.length - j) 0 ?_ (by
  refine Le.mkJ [] [] rfl ?_ ?_ trivial trivial ?_
  ·exact ⟨(iP rfl),(iV rfl),(iV rfl),(cm ag),trivial⟩
  ·exact ⟨(ci rfl rfl rfl),trivial⟩
  kernel_rfl) ?_
 ·exact ⟨Nat.zero_le _,fun q hq=> by omega⟩
 intro j hj
 obtain ⟨hj,hall⟩:=hj
 have htj:=ht j
 refine aU fun K16 hK16=> ?_
 refine am (aX rfl (bb rfl rfl rfl (eZ rfl rfl rfl (ai (bn _ aa rfl) (ai (bl _ _ rfl rfl rfl) (aj (aR rfl (fun hc67=> ?_) (fun hc67=> ?_))))))))
 ·skip
  refine bs (hK16 _ ?_)
  clear hK16;try clear K16
  refine aq (ay (am (bb rfl rfl rfl (eZ rfl rfl rfl (aX rfl (ai (bo _ _ aa rfl rfl _ rfl ab (by (simp only [aN,bh,bk,bv,bu,bH,bw];omega)) ag) ?_))))))
  refine ai (cd _ aa rfl (by exact cP _ _ ab) rfl) ?_
  refine ai (aH aa al (h j ab) rfl rfl) ?_
  refine be rfl (aj (am (aX rfl (aX rfl (ai (bX _ _ rfl rfl rfl) (aj (aR rfl (fun hc78=> ?_) (fun hc78=> ?_))))))))
  ·skip
   have hr:=hr0 j ab ab
   refine aq ?_
   refine aM (σ':=aD 80 [] [] [] []) kp ?_
   refine an (be rfl (aj (aG (rU rfl rfl ?_))))
   rw [hr];rfl
  have hall1: ∀ q,q < j+1→t q=1:=fun q hq=> by
   by_cases h:q < j
   ·exact hall q h
   obtain rfl:q=j:=by omega
   omega
  refine cq ?_
  refine aM (σ':=aD 80 [(1,_),(3,_),(4,_),(5,_)] [((1,0),_)] [] []) kp ?_
  refine an (aX rfl (ai (aZ _ _ rfl rfl (bE ab)) ?_))
  refine be rfl (aJ (⟨j+1,?_,?_,?_⟩))
  ·exact ⟨by omega,hall1⟩
  ·skip
   refine Le.mkJ [] [] rfl ?_ ?_ trivial trivial ?_
   ·exact ⟨(iP rfl),(iV rfl),(iV rfl),(cm ag),trivial⟩
   ·exact ⟨(ci rfl rfl rfl),trivial⟩
   kernel_rfl
  omega
 have hr:=hr1 fun q hq=> hall q ab
 refine bA (id (hK14 _ ?_))
 clear hK14;try clear K14
 refine am (aX rfl (be rfl (aj (aG (rU rfl rfl ?_)))))
 rw [hr];rfl

theorem pF: ∀ e,fA e≤2
 | .int _=> by simp [fA] | .bool _=> by simp [fA] | .var _=> by simp [fA] | .name _=> by simp [fA]
 | .draw e=> by simp only [fA];split <;> omega
 | .neg e=> by simp only [fA];split <;> omega
 | .not e=> by simp only [fA];split <;> omega
 | .bin o a b=> by cases o <;> simp only [fA] <;> split <;> omega
 | .and a b=> by simp only [fA];split <;> omega
 | .or a b=> by simp only [fA];split <;> omega
def ut (a b:Ex) (j:Nat):Nat:=if j=0 then fA a else fA b
theorem pK (a b:Ex) (j:Nat):ut a b j≤2:=by unfold ut;split <;> exact pF _
theorem pE {a b:Ex} {op j:Nat} (hj:j < 2) (h:ut a b j≠op): ¬ (fA a=op∧fA b=op):=fun e=> by
 have:j=0∨j=1:=by omega
 rcases this with rfl | rfl
 ·exact h e.1
 exact h e.2
theorem uX (o:Bo):o.txt∉([[38,38],[124,124]]:List Tx):=by cases o <;> decide
def Mh:Bo→Nat | .add=> 1 | .sub=> 1 | .mul=> 1 | .div=> 1 | _=> 2
abbrev wR (d:Nd) (t:Nat):Prop:=Spec Tryz.prog 203 (ba [py d] []) (aO (.v (.int .i64 (t:Int))) [])
theorem sN {d:Nd} {t:Nat} (h:wR d t): ∀ j,j < [d].length→wR (lj [d] j) t:=fun j hj=> by
 have:j=0:=by simpa using hj
 subst this
 exact h
theorem pV {d e:Nd} {a b:Ex} (h1:wR d (fA a)) (h2:wR e (fA b)): ∀ j,j < [d,e].length→wR (lj [d,e] j) (ut a b j):=fun j hj=> by
 have hj:j < 2:=hj
 have:j=0∨j=1:=by omega
 rcases this with rfl | rfl
 ·exact h1
 exact h2
theorem eB (nm:List Tx): ∀ e:Ex,wR (eL nm e) (fA e)
 | .int n=> Io n.toNat
 | .bool b=> EX (if b then 1 else 0)
 | .var i=> It (nm.getD i [])
 | .name k=> Fu (bltT.getD k [])
 | .draw e=> EU [eL nm e] (by simp) (fun _=> fA e) (fun _=> pF e) (sN (eB nm e)) _ (fun h=> if_pos (h 0 (by simp))) (fun _ _ h=> if_neg h)
 | .neg e=> HD [eL nm e] (by simp) (fun _=> fA e) (fun _=> pF e) (sN (eB nm e)) _ (fun h=> if_pos (h 0 (by simp))) (fun _ _ h=> if_neg h)
 | .not e=> Hr [eL nm e] (by simp) (fun _=> fA e) (fun _=> pF e) (sN (eB nm e)) _ (fun h=> if_pos (h 0 (by simp))) (fun _ _ h=> if_neg h)
 | .and a b=> uG [38,38] ah ah [eL nm a,eL nm b] (by simp) (ut a b) (pK a b) (pV (eB nm a) (eB nm b)) _ (fun h=> if_pos ⟨h 0 (by simp),h 1 (by simp)⟩) (fun _ hj h=> if_neg (pE hj h))
 | .or a b=> uG [124,124] ah ah [eL nm a,eL nm b] (by simp) (ut a b) (pK a b) (pV (eB nm a) (eB nm b)) _ (fun h=> if_pos ⟨h 0 (by simp),h 1 (by simp)⟩) (fun _ hj h=> if_neg (pE hj h))
 | .bin o a b=> by
  have hty:fA (.bin o a b)=if fA a=1∧fA b=1 then Mh o else 0:=by cases o <;> rfl
  have hk:=pV (eB nm a) (eB nm b)
  by_cases ho:o.txt∈xV
  ·have h2:Mh o=2:=by cases o <;> first | rfl | (exact absurd ho ah)
   rw [h2] at hty
   exact HO o.txt (uX o) ho [eL nm a,eL nm b] (by simp) (ut a b) (pK a b) hk _ (fun h=> hty.trans (if_pos ⟨h 0 (by simp),h 1 (by simp)⟩)) (fun _ hj h=> hty.trans (if_neg (pE hj h)))
  have h2:Mh o=1:=by cases o <;> first | rfl | (exact absurd ah ho)
  rw [h2] at hty
  exact CL o.txt (uX o) ho [eL nm a,eL nm b] (by simp) (ut a b) (pK a b) hk _ (fun h=> hty.trans (if_pos ⟨h 0 (by simp),h 1 (by simp)⟩)) (fun _ hj h=> hty.trans (if_neg (pE hj h)))
theorem kK (n:Int) (s:Tx) (L:List Nd) (h: ∀ j,j < L.length→Spec Tryz.prog 166 (ba [py (lj L j)] []) (aO (.v (.bool true)) [])):
  Spec Tryz.prog 166 (ba [.agg [.v (.int .i64 11), .v (.int .i64 n), .v (bt s), .sl L.length (mS L)]] []) (aO (.v (.bool true)) []):=by
 refine Spec.ofN Tryz.func166 rfl Tryz.ntmps166 rfl ?_
 refine aq ?_
 refine lN 0 3 rfl rfl rfl fun hlen=> ?_
 unfold maxLen at hlen
 refine an (ai (aQ (1,0) _ rfl rfl) (cr rfl (aj (aq (am (bb rfl rfl rfl (cf rfl rfl rfl (kv rfl rfl rfl (aj (bK rfl rfl ?_))))))))))
 refine aU fun K4 hK4=> ?_
 refine am (be rfl (aj (ay ?_)))
 refine bq (α:=Nat) (fun j=> j≤L.length) 73 [(1,_)] [((1,0),_)] (fun j=> [(3, .v (.int .i64 (j:Int)))]) (fun j=> []) [] [] (fun j=> L.length - j) 0 ?_ (by
  refine Le.mkJ [] [] rfl ?_ ?_ trivial trivial ?_
  ·exact ⟨(iP rfl),(cm ag),trivial⟩
  ·exact ⟨(ci rfl rfl rfl),trivial⟩
  kernel_rfl) ?_
 ·omega
 intro j hj
 refine aU fun K6 hK6=> ?_
 refine am (aX rfl (bb rfl rfl rfl (eZ rfl rfl rfl (ai (bn _ aa rfl) (ai (bl _ _ rfl rfl rfl) (aj (aR rfl (fun hc17=> ?_) (fun hc17=> ?_))))))))
 ·skip
  refine bs (hK6 _ ?_)
  clear hK6;try clear K6
  refine aq (ay (am (bb rfl rfl rfl (eZ rfl rfl rfl (aX rfl (ai (bo _ _ aa rfl rfl _ rfl ab (by (simp only [aN,bh,bk,bv,bu,bH,bw];omega)) ag) ?_))))))
  refine ai (cd _ aa rfl (by exact cP _ _ ab) rfl) ?_
  refine ai (aH aa al (h j ab) rfl rfl) ?_
  refine cr rfl (aj (am (cL rfl (ai (cu (r:=false) _ rfl rfl) (aj (aW rfl rfl (cq (an (aX rfl (ai (aZ _ _ rfl rfl (bE ab)) ?_))))))))))
  refine be rfl (aJ (⟨j+1,?_,?_,?_⟩))
  ·omega
  ·skip
   refine Le.mkJ [] [] rfl ?_ ?_ trivial trivial ?_
   ·exact ⟨(iP rfl),(cm ag),trivial⟩
   ·exact ⟨(ci rfl rfl rfl),trivial⟩
   kernel_rfl
  omega
 refine bA (id (hK4 _ ?_))
 clear hK4;try clear K4
 refine am (cr rfl (aj (aG (rK rfl rfl ?_))))
 rfl
theorem sk (k:Nat) (hk:k=2∨k=3) (n:Int) (s:Tx) (L:List Nd) (hL:0 < L.length) (ht:Spec Tryz.prog 203 (ba [py (lj L 0)] []) (aO (.v (.int .i64 2)) [])) (h: ∀ j,1≤j→j < L.length→Spec Tryz.prog 166 (ba [py (lj L j)] []) (aO (.v (.bool true)) [])):
  Spec Tryz.prog 166 (ba [.agg [.v (.int .i64 (k:Int)), .v (.int .i64 n), .v (bt s), .sl L.length (mS L)]] []) (aO (.v (.bool true)) []):=by
 refine Spec.ofN Tryz.func166 rfl Tryz.ntmps166 rfl ?_
 refine aq ?_
 refine lN 0 3 rfl rfl rfl fun hlen=> ?_
 unfold maxLen at hlen
 refine an (ai (aQ (1,0) _ rfl rfl) (cr rfl (aj (aq (am (bb rfl rfl rfl (cf rfl rfl rfl (gQ rfl rfl (beq_eq_false_iff_ne.2 ab) ?_))))))))
 refine aj (aW rfl rfl (aS (aq (am (bb rfl rfl rfl (cf rfl rfl rfl (ai (bC _ _ rfl rfl rfl) (cL rfl (dw (fun hg31=> ?_) (fun hg31=> ?_))))))))))
 ·skip
  refine aP rfl rfl ah ?_
  refine aP rfl rfl ah ?_
  refine aP rfl rfl ah ?_
  refine ai (aE _ _ _ rfl bR) (aj (bK rfl rfl (am (bb rfl rfl rfl (eZ rfl rfl rfl (ai (bo _ _ aa rfl rfl 0 rfl hL (by simp only [bH];omega) rfl) ?_))))))
  refine ai (cd _ aa rfl (by exact cP L 0 hL) rfl) ?_
  refine ai (aH aa al (ht) rfl rfl) ?_
  refine be rfl (aj (aU fun K7 hK7=> ?_))
  refine aq ?_
  refine aM (σ':=aD 73 [(1,_),(5,_)] [((1,0),_)] [] []) kp ?_
  refine an (be rfl (aj (ay ?_)))
  refine bq (α:=Nat) (fun j=> 1≤j∧j≤L.length) 73 [(1,_),(5,_)] [((1,0),_)] (fun j=> [(6, .v (.int .i64 (j:Int)))]) (fun j=> []) [] [] (fun j=> L.length - j) 1 ?_ (by
   refine Le.mkJ [] [] rfl ?_ ?_ trivial trivial ?_
   ·exact ⟨(iP rfl),(iV rfl),(cm ag),trivial⟩
   ·exact ⟨(ci rfl rfl rfl),trivial⟩
   kernel_rfl) ?_
  ·exact ⟨Nat.le_refl _,hL⟩
  intro j hj
  obtain ⟨hj1,hj2⟩:=hj
  refine aU fun K9 hK9=> ?_
  refine am (aX rfl (bb rfl rfl rfl (eZ rfl rfl rfl (ai (bn _ aa rfl) (ai (bl _ _ rfl rfl rfl) (aj (aR rfl (fun hc45=> ?_) (fun hc45=> ?_))))))))
  ·skip
   refine bs (hK9 _ ?_)
   clear hK9;try clear K9
   refine aq (ay (am (bb rfl rfl rfl (eZ rfl rfl rfl (aX rfl (ai (bo _ _ aa rfl rfl _ rfl ab (by (simp only [aN,bh,bk,bv,bu,bH,bw];omega)) ag) ?_))))))
   refine ai (cd _ aa rfl (by exact cP _ _ ab) rfl) ?_
   refine ai (aH aa al (h j hj1 ab) rfl rfl) ?_
   refine cr rfl (aj (am (cL rfl (ai (cu (r:=false) _ rfl rfl) (aj (aW rfl rfl (cq (an (aX rfl (ai (aZ _ _ rfl rfl (bE ab)) ?_))))))))))
   refine be rfl (aJ (⟨j+1,?_,?_,?_⟩))
   ·omega
   ·skip
    refine Le.mkJ [] [] rfl ?_ ?_ trivial trivial ?_
    ·exact ⟨(iP rfl),(iV rfl),(cm ag),trivial⟩
    ·exact ⟨(ci rfl rfl rfl),trivial⟩
    kernel_rfl
   omega
  refine bA (id (hK7 _ ?_))
  clear hK7;try clear K7
  refine am (aX rfl (kv rfl rfl rfl (cr rfl (aj (aG (rK rfl rfl ?_))))))
  rfl
 have hk3:k=3:=by omega
 refine ax rfl rfl (aA _ aa rfl rfl rfl) (ax rfl rfl (aF _ aa rfl rfl ei) (ax rfl rfl (bC (r:=true) _ _ rfl rfl (beq_iff_eq.2 ab)) ?_))
 refine ai (aE _ _ _ rfl bR) (aj (bK rfl rfl (am (bb rfl rfl rfl (eZ rfl rfl rfl (ai (bo _ _ aa rfl rfl 0 rfl hL (by simp only [bH];omega) rfl) ?_))))))
 refine ai (cd _ aa rfl (by exact cP L 0 hL) rfl) ?_
 refine ai (aH aa al (ht) rfl rfl) ?_
 refine be rfl (aj (aU fun K16 hK16=> ?_))
 refine aq ?_
 refine aM (σ':=aD 73 [(1,_),(5,_)] [((1,0),_)] [] []) kp ?_
 refine an (be rfl (aj (ay ?_)))
 refine bq (α:=Nat) (fun j=> 1≤j∧j≤L.length) 73 [(1,_),(5,_)] [((1,0),_)] (fun j=> [(6, .v (.int .i64 (j:Int)))]) (fun j=> []) [] [] (fun j=> L.length - j) 1 ?_ (by
  refine Le.mkJ [] [] rfl ?_ ?_ trivial trivial ?_
  ·exact ⟨(iP rfl),(iV rfl),(cm ag),trivial⟩
  ·exact ⟨(ci rfl rfl rfl),trivial⟩
  kernel_rfl) ?_
 ·exact ⟨Nat.le_refl _,hL⟩
 intro j hj
 obtain ⟨hj1,hj2⟩:=hj
 refine aU fun K18 hK18=> ?_
 refine am (aX rfl (bb rfl rfl rfl (eZ rfl rfl rfl (ai (bn _ aa rfl) (ai (bl _ _ rfl rfl rfl) (aj (aR rfl (fun hc45=> ?_) (fun hc45=> ?_))))))))
 ·skip
  refine bs (hK18 _ ?_)
  clear hK18;try clear K18
  refine aq (ay (am (bb rfl rfl rfl (eZ rfl rfl rfl (aX rfl (ai (bo _ _ aa rfl rfl _ rfl ab (by (simp only [aN,bh,bk,bv,bu,bH,bw];omega)) ag) ?_))))))
  refine ai (cd _ aa rfl (by exact cP _ _ ab) rfl) ?_
  refine ai (aH aa al (h j hj1 ab) rfl rfl) ?_
  refine cr rfl (aj (am (cL rfl (ai (cu (r:=false) _ rfl rfl) (aj (aW rfl rfl (cq (an (aX rfl (ai (aZ _ _ rfl rfl (bE ab)) ?_))))))))))
  refine be rfl (aJ (⟨j+1,?_,?_,?_⟩))
  ·omega
  ·skip
   refine Le.mkJ [] [] rfl ?_ ?_ trivial trivial ?_
   ·exact ⟨(iP rfl),(iV rfl),(cm ag),trivial⟩
   ·exact ⟨(ci rfl rfl rfl),trivial⟩
   kernel_rfl
  omega
 refine bA (id (hK16 _ ?_))
 clear hK16;try clear K16
 refine am (aX rfl (kv rfl rfl rfl (cr rfl (aj (aG (rK rfl rfl ?_))))))
 rfl
theorem fJ (k:Nat) (hk:k≠2∧k≠3∧k≠11) (n:Int) (s:Tx) (L:List Nd) (h: ∀ j,j < L.length→Spec Tryz.prog 203 (ba [py (lj L j)] []) (aO (.v (.int .i64 1)) [])):
  Spec Tryz.prog 166 (ba [.agg [.v (.int .i64 (k:Int)), .v (.int .i64 n), .v (bt s), .sl L.length (mS L)]] []) (aO (.v (.bool true)) []):=by
 refine Spec.ofN Tryz.func166 rfl Tryz.ntmps166 rfl ?_
 refine aq ?_
 refine lN 0 3 rfl rfl rfl fun hlen=> ?_
 unfold maxLen at hlen
 refine an (ai (aQ (1,0) _ rfl rfl) (cr rfl (aj (aq (am (bb rfl rfl rfl (cf rfl rfl rfl (gQ rfl rfl (beq_eq_false_iff_ne.2 ab) ?_))))))))
 refine aj (aW rfl rfl (aS (aq (am (bb rfl rfl rfl (cf rfl rfl rfl (gQ rfl rfl (beq_eq_false_iff_ne.2 ab) ?_)))))))
 refine cL rfl (ax rfl rfl (aA _ aa rfl rfl rfl) (ax rfl rfl (aF _ aa rfl rfl ei) (ax rfl rfl (bC (r:=false) _ _ rfl rfl (beq_eq_false_iff_ne.2 ab)) ?_)))
 refine ai (aE _ _ _ rfl bR) (aj (aW rfl rfl (aS (aU fun K6 hK6=> ?_))))
 refine am (be rfl (aj (ay ?_)))
 refine bq (α:=Nat) (fun j=> j≤L.length) 73 [(1,_)] [((1,0),_)] (fun j=> [(8, .v (.int .i64 (j:Int)))]) (fun j=> []) [] [] (fun j=> L.length - j) 0 ?_ (by
  refine Le.mkJ [] [] rfl ?_ ?_ trivial trivial ?_
  ·exact ⟨(iP rfl),(cm ag),trivial⟩
  ·exact ⟨(ci rfl rfl rfl),trivial⟩
  kernel_rfl) ?_
 ·omega
 intro j hj
 refine aU fun K8 hK8=> ?_
 refine am (aX rfl (bb rfl rfl rfl (eZ rfl rfl rfl (ai (bn _ aa rfl) (ai (bl _ _ rfl rfl rfl) (aj (aR rfl (fun hc62=> ?_) (fun hc62=> ?_))))))))
 ·skip
  refine bs (hK8 _ ?_)
  clear hK8;try clear K8
  refine aq (ay (am (bb rfl rfl rfl (eZ rfl rfl rfl (aX rfl (ai (bo _ _ aa rfl rfl _ rfl ab (by (simp only [aN,bh,bk,bv,bu,bH,bw];omega)) ag) ?_))))))
  refine ai (cd _ aa rfl (by exact cP _ _ ab) rfl) ?_
  refine ai (aH aa al (h j ab) rfl rfl) ?_
  refine be rfl (aj (am (aX rfl (ai (bX (r:=false) _ _ rfl rfl rfl) (aj (aW rfl rfl (cq (an (aX rfl (ai (aZ _ _ rfl rfl (bE ab)) ?_))))))))))
  refine be rfl (aJ (⟨j+1,?_,?_,?_⟩))
  ·omega
  ·skip
   refine Le.mkJ [] [] rfl ?_ ?_ trivial trivial ?_
   ·exact ⟨(iP rfl),(cm ag),trivial⟩
   ·exact ⟨(ci rfl rfl rfl),trivial⟩
   kernel_rfl
  omega
 refine bA (id (hK6 _ ?_))
 clear hK6;try clear K6
 refine am (cr rfl (aj (aG (rK rfl rfl ?_))))
 rfl

abbrev LI (d:Nd):Prop:=Spec Tryz.prog 166 (ba [py d] []) (aO (.v (.bool true)) [])
theorem jz {nm:List Tx} {e:Ex} (h:pd e=true):wR (eL nm e) 1:=by
 have:=Nat.eq_of_beq_eq_true h
 have h2:=eB nm e
 rwa [this] at h2
theorem JR {P:Nd→Prop} {d:Nd} (h:P d): ∀ j,j < [d].length→P (lj [d] j):=fun j hj=> by
 have:j=0:=by simpa using hj
 subst this
 exact h
theorem Mf {P:Nd→Prop} {d e:Nd} (h:P d) (h':P e): ∀ j,j < [d,e].length→P (lj [d,e] j):=fun j hj=> by
 have hj:j < 2:=hj
 have:j=0∨j=1:=by omega
 rcases this with rfl | rfl
 ·exact h
 exact h'
theorem LY {P:Nd→Prop} {d e f:Nd} (h:P d) (h':P e) (h2:P f): ∀ j,j < [d,e,f].length→P (lj [d,e,f] j):=fun j hj=> by
 have hj:j < 3:=hj
 have:j=0∨j=1∨j=2:=by omega
 rcases this with rfl | rfl | rfl
 ·exact h
 ·exact h'
 exact h2
theorem CH {P:Nd→Prop}: ∀ j,j < ([]:List Nd).length→P (lj [] j):=fun j hj=> by simp at hj
theorem MR {P:Nd→Prop} {d:Nd} {l:List Nd} (h:P d) (h': ∀ j,j < l.length→P (lj l j)): ∀ j,j < (d::l).length→P (lj (d::l) j):=fun j hj=> by
 cases j with
 | zero=> exact h
 | succ j=> exact h' j (by simpa using hj)
mutual
theorem DJ (nm:List Tx): ∀ s:Sm,yH s=true→LI (FR nm s)
 | .assign i e,h=> fJ 1 ab 0 (nm.getD i []) [eL nm e] (JR (P:=fun d=> wR d 1) (jz h))
 | .send t k a b,h=> by
  simp only [yH,Bool.and_eq_true] at h
  exact fJ 4 ab k [] [eL nm t,eL nm a,eL nm b] (LY (P:=fun d=> wR d 1) (jz h.1.1) (jz h.1.2) (jz h.2))
 | .timer k,_=> fJ 5 ab k [] [] (CH (P:=fun d=> wR d 1))
 | .cancel k,_=> fJ 6 ab k [] [] (CH (P:=fun d=> wR d 1))
 | .sync,_=> fJ 7 ab 0 [] [] (CH (P:=fun d=> wR d 1))
 | .stop,_=> fJ 10 ab 0 [] [] (CH (P:=fun d=> wR d 1))
 | .reply a b,h=> by
  simp only [yH,Bool.and_eq_true] at h
  exact fJ 8 ab 0 [] [eL nm a,eL nm b] (Mf (P:=fun d=> wR d 1) (jz h.1) (jz h.2))
 | .fail e,h=> fJ 9 ab 0 [] [eL nm e] (JR (P:=fun d=> wR d 1) (jz h))
 | .loop c b,h=> by
  simp only [yH,Bool.and_eq_true] at h
  have h1:=eB nm c
  rw [Nat.eq_of_beq_eq_true h.1] at h1
  refine sk 3 (.inr rfl) 0 [] [eL nm c,nd 11 0 [] (jf nm b)] (by simp) h1 fun j h1 hj=> ?_
  have hj:j < 2:=hj
  obtain rfl:j=1:=by omega
  exact kK 0 [] (jf nm b) (nK nm b h.2)
 | .ite c a b,h=> by
  simp only [yH,Bool.and_eq_true] at h
  have h1:=eB nm c
  rw [Nat.eq_of_beq_eq_true h.1.1] at h1
  refine sk 2 (.inl rfl) 0 [] [eL nm c,nd 11 0 [] (jf nm a),nd 11 0 [] (jf nm b)] (by simp) h1 fun j h1 hj=> ?_
  have hj:j < 3:=hj
  have:j=1∨j=2:=by omega
  rcases this with rfl | rfl
  ·exact kK 0 [] (jf nm a) (nK nm a h.1.2)
  exact kK 0 [] (jf nm b) (nK nm b h.2)
theorem nK (nm:List Tx): ∀ b:Bk,pY b=true→ ∀ j,j < (jf nm b).length→LI (lj (jf nm b) j)
 | .nil,_=> CH
 | .cons s b,h=> by
  simp only [pY,Bool.and_eq_true] at h
  exact MR (DJ nm s h.1) (nK nm b h.2)
end
theorem Fc (nm:List Tx) (b:Bk) (h:pY b=true):LI (jb nm b):=kK 0 [] (jf nm b) (nK nm b h)

def iJ (s:Tx) (l:List Tx):List Tx:=if s∈l then l else l++[s]
section
variable (nm:List Tx)
def tA:Ex→List Tx→List Tx
 | .int _,l=> l | .bool _,l=> l | .name _,l=> l
 | .var i,l=> iJ (nm.getD i []) l
 | .draw e,l=> tA e l | .neg e,l=> tA e l | .not e,l=> tA e l
 | .bin _ a b,l=> tA b (tA a l)
 | .and a b,l=> tA b (tA a l)
 | .or a b,l=> tA b (tA a l)
mutual
def ME:Sm→List Tx→List Tx
 | .assign i e,l=> tA nm e (iJ (nm.getD i []) l)
 | .send t _ a b,l=> tA nm b (tA nm a (tA nm t l))
 | .timer _,l=> l | .cancel _,l=> l | .sync,l=> l | .stop,l=> l
 | .reply a b,l=> tA nm b (tA nm a l)
 | .fail e,l=> tA nm e l
 | .loop c b,l=> DE b (tA nm c l)
 | .ite c a b,l=> DE b (DE a (tA nm c l))
def DE:Bk→List Tx→List Tx
 | .nil,l=> l
 | .cons s b,l=> DE b (ME s l)
end
def GN (l:List Tx):Prop:=l.Nodup∧ ∀ x∈l,x∈nm
end
theorem GN.len {nm l:List Tx} (h:GN nm l):l.length≤nm.length:=h.1.length_le_of_subset fun x hx=> h.2 x hx
theorem GN.add {nm l:List Tx} (h:GN nm l) {i:Nat} (hi:i < nm.length):GN nm (iJ (nm.getD i []) l):=by
 unfold iJ
 split
 ·exact h
 rename_i hn
 refine ⟨List.nodup_append.2 ⟨h.1,by simp,fun a ha b hb e=> hn (by rw [List.mem_singleton.1 hb] at e;exact e ▸ ha)⟩,fun x hx=> ?_⟩
 rcases List.mem_append.1 hx with hx | hx
 ·exact h.2 x hx
 rw [List.mem_singleton.1 hx];exact kf hi
theorem GN.nil {nm:List Tx}:GN nm []:=⟨.nil,fun x hx=> by simp at hx⟩
theorem uU (n:Int) (s:Tx) (L:List Nd) (l:List Tx) (hs:s∉l) (hl:l.length≤1000) (F:Nat→List Tx) (hF:F 0=l++[s]) (h: ∀ j,j < L.length→Spec Tryz.prog 167 (ba [py (lj L j), .sl (F j).length (fm (F j))] []) (aO (.sl (F (j+1)).length (fm (F (j+1)))) [])):
  Spec Tryz.prog 167 (ba [.agg [.v (.int .i64 1), .v (.int .i64 n), .v (bt s), .sl L.length (mS L)], .sl l.length (fm l)] []) (aO (.sl (F L.length).length (fm (F L.length))) []):=by
 refine Spec.ofN Tryz.func167 rfl Tryz.ntmps167 rfl ?_
 refine aq ?_
 refine lN 0 3 rfl rfl rfl fun hlen=> ?_
 unfold maxLen at hlen
 refine an (ai (aQ (2,0) _ rfl rfl) (ai (bp _ fy) (aj (aq (am (bb rfl rfl rfl (cf rfl rfl rfl (kv rfl rfl rfl (cL rfl (aP rfl rfl ah ?_))))))))))
 refine aP rfl rfl ah ?_
 refine aP rfl rfl ah ?_
 refine ai (aE _ _ _ rfl bR) (cL rfl (ax rfl rfl (aI _ nh) (ax rfl rfl (aA _ aa rfl rfl rfl) (ax rfl rfl (aF _ aa rfl rfl fB) (ax rfl rfl (aH aa al (gE l _ rfl ab s) rfl rfl) ?_)))))
 refine ax rfl rfl (cu _ rfl rfl) (ai (aE _ _ _ rfl bR) (aj (bK rfl (by rw [decide_eq_false hs];rfl) ?_)))
 refine aq ?_
 refine aM (σ':=aD 45 [(1,_),(2,_)] [((2,0),_)] [] []) kp ?_
 refine an (ai (bp _ fy) (aj (am (ai (aI _ fy) (eY rfl (ai (wC (24,0) _ _ aa rfl (.sl (by simp)) ab rfl) ?_))))))
 refine fh rfl (aj (an (gw rfl (bb rfl rfl rfl (ai (aF _ aa rfl rfl fB) (ai (bg _ _ aa rfl ag (by (simp <;> rfl)) ah rfl) ?_))))))
 refine ai (dq (29,0) _ _ aa rfl rfl (by simp) (.sl rfl) ab rfl (nP _ _) (show l.length+1=(l++[s]).length by simp)) ?_
 refine fh rfl (aj (aU fun K6 hK6=> ?_))
 refine am (be rfl (aj (ay ?_)))
 refine aM (Le.frzS 1 (ys:=fm (l++[s])) rfl rfl rfl (by rw [List.drop_zero,Nat.mul_one];exact List.take_of_length_le (by simp)) (by simp)) ?_
 refine bq (α:=Nat) (fun j=> j≤L.length) 45 [(2,_)] [((2,0),_)] (fun j=> [(6, .v (.int .i64 (j:Int))),(1, .sl (F j).length (fm (F j)))]) (fun j=> []) [] [] (fun j=> L.length - j) 0 ?_ (by
  refine Le.mkJ [] [] rfl ?_ ?_ trivial trivial ?_
  ·exact ⟨(iP rfl),(cm ag),(iY (by rw [hF]) (by rw [hF])),trivial⟩
  ·exact ⟨(ci rfl rfl rfl),trivial⟩
  kernel_rfl) ?_
 ·omega
 intro j hj
 refine aU fun K8 hK8=> ?_
 refine am (aX rfl (bb rfl rfl rfl (eZ rfl rfl rfl (ai (bn _ aa rfl) (ai (bl _ _ rfl rfl rfl) (aj (aR rfl (fun hc34=> ?_) (fun hc34=> ?_))))))))
 ·skip
  refine bs (hK8 _ ?_)
  clear hK8;try clear K8
  refine aq (ay (an (bb rfl rfl rfl (eZ rfl rfl rfl (aX rfl (ai (bo _ _ aa rfl rfl _ rfl ab (by (simp only [aN,bh,bk,bv,bu,bH,bw];omega)) ag) ?_))))))
  refine ai (cd _ aa rfl (by exact cP _ _ ab) rfl) ?_
  refine eY rfl (ai (aH aa al (h j ab) rfl rfl) ?_)
  refine kE rfl (eg (an (aX rfl (ai (aZ _ _ rfl rfl (bE ab)) ?_))))
  refine be rfl (aJ (⟨j+1,?_,?_,?_⟩))
  ·omega
  ·skip
   refine Le.mkJ [] [] rfl ?_ ?_ trivial trivial ?_
   ·exact ⟨(iP rfl),(cm ag),(iY ag ag),trivial⟩
   ·exact ⟨(ci rfl rfl rfl),trivial⟩
   kernel_rfl
  omega
 obtain rfl:j=L.length:=by omega
 refine bA (id (hK6 _ ?_))
 clear hK6;try clear K6
 exact am (eY rfl (kE rfl (aj (aG (qe rfl rfl)))))
theorem ul (n:Int) (s:Tx) (L:List Nd) (l:List Tx) (hs:s∈l) (hl:l.length≤1000) (F:Nat→List Tx) (hF:F 0=l) (h: ∀ j,j < L.length→Spec Tryz.prog 167 (ba [py (lj L j), .sl (F j).length (fm (F j))] []) (aO (.sl (F (j+1)).length (fm (F (j+1)))) [])):
  Spec Tryz.prog 167 (ba [.agg [.v (.int .i64 1), .v (.int .i64 n), .v (bt s), .sl L.length (mS L)], .sl l.length (fm l)] []) (aO (.sl (F L.length).length (fm (F L.length))) []):=by
 refine Spec.ofN Tryz.func167 rfl Tryz.ntmps167 rfl ?_
 refine aq ?_
 refine lN 0 3 rfl rfl rfl fun hlen=> ?_
 unfold maxLen at hlen
 refine an (ai (aQ (2,0) _ rfl rfl) (ai (bp _ fy) (aj (aq (am (bb rfl rfl rfl (cf rfl rfl rfl (kv rfl rfl rfl (cL rfl (aP rfl rfl ah ?_))))))))))
 refine aP rfl rfl ah ?_
 refine aP rfl rfl ah ?_
 refine ai (aE _ _ _ rfl bR) (cL rfl (ax rfl rfl (aI _ nh) (ax rfl rfl (aA _ aa rfl rfl rfl) (ax rfl rfl (aF _ aa rfl rfl fB) (ax rfl rfl (aH aa al (gE l _ rfl ab s) rfl rfl) ?_)))))
 refine ax rfl rfl (cu _ rfl rfl) (ai (aE _ _ _ rfl bR) (aj (aW rfl (by rw [decide_eq_true hs];rfl) ?_)))
 refine aS (aU fun K4 hK4=> ?_)
 refine aq ?_
 refine aM (σ':=aD 45 [(1,_),(2,_)] [((2,0),_)] [] []) kp ?_
 refine an (be rfl (aj (ay ?_)))
 refine bq (α:=Nat) (fun j=> j≤L.length) 45 [(2,_)] [((2,0),_)] (fun j=> [(6, .v (.int .i64 (j:Int))),(1, .sl (F j).length (fm (F j)))]) (fun j=> []) [] [] (fun j=> L.length - j) 0 ?_ (by
  refine Le.mkJ [] [] rfl ?_ ?_ trivial trivial ?_
  ·exact ⟨(iP rfl),(cm ag),(iY (by rw [hF]) (by rw [hF])),trivial⟩
  ·exact ⟨(ci rfl rfl rfl),trivial⟩
  kernel_rfl) ?_
 ·omega
 intro j hj
 refine aU fun K6 hK6=> ?_
 refine am (aX rfl (bb rfl rfl rfl (eZ rfl rfl rfl (ai (bn _ aa rfl) (ai (bl _ _ rfl rfl rfl) (aj (aR rfl (fun hc34=> ?_) (fun hc34=> ?_))))))))
 ·skip
  refine bs (hK6 _ ?_)
  clear hK6;try clear K6
  refine aq (ay (an (bb rfl rfl rfl (eZ rfl rfl rfl (aX rfl (ai (bo _ _ aa rfl rfl _ rfl ab (by (simp only [aN,bh,bk,bv,bu,bH,bw];omega)) ag) ?_))))))
  refine ai (cd _ aa rfl (by exact cP _ _ ab) rfl) ?_
  refine eY rfl (ai (aH aa al (h j ab) rfl rfl) ?_)
  refine kE rfl (eg (an (aX rfl (ai (aZ _ _ rfl rfl (bE ab)) ?_))))
  refine be rfl (aJ (⟨j+1,?_,?_,?_⟩))
  ·omega
  ·skip
   refine Le.mkJ [] [] rfl ?_ ?_ trivial trivial ?_
   ·exact ⟨(iP rfl),(cm ag),(iY ag ag),trivial⟩
   ·exact ⟨(ci rfl rfl rfl),trivial⟩
   kernel_rfl
  omega
 obtain rfl:j=L.length:=by omega
 refine bA (id (hK4 _ ?_))
 clear hK4;try clear K4
 exact am (eY rfl (kE rfl (aj (aG (qe rfl rfl)))))
theorem sX (n:Int) (s:Tx) (L:List Nd) (l:List Tx) (hs:s∉l) (hl:l.length≤1000) (F:Nat→List Tx) (hF:F 0=l++[s]) (h: ∀ j,j < L.length→Spec Tryz.prog 167 (ba [py (lj L j), .sl (F j).length (fm (F j))] []) (aO (.sl (F (j+1)).length (fm (F (j+1)))) [])):
  Spec Tryz.prog 167 (ba [.agg [.v (.int .i64 14), .v (.int .i64 n), .v (bt s), .sl L.length (mS L)], .sl l.length (fm l)] []) (aO (.sl (F L.length).length (fm (F L.length))) []):=by
 refine Spec.ofN Tryz.func167 rfl Tryz.ntmps167 rfl ?_
 refine aq ?_
 refine lN 0 3 rfl rfl rfl fun hlen=> ?_
 unfold maxLen at hlen
 refine an (ai (aQ (2,0) _ rfl rfl) (ai (bp _ fy) (aj (aq (am (bb rfl rfl rfl (cf rfl rfl rfl (gQ rfl rfl rfl (cL rfl (ax rfl rfl (aA _ aa rfl rfl rfl) ?_))))))))))
 refine ax rfl rfl (aF _ aa rfl rfl ei) (ax rfl rfl (bC (r:=true) _ _ rfl rfl rfl) (ai (aE _ _ _ rfl bR) (cL rfl (ax rfl rfl (aI _ nh) (ax rfl rfl (aA _ aa rfl rfl rfl) (ax rfl rfl (aF _ aa rfl rfl fB) (ax rfl rfl (aH aa al (gE l _ rfl ab s) rfl rfl) ?_)))))))
 refine ax rfl rfl (cu _ rfl rfl) (ai (aE _ _ _ rfl bR) (aj (bK rfl (by rw [decide_eq_false hs];rfl) ?_)))
 refine aq ?_
 refine aM (σ':=aD 45 [(1,_),(2,_)] [((2,0),_)] [] []) kp ?_
 refine an (ai (bp _ fy) (aj (am (ai (aI _ fy) (eY rfl (ai (wC (24,0) _ _ aa rfl (.sl (by simp)) ab rfl) ?_))))))
 refine fh rfl (aj (an (gw rfl (bb rfl rfl rfl (ai (aF _ aa rfl rfl fB) (ai (bg _ _ aa rfl ag (by (simp <;> rfl)) ah rfl) ?_))))))
 refine ai (dq (29,0) _ _ aa rfl rfl (by simp) (.sl rfl) ab rfl (nP _ _) (show l.length+1=(l++[s]).length by simp)) ?_
 refine fh rfl (aj (aU fun K6 hK6=> ?_))
 refine am (be rfl (aj (ay ?_)))
 refine aM (Le.frzS 1 (ys:=fm (l++[s])) rfl rfl rfl (by rw [List.drop_zero,Nat.mul_one];exact List.take_of_length_le (by simp)) (by simp)) ?_
 refine bq (α:=Nat) (fun j=> j≤L.length) 45 [(2,_)] [((2,0),_)] (fun j=> [(6, .v (.int .i64 (j:Int))),(1, .sl (F j).length (fm (F j)))]) (fun j=> []) [] [] (fun j=> L.length - j) 0 ?_ (by
  refine Le.mkJ [] [] rfl ?_ ?_ trivial trivial ?_
  ·exact ⟨(iP rfl),(cm ag),(iY (by rw [hF]) (by rw [hF])),trivial⟩
  ·exact ⟨(ci rfl rfl rfl),trivial⟩
  kernel_rfl) ?_
 ·omega
 intro j hj
 refine aU fun K8 hK8=> ?_
 refine am (aX rfl (bb rfl rfl rfl (eZ rfl rfl rfl (ai (bn _ aa rfl) (ai (bl _ _ rfl rfl rfl) (aj (aR rfl (fun hc34=> ?_) (fun hc34=> ?_))))))))
 ·skip
  refine bs (hK8 _ ?_)
  clear hK8;try clear K8
  refine aq (ay (an (bb rfl rfl rfl (eZ rfl rfl rfl (aX rfl (ai (bo _ _ aa rfl rfl _ rfl ab (by (simp only [aN,bh,bk,bv,bu,bH,bw];omega)) ag) ?_))))))
  refine ai (cd _ aa rfl (by exact cP _ _ ab) rfl) ?_
  refine eY rfl (ai (aH aa al (h j ab) rfl rfl) ?_)
  refine kE rfl (eg (an (aX rfl (ai (aZ _ _ rfl rfl (bE ab)) ?_))))
  refine be rfl (aJ (⟨j+1,?_,?_,?_⟩))
  ·omega
  ·skip
   refine Le.mkJ [] [] rfl ?_ ?_ trivial trivial ?_
   ·exact ⟨(iP rfl),(cm ag),(iY ag ag),trivial⟩
   ·exact ⟨(ci rfl rfl rfl),trivial⟩
   kernel_rfl
  omega
 obtain rfl:j=L.length:=by omega
 refine bA (id (hK6 _ ?_))
 clear hK6;try clear K6
 exact am (eY rfl (kE rfl (aj (aG (qe rfl rfl)))))
theorem tb (n:Int) (s:Tx) (L:List Nd) (l:List Tx) (hs:s∈l) (hl:l.length≤1000) (F:Nat→List Tx) (hF:F 0=l) (h: ∀ j,j < L.length→Spec Tryz.prog 167 (ba [py (lj L j), .sl (F j).length (fm (F j))] []) (aO (.sl (F (j+1)).length (fm (F (j+1)))) [])):
  Spec Tryz.prog 167 (ba [.agg [.v (.int .i64 14), .v (.int .i64 n), .v (bt s), .sl L.length (mS L)], .sl l.length (fm l)] []) (aO (.sl (F L.length).length (fm (F L.length))) []):=by
 refine Spec.ofN Tryz.func167 rfl Tryz.ntmps167 rfl ?_
 refine aq ?_
 refine lN 0 3 rfl rfl rfl fun hlen=> ?_
 unfold maxLen at hlen
 refine an (ai (aQ (2,0) _ rfl rfl) (ai (bp _ fy) (aj (aq (am (bb rfl rfl rfl (cf rfl rfl rfl (gQ rfl rfl rfl (cL rfl (ax rfl rfl (aA _ aa rfl rfl rfl) ?_))))))))))
 refine ax rfl rfl (aF _ aa rfl rfl ei) (ax rfl rfl (bC (r:=true) _ _ rfl rfl rfl) (ai (aE _ _ _ rfl bR) (cL rfl (ax rfl rfl (aI _ nh) (ax rfl rfl (aA _ aa rfl rfl rfl) (ax rfl rfl (aF _ aa rfl rfl fB) (ax rfl rfl (aH aa al (gE l _ rfl ab s) rfl rfl) ?_)))))))
 refine ax rfl rfl (cu _ rfl rfl) (ai (aE _ _ _ rfl bR) (aj (aW rfl (by rw [decide_eq_true hs];rfl) ?_)))
 refine aS (aU fun K4 hK4=> ?_)
 refine aq ?_
 refine aM (σ':=aD 45 [(1,_),(2,_)] [((2,0),_)] [] []) kp ?_
 refine an (be rfl (aj (ay ?_)))
 refine bq (α:=Nat) (fun j=> j≤L.length) 45 [(2,_)] [((2,0),_)] (fun j=> [(6, .v (.int .i64 (j:Int))),(1, .sl (F j).length (fm (F j)))]) (fun j=> []) [] [] (fun j=> L.length - j) 0 ?_ (by
  refine Le.mkJ [] [] rfl ?_ ?_ trivial trivial ?_
  ·exact ⟨(iP rfl),(cm ag),(iY (by rw [hF]) (by rw [hF])),trivial⟩
  ·exact ⟨(ci rfl rfl rfl),trivial⟩
  kernel_rfl) ?_
 ·omega
 intro j hj
 refine aU fun K6 hK6=> ?_
 refine am (aX rfl (bb rfl rfl rfl (eZ rfl rfl rfl (ai (bn _ aa rfl) (ai (bl _ _ rfl rfl rfl) (aj (aR rfl (fun hc34=> ?_) (fun hc34=> ?_))))))))
 ·skip
  refine bs (hK6 _ ?_)
  clear hK6;try clear K6
  refine aq (ay (an (bb rfl rfl rfl (eZ rfl rfl rfl (aX rfl (ai (bo _ _ aa rfl rfl _ rfl ab (by (simp only [aN,bh,bk,bv,bu,bH,bw];omega)) ag) ?_))))))
  refine ai (cd _ aa rfl (by exact cP _ _ ab) rfl) ?_
  refine eY rfl (ai (aH aa al (h j ab) rfl rfl) ?_)
  refine kE rfl (eg (an (aX rfl (ai (aZ _ _ rfl rfl (bE ab)) ?_))))
  refine be rfl (aJ (⟨j+1,?_,?_,?_⟩))
  ·omega
  ·skip
   refine Le.mkJ [] [] rfl ?_ ?_ trivial trivial ?_
   ·exact ⟨(iP rfl),(cm ag),(iY ag ag),trivial⟩
   ·exact ⟨(ci rfl rfl rfl),trivial⟩
   kernel_rfl
  omega
 obtain rfl:j=L.length:=by omega
 refine bA (id (hK4 _ ?_))
 clear hK4;try clear K4
 exact am (eY rfl (kE rfl (aj (aG (qe rfl rfl)))))
theorem vp (k:Nat) (hk:k≠1∧k≠14) (n:Int) (s:Tx) (L:List Nd) (l:List Tx) (hl:l.length≤1000) (F:Nat→List Tx) (hF:F 0=l) (h: ∀ j,j < L.length→Spec Tryz.prog 167 (ba [py (lj L j), .sl (F j).length (fm (F j))] []) (aO (.sl (F (j+1)).length (fm (F (j+1)))) [])):
  Spec Tryz.prog 167 (ba [.agg [.v (.int .i64 (k:Int)), .v (.int .i64 n), .v (bt s), .sl L.length (mS L)], .sl l.length (fm l)] []) (aO (.sl (F L.length).length (fm (F L.length))) []):=by
 refine Spec.ofN Tryz.func167 rfl Tryz.ntmps167 rfl ?_
 refine aq ?_
 refine lN 0 3 rfl rfl rfl fun hlen=> ?_
 unfold maxLen at hlen
 refine an (ai (aQ (2,0) _ rfl rfl) (ai (bp _ fy) (aj (aq (am (bb rfl rfl rfl (cf rfl rfl rfl (gQ rfl rfl (beq_eq_false_iff_ne.2 ab) ?_))))))))
 refine cL rfl (ax rfl rfl (aA _ aa rfl rfl rfl) (ax rfl rfl (aF _ aa rfl rfl ei) (ax rfl rfl (bC (r:=false) _ _ rfl rfl (beq_eq_false_iff_ne.2 ab)) ?_)))
 refine ai (aE _ _ _ rfl bR) (cL rfl (aP rfl rfl ah ?_))
 refine aP rfl rfl ah ?_
 refine aP rfl rfl ah ?_
 refine aP rfl rfl ah ?_
 refine aP rfl rfl ah ?_
 refine ai (aE _ _ _ rfl bR) (aj (aW rfl rfl (aS (aU fun K4 hK4=> ?_))))
 refine aq ?_
 refine aM (σ':=aD 45 [(1,_),(2,_)] [((2,0),_)] [] []) kp ?_
 refine an (be rfl (aj (ay ?_)))
 refine bq (α:=Nat) (fun j=> j≤L.length) 45 [(2,_)] [((2,0),_)] (fun j=> [(6, .v (.int .i64 (j:Int))),(1, .sl (F j).length (fm (F j)))]) (fun j=> []) [] [] (fun j=> L.length - j) 0 ?_ (by
  refine Le.mkJ [] [] rfl ?_ ?_ trivial trivial ?_
  ·exact ⟨(iP rfl),(cm ag),(iY (by rw [hF]) (by rw [hF])),trivial⟩
  ·exact ⟨(ci rfl rfl rfl),trivial⟩
  kernel_rfl) ?_
 ·omega
 intro j hj
 refine aU fun K6 hK6=> ?_
 refine am (aX rfl (bb rfl rfl rfl (eZ rfl rfl rfl (ai (bn _ aa rfl) (ai (bl _ _ rfl rfl rfl) (aj (aR rfl (fun hc34=> ?_) (fun hc34=> ?_))))))))
 ·skip
  refine bs (hK6 _ ?_)
  clear hK6;try clear K6
  refine aq (ay (an (bb rfl rfl rfl (eZ rfl rfl rfl (aX rfl (ai (bo _ _ aa rfl rfl _ rfl ab (by (simp only [aN,bh,bk,bv,bu,bH,bw];omega)) ag) ?_))))))
  refine ai (cd _ aa rfl (by exact cP _ _ ab) rfl) ?_
  refine eY rfl (ai (aH aa al (h j ab) rfl rfl) ?_)
  refine kE rfl (eg (an (aX rfl (ai (aZ _ _ rfl rfl (bE ab)) ?_))))
  refine be rfl (aJ (⟨j+1,?_,?_,?_⟩))
  ·omega
  ·skip
   refine Le.mkJ [] [] rfl ?_ ?_ trivial trivial ?_
   ·exact ⟨(iP rfl),(cm ag),(iY ag ag),trivial⟩
   ·exact ⟨(ci rfl rfl rfl),trivial⟩
   kernel_rfl
  omega
 obtain rfl:j=L.length:=by omega
 refine bA (id (hK4 _ ?_))
 clear hK4;try clear K4
 exact am (eY rfl (kE rfl (aj (aG (qe rfl rfl)))))
def fT (fs:List (List Tx→List Tx)) (l:List Tx):List Tx:=fs.foldl (fun l f=> f l) l
theorem kR {fs:List (List Tx→List Tx)} {l:List Tx} {j:Nat} (h:j < fs.length):fT (fs.take (j+1)) l=fs.getD j id (fT (fs.take j) l):=by
 rw [List.take_succ_eq_append_getElem h]
 unfold fT
 rw [List.foldl_append,List.getD_eq_getElem?_getD,List.getElem?_eq_getElem h];rfl
abbrev yC (nm:List Tx) (d:Nd) (f:List Tx→List Tx):Prop:= ∀ l,GN nm l→Spec Tryz.prog 167 (ba [py d, .sl l.length (fm l)] []) (aO (.sl (f l).length (fm (f l))) [])∧GN nm (f l)
section
variable {nm:List Tx} (hnm:nm.length≤16) {L:List Nd} {fs:List (List Tx→List Tx)} (hfs:fs.length=L.length) (h: ∀ j,j < L.length→yC nm (lj L j) (fs.getD j id))
theorem qH (hfs:fs.length=L.length) (h: ∀ j,j < L.length→yC nm (lj L j) (fs.getD j id)) {l:List Tx} (hl:GN nm l): ∀ j,j≤L.length→GN nm (fT (fs.take j) l)
 | 0,_=> by simpa [fT] using hl
 | j+1,hj=> by
  rw [kR ab]
  exact (h j ab _ (qH hfs h hl j ab)).2
theorem cG (hnm:nm.length≤16) (hfs:fs.length=L.length) (h: ∀ j,j < L.length→yC nm (lj L j) (fs.getD j id)) (k:Nat) (hk:k≠1∧k≠14) (n:Nat) (s:Tx):yC nm (nd k n s L) (fT fs):=fun l hl=> by
 have hg:=qH hfs h hl
 have he:fT (fs.take L.length) l=fT fs l:=by rw [← hfs,List.take_length]
 have hw:=vp k hk n s L l (by have:=hl.len;omega) (fun j=> fT (fs.take j) l) rfl fun j hj=> by
  rw [show fT (fs.take (j+1)) l=_ from kR ab]
  exact (h j hj _ (hg j ab)).1
 rw [he] at hw
 exact ⟨hw,he ▸ hg _ (Nat.le_refl _)⟩
theorem zo (hnm:nm.length≤16) (hfs:fs.length=L.length) (h: ∀ j,j < L.length→yC nm (lj L j) (fs.getD j id)) (n:Nat) {i:Nat} (hi:i < nm.length):yC nm (nd 1 n (nm.getD i []) L) (fun l=> fT fs (iJ (nm.getD i []) l)):=fun l hl=> by
 have hg:=qH hfs h (hl.add hi)
 have he:fT (fs.take L.length) (iJ (nm.getD i []) l)=fT fs (iJ (nm.getD i []) l):=by rw [← hfs,List.take_length]
 have hkid: ∀ j,j < L.length→_:=fun j hj=> (h j hj _ (hg j ab)).1
 have hll:=hl.len
 show Spec _ _ _ (aO (.sl (fT fs (iJ (nm.getD i []) l)).length (fm (fT fs (iJ (nm.getD i []) l)))) [])∧GN nm (fT fs (iJ (nm.getD i []) l))
 rw [← he]
 refine ⟨?_,hg _ (Nat.le_refl _)⟩
 by_cases hs:nm.getD i []∈l
 ·exact ul n _ L l hs ab (fun j=> fT (fs.take j) (iJ (nm.getD i []) l)) (by show iJ _ l=l;unfold iJ;rw [if_pos hs]) fun j hj=> by
   rw [show fT (fs.take (j+1)) (iJ (nm.getD i []) l)=_ from kR ab]
   exact hkid j hj
 exact uU n _ L l hs ab (fun j=> fT (fs.take j) (iJ (nm.getD i []) l)) (by show iJ _ l=_;unfold iJ;rw [if_neg hs]) fun j hj=> by
  rw [show fT (fs.take (j+1)) (iJ (nm.getD i []) l)=_ from kR ab]
  exact hkid j hj
end
theorem xP {nm:List Tx} (hnm:nm.length≤16) {i:Nat} (hi:i < nm.length):yC nm (nd 14 0 (nm.getD i []) []) (iJ (nm.getD i [])):=fun l hl=> by
 have hll:=hl.len
 refine ⟨?_,hl.add hi⟩
 by_cases hs:nm.getD i []∈l
 ·exact tb 0 _ [] l hs ab (fun _=> iJ (nm.getD i []) l) (by show iJ _ l=l;unfold iJ;rw [if_pos hs]) fun j hj=> by simp at hj
 exact sX 0 _ [] l hs ab (fun _=> iJ (nm.getD i []) l) (by show iJ _ l=_;unfold iJ;rw [if_neg hs]) fun j hj=> by simp at hj
section
variable {nm:List Tx}
abbrev Cw (nm:List Tx) (L:List Nd) (fs:List (List Tx→List Tx)):Prop:= ∀ j,j < L.length→yC nm (lj L j) (fs.getD j id)
theorem rY:Cw nm [] []:=fun j hj=> by simp at hj
theorem qY {d:Nd} {f:List Tx→List Tx} {L:List Nd} {fs:List (List Tx→List Tx)} (h:yC nm d f) (h':Cw nm L fs):Cw nm (d::L) (f::fs):=fun j hj=> by
 cases j with
 | zero=> exact h
 | succ j=> exact h' j (by simpa using hj)
theorem dE (hnm:nm.length≤16): ∀ e:Ex,hY nm.length e→yC nm (eL nm e) (tA nm e)
 | .int _,_=> cG hnm rfl rY 12 ab _ _
 | .bool _,_=> cG hnm rfl rY 13 ab _ _
 | .name _,_=> cG hnm rfl rY 15 ab _ _
 | .var i,h=> xP hnm h
 | .draw e,h=> cG hnm rfl (qY (dE hnm e h) rY) 16 ab _ _
 | .neg e,h=> cG hnm rfl (qY (dE hnm e h) rY) 17 ab _ _
 | .not e,h=> cG hnm rfl (qY (dE hnm e h) rY) 17 ab _ _
 | .bin _ a b,h=> cG hnm rfl (qY (dE hnm a h.1) (qY (dE hnm b h.2) rY)) 18 ab _ _
 | .and a b,h=> cG hnm rfl (qY (dE hnm a h.1) (qY (dE hnm b h.2) rY)) 18 ab _ _
 | .or a b,h=> cG hnm rfl (qY (dE hnm a h.1) (qY (dE hnm b h.2) rY)) 18 ab _ _
def GE (nm:List Tx):Bk→List (List Tx→List Tx)
 | .nil=> []
 | .cons s b=> ME nm s::GE nm b
theorem xj (nm:List Tx): ∀ b:Bk,(GE nm b).length=(jf nm b).length
 | .nil=> by simp [GE,jf]
 | .cons s b=> by simp [GE,jf,xj nm b]
theorem uh (nm:List Tx): ∀ (b:Bk) (l:List Tx),fT (GE nm b) l=DE nm b l
 | .nil,l=> rfl
 | .cons s b,l=> by rw [DE,← uh nm b];rfl
theorem me (hnm:nm.length≤16) {b:Bk} (h:Cw nm (jf nm b) (GE nm b)):yC nm (jb nm b) (DE nm b):=by
 have:=cG hnm (xj nm b) h 11 ab 0 []
 rwa [show fT (GE nm b)=DE nm b from funext (uh nm b)] at this
mutual
theorem CB (hnm:nm.length≤16): ∀ s:Sm,gI nm.length s→yC nm (FR nm s) (ME nm s)
 | .assign i e,h=> by rw [gI] at h;exact zo hnm rfl (qY (dE hnm e h.2) rY) 0 h.1
 | .send t k a b,h=> by rw [gI] at h;exact cG hnm rfl (qY (dE hnm t h.2.1) (qY (dE hnm a h.2.2.1) (qY (dE hnm b h.2.2.2) rY))) 4 ab _ _
 | .timer _,_=> cG hnm rfl rY 5 ab _ _
 | .cancel _,_=> cG hnm rfl rY 6 ab _ _
 | .sync,_=> cG hnm rfl rY 7 ab _ _
 | .stop,_=> cG hnm rfl rY 10 ab _ _
 | .reply a b,h=> by rw [gI] at h;exact cG hnm rfl (qY (dE hnm a h.1) (qY (dE hnm b h.2) rY)) 8 ab _ _
 | .fail e,h=> by rw [gI] at h;exact cG hnm rfl (qY (dE hnm e h) rY) 9 ab _ _
 | .loop c b,h=> by rw [gI] at h;exact cG hnm rfl (qY (dE hnm c h.1) (qY (me hnm (lH hnm b h.2)) rY)) 3 ab _ _
 | .ite c a b,h=> by rw [gI] at h;exact cG hnm rfl (qY (dE hnm c h.1) (qY (me hnm (lH hnm a h.2.1)) (qY (me hnm (lH hnm b h.2.2)) rY))) 2 ab _ _
theorem lH (hnm:nm.length≤16): ∀ b:Bk,lm nm.length b→Cw nm (jf nm b) (GE nm b)
 | .nil,_=> rY
 | .cons s b,h=> by rw [lm] at h;exact qY (CB hnm s h.1) (lH hnm b h.2)
end
theorem Dq (hnm:nm.length≤16) (b:Bk) (h:lm nm.length b):yC nm (jb nm b) (DE nm b):=me hnm (lH hnm b h)
end

theorem mR {l:List Tx} (h:l.Nodup) {i j:Nat} (hi:i < l.length) (hj:j < l.length) (e:l.getD i []=l.getD j []):i=j:=by
 rw [List.getD_eq_getElem?_getD,List.getD_eq_getElem?_getD,List.getElem?_eq_getElem hi,List.getElem?_eq_getElem hj] at e
 have h:=List.pairwise_iff_getElem.1 h
 rcases Nat.lt_trichotomy i j with hlt | rfl | hlt
 ·exact absurd (Option.some.inj (by simpa using e)) (h i j hi hj hlt)
 ·rfl
 exact absurd (Option.some.inj (by simpa using e)).symm (h j i hj hi hlt)
theorem rz {a b:List Tx} {k:Nat} (h:k < a.length):a.getD k []=(a++b).getD k []:=by
 rw [List.getD_eq_getElem?_getD,List.getD_eq_getElem?_getD,List.getElem?_append_left h]
theorem getD_right {a b:List Tx} {k:Nat}:b.getD k []=(a++b).getD (a.length+k) []:=by
 rw [List.getD_eq_getElem?_getD,List.getD_eq_getElem?_getD,List.getElem?_append_right ab,Nat.add_sub_cancel_left]
theorem mH (d v:List Tx) (on:List PV) (no:Nat) (hn:(d++v).Nodup) (hl:(d++v).length≤1000) (i:Nat) (hi:i < (d++v).length):
  Spec Tryz.prog 121 (ba [.agg [.sl d.length (fm d), .sl v.length (fm v), .sl no on], .v (bt ((d++v).getD i []))] []) (aO (.v (.int .i64 (i:Int))) []):=by
 have hl2:(d++v).length=d.length+v.length:=List.length_append
 refine Spec.ofN Tryz.func121 rfl Tryz.ntmps121 rfl ?_
 refine am (ai (aQ (2,0) _ rfl rfl) (be rfl (aj (aU fun K2 hK2=> ?_))))
 refine am (be rfl (aj (ay ?_)))
 refine bq (α:=Nat) (fun k=> k≤d.length∧k≤i) 41 [(1,_),(2,_)] [((2,0),_)] (fun k=> [(5, .v (.int .i64 (k:Int)))]) (fun k=> []) [] [] (fun k=> d.length - k) 0 ?_ (by
  refine Le.mkJ [] [] rfl ?_ ?_ trivial trivial ?_
  ·exact ⟨(iV rfl),(iP rfl),(cm ag),trivial⟩
  ·exact ⟨(ci rfl rfl rfl),trivial⟩
  kernel_rfl) ?_
 ·exact ⟨Nat.zero_le _,Nat.zero_le _⟩
 intro k hk
 obtain ⟨hk,hki⟩:=hk
 refine aU fun K4 hK4=> ?_
 refine am (aX rfl (bb rfl rfl rfl (eZ rfl rfl rfl (ai (bn _ aa rfl) (ai (bl _ _ rfl rfl rfl) (aj (aR rfl (fun hc11=> ?_) (fun hc11=> ?_))))))))
 ·skip
  refine bs (hK4 _ ?_)
  clear hK4;try clear K4
  refine aq (ay (am (bb rfl rfl rfl (eZ rfl rfl rfl (aX rfl (ai (bo _ _ aa rfl rfl _ rfl ab (by (simp only [aN,bh,bk,bv,bu,bH,bw,List.length_map];omega)) (by exact Nat.mul_one _)) ?_))))))
  refine ai (bU _ aa rfl (by exact jK _ _ ab) rfl) ?_
  refine ej rfl (ai (aV _ _ Tryz.underlying9 rfl rfl rfl) (aj (aR rfl (fun hc20=> ?_) (fun hc20=> ?_))))
  ·skip
   have he:k=i:=mR hn ab hi ((rz ab).symm.trans hc20)
   refine am (aX rfl (be rfl (aj (aG (rU rfl rfl ?_)))))
   rw [he]
  have he:k≠i:=fun e=> hc20 ((rz ab).trans (by rw [e]))
  refine cq (an (aX rfl (ai (aZ _ _ rfl rfl (bE ab)) ?_)))
  refine be rfl (aJ (⟨k+1,?_,?_,?_⟩))
  ·exact ⟨by omega,by omega⟩
  ·skip
   refine Le.mkJ [] [] rfl ?_ ?_ trivial trivial ?_
   ·exact ⟨(iV rfl),(iP rfl),(cm ag),trivial⟩
   ·exact ⟨(ci rfl rfl rfl),trivial⟩
   kernel_rfl
  omega
 refine bA (id (hK2 _ ?_))
 clear hK2;try clear K2
 refine aq (am (be rfl (aj (ay ?_))))
 refine bq (α:=Nat) (fun q=> q≤v.length∧d.length+q≤i) 41 [(1,_),(2,_)] [((2,0),_)] (fun q=> [(6, .v (.int .i64 (q:Int)))]) (fun q=> []) [] [] (fun q=> v.length - q) 0 ?_ (by
  refine Le.mkJ [] [] rfl ?_ ?_ trivial trivial ?_
  ·exact ⟨(iV rfl),(iP rfl),(cm ag),trivial⟩
  ·exact ⟨(ci rfl rfl rfl),trivial⟩
  kernel_rfl) ?_
 ·exact ⟨Nat.zero_le _,by omega⟩
 intro q hq
 obtain ⟨hq,hqi⟩:=hq
 refine aU fun K11 hK11=> ?_
 refine am (aX rfl (bb rfl rfl rfl (eZ rfl rfl rfl (ai (bn _ aa rfl) (ai (bl _ _ rfl rfl rfl) (aj (aR rfl (fun hc26=> ?_) (fun hc26=> ?_))))))))
 ·skip
  refine bs (hK11 _ ?_)
  clear hK11;try clear K11
  refine aq (ay (am (bb rfl rfl rfl (eZ rfl rfl rfl (aX rfl (ai (bo _ _ aa rfl rfl _ rfl ab (by (simp only [aN,bh,bk,bv,bu,bH,bw,List.length_map];omega)) (by exact Nat.mul_one _)) ?_))))))
  refine ai (bU _ aa rfl (by exact jK _ _ ab) rfl) ?_
  refine ej rfl (ai (aV _ _ Tryz.underlying9 rfl rfl rfl) (aj (aR rfl (fun hc35=> ?_) (fun hc35=> ?_))))
  ·skip
   have he:d.length+q=i:=mR hn ab hi (getD_right.symm.trans hc35)
   refine am (bb rfl rfl rfl (eZ rfl rfl rfl (ai (bn _ aa rfl) (aX rfl (ai (aZ _ _ rfl rfl (bE ab)) ?_)))))
   refine be rfl (aj (aG (rU rfl rfl ?_)))
   omega
  have he:d.length+q≠i:=fun e=> hc35 (getD_right.trans (by rw [e]))
  refine cq (an (aX rfl (ai (aZ _ _ rfl rfl (bE ab)) ?_)))
  refine be rfl (aJ (⟨q+1,?_,?_,?_⟩))
  ·exact ⟨by omega,by omega⟩
  ·skip
   refine Le.mkJ [] [] rfl ?_ ?_ trivial trivial ?_
   ·exact ⟨(iV rfl),(iP rfl),(cm ag),trivial⟩
   ·exact ⟨(ci rfl rfl rfl),trivial⟩
   kernel_rfl
  omega
 exact absurd hqi ab
theorem Dz (ons:List (Nat×Bk)) (nm:List Tx) (k:Nat) (h:k < ons.length):oM (ons.map fun p=> (p.1,jb nm p.2)) k=((ons[k]).1,jb nm (ons[k]).2):=by
 rw [oy _ _ (by simpa using h),List.getElem_map]
theorem uB (l:List Hd) (k:Nat) (h:k < l.length):PV.ups (((mq l).drop (k*5+1)).take 4)=[.v (.int .i64 ((oM l k).2.k:Int)), .v (.int .i64 ((oM l k).2.n:Int)), .v (bt (oM l k).2.s), .sl (oM l k).2.kn (oM l k).2.kids]:=by
 have e:=lf wO 5 (fun _=> rfl) l k h
 have:((mq l).drop (k*5+1)).take 4=(((l.flatMap wO).drop (k*5)).take 5).drop 1:=by
  rw [List.drop_take,List.drop_drop];rfl
 rw [this,e,oy l k h];rfl
theorem qR (d v:List Tx) (ons:List (Nat×Bk)) (hn:(d++v).Nodup) (hl:(d++v).length≤16) (ho: ∀ p∈ons,lm (d++v).length p.2) (hw: ∀ p∈ons,pY p.2=true) (hc:ons.length≤1000):
  Spec Tryz.prog 97 (ba [Ki d v (ons.map fun p=> (p.1,jb (d++v) p.2))] []) (aO (.v (.int .i64 0)) []):=by
 obtain ⟨H,hH⟩: ∃ H,H=ons.map fun p=> (p.1,jb (d++v) p.2):=⟨_,rfl⟩
 have hHl:H.length=ons.length:=by rw [hH,List.length_map]
 rw [← hH]
 have hHk: ∀ k (h:k < ons.length),oM H k=((ons[k]).1,jb (d++v) (ons[k]).2):=fun k h=> by rw [hH];exact Dz ons _ k h
 clear hH
 refine Spec.ofN Tryz.func97 rfl Tryz.ntmps97 rfl ?_
 refine am (ai (aQ (1,0) _ rfl rfl) (be rfl (aj (aU fun K2 hK2=> ?_))))
 refine am (be rfl (aj (ay ?_)))
 refine bq (α:=Nat) (fun k=> k≤H.length) 43 [(1,_)] [((1,0),_)] (fun k=> [(3, .v (.int .i64 (k:Int)))]) (fun k=> []) [] [] (fun k=> H.length - k) 0 ?_ (by
  refine Le.mkJ [] [] rfl ?_ ?_ trivial trivial ?_
  ·exact ⟨(iP rfl),(cm ag),trivial⟩
  ·exact ⟨(ci rfl rfl rfl),trivial⟩
  kernel_rfl) ?_
 ·omega
 intro k hk
 refine aU fun K4 hK4=> ?_
 refine am (aX rfl (bb rfl rfl rfl (eZ rfl rfl rfl (ai (bn _ aa rfl) (ai (bl _ _ rfl rfl rfl) (aj (aR rfl (fun hc11=> ?_) (fun hc11=> ?_))))))))
 ·skip
  have hk2:k < ons.length:=by omega
  obtain ⟨b,hb⟩: ∃ b,b=(ons[k]).2:=⟨_,rfl⟩
  have hkH:=hHk k hk2
  rw [← hb] at hkH
  have hwb:=Fc (d++v) b (hb ▸ hw _ (List.getElem_mem hk2))
  obtain ⟨hnb,hng⟩:=Dq hl b (hb ▸ ho _ (List.getElem_mem hk2)) [] GN.nil
  have hbody:=uB H k ab
  rw [hkH] at hbody
  generalize DE (d++v) b []=M at hnb hng
  have hMl:=hng.len
  refine bs (hK4 _ ?_)
  clear hK4;try clear K4
  refine aU fun K6 hK6=> ?_
  refine ay (am (bb rfl rfl rfl (eZ rfl rfl rfl (aX rfl (ai (bo _ _ aa rfl rfl _ rfl ab (by (simp only [aN,bh,bk,bv,bu,bH,bw,List.length_map];omega)) ag) ?_)))))
  refine ai (du _ aa rfl rfl) (ai (cd _ aa rfl (by exact hbody) rfl) ?_)
  refine ai (aH aa al (hwb) rfl rfl) ?_
  refine cr rfl (aj (aq (am (cL rfl (ai (cu (r:=false) _ rfl rfl) (aj (aW rfl rfl (aS (aq ?_)))))))))
  refine aM (σ':=aD 43 [(1,_),(3,_)] [((1,0),_)] [] []) kp ?_
  refine an (bb rfl rfl rfl (eZ rfl rfl rfl (aX rfl (ai (bo _ _ aa rfl rfl _ rfl ab (by (simp only [aN,bh,bk,bv,bu,bH,bw,List.length_map];omega)) ag) ?_))))
  refine ai (du _ aa rfl rfl) (ai (cd _ aa rfl (by exact hbody) rfl) ?_)
  refine ai (aH aa al (hnb) rfl rfl) ?_
  refine kE rfl (aj (am (be rfl (aj (ay ?_)))))
  refine bq (α:=Nat) (fun q=> q≤M.length) 43 [(1,_),(3,_),(5,_)] [((1,0),_)] (fun q=> [(6, .v (.int .i64 (q:Int)))]) (fun q=> []) [] [] (fun q=> M.length - q) 0 ?_ (by
   refine Le.mkJ [] [] rfl ?_ ?_ trivial trivial ?_
   ·exact ⟨(iP rfl),(iV rfl),(iS rfl),(cm ag),trivial⟩
   ·exact ⟨(ci rfl rfl rfl),trivial⟩
   kernel_rfl) ?_
  ·omega
  intro q hq
  refine aU fun K12 hK12=> ?_
  refine am (aX rfl (eY rfl (ai (bn _ aa rfl) (ai (bl _ _ rfl rfl rfl) (aj (aR rfl (fun hc33=> ?_) (fun hc33=> ?_)))))))
  ·skip
   obtain ⟨i,hi,hiq⟩: ∃ i,i < (d++v).length∧M.getD q []=(d++v).getD i []:=by
    have hm:=hng.2 _ (kf (show q < M.length by omega))
    obtain ⟨i,hi,he⟩:=List.getElem_of_mem hm
    exact ⟨i,hi,by rw [List.getD_eq_getElem?_getD (l:=d++v),List.getElem?_eq_getElem hi,← he];rfl⟩
   have hix:=mH d v (mq H) H.length hn ab i hi
   rw [← hiq] at hix
   refine bs (hK12 _ ?_)
   clear hK12;try clear K12
   refine aq (ay (aq ?_))
   refine aM (σ':=aD 43 [(1,_),(3,_),(5,_),(6,_)] [((1,0),_)] [] []) kp ?_
   refine bJ 7 [36,37,38,39,40,41,42] [] ae ae rfl (aK rfl) (rfl:_=[_,_,_,_,_,_,_]) (rfl:_=[]) ?_
   refine ap (_,[]) (fun τ=> az _ aa rfl rfl rfl rfl) ?_
   refine fP rfl ?_
   refine ap (_,[]) (fun τ=> aI _ nh) ?_
   refine fO rfl ?_
   refine ap (_,[]) (fun τ=> aI _ em) ?_
   refine fN rfl ?_
   refine ap (_,[]) (fun τ=> bo _ _ aa rfl rfl _ rfl ab (by (simp only [aN,bh,bk,bv,bu,bH,bw,List.length_map];omega)) (by exact Nat.mul_one _)) ?_
   refine fS rfl ?_
   refine ap (_,[]) (fun τ=> bU _ aa rfl (by exact jK _ _ ab) rfl) ?_
   refine gk rfl ?_
   refine ap (_,[]) (fun τ=> (aH aa al (hix) rfl rfl)) ?_
   refine gU rfl ?_
   refine ap (_,[]) (fun τ=> bl (r:=false) _ _ rfl rfl (decide_eq_false ab)) ?_
   refine iL rfl (bm ⟨rfl,?_⟩)
   refine aj (aW rfl rfl (cq (an (aX rfl (ai (aZ _ _ rfl rfl (bE ab)) ?_)))))
   refine be rfl (aJ (⟨q+1,?_,?_,?_⟩))
   ·omega
   ·skip
    refine Le.mkJ [] [] rfl ?_ ?_ trivial trivial ?_
    ·exact ⟨(iP rfl),(iV rfl),(iS rfl),(cm ag),trivial⟩
    ·exact ⟨(ci rfl rfl rfl),trivial⟩
    kernel_rfl
   omega
  refine bA (id (hK6 _ ?_))
  clear hK6;try clear K6
  refine an (aX rfl (ai (aZ _ _ rfl rfl (bE ab)) ?_))
  refine be rfl (aJ (⟨k+1,?_,?_,?_⟩))
  ·omega
  ·skip
   refine Le.mkJ [] [] rfl ?_ ?_ trivial trivial ?_
   ·exact ⟨(iP rfl),(cm ag),trivial⟩
   ·exact ⟨(ci rfl rfl rfl),trivial⟩
   kernel_rfl
  omega
 refine bA (id (hK2 _ ?_))
 clear hK2;try clear K2
 exact am (be rfl (aj (aG (fu rfl rfl))))
end Go.Proofs.YtmjnackchaahbaaGreat
