/- Part 11 of the texts that the walk leans on: the machine, the walks, the plain laws. -/
import Derived.Test.YtmjnackchaahbaaGreatNyZ10
set_option linter.unusedSimpArgs false
set_option linter.unusedVariables false
namespace Go.Proofs.YtmjnackchaahbaaGreat
open Go.RowKit

def ld (l:List Nd) (j:Nat):Nd:=l.getD j ⟨0,0,[],0,[]⟩
theorem HR (l:List Nd) (k:Nat) (h:k < l.length):ld l k=l[k]:=by simp [ld,h]
theorem cN (l:List Nd) (k:Nat) (h:k < l.length):PV.ups (((mN l).drop (k*4)).take 4)=[.v (.int .i64 ((ld l k).k:Int)), .v (.int .i64 ((ld l k).n:Int)), .v (bt (ld l k).s), .sl (ld l k).kn (ld l k).kids]:=by
 rw [HR l k h,show ((mN l).drop (k*4)).take 4=l[k].row from ms Nd.row 4 (fun _=> rfl) l k h];rfl
theorem gE (l:List Tx) (n:Nat) (hn:l.length=n) (h1:n≤1000) (t:Tx):Spec Tryz.prog 204 (ba [.sl n (fl l), .v (bt t)] []) (aO (.v (.bool (decide (t∈l)))) []):=by
 refine Spec.ofN Tryz.func204 rfl Tryz.ntmps204 rfl ?_
 refine am (cp rfl (aj (aU fun K2 hK2=> ?_)))
 refine am (be rfl (aj (ax ?_)))
 refine bq (α:=Nat) (fun k=> k≤n∧t∉l.take k) 18 [(0,_),(1,_)] [] (fun k=> [(5, .v (.int .i64 (k:Int)))]) (fun k=> []) [] [] (fun k=> n - k) 0 ?_ (by
  refine Le.mkJ [] [] rfl ?_ ?_ trivial trivial ?_
  ·exact ⟨(iS rfl),(iV rfl),(co ag),trivial⟩
  ·exact trivial
  kernel_rfl) ?_
 ·exact ⟨Nat.zero_le _,by simp⟩
 intro k hk
 obtain ⟨hk,hnt⟩:=hk
 refine aU fun K4 hK4=> ?_
 refine am (aX rfl (eW rfl (ai (bn _ aa rfl) (ai (bm _ _ rfl rfl rfl) (aj (aP rfl (fun hc9=> ?_) (fun hc9=> ?_)))))))
 ·skip
  refine bs (hK4 _ ?_)
  clear hK4;try clear K4
  refine aq (ax (am (eW rfl (aX rfl (ai (bo _ _ aa rfl rfl _ rfl ab (by (simp only [aN,bg,bj,bv,bu,bH,bz];omega)) (by exact Nat.mul_one _)) ?_)))))
  refine ai (bO _ aa rfl (by exact jQ _ _ ab) rfl) ?_
  refine eh rfl (ai (aV _ _ Tryz.underlying9 rfl rfl rfl) (aj (aP rfl (fun hc17=> ?_) (fun hc17=> ?_))))
  ·skip
   refine am (cp rfl (aj (aG (rZ rfl rfl ?_))))
   exact decide_eq_true (hc17 ▸ kb ab)
  refine cr (an (aX rfl (ai (aZ _ _ rfl rfl (bE ab)) ?_)))
  refine be rfl (aJ (⟨k+1,?_,?_,?_⟩))
  ·exact ⟨by omega,kK hnt ab hc17⟩
  ·skip
   refine Le.mkJ [] [] rfl ?_ ?_ trivial trivial ?_
   ·exact ⟨(iS rfl),(iV rfl),(co ag),trivial⟩
   ·exact trivial
   kernel_rfl
  omega
 have hall:t∉l:=by rwa [List.take_of_length_le ab] at hnt
 refine bD (id (hK2 _ ?_))
 clear hK2;try clear K2
 refine am (cp rfl (aj (aG (rZ rfl rfl ?_))))
 exact decide_eq_false hall
def yt:List Tx:=[[60],[60,61],[62],[62,61],[61,61],[33,61]]
theorem mP (t:Tx):Spec Tryz.prog 227 (ba [.v (bt t)] []) (aO (.v (.bool (decide (t∈yt)))) []):=by
 refine Spec.ofN Tryz.func227 rfl Tryz.ntmps227 rfl ?_
 refine am (cp rfl (aj (am (ai (bh _ _ aa rfl ag (by (simp <;> rfl)) ah rfl) ?_))))
 refine eh rfl (ai (aH aa al (gE yt 6 rfl ab t) rfl rfl) ?_)
 refine cp rfl (aj (aG (rZ rfl rfl ?_)))
 rfl
theorem Iu (n:Nat):Spec Tryz.prog 203 (ba [pq (nd 12 n [] [])] []) (aO (.v (.int .i64 1)) []):=by
 refine Spec.ofN Tryz.func203 rfl Tryz.ntmps203 rfl ?_
 refine am (ai (aR (1,0) _ rfl rfl) (be rfl (aj (aq (am (bb rfl rfl rfl (cf rfl rfl rfl (jY rfl rfl rfl (cL rfl (aQ rfl rfl ah ?_))))))))))
 refine aQ rfl rfl ah ?_
 refine aQ rfl rfl ah ?_
 refine ai (aE _ _ _ rfl bR) (cL rfl (aQ rfl rfl ah ?_))
 refine aQ rfl rfl ah ?_
 refine aQ rfl rfl ah ?_
 refine ai (aE _ _ _ rfl bR) (aj (bL rfl rfl (aq ?_)))
 refine aM (σ':=aD 80 [] [] [] []) kp ?_
 exact an (be rfl (aj (aG (ft rfl rfl))))
theorem Is (s:Tx):Spec Tryz.prog 203 (ba [pq (nd 14 0 s [])] []) (aO (.v (.int .i64 1)) []):=by
 refine Spec.ofN Tryz.func203 rfl Tryz.ntmps203 rfl ?_
 refine am (ai (aR (1,0) _ rfl rfl) (be rfl (aj (aq (am (bb rfl rfl rfl (cf rfl rfl rfl (gO rfl rfl rfl (cL rfl (ay rfl rfl (aA _ aa rfl rfl rfl) ?_))))))))))
 refine ay rfl rfl (aF _ aa rfl rfl eg) (ay rfl rfl (bB (r:=true) _ _ rfl rfl rfl) (ai (aE _ _ _ rfl bR) (cL rfl (aQ rfl rfl ah ?_))))
 refine aQ rfl rfl ah ?_
 refine aQ rfl rfl ah ?_
 refine ai (aE _ _ _ rfl bR) (aj (bL rfl rfl (aq ?_)))
 refine aM (σ':=aD 80 [] [] [] []) kp ?_
 exact an (be rfl (aj (aG (ft rfl rfl))))
theorem Ed (s:Tx):Spec Tryz.prog 203 (ba [pq (nd 15 0 s [])] []) (aO (.v (.int .i64 1)) []):=by
 refine Spec.ofN Tryz.func203 rfl Tryz.ntmps203 rfl ?_
 refine am (ai (aR (1,0) _ rfl rfl) (be rfl (aj (aq (am (bb rfl rfl rfl (cf rfl rfl rfl (gO rfl rfl rfl (cL rfl (ay rfl rfl (aA _ aa rfl rfl rfl) ?_))))))))))
 refine ay rfl rfl (aF _ aa rfl rfl eg) (ay rfl rfl (bB (r:=false) _ _ rfl rfl rfl) (ai (aE _ _ _ rfl bR) (cL rfl (ay rfl rfl (aA _ aa rfl rfl rfl) (ay rfl rfl (aF _ aa rfl rfl eg) (ay rfl rfl (bB (r:=true) _ _ rfl rfl rfl) (ai (aE _ _ _ rfl bR) (aj (bL rfl rfl (aq ?_))))))))))
 refine aM (σ':=aD 80 [] [] [] []) kp ?_
 exact an (be rfl (aj (aG (ft rfl rfl))))
theorem Fy (n:Nat):Spec Tryz.prog 203 (ba [pq (nd 13 n [] [])] []) (aO (.v (.int .i64 2)) []):=by
 refine Spec.ofN Tryz.func203 rfl Tryz.ntmps203 rfl ?_
 refine am (ai (aR (1,0) _ rfl rfl) (be rfl (aj (aq (am (bb rfl rfl rfl (cf rfl rfl rfl (gO rfl rfl rfl (cL rfl (ay rfl rfl (aA _ aa rfl rfl rfl) ?_))))))))))
 refine ay rfl rfl (aF _ aa rfl rfl eg) (ay rfl rfl (bB (r:=false) _ _ rfl rfl rfl) (ai (aE _ _ _ rfl bR) (cL rfl (ay rfl rfl (aA _ aa rfl rfl rfl) (ay rfl rfl (aF _ aa rfl rfl eg) (ay rfl rfl (bB (r:=false) _ _ rfl rfl rfl) (ai (aE _ _ _ rfl bR) (aj (aW rfl rfl (aS ?_))))))))))
 refine aq (aq ?_)
 refine aM (σ':=aD 80 [(1,_)] [((1,0),_)] [] []) kp ?_
 exact an (bb rfl rfl rfl (cf rfl rfl rfl (jY rfl rfl rfl (aj (bL rfl rfl (am (be rfl (aj (aG (ft rfl rfl))))))))))
theorem FR (L:List Nd) (hL:L.length≤3) (t:Nat→Nat) (ht: ∀ j,t j≤2) (h: ∀ j,j < L.length→Spec Tryz.prog 203 (ba [pq (ld L j)] []) (aO (.v (.int .i64 (t j:Int))) [])) (r:Nat) (hr1:(∀ j,j < L.length→t j=1)→r=1) (hr0: ∀ j,j < L.length→t j≠1→r=0):
  Spec Tryz.prog 203 (ba [.agg [.v (.int .i64 16), .v (.int .i64 0), .v (bt []), .sl L.length (mN L)]] []) (aO (.v (.int .i64 (r:Int))) []):=by
 refine Spec.ofN Tryz.func203 rfl Tryz.ntmps203 rfl ?_
 refine am (ai (aR (1,0) _ rfl rfl) (be rfl (aj (aq (am (bb rfl rfl rfl (cf rfl rfl rfl (gO rfl rfl rfl (cL rfl (ay rfl rfl (aA _ aa rfl rfl rfl) ?_))))))))))
 refine ay rfl rfl (aF _ aa rfl rfl eg) (ay rfl rfl (bB (r:=false) _ _ rfl rfl rfl) (ai (aE _ _ _ rfl bR) (cL rfl (ay rfl rfl (aA _ aa rfl rfl rfl) (ay rfl rfl (aF _ aa rfl rfl eg) (ay rfl rfl (bB (r:=false) _ _ rfl rfl rfl) (ai (aE _ _ _ rfl bR) (aj (aW rfl rfl (aS ?_))))))))))
 refine aq (aq ?_)
 refine aM (σ':=aD 80 [(1,_)] [((1,0),_)] [] []) kp ?_
 refine an (bb rfl rfl rfl (cf rfl rfl rfl (gO rfl rfl rfl (aj (aW rfl rfl (aS (aq (am (bb rfl rfl rfl (cf rfl rfl rfl ?_))))))))))
 refine ai (bY (r:=false) _ _ rfl rfl rfl) (cL rfl (aQ rfl rfl ah ?_))
 refine aQ rfl rfl ah ?_
 refine aQ rfl rfl ah ?_
 refine ai (aE _ _ _ rfl bR) (cL rfl (aQ rfl rfl ah ?_))
 refine aQ rfl rfl ah ?_
 refine aQ rfl rfl ah ?_
 refine ai (aE _ _ _ rfl bR) (aj (aW rfl rfl (aS (aq ?_))))
 refine aM (σ':=aD 80 [(1,_)] [((1,0),_)] [] []) kp ?_
 refine an (be rfl (aj (am (be rfl (aj (aq (am (bb rfl rfl rfl (cf rfl rfl rfl (gO rfl rfl rfl ?_))))))))))
 refine cL rfl (aQ rfl rfl ah ?_)
 refine aQ rfl rfl ah ?_
 refine aQ rfl rfl ah ?_
 refine ai (aE _ _ _ rfl bR) (cL rfl (ay rfl rfl (aA _ aa rfl rfl rfl) (ay rfl rfl (aF _ aa rfl rfl eg) (ay rfl rfl (bB (r:=false) _ _ rfl rfl rfl) (ay rfl rfl (aI _ bR) (aQ rfl rfl ah ?_))))))
 refine aQ rfl rfl ah ?_
 refine aQ rfl rfl ah ?_
 refine aQ rfl rfl ah ?_
 refine ay rfl rfl (aE _ _ _ rfl bR) (ai (aE _ _ _ rfl bR) (aj (aW rfl rfl (aS (aq (aq ?_))))))
 refine aM (σ':=aD 80 [(1,_),(3,_),(4,_)] [((1,0),_)] [] []) kp ?_
 refine an (bb rfl rfl rfl (cf rfl rfl rfl (gO rfl rfl rfl (cL rfl (aQ rfl rfl ah ?_)))))
 refine aQ rfl rfl ah ?_
 refine aQ rfl rfl ah ?_
 refine ai (aE _ _ _ rfl bR) (aj (aW rfl rfl (aS (aU fun K14 hK14=> ?_))))
 refine am (be rfl (aj (ax ?_)))
 refine bq (α:=Nat) (fun j=> j≤L.length∧ ∀ q,q < j→t q=1) 80 [(1,_),(3,_),(4,_)] [((1,0),_)] (fun j=> [(5, .v (.int .i64 (j:Int)))]) (fun j=> []) [] [] (fun j=> L.length - j) 0 ?_ (by
  refine Le.mkJ [] [] rfl ?_ ?_ trivial trivial ?_
  ·exact ⟨(iP rfl),(iV rfl),(iV rfl),(co ag),trivial⟩
  ·exact ⟨(ca rfl rfl rfl),trivial⟩
  kernel_rfl) ?_
 ·exact ⟨Nat.zero_le _,fun q hq=> by omega⟩
 intro j hj
 obtain ⟨hj,hall⟩:=hj
 have htj:=ht j
 refine aU fun K16 hK16=> ?_
 refine am (aX rfl (bb rfl rfl rfl (eV rfl rfl rfl (ai (bn _ aa rfl) (ai (bm _ _ rfl rfl rfl) (aj (aP rfl (fun hc67=> ?_) (fun hc67=> ?_))))))))
 ·skip
  refine bs (hK16 _ ?_)
  clear hK16;try clear K16
  refine aq (ax (am (bb rfl rfl rfl (eV rfl rfl rfl (aX rfl (ai (bo _ _ aa rfl rfl _ rfl ab (by (simp only [aN,bg,bj,bv,bu,bH,bz];omega)) ag) ?_))))))
  refine ai (cd _ aa rfl (by exact cN _ _ ab) rfl) ?_
  refine ai (aH aa al (h j ab) rfl rfl) ?_
  refine be rfl (aj (am (aX rfl (aX rfl (ai (bY _ _ rfl rfl rfl) (aj (aP rfl (fun hc78=> ?_) (fun hc78=> ?_))))))))
  ·skip
   have hr:=hr0 j ab ab
   refine aq ?_
   refine aM (σ':=aD 80 [] [] [] []) kp ?_
   refine an (be rfl (aj (aG (rQ rfl rfl ?_))))
   rw [hr];rfl
  have hall1: ∀ q,q < j+1→t q=1:=fun q hq=> by
   by_cases h:q < j
   ·exact hall q h
   obtain rfl:q=j:=by omega
   omega
  refine cr ?_
  refine aM (σ':=aD 80 [(1,_),(3,_),(4,_),(5,_)] [((1,0),_)] [] []) kp ?_
  refine an (aX rfl (ai (aZ _ _ rfl rfl (bE ab)) ?_))
  refine be rfl (aJ (⟨j+1,?_,?_,?_⟩))
  ·exact ⟨by omega,hall1⟩
  ·skip
   refine Le.mkJ [] [] rfl ?_ ?_ trivial trivial ?_
   ·exact ⟨(iP rfl),(iV rfl),(iV rfl),(co ag),trivial⟩
   ·exact ⟨(ca rfl rfl rfl),trivial⟩
   kernel_rfl
  omega
 have hr:=hr1 fun q hq=> hall q ab
 refine bD (id (hK14 _ ?_))
 clear hK14;try clear K14
 refine am (aX rfl (be rfl (aj (aG (rQ rfl rfl ?_)))))
 rw [hr];rfl
theorem Hq (L:List Nd) (hL:L.length≤3) (t:Nat→Nat) (ht: ∀ j,t j≤2) (h: ∀ j,j < L.length→Spec Tryz.prog 203 (ba [pq (ld L j)] []) (aO (.v (.int .i64 (t j:Int))) [])) (r:Nat) (hr1:(∀ j,j < L.length→t j=1)→r=1) (hr0: ∀ j,j < L.length→t j≠1→r=0):
  Spec Tryz.prog 203 (ba [.agg [.v (.int .i64 17), .v (.int .i64 0), .v (bt [45]), .sl L.length (mN L)]] []) (aO (.v (.int .i64 (r:Int))) []):=by
 refine Spec.ofN Tryz.func203 rfl Tryz.ntmps203 rfl ?_
 refine am (ai (aR (1,0) _ rfl rfl) (be rfl (aj (aq (am (bb rfl rfl rfl (cf rfl rfl rfl (gO rfl rfl rfl (cL rfl (ay rfl rfl (aA _ aa rfl rfl rfl) ?_))))))))))
 refine ay rfl rfl (aF _ aa rfl rfl eg) (ay rfl rfl (bB (r:=false) _ _ rfl rfl rfl) (ai (aE _ _ _ rfl bR) (cL rfl (ay rfl rfl (aA _ aa rfl rfl rfl) (ay rfl rfl (aF _ aa rfl rfl eg) (ay rfl rfl (bB (r:=false) _ _ rfl rfl rfl) (ai (aE _ _ _ rfl bR) (aj (aW rfl rfl (aS ?_))))))))))
 refine aq (aq ?_)
 refine aM (σ':=aD 80 [(1,_)] [((1,0),_)] [] []) kp ?_
 refine an (bb rfl rfl rfl (cf rfl rfl rfl (gO rfl rfl rfl (aj (aW rfl rfl (aS (aq (am (bb rfl rfl rfl (cf rfl rfl rfl ?_))))))))))
 refine ai (bY (r:=true) _ _ rfl rfl rfl) (cL rfl (ay rfl rfl (aA _ aa rfl rfl rfl) (ay rfl rfl (aF _ aa rfl rfl eg) (ay rfl rfl (bY (r:=false) _ _ rfl rfl rfl) (ai (aE _ _ _ rfl bR) (cL rfl (aQ rfl rfl ah ?_)))))))
 refine aQ rfl rfl ah ?_
 refine aQ rfl rfl ah ?_
 refine ai (aE _ _ _ rfl bR) (aj (aW rfl rfl (aS (aq ?_))))
 refine aM (σ':=aD 80 [(1,_)] [((1,0),_)] [] []) kp ?_
 refine an (be rfl (aj (am (be rfl (aj (aq (am (bb rfl rfl rfl (cf rfl rfl rfl (jY rfl rfl rfl ?_))))))))))
 refine cL rfl (ay rfl rfl (aA _ aa rfl rfl rfl) (ay rfl rfl (aF _ aa rfl rfl fx) (ay rfl rfl (aV (r:=false) _ _ Tryz.underlying9 rfl rfl rfl) (ai (aE _ _ _ rfl bR) (cL rfl (ay rfl rfl (aA _ aa rfl rfl rfl) (ay rfl rfl (aF _ aa rfl rfl eg) (ay rfl rfl (bB (r:=false) _ _ rfl rfl rfl) (ay rfl rfl (aI _ bR) (aQ rfl rfl ah ?_))))))))))
 refine aQ rfl rfl ah ?_
 refine aQ rfl rfl ah ?_
 refine aQ rfl rfl ah ?_
 refine ay rfl rfl (aE _ _ _ rfl bR) (ai (aE _ _ _ rfl bR) (aj (aW rfl rfl (aS (aq (aq ?_))))))
 refine aM (σ':=aD 80 [(1,_),(3,_),(4,_)] [((1,0),_)] [] []) kp ?_
 refine an (bb rfl rfl rfl (cf rfl rfl rfl (gO rfl rfl rfl (cL rfl (aQ rfl rfl ah ?_)))))
 refine aQ rfl rfl ah ?_
 refine aQ rfl rfl ah ?_
 refine ai (aE _ _ _ rfl bR) (aj (aW rfl rfl (aS (aU fun K14 hK14=> ?_))))
 refine am (be rfl (aj (ax ?_)))
 refine bq (α:=Nat) (fun j=> j≤L.length∧ ∀ q,q < j→t q=1) 80 [(1,_),(3,_),(4,_)] [((1,0),_)] (fun j=> [(5, .v (.int .i64 (j:Int)))]) (fun j=> []) [] [] (fun j=> L.length - j) 0 ?_ (by
  refine Le.mkJ [] [] rfl ?_ ?_ trivial trivial ?_
  ·exact ⟨(iP rfl),(iV rfl),(iV rfl),(co ag),trivial⟩
  ·exact ⟨(ca rfl rfl rfl),trivial⟩
  kernel_rfl) ?_
 ·exact ⟨Nat.zero_le _,fun q hq=> by omega⟩
 intro j hj
 obtain ⟨hj,hall⟩:=hj
 have htj:=ht j
 refine aU fun K16 hK16=> ?_
 refine am (aX rfl (bb rfl rfl rfl (eV rfl rfl rfl (ai (bn _ aa rfl) (ai (bm _ _ rfl rfl rfl) (aj (aP rfl (fun hc67=> ?_) (fun hc67=> ?_))))))))
 ·skip
  refine bs (hK16 _ ?_)
  clear hK16;try clear K16
  refine aq (ax (am (bb rfl rfl rfl (eV rfl rfl rfl (aX rfl (ai (bo _ _ aa rfl rfl _ rfl ab (by (simp only [aN,bg,bj,bv,bu,bH,bz];omega)) ag) ?_))))))
  refine ai (cd _ aa rfl (by exact cN _ _ ab) rfl) ?_
  refine ai (aH aa al (h j ab) rfl rfl) ?_
  refine be rfl (aj (am (aX rfl (aX rfl (ai (bY _ _ rfl rfl rfl) (aj (aP rfl (fun hc78=> ?_) (fun hc78=> ?_))))))))
  ·skip
   have hr:=hr0 j ab ab
   refine aq ?_
   refine aM (σ':=aD 80 [] [] [] []) kp ?_
   refine an (be rfl (aj (aG (rQ rfl rfl ?_))))
   rw [hr];rfl
  have hall1: ∀ q,q < j+1→t q=1:=fun q hq=> by
   by_cases h:q < j
   ·exact hall q h
   obtain rfl:q=j:=by omega
   omega
  refine cr ?_
  refine aM (σ':=aD 80 [(1,_),(3,_),(4,_),(5,_)] [((1,0),_)] [] []) kp ?_
  refine an (aX rfl (ai (aZ _ _ rfl rfl (bE ab)) ?_))
  refine be rfl (aJ (⟨j+1,?_,?_,?_⟩))
  ·exact ⟨by omega,hall1⟩
  ·skip
   refine Le.mkJ [] [] rfl ?_ ?_ trivial trivial ?_
   ·exact ⟨(iP rfl),(iV rfl),(iV rfl),(co ag),trivial⟩
   ·exact ⟨(ca rfl rfl rfl),trivial⟩
   kernel_rfl
  omega
 have hr:=hr1 fun q hq=> hall q ab
 refine bD (id (hK14 _ ?_))
 clear hK14;try clear K14
 refine am (aX rfl (be rfl (aj (aG (rQ rfl rfl ?_)))))
 rw [hr];rfl
theorem Ij (L:List Nd) (hL:L.length≤3) (t:Nat→Nat) (ht: ∀ j,t j≤2) (h: ∀ j,j < L.length→Spec Tryz.prog 203 (ba [pq (ld L j)] []) (aO (.v (.int .i64 (t j:Int))) [])) (r:Nat) (hr1:(∀ j,j < L.length→t j=2)→r=2) (hr0: ∀ j,j < L.length→t j≠2→r=0):
  Spec Tryz.prog 203 (ba [.agg [.v (.int .i64 17), .v (.int .i64 0), .v (bt [33]), .sl L.length (mN L)]] []) (aO (.v (.int .i64 (r:Int))) []):=by
 refine Spec.ofN Tryz.func203 rfl Tryz.ntmps203 rfl ?_
 refine am (ai (aR (1,0) _ rfl rfl) (be rfl (aj (aq (am (bb rfl rfl rfl (cf rfl rfl rfl (gO rfl rfl rfl (cL rfl (ay rfl rfl (aA _ aa rfl rfl rfl) ?_))))))))))
 refine ay rfl rfl (aF _ aa rfl rfl eg) (ay rfl rfl (bB (r:=false) _ _ rfl rfl rfl) (ai (aE _ _ _ rfl bR) (cL rfl (ay rfl rfl (aA _ aa rfl rfl rfl) (ay rfl rfl (aF _ aa rfl rfl eg) (ay rfl rfl (bB (r:=false) _ _ rfl rfl rfl) (ai (aE _ _ _ rfl bR) (aj (aW rfl rfl (aS ?_))))))))))
 refine aq (aq ?_)
 refine aM (σ':=aD 80 [(1,_)] [((1,0),_)] [] []) kp ?_
 refine an (bb rfl rfl rfl (cf rfl rfl rfl (gO rfl rfl rfl (aj (aW rfl rfl (aS (aq (am (bb rfl rfl rfl (cf rfl rfl rfl ?_))))))))))
 refine ai (bY (r:=true) _ _ rfl rfl rfl) (cL rfl (ay rfl rfl (aA _ aa rfl rfl rfl) (ay rfl rfl (aF _ aa rfl rfl eg) (ay rfl rfl (bY (r:=false) _ _ rfl rfl rfl) (ai (aE _ _ _ rfl bR) (cL rfl (aQ rfl rfl ah ?_)))))))
 refine aQ rfl rfl ah ?_
 refine aQ rfl rfl ah ?_
 refine ai (aE _ _ _ rfl bR) (aj (aW rfl rfl (aS (aq ?_))))
 refine aM (σ':=aD 80 [(1,_)] [((1,0),_)] [] []) kp ?_
 refine an (be rfl (aj (am (be rfl (aj (aq (am (bb rfl rfl rfl (cf rfl rfl rfl (jY rfl rfl rfl ?_))))))))))
 refine cL rfl (ay rfl rfl (aA _ aa rfl rfl rfl) (ay rfl rfl (aF _ aa rfl rfl fx) (ay rfl rfl (aV (r:=true) _ _ Tryz.underlying9 rfl rfl rfl) (ai (aE _ _ _ rfl bR) (cL rfl (aQ rfl rfl ah ?_))))))
 refine aQ rfl rfl ah ?_
 refine aQ rfl rfl ah ?_
 refine aQ rfl rfl ah ?_
 refine gP rfl rfl (gP rfl rfl (gP rfl rfl (gP rfl rfl (aQ rfl rfl ah ?_))))
 refine ai (aE _ _ _ rfl bR) (aj (bL rfl rfl (aq ?_)))
 refine aM (σ':=aD 80 [(1,_)] [((1,0),_)] [] []) kp ?_
 refine an (be rfl (aj (an (be rfl (aj (aq (am (bb rfl rfl rfl (cf rfl rfl rfl (gO rfl rfl rfl ?_))))))))))
 refine cL rfl (aQ rfl rfl ah ?_)
 refine aQ rfl rfl ah ?_
 refine aQ rfl rfl ah ?_
 refine ai (aE _ _ _ rfl bR) (aj (aW rfl rfl (aS (aU fun K15 hK15=> ?_))))
 refine am (be rfl (aj (ax ?_)))
 refine bq (α:=Nat) (fun j=> j≤L.length∧ ∀ q,q < j→t q=2) 80 [(1,_),(3,_),(4,_)] [((1,0),_)] (fun j=> [(5, .v (.int .i64 (j:Int)))]) (fun j=> []) [] [] (fun j=> L.length - j) 0 ?_ (by
  refine Le.mkJ [] [] rfl ?_ ?_ trivial trivial ?_
  ·exact ⟨(iP rfl),(iV rfl),(iV rfl),(co ag),trivial⟩
  ·exact ⟨(ca rfl rfl rfl),trivial⟩
  kernel_rfl) ?_
 ·exact ⟨Nat.zero_le _,fun q hq=> by omega⟩
 intro j hj
 obtain ⟨hj,hall⟩:=hj
 have htj:=ht j
 refine aU fun K17 hK17=> ?_
 refine am (aX rfl (bb rfl rfl rfl (eV rfl rfl rfl (ai (bn _ aa rfl) (ai (bm _ _ rfl rfl rfl) (aj (aP rfl (fun hc67=> ?_) (fun hc67=> ?_))))))))
 ·skip
  refine bs (hK17 _ ?_)
  clear hK17;try clear K17
  refine aq (ax (am (bb rfl rfl rfl (eV rfl rfl rfl (aX rfl (ai (bo _ _ aa rfl rfl _ rfl ab (by (simp only [aN,bg,bj,bv,bu,bH,bz];omega)) ag) ?_))))))
  refine ai (cd _ aa rfl (by exact cN _ _ ab) rfl) ?_
  refine ai (aH aa al (h j ab) rfl rfl) ?_
  refine be rfl (aj (am (aX rfl (aX rfl (ai (bY _ _ rfl rfl rfl) (aj (aP rfl (fun hc78=> ?_) (fun hc78=> ?_))))))))
  ·skip
   have hr:=hr0 j ab ab
   refine aq ?_
   refine aM (σ':=aD 80 [] [] [] []) kp ?_
   refine an (be rfl (aj (aG (rQ rfl rfl ?_))))
   rw [hr];rfl
  have hall1: ∀ q,q < j+1→t q=2:=fun q hq=> by
   by_cases h:q < j
   ·exact hall q h
   obtain rfl:q=j:=by omega
   omega
  refine cr ?_
  refine aM (σ':=aD 80 [(1,_),(3,_),(4,_),(5,_)] [((1,0),_)] [] []) kp ?_
  refine an (aX rfl (ai (aZ _ _ rfl rfl (bE ab)) ?_))
  refine be rfl (aJ (⟨j+1,?_,?_,?_⟩))
  ·exact ⟨by omega,hall1⟩
  ·skip
   refine Le.mkJ [] [] rfl ?_ ?_ trivial trivial ?_
   ·exact ⟨(iP rfl),(iV rfl),(iV rfl),(co ag),trivial⟩
   ·exact ⟨(ca rfl rfl rfl),trivial⟩
   kernel_rfl
  omega
 have hr:=hr1 fun q hq=> hall q ab
 refine bD (id (hK15 _ ?_))
 clear hK15;try clear K15
 refine am (aX rfl (be rfl (aj (aG (rQ rfl rfl ?_)))))
 rw [hr];rfl
theorem uf (s:Tx) (hs1:s∈[[38,38],[124,124]]) (hs2:s∉yt) (L:List Nd) (hL:L.length≤3) (t:Nat→Nat) (ht: ∀ j,t j≤2) (h: ∀ j,j < L.length→Spec Tryz.prog 203 (ba [pq (ld L j)] []) (aO (.v (.int .i64 (t j:Int))) [])) (r:Nat) (hr1:(∀ j,j < L.length→t j=2)→r=2) (hr0: ∀ j,j < L.length→t j≠2→r=0):
  Spec Tryz.prog 203 (ba [.agg [.v (.int .i64 18), .v (.int .i64 0), .v (bt s), .sl L.length (mN L)]] []) (aO (.v (.int .i64 (r:Int))) []):=by
 refine Spec.ofN Tryz.func203 rfl Tryz.ntmps203 rfl ?_
 refine am (ai (aR (1,0) _ rfl rfl) (be rfl (aj (aq (am (bb rfl rfl rfl (cf rfl rfl rfl (gO rfl rfl rfl (cL rfl (ay rfl rfl (aA _ aa rfl rfl rfl) ?_))))))))))
 refine ay rfl rfl (aF _ aa rfl rfl eg) (ay rfl rfl (bB (r:=false) _ _ rfl rfl rfl) (ai (aE _ _ _ rfl bR) (cL rfl (ay rfl rfl (aA _ aa rfl rfl rfl) (ay rfl rfl (aF _ aa rfl rfl eg) (ay rfl rfl (bB (r:=false) _ _ rfl rfl rfl) (ai (aE _ _ _ rfl bR) (aj (aW rfl rfl (aS ?_))))))))))
 refine aq (aq ?_)
 refine aM (σ':=aD 80 [(1,_)] [((1,0),_)] [] []) kp ?_
 refine an (bb rfl rfl rfl (cf rfl rfl rfl (gO rfl rfl rfl (aj (aW rfl rfl (aS (aq (am (bb rfl rfl rfl (cf rfl rfl rfl ?_))))))))))
 refine ai (bY (r:=true) _ _ rfl rfl rfl) (cL rfl (ay rfl rfl (aA _ aa rfl rfl rfl) (ay rfl rfl (aF _ aa rfl rfl eg) (ay rfl rfl (bY (r:=true) _ _ rfl rfl rfl) (ai (aE _ _ _ rfl bR) (cL rfl (ay rfl rfl (aA _ aa rfl rfl rfl) (ay rfl rfl (aF _ aa rfl rfl eg) (ay rfl rfl (bY (r:=false) _ _ rfl rfl rfl) (ai (aE _ _ _ rfl bR) ?_))))))))))
 refine aj (aW rfl rfl (aS (aq ?_)))
 refine aM (σ':=aD 80 [(1,_)] [((1,0),_)] [] []) kp ?_
 refine an (be rfl (aj (am (be rfl (aj (aq (am (bb rfl rfl rfl (cf rfl rfl rfl (gO rfl rfl rfl ?_))))))))))
 refine cL rfl (aQ rfl rfl ah ?_)
 refine aQ rfl rfl ah ?_
 refine aQ rfl rfl ah ?_
 refine ai (aE _ _ _ rfl bR) (cL rfl (ay rfl rfl (aA _ aa rfl rfl rfl) (ay rfl rfl (aF _ aa rfl rfl eg) (ay rfl rfl (bB (r:=true) _ _ rfl rfl rfl) (ay rfl rfl (aI _ bR) (ay rfl rfl (bh _ _ aa rfl ag (by (simp <;> rfl)) ah rfl) ?_))))))
 refine ay rfl rfl (aA _ aa rfl rfl rfl) (ay rfl rfl (aF _ aa rfl rfl fx) (ay rfl rfl (aH aa al (gE [[38,38],[124,124]] 2 rfl ab s) rfl rfl) ?_))
 refine ay rfl rfl (aE _ _ _ rfl bR) (ai (aE _ _ _ rfl bR) (aj (bL rfl (decide_eq_true hs1) ?_)))
 refine aq ?_
 refine aM (σ':=aD 80 [(1,_)] [((1,0),_)] [] []) kp ?_
 refine an (be rfl (aj (an (be rfl (aj (aq (am (bb rfl rfl rfl (cf rfl rfl rfl (jY rfl rfl rfl ?_))))))))))
 refine cL rfl (ay rfl rfl (aA _ aa rfl rfl rfl) (ay rfl rfl (aF _ aa rfl rfl fx) (ay rfl rfl (aH aa al (mP s) rfl rfl) ?_)))
 refine ai (aE _ _ _ rfl bR) (aj (aW rfl (decide_eq_false hs2) ?_))
 refine aS (aU fun K15 hK15=> ?_)
 refine am (be rfl (aj (ax ?_)))
 refine bq (α:=Nat) (fun j=> j≤L.length∧ ∀ q,q < j→t q=2) 80 [(1,_),(3,_),(4,_)] [((1,0),_)] (fun j=> [(5, .v (.int .i64 (j:Int)))]) (fun j=> []) [] [] (fun j=> L.length - j) 0 ?_ (by
  refine Le.mkJ [] [] rfl ?_ ?_ trivial trivial ?_
  ·exact ⟨(iP rfl),(iV rfl),(iV rfl),(co ag),trivial⟩
  ·exact ⟨(ca rfl rfl rfl),trivial⟩
  kernel_rfl) ?_
 ·exact ⟨Nat.zero_le _,fun q hq=> by omega⟩
 intro j hj
 obtain ⟨hj,hall⟩:=hj
 have htj:=ht j
 refine aU fun K17 hK17=> ?_
 refine am (aX rfl (bb rfl rfl rfl (eV rfl rfl rfl (ai (bn _ aa rfl) (ai (bm _ _ rfl rfl rfl) (aj (aP rfl (fun hc67=> ?_) (fun hc67=> ?_))))))))
 ·skip
  refine bs (hK17 _ ?_)
  clear hK17;try clear K17
  refine aq (ax (am (bb rfl rfl rfl (eV rfl rfl rfl (aX rfl (ai (bo _ _ aa rfl rfl _ rfl ab (by (simp only [aN,bg,bj,bv,bu,bH,bz];omega)) ag) ?_))))))
  refine ai (cd _ aa rfl (by exact cN _ _ ab) rfl) ?_
  refine ai (aH aa al (h j ab) rfl rfl) ?_
  refine be rfl (aj (am (aX rfl (aX rfl (ai (bY _ _ rfl rfl rfl) (aj (aP rfl (fun hc78=> ?_) (fun hc78=> ?_))))))))
  ·skip
   have hr:=hr0 j ab ab
   refine aq ?_
   refine aM (σ':=aD 80 [] [] [] []) kp ?_
   refine an (be rfl (aj (aG (rQ rfl rfl ?_))))
   rw [hr];rfl
  have hall1: ∀ q,q < j+1→t q=2:=fun q hq=> by
   by_cases h:q < j
   ·exact hall q h
   obtain rfl:q=j:=by omega
   omega
  refine cr ?_
  refine aM (σ':=aD 80 [(1,_),(3,_),(4,_),(5,_)] [((1,0),_)] [] []) kp ?_
  refine an (aX rfl (ai (aZ _ _ rfl rfl (bE ab)) ?_))
  refine be rfl (aJ (⟨j+1,?_,?_,?_⟩))
  ·exact ⟨by omega,hall1⟩
  ·skip
   refine Le.mkJ [] [] rfl ?_ ?_ trivial trivial ?_
   ·exact ⟨(iP rfl),(iV rfl),(iV rfl),(co ag),trivial⟩
   ·exact ⟨(ca rfl rfl rfl),trivial⟩
   kernel_rfl
  omega
 have hr:=hr1 fun q hq=> hall q ab
 refine bD (id (hK15 _ ?_))
 clear hK15;try clear K15
 refine am (aX rfl (be rfl (aj (aG (rQ rfl rfl ?_)))))
 rw [hr];rfl
theorem Il (s:Tx) (hs1:s∉[[38,38],[124,124]]) (hs2:s∈yt) (L:List Nd) (hL:L.length≤3) (t:Nat→Nat) (ht: ∀ j,t j≤2) (h: ∀ j,j < L.length→Spec Tryz.prog 203 (ba [pq (ld L j)] []) (aO (.v (.int .i64 (t j:Int))) [])) (r:Nat) (hr1:(∀ j,j < L.length→t j=1)→r=2) (hr0: ∀ j,j < L.length→t j≠1→r=0):
  Spec Tryz.prog 203 (ba [.agg [.v (.int .i64 18), .v (.int .i64 0), .v (bt s), .sl L.length (mN L)]] []) (aO (.v (.int .i64 (r:Int))) []):=by
 refine Spec.ofN Tryz.func203 rfl Tryz.ntmps203 rfl ?_
 refine am (ai (aR (1,0) _ rfl rfl) (be rfl (aj (aq (am (bb rfl rfl rfl (cf rfl rfl rfl (gO rfl rfl rfl (cL rfl (ay rfl rfl (aA _ aa rfl rfl rfl) ?_))))))))))
 refine ay rfl rfl (aF _ aa rfl rfl eg) (ay rfl rfl (bB (r:=false) _ _ rfl rfl rfl) (ai (aE _ _ _ rfl bR) (cL rfl (ay rfl rfl (aA _ aa rfl rfl rfl) (ay rfl rfl (aF _ aa rfl rfl eg) (ay rfl rfl (bB (r:=false) _ _ rfl rfl rfl) (ai (aE _ _ _ rfl bR) (aj (aW rfl rfl (aS ?_))))))))))
 refine aq (aq ?_)
 refine aM (σ':=aD 80 [(1,_)] [((1,0),_)] [] []) kp ?_
 refine an (bb rfl rfl rfl (cf rfl rfl rfl (gO rfl rfl rfl (aj (aW rfl rfl (aS (aq (am (bb rfl rfl rfl (cf rfl rfl rfl ?_))))))))))
 refine ai (bY (r:=true) _ _ rfl rfl rfl) (cL rfl (ay rfl rfl (aA _ aa rfl rfl rfl) (ay rfl rfl (aF _ aa rfl rfl eg) (ay rfl rfl (bY (r:=true) _ _ rfl rfl rfl) (ai (aE _ _ _ rfl bR) (cL rfl (ay rfl rfl (aA _ aa rfl rfl rfl) (ay rfl rfl (aF _ aa rfl rfl eg) (ay rfl rfl (bY (r:=false) _ _ rfl rfl rfl) (ai (aE _ _ _ rfl bR) ?_))))))))))
 refine aj (aW rfl rfl (aS (aq ?_)))
 refine aM (σ':=aD 80 [(1,_)] [((1,0),_)] [] []) kp ?_
 refine an (be rfl (aj (am (be rfl (aj (aq (am (bb rfl rfl rfl (cf rfl rfl rfl (gO rfl rfl rfl ?_))))))))))
 refine cL rfl (aQ rfl rfl ah ?_)
 refine aQ rfl rfl ah ?_
 refine aQ rfl rfl ah ?_
 refine ai (aE _ _ _ rfl bR) (cL rfl (ay rfl rfl (aA _ aa rfl rfl rfl) (ay rfl rfl (aF _ aa rfl rfl eg) (ay rfl rfl (bB (r:=true) _ _ rfl rfl rfl) (ay rfl rfl (aI _ bR) (ay rfl rfl (bh _ _ aa rfl ag (by (simp <;> rfl)) ah rfl) ?_))))))
 refine ay rfl rfl (aA _ aa rfl rfl rfl) (ay rfl rfl (aF _ aa rfl rfl fx) (ay rfl rfl (aH aa al (gE [[38,38],[124,124]] 2 rfl ab s) rfl rfl) ?_))
 refine ay rfl rfl (aE _ _ _ rfl bR) (ai (aE _ _ _ rfl bR) (aj (aW rfl (decide_eq_false hs1) ?_)))
 refine aS (aq (aq ?_))
 refine aM (σ':=aD 80 [(1,_),(3,_),(4,_)] [((1,0),_)] [] []) kp ?_
 refine an (bb rfl rfl rfl (cf rfl rfl rfl (jY rfl rfl rfl (cL rfl (ay rfl rfl (aA _ aa rfl rfl rfl) (ay rfl rfl (aF _ aa rfl rfl fx) (ay rfl rfl (aH aa al (mP s) rfl rfl) ?_)))))))
 refine ai (aE _ _ _ rfl bR) (aj (bL rfl (decide_eq_true hs2) ?_))
 refine an (be rfl (aj (aU fun K14 hK14=> ?_)))
 refine am (be rfl (aj (ax ?_)))
 refine bq (α:=Nat) (fun j=> j≤L.length∧ ∀ q,q < j→t q=1) 80 [(1,_),(3,_),(4,_)] [((1,0),_)] (fun j=> [(5, .v (.int .i64 (j:Int)))]) (fun j=> []) [] [] (fun j=> L.length - j) 0 ?_ (by
  refine Le.mkJ [] [] rfl ?_ ?_ trivial trivial ?_
  ·exact ⟨(iP rfl),(iV rfl),(iV rfl),(co ag),trivial⟩
  ·exact ⟨(ca rfl rfl rfl),trivial⟩
  kernel_rfl) ?_
 ·exact ⟨Nat.zero_le _,fun q hq=> by omega⟩
 intro j hj
 obtain ⟨hj,hall⟩:=hj
 have htj:=ht j
 refine aU fun K16 hK16=> ?_
 refine am (aX rfl (bb rfl rfl rfl (eV rfl rfl rfl (ai (bn _ aa rfl) (ai (bm _ _ rfl rfl rfl) (aj (aP rfl (fun hc67=> ?_) (fun hc67=> ?_))))))))
 ·skip
  refine bs (hK16 _ ?_)
  clear hK16;try clear K16
  refine aq (ax (am (bb rfl rfl rfl (eV rfl rfl rfl (aX rfl (ai (bo _ _ aa rfl rfl _ rfl ab (by (simp only [aN,bg,bj,bv,bu,bH,bz];omega)) ag) ?_))))))
  refine ai (cd _ aa rfl (by exact cN _ _ ab) rfl) ?_
  refine ai (aH aa al (h j ab) rfl rfl) ?_
  refine be rfl (aj (am (aX rfl (aX rfl (ai (bY _ _ rfl rfl rfl) (aj (aP rfl (fun hc78=> ?_) (fun hc78=> ?_))))))))
  ·skip
   have hr:=hr0 j ab ab
   refine aq ?_
   refine aM (σ':=aD 80 [] [] [] []) kp ?_
   refine an (be rfl (aj (aG (rQ rfl rfl ?_))))
   rw [hr];rfl
  have hall1: ∀ q,q < j+1→t q=1:=fun q hq=> by
   by_cases h:q < j
   ·exact hall q h
   obtain rfl:q=j:=by omega
   omega
  refine cr ?_
  refine aM (σ':=aD 80 [(1,_),(3,_),(4,_),(5,_)] [((1,0),_)] [] []) kp ?_
  refine an (aX rfl (ai (aZ _ _ rfl rfl (bE ab)) ?_))
  refine be rfl (aJ (⟨j+1,?_,?_,?_⟩))
  ·exact ⟨by omega,hall1⟩
  ·skip
   refine Le.mkJ [] [] rfl ?_ ?_ trivial trivial ?_
   ·exact ⟨(iP rfl),(iV rfl),(iV rfl),(co ag),trivial⟩
   ·exact ⟨(ca rfl rfl rfl),trivial⟩
   kernel_rfl
  omega
 have hr:=hr1 fun q hq=> hall q ab
 refine bD (id (hK14 _ ?_))
 clear hK14;try clear K14
 refine am (aX rfl (be rfl (aj (aG (rQ rfl rfl ?_)))))
 rw [hr];rfl
theorem BB (s:Tx) (hs1:s∉[[38,38],[124,124]]) (hs2:s∉yt) (L:List Nd) (hL:L.length≤3) (t:Nat→Nat) (ht: ∀ j,t j≤2) (h: ∀ j,j < L.length→Spec Tryz.prog 203 (ba [pq (ld L j)] []) (aO (.v (.int .i64 (t j:Int))) [])) (r:Nat) (hr1:(∀ j,j < L.length→t j=1)→r=1) (hr0: ∀ j,j < L.length→t j≠1→r=0):
  Spec Tryz.prog 203 (ba [.agg [.v (.int .i64 18), .v (.int .i64 0), .v (bt s), .sl L.length (mN L)]] []) (aO (.v (.int .i64 (r:Int))) []):=by
 refine Spec.ofN Tryz.func203 rfl Tryz.ntmps203 rfl ?_
 refine am (ai (aR (1,0) _ rfl rfl) (be rfl (aj (aq (am (bb rfl rfl rfl (cf rfl rfl rfl (gO rfl rfl rfl (cL rfl (ay rfl rfl (aA _ aa rfl rfl rfl) ?_))))))))))
 refine ay rfl rfl (aF _ aa rfl rfl eg) (ay rfl rfl (bB (r:=false) _ _ rfl rfl rfl) (ai (aE _ _ _ rfl bR) (cL rfl (ay rfl rfl (aA _ aa rfl rfl rfl) (ay rfl rfl (aF _ aa rfl rfl eg) (ay rfl rfl (bB (r:=false) _ _ rfl rfl rfl) (ai (aE _ _ _ rfl bR) (aj (aW rfl rfl (aS ?_))))))))))
 refine aq (aq ?_)
 refine aM (σ':=aD 80 [(1,_)] [((1,0),_)] [] []) kp ?_
 refine an (bb rfl rfl rfl (cf rfl rfl rfl (gO rfl rfl rfl (aj (aW rfl rfl (aS (aq (am (bb rfl rfl rfl (cf rfl rfl rfl ?_))))))))))
 refine ai (bY (r:=true) _ _ rfl rfl rfl) (cL rfl (ay rfl rfl (aA _ aa rfl rfl rfl) (ay rfl rfl (aF _ aa rfl rfl eg) (ay rfl rfl (bY (r:=true) _ _ rfl rfl rfl) (ai (aE _ _ _ rfl bR) (cL rfl (ay rfl rfl (aA _ aa rfl rfl rfl) (ay rfl rfl (aF _ aa rfl rfl eg) (ay rfl rfl (bY (r:=false) _ _ rfl rfl rfl) (ai (aE _ _ _ rfl bR) ?_))))))))))
 refine aj (aW rfl rfl (aS (aq ?_)))
 refine aM (σ':=aD 80 [(1,_)] [((1,0),_)] [] []) kp ?_
 refine an (be rfl (aj (am (be rfl (aj (aq (am (bb rfl rfl rfl (cf rfl rfl rfl (gO rfl rfl rfl ?_))))))))))
 refine cL rfl (aQ rfl rfl ah ?_)
 refine aQ rfl rfl ah ?_
 refine aQ rfl rfl ah ?_
 refine ai (aE _ _ _ rfl bR) (cL rfl (ay rfl rfl (aA _ aa rfl rfl rfl) (ay rfl rfl (aF _ aa rfl rfl eg) (ay rfl rfl (bB (r:=true) _ _ rfl rfl rfl) (ay rfl rfl (aI _ bR) (ay rfl rfl (bh _ _ aa rfl ag (by (simp <;> rfl)) ah rfl) ?_))))))
 refine ay rfl rfl (aA _ aa rfl rfl rfl) (ay rfl rfl (aF _ aa rfl rfl fx) (ay rfl rfl (aH aa al (gE [[38,38],[124,124]] 2 rfl ab s) rfl rfl) ?_))
 refine ay rfl rfl (aE _ _ _ rfl bR) (ai (aE _ _ _ rfl bR) (aj (aW rfl (decide_eq_false hs1) ?_)))
 refine aS (aq (aq ?_))
 refine aM (σ':=aD 80 [(1,_),(3,_),(4,_)] [((1,0),_)] [] []) kp ?_
 refine an (bb rfl rfl rfl (cf rfl rfl rfl (jY rfl rfl rfl (cL rfl (ay rfl rfl (aA _ aa rfl rfl rfl) (ay rfl rfl (aF _ aa rfl rfl fx) (ay rfl rfl (aH aa al (mP s) rfl rfl) ?_)))))))
 refine ai (aE _ _ _ rfl bR) (aj (aW rfl (decide_eq_false hs2) ?_))
 refine aS (aU fun K14 hK14=> ?_)
 refine am (be rfl (aj (ax ?_)))
 refine bq (α:=Nat) (fun j=> j≤L.length∧ ∀ q,q < j→t q=1) 80 [(1,_),(3,_),(4,_)] [((1,0),_)] (fun j=> [(5, .v (.int .i64 (j:Int)))]) (fun j=> []) [] [] (fun j=> L.length - j) 0 ?_ (by
  refine Le.mkJ [] [] rfl ?_ ?_ trivial trivial ?_
  ·exact ⟨(iP rfl),(iV rfl),(iV rfl),(co ag),trivial⟩
  ·exact ⟨(ca rfl rfl rfl),trivial⟩
  kernel_rfl) ?_
 ·exact ⟨Nat.zero_le _,fun q hq=> by omega⟩
 intro j hj
 obtain ⟨hj,hall⟩:=hj
 have htj:=ht j
 refine aU fun K16 hK16=> ?_
 refine am (aX rfl (bb rfl rfl rfl (eV rfl rfl rfl (ai (bn _ aa rfl) (ai (bm _ _ rfl rfl rfl) (aj (aP rfl (fun hc67=> ?_) (fun hc67=> ?_))))))))
 ·skip
  refine bs (hK16 _ ?_)
  clear hK16;try clear K16
  refine aq (ax (am (bb rfl rfl rfl (eV rfl rfl rfl (aX rfl (ai (bo _ _ aa rfl rfl _ rfl ab (by (simp only [aN,bg,bj,bv,bu,bH,bz];omega)) ag) ?_))))))
  refine ai (cd _ aa rfl (by exact cN _ _ ab) rfl) ?_
  refine ai (aH aa al (h j ab) rfl rfl) ?_
  refine be rfl (aj (am (aX rfl (aX rfl (ai (bY _ _ rfl rfl rfl) (aj (aP rfl (fun hc78=> ?_) (fun hc78=> ?_))))))))
  ·skip
   have hr:=hr0 j ab ab
   refine aq ?_
   refine aM (σ':=aD 80 [] [] [] []) kp ?_
   refine an (be rfl (aj (aG (rQ rfl rfl ?_))))
   rw [hr];rfl
  have hall1: ∀ q,q < j+1→t q=1:=fun q hq=> by
   by_cases h:q < j
   ·exact hall q h
   obtain rfl:q=j:=by omega
   omega
  refine cr ?_
  refine aM (σ':=aD 80 [(1,_),(3,_),(4,_),(5,_)] [((1,0),_)] [] []) kp ?_
  refine an (aX rfl (ai (aZ _ _ rfl rfl (bE ab)) ?_))
  refine be rfl (aJ (⟨j+1,?_,?_,?_⟩))
  ·exact ⟨by omega,hall1⟩
  ·skip
   refine Le.mkJ [] [] rfl ?_ ?_ trivial trivial ?_
   ·exact ⟨(iP rfl),(iV rfl),(iV rfl),(co ag),trivial⟩
   ·exact ⟨(ca rfl rfl rfl),trivial⟩
   kernel_rfl
  omega
 have hr:=hr1 fun q hq=> hall q ab
 refine bD (id (hK14 _ ?_))
 clear hK14;try clear K14
 refine am (aX rfl (be rfl (aj (aG (rQ rfl rfl ?_)))))
 rw [hr];rfl

theorem pF: ∀ e,fv e≤2
 | .int _=> by simp [fv] | .bool _=> by simp [fv] | .var _=> by simp [fv] | .name _=> by simp [fv]
 | .draw e=> by simp only [fv];split <;> omega
 | .neg e=> by simp only [fv];split <;> omega
 | .not e=> by simp only [fv];split <;> omega
 | .bin o a b=> by cases o <;> simp only [fv] <;> split <;> omega
 | .and a b=> by simp only [fv];split <;> omega
 | .or a b=> by simp only [fv];split <;> omega
def uJ (a b:Ex) (j:Nat):Nat:=if j=0 then fv a else fv b
theorem pI (a b:Ex) (j:Nat):uJ a b j≤2:=by unfold uJ;split <;> exact pF _
theorem pM {a b:Ex} {op j:Nat} (hj:j < 2) (h:uJ a b j≠op): ¬ (fv a=op∧fv b=op):=fun e=> by
 have:j=0∨j=1:=by omega
 rcases this with rfl | rfl
 ·exact h e.1
 exact h e.2
theorem ve (o:Bo):o.txt∉([[38,38],[124,124]]:List Tx):=by cases o <;> decide
def LQ:Bo→Nat | .add=> 1 | .sub=> 1 | .mul=> 1 | .div=> 1 | _=> 2
abbrev wm (d:Nd) (t:Nat):Prop:=Spec Tryz.prog 203 (ba [pq d] []) (aO (.v (.int .i64 (t:Int))) [])
theorem tE {d:Nd} {t:Nat} (h:wm d t): ∀ j,j < [d].length→wm (ld [d] j) t:=fun j hj=> by
 have:j=0:=by simpa using hj
 subst this
 exact h
theorem qH {d e:Nd} {a b:Ex} (h1:wm d (fv a)) (h2:wm e (fv b)): ∀ j,j < [d,e].length→wm (ld [d,e] j) (uJ a b j):=fun j hj=> by
 have hj:j < 2:=hj
 have:j=0∨j=1:=by omega
 rcases this with rfl | rfl
 ·exact h1
 exact h2
theorem eC (nm:List Tx): ∀ e:Ex,wm (eM nm e) (fv e)
 | .int n=> Iu n.toNat
 | .bool b=> Fy (if b then 1 else 0)
 | .var i=> Is (nm.getD i [])
 | .name k=> Ed (bltT.getD k [])
 | .draw e=> FR [eM nm e] (by simp) (fun _=> fv e) (fun _=> pF e) (tE (eC nm e)) _ (fun h=> if_pos (h 0 (by simp))) (fun _ _ h=> if_neg h)
 | .neg e=> Hq [eM nm e] (by simp) (fun _=> fv e) (fun _=> pF e) (tE (eC nm e)) _ (fun h=> if_pos (h 0 (by simp))) (fun _ _ h=> if_neg h)
 | .not e=> Ij [eM nm e] (by simp) (fun _=> fv e) (fun _=> pF e) (tE (eC nm e)) _ (fun h=> if_pos (h 0 (by simp))) (fun _ _ h=> if_neg h)
 | .and a b=> uf [38,38] ah ah [eM nm a,eM nm b] (by simp) (uJ a b) (pI a b) (qH (eC nm a) (eC nm b)) _ (fun h=> if_pos ⟨h 0 (by simp),h 1 (by simp)⟩) (fun _ hj h=> if_neg (pM hj h))
 | .or a b=> uf [124,124] ah ah [eM nm a,eM nm b] (by simp) (uJ a b) (pI a b) (qH (eC nm a) (eC nm b)) _ (fun h=> if_pos ⟨h 0 (by simp),h 1 (by simp)⟩) (fun _ hj h=> if_neg (pM hj h))
 | .bin o a b=> by
  have hty:fv (.bin o a b)=if fv a=1∧fv b=1 then LQ o else 0:=by cases o <;> rfl
  have hk:=qH (eC nm a) (eC nm b)
  by_cases ho:o.txt∈yt
  ·have h2:LQ o=2:=by cases o <;> first | rfl | (exact absurd ho ah)
   rw [h2] at hty
   exact Il o.txt (ve o) ho [eM nm a,eM nm b] (by simp) (uJ a b) (pI a b) hk _ (fun h=> hty.trans (if_pos ⟨h 0 (by simp),h 1 (by simp)⟩)) (fun _ hj h=> hty.trans (if_neg (pM hj h)))
  have h2:LQ o=1:=by cases o <;> first | rfl | (exact absurd ah ho)
  rw [h2] at hty
  exact BB o.txt (ve o) ho [eM nm a,eM nm b] (by simp) (uJ a b) (pI a b) hk _ (fun h=> hty.trans (if_pos ⟨h 0 (by simp),h 1 (by simp)⟩)) (fun _ hj h=> hty.trans (if_neg (pM hj h)))
theorem kS (n:Int) (s:Tx) (L:List Nd) (h: ∀ j,j < L.length→Spec Tryz.prog 166 (ba [pq (ld L j)] []) (aO (.v (.bool true)) [])):
  Spec Tryz.prog 166 (ba [.agg [.v (.int .i64 11), .v (.int .i64 n), .v (bt s), .sl L.length (mN L)]] []) (aO (.v (.bool true)) []):=by
 refine Spec.ofN Tryz.func166 rfl Tryz.ntmps166 rfl ?_
 refine aq ?_
 refine lp 0 3 rfl rfl rfl fun hlen=> ?_
 unfold maxLen at hlen
 refine an (ai (aR (1,0) _ rfl rfl) (cp rfl (aj (aq (am (bb rfl rfl rfl (cf rfl rfl rfl (jY rfl rfl rfl (aj (bL rfl rfl ?_))))))))))
 refine aU fun K4 hK4=> ?_
 refine am (be rfl (aj (ax ?_)))
 refine bq (α:=Nat) (fun j=> j≤L.length) 73 [(1,_)] [((1,0),_)] (fun j=> [(3, .v (.int .i64 (j:Int)))]) (fun j=> []) [] [] (fun j=> L.length - j) 0 ?_ (by
  refine Le.mkJ [] [] rfl ?_ ?_ trivial trivial ?_
  ·exact ⟨(iP rfl),(co ag),trivial⟩
  ·exact ⟨(ca rfl rfl rfl),trivial⟩
  kernel_rfl) ?_
 ·omega
 intro j hj
 refine aU fun K6 hK6=> ?_
 refine am (aX rfl (bb rfl rfl rfl (eV rfl rfl rfl (ai (bn _ aa rfl) (ai (bm _ _ rfl rfl rfl) (aj (aP rfl (fun hc17=> ?_) (fun hc17=> ?_))))))))
 ·skip
  refine bs (hK6 _ ?_)
  clear hK6;try clear K6
  refine aq (ax (am (bb rfl rfl rfl (eV rfl rfl rfl (aX rfl (ai (bo _ _ aa rfl rfl _ rfl ab (by (simp only [aN,bg,bj,bv,bu,bH,bz];omega)) ag) ?_))))))
  refine ai (cd _ aa rfl (by exact cN _ _ ab) rfl) ?_
  refine ai (aH aa al (h j ab) rfl rfl) ?_
  refine cp rfl (aj (am (cL rfl (ai (cu (r:=false) _ rfl rfl) (aj (aW rfl rfl (cr (an (aX rfl (ai (aZ _ _ rfl rfl (bE ab)) ?_))))))))))
  refine be rfl (aJ (⟨j+1,?_,?_,?_⟩))
  ·omega
  ·skip
   refine Le.mkJ [] [] rfl ?_ ?_ trivial trivial ?_
   ·exact ⟨(iP rfl),(co ag),trivial⟩
   ·exact ⟨(ca rfl rfl rfl),trivial⟩
   kernel_rfl
  omega
 refine bD (id (hK4 _ ?_))
 clear hK4;try clear K4
 refine am (cp rfl (aj (aG (rZ rfl rfl ?_))))
 rfl
theorem sf (k:Nat) (hk:k=2∨k=3) (n:Int) (s:Tx) (L:List Nd) (hL:0 < L.length) (ht:Spec Tryz.prog 203 (ba [pq (ld L 0)] []) (aO (.v (.int .i64 2)) [])) (h: ∀ j,1≤j→j < L.length→Spec Tryz.prog 166 (ba [pq (ld L j)] []) (aO (.v (.bool true)) [])):
  Spec Tryz.prog 166 (ba [.agg [.v (.int .i64 (k:Int)), .v (.int .i64 n), .v (bt s), .sl L.length (mN L)]] []) (aO (.v (.bool true)) []):=by
 refine Spec.ofN Tryz.func166 rfl Tryz.ntmps166 rfl ?_
 refine aq ?_
 refine lp 0 3 rfl rfl rfl fun hlen=> ?_
 unfold maxLen at hlen
 refine an (ai (aR (1,0) _ rfl rfl) (cp rfl (aj (aq (am (bb rfl rfl rfl (cf rfl rfl rfl (gO rfl rfl (beq_eq_false_iff_ne.2 ab) ?_))))))))
 refine aj (aW rfl rfl (aS (aq (am (bb rfl rfl rfl (cf rfl rfl rfl (ai (bB _ _ rfl rfl rfl) (cL rfl (dv (fun hg31=> ?_) (fun hg31=> ?_))))))))))
 ·skip
  refine aQ rfl rfl ah ?_
  refine aQ rfl rfl ah ?_
  refine aQ rfl rfl ah ?_
  refine ai (aE _ _ _ rfl bR) (aj (bL rfl rfl (am (bb rfl rfl rfl (eV rfl rfl rfl (ai (bo _ _ aa rfl rfl 0 rfl hL (by simp only [bH];omega) rfl) ?_))))))
  refine ai (cd _ aa rfl (by exact cN L 0 hL) rfl) ?_
  refine ai (aH aa al (ht) rfl rfl) ?_
  refine be rfl (aj (aU fun K7 hK7=> ?_))
  refine aq ?_
  refine aM (σ':=aD 73 [(1,_),(5,_)] [((1,0),_)] [] []) kp ?_
  refine an (be rfl (aj (ax ?_)))
  refine bq (α:=Nat) (fun j=> 1≤j∧j≤L.length) 73 [(1,_),(5,_)] [((1,0),_)] (fun j=> [(6, .v (.int .i64 (j:Int)))]) (fun j=> []) [] [] (fun j=> L.length - j) 1 ?_ (by
   refine Le.mkJ [] [] rfl ?_ ?_ trivial trivial ?_
   ·exact ⟨(iP rfl),(iV rfl),(co ag),trivial⟩
   ·exact ⟨(ca rfl rfl rfl),trivial⟩
   kernel_rfl) ?_
  ·exact ⟨Nat.le_refl _,hL⟩
  intro j hj
  obtain ⟨hj1,hj2⟩:=hj
  refine aU fun K9 hK9=> ?_
  refine am (aX rfl (bb rfl rfl rfl (eV rfl rfl rfl (ai (bn _ aa rfl) (ai (bm _ _ rfl rfl rfl) (aj (aP rfl (fun hc45=> ?_) (fun hc45=> ?_))))))))
  ·skip
   refine bs (hK9 _ ?_)
   clear hK9;try clear K9
   refine aq (ax (am (bb rfl rfl rfl (eV rfl rfl rfl (aX rfl (ai (bo _ _ aa rfl rfl _ rfl ab (by (simp only [aN,bg,bj,bv,bu,bH,bz];omega)) ag) ?_))))))
   refine ai (cd _ aa rfl (by exact cN _ _ ab) rfl) ?_
   refine ai (aH aa al (h j hj1 ab) rfl rfl) ?_
   refine cp rfl (aj (am (cL rfl (ai (cu (r:=false) _ rfl rfl) (aj (aW rfl rfl (cr (an (aX rfl (ai (aZ _ _ rfl rfl (bE ab)) ?_))))))))))
   refine be rfl (aJ (⟨j+1,?_,?_,?_⟩))
   ·omega
   ·skip
    refine Le.mkJ [] [] rfl ?_ ?_ trivial trivial ?_
    ·exact ⟨(iP rfl),(iV rfl),(co ag),trivial⟩
    ·exact ⟨(ca rfl rfl rfl),trivial⟩
    kernel_rfl
   omega
  refine bD (id (hK7 _ ?_))
  clear hK7;try clear K7
  refine am (aX rfl (jY rfl rfl rfl (cp rfl (aj (aG (rZ rfl rfl ?_))))))
  rfl
 have hk3:k=3:=by omega
 refine ay rfl rfl (aA _ aa rfl rfl rfl) (ay rfl rfl (aF _ aa rfl rfl eg) (ay rfl rfl (bB (r:=true) _ _ rfl rfl (beq_iff_eq.2 ab)) ?_))
 refine ai (aE _ _ _ rfl bR) (aj (bL rfl rfl (am (bb rfl rfl rfl (eV rfl rfl rfl (ai (bo _ _ aa rfl rfl 0 rfl hL (by simp only [bH];omega) rfl) ?_))))))
 refine ai (cd _ aa rfl (by exact cN L 0 hL) rfl) ?_
 refine ai (aH aa al (ht) rfl rfl) ?_
 refine be rfl (aj (aU fun K16 hK16=> ?_))
 refine aq ?_
 refine aM (σ':=aD 73 [(1,_),(5,_)] [((1,0),_)] [] []) kp ?_
 refine an (be rfl (aj (ax ?_)))
 refine bq (α:=Nat) (fun j=> 1≤j∧j≤L.length) 73 [(1,_),(5,_)] [((1,0),_)] (fun j=> [(6, .v (.int .i64 (j:Int)))]) (fun j=> []) [] [] (fun j=> L.length - j) 1 ?_ (by
  refine Le.mkJ [] [] rfl ?_ ?_ trivial trivial ?_
  ·exact ⟨(iP rfl),(iV rfl),(co ag),trivial⟩
  ·exact ⟨(ca rfl rfl rfl),trivial⟩
  kernel_rfl) ?_
 ·exact ⟨Nat.le_refl _,hL⟩
 intro j hj
 obtain ⟨hj1,hj2⟩:=hj
 refine aU fun K18 hK18=> ?_
 refine am (aX rfl (bb rfl rfl rfl (eV rfl rfl rfl (ai (bn _ aa rfl) (ai (bm _ _ rfl rfl rfl) (aj (aP rfl (fun hc45=> ?_) (fun hc45=> ?_))))))))
 ·skip
  refine bs (hK18 _ ?_)
  clear hK18;try clear K18
  refine aq (ax (am (bb rfl rfl rfl (eV rfl rfl rfl (aX rfl (ai (bo _ _ aa rfl rfl _ rfl ab (by (simp only [aN,bg,bj,bv,bu,bH,bz];omega)) ag) ?_))))))
  refine ai (cd _ aa rfl (by exact cN _ _ ab) rfl) ?_
  refine ai (aH aa al (h j hj1 ab) rfl rfl) ?_
  refine cp rfl (aj (am (cL rfl (ai (cu (r:=false) _ rfl rfl) (aj (aW rfl rfl (cr (an (aX rfl (ai (aZ _ _ rfl rfl (bE ab)) ?_))))))))))
  refine be rfl (aJ (⟨j+1,?_,?_,?_⟩))
  ·omega
  ·skip
   refine Le.mkJ [] [] rfl ?_ ?_ trivial trivial ?_
   ·exact ⟨(iP rfl),(iV rfl),(co ag),trivial⟩
   ·exact ⟨(ca rfl rfl rfl),trivial⟩
   kernel_rfl
  omega
 refine bD (id (hK16 _ ?_))
 clear hK16;try clear K16
 refine am (aX rfl (jY rfl rfl rfl (cp rfl (aj (aG (rZ rfl rfl ?_))))))
 rfl
theorem fD (k:Nat) (hk:k≠2∧k≠3∧k≠11) (n:Int) (s:Tx) (L:List Nd) (h: ∀ j,j < L.length→Spec Tryz.prog 203 (ba [pq (ld L j)] []) (aO (.v (.int .i64 1)) [])):
  Spec Tryz.prog 166 (ba [.agg [.v (.int .i64 (k:Int)), .v (.int .i64 n), .v (bt s), .sl L.length (mN L)]] []) (aO (.v (.bool true)) []):=by
 refine Spec.ofN Tryz.func166 rfl Tryz.ntmps166 rfl ?_
 refine aq ?_
 refine lp 0 3 rfl rfl rfl fun hlen=> ?_
 unfold maxLen at hlen
 refine an (ai (aR (1,0) _ rfl rfl) (cp rfl (aj (aq (am (bb rfl rfl rfl (cf rfl rfl rfl (gO rfl rfl (beq_eq_false_iff_ne.2 ab) ?_))))))))
 refine aj (aW rfl rfl (aS (aq (am (bb rfl rfl rfl (cf rfl rfl rfl (gO rfl rfl (beq_eq_false_iff_ne.2 ab) ?_)))))))
 refine cL rfl (ay rfl rfl (aA _ aa rfl rfl rfl) (ay rfl rfl (aF _ aa rfl rfl eg) (ay rfl rfl (bB (r:=false) _ _ rfl rfl (beq_eq_false_iff_ne.2 ab)) ?_)))
 refine ai (aE _ _ _ rfl bR) (aj (aW rfl rfl (aS (aU fun K6 hK6=> ?_))))
 refine am (be rfl (aj (ax ?_)))
 refine bq (α:=Nat) (fun j=> j≤L.length) 73 [(1,_)] [((1,0),_)] (fun j=> [(8, .v (.int .i64 (j:Int)))]) (fun j=> []) [] [] (fun j=> L.length - j) 0 ?_ (by
  refine Le.mkJ [] [] rfl ?_ ?_ trivial trivial ?_
  ·exact ⟨(iP rfl),(co ag),trivial⟩
  ·exact ⟨(ca rfl rfl rfl),trivial⟩
  kernel_rfl) ?_
 ·omega
 intro j hj
 refine aU fun K8 hK8=> ?_
 refine am (aX rfl (bb rfl rfl rfl (eV rfl rfl rfl (ai (bn _ aa rfl) (ai (bm _ _ rfl rfl rfl) (aj (aP rfl (fun hc62=> ?_) (fun hc62=> ?_))))))))
 ·skip
  refine bs (hK8 _ ?_)
  clear hK8;try clear K8
  refine aq (ax (am (bb rfl rfl rfl (eV rfl rfl rfl (aX rfl (ai (bo _ _ aa rfl rfl _ rfl ab (by (simp only [aN,bg,bj,bv,bu,bH,bz];omega)) ag) ?_))))))
  refine ai (cd _ aa rfl (by exact cN _ _ ab) rfl) ?_
  refine ai (aH aa al (h j ab) rfl rfl) ?_
  refine be rfl (aj (am (aX rfl (ai (bY (r:=false) _ _ rfl rfl rfl) (aj (aW rfl rfl (cr (an (aX rfl (ai (aZ _ _ rfl rfl (bE ab)) ?_))))))))))
  refine be rfl (aJ (⟨j+1,?_,?_,?_⟩))
  ·omega
  ·skip
   refine Le.mkJ [] [] rfl ?_ ?_ trivial trivial ?_
   ·exact ⟨(iP rfl),(co ag),trivial⟩
   ·exact ⟨(ca rfl rfl rfl),trivial⟩
   kernel_rfl
  omega
 refine bD (id (hK6 _ ?_))
 clear hK6;try clear K6
 refine am (cp rfl (aj (aG (rZ rfl rfl ?_))))
 rfl

abbrev Mm (d:Nd):Prop:=Spec Tryz.prog 166 (ba [pq d] []) (aO (.v (.bool true)) [])
theorem js {nm:List Tx} {e:Ex} (h:pi e=true):wm (eM nm e) 1:=by
 have:=Nat.eq_of_beq_eq_true h
 have h2:=eC nm e
 rwa [this] at h2
theorem JG {P:Nd→Prop} {d:Nd} (h:P d): ∀ j,j < [d].length→P (ld [d] j):=fun j hj=> by
 have:j=0:=by simpa using hj
 subst this
 exact h
theorem Mh {P:Nd→Prop} {d e:Nd} (h:P d) (h':P e): ∀ j,j < [d,e].length→P (ld [d,e] j):=fun j hj=> by
 have hj:j < 2:=hj
 have:j=0∨j=1:=by omega
 rcases this with rfl | rfl
 ·exact h
 exact h'
theorem LU {P:Nd→Prop} {d e f:Nd} (h:P d) (h':P e) (h2:P f): ∀ j,j < [d,e,f].length→P (ld [d,e,f] j):=fun j hj=> by
 have hj:j < 3:=hj
 have:j=0∨j=1∨j=2:=by omega
 rcases this with rfl | rfl | rfl
 ·exact h
 ·exact h'
 exact h2
theorem Br {P:Nd→Prop}: ∀ j,j < ([]:List Nd).length→P (ld [] j):=fun j hj=> by simp at hj
theorem Lc {P:Nd→Prop} {d:Nd} {l:List Nd} (h:P d) (h': ∀ j,j < l.length→P (ld l j)): ∀ j,j < (d::l).length→P (ld (d::l) j):=fun j hj=> by
 cases j with
 | zero=> exact h
 | succ j=> exact h' j (by simpa using hj)
mutual
theorem ED (nm:List Tx): ∀ s:Sm,xZ s=true→Mm (Fv nm s)
 | .assign i e,h=> fD 1 ab 0 (nm.getD i []) [eM nm e] (JG (P:=fun d=> wm d 1) (js h))
 | .send t k a b,h=> by
  simp only [xZ,Bool.and_eq_true] at h
  exact fD 4 ab k [] [eM nm t,eM nm a,eM nm b] (LU (P:=fun d=> wm d 1) (js h.1.1) (js h.1.2) (js h.2))
 | .timer k,_=> fD 5 ab k [] [] (Br (P:=fun d=> wm d 1))
 | .cancel k,_=> fD 6 ab k [] [] (Br (P:=fun d=> wm d 1))
 | .sync,_=> fD 7 ab 0 [] [] (Br (P:=fun d=> wm d 1))
 | .stop,_=> fD 10 ab 0 [] [] (Br (P:=fun d=> wm d 1))
 | .reply a b,h=> by
  simp only [xZ,Bool.and_eq_true] at h
  exact fD 8 ab 0 [] [eM nm a,eM nm b] (Mh (P:=fun d=> wm d 1) (js h.1) (js h.2))
 | .fail e,h=> fD 9 ab 0 [] [eM nm e] (JG (P:=fun d=> wm d 1) (js h))
 | .loop c b,h=> by
  simp only [xZ,Bool.and_eq_true] at h
  have h1:=eC nm c
  rw [Nat.eq_of_beq_eq_true h.1] at h1
  refine sf 3 (.inr rfl) 0 [] [eM nm c,nd 11 0 [] (jb nm b)] (by simp) h1 fun j h1 hj=> ?_
  have hj:j < 2:=hj
  obtain rfl:j=1:=by omega
  exact kS 0 [] (jb nm b) (nz nm b h.2)
 | .ite c a b,h=> by
  simp only [xZ,Bool.and_eq_true] at h
  have h1:=eC nm c
  rw [Nat.eq_of_beq_eq_true h.1.1] at h1
  refine sf 2 (.inl rfl) 0 [] [eM nm c,nd 11 0 [] (jb nm a),nd 11 0 [] (jb nm b)] (by simp) h1 fun j h1 hj=> ?_
  have hj:j < 3:=hj
  have:j=1∨j=2:=by omega
  rcases this with rfl | rfl
  ·exact kS 0 [] (jb nm a) (nz nm a h.1.2)
  exact kS 0 [] (jb nm b) (nz nm b h.2)
theorem nz (nm:List Tx): ∀ b:Bk,pP b=true→ ∀ j,j < (jb nm b).length→Mm (ld (jb nm b) j)
 | .nil,_=> Br
 | .cons s b,h=> by
  simp only [pP,Bool.and_eq_true] at h
  exact Lc (ED nm s h.1) (nz nm b h.2)
end
theorem Fm (nm:List Tx) (b:Bk) (h:pP b=true):Mm (iX nm b):=kS 0 [] (jb nm b) (nz nm b h)

def iO (s:Tx) (l:List Tx):List Tx:=if s∈l then l else l++[s]
section
variable (nm:List Tx)
def tK:Ex→List Tx→List Tx
 | .int _,l=> l | .bool _,l=> l | .name _,l=> l
 | .var i,l=> iO (nm.getD i []) l
 | .draw e,l=> tK e l | .neg e,l=> tK e l | .not e,l=> tK e l
 | .bin _ a b,l=> tK b (tK a l)
 | .and a b,l=> tK b (tK a l)
 | .or a b,l=> tK b (tK a l)
mutual
def Ma:Sm→List Tx→List Tx
 | .assign i e,l=> tK nm e (iO (nm.getD i []) l)
 | .send t _ a b,l=> tK nm b (tK nm a (tK nm t l))
 | .timer _,l=> l | .cancel _,l=> l | .sync,l=> l | .stop,l=> l
 | .reply a b,l=> tK nm b (tK nm a l)
 | .fail e,l=> tK nm e l
 | .loop c b,l=> Dt b (tK nm c l)
 | .ite c a b,l=> Dt b (Dt a (tK nm c l))
def Dt:Bk→List Tx→List Tx
 | .nil,l=> l
 | .cons s b,l=> Dt b (Ma s l)
end
def GN (l:List Tx):Prop:=l.Nodup∧ ∀ x∈l,x∈nm
end
theorem GN.len {nm l:List Tx} (h:GN nm l):l.length≤nm.length:=h.1.length_le_of_subset fun x hx=> h.2 x hx
theorem GN.add {nm l:List Tx} (h:GN nm l) {i:Nat} (hi:i < nm.length):GN nm (iO (nm.getD i []) l):=by
 unfold iO
 split
 ·exact h
 rename_i hn
 refine ⟨List.nodup_append.2 ⟨h.1,by simp,fun a ha b hb e=> hn (by rw [List.mem_singleton.1 hb] at e;exact e ▸ ha)⟩,fun x hx=> ?_⟩
 rcases List.mem_append.1 hx with hx | hx
 ·exact h.2 x hx
 rw [List.mem_singleton.1 hx];exact kb hi
theorem GN.nil {nm:List Tx}:GN nm []:=⟨.nil,fun x hx=> by simp at hx⟩
theorem tT (n:Int) (s:Tx) (L:List Nd) (l:List Tx) (hs:s∉l) (hl:l.length≤1000) (F:Nat→List Tx) (hF:F 0=l++[s]) (h: ∀ j,j < L.length→Spec Tryz.prog 167 (ba [pq (ld L j), .sl (F j).length (fl (F j))] []) (aO (.sl (F (j+1)).length (fl (F (j+1)))) [])):
  Spec Tryz.prog 167 (ba [.agg [.v (.int .i64 1), .v (.int .i64 n), .v (bt s), .sl L.length (mN L)], .sl l.length (fl l)] []) (aO (.sl (F L.length).length (fl (F L.length))) []):=by
 refine Spec.ofN Tryz.func167 rfl Tryz.ntmps167 rfl ?_
 refine aq ?_
 refine lp 0 3 rfl rfl rfl fun hlen=> ?_
 unfold maxLen at hlen
 refine an (ai (aR (2,0) _ rfl rfl) (ai (bp _ fz) (aj (aq (am (bb rfl rfl rfl (cf rfl rfl rfl (jY rfl rfl rfl (cL rfl (aQ rfl rfl ah ?_))))))))))
 refine aQ rfl rfl ah ?_
 refine aQ rfl rfl ah ?_
 refine ai (aE _ _ _ rfl bR) (cL rfl (ay rfl rfl (aI _ nB) (ay rfl rfl (aA _ aa rfl rfl rfl) (ay rfl rfl (aF _ aa rfl rfl fx) (ay rfl rfl (aH aa al (gE l _ rfl ab s) rfl rfl) ?_)))))
 refine ay rfl rfl (cu _ rfl rfl) (ai (aE _ _ _ rfl bR) (aj (bL rfl (by rw [decide_eq_false hs];rfl) ?_)))
 refine aq ?_
 refine aM (σ':=aD 45 [(1,_),(2,_)] [((2,0),_)] [] []) kp ?_
 refine an (ai (bp _ fz) (aj (am (ai (aI _ fz) (eW rfl (ai (wi (24,0) _ _ aa rfl (.sl (by simp)) ab rfl) ?_))))))
 refine fh rfl (aj (an (gG rfl (bb rfl rfl rfl (ai (aF _ aa rfl rfl fx) (ai (bh _ _ aa rfl ag (by (simp <;> rfl)) ah rfl) ?_))))))
 refine ai (dt (29,0) _ _ aa rfl rfl (by simp) (.sl rfl) ab rfl (mY _ _) (show l.length+1=(l++[s]).length by simp)) ?_
 refine fh rfl (aj (aU fun K6 hK6=> ?_))
 refine am (be rfl (aj (ax ?_)))
 refine aM (Le.frzS 1 (ys:=fl (l++[s])) rfl rfl rfl (by rw [List.drop_zero,Nat.mul_one];exact List.take_of_length_le (by simp)) (by simp)) ?_
 refine bq (α:=Nat) (fun j=> j≤L.length) 45 [(2,_)] [((2,0),_)] (fun j=> [(6, .v (.int .i64 (j:Int))),(1, .sl (F j).length (fl (F j)))]) (fun j=> []) [] [] (fun j=> L.length - j) 0 ?_ (by
  refine Le.mkJ [] [] rfl ?_ ?_ trivial trivial ?_
  ·exact ⟨(iP rfl),(co ag),(jf (by rw [hF]) (by rw [hF])),trivial⟩
  ·exact ⟨(ca rfl rfl rfl),trivial⟩
  kernel_rfl) ?_
 ·omega
 intro j hj
 refine aU fun K8 hK8=> ?_
 refine am (aX rfl (bb rfl rfl rfl (eV rfl rfl rfl (ai (bn _ aa rfl) (ai (bm _ _ rfl rfl rfl) (aj (aP rfl (fun hc34=> ?_) (fun hc34=> ?_))))))))
 ·skip
  refine bs (hK8 _ ?_)
  clear hK8;try clear K8
  refine aq (ax (an (bb rfl rfl rfl (eV rfl rfl rfl (aX rfl (ai (bo _ _ aa rfl rfl _ rfl ab (by (simp only [aN,bg,bj,bv,bu,bH,bz];omega)) ag) ?_))))))
  refine ai (cd _ aa rfl (by exact cN _ _ ab) rfl) ?_
  refine eW rfl (ai (aH aa al (h j ab) rfl rfl) ?_)
  refine kD rfl (dS (an (aX rfl (ai (aZ _ _ rfl rfl (bE ab)) ?_))))
  refine be rfl (aJ (⟨j+1,?_,?_,?_⟩))
  ·omega
  ·skip
   refine Le.mkJ [] [] rfl ?_ ?_ trivial trivial ?_
   ·exact ⟨(iP rfl),(co ag),(jf ag ag),trivial⟩
   ·exact ⟨(ca rfl rfl rfl),trivial⟩
   kernel_rfl
  omega
 obtain rfl:j=L.length:=by omega
 refine bD (id (hK6 _ ?_))
 clear hK6;try clear K6
 exact am (eW rfl (kD rfl (aj (aG (pU rfl rfl)))))
theorem ub (n:Int) (s:Tx) (L:List Nd) (l:List Tx) (hs:s∈l) (hl:l.length≤1000) (F:Nat→List Tx) (hF:F 0=l) (h: ∀ j,j < L.length→Spec Tryz.prog 167 (ba [pq (ld L j), .sl (F j).length (fl (F j))] []) (aO (.sl (F (j+1)).length (fl (F (j+1)))) [])):
  Spec Tryz.prog 167 (ba [.agg [.v (.int .i64 1), .v (.int .i64 n), .v (bt s), .sl L.length (mN L)], .sl l.length (fl l)] []) (aO (.sl (F L.length).length (fl (F L.length))) []):=by
 refine Spec.ofN Tryz.func167 rfl Tryz.ntmps167 rfl ?_
 refine aq ?_
 refine lp 0 3 rfl rfl rfl fun hlen=> ?_
 unfold maxLen at hlen
 refine an (ai (aR (2,0) _ rfl rfl) (ai (bp _ fz) (aj (aq (am (bb rfl rfl rfl (cf rfl rfl rfl (jY rfl rfl rfl (cL rfl (aQ rfl rfl ah ?_))))))))))
 refine aQ rfl rfl ah ?_
 refine aQ rfl rfl ah ?_
 refine ai (aE _ _ _ rfl bR) (cL rfl (ay rfl rfl (aI _ nB) (ay rfl rfl (aA _ aa rfl rfl rfl) (ay rfl rfl (aF _ aa rfl rfl fx) (ay rfl rfl (aH aa al (gE l _ rfl ab s) rfl rfl) ?_)))))
 refine ay rfl rfl (cu _ rfl rfl) (ai (aE _ _ _ rfl bR) (aj (aW rfl (by rw [decide_eq_true hs];rfl) ?_)))
 refine aS (aU fun K4 hK4=> ?_)
 refine aq ?_
 refine aM (σ':=aD 45 [(1,_),(2,_)] [((2,0),_)] [] []) kp ?_
 refine an (be rfl (aj (ax ?_)))
 refine bq (α:=Nat) (fun j=> j≤L.length) 45 [(2,_)] [((2,0),_)] (fun j=> [(6, .v (.int .i64 (j:Int))),(1, .sl (F j).length (fl (F j)))]) (fun j=> []) [] [] (fun j=> L.length - j) 0 ?_ (by
  refine Le.mkJ [] [] rfl ?_ ?_ trivial trivial ?_
  ·exact ⟨(iP rfl),(co ag),(jf (by rw [hF]) (by rw [hF])),trivial⟩
  ·exact ⟨(ca rfl rfl rfl),trivial⟩
  kernel_rfl) ?_
 ·omega
 intro j hj
 refine aU fun K6 hK6=> ?_
 refine am (aX rfl (bb rfl rfl rfl (eV rfl rfl rfl (ai (bn _ aa rfl) (ai (bm _ _ rfl rfl rfl) (aj (aP rfl (fun hc34=> ?_) (fun hc34=> ?_))))))))
 ·skip
  refine bs (hK6 _ ?_)
  clear hK6;try clear K6
  refine aq (ax (an (bb rfl rfl rfl (eV rfl rfl rfl (aX rfl (ai (bo _ _ aa rfl rfl _ rfl ab (by (simp only [aN,bg,bj,bv,bu,bH,bz];omega)) ag) ?_))))))
  refine ai (cd _ aa rfl (by exact cN _ _ ab) rfl) ?_
  refine eW rfl (ai (aH aa al (h j ab) rfl rfl) ?_)
  refine kD rfl (dS (an (aX rfl (ai (aZ _ _ rfl rfl (bE ab)) ?_))))
  refine be rfl (aJ (⟨j+1,?_,?_,?_⟩))
  ·omega
  ·skip
   refine Le.mkJ [] [] rfl ?_ ?_ trivial trivial ?_
   ·exact ⟨(iP rfl),(co ag),(jf ag ag),trivial⟩
   ·exact ⟨(ca rfl rfl rfl),trivial⟩
   kernel_rfl
  omega
 obtain rfl:j=L.length:=by omega
 refine bD (id (hK4 _ ?_))
 clear hK4;try clear K4
 exact am (eW rfl (kD rfl (aj (aG (pU rfl rfl)))))
theorem tv (n:Int) (s:Tx) (L:List Nd) (l:List Tx) (hs:s∉l) (hl:l.length≤1000) (F:Nat→List Tx) (hF:F 0=l++[s]) (h: ∀ j,j < L.length→Spec Tryz.prog 167 (ba [pq (ld L j), .sl (F j).length (fl (F j))] []) (aO (.sl (F (j+1)).length (fl (F (j+1)))) [])):
  Spec Tryz.prog 167 (ba [.agg [.v (.int .i64 14), .v (.int .i64 n), .v (bt s), .sl L.length (mN L)], .sl l.length (fl l)] []) (aO (.sl (F L.length).length (fl (F L.length))) []):=by
 refine Spec.ofN Tryz.func167 rfl Tryz.ntmps167 rfl ?_
 refine aq ?_
 refine lp 0 3 rfl rfl rfl fun hlen=> ?_
 unfold maxLen at hlen
 refine an (ai (aR (2,0) _ rfl rfl) (ai (bp _ fz) (aj (aq (am (bb rfl rfl rfl (cf rfl rfl rfl (gO rfl rfl rfl (cL rfl (ay rfl rfl (aA _ aa rfl rfl rfl) ?_))))))))))
 refine ay rfl rfl (aF _ aa rfl rfl eg) (ay rfl rfl (bB (r:=true) _ _ rfl rfl rfl) (ai (aE _ _ _ rfl bR) (cL rfl (ay rfl rfl (aI _ nB) (ay rfl rfl (aA _ aa rfl rfl rfl) (ay rfl rfl (aF _ aa rfl rfl fx) (ay rfl rfl (aH aa al (gE l _ rfl ab s) rfl rfl) ?_)))))))
 refine ay rfl rfl (cu _ rfl rfl) (ai (aE _ _ _ rfl bR) (aj (bL rfl (by rw [decide_eq_false hs];rfl) ?_)))
 refine aq ?_
 refine aM (σ':=aD 45 [(1,_),(2,_)] [((2,0),_)] [] []) kp ?_
 refine an (ai (bp _ fz) (aj (am (ai (aI _ fz) (eW rfl (ai (wi (24,0) _ _ aa rfl (.sl (by simp)) ab rfl) ?_))))))
 refine fh rfl (aj (an (gG rfl (bb rfl rfl rfl (ai (aF _ aa rfl rfl fx) (ai (bh _ _ aa rfl ag (by (simp <;> rfl)) ah rfl) ?_))))))
 refine ai (dt (29,0) _ _ aa rfl rfl (by simp) (.sl rfl) ab rfl (mY _ _) (show l.length+1=(l++[s]).length by simp)) ?_
 refine fh rfl (aj (aU fun K6 hK6=> ?_))
 refine am (be rfl (aj (ax ?_)))
 refine aM (Le.frzS 1 (ys:=fl (l++[s])) rfl rfl rfl (by rw [List.drop_zero,Nat.mul_one];exact List.take_of_length_le (by simp)) (by simp)) ?_
 refine bq (α:=Nat) (fun j=> j≤L.length) 45 [(2,_)] [((2,0),_)] (fun j=> [(6, .v (.int .i64 (j:Int))),(1, .sl (F j).length (fl (F j)))]) (fun j=> []) [] [] (fun j=> L.length - j) 0 ?_ (by
  refine Le.mkJ [] [] rfl ?_ ?_ trivial trivial ?_
  ·exact ⟨(iP rfl),(co ag),(jf (by rw [hF]) (by rw [hF])),trivial⟩
  ·exact ⟨(ca rfl rfl rfl),trivial⟩
  kernel_rfl) ?_
 ·omega
 intro j hj
 refine aU fun K8 hK8=> ?_
 refine am (aX rfl (bb rfl rfl rfl (eV rfl rfl rfl (ai (bn _ aa rfl) (ai (bm _ _ rfl rfl rfl) (aj (aP rfl (fun hc34=> ?_) (fun hc34=> ?_))))))))
 ·skip
  refine bs (hK8 _ ?_)
  clear hK8;try clear K8
  refine aq (ax (an (bb rfl rfl rfl (eV rfl rfl rfl (aX rfl (ai (bo _ _ aa rfl rfl _ rfl ab (by (simp only [aN,bg,bj,bv,bu,bH,bz];omega)) ag) ?_))))))
  refine ai (cd _ aa rfl (by exact cN _ _ ab) rfl) ?_
  refine eW rfl (ai (aH aa al (h j ab) rfl rfl) ?_)
  refine kD rfl (dS (an (aX rfl (ai (aZ _ _ rfl rfl (bE ab)) ?_))))
  refine be rfl (aJ (⟨j+1,?_,?_,?_⟩))
  ·omega
  ·skip
   refine Le.mkJ [] [] rfl ?_ ?_ trivial trivial ?_
   ·exact ⟨(iP rfl),(co ag),(jf ag ag),trivial⟩
   ·exact ⟨(ca rfl rfl rfl),trivial⟩
   kernel_rfl
  omega
 obtain rfl:j=L.length:=by omega
 refine bD (id (hK6 _ ?_))
 clear hK6;try clear K6
 exact am (eW rfl (kD rfl (aj (aG (pU rfl rfl)))))
theorem tj (n:Int) (s:Tx) (L:List Nd) (l:List Tx) (hs:s∈l) (hl:l.length≤1000) (F:Nat→List Tx) (hF:F 0=l) (h: ∀ j,j < L.length→Spec Tryz.prog 167 (ba [pq (ld L j), .sl (F j).length (fl (F j))] []) (aO (.sl (F (j+1)).length (fl (F (j+1)))) [])):
  Spec Tryz.prog 167 (ba [.agg [.v (.int .i64 14), .v (.int .i64 n), .v (bt s), .sl L.length (mN L)], .sl l.length (fl l)] []) (aO (.sl (F L.length).length (fl (F L.length))) []):=by
 refine Spec.ofN Tryz.func167 rfl Tryz.ntmps167 rfl ?_
 refine aq ?_
 refine lp 0 3 rfl rfl rfl fun hlen=> ?_
 unfold maxLen at hlen
 refine an (ai (aR (2,0) _ rfl rfl) (ai (bp _ fz) (aj (aq (am (bb rfl rfl rfl (cf rfl rfl rfl (gO rfl rfl rfl (cL rfl (ay rfl rfl (aA _ aa rfl rfl rfl) ?_))))))))))
 refine ay rfl rfl (aF _ aa rfl rfl eg) (ay rfl rfl (bB (r:=true) _ _ rfl rfl rfl) (ai (aE _ _ _ rfl bR) (cL rfl (ay rfl rfl (aI _ nB) (ay rfl rfl (aA _ aa rfl rfl rfl) (ay rfl rfl (aF _ aa rfl rfl fx) (ay rfl rfl (aH aa al (gE l _ rfl ab s) rfl rfl) ?_)))))))
 refine ay rfl rfl (cu _ rfl rfl) (ai (aE _ _ _ rfl bR) (aj (aW rfl (by rw [decide_eq_true hs];rfl) ?_)))
 refine aS (aU fun K4 hK4=> ?_)
 refine aq ?_
 refine aM (σ':=aD 45 [(1,_),(2,_)] [((2,0),_)] [] []) kp ?_
 refine an (be rfl (aj (ax ?_)))
 refine bq (α:=Nat) (fun j=> j≤L.length) 45 [(2,_)] [((2,0),_)] (fun j=> [(6, .v (.int .i64 (j:Int))),(1, .sl (F j).length (fl (F j)))]) (fun j=> []) [] [] (fun j=> L.length - j) 0 ?_ (by
  refine Le.mkJ [] [] rfl ?_ ?_ trivial trivial ?_
  ·exact ⟨(iP rfl),(co ag),(jf (by rw [hF]) (by rw [hF])),trivial⟩
  ·exact ⟨(ca rfl rfl rfl),trivial⟩
  kernel_rfl) ?_
 ·omega
 intro j hj
 refine aU fun K6 hK6=> ?_
 refine am (aX rfl (bb rfl rfl rfl (eV rfl rfl rfl (ai (bn _ aa rfl) (ai (bm _ _ rfl rfl rfl) (aj (aP rfl (fun hc34=> ?_) (fun hc34=> ?_))))))))
 ·skip
  refine bs (hK6 _ ?_)
  clear hK6;try clear K6
  refine aq (ax (an (bb rfl rfl rfl (eV rfl rfl rfl (aX rfl (ai (bo _ _ aa rfl rfl _ rfl ab (by (simp only [aN,bg,bj,bv,bu,bH,bz];omega)) ag) ?_))))))
  refine ai (cd _ aa rfl (by exact cN _ _ ab) rfl) ?_
  refine eW rfl (ai (aH aa al (h j ab) rfl rfl) ?_)
  refine kD rfl (dS (an (aX rfl (ai (aZ _ _ rfl rfl (bE ab)) ?_))))
  refine be rfl (aJ (⟨j+1,?_,?_,?_⟩))
  ·omega
  ·skip
   refine Le.mkJ [] [] rfl ?_ ?_ trivial trivial ?_
   ·exact ⟨(iP rfl),(co ag),(jf ag ag),trivial⟩
   ·exact ⟨(ca rfl rfl rfl),trivial⟩
   kernel_rfl
  omega
 obtain rfl:j=L.length:=by omega
 refine bD (id (hK4 _ ?_))
 clear hK4;try clear K4
 exact am (eW rfl (kD rfl (aj (aG (pU rfl rfl)))))
theorem vc (k:Nat) (hk:k≠1∧k≠14) (n:Int) (s:Tx) (L:List Nd) (l:List Tx) (hl:l.length≤1000) (F:Nat→List Tx) (hF:F 0=l) (h: ∀ j,j < L.length→Spec Tryz.prog 167 (ba [pq (ld L j), .sl (F j).length (fl (F j))] []) (aO (.sl (F (j+1)).length (fl (F (j+1)))) [])):
  Spec Tryz.prog 167 (ba [.agg [.v (.int .i64 (k:Int)), .v (.int .i64 n), .v (bt s), .sl L.length (mN L)], .sl l.length (fl l)] []) (aO (.sl (F L.length).length (fl (F L.length))) []):=by
 refine Spec.ofN Tryz.func167 rfl Tryz.ntmps167 rfl ?_
 refine aq ?_
 refine lp 0 3 rfl rfl rfl fun hlen=> ?_
 unfold maxLen at hlen
 refine an (ai (aR (2,0) _ rfl rfl) (ai (bp _ fz) (aj (aq (am (bb rfl rfl rfl (cf rfl rfl rfl (gO rfl rfl (beq_eq_false_iff_ne.2 ab) ?_))))))))
 refine cL rfl (ay rfl rfl (aA _ aa rfl rfl rfl) (ay rfl rfl (aF _ aa rfl rfl eg) (ay rfl rfl (bB (r:=false) _ _ rfl rfl (beq_eq_false_iff_ne.2 ab)) ?_)))
 refine ai (aE _ _ _ rfl bR) (cL rfl (aQ rfl rfl ah ?_))
 refine aQ rfl rfl ah ?_
 refine aQ rfl rfl ah ?_
 refine aQ rfl rfl ah ?_
 refine aQ rfl rfl ah ?_
 refine ai (aE _ _ _ rfl bR) (aj (aW rfl rfl (aS (aU fun K4 hK4=> ?_))))
 refine aq ?_
 refine aM (σ':=aD 45 [(1,_),(2,_)] [((2,0),_)] [] []) kp ?_
 refine an (be rfl (aj (ax ?_)))
 refine bq (α:=Nat) (fun j=> j≤L.length) 45 [(2,_)] [((2,0),_)] (fun j=> [(6, .v (.int .i64 (j:Int))),(1, .sl (F j).length (fl (F j)))]) (fun j=> []) [] [] (fun j=> L.length - j) 0 ?_ (by
  refine Le.mkJ [] [] rfl ?_ ?_ trivial trivial ?_
  ·exact ⟨(iP rfl),(co ag),(jf (by rw [hF]) (by rw [hF])),trivial⟩
  ·exact ⟨(ca rfl rfl rfl),trivial⟩
  kernel_rfl) ?_
 ·omega
 intro j hj
 refine aU fun K6 hK6=> ?_
 refine am (aX rfl (bb rfl rfl rfl (eV rfl rfl rfl (ai (bn _ aa rfl) (ai (bm _ _ rfl rfl rfl) (aj (aP rfl (fun hc34=> ?_) (fun hc34=> ?_))))))))
 ·skip
  refine bs (hK6 _ ?_)
  clear hK6;try clear K6
  refine aq (ax (an (bb rfl rfl rfl (eV rfl rfl rfl (aX rfl (ai (bo _ _ aa rfl rfl _ rfl ab (by (simp only [aN,bg,bj,bv,bu,bH,bz];omega)) ag) ?_))))))
  refine ai (cd _ aa rfl (by exact cN _ _ ab) rfl) ?_
  refine eW rfl (ai (aH aa al (h j ab) rfl rfl) ?_)
  refine kD rfl (dS (an (aX rfl (ai (aZ _ _ rfl rfl (bE ab)) ?_))))
  refine be rfl (aJ (⟨j+1,?_,?_,?_⟩))
  ·omega
  ·skip
   refine Le.mkJ [] [] rfl ?_ ?_ trivial trivial ?_
   ·exact ⟨(iP rfl),(co ag),(jf ag ag),trivial⟩
   ·exact ⟨(ca rfl rfl rfl),trivial⟩
   kernel_rfl
  omega
 obtain rfl:j=L.length:=by omega
 refine bD (id (hK4 _ ?_))
 clear hK4;try clear K4
 exact am (eW rfl (kD rfl (aj (aG (pU rfl rfl)))))
def fV (fs:List (List Tx→List Tx)) (l:List Tx):List Tx:=fs.foldl (fun l f=> f l) l
theorem kX {fs:List (List Tx→List Tx)} {l:List Tx} {j:Nat} (h:j < fs.length):fV (fs.take (j+1)) l=fs.getD j id (fV (fs.take j) l):=by
 rw [List.take_succ_eq_append_getElem h]
 unfold fV
 rw [List.foldl_append,List.getD_eq_getElem?_getD,List.getElem?_eq_getElem h];rfl
abbrev xN (nm:List Tx) (d:Nd) (f:List Tx→List Tx):Prop:= ∀ l,GN nm l→Spec Tryz.prog 167 (ba [pq d, .sl l.length (fl l)] []) (aO (.sl (f l).length (fl (f l))) [])∧GN nm (f l)
section
variable {nm:List Tx} (hnm:nm.length≤16) {L:List Nd} {fs:List (List Tx→List Tx)} (hfs:fs.length=L.length) (h: ∀ j,j < L.length→xN nm (ld L j) (fs.getD j id))
theorem qq (hfs:fs.length=L.length) (h: ∀ j,j < L.length→xN nm (ld L j) (fs.getD j id)) {l:List Tx} (hl:GN nm l): ∀ j,j≤L.length→GN nm (fV (fs.take j) l)
 | 0,_=> by simpa [fV] using hl
 | j+1,hj=> by
  rw [kX ab]
  exact (h j ab _ (qq hfs h hl j ab)).2
theorem cG (hnm:nm.length≤16) (hfs:fs.length=L.length) (h: ∀ j,j < L.length→xN nm (ld L j) (fs.getD j id)) (k:Nat) (hk:k≠1∧k≠14) (n:Nat) (s:Tx):xN nm (nd k n s L) (fV fs):=fun l hl=> by
 have hg:=qq hfs h hl
 have he:fV (fs.take L.length) l=fV fs l:=by rw [← hfs,List.take_length]
 have hw:=vc k hk n s L l (by have:=hl.len;omega) (fun j=> fV (fs.take j) l) rfl fun j hj=> by
  rw [show fV (fs.take (j+1)) l=_ from kX ab]
  exact (h j hj _ (hg j ab)).1
 rw [he] at hw
 exact ⟨hw,he ▸ hg _ (Nat.le_refl _)⟩
theorem zf (hnm:nm.length≤16) (hfs:fs.length=L.length) (h: ∀ j,j < L.length→xN nm (ld L j) (fs.getD j id)) (n:Nat) {i:Nat} (hi:i < nm.length):xN nm (nd 1 n (nm.getD i []) L) (fun l=> fV fs (iO (nm.getD i []) l)):=fun l hl=> by
 have hg:=qq hfs h (hl.add hi)
 have he:fV (fs.take L.length) (iO (nm.getD i []) l)=fV fs (iO (nm.getD i []) l):=by rw [← hfs,List.take_length]
 have hkid: ∀ j,j < L.length→_:=fun j hj=> (h j hj _ (hg j ab)).1
 have hll:=hl.len
 show Spec _ _ _ (aO (.sl (fV fs (iO (nm.getD i []) l)).length (fl (fV fs (iO (nm.getD i []) l)))) [])∧GN nm (fV fs (iO (nm.getD i []) l))
 rw [← he]
 refine ⟨?_,hg _ (Nat.le_refl _)⟩
 by_cases hs:nm.getD i []∈l
 ·exact ub n _ L l hs ab (fun j=> fV (fs.take j) (iO (nm.getD i []) l)) (by show iO _ l=l;unfold iO;rw [if_pos hs]) fun j hj=> by
   rw [show fV (fs.take (j+1)) (iO (nm.getD i []) l)=_ from kX ab]
   exact hkid j hj
 exact tT n _ L l hs ab (fun j=> fV (fs.take j) (iO (nm.getD i []) l)) (by show iO _ l=_;unfold iO;rw [if_neg hs]) fun j hj=> by
  rw [show fV (fs.take (j+1)) (iO (nm.getD i []) l)=_ from kX ab]
  exact hkid j hj
end
theorem yY {nm:List Tx} (hnm:nm.length≤16) {i:Nat} (hi:i < nm.length):xN nm (nd 14 0 (nm.getD i []) []) (iO (nm.getD i [])):=fun l hl=> by
 have hll:=hl.len
 refine ⟨?_,hl.add hi⟩
 by_cases hs:nm.getD i []∈l
 ·exact tj 0 _ [] l hs ab (fun _=> iO (nm.getD i []) l) (by show iO _ l=l;unfold iO;rw [if_pos hs]) fun j hj=> by simp at hj
 exact tv 0 _ [] l hs ab (fun _=> iO (nm.getD i []) l) (by show iO _ l=_;unfold iO;rw [if_neg hs]) fun j hj=> by simp at hj
section
variable {nm:List Tx}
abbrev Ds (nm:List Tx) (L:List Nd) (fs:List (List Tx→List Tx)):Prop:= ∀ j,j < L.length→xN nm (ld L j) (fs.getD j id)
theorem rz:Ds nm [] []:=fun j hj=> by simp at hj
theorem qW {d:Nd} {f:List Tx→List Tx} {L:List Nd} {fs:List (List Tx→List Tx)} (h:xN nm d f) (h':Ds nm L fs):Ds nm (d::L) (f::fs):=fun j hj=> by
 cases j with
 | zero=> exact h
 | succ j=> exact h' j (by simpa using hj)
theorem dC (hnm:nm.length≤16): ∀ e:Ex,gZ nm.length e→xN nm (eM nm e) (tK nm e)
 | .int _,_=> cG hnm rfl rz 12 ab _ _
 | .bool _,_=> cG hnm rfl rz 13 ab _ _
 | .name _,_=> cG hnm rfl rz 15 ab _ _
 | .var i,h=> yY hnm h
 | .draw e,h=> cG hnm rfl (qW (dC hnm e h) rz) 16 ab _ _
 | .neg e,h=> cG hnm rfl (qW (dC hnm e h) rz) 17 ab _ _
 | .not e,h=> cG hnm rfl (qW (dC hnm e h) rz) 17 ab _ _
 | .bin _ a b,h=> cG hnm rfl (qW (dC hnm a h.1) (qW (dC hnm b h.2) rz)) 18 ab _ _
 | .and a b,h=> cG hnm rfl (qW (dC hnm a h.1) (qW (dC hnm b h.2) rz)) 18 ab _ _
 | .or a b,h=> cG hnm rfl (qW (dC hnm a h.1) (qW (dC hnm b h.2) rz)) 18 ab _ _
def GI (nm:List Tx):Bk→List (List Tx→List Tx)
 | .nil=> []
 | .cons s b=> Ma nm s::GI nm b
theorem xa (nm:List Tx): ∀ b:Bk,(GI nm b).length=(jb nm b).length
 | .nil=> by simp [GI,jb]
 | .cons s b=> by simp [GI,jb,xa nm b]
theorem uU (nm:List Tx): ∀ (b:Bk) (l:List Tx),fV (GI nm b) l=Dt nm b l
 | .nil,l=> rfl
 | .cons s b,l=> by rw [Dt,← uU nm b];rfl
theorem mi (hnm:nm.length≤16) {b:Bk} (h:Ds nm (jb nm b) (GI nm b)):xN nm (iX nm b) (Dt nm b):=by
 have:=cG hnm (xa nm b) h 11 ab 0 []
 rwa [show fV (GI nm b)=Dt nm b from funext (uU nm b)] at this
mutual
theorem BF (hnm:nm.length≤16): ∀ s:Sm,gH nm.length s→xN nm (Fv nm s) (Ma nm s)
 | .assign i e,h=> by rw [gH] at h;exact zf hnm rfl (qW (dC hnm e h.2) rz) 0 h.1
 | .send t k a b,h=> by rw [gH] at h;exact cG hnm rfl (qW (dC hnm t h.2.1) (qW (dC hnm a h.2.2.1) (qW (dC hnm b h.2.2.2) rz))) 4 ab _ _
 | .timer _,_=> cG hnm rfl rz 5 ab _ _
 | .cancel _,_=> cG hnm rfl rz 6 ab _ _
 | .sync,_=> cG hnm rfl rz 7 ab _ _
 | .stop,_=> cG hnm rfl rz 10 ab _ _
 | .reply a b,h=> by rw [gH] at h;exact cG hnm rfl (qW (dC hnm a h.1) (qW (dC hnm b h.2) rz)) 8 ab _ _
 | .fail e,h=> by rw [gH] at h;exact cG hnm rfl (qW (dC hnm e h) rz) 9 ab _ _
 | .loop c b,h=> by rw [gH] at h;exact cG hnm rfl (qW (dC hnm c h.1) (qW (mi hnm (lJ hnm b h.2)) rz)) 3 ab _ _
 | .ite c a b,h=> by rw [gH] at h;exact cG hnm rfl (qW (dC hnm c h.1) (qW (mi hnm (lJ hnm a h.2.1)) (qW (mi hnm (lJ hnm b h.2.2)) rz))) 2 ab _ _
theorem lJ (hnm:nm.length≤16): ∀ b:Bk,lg nm.length b→Ds nm (jb nm b) (GI nm b)
 | .nil,_=> rz
 | .cons s b,h=> by rw [lg] at h;exact qW (BF hnm s h.1) (lJ hnm b h.2)
end
theorem Ax (hnm:nm.length≤16) (b:Bk) (h:lg nm.length b):xN nm (iX nm b) (Dt nm b):=mi hnm (lJ hnm b h)
end

theorem mL {l:List Tx} (h:l.Nodup) {i j:Nat} (hi:i < l.length) (hj:j < l.length) (e:l.getD i []=l.getD j []):i=j:=by
 rw [List.getD_eq_getElem?_getD,List.getD_eq_getElem?_getD,List.getElem?_eq_getElem hi,List.getElem?_eq_getElem hj] at e
 have h:=List.pairwise_iff_getElem.1 h
 rcases Nat.lt_trichotomy i j with hlt | rfl | hlt
 ·exact absurd (Option.some.inj (by simpa using e)) (h i j hi hj hlt)
 ·rfl
 exact absurd (Option.some.inj (by simpa using e)).symm (h j i hj hi hlt)
theorem rX {a b:List Tx} {k:Nat} (h:k < a.length):a.getD k []=(a++b).getD k []:=by
 rw [List.getD_eq_getElem?_getD,List.getD_eq_getElem?_getD,List.getElem?_append_left h]
theorem getD_right {a b:List Tx} {k:Nat}:b.getD k []=(a++b).getD (a.length+k) []:=by
 rw [List.getD_eq_getElem?_getD,List.getD_eq_getElem?_getD,List.getElem?_append_right ab,Nat.add_sub_cancel_left]
theorem mG (d v:List Tx) (on:List PV) (no:Nat) (hn:(d++v).Nodup) (hl:(d++v).length≤1000) (i:Nat) (hi:i < (d++v).length):
  Spec Tryz.prog 121 (ba [.agg [.sl d.length (fl d), .sl v.length (fl v), .sl no on], .v (bt ((d++v).getD i []))] []) (aO (.v (.int .i64 (i:Int))) []):=by
 have hl2:(d++v).length=d.length+v.length:=List.length_append
 refine Spec.ofN Tryz.func121 rfl Tryz.ntmps121 rfl ?_
 refine am (ai (aR (2,0) _ rfl rfl) (be rfl (aj (aU fun K2 hK2=> ?_))))
 refine am (be rfl (aj (ax ?_)))
 refine bq (α:=Nat) (fun k=> k≤d.length∧k≤i) 41 [(1,_),(2,_)] [((2,0),_)] (fun k=> [(5, .v (.int .i64 (k:Int)))]) (fun k=> []) [] [] (fun k=> d.length - k) 0 ?_ (by
  refine Le.mkJ [] [] rfl ?_ ?_ trivial trivial ?_
  ·exact ⟨(iV rfl),(iP rfl),(co ag),trivial⟩
  ·exact ⟨(ca rfl rfl rfl),trivial⟩
  kernel_rfl) ?_
 ·exact ⟨Nat.zero_le _,Nat.zero_le _⟩
 intro k hk
 obtain ⟨hk,hki⟩:=hk
 refine aU fun K4 hK4=> ?_
 refine am (aX rfl (bb rfl rfl rfl (eV rfl rfl rfl (ai (bn _ aa rfl) (ai (bm _ _ rfl rfl rfl) (aj (aP rfl (fun hc11=> ?_) (fun hc11=> ?_))))))))
 ·skip
  refine bs (hK4 _ ?_)
  clear hK4;try clear K4
  refine aq (ax (am (bb rfl rfl rfl (eV rfl rfl rfl (aX rfl (ai (bo _ _ aa rfl rfl _ rfl ab (by (simp only [aN,bg,bj,bv,bu,bH,bz,List.length_map];omega)) (by exact Nat.mul_one _)) ?_))))))
  refine ai (bO _ aa rfl (by exact jQ _ _ ab) rfl) ?_
  refine eh rfl (ai (aV _ _ Tryz.underlying9 rfl rfl rfl) (aj (aP rfl (fun hc20=> ?_) (fun hc20=> ?_))))
  ·skip
   have he:k=i:=mL hn ab hi ((rX ab).symm.trans hc20)
   refine am (aX rfl (be rfl (aj (aG (rQ rfl rfl ?_)))))
   rw [he]
  have he:k≠i:=fun e=> hc20 ((rX ab).trans (by rw [e]))
  refine cr (an (aX rfl (ai (aZ _ _ rfl rfl (bE ab)) ?_)))
  refine be rfl (aJ (⟨k+1,?_,?_,?_⟩))
  ·exact ⟨by omega,by omega⟩
  ·skip
   refine Le.mkJ [] [] rfl ?_ ?_ trivial trivial ?_
   ·exact ⟨(iV rfl),(iP rfl),(co ag),trivial⟩
   ·exact ⟨(ca rfl rfl rfl),trivial⟩
   kernel_rfl
  omega
 refine bD (id (hK2 _ ?_))
 clear hK2;try clear K2
 refine aq (am (be rfl (aj (ax ?_))))
 refine bq (α:=Nat) (fun q=> q≤v.length∧d.length+q≤i) 41 [(1,_),(2,_)] [((2,0),_)] (fun q=> [(6, .v (.int .i64 (q:Int)))]) (fun q=> []) [] [] (fun q=> v.length - q) 0 ?_ (by
  refine Le.mkJ [] [] rfl ?_ ?_ trivial trivial ?_
  ·exact ⟨(iV rfl),(iP rfl),(co ag),trivial⟩
  ·exact ⟨(ca rfl rfl rfl),trivial⟩
  kernel_rfl) ?_
 ·exact ⟨Nat.zero_le _,by omega⟩
 intro q hq
 obtain ⟨hq,hqi⟩:=hq
 refine aU fun K11 hK11=> ?_
 refine am (aX rfl (bb rfl rfl rfl (eV rfl rfl rfl (ai (bn _ aa rfl) (ai (bm _ _ rfl rfl rfl) (aj (aP rfl (fun hc26=> ?_) (fun hc26=> ?_))))))))
 ·skip
  refine bs (hK11 _ ?_)
  clear hK11;try clear K11
  refine aq (ax (am (bb rfl rfl rfl (eV rfl rfl rfl (aX rfl (ai (bo _ _ aa rfl rfl _ rfl ab (by (simp only [aN,bg,bj,bv,bu,bH,bz,List.length_map];omega)) (by exact Nat.mul_one _)) ?_))))))
  refine ai (bO _ aa rfl (by exact jQ _ _ ab) rfl) ?_
  refine eh rfl (ai (aV _ _ Tryz.underlying9 rfl rfl rfl) (aj (aP rfl (fun hc35=> ?_) (fun hc35=> ?_))))
  ·skip
   have he:d.length+q=i:=mL hn ab hi (getD_right.symm.trans hc35)
   refine am (bb rfl rfl rfl (eV rfl rfl rfl (ai (bn _ aa rfl) (aX rfl (ai (aZ _ _ rfl rfl (bE ab)) ?_)))))
   refine be rfl (aj (aG (rQ rfl rfl ?_)))
   omega
  have he:d.length+q≠i:=fun e=> hc35 (getD_right.trans (by rw [e]))
  refine cr (an (aX rfl (ai (aZ _ _ rfl rfl (bE ab)) ?_)))
  refine be rfl (aJ (⟨q+1,?_,?_,?_⟩))
  ·exact ⟨by omega,by omega⟩
  ·skip
   refine Le.mkJ [] [] rfl ?_ ?_ trivial trivial ?_
   ·exact ⟨(iV rfl),(iP rfl),(co ag),trivial⟩
   ·exact ⟨(ca rfl rfl rfl),trivial⟩
   kernel_rfl
  omega
 exact absurd hqi ab
theorem Cv (ons:List (Nat×Bk)) (nm:List Tx) (k:Nat) (h:k < ons.length):oD (ons.map fun p=> (p.1,iX nm p.2)) k=((ons[k]).1,iX nm (ons[k]).2):=by
 rw [ox _ _ (by simpa using h),List.getElem_map]
theorem ug (l:List Hd) (k:Nat) (h:k < l.length):PV.ups (((mo l).drop (k*5+1)).take 4)=[.v (.int .i64 ((oD l k).2.k:Int)), .v (.int .i64 ((oD l k).2.n:Int)), .v (bt (oD l k).2.s), .sl (oD l k).2.kn (oD l k).2.kids]:=by
 have e:=ms ww 5 (fun _=> rfl) l k h
 have:((mo l).drop (k*5+1)).take 4=(((l.flatMap ww).drop (k*5)).take 5).drop 1:=by
  rw [List.drop_take,List.drop_drop];rfl
 rw [this,e,ox l k h];rfl
theorem qM (d v:List Tx) (ons:List (Nat×Bk)) (hn:(d++v).Nodup) (hl:(d++v).length≤16) (ho: ∀ p∈ons,lg (d++v).length p.2) (hw: ∀ p∈ons,pP p.2=true) (hc:ons.length≤1000):
  Spec Tryz.prog 97 (ba [JJ d v (ons.map fun p=> (p.1,iX (d++v) p.2))] []) (aO (.v (.int .i64 0)) []):=by
 obtain ⟨H,hH⟩: ∃ H,H=ons.map fun p=> (p.1,iX (d++v) p.2):=⟨_,rfl⟩
 have hHl:H.length=ons.length:=by rw [hH,List.length_map]
 rw [← hH]
 have hHk: ∀ k (h:k < ons.length),oD H k=((ons[k]).1,iX (d++v) (ons[k]).2):=fun k h=> by rw [hH];exact Cv ons _ k h
 clear hH
 refine Spec.ofN Tryz.func97 rfl Tryz.ntmps97 rfl ?_
 refine am (ai (aR (1,0) _ rfl rfl) (be rfl (aj (aU fun K2 hK2=> ?_))))
 refine am (be rfl (aj (ax ?_)))
 refine bq (α:=Nat) (fun k=> k≤H.length) 43 [(1,_)] [((1,0),_)] (fun k=> [(3, .v (.int .i64 (k:Int)))]) (fun k=> []) [] [] (fun k=> H.length - k) 0 ?_ (by
  refine Le.mkJ [] [] rfl ?_ ?_ trivial trivial ?_
  ·exact ⟨(iP rfl),(co ag),trivial⟩
  ·exact ⟨(ca rfl rfl rfl),trivial⟩
  kernel_rfl) ?_
 ·omega
 intro k hk
 refine aU fun K4 hK4=> ?_
 refine am (aX rfl (bb rfl rfl rfl (eV rfl rfl rfl (ai (bn _ aa rfl) (ai (bm _ _ rfl rfl rfl) (aj (aP rfl (fun hc11=> ?_) (fun hc11=> ?_))))))))
 ·skip
  have hk2:k < ons.length:=by omega
  obtain ⟨b,hb⟩: ∃ b,b=(ons[k]).2:=⟨_,rfl⟩
  have hkH:=hHk k hk2
  rw [← hb] at hkH
  have hwb:=Fm (d++v) b (hb ▸ hw _ (List.getElem_mem hk2))
  obtain ⟨hnb,hng⟩:=Ax hl b (hb ▸ ho _ (List.getElem_mem hk2)) [] GN.nil
  have hbody:=ug H k ab
  rw [hkH] at hbody
  generalize Dt (d++v) b []=M at hnb hng
  have hMl:=hng.len
  refine bs (hK4 _ ?_)
  clear hK4;try clear K4
  refine aU fun K6 hK6=> ?_
  refine ax (am (bb rfl rfl rfl (eV rfl rfl rfl (aX rfl (ai (bo _ _ aa rfl rfl _ rfl ab (by (simp only [aN,bg,bj,bv,bu,bH,bz,List.length_map];omega)) ag) ?_)))))
  refine ai (cX _ aa rfl rfl) (ai (cd _ aa rfl (by exact hbody) rfl) ?_)
  refine ai (aH aa al (hwb) rfl rfl) ?_
  refine cp rfl (aj (aq (am (cL rfl (ai (cu (r:=false) _ rfl rfl) (aj (aW rfl rfl (aS (aq ?_)))))))))
  refine aM (σ':=aD 43 [(1,_),(3,_)] [((1,0),_)] [] []) kp ?_
  refine an (bb rfl rfl rfl (eV rfl rfl rfl (aX rfl (ai (bo _ _ aa rfl rfl _ rfl ab (by (simp only [aN,bg,bj,bv,bu,bH,bz,List.length_map];omega)) ag) ?_))))
  refine ai (cX _ aa rfl rfl) (ai (cd _ aa rfl (by exact hbody) rfl) ?_)
  refine ai (aH aa al (hnb) rfl rfl) ?_
  refine kD rfl (aj (am (be rfl (aj (ax ?_)))))
  refine bq (α:=Nat) (fun q=> q≤M.length) 43 [(1,_),(3,_),(5,_)] [((1,0),_)] (fun q=> [(6, .v (.int .i64 (q:Int)))]) (fun q=> []) [] [] (fun q=> M.length - q) 0 ?_ (by
   refine Le.mkJ [] [] rfl ?_ ?_ trivial trivial ?_
   ·exact ⟨(iP rfl),(iV rfl),(iS rfl),(co ag),trivial⟩
   ·exact ⟨(ca rfl rfl rfl),trivial⟩
   kernel_rfl) ?_
  ·omega
  intro q hq
  refine aU fun K12 hK12=> ?_
  refine am (aX rfl (eW rfl (ai (bn _ aa rfl) (ai (bm _ _ rfl rfl rfl) (aj (aP rfl (fun hc33=> ?_) (fun hc33=> ?_)))))))
  ·skip
   obtain ⟨i,hi,hiq⟩: ∃ i,i < (d++v).length∧M.getD q []=(d++v).getD i []:=by
    have hm:=hng.2 _ (kb (show q < M.length by omega))
    obtain ⟨i,hi,he⟩:=List.getElem_of_mem hm
    exact ⟨i,hi,by rw [List.getD_eq_getElem?_getD (l:=d++v),List.getElem?_eq_getElem hi,← he];rfl⟩
   have hix:=mG d v (mo H) H.length hn ab i hi
   rw [← hiq] at hix
   refine bs (hK12 _ ?_)
   clear hK12;try clear K12
   refine aq (ax (aq ?_))
   refine aM (σ':=aD 43 [(1,_),(3,_),(5,_),(6,_)] [((1,0),_)] [] []) kp ?_
   refine bK 7 [36,37,38,39,40,41,42] [] ae ae rfl (aK rfl) (rfl:_=[_,_,_,_,_,_,_]) (rfl:_=[]) ?_
   refine ap (_,[]) (fun τ=> az _ aa rfl rfl rfl rfl) ?_
   refine fF rfl ?_
   refine ap (_,[]) (fun τ=> aI _ nB) ?_
   refine fL rfl ?_
   refine ap (_,[]) (fun τ=> aI _ eu) ?_
   refine fA rfl ?_
   refine ap (_,[]) (fun τ=> bo _ _ aa rfl rfl _ rfl ab (by (simp only [aN,bg,bj,bv,bu,bH,bz,List.length_map];omega)) (by exact Nat.mul_one _)) ?_
   refine fT rfl ?_
   refine ap (_,[]) (fun τ=> bO _ aa rfl (by exact jQ _ _ ab) rfl) ?_
   refine gj rfl ?_
   refine ap (_,[]) (fun τ=> (aH aa al (hix) rfl rfl)) ?_
   refine gU rfl ?_
   refine ap (_,[]) (fun τ=> bm (r:=false) _ _ rfl rfl (decide_eq_false ab)) ?_
   refine iC rfl (bl ⟨rfl,?_⟩)
   refine aj (aW rfl rfl (cr (an (aX rfl (ai (aZ _ _ rfl rfl (bE ab)) ?_)))))
   refine be rfl (aJ (⟨q+1,?_,?_,?_⟩))
   ·omega
   ·skip
    refine Le.mkJ [] [] rfl ?_ ?_ trivial trivial ?_
    ·exact ⟨(iP rfl),(iV rfl),(iS rfl),(co ag),trivial⟩
    ·exact ⟨(ca rfl rfl rfl),trivial⟩
    kernel_rfl
   omega
  refine bD (id (hK6 _ ?_))
  clear hK6;try clear K6
  refine an (aX rfl (ai (aZ _ _ rfl rfl (bE ab)) ?_))
  refine be rfl (aJ (⟨k+1,?_,?_,?_⟩))
  ·omega
  ·skip
   refine Le.mkJ [] [] rfl ?_ ?_ trivial trivial ?_
   ·exact ⟨(iP rfl),(co ag),trivial⟩
   ·exact ⟨(ca rfl rfl rfl),trivial⟩
   kernel_rfl
  omega
 refine bD (id (hK2 _ ?_))
 clear hK2;try clear K2
 exact am (be rfl (aj (aG (ft rfl rfl))))
end Go.Proofs.YtmjnackchaahbaaGreat
