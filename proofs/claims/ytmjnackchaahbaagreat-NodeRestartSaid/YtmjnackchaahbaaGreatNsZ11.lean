/- part 11 -/
import Derived.Test.YtmjnackchaahbaaGreatNsZ10
set_option linter.unusedSimpArgs false
set_option linter.unusedVariables false
namespace Go.Proofs.YtmjnackchaahbaaGreat
open Go.RowKit

def li (l:List Nd) (j:Nat):Nd:=l.getD j ⟨0,0,[],0,[]⟩
theorem IB (l:List Nd) (k:Nat) (h:k < l.length):li l k=l[k]:=by simp [li,h]
theorem cQ (l:List Nd) (k:Nat) (h:k < l.length):PV.ups (((mK l).drop (k*4)).take 4)=[.v (.int .i64 ((li l k).k:Int)), .v (.int .i64 ((li l k).n:Int)), .v (bt (li l k).s), .sl (li l k).kn (li l k).kids]:=by
 rw [IB l k h,show ((mK l).drop (k*4)).take 4=l[k].row from mA Nd.row 4 (fun _=> rfl) l k h];rfl
theorem gE (l:List Tx) (n:Nat) (hn:l.length=n) (h1:n≤1000) (t:Tx):Spec Tryz.prog 204 (ba [.sl n (fm l), .v (bt t)] []) (aP (.v (.bool (decide (t∈l)))) []):=by
 refine Spec.ofN Tryz.func204 rfl Tryz.ntmps204 rfl ?_
 refine am (cq rfl (aj (aU fun K2 hK2=> ?_)))
 refine am (be rfl (aj (ay ?_)))
 refine br (α:=Nat) (fun k=> k≤n∧t∉l.take k) 18 [(0,_),(1,_)] [] (fun k=> [(5, .v (.int .i64 (k:Int)))]) (fun k=> []) [] [] (fun k=> n - k) 0 ?_ (by
  refine Le.mkJ [] [] rfl ?_ ?_ trivial trivial ?_
  ·exact ⟨(iS rfl),(iV rfl),(cp ag),trivial⟩
  ·exact trivial
  kernel_rfl) ?_
 ·exact ⟨Nat.zero_le _,by simp⟩
 intro k hk
 obtain ⟨hk,hnt⟩:=hk
 refine aU fun K4 hK4=> ?_
 refine am (aX rfl (eV rfl (ai (bn _ aa rfl) (ai (bm _ _ rfl rfl rfl) (aj (aR rfl (fun hc9=> ?_) (fun hc9=> ?_)))))))
 ·skip
  refine bs (hK4 _ ?_)
  clear hK4;try clear K4
  refine aq (ay (am (eV rfl (aX rfl (ai (bp _ _ aa rfl rfl _ rfl ab (by (simp only [aO,bi,bl,bw,bv,bI,bz];omega)) (by exact Nat.mul_one _)) ?_)))))
  refine ai (bO _ aa rfl (by exact jI _ _ ab) rfl) ?_
  refine ei rfl (ai (aV _ _ Tryz.underlying9 rfl rfl rfl) (aj (aR rfl (fun hc17=> ?_) (fun hc17=> ?_))))
  ·skip
   refine am (cq rfl (aj (aG (rN rfl rfl ?_))))
   exact decide_eq_true (hc17 ▸ jY ab)
  refine cr (an (aX rfl (ai (aZ _ _ rfl rfl (bE ab)) ?_)))
  refine be rfl (aJ (⟨k+1,?_,?_,?_⟩))
  ·exact ⟨by omega,kF hnt ab hc17⟩
  ·skip
   refine Le.mkJ [] [] rfl ?_ ?_ trivial trivial ?_
   ·exact ⟨(iS rfl),(iV rfl),(cp ag),trivial⟩
   ·exact trivial
   kernel_rfl
  omega
 have hall:t∉l:=by rwa [List.take_of_length_le ab] at hnt
 refine bB (id (hK2 _ ?_))
 clear hK2;try clear K2
 refine am (cq rfl (aj (aG (rN rfl rfl ?_))))
 exact decide_eq_false hall
def zh:List Tx:=[[60],[60,61],[62],[62,61],[61,61],[33,61]]
theorem mJ (t:Tx):Spec Tryz.prog 227 (ba [.v (bt t)] []) (aP (.v (.bool (decide (t∈zh)))) []):=by
 refine Spec.ofN Tryz.func227 rfl Tryz.ntmps227 rfl ?_
 refine am (cq rfl (aj (am (ai (bg _ _ aa rfl ag (by (simp <;> rfl)) ah rfl) ?_))))
 refine ei rfl (ai (aH aa al (gE zh 6 rfl ab t) rfl rfl) ?_)
 refine cq rfl (aj (aG (rN rfl rfl ?_)))
 rfl
theorem In (n:Nat):Spec Tryz.prog 203 (ba [pA (nd 12 n [] [])] []) (aP (.v (.int .i64 1)) []):=by
 refine Spec.ofN Tryz.func203 rfl Tryz.ntmps203 rfl ?_
 refine am (ai (aQ (1,0) _ rfl rfl) (be rfl (aj (aq (am (bc rfl rfl rfl (cd rfl rfl rfl (kv rfl rfl rfl (cN rfl (aM rfl rfl ah ?_))))))))))
 refine aM rfl rfl ah ?_
 refine aM rfl rfl ah ?_
 refine ai (aE _ _ _ rfl bN) (cN rfl (aM rfl rfl ah ?_))
 refine aM rfl rfl ah ?_
 refine aM rfl rfl ah ?_
 refine ai (aE _ _ _ rfl bN) (aj (bL rfl rfl (aq ?_)))
 refine aL (σ':=aD 80 [] [] [] []) kp ?_
 exact an (be rfl (aj (aG (fv rfl rfl))))
theorem Io (s:Tx):Spec Tryz.prog 203 (ba [pA (nd 14 0 s [])] []) (aP (.v (.int .i64 1)) []):=by
 refine Spec.ofN Tryz.func203 rfl Tryz.ntmps203 rfl ?_
 refine am (ai (aQ (1,0) _ rfl rfl) (be rfl (aj (aq (am (bc rfl rfl rfl (cd rfl rfl rfl (gQ rfl rfl rfl (cN rfl (ax rfl rfl (aA _ aa rfl rfl rfl) ?_))))))))))
 refine ax rfl rfl (aF _ aa rfl rfl ee) (ax rfl rfl (bC (r:=true) _ _ rfl rfl rfl) (ai (aE _ _ _ rfl bN) (cN rfl (aM rfl rfl ah ?_))))
 refine aM rfl rfl ah ?_
 refine aM rfl rfl ah ?_
 refine ai (aE _ _ _ rfl bN) (aj (bL rfl rfl (aq ?_)))
 refine aL (σ':=aD 80 [] [] [] []) kp ?_
 exact an (be rfl (aj (aG (fv rfl rfl))))
theorem FC (s:Tx):Spec Tryz.prog 203 (ba [pA (nd 15 0 s [])] []) (aP (.v (.int .i64 1)) []):=by
 refine Spec.ofN Tryz.func203 rfl Tryz.ntmps203 rfl ?_
 refine am (ai (aQ (1,0) _ rfl rfl) (be rfl (aj (aq (am (bc rfl rfl rfl (cd rfl rfl rfl (gQ rfl rfl rfl (cN rfl (ax rfl rfl (aA _ aa rfl rfl rfl) ?_))))))))))
 refine ax rfl rfl (aF _ aa rfl rfl ee) (ax rfl rfl (bC (r:=false) _ _ rfl rfl rfl) (ai (aE _ _ _ rfl bN) (cN rfl (ax rfl rfl (aA _ aa rfl rfl rfl) (ax rfl rfl (aF _ aa rfl rfl ee) (ax rfl rfl (bC (r:=true) _ _ rfl rfl rfl) (ai (aE _ _ _ rfl bN) (aj (bL rfl rfl (aq ?_))))))))))
 refine aL (σ':=aD 80 [] [] [] []) kp ?_
 exact an (be rfl (aj (aG (fv rfl rfl))))
theorem Ea (n:Nat):Spec Tryz.prog 203 (ba [pA (nd 13 n [] [])] []) (aP (.v (.int .i64 2)) []):=by
 refine Spec.ofN Tryz.func203 rfl Tryz.ntmps203 rfl ?_
 refine am (ai (aQ (1,0) _ rfl rfl) (be rfl (aj (aq (am (bc rfl rfl rfl (cd rfl rfl rfl (gQ rfl rfl rfl (cN rfl (ax rfl rfl (aA _ aa rfl rfl rfl) ?_))))))))))
 refine ax rfl rfl (aF _ aa rfl rfl ee) (ax rfl rfl (bC (r:=false) _ _ rfl rfl rfl) (ai (aE _ _ _ rfl bN) (cN rfl (ax rfl rfl (aA _ aa rfl rfl rfl) (ax rfl rfl (aF _ aa rfl rfl ee) (ax rfl rfl (bC (r:=false) _ _ rfl rfl rfl) (ai (aE _ _ _ rfl bN) (aj (aW rfl rfl (aS ?_))))))))))
 refine aq (aq ?_)
 refine aL (σ':=aD 80 [(1,_)] [((1,0),_)] [] []) kp ?_
 exact an (bc rfl rfl rfl (cd rfl rfl rfl (kv rfl rfl rfl (aj (bL rfl rfl (am (be rfl (aj (aG (fv rfl rfl))))))))))
theorem EG (L:List Nd) (hL:L.length≤3) (t:Nat→Nat) (ht: ∀ j,t j≤2) (h: ∀ j,j < L.length→Spec Tryz.prog 203 (ba [pA (li L j)] []) (aP (.v (.int .i64 (t j:Int))) [])) (r:Nat) (hr1:(∀ j,j < L.length→t j=1)→r=1) (hr0: ∀ j,j < L.length→t j≠1→r=0):
  Spec Tryz.prog 203 (ba [.agg [.v (.int .i64 16), .v (.int .i64 0), .v (bt []), .sl L.length (mK L)]] []) (aP (.v (.int .i64 (r:Int))) []):=by
 refine Spec.ofN Tryz.func203 rfl Tryz.ntmps203 rfl ?_
 refine am (ai (aQ (1,0) _ rfl rfl) (be rfl (aj (aq (am (bc rfl rfl rfl (cd rfl rfl rfl (gQ rfl rfl rfl (cN rfl (ax rfl rfl (aA _ aa rfl rfl rfl) ?_))))))))))
 refine ax rfl rfl (aF _ aa rfl rfl ee) (ax rfl rfl (bC (r:=false) _ _ rfl rfl rfl) (ai (aE _ _ _ rfl bN) (cN rfl (ax rfl rfl (aA _ aa rfl rfl rfl) (ax rfl rfl (aF _ aa rfl rfl ee) (ax rfl rfl (bC (r:=false) _ _ rfl rfl rfl) (ai (aE _ _ _ rfl bN) (aj (aW rfl rfl (aS ?_))))))))))
 refine aq (aq ?_)
 refine aL (σ':=aD 80 [(1,_)] [((1,0),_)] [] []) kp ?_
 refine an (bc rfl rfl rfl (cd rfl rfl rfl (gQ rfl rfl rfl (aj (aW rfl rfl (aS (aq (am (bc rfl rfl rfl (cd rfl rfl rfl ?_))))))))))
 refine ai (bU (r:=false) _ _ rfl rfl rfl) (cN rfl (aM rfl rfl ah ?_))
 refine aM rfl rfl ah ?_
 refine aM rfl rfl ah ?_
 refine ai (aE _ _ _ rfl bN) (cN rfl (aM rfl rfl ah ?_))
 refine aM rfl rfl ah ?_
 refine aM rfl rfl ah ?_
 refine ai (aE _ _ _ rfl bN) (aj (aW rfl rfl (aS (aq ?_))))
 refine aL (σ':=aD 80 [(1,_)] [((1,0),_)] [] []) kp ?_
 refine an (be rfl (aj (am (be rfl (aj (aq (am (bc rfl rfl rfl (cd rfl rfl rfl (gQ rfl rfl rfl ?_))))))))))
 refine cN rfl (aM rfl rfl ah ?_)
 refine aM rfl rfl ah ?_
 refine aM rfl rfl ah ?_
 refine ai (aE _ _ _ rfl bN) (cN rfl (ax rfl rfl (aA _ aa rfl rfl rfl) (ax rfl rfl (aF _ aa rfl rfl ee) (ax rfl rfl (bC (r:=false) _ _ rfl rfl rfl) (ax rfl rfl (aI _ bN) (aM rfl rfl ah ?_))))))
 refine aM rfl rfl ah ?_
 refine aM rfl rfl ah ?_
 refine aM rfl rfl ah ?_
 refine ax rfl rfl (aE _ _ _ rfl bN) (ai (aE _ _ _ rfl bN) (aj (aW rfl rfl (aS (aq (aq ?_))))))
 refine aL (σ':=aD 80 [(1,_),(3,_),(4,_)] [((1,0),_)] [] []) kp ?_
 refine an (bc rfl rfl rfl (cd rfl rfl rfl (gQ rfl rfl rfl (cN rfl (aM rfl rfl ah ?_)))))
 refine aM rfl rfl ah ?_
 refine aM rfl rfl ah ?_
 refine ai (aE _ _ _ rfl bN) (aj (aW rfl rfl (aS (aU fun K14 hK14=> ?_))))
 refine am (be rfl (aj (ay ?_)))
 refine br (α:=Nat) (fun j=> j≤L.length∧ ∀ q,q < j→t q=1) 80 [(1,_),(3,_),(4,_)] [((1,0),_)] (fun j=> [(5, .v (.int .i64 (j:Int)))]) (fun j=> []) [] [] (fun j=> L.length - j) 0 ?_ (by
  refine Le.mkJ [] [] rfl ?_ ?_ trivial trivial ?_
  ·exact ⟨(iP rfl),(iV rfl),(iV rfl),(cp ag),trivial⟩
  ·exact ⟨(bM rfl rfl rfl),trivial⟩
  kernel_rfl) ?_
 ·exact ⟨Nat.zero_le _,fun q hq=> by omega⟩
 intro j hj
 obtain ⟨hj,hall⟩:=hj
 have htj:=ht j
 refine aU fun K16 hK16=> ?_
 refine am (aX rfl (bc rfl rfl rfl (eW rfl rfl rfl (ai (bn _ aa rfl) (ai (bm _ _ rfl rfl rfl) (aj (aR rfl (fun hc67=> ?_) (fun hc67=> ?_))))))))
 ·skip
  refine bs (hK16 _ ?_)
  clear hK16;try clear K16
  refine aq (ay (am (bc rfl rfl rfl (eW rfl rfl rfl (aX rfl (ai (bp _ _ aa rfl rfl _ rfl ab (by (simp only [aO,bi,bl,bw,bv,bI,bz];omega)) ag) ?_))))))
  refine ai (cf _ aa rfl (by exact cQ _ _ ab) rfl) ?_
  refine ai (aH aa al (h j ab) rfl rfl) ?_
  refine be rfl (aj (am (aX rfl (aX rfl (ai (bU _ _ rfl rfl rfl) (aj (aR rfl (fun hc78=> ?_) (fun hc78=> ?_))))))))
  ·skip
   have hr:=hr0 j ab ab
   refine aq ?_
   refine aL (σ':=aD 80 [] [] [] []) kp ?_
   refine an (be rfl (aj (aG (sc rfl rfl ?_))))
   rw [hr];rfl
  have hall1: ∀ q,q < j+1→t q=1:=fun q hq=> by
   by_cases h:q < j
   ·exact hall q h
   obtain rfl:q=j:=by omega
   omega
  refine cr ?_
  refine aL (σ':=aD 80 [(1,_),(3,_),(4,_),(5,_)] [((1,0),_)] [] []) kp ?_
  refine an (aX rfl (ai (aZ _ _ rfl rfl (bE ab)) ?_))
  refine be rfl (aJ (⟨j+1,?_,?_,?_⟩))
  ·exact ⟨by omega,hall1⟩
  ·skip
   refine Le.mkJ [] [] rfl ?_ ?_ trivial trivial ?_
   ·exact ⟨(iP rfl),(iV rfl),(iV rfl),(cp ag),trivial⟩
   ·exact ⟨(bM rfl rfl rfl),trivial⟩
   kernel_rfl
  omega
 have hr:=hr1 fun q hq=> hall q ab
 refine bB (id (hK14 _ ?_))
 clear hK14;try clear K14
 refine am (aX rfl (be rfl (aj (aG (sc rfl rfl ?_)))))
 rw [hr];rfl
theorem HP (L:List Nd) (hL:L.length≤3) (t:Nat→Nat) (ht: ∀ j,t j≤2) (h: ∀ j,j < L.length→Spec Tryz.prog 203 (ba [pA (li L j)] []) (aP (.v (.int .i64 (t j:Int))) [])) (r:Nat) (hr1:(∀ j,j < L.length→t j=1)→r=1) (hr0: ∀ j,j < L.length→t j≠1→r=0):
  Spec Tryz.prog 203 (ba [.agg [.v (.int .i64 17), .v (.int .i64 0), .v (bt [45]), .sl L.length (mK L)]] []) (aP (.v (.int .i64 (r:Int))) []):=by
 refine Spec.ofN Tryz.func203 rfl Tryz.ntmps203 rfl ?_
 refine am (ai (aQ (1,0) _ rfl rfl) (be rfl (aj (aq (am (bc rfl rfl rfl (cd rfl rfl rfl (gQ rfl rfl rfl (cN rfl (ax rfl rfl (aA _ aa rfl rfl rfl) ?_))))))))))
 refine ax rfl rfl (aF _ aa rfl rfl ee) (ax rfl rfl (bC (r:=false) _ _ rfl rfl rfl) (ai (aE _ _ _ rfl bN) (cN rfl (ax rfl rfl (aA _ aa rfl rfl rfl) (ax rfl rfl (aF _ aa rfl rfl ee) (ax rfl rfl (bC (r:=false) _ _ rfl rfl rfl) (ai (aE _ _ _ rfl bN) (aj (aW rfl rfl (aS ?_))))))))))
 refine aq (aq ?_)
 refine aL (σ':=aD 80 [(1,_)] [((1,0),_)] [] []) kp ?_
 refine an (bc rfl rfl rfl (cd rfl rfl rfl (gQ rfl rfl rfl (aj (aW rfl rfl (aS (aq (am (bc rfl rfl rfl (cd rfl rfl rfl ?_))))))))))
 refine ai (bU (r:=true) _ _ rfl rfl rfl) (cN rfl (ax rfl rfl (aA _ aa rfl rfl rfl) (ax rfl rfl (aF _ aa rfl rfl ee) (ax rfl rfl (bU (r:=false) _ _ rfl rfl rfl) (ai (aE _ _ _ rfl bN) (cN rfl (aM rfl rfl ah ?_)))))))
 refine aM rfl rfl ah ?_
 refine aM rfl rfl ah ?_
 refine ai (aE _ _ _ rfl bN) (aj (aW rfl rfl (aS (aq ?_))))
 refine aL (σ':=aD 80 [(1,_)] [((1,0),_)] [] []) kp ?_
 refine an (be rfl (aj (am (be rfl (aj (aq (am (bc rfl rfl rfl (cd rfl rfl rfl (kv rfl rfl rfl ?_))))))))))
 refine cN rfl (ax rfl rfl (aA _ aa rfl rfl rfl) (ax rfl rfl (aF _ aa rfl rfl fB) (ax rfl rfl (aV (r:=false) _ _ Tryz.underlying9 rfl rfl rfl) (ai (aE _ _ _ rfl bN) (cN rfl (ax rfl rfl (aA _ aa rfl rfl rfl) (ax rfl rfl (aF _ aa rfl rfl ee) (ax rfl rfl (bC (r:=false) _ _ rfl rfl rfl) (ax rfl rfl (aI _ bN) (aM rfl rfl ah ?_))))))))))
 refine aM rfl rfl ah ?_
 refine aM rfl rfl ah ?_
 refine aM rfl rfl ah ?_
 refine ax rfl rfl (aE _ _ _ rfl bN) (ai (aE _ _ _ rfl bN) (aj (aW rfl rfl (aS (aq (aq ?_))))))
 refine aL (σ':=aD 80 [(1,_),(3,_),(4,_)] [((1,0),_)] [] []) kp ?_
 refine an (bc rfl rfl rfl (cd rfl rfl rfl (gQ rfl rfl rfl (cN rfl (aM rfl rfl ah ?_)))))
 refine aM rfl rfl ah ?_
 refine aM rfl rfl ah ?_
 refine ai (aE _ _ _ rfl bN) (aj (aW rfl rfl (aS (aU fun K14 hK14=> ?_))))
 refine am (be rfl (aj (ay ?_)))
 refine br (α:=Nat) (fun j=> j≤L.length∧ ∀ q,q < j→t q=1) 80 [(1,_),(3,_),(4,_)] [((1,0),_)] (fun j=> [(5, .v (.int .i64 (j:Int)))]) (fun j=> []) [] [] (fun j=> L.length - j) 0 ?_ (by
  refine Le.mkJ [] [] rfl ?_ ?_ trivial trivial ?_
  ·exact ⟨(iP rfl),(iV rfl),(iV rfl),(cp ag),trivial⟩
  ·exact ⟨(bM rfl rfl rfl),trivial⟩
  kernel_rfl) ?_
 ·exact ⟨Nat.zero_le _,fun q hq=> by omega⟩
 intro j hj
 obtain ⟨hj,hall⟩:=hj
 have htj:=ht j
 refine aU fun K16 hK16=> ?_
 refine am (aX rfl (bc rfl rfl rfl (eW rfl rfl rfl (ai (bn _ aa rfl) (ai (bm _ _ rfl rfl rfl) (aj (aR rfl (fun hc67=> ?_) (fun hc67=> ?_))))))))
 ·skip
  refine bs (hK16 _ ?_)
  clear hK16;try clear K16
  refine aq (ay (am (bc rfl rfl rfl (eW rfl rfl rfl (aX rfl (ai (bp _ _ aa rfl rfl _ rfl ab (by (simp only [aO,bi,bl,bw,bv,bI,bz];omega)) ag) ?_))))))
  refine ai (cf _ aa rfl (by exact cQ _ _ ab) rfl) ?_
  refine ai (aH aa al (h j ab) rfl rfl) ?_
  refine be rfl (aj (am (aX rfl (aX rfl (ai (bU _ _ rfl rfl rfl) (aj (aR rfl (fun hc78=> ?_) (fun hc78=> ?_))))))))
  ·skip
   have hr:=hr0 j ab ab
   refine aq ?_
   refine aL (σ':=aD 80 [] [] [] []) kp ?_
   refine an (be rfl (aj (aG (sc rfl rfl ?_))))
   rw [hr];rfl
  have hall1: ∀ q,q < j+1→t q=1:=fun q hq=> by
   by_cases h:q < j
   ·exact hall q h
   obtain rfl:q=j:=by omega
   omega
  refine cr ?_
  refine aL (σ':=aD 80 [(1,_),(3,_),(4,_),(5,_)] [((1,0),_)] [] []) kp ?_
  refine an (aX rfl (ai (aZ _ _ rfl rfl (bE ab)) ?_))
  refine be rfl (aJ (⟨j+1,?_,?_,?_⟩))
  ·exact ⟨by omega,hall1⟩
  ·skip
   refine Le.mkJ [] [] rfl ?_ ?_ trivial trivial ?_
   ·exact ⟨(iP rfl),(iV rfl),(iV rfl),(cp ag),trivial⟩
   ·exact ⟨(bM rfl rfl rfl),trivial⟩
   kernel_rfl
  omega
 have hr:=hr1 fun q hq=> hall q ab
 refine bB (id (hK14 _ ?_))
 clear hK14;try clear K14
 refine am (aX rfl (be rfl (aj (aG (sc rfl rfl ?_)))))
 rw [hr];rfl
theorem IR (L:List Nd) (hL:L.length≤3) (t:Nat→Nat) (ht: ∀ j,t j≤2) (h: ∀ j,j < L.length→Spec Tryz.prog 203 (ba [pA (li L j)] []) (aP (.v (.int .i64 (t j:Int))) [])) (r:Nat) (hr1:(∀ j,j < L.length→t j=2)→r=2) (hr0: ∀ j,j < L.length→t j≠2→r=0):
  Spec Tryz.prog 203 (ba [.agg [.v (.int .i64 17), .v (.int .i64 0), .v (bt [33]), .sl L.length (mK L)]] []) (aP (.v (.int .i64 (r:Int))) []):=by
 refine Spec.ofN Tryz.func203 rfl Tryz.ntmps203 rfl ?_
 refine am (ai (aQ (1,0) _ rfl rfl) (be rfl (aj (aq (am (bc rfl rfl rfl (cd rfl rfl rfl (gQ rfl rfl rfl (cN rfl (ax rfl rfl (aA _ aa rfl rfl rfl) ?_))))))))))
 refine ax rfl rfl (aF _ aa rfl rfl ee) (ax rfl rfl (bC (r:=false) _ _ rfl rfl rfl) (ai (aE _ _ _ rfl bN) (cN rfl (ax rfl rfl (aA _ aa rfl rfl rfl) (ax rfl rfl (aF _ aa rfl rfl ee) (ax rfl rfl (bC (r:=false) _ _ rfl rfl rfl) (ai (aE _ _ _ rfl bN) (aj (aW rfl rfl (aS ?_))))))))))
 refine aq (aq ?_)
 refine aL (σ':=aD 80 [(1,_)] [((1,0),_)] [] []) kp ?_
 refine an (bc rfl rfl rfl (cd rfl rfl rfl (gQ rfl rfl rfl (aj (aW rfl rfl (aS (aq (am (bc rfl rfl rfl (cd rfl rfl rfl ?_))))))))))
 refine ai (bU (r:=true) _ _ rfl rfl rfl) (cN rfl (ax rfl rfl (aA _ aa rfl rfl rfl) (ax rfl rfl (aF _ aa rfl rfl ee) (ax rfl rfl (bU (r:=false) _ _ rfl rfl rfl) (ai (aE _ _ _ rfl bN) (cN rfl (aM rfl rfl ah ?_)))))))
 refine aM rfl rfl ah ?_
 refine aM rfl rfl ah ?_
 refine ai (aE _ _ _ rfl bN) (aj (aW rfl rfl (aS (aq ?_))))
 refine aL (σ':=aD 80 [(1,_)] [((1,0),_)] [] []) kp ?_
 refine an (be rfl (aj (am (be rfl (aj (aq (am (bc rfl rfl rfl (cd rfl rfl rfl (kv rfl rfl rfl ?_))))))))))
 refine cN rfl (ax rfl rfl (aA _ aa rfl rfl rfl) (ax rfl rfl (aF _ aa rfl rfl fB) (ax rfl rfl (aV (r:=true) _ _ Tryz.underlying9 rfl rfl rfl) (ai (aE _ _ _ rfl bN) (cN rfl (aM rfl rfl ah ?_))))))
 refine aM rfl rfl ah ?_
 refine aM rfl rfl ah ?_
 refine aM rfl rfl ah ?_
 refine eK rfl rfl (eK rfl rfl (eK rfl rfl (eK rfl rfl (aM rfl rfl ah ?_))))
 refine ai (aE _ _ _ rfl bN) (aj (bL rfl rfl (aq ?_)))
 refine aL (σ':=aD 80 [(1,_)] [((1,0),_)] [] []) kp ?_
 refine an (be rfl (aj (an (be rfl (aj (aq (am (bc rfl rfl rfl (cd rfl rfl rfl (gQ rfl rfl rfl ?_))))))))))
 refine cN rfl (aM rfl rfl ah ?_)
 refine aM rfl rfl ah ?_
 refine aM rfl rfl ah ?_
 refine ai (aE _ _ _ rfl bN) (aj (aW rfl rfl (aS (aU fun K15 hK15=> ?_))))
 refine am (be rfl (aj (ay ?_)))
 refine br (α:=Nat) (fun j=> j≤L.length∧ ∀ q,q < j→t q=2) 80 [(1,_),(3,_),(4,_)] [((1,0),_)] (fun j=> [(5, .v (.int .i64 (j:Int)))]) (fun j=> []) [] [] (fun j=> L.length - j) 0 ?_ (by
  refine Le.mkJ [] [] rfl ?_ ?_ trivial trivial ?_
  ·exact ⟨(iP rfl),(iV rfl),(iV rfl),(cp ag),trivial⟩
  ·exact ⟨(bM rfl rfl rfl),trivial⟩
  kernel_rfl) ?_
 ·exact ⟨Nat.zero_le _,fun q hq=> by omega⟩
 intro j hj
 obtain ⟨hj,hall⟩:=hj
 have htj:=ht j
 refine aU fun K17 hK17=> ?_
 refine am (aX rfl (bc rfl rfl rfl (eW rfl rfl rfl (ai (bn _ aa rfl) (ai (bm _ _ rfl rfl rfl) (aj (aR rfl (fun hc67=> ?_) (fun hc67=> ?_))))))))
 ·skip
  refine bs (hK17 _ ?_)
  clear hK17;try clear K17
  refine aq (ay (am (bc rfl rfl rfl (eW rfl rfl rfl (aX rfl (ai (bp _ _ aa rfl rfl _ rfl ab (by (simp only [aO,bi,bl,bw,bv,bI,bz];omega)) ag) ?_))))))
  refine ai (cf _ aa rfl (by exact cQ _ _ ab) rfl) ?_
  refine ai (aH aa al (h j ab) rfl rfl) ?_
  refine be rfl (aj (am (aX rfl (aX rfl (ai (bU _ _ rfl rfl rfl) (aj (aR rfl (fun hc78=> ?_) (fun hc78=> ?_))))))))
  ·skip
   have hr:=hr0 j ab ab
   refine aq ?_
   refine aL (σ':=aD 80 [] [] [] []) kp ?_
   refine an (be rfl (aj (aG (sc rfl rfl ?_))))
   rw [hr];rfl
  have hall1: ∀ q,q < j+1→t q=2:=fun q hq=> by
   by_cases h:q < j
   ·exact hall q h
   obtain rfl:q=j:=by omega
   omega
  refine cr ?_
  refine aL (σ':=aD 80 [(1,_),(3,_),(4,_),(5,_)] [((1,0),_)] [] []) kp ?_
  refine an (aX rfl (ai (aZ _ _ rfl rfl (bE ab)) ?_))
  refine be rfl (aJ (⟨j+1,?_,?_,?_⟩))
  ·exact ⟨by omega,hall1⟩
  ·skip
   refine Le.mkJ [] [] rfl ?_ ?_ trivial trivial ?_
   ·exact ⟨(iP rfl),(iV rfl),(iV rfl),(cp ag),trivial⟩
   ·exact ⟨(bM rfl rfl rfl),trivial⟩
   kernel_rfl
  omega
 have hr:=hr1 fun q hq=> hall q ab
 refine bB (id (hK15 _ ?_))
 clear hK15;try clear K15
 refine am (aX rfl (be rfl (aj (aG (sc rfl rfl ?_)))))
 rw [hr];rfl
theorem ug (s:Tx) (hs1:s∈[[38,38],[124,124]]) (hs2:s∉zh) (L:List Nd) (hL:L.length≤3) (t:Nat→Nat) (ht: ∀ j,t j≤2) (h: ∀ j,j < L.length→Spec Tryz.prog 203 (ba [pA (li L j)] []) (aP (.v (.int .i64 (t j:Int))) [])) (r:Nat) (hr1:(∀ j,j < L.length→t j=2)→r=2) (hr0: ∀ j,j < L.length→t j≠2→r=0):
  Spec Tryz.prog 203 (ba [.agg [.v (.int .i64 18), .v (.int .i64 0), .v (bt s), .sl L.length (mK L)]] []) (aP (.v (.int .i64 (r:Int))) []):=by
 refine Spec.ofN Tryz.func203 rfl Tryz.ntmps203 rfl ?_
 refine am (ai (aQ (1,0) _ rfl rfl) (be rfl (aj (aq (am (bc rfl rfl rfl (cd rfl rfl rfl (gQ rfl rfl rfl (cN rfl (ax rfl rfl (aA _ aa rfl rfl rfl) ?_))))))))))
 refine ax rfl rfl (aF _ aa rfl rfl ee) (ax rfl rfl (bC (r:=false) _ _ rfl rfl rfl) (ai (aE _ _ _ rfl bN) (cN rfl (ax rfl rfl (aA _ aa rfl rfl rfl) (ax rfl rfl (aF _ aa rfl rfl ee) (ax rfl rfl (bC (r:=false) _ _ rfl rfl rfl) (ai (aE _ _ _ rfl bN) (aj (aW rfl rfl (aS ?_))))))))))
 refine aq (aq ?_)
 refine aL (σ':=aD 80 [(1,_)] [((1,0),_)] [] []) kp ?_
 refine an (bc rfl rfl rfl (cd rfl rfl rfl (gQ rfl rfl rfl (aj (aW rfl rfl (aS (aq (am (bc rfl rfl rfl (cd rfl rfl rfl ?_))))))))))
 refine ai (bU (r:=true) _ _ rfl rfl rfl) (cN rfl (ax rfl rfl (aA _ aa rfl rfl rfl) (ax rfl rfl (aF _ aa rfl rfl ee) (ax rfl rfl (bU (r:=true) _ _ rfl rfl rfl) (ai (aE _ _ _ rfl bN) (cN rfl (ax rfl rfl (aA _ aa rfl rfl rfl) (ax rfl rfl (aF _ aa rfl rfl ee) (ax rfl rfl (bU (r:=false) _ _ rfl rfl rfl) (ai (aE _ _ _ rfl bN) ?_))))))))))
 refine aj (aW rfl rfl (aS (aq ?_)))
 refine aL (σ':=aD 80 [(1,_)] [((1,0),_)] [] []) kp ?_
 refine an (be rfl (aj (am (be rfl (aj (aq (am (bc rfl rfl rfl (cd rfl rfl rfl (gQ rfl rfl rfl ?_))))))))))
 refine cN rfl (aM rfl rfl ah ?_)
 refine aM rfl rfl ah ?_
 refine aM rfl rfl ah ?_
 refine ai (aE _ _ _ rfl bN) (cN rfl (ax rfl rfl (aA _ aa rfl rfl rfl) (ax rfl rfl (aF _ aa rfl rfl ee) (ax rfl rfl (bC (r:=true) _ _ rfl rfl rfl) (ax rfl rfl (aI _ bN) (ax rfl rfl (bg _ _ aa rfl ag (by (simp <;> rfl)) ah rfl) ?_))))))
 refine ax rfl rfl (aA _ aa rfl rfl rfl) (ax rfl rfl (aF _ aa rfl rfl fB) (ax rfl rfl (aH aa al (gE [[38,38],[124,124]] 2 rfl ab s) rfl rfl) ?_))
 refine ax rfl rfl (aE _ _ _ rfl bN) (ai (aE _ _ _ rfl bN) (aj (bL rfl (decide_eq_true hs1) ?_)))
 refine aq ?_
 refine aL (σ':=aD 80 [(1,_)] [((1,0),_)] [] []) kp ?_
 refine an (be rfl (aj (an (be rfl (aj (aq (am (bc rfl rfl rfl (cd rfl rfl rfl (kv rfl rfl rfl ?_))))))))))
 refine cN rfl (ax rfl rfl (aA _ aa rfl rfl rfl) (ax rfl rfl (aF _ aa rfl rfl fB) (ax rfl rfl (aH aa al (mJ s) rfl rfl) ?_)))
 refine ai (aE _ _ _ rfl bN) (aj (aW rfl (decide_eq_false hs2) ?_))
 refine aS (aU fun K15 hK15=> ?_)
 refine am (be rfl (aj (ay ?_)))
 refine br (α:=Nat) (fun j=> j≤L.length∧ ∀ q,q < j→t q=2) 80 [(1,_),(3,_),(4,_)] [((1,0),_)] (fun j=> [(5, .v (.int .i64 (j:Int)))]) (fun j=> []) [] [] (fun j=> L.length - j) 0 ?_ (by
  refine Le.mkJ [] [] rfl ?_ ?_ trivial trivial ?_
  ·exact ⟨(iP rfl),(iV rfl),(iV rfl),(cp ag),trivial⟩
  ·exact ⟨(bM rfl rfl rfl),trivial⟩
  kernel_rfl) ?_
 ·exact ⟨Nat.zero_le _,fun q hq=> by omega⟩
 intro j hj
 obtain ⟨hj,hall⟩:=hj
 have htj:=ht j
 refine aU fun K17 hK17=> ?_
 refine am (aX rfl (bc rfl rfl rfl (eW rfl rfl rfl (ai (bn _ aa rfl) (ai (bm _ _ rfl rfl rfl) (aj (aR rfl (fun hc67=> ?_) (fun hc67=> ?_))))))))
 ·skip
  refine bs (hK17 _ ?_)
  clear hK17;try clear K17
  refine aq (ay (am (bc rfl rfl rfl (eW rfl rfl rfl (aX rfl (ai (bp _ _ aa rfl rfl _ rfl ab (by (simp only [aO,bi,bl,bw,bv,bI,bz];omega)) ag) ?_))))))
  refine ai (cf _ aa rfl (by exact cQ _ _ ab) rfl) ?_
  refine ai (aH aa al (h j ab) rfl rfl) ?_
  refine be rfl (aj (am (aX rfl (aX rfl (ai (bU _ _ rfl rfl rfl) (aj (aR rfl (fun hc78=> ?_) (fun hc78=> ?_))))))))
  ·skip
   have hr:=hr0 j ab ab
   refine aq ?_
   refine aL (σ':=aD 80 [] [] [] []) kp ?_
   refine an (be rfl (aj (aG (sc rfl rfl ?_))))
   rw [hr];rfl
  have hall1: ∀ q,q < j+1→t q=2:=fun q hq=> by
   by_cases h:q < j
   ·exact hall q h
   obtain rfl:q=j:=by omega
   omega
  refine cr ?_
  refine aL (σ':=aD 80 [(1,_),(3,_),(4,_),(5,_)] [((1,0),_)] [] []) kp ?_
  refine an (aX rfl (ai (aZ _ _ rfl rfl (bE ab)) ?_))
  refine be rfl (aJ (⟨j+1,?_,?_,?_⟩))
  ·exact ⟨by omega,hall1⟩
  ·skip
   refine Le.mkJ [] [] rfl ?_ ?_ trivial trivial ?_
   ·exact ⟨(iP rfl),(iV rfl),(iV rfl),(cp ag),trivial⟩
   ·exact ⟨(bM rfl rfl rfl),trivial⟩
   kernel_rfl
  omega
 have hr:=hr1 fun q hq=> hall q ab
 refine bB (id (hK15 _ ?_))
 clear hK15;try clear K15
 refine am (aX rfl (be rfl (aj (aG (sc rfl rfl ?_)))))
 rw [hr];rfl
theorem Ir (s:Tx) (hs1:s∉[[38,38],[124,124]]) (hs2:s∈zh) (L:List Nd) (hL:L.length≤3) (t:Nat→Nat) (ht: ∀ j,t j≤2) (h: ∀ j,j < L.length→Spec Tryz.prog 203 (ba [pA (li L j)] []) (aP (.v (.int .i64 (t j:Int))) [])) (r:Nat) (hr1:(∀ j,j < L.length→t j=1)→r=2) (hr0: ∀ j,j < L.length→t j≠1→r=0):
  Spec Tryz.prog 203 (ba [.agg [.v (.int .i64 18), .v (.int .i64 0), .v (bt s), .sl L.length (mK L)]] []) (aP (.v (.int .i64 (r:Int))) []):=by
 refine Spec.ofN Tryz.func203 rfl Tryz.ntmps203 rfl ?_
 refine am (ai (aQ (1,0) _ rfl rfl) (be rfl (aj (aq (am (bc rfl rfl rfl (cd rfl rfl rfl (gQ rfl rfl rfl (cN rfl (ax rfl rfl (aA _ aa rfl rfl rfl) ?_))))))))))
 refine ax rfl rfl (aF _ aa rfl rfl ee) (ax rfl rfl (bC (r:=false) _ _ rfl rfl rfl) (ai (aE _ _ _ rfl bN) (cN rfl (ax rfl rfl (aA _ aa rfl rfl rfl) (ax rfl rfl (aF _ aa rfl rfl ee) (ax rfl rfl (bC (r:=false) _ _ rfl rfl rfl) (ai (aE _ _ _ rfl bN) (aj (aW rfl rfl (aS ?_))))))))))
 refine aq (aq ?_)
 refine aL (σ':=aD 80 [(1,_)] [((1,0),_)] [] []) kp ?_
 refine an (bc rfl rfl rfl (cd rfl rfl rfl (gQ rfl rfl rfl (aj (aW rfl rfl (aS (aq (am (bc rfl rfl rfl (cd rfl rfl rfl ?_))))))))))
 refine ai (bU (r:=true) _ _ rfl rfl rfl) (cN rfl (ax rfl rfl (aA _ aa rfl rfl rfl) (ax rfl rfl (aF _ aa rfl rfl ee) (ax rfl rfl (bU (r:=true) _ _ rfl rfl rfl) (ai (aE _ _ _ rfl bN) (cN rfl (ax rfl rfl (aA _ aa rfl rfl rfl) (ax rfl rfl (aF _ aa rfl rfl ee) (ax rfl rfl (bU (r:=false) _ _ rfl rfl rfl) (ai (aE _ _ _ rfl bN) ?_))))))))))
 refine aj (aW rfl rfl (aS (aq ?_)))
 refine aL (σ':=aD 80 [(1,_)] [((1,0),_)] [] []) kp ?_
 refine an (be rfl (aj (am (be rfl (aj (aq (am (bc rfl rfl rfl (cd rfl rfl rfl (gQ rfl rfl rfl ?_))))))))))
 refine cN rfl (aM rfl rfl ah ?_)
 refine aM rfl rfl ah ?_
 refine aM rfl rfl ah ?_
 refine ai (aE _ _ _ rfl bN) (cN rfl (ax rfl rfl (aA _ aa rfl rfl rfl) (ax rfl rfl (aF _ aa rfl rfl ee) (ax rfl rfl (bC (r:=true) _ _ rfl rfl rfl) (ax rfl rfl (aI _ bN) (ax rfl rfl (bg _ _ aa rfl ag (by (simp <;> rfl)) ah rfl) ?_))))))
 refine ax rfl rfl (aA _ aa rfl rfl rfl) (ax rfl rfl (aF _ aa rfl rfl fB) (ax rfl rfl (aH aa al (gE [[38,38],[124,124]] 2 rfl ab s) rfl rfl) ?_))
 refine ax rfl rfl (aE _ _ _ rfl bN) (ai (aE _ _ _ rfl bN) (aj (aW rfl (decide_eq_false hs1) ?_)))
 refine aS (aq (aq ?_))
 refine aL (σ':=aD 80 [(1,_),(3,_),(4,_)] [((1,0),_)] [] []) kp ?_
 refine an (bc rfl rfl rfl (cd rfl rfl rfl (kv rfl rfl rfl (cN rfl (ax rfl rfl (aA _ aa rfl rfl rfl) (ax rfl rfl (aF _ aa rfl rfl fB) (ax rfl rfl (aH aa al (mJ s) rfl rfl) ?_)))))))
 refine ai (aE _ _ _ rfl bN) (aj (bL rfl (decide_eq_true hs2) ?_))
 refine an (be rfl (aj (aU fun K14 hK14=> ?_)))
 refine am (be rfl (aj (ay ?_)))
 refine br (α:=Nat) (fun j=> j≤L.length∧ ∀ q,q < j→t q=1) 80 [(1,_),(3,_),(4,_)] [((1,0),_)] (fun j=> [(5, .v (.int .i64 (j:Int)))]) (fun j=> []) [] [] (fun j=> L.length - j) 0 ?_ (by
  refine Le.mkJ [] [] rfl ?_ ?_ trivial trivial ?_
  ·exact ⟨(iP rfl),(iV rfl),(iV rfl),(cp ag),trivial⟩
  ·exact ⟨(bM rfl rfl rfl),trivial⟩
  kernel_rfl) ?_
 ·exact ⟨Nat.zero_le _,fun q hq=> by omega⟩
 intro j hj
 obtain ⟨hj,hall⟩:=hj
 have htj:=ht j
 refine aU fun K16 hK16=> ?_
 refine am (aX rfl (bc rfl rfl rfl (eW rfl rfl rfl (ai (bn _ aa rfl) (ai (bm _ _ rfl rfl rfl) (aj (aR rfl (fun hc67=> ?_) (fun hc67=> ?_))))))))
 ·skip
  refine bs (hK16 _ ?_)
  clear hK16;try clear K16
  refine aq (ay (am (bc rfl rfl rfl (eW rfl rfl rfl (aX rfl (ai (bp _ _ aa rfl rfl _ rfl ab (by (simp only [aO,bi,bl,bw,bv,bI,bz];omega)) ag) ?_))))))
  refine ai (cf _ aa rfl (by exact cQ _ _ ab) rfl) ?_
  refine ai (aH aa al (h j ab) rfl rfl) ?_
  refine be rfl (aj (am (aX rfl (aX rfl (ai (bU _ _ rfl rfl rfl) (aj (aR rfl (fun hc78=> ?_) (fun hc78=> ?_))))))))
  ·skip
   have hr:=hr0 j ab ab
   refine aq ?_
   refine aL (σ':=aD 80 [] [] [] []) kp ?_
   refine an (be rfl (aj (aG (sc rfl rfl ?_))))
   rw [hr];rfl
  have hall1: ∀ q,q < j+1→t q=1:=fun q hq=> by
   by_cases h:q < j
   ·exact hall q h
   obtain rfl:q=j:=by omega
   omega
  refine cr ?_
  refine aL (σ':=aD 80 [(1,_),(3,_),(4,_),(5,_)] [((1,0),_)] [] []) kp ?_
  refine an (aX rfl (ai (aZ _ _ rfl rfl (bE ab)) ?_))
  refine be rfl (aJ (⟨j+1,?_,?_,?_⟩))
  ·exact ⟨by omega,hall1⟩
  ·skip
   refine Le.mkJ [] [] rfl ?_ ?_ trivial trivial ?_
   ·exact ⟨(iP rfl),(iV rfl),(iV rfl),(cp ag),trivial⟩
   ·exact ⟨(bM rfl rfl rfl),trivial⟩
   kernel_rfl
  omega
 have hr:=hr1 fun q hq=> hall q ab
 refine bB (id (hK14 _ ?_))
 clear hK14;try clear K14
 refine am (aX rfl (be rfl (aj (aG (sc rfl rfl ?_)))))
 rw [hr];rfl
theorem Cb (s:Tx) (hs1:s∉[[38,38],[124,124]]) (hs2:s∉zh) (L:List Nd) (hL:L.length≤3) (t:Nat→Nat) (ht: ∀ j,t j≤2) (h: ∀ j,j < L.length→Spec Tryz.prog 203 (ba [pA (li L j)] []) (aP (.v (.int .i64 (t j:Int))) [])) (r:Nat) (hr1:(∀ j,j < L.length→t j=1)→r=1) (hr0: ∀ j,j < L.length→t j≠1→r=0):
  Spec Tryz.prog 203 (ba [.agg [.v (.int .i64 18), .v (.int .i64 0), .v (bt s), .sl L.length (mK L)]] []) (aP (.v (.int .i64 (r:Int))) []):=by
 refine Spec.ofN Tryz.func203 rfl Tryz.ntmps203 rfl ?_
 refine am (ai (aQ (1,0) _ rfl rfl) (be rfl (aj (aq (am (bc rfl rfl rfl (cd rfl rfl rfl (gQ rfl rfl rfl (cN rfl (ax rfl rfl (aA _ aa rfl rfl rfl) ?_))))))))))
 refine ax rfl rfl (aF _ aa rfl rfl ee) (ax rfl rfl (bC (r:=false) _ _ rfl rfl rfl) (ai (aE _ _ _ rfl bN) (cN rfl (ax rfl rfl (aA _ aa rfl rfl rfl) (ax rfl rfl (aF _ aa rfl rfl ee) (ax rfl rfl (bC (r:=false) _ _ rfl rfl rfl) (ai (aE _ _ _ rfl bN) (aj (aW rfl rfl (aS ?_))))))))))
 refine aq (aq ?_)
 refine aL (σ':=aD 80 [(1,_)] [((1,0),_)] [] []) kp ?_
 refine an (bc rfl rfl rfl (cd rfl rfl rfl (gQ rfl rfl rfl (aj (aW rfl rfl (aS (aq (am (bc rfl rfl rfl (cd rfl rfl rfl ?_))))))))))
 refine ai (bU (r:=true) _ _ rfl rfl rfl) (cN rfl (ax rfl rfl (aA _ aa rfl rfl rfl) (ax rfl rfl (aF _ aa rfl rfl ee) (ax rfl rfl (bU (r:=true) _ _ rfl rfl rfl) (ai (aE _ _ _ rfl bN) (cN rfl (ax rfl rfl (aA _ aa rfl rfl rfl) (ax rfl rfl (aF _ aa rfl rfl ee) (ax rfl rfl (bU (r:=false) _ _ rfl rfl rfl) (ai (aE _ _ _ rfl bN) ?_))))))))))
 refine aj (aW rfl rfl (aS (aq ?_)))
 refine aL (σ':=aD 80 [(1,_)] [((1,0),_)] [] []) kp ?_
 refine an (be rfl (aj (am (be rfl (aj (aq (am (bc rfl rfl rfl (cd rfl rfl rfl (gQ rfl rfl rfl ?_))))))))))
 refine cN rfl (aM rfl rfl ah ?_)
 refine aM rfl rfl ah ?_
 refine aM rfl rfl ah ?_
 refine ai (aE _ _ _ rfl bN) (cN rfl (ax rfl rfl (aA _ aa rfl rfl rfl) (ax rfl rfl (aF _ aa rfl rfl ee) (ax rfl rfl (bC (r:=true) _ _ rfl rfl rfl) (ax rfl rfl (aI _ bN) (ax rfl rfl (bg _ _ aa rfl ag (by (simp <;> rfl)) ah rfl) ?_))))))
 refine ax rfl rfl (aA _ aa rfl rfl rfl) (ax rfl rfl (aF _ aa rfl rfl fB) (ax rfl rfl (aH aa al (gE [[38,38],[124,124]] 2 rfl ab s) rfl rfl) ?_))
 refine ax rfl rfl (aE _ _ _ rfl bN) (ai (aE _ _ _ rfl bN) (aj (aW rfl (decide_eq_false hs1) ?_)))
 refine aS (aq (aq ?_))
 refine aL (σ':=aD 80 [(1,_),(3,_),(4,_)] [((1,0),_)] [] []) kp ?_
 refine an (bc rfl rfl rfl (cd rfl rfl rfl (kv rfl rfl rfl (cN rfl (ax rfl rfl (aA _ aa rfl rfl rfl) (ax rfl rfl (aF _ aa rfl rfl fB) (ax rfl rfl (aH aa al (mJ s) rfl rfl) ?_)))))))
 refine ai (aE _ _ _ rfl bN) (aj (aW rfl (decide_eq_false hs2) ?_))
 refine aS (aU fun K14 hK14=> ?_)
 refine am (be rfl (aj (ay ?_)))
 refine br (α:=Nat) (fun j=> j≤L.length∧ ∀ q,q < j→t q=1) 80 [(1,_),(3,_),(4,_)] [((1,0),_)] (fun j=> [(5, .v (.int .i64 (j:Int)))]) (fun j=> []) [] [] (fun j=> L.length - j) 0 ?_ (by
  refine Le.mkJ [] [] rfl ?_ ?_ trivial trivial ?_
  ·exact ⟨(iP rfl),(iV rfl),(iV rfl),(cp ag),trivial⟩
  ·exact ⟨(bM rfl rfl rfl),trivial⟩
  kernel_rfl) ?_
 ·exact ⟨Nat.zero_le _,fun q hq=> by omega⟩
 intro j hj
 obtain ⟨hj,hall⟩:=hj
 have htj:=ht j
 refine aU fun K16 hK16=> ?_
 refine am (aX rfl (bc rfl rfl rfl (eW rfl rfl rfl (ai (bn _ aa rfl) (ai (bm _ _ rfl rfl rfl) (aj (aR rfl (fun hc67=> ?_) (fun hc67=> ?_))))))))
 ·skip
  refine bs (hK16 _ ?_)
  clear hK16;try clear K16
  refine aq (ay (am (bc rfl rfl rfl (eW rfl rfl rfl (aX rfl (ai (bp _ _ aa rfl rfl _ rfl ab (by (simp only [aO,bi,bl,bw,bv,bI,bz];omega)) ag) ?_))))))
  refine ai (cf _ aa rfl (by exact cQ _ _ ab) rfl) ?_
  refine ai (aH aa al (h j ab) rfl rfl) ?_
  refine be rfl (aj (am (aX rfl (aX rfl (ai (bU _ _ rfl rfl rfl) (aj (aR rfl (fun hc78=> ?_) (fun hc78=> ?_))))))))
  ·skip
   have hr:=hr0 j ab ab
   refine aq ?_
   refine aL (σ':=aD 80 [] [] [] []) kp ?_
   refine an (be rfl (aj (aG (sc rfl rfl ?_))))
   rw [hr];rfl
  have hall1: ∀ q,q < j+1→t q=1:=fun q hq=> by
   by_cases h:q < j
   ·exact hall q h
   obtain rfl:q=j:=by omega
   omega
  refine cr ?_
  refine aL (σ':=aD 80 [(1,_),(3,_),(4,_),(5,_)] [((1,0),_)] [] []) kp ?_
  refine an (aX rfl (ai (aZ _ _ rfl rfl (bE ab)) ?_))
  refine be rfl (aJ (⟨j+1,?_,?_,?_⟩))
  ·exact ⟨by omega,hall1⟩
  ·skip
   refine Le.mkJ [] [] rfl ?_ ?_ trivial trivial ?_
   ·exact ⟨(iP rfl),(iV rfl),(iV rfl),(cp ag),trivial⟩
   ·exact ⟨(bM rfl rfl rfl),trivial⟩
   kernel_rfl
  omega
 have hr:=hr1 fun q hq=> hall q ab
 refine bB (id (hK14 _ ?_))
 clear hK14;try clear K14
 refine am (aX rfl (be rfl (aj (aG (sc rfl rfl ?_)))))
 rw [hr];rfl

theorem pP: ∀ e,fz e≤2
 | .int _=> by simp [fz] | .bool _=> by simp [fz] | .var _=> by simp [fz] | .name _=> by simp [fz]
 | .draw e=> by simp only [fz];split <;> omega
 | .neg e=> by simp only [fz];split <;> omega
 | .not e=> by simp only [fz];split <;> omega
 | .bin o a b=> by cases o <;> simp only [fz] <;> split <;> omega
 | .and a b=> by simp only [fz];split <;> omega
 | .or a b=> by simp only [fz];split <;> omega
def uZ (a b:Ex) (j:Nat):Nat:=if j=0 then fz a else fz b
theorem pK (a b:Ex) (j:Nat):uZ a b j≤2:=by unfold uZ;split <;> exact pP _
theorem pL {a b:Ex} {op j:Nat} (hj:j < 2) (h:uZ a b j≠op): ¬ (fz a=op∧fz b=op):=fun e=> by
 have:j=0∨j=1:=by omega
 rcases this with rfl | rfl
 ·exact h e.1
 exact h e.2
theorem vb (o:Bo):o.txt∉([[38,38],[124,124]]:List Tx):=by cases o <;> decide
def LQ:Bo→Nat | .add=> 1 | .sub=> 1 | .mul=> 1 | .div=> 1 | _=> 2
abbrev vS (d:Nd) (t:Nat):Prop:=Spec Tryz.prog 203 (ba [pA d] []) (aP (.v (.int .i64 (t:Int))) [])
theorem sS {d:Nd} {t:Nat} (h:vS d t): ∀ j,j < [d].length→vS (li [d] j) t:=fun j hj=> by
 have:j=0:=by simpa using hj
 subst this
 exact h
theorem qa {d e:Nd} {a b:Ex} (h1:vS d (fz a)) (h2:vS e (fz b)): ∀ j,j < [d,e].length→vS (li [d,e] j) (uZ a b j):=fun j hj=> by
 have hj:j < 2:=hj
 have:j=0∨j=1:=by omega
 rcases this with rfl | rfl
 ·exact h1
 exact h2
theorem eB (nm:List Tx): ∀ e:Ex,vS (eL nm e) (fz e)
 | .int n=> In n.toNat
 | .bool b=> Ea (if b then 1 else 0)
 | .var i=> Io (nm.getD i [])
 | .name k=> FC (bltT.getD k [])
 | .draw e=> EG [eL nm e] (by simp) (fun _=> fz e) (fun _=> pP e) (sS (eB nm e)) _ (fun h=> if_pos (h 0 (by simp))) (fun _ _ h=> if_neg h)
 | .neg e=> HP [eL nm e] (by simp) (fun _=> fz e) (fun _=> pP e) (sS (eB nm e)) _ (fun h=> if_pos (h 0 (by simp))) (fun _ _ h=> if_neg h)
 | .not e=> IR [eL nm e] (by simp) (fun _=> fz e) (fun _=> pP e) (sS (eB nm e)) _ (fun h=> if_pos (h 0 (by simp))) (fun _ _ h=> if_neg h)
 | .and a b=> ug [38,38] ah ah [eL nm a,eL nm b] (by simp) (uZ a b) (pK a b) (qa (eB nm a) (eB nm b)) _ (fun h=> if_pos ⟨h 0 (by simp),h 1 (by simp)⟩) (fun _ hj h=> if_neg (pL hj h))
 | .or a b=> ug [124,124] ah ah [eL nm a,eL nm b] (by simp) (uZ a b) (pK a b) (qa (eB nm a) (eB nm b)) _ (fun h=> if_pos ⟨h 0 (by simp),h 1 (by simp)⟩) (fun _ hj h=> if_neg (pL hj h))
 | .bin o a b=> by
  have hty:fz (.bin o a b)=if fz a=1∧fz b=1 then LQ o else 0:=by cases o <;> rfl
  have hk:=qa (eB nm a) (eB nm b)
  by_cases ho:o.txt∈zh
  ·have h2:LQ o=2:=by cases o <;> first | rfl | (exact absurd ho ah)
   rw [h2] at hty
   exact Ir o.txt (vb o) ho [eL nm a,eL nm b] (by simp) (uZ a b) (pK a b) hk _ (fun h=> hty.trans (if_pos ⟨h 0 (by simp),h 1 (by simp)⟩)) (fun _ hj h=> hty.trans (if_neg (pL hj h)))
  have h2:LQ o=1:=by cases o <;> first | rfl | (exact absurd ah ho)
  rw [h2] at hty
  exact Cb o.txt (vb o) ho [eL nm a,eL nm b] (by simp) (uZ a b) (pK a b) hk _ (fun h=> hty.trans (if_pos ⟨h 0 (by simp),h 1 (by simp)⟩)) (fun _ hj h=> hty.trans (if_neg (pL hj h)))
theorem kH (n:Int) (s:Tx) (L:List Nd) (h: ∀ j,j < L.length→Spec Tryz.prog 166 (ba [pA (li L j)] []) (aP (.v (.bool true)) [])):
  Spec Tryz.prog 166 (ba [.agg [.v (.int .i64 11), .v (.int .i64 n), .v (bt s), .sl L.length (mK L)]] []) (aP (.v (.bool true)) []):=by
 refine Spec.ofN Tryz.func166 rfl Tryz.ntmps166 rfl ?_
 refine aq ?_
 refine lx 0 3 rfl rfl rfl fun hlen=> ?_
 unfold maxLen at hlen
 refine an (ai (aQ (1,0) _ rfl rfl) (cq rfl (aj (aq (am (bc rfl rfl rfl (cd rfl rfl rfl (kv rfl rfl rfl (aj (bL rfl rfl ?_))))))))))
 refine aU fun K4 hK4=> ?_
 refine am (be rfl (aj (ay ?_)))
 refine br (α:=Nat) (fun j=> j≤L.length) 73 [(1,_)] [((1,0),_)] (fun j=> [(3, .v (.int .i64 (j:Int)))]) (fun j=> []) [] [] (fun j=> L.length - j) 0 ?_ (by
  refine Le.mkJ [] [] rfl ?_ ?_ trivial trivial ?_
  ·exact ⟨(iP rfl),(cp ag),trivial⟩
  ·exact ⟨(bM rfl rfl rfl),trivial⟩
  kernel_rfl) ?_
 ·omega
 intro j hj
 refine aU fun K6 hK6=> ?_
 refine am (aX rfl (bc rfl rfl rfl (eW rfl rfl rfl (ai (bn _ aa rfl) (ai (bm _ _ rfl rfl rfl) (aj (aR rfl (fun hc17=> ?_) (fun hc17=> ?_))))))))
 ·skip
  refine bs (hK6 _ ?_)
  clear hK6;try clear K6
  refine aq (ay (am (bc rfl rfl rfl (eW rfl rfl rfl (aX rfl (ai (bp _ _ aa rfl rfl _ rfl ab (by (simp only [aO,bi,bl,bw,bv,bI,bz];omega)) ag) ?_))))))
  refine ai (cf _ aa rfl (by exact cQ _ _ ab) rfl) ?_
  refine ai (aH aa al (h j ab) rfl rfl) ?_
  refine cq rfl (aj (am (cN rfl (ai (cg (r:=false) _ rfl rfl) (aj (aW rfl rfl (cr (an (aX rfl (ai (aZ _ _ rfl rfl (bE ab)) ?_))))))))))
  refine be rfl (aJ (⟨j+1,?_,?_,?_⟩))
  ·omega
  ·skip
   refine Le.mkJ [] [] rfl ?_ ?_ trivial trivial ?_
   ·exact ⟨(iP rfl),(cp ag),trivial⟩
   ·exact ⟨(bM rfl rfl rfl),trivial⟩
   kernel_rfl
  omega
 refine bB (id (hK4 _ ?_))
 clear hK4;try clear K4
 refine am (cq rfl (aj (aG (rN rfl rfl ?_))))
 rfl
theorem sf (k:Nat) (hk:k=2∨k=3) (n:Int) (s:Tx) (L:List Nd) (hL:0 < L.length) (ht:Spec Tryz.prog 203 (ba [pA (li L 0)] []) (aP (.v (.int .i64 2)) [])) (h: ∀ j,1≤j→j < L.length→Spec Tryz.prog 166 (ba [pA (li L j)] []) (aP (.v (.bool true)) [])):
  Spec Tryz.prog 166 (ba [.agg [.v (.int .i64 (k:Int)), .v (.int .i64 n), .v (bt s), .sl L.length (mK L)]] []) (aP (.v (.bool true)) []):=by
 refine Spec.ofN Tryz.func166 rfl Tryz.ntmps166 rfl ?_
 refine aq ?_
 refine lx 0 3 rfl rfl rfl fun hlen=> ?_
 unfold maxLen at hlen
 refine an (ai (aQ (1,0) _ rfl rfl) (cq rfl (aj (aq (am (bc rfl rfl rfl (cd rfl rfl rfl (gQ rfl rfl (beq_eq_false_iff_ne.2 ab) ?_))))))))
 refine aj (aW rfl rfl (aS (aq (am (bc rfl rfl rfl (cd rfl rfl rfl (ai (bC _ _ rfl rfl rfl) (cN rfl (dj (fun hg31=> ?_) (fun hg31=> ?_))))))))))
 ·skip
  refine aM rfl rfl ah ?_
  refine aM rfl rfl ah ?_
  refine aM rfl rfl ah ?_
  refine ai (aE _ _ _ rfl bN) (aj (bL rfl rfl (am (bc rfl rfl rfl (eW rfl rfl rfl (ai (bp _ _ aa rfl rfl 0 rfl hL (by simp only [bI];omega) rfl) ?_))))))
  refine ai (cf _ aa rfl (by exact cQ L 0 hL) rfl) ?_
  refine ai (aH aa al (ht) rfl rfl) ?_
  refine be rfl (aj (aU fun K7 hK7=> ?_))
  refine aq ?_
  refine aL (σ':=aD 73 [(1,_),(5,_)] [((1,0),_)] [] []) kp ?_
  refine an (be rfl (aj (ay ?_)))
  refine br (α:=Nat) (fun j=> 1≤j∧j≤L.length) 73 [(1,_),(5,_)] [((1,0),_)] (fun j=> [(6, .v (.int .i64 (j:Int)))]) (fun j=> []) [] [] (fun j=> L.length - j) 1 ?_ (by
   refine Le.mkJ [] [] rfl ?_ ?_ trivial trivial ?_
   ·exact ⟨(iP rfl),(iV rfl),(cp ag),trivial⟩
   ·exact ⟨(bM rfl rfl rfl),trivial⟩
   kernel_rfl) ?_
  ·exact ⟨Nat.le_refl _,hL⟩
  intro j hj
  obtain ⟨hj1,hj2⟩:=hj
  refine aU fun K9 hK9=> ?_
  refine am (aX rfl (bc rfl rfl rfl (eW rfl rfl rfl (ai (bn _ aa rfl) (ai (bm _ _ rfl rfl rfl) (aj (aR rfl (fun hc45=> ?_) (fun hc45=> ?_))))))))
  ·skip
   refine bs (hK9 _ ?_)
   clear hK9;try clear K9
   refine aq (ay (am (bc rfl rfl rfl (eW rfl rfl rfl (aX rfl (ai (bp _ _ aa rfl rfl _ rfl ab (by (simp only [aO,bi,bl,bw,bv,bI,bz];omega)) ag) ?_))))))
   refine ai (cf _ aa rfl (by exact cQ _ _ ab) rfl) ?_
   refine ai (aH aa al (h j hj1 ab) rfl rfl) ?_
   refine cq rfl (aj (am (cN rfl (ai (cg (r:=false) _ rfl rfl) (aj (aW rfl rfl (cr (an (aX rfl (ai (aZ _ _ rfl rfl (bE ab)) ?_))))))))))
   refine be rfl (aJ (⟨j+1,?_,?_,?_⟩))
   ·omega
   ·skip
    refine Le.mkJ [] [] rfl ?_ ?_ trivial trivial ?_
    ·exact ⟨(iP rfl),(iV rfl),(cp ag),trivial⟩
    ·exact ⟨(bM rfl rfl rfl),trivial⟩
    kernel_rfl
   omega
  refine bB (id (hK7 _ ?_))
  clear hK7;try clear K7
  refine am (aX rfl (kv rfl rfl rfl (cq rfl (aj (aG (rN rfl rfl ?_))))))
  rfl
 have hk3:k=3:=by omega
 refine ax rfl rfl (aA _ aa rfl rfl rfl) (ax rfl rfl (aF _ aa rfl rfl ee) (ax rfl rfl (bC (r:=true) _ _ rfl rfl (beq_iff_eq.2 ab)) ?_))
 refine ai (aE _ _ _ rfl bN) (aj (bL rfl rfl (am (bc rfl rfl rfl (eW rfl rfl rfl (ai (bp _ _ aa rfl rfl 0 rfl hL (by simp only [bI];omega) rfl) ?_))))))
 refine ai (cf _ aa rfl (by exact cQ L 0 hL) rfl) ?_
 refine ai (aH aa al (ht) rfl rfl) ?_
 refine be rfl (aj (aU fun K16 hK16=> ?_))
 refine aq ?_
 refine aL (σ':=aD 73 [(1,_),(5,_)] [((1,0),_)] [] []) kp ?_
 refine an (be rfl (aj (ay ?_)))
 refine br (α:=Nat) (fun j=> 1≤j∧j≤L.length) 73 [(1,_),(5,_)] [((1,0),_)] (fun j=> [(6, .v (.int .i64 (j:Int)))]) (fun j=> []) [] [] (fun j=> L.length - j) 1 ?_ (by
  refine Le.mkJ [] [] rfl ?_ ?_ trivial trivial ?_
  ·exact ⟨(iP rfl),(iV rfl),(cp ag),trivial⟩
  ·exact ⟨(bM rfl rfl rfl),trivial⟩
  kernel_rfl) ?_
 ·exact ⟨Nat.le_refl _,hL⟩
 intro j hj
 obtain ⟨hj1,hj2⟩:=hj
 refine aU fun K18 hK18=> ?_
 refine am (aX rfl (bc rfl rfl rfl (eW rfl rfl rfl (ai (bn _ aa rfl) (ai (bm _ _ rfl rfl rfl) (aj (aR rfl (fun hc45=> ?_) (fun hc45=> ?_))))))))
 ·skip
  refine bs (hK18 _ ?_)
  clear hK18;try clear K18
  refine aq (ay (am (bc rfl rfl rfl (eW rfl rfl rfl (aX rfl (ai (bp _ _ aa rfl rfl _ rfl ab (by (simp only [aO,bi,bl,bw,bv,bI,bz];omega)) ag) ?_))))))
  refine ai (cf _ aa rfl (by exact cQ _ _ ab) rfl) ?_
  refine ai (aH aa al (h j hj1 ab) rfl rfl) ?_
  refine cq rfl (aj (am (cN rfl (ai (cg (r:=false) _ rfl rfl) (aj (aW rfl rfl (cr (an (aX rfl (ai (aZ _ _ rfl rfl (bE ab)) ?_))))))))))
  refine be rfl (aJ (⟨j+1,?_,?_,?_⟩))
  ·omega
  ·skip
   refine Le.mkJ [] [] rfl ?_ ?_ trivial trivial ?_
   ·exact ⟨(iP rfl),(iV rfl),(cp ag),trivial⟩
   ·exact ⟨(bM rfl rfl rfl),trivial⟩
   kernel_rfl
  omega
 refine bB (id (hK16 _ ?_))
 clear hK16;try clear K16
 refine am (aX rfl (kv rfl rfl rfl (cq rfl (aj (aG (rN rfl rfl ?_))))))
 rfl
theorem fP (k:Nat) (hk:k≠2∧k≠3∧k≠11) (n:Int) (s:Tx) (L:List Nd) (h: ∀ j,j < L.length→Spec Tryz.prog 203 (ba [pA (li L j)] []) (aP (.v (.int .i64 1)) [])):
  Spec Tryz.prog 166 (ba [.agg [.v (.int .i64 (k:Int)), .v (.int .i64 n), .v (bt s), .sl L.length (mK L)]] []) (aP (.v (.bool true)) []):=by
 refine Spec.ofN Tryz.func166 rfl Tryz.ntmps166 rfl ?_
 refine aq ?_
 refine lx 0 3 rfl rfl rfl fun hlen=> ?_
 unfold maxLen at hlen
 refine an (ai (aQ (1,0) _ rfl rfl) (cq rfl (aj (aq (am (bc rfl rfl rfl (cd rfl rfl rfl (gQ rfl rfl (beq_eq_false_iff_ne.2 ab) ?_))))))))
 refine aj (aW rfl rfl (aS (aq (am (bc rfl rfl rfl (cd rfl rfl rfl (gQ rfl rfl (beq_eq_false_iff_ne.2 ab) ?_)))))))
 refine cN rfl (ax rfl rfl (aA _ aa rfl rfl rfl) (ax rfl rfl (aF _ aa rfl rfl ee) (ax rfl rfl (bC (r:=false) _ _ rfl rfl (beq_eq_false_iff_ne.2 ab)) ?_)))
 refine ai (aE _ _ _ rfl bN) (aj (aW rfl rfl (aS (aU fun K6 hK6=> ?_))))
 refine am (be rfl (aj (ay ?_)))
 refine br (α:=Nat) (fun j=> j≤L.length) 73 [(1,_)] [((1,0),_)] (fun j=> [(8, .v (.int .i64 (j:Int)))]) (fun j=> []) [] [] (fun j=> L.length - j) 0 ?_ (by
  refine Le.mkJ [] [] rfl ?_ ?_ trivial trivial ?_
  ·exact ⟨(iP rfl),(cp ag),trivial⟩
  ·exact ⟨(bM rfl rfl rfl),trivial⟩
  kernel_rfl) ?_
 ·omega
 intro j hj
 refine aU fun K8 hK8=> ?_
 refine am (aX rfl (bc rfl rfl rfl (eW rfl rfl rfl (ai (bn _ aa rfl) (ai (bm _ _ rfl rfl rfl) (aj (aR rfl (fun hc62=> ?_) (fun hc62=> ?_))))))))
 ·skip
  refine bs (hK8 _ ?_)
  clear hK8;try clear K8
  refine aq (ay (am (bc rfl rfl rfl (eW rfl rfl rfl (aX rfl (ai (bp _ _ aa rfl rfl _ rfl ab (by (simp only [aO,bi,bl,bw,bv,bI,bz];omega)) ag) ?_))))))
  refine ai (cf _ aa rfl (by exact cQ _ _ ab) rfl) ?_
  refine ai (aH aa al (h j ab) rfl rfl) ?_
  refine be rfl (aj (am (aX rfl (ai (bU (r:=false) _ _ rfl rfl rfl) (aj (aW rfl rfl (cr (an (aX rfl (ai (aZ _ _ rfl rfl (bE ab)) ?_))))))))))
  refine be rfl (aJ (⟨j+1,?_,?_,?_⟩))
  ·omega
  ·skip
   refine Le.mkJ [] [] rfl ?_ ?_ trivial trivial ?_
   ·exact ⟨(iP rfl),(cp ag),trivial⟩
   ·exact ⟨(bM rfl rfl rfl),trivial⟩
   kernel_rfl
  omega
 refine bB (id (hK6 _ ?_))
 clear hK6;try clear K6
 refine am (cq rfl (aj (aG (rN rfl rfl ?_))))
 rfl

abbrev LW (d:Nd):Prop:=Spec Tryz.prog 166 (ba [pA d] []) (aP (.v (.bool true)) [])
theorem jp {nm:List Tx} {e:Ex} (h:pd e=true):vS (eL nm e) 1:=by
 have:=Nat.eq_of_beq_eq_true h
 have h2:=eB nm e
 rwa [this] at h2
theorem Jz {P:Nd→Prop} {d:Nd} (h:P d): ∀ j,j < [d].length→P (li [d] j):=fun j hj=> by
 have:j=0:=by simpa using hj
 subst this
 exact h
theorem LE {P:Nd→Prop} {d e:Nd} (h:P d) (h':P e): ∀ j,j < [d,e].length→P (li [d,e] j):=fun j hj=> by
 have hj:j < 2:=hj
 have:j=0∨j=1:=by omega
 rcases this with rfl | rfl
 ·exact h
 exact h'
theorem Li {P:Nd→Prop} {d e f:Nd} (h:P d) (h':P e) (h2:P f): ∀ j,j < [d,e,f].length→P (li [d,e,f] j):=fun j hj=> by
 have hj:j < 3:=hj
 have:j=0∨j=1∨j=2:=by omega
 rcases this with rfl | rfl | rfl
 ·exact h
 ·exact h'
 exact h2
theorem DJ {P:Nd→Prop}: ∀ j,j < ([]:List Nd).length→P (li [] j):=fun j hj=> by simp at hj
theorem Lb {P:Nd→Prop} {d:Nd} {l:List Nd} (h:P d) (h': ∀ j,j < l.length→P (li l j)): ∀ j,j < (d::l).length→P (li (d::l) j):=fun j hj=> by
 cases j with
 | zero=> exact h
 | succ j=> exact h' j (by simpa using hj)
mutual
theorem FT (nm:List Tx): ∀ s:Sm,yt s=true→LW (Fl nm s)
 | .assign i e,h=> fP 1 ab 0 (nm.getD i []) [eL nm e] (Jz (P:=fun d=> vS d 1) (jp h))
 | .send t k a b,h=> by
  simp only [yt,Bool.and_eq_true] at h
  exact fP 4 ab k [] [eL nm t,eL nm a,eL nm b] (Li (P:=fun d=> vS d 1) (jp h.1.1) (jp h.1.2) (jp h.2))
 | .timer k,_=> fP 5 ab k [] [] (DJ (P:=fun d=> vS d 1))
 | .cancel k,_=> fP 6 ab k [] [] (DJ (P:=fun d=> vS d 1))
 | .sync,_=> fP 7 ab 0 [] [] (DJ (P:=fun d=> vS d 1))
 | .stop,_=> fP 10 ab 0 [] [] (DJ (P:=fun d=> vS d 1))
 | .reply a b,h=> by
  simp only [yt,Bool.and_eq_true] at h
  exact fP 8 ab 0 [] [eL nm a,eL nm b] (LE (P:=fun d=> vS d 1) (jp h.1) (jp h.2))
 | .fail e,h=> fP 9 ab 0 [] [eL nm e] (Jz (P:=fun d=> vS d 1) (jp h))
 | .loop c b,h=> by
  simp only [yt,Bool.and_eq_true] at h
  have h1:=eB nm c
  rw [Nat.eq_of_beq_eq_true h.1] at h1
  refine sf 3 (.inr rfl) 0 [] [eL nm c,nd 11 0 [] (jg nm b)] (by simp) h1 fun j h1 hj=> ?_
  have hj:j < 2:=hj
  obtain rfl:j=1:=by omega
  exact kH 0 [] (jg nm b) (ni nm b h.2)
 | .ite c a b,h=> by
  simp only [yt,Bool.and_eq_true] at h
  have h1:=eB nm c
  rw [Nat.eq_of_beq_eq_true h.1.1] at h1
  refine sf 2 (.inl rfl) 0 [] [eL nm c,nd 11 0 [] (jg nm a),nd 11 0 [] (jg nm b)] (by simp) h1 fun j h1 hj=> ?_
  have hj:j < 3:=hj
  have:j=1∨j=2:=by omega
  rcases this with rfl | rfl
  ·exact kH 0 [] (jg nm a) (ni nm a h.1.2)
  exact kH 0 [] (jg nm b) (ni nm b h.2)
theorem ni (nm:List Tx): ∀ b:Bk,qh b=true→ ∀ j,j < (jg nm b).length→LW (li (jg nm b) j)
 | .nil,_=> DJ
 | .cons s b,h=> by
  simp only [qh,Bool.and_eq_true] at h
  exact Lb (FT nm s h.1) (ni nm b h.2)
end
theorem FH (nm:List Tx) (b:Bk) (h:qh b=true):LW (jf nm b):=kH 0 [] (jg nm b) (ni nm b h)

def iH (s:Tx) (l:List Tx):List Tx:=if s∈l then l else l++[s]
section
variable (nm:List Tx)
def sL:Ex→List Tx→List Tx
 | .int _,l=> l | .bool _,l=> l | .name _,l=> l
 | .var i,l=> iH (nm.getD i []) l
 | .draw e,l=> sL e l | .neg e,l=> sL e l | .not e,l=> sL e l
 | .bin _ a b,l=> sL b (sL a l)
 | .and a b,l=> sL b (sL a l)
 | .or a b,l=> sL b (sL a l)
mutual
def Mg:Sm→List Tx→List Tx
 | .assign i e,l=> sL nm e (iH (nm.getD i []) l)
 | .send t _ a b,l=> sL nm b (sL nm a (sL nm t l))
 | .timer _,l=> l | .cancel _,l=> l | .sync,l=> l | .stop,l=> l
 | .reply a b,l=> sL nm b (sL nm a l)
 | .fail e,l=> sL nm e l
 | .loop c b,l=> DO b (sL nm c l)
 | .ite c a b,l=> DO b (DO a (sL nm c l))
def DO:Bk→List Tx→List Tx
 | .nil,l=> l
 | .cons s b,l=> DO b (Mg s l)
end
def GN (l:List Tx):Prop:=l.Nodup∧ ∀ x∈l,x∈nm
end
theorem GN.len {nm l:List Tx} (h:GN nm l):l.length≤nm.length:=h.1.length_le_of_subset fun x hx=> h.2 x hx
theorem GN.add {nm l:List Tx} (h:GN nm l) {i:Nat} (hi:i < nm.length):GN nm (iH (nm.getD i []) l):=by
 unfold iH
 split
 ·exact h
 rename_i hn
 refine ⟨List.nodup_append.2 ⟨h.1,by simp,fun a ha b hb e=> hn (by rw [List.mem_singleton.1 hb] at e;exact e ▸ ha)⟩,fun x hx=> ?_⟩
 rcases List.mem_append.1 hx with hx | hx
 ·exact h.2 x hx
 rw [List.mem_singleton.1 hx];exact jY hi
theorem GN.nil {nm:List Tx}:GN nm []:=⟨.nil,fun x hx=> by simp at hx⟩
theorem vB (n:Int) (s:Tx) (L:List Nd) (l:List Tx) (hs:s∉l) (hl:l.length≤1000) (F:Nat→List Tx) (hF:F 0=l++[s]) (h: ∀ j,j < L.length→Spec Tryz.prog 167 (ba [pA (li L j), .sl (F j).length (fm (F j))] []) (aP (.sl (F (j+1)).length (fm (F (j+1)))) [])):
  Spec Tryz.prog 167 (ba [.agg [.v (.int .i64 1), .v (.int .i64 n), .v (bt s), .sl L.length (mK L)], .sl l.length (fm l)] []) (aP (.sl (F L.length).length (fm (F L.length))) []):=by
 refine Spec.ofN Tryz.func167 rfl Tryz.ntmps167 rfl ?_
 refine aq ?_
 refine lx 0 3 rfl rfl rfl fun hlen=> ?_
 unfold maxLen at hlen
 refine an (ai (aQ (2,0) _ rfl rfl) (ai (bq _ fG) (aj (aq (am (bc rfl rfl rfl (cd rfl rfl rfl (kv rfl rfl rfl (cN rfl (aM rfl rfl ah ?_))))))))))
 refine aM rfl rfl ah ?_
 refine aM rfl rfl ah ?_
 refine ai (aE _ _ _ rfl bN) (cN rfl (ax rfl rfl (aI _ nD) (ax rfl rfl (aA _ aa rfl rfl rfl) (ax rfl rfl (aF _ aa rfl rfl fB) (ax rfl rfl (aH aa al (gE l _ rfl ab s) rfl rfl) ?_)))))
 refine ax rfl rfl (cg _ rfl rfl) (ai (aE _ _ _ rfl bN) (aj (bL rfl (by rw [decide_eq_false hs];rfl) ?_)))
 refine aq ?_
 refine aL (σ':=aD 45 [(1,_),(2,_)] [((2,0),_)] [] []) kp ?_
 refine an (ai (bq _ fG) (aj (am (ai (aI _ fG) (eV rfl (ai (vO (24,0) _ _ aa rfl (.sl (by simp)) ab rfl) ?_))))))
 refine fj rfl (aj (an (gJ rfl (bc rfl rfl rfl (ai (aF _ aa rfl rfl fB) (ai (bg _ _ aa rfl ag (by (simp <;> rfl)) ah rfl) ?_))))))
 refine ai (du (29,0) _ _ aa rfl rfl (by simp) (.sl rfl) ab rfl (nN _ _) (show l.length+1=(l++[s]).length by simp)) ?_
 refine fj rfl (aj (aU fun K6 hK6=> ?_))
 refine am (be rfl (aj (ay ?_)))
 refine aL (Le.frzS 1 (ys:=fm (l++[s])) rfl rfl rfl (by rw [List.drop_zero,Nat.mul_one];exact List.take_of_length_le (by simp)) (by simp)) ?_
 refine br (α:=Nat) (fun j=> j≤L.length) 45 [(2,_)] [((2,0),_)] (fun j=> [(6, .v (.int .i64 (j:Int))),(1, .sl (F j).length (fm (F j)))]) (fun j=> []) [] [] (fun j=> L.length - j) 0 ?_ (by
  refine Le.mkJ [] [] rfl ?_ ?_ trivial trivial ?_
  ·exact ⟨(iP rfl),(cp ag),(jc (by rw [hF]) (by rw [hF])),trivial⟩
  ·exact ⟨(bM rfl rfl rfl),trivial⟩
  kernel_rfl) ?_
 ·omega
 intro j hj
 refine aU fun K8 hK8=> ?_
 refine am (aX rfl (bc rfl rfl rfl (eW rfl rfl rfl (ai (bn _ aa rfl) (ai (bm _ _ rfl rfl rfl) (aj (aR rfl (fun hc34=> ?_) (fun hc34=> ?_))))))))
 ·skip
  refine bs (hK8 _ ?_)
  clear hK8;try clear K8
  refine aq (ay (an (bc rfl rfl rfl (eW rfl rfl rfl (aX rfl (ai (bp _ _ aa rfl rfl _ rfl ab (by (simp only [aO,bi,bl,bw,bv,bI,bz];omega)) ag) ?_))))))
  refine ai (cf _ aa rfl (by exact cQ _ _ ab) rfl) ?_
  refine eV rfl (ai (aH aa al (h j ab) rfl rfl) ?_)
  refine kD rfl (dY (an (aX rfl (ai (aZ _ _ rfl rfl (bE ab)) ?_))))
  refine be rfl (aJ (⟨j+1,?_,?_,?_⟩))
  ·omega
  ·skip
   refine Le.mkJ [] [] rfl ?_ ?_ trivial trivial ?_
   ·exact ⟨(iP rfl),(cp ag),(jc ag ag),trivial⟩
   ·exact ⟨(bM rfl rfl rfl),trivial⟩
   kernel_rfl
  omega
 obtain rfl:j=L.length:=by omega
 refine bB (id (hK6 _ ?_))
 clear hK6;try clear K6
 exact am (eV rfl (kD rfl (aj (aG (qI rfl rfl)))))
theorem vj (n:Int) (s:Tx) (L:List Nd) (l:List Tx) (hs:s∈l) (hl:l.length≤1000) (F:Nat→List Tx) (hF:F 0=l) (h: ∀ j,j < L.length→Spec Tryz.prog 167 (ba [pA (li L j), .sl (F j).length (fm (F j))] []) (aP (.sl (F (j+1)).length (fm (F (j+1)))) [])):
  Spec Tryz.prog 167 (ba [.agg [.v (.int .i64 1), .v (.int .i64 n), .v (bt s), .sl L.length (mK L)], .sl l.length (fm l)] []) (aP (.sl (F L.length).length (fm (F L.length))) []):=by
 refine Spec.ofN Tryz.func167 rfl Tryz.ntmps167 rfl ?_
 refine aq ?_
 refine lx 0 3 rfl rfl rfl fun hlen=> ?_
 unfold maxLen at hlen
 refine an (ai (aQ (2,0) _ rfl rfl) (ai (bq _ fG) (aj (aq (am (bc rfl rfl rfl (cd rfl rfl rfl (kv rfl rfl rfl (cN rfl (aM rfl rfl ah ?_))))))))))
 refine aM rfl rfl ah ?_
 refine aM rfl rfl ah ?_
 refine ai (aE _ _ _ rfl bN) (cN rfl (ax rfl rfl (aI _ nD) (ax rfl rfl (aA _ aa rfl rfl rfl) (ax rfl rfl (aF _ aa rfl rfl fB) (ax rfl rfl (aH aa al (gE l _ rfl ab s) rfl rfl) ?_)))))
 refine ax rfl rfl (cg _ rfl rfl) (ai (aE _ _ _ rfl bN) (aj (aW rfl (by rw [decide_eq_true hs];rfl) ?_)))
 refine aS (aU fun K4 hK4=> ?_)
 refine aq ?_
 refine aL (σ':=aD 45 [(1,_),(2,_)] [((2,0),_)] [] []) kp ?_
 refine an (be rfl (aj (ay ?_)))
 refine br (α:=Nat) (fun j=> j≤L.length) 45 [(2,_)] [((2,0),_)] (fun j=> [(6, .v (.int .i64 (j:Int))),(1, .sl (F j).length (fm (F j)))]) (fun j=> []) [] [] (fun j=> L.length - j) 0 ?_ (by
  refine Le.mkJ [] [] rfl ?_ ?_ trivial trivial ?_
  ·exact ⟨(iP rfl),(cp ag),(jc (by rw [hF]) (by rw [hF])),trivial⟩
  ·exact ⟨(bM rfl rfl rfl),trivial⟩
  kernel_rfl) ?_
 ·omega
 intro j hj
 refine aU fun K6 hK6=> ?_
 refine am (aX rfl (bc rfl rfl rfl (eW rfl rfl rfl (ai (bn _ aa rfl) (ai (bm _ _ rfl rfl rfl) (aj (aR rfl (fun hc34=> ?_) (fun hc34=> ?_))))))))
 ·skip
  refine bs (hK6 _ ?_)
  clear hK6;try clear K6
  refine aq (ay (an (bc rfl rfl rfl (eW rfl rfl rfl (aX rfl (ai (bp _ _ aa rfl rfl _ rfl ab (by (simp only [aO,bi,bl,bw,bv,bI,bz];omega)) ag) ?_))))))
  refine ai (cf _ aa rfl (by exact cQ _ _ ab) rfl) ?_
  refine eV rfl (ai (aH aa al (h j ab) rfl rfl) ?_)
  refine kD rfl (dY (an (aX rfl (ai (aZ _ _ rfl rfl (bE ab)) ?_))))
  refine be rfl (aJ (⟨j+1,?_,?_,?_⟩))
  ·omega
  ·skip
   refine Le.mkJ [] [] rfl ?_ ?_ trivial trivial ?_
   ·exact ⟨(iP rfl),(cp ag),(jc ag ag),trivial⟩
   ·exact ⟨(bM rfl rfl rfl),trivial⟩
   kernel_rfl
  omega
 obtain rfl:j=L.length:=by omega
 refine bB (id (hK4 _ ?_))
 clear hK4;try clear K4
 exact am (eV rfl (kD rfl (aj (aG (qI rfl rfl)))))
theorem sO (n:Int) (s:Tx) (L:List Nd) (l:List Tx) (hs:s∉l) (hl:l.length≤1000) (F:Nat→List Tx) (hF:F 0=l++[s]) (h: ∀ j,j < L.length→Spec Tryz.prog 167 (ba [pA (li L j), .sl (F j).length (fm (F j))] []) (aP (.sl (F (j+1)).length (fm (F (j+1)))) [])):
  Spec Tryz.prog 167 (ba [.agg [.v (.int .i64 14), .v (.int .i64 n), .v (bt s), .sl L.length (mK L)], .sl l.length (fm l)] []) (aP (.sl (F L.length).length (fm (F L.length))) []):=by
 refine Spec.ofN Tryz.func167 rfl Tryz.ntmps167 rfl ?_
 refine aq ?_
 refine lx 0 3 rfl rfl rfl fun hlen=> ?_
 unfold maxLen at hlen
 refine an (ai (aQ (2,0) _ rfl rfl) (ai (bq _ fG) (aj (aq (am (bc rfl rfl rfl (cd rfl rfl rfl (gQ rfl rfl rfl (cN rfl (ax rfl rfl (aA _ aa rfl rfl rfl) ?_))))))))))
 refine ax rfl rfl (aF _ aa rfl rfl ee) (ax rfl rfl (bC (r:=true) _ _ rfl rfl rfl) (ai (aE _ _ _ rfl bN) (cN rfl (ax rfl rfl (aI _ nD) (ax rfl rfl (aA _ aa rfl rfl rfl) (ax rfl rfl (aF _ aa rfl rfl fB) (ax rfl rfl (aH aa al (gE l _ rfl ab s) rfl rfl) ?_)))))))
 refine ax rfl rfl (cg _ rfl rfl) (ai (aE _ _ _ rfl bN) (aj (bL rfl (by rw [decide_eq_false hs];rfl) ?_)))
 refine aq ?_
 refine aL (σ':=aD 45 [(1,_),(2,_)] [((2,0),_)] [] []) kp ?_
 refine an (ai (bq _ fG) (aj (am (ai (aI _ fG) (eV rfl (ai (vO (24,0) _ _ aa rfl (.sl (by simp)) ab rfl) ?_))))))
 refine fj rfl (aj (an (gJ rfl (bc rfl rfl rfl (ai (aF _ aa rfl rfl fB) (ai (bg _ _ aa rfl ag (by (simp <;> rfl)) ah rfl) ?_))))))
 refine ai (du (29,0) _ _ aa rfl rfl (by simp) (.sl rfl) ab rfl (nN _ _) (show l.length+1=(l++[s]).length by simp)) ?_
 refine fj rfl (aj (aU fun K6 hK6=> ?_))
 refine am (be rfl (aj (ay ?_)))
 refine aL (Le.frzS 1 (ys:=fm (l++[s])) rfl rfl rfl (by rw [List.drop_zero,Nat.mul_one];exact List.take_of_length_le (by simp)) (by simp)) ?_
 refine br (α:=Nat) (fun j=> j≤L.length) 45 [(2,_)] [((2,0),_)] (fun j=> [(6, .v (.int .i64 (j:Int))),(1, .sl (F j).length (fm (F j)))]) (fun j=> []) [] [] (fun j=> L.length - j) 0 ?_ (by
  refine Le.mkJ [] [] rfl ?_ ?_ trivial trivial ?_
  ·exact ⟨(iP rfl),(cp ag),(jc (by rw [hF]) (by rw [hF])),trivial⟩
  ·exact ⟨(bM rfl rfl rfl),trivial⟩
  kernel_rfl) ?_
 ·omega
 intro j hj
 refine aU fun K8 hK8=> ?_
 refine am (aX rfl (bc rfl rfl rfl (eW rfl rfl rfl (ai (bn _ aa rfl) (ai (bm _ _ rfl rfl rfl) (aj (aR rfl (fun hc34=> ?_) (fun hc34=> ?_))))))))
 ·skip
  refine bs (hK8 _ ?_)
  clear hK8;try clear K8
  refine aq (ay (an (bc rfl rfl rfl (eW rfl rfl rfl (aX rfl (ai (bp _ _ aa rfl rfl _ rfl ab (by (simp only [aO,bi,bl,bw,bv,bI,bz];omega)) ag) ?_))))))
  refine ai (cf _ aa rfl (by exact cQ _ _ ab) rfl) ?_
  refine eV rfl (ai (aH aa al (h j ab) rfl rfl) ?_)
  refine kD rfl (dY (an (aX rfl (ai (aZ _ _ rfl rfl (bE ab)) ?_))))
  refine be rfl (aJ (⟨j+1,?_,?_,?_⟩))
  ·omega
  ·skip
   refine Le.mkJ [] [] rfl ?_ ?_ trivial trivial ?_
   ·exact ⟨(iP rfl),(cp ag),(jc ag ag),trivial⟩
   ·exact ⟨(bM rfl rfl rfl),trivial⟩
   kernel_rfl
  omega
 obtain rfl:j=L.length:=by omega
 refine bB (id (hK6 _ ?_))
 clear hK6;try clear K6
 exact am (eV rfl (kD rfl (aj (aG (qI rfl rfl)))))
theorem sE (n:Int) (s:Tx) (L:List Nd) (l:List Tx) (hs:s∈l) (hl:l.length≤1000) (F:Nat→List Tx) (hF:F 0=l) (h: ∀ j,j < L.length→Spec Tryz.prog 167 (ba [pA (li L j), .sl (F j).length (fm (F j))] []) (aP (.sl (F (j+1)).length (fm (F (j+1)))) [])):
  Spec Tryz.prog 167 (ba [.agg [.v (.int .i64 14), .v (.int .i64 n), .v (bt s), .sl L.length (mK L)], .sl l.length (fm l)] []) (aP (.sl (F L.length).length (fm (F L.length))) []):=by
 refine Spec.ofN Tryz.func167 rfl Tryz.ntmps167 rfl ?_
 refine aq ?_
 refine lx 0 3 rfl rfl rfl fun hlen=> ?_
 unfold maxLen at hlen
 refine an (ai (aQ (2,0) _ rfl rfl) (ai (bq _ fG) (aj (aq (am (bc rfl rfl rfl (cd rfl rfl rfl (gQ rfl rfl rfl (cN rfl (ax rfl rfl (aA _ aa rfl rfl rfl) ?_))))))))))
 refine ax rfl rfl (aF _ aa rfl rfl ee) (ax rfl rfl (bC (r:=true) _ _ rfl rfl rfl) (ai (aE _ _ _ rfl bN) (cN rfl (ax rfl rfl (aI _ nD) (ax rfl rfl (aA _ aa rfl rfl rfl) (ax rfl rfl (aF _ aa rfl rfl fB) (ax rfl rfl (aH aa al (gE l _ rfl ab s) rfl rfl) ?_)))))))
 refine ax rfl rfl (cg _ rfl rfl) (ai (aE _ _ _ rfl bN) (aj (aW rfl (by rw [decide_eq_true hs];rfl) ?_)))
 refine aS (aU fun K4 hK4=> ?_)
 refine aq ?_
 refine aL (σ':=aD 45 [(1,_),(2,_)] [((2,0),_)] [] []) kp ?_
 refine an (be rfl (aj (ay ?_)))
 refine br (α:=Nat) (fun j=> j≤L.length) 45 [(2,_)] [((2,0),_)] (fun j=> [(6, .v (.int .i64 (j:Int))),(1, .sl (F j).length (fm (F j)))]) (fun j=> []) [] [] (fun j=> L.length - j) 0 ?_ (by
  refine Le.mkJ [] [] rfl ?_ ?_ trivial trivial ?_
  ·exact ⟨(iP rfl),(cp ag),(jc (by rw [hF]) (by rw [hF])),trivial⟩
  ·exact ⟨(bM rfl rfl rfl),trivial⟩
  kernel_rfl) ?_
 ·omega
 intro j hj
 refine aU fun K6 hK6=> ?_
 refine am (aX rfl (bc rfl rfl rfl (eW rfl rfl rfl (ai (bn _ aa rfl) (ai (bm _ _ rfl rfl rfl) (aj (aR rfl (fun hc34=> ?_) (fun hc34=> ?_))))))))
 ·skip
  refine bs (hK6 _ ?_)
  clear hK6;try clear K6
  refine aq (ay (an (bc rfl rfl rfl (eW rfl rfl rfl (aX rfl (ai (bp _ _ aa rfl rfl _ rfl ab (by (simp only [aO,bi,bl,bw,bv,bI,bz];omega)) ag) ?_))))))
  refine ai (cf _ aa rfl (by exact cQ _ _ ab) rfl) ?_
  refine eV rfl (ai (aH aa al (h j ab) rfl rfl) ?_)
  refine kD rfl (dY (an (aX rfl (ai (aZ _ _ rfl rfl (bE ab)) ?_))))
  refine be rfl (aJ (⟨j+1,?_,?_,?_⟩))
  ·omega
  ·skip
   refine Le.mkJ [] [] rfl ?_ ?_ trivial trivial ?_
   ·exact ⟨(iP rfl),(cp ag),(jc ag ag),trivial⟩
   ·exact ⟨(bM rfl rfl rfl),trivial⟩
   kernel_rfl
  omega
 obtain rfl:j=L.length:=by omega
 refine bB (id (hK4 _ ?_))
 clear hK4;try clear K4
 exact am (eV rfl (kD rfl (aj (aG (qI rfl rfl)))))
theorem vi (k:Nat) (hk:k≠1∧k≠14) (n:Int) (s:Tx) (L:List Nd) (l:List Tx) (hl:l.length≤1000) (F:Nat→List Tx) (hF:F 0=l) (h: ∀ j,j < L.length→Spec Tryz.prog 167 (ba [pA (li L j), .sl (F j).length (fm (F j))] []) (aP (.sl (F (j+1)).length (fm (F (j+1)))) [])):
  Spec Tryz.prog 167 (ba [.agg [.v (.int .i64 (k:Int)), .v (.int .i64 n), .v (bt s), .sl L.length (mK L)], .sl l.length (fm l)] []) (aP (.sl (F L.length).length (fm (F L.length))) []):=by
 refine Spec.ofN Tryz.func167 rfl Tryz.ntmps167 rfl ?_
 refine aq ?_
 refine lx 0 3 rfl rfl rfl fun hlen=> ?_
 unfold maxLen at hlen
 refine an (ai (aQ (2,0) _ rfl rfl) (ai (bq _ fG) (aj (aq (am (bc rfl rfl rfl (cd rfl rfl rfl (gQ rfl rfl (beq_eq_false_iff_ne.2 ab) ?_))))))))
 refine cN rfl (ax rfl rfl (aA _ aa rfl rfl rfl) (ax rfl rfl (aF _ aa rfl rfl ee) (ax rfl rfl (bC (r:=false) _ _ rfl rfl (beq_eq_false_iff_ne.2 ab)) ?_)))
 refine ai (aE _ _ _ rfl bN) (cN rfl (aM rfl rfl ah ?_))
 refine aM rfl rfl ah ?_
 refine aM rfl rfl ah ?_
 refine aM rfl rfl ah ?_
 refine aM rfl rfl ah ?_
 refine ai (aE _ _ _ rfl bN) (aj (aW rfl rfl (aS (aU fun K4 hK4=> ?_))))
 refine aq ?_
 refine aL (σ':=aD 45 [(1,_),(2,_)] [((2,0),_)] [] []) kp ?_
 refine an (be rfl (aj (ay ?_)))
 refine br (α:=Nat) (fun j=> j≤L.length) 45 [(2,_)] [((2,0),_)] (fun j=> [(6, .v (.int .i64 (j:Int))),(1, .sl (F j).length (fm (F j)))]) (fun j=> []) [] [] (fun j=> L.length - j) 0 ?_ (by
  refine Le.mkJ [] [] rfl ?_ ?_ trivial trivial ?_
  ·exact ⟨(iP rfl),(cp ag),(jc (by rw [hF]) (by rw [hF])),trivial⟩
  ·exact ⟨(bM rfl rfl rfl),trivial⟩
  kernel_rfl) ?_
 ·omega
 intro j hj
 refine aU fun K6 hK6=> ?_
 refine am (aX rfl (bc rfl rfl rfl (eW rfl rfl rfl (ai (bn _ aa rfl) (ai (bm _ _ rfl rfl rfl) (aj (aR rfl (fun hc34=> ?_) (fun hc34=> ?_))))))))
 ·skip
  refine bs (hK6 _ ?_)
  clear hK6;try clear K6
  refine aq (ay (an (bc rfl rfl rfl (eW rfl rfl rfl (aX rfl (ai (bp _ _ aa rfl rfl _ rfl ab (by (simp only [aO,bi,bl,bw,bv,bI,bz];omega)) ag) ?_))))))
  refine ai (cf _ aa rfl (by exact cQ _ _ ab) rfl) ?_
  refine eV rfl (ai (aH aa al (h j ab) rfl rfl) ?_)
  refine kD rfl (dY (an (aX rfl (ai (aZ _ _ rfl rfl (bE ab)) ?_))))
  refine be rfl (aJ (⟨j+1,?_,?_,?_⟩))
  ·omega
  ·skip
   refine Le.mkJ [] [] rfl ?_ ?_ trivial trivial ?_
   ·exact ⟨(iP rfl),(cp ag),(jc ag ag),trivial⟩
   ·exact ⟨(bM rfl rfl rfl),trivial⟩
   kernel_rfl
  omega
 obtain rfl:j=L.length:=by omega
 refine bB (id (hK4 _ ?_))
 clear hK4;try clear K4
 exact am (eV rfl (kD rfl (aj (aG (qI rfl rfl)))))
def fW (fs:List (List Tx→List Tx)) (l:List Tx):List Tx:=fs.foldl (fun l f=> f l) l
theorem kO {fs:List (List Tx→List Tx)} {l:List Tx} {j:Nat} (h:j < fs.length):fW (fs.take (j+1)) l=fs.getD j id (fW (fs.take j) l):=by
 rw [List.take_succ_eq_append_getElem h]
 unfold fW
 rw [List.foldl_append,List.getD_eq_getElem?_getD,List.getElem?_eq_getElem h];rfl
abbrev yG (nm:List Tx) (d:Nd) (f:List Tx→List Tx):Prop:= ∀ l,GN nm l→Spec Tryz.prog 167 (ba [pA d, .sl l.length (fm l)] []) (aP (.sl (f l).length (fm (f l))) [])∧GN nm (f l)
section
variable {nm:List Tx} (hnm:nm.length≤16) {L:List Nd} {fs:List (List Tx→List Tx)} (hfs:fs.length=L.length) (h: ∀ j,j < L.length→yG nm (li L j) (fs.getD j id))
theorem qU (hfs:fs.length=L.length) (h: ∀ j,j < L.length→yG nm (li L j) (fs.getD j id)) {l:List Tx} (hl:GN nm l): ∀ j,j≤L.length→GN nm (fW (fs.take j) l)
 | 0,_=> by simpa [fW] using hl
 | j+1,hj=> by
  rw [kO ab]
  exact (h j ab _ (qU hfs h hl j ab)).2
theorem cH (hnm:nm.length≤16) (hfs:fs.length=L.length) (h: ∀ j,j < L.length→yG nm (li L j) (fs.getD j id)) (k:Nat) (hk:k≠1∧k≠14) (n:Nat) (s:Tx):yG nm (nd k n s L) (fW fs):=fun l hl=> by
 have hg:=qU hfs h hl
 have he:fW (fs.take L.length) l=fW fs l:=by rw [← hfs,List.take_length]
 have hw:=vi k hk n s L l (by have:=hl.len;omega) (fun j=> fW (fs.take j) l) rfl fun j hj=> by
  rw [show fW (fs.take (j+1)) l=_ from kO ab]
  exact (h j hj _ (hg j ab)).1
 rw [he] at hw
 exact ⟨hw,he ▸ hg _ (Nat.le_refl _)⟩
theorem xS (hnm:nm.length≤16) (hfs:fs.length=L.length) (h: ∀ j,j < L.length→yG nm (li L j) (fs.getD j id)) (n:Nat) {i:Nat} (hi:i < nm.length):yG nm (nd 1 n (nm.getD i []) L) (fun l=> fW fs (iH (nm.getD i []) l)):=fun l hl=> by
 have hg:=qU hfs h (hl.add hi)
 have he:fW (fs.take L.length) (iH (nm.getD i []) l)=fW fs (iH (nm.getD i []) l):=by rw [← hfs,List.take_length]
 have hkid: ∀ j,j < L.length→_:=fun j hj=> (h j hj _ (hg j ab)).1
 have hll:=hl.len
 show Spec _ _ _ (aP (.sl (fW fs (iH (nm.getD i []) l)).length (fm (fW fs (iH (nm.getD i []) l)))) [])∧GN nm (fW fs (iH (nm.getD i []) l))
 rw [← he]
 refine ⟨?_,hg _ (Nat.le_refl _)⟩
 by_cases hs:nm.getD i []∈l
 ·exact vj n _ L l hs ab (fun j=> fW (fs.take j) (iH (nm.getD i []) l)) (by show iH _ l=l;unfold iH;rw [if_pos hs]) fun j hj=> by
   rw [show fW (fs.take (j+1)) (iH (nm.getD i []) l)=_ from kO ab]
   exact hkid j hj
 exact vB n _ L l hs ab (fun j=> fW (fs.take j) (iH (nm.getD i []) l)) (by show iH _ l=_;unfold iH;rw [if_neg hs]) fun j hj=> by
  rw [show fW (fs.take (j+1)) (iH (nm.getD i []) l)=_ from kO ab]
  exact hkid j hj
end
theorem yH {nm:List Tx} (hnm:nm.length≤16) {i:Nat} (hi:i < nm.length):yG nm (nd 14 0 (nm.getD i []) []) (iH (nm.getD i [])):=fun l hl=> by
 have hll:=hl.len
 refine ⟨?_,hl.add hi⟩
 by_cases hs:nm.getD i []∈l
 ·exact sE 0 _ [] l hs ab (fun _=> iH (nm.getD i []) l) (by show iH _ l=l;unfold iH;rw [if_pos hs]) fun j hj=> by simp at hj
 exact sO 0 _ [] l hs ab (fun _=> iH (nm.getD i []) l) (by show iH _ l=_;unfold iH;rw [if_neg hs]) fun j hj=> by simp at hj
section
variable {nm:List Tx}
abbrev Bf (nm:List Tx) (L:List Nd) (fs:List (List Tx→List Tx)):Prop:= ∀ j,j < L.length→yG nm (li L j) (fs.getD j id)
theorem rO:Bf nm [] []:=fun j hj=> by simp at hj
theorem qZ {d:Nd} {f:List Tx→List Tx} {L:List Nd} {fs:List (List Tx→List Tx)} (h:yG nm d f) (h':Bf nm L fs):Bf nm (d::L) (f::fs):=fun j hj=> by
 cases j with
 | zero=> exact h
 | succ j=> exact h' j (by simpa using hj)
theorem dC (hnm:nm.length≤16): ∀ e:Ex,hZ nm.length e→yG nm (eL nm e) (sL nm e)
 | .int _,_=> cH hnm rfl rO 12 ab _ _
 | .bool _,_=> cH hnm rfl rO 13 ab _ _
 | .name _,_=> cH hnm rfl rO 15 ab _ _
 | .var i,h=> yH hnm h
 | .draw e,h=> cH hnm rfl (qZ (dC hnm e h) rO) 16 ab _ _
 | .neg e,h=> cH hnm rfl (qZ (dC hnm e h) rO) 17 ab _ _
 | .not e,h=> cH hnm rfl (qZ (dC hnm e h) rO) 17 ab _ _
 | .bin _ a b,h=> cH hnm rfl (qZ (dC hnm a h.1) (qZ (dC hnm b h.2) rO)) 18 ab _ _
 | .and a b,h=> cH hnm rfl (qZ (dC hnm a h.1) (qZ (dC hnm b h.2) rO)) 18 ab _ _
 | .or a b,h=> cH hnm rfl (qZ (dC hnm a h.1) (qZ (dC hnm b h.2) rO)) 18 ab _ _
def GQ (nm:List Tx):Bk→List (List Tx→List Tx)
 | .nil=> []
 | .cons s b=> Mg nm s::GQ nm b
theorem xx (nm:List Tx): ∀ b:Bk,(GQ nm b).length=(jg nm b).length
 | .nil=> by simp [GQ,jg]
 | .cons s b=> by simp [GQ,jg,xx nm b]
theorem uM (nm:List Tx): ∀ (b:Bk) (l:List Tx),fW (GQ nm b) l=DO nm b l
 | .nil,l=> rfl
 | .cons s b,l=> by rw [DO,← uM nm b];rfl
theorem mb (hnm:nm.length≤16) {b:Bk} (h:Bf nm (jg nm b) (GQ nm b)):yG nm (jf nm b) (DO nm b):=by
 have:=cH hnm (xx nm b) h 11 ab 0 []
 rwa [show fW (GQ nm b)=DO nm b from funext (uM nm b)] at this
mutual
theorem CP (hnm:nm.length≤16): ∀ s:Sm,gH nm.length s→yG nm (Fl nm s) (Mg nm s)
 | .assign i e,h=> by rw [gH] at h;exact xS hnm rfl (qZ (dC hnm e h.2) rO) 0 h.1
 | .send t k a b,h=> by rw [gH] at h;exact cH hnm rfl (qZ (dC hnm t h.2.1) (qZ (dC hnm a h.2.2.1) (qZ (dC hnm b h.2.2.2) rO))) 4 ab _ _
 | .timer _,_=> cH hnm rfl rO 5 ab _ _
 | .cancel _,_=> cH hnm rfl rO 6 ab _ _
 | .sync,_=> cH hnm rfl rO 7 ab _ _
 | .stop,_=> cH hnm rfl rO 10 ab _ _
 | .reply a b,h=> by rw [gH] at h;exact cH hnm rfl (qZ (dC hnm a h.1) (qZ (dC hnm b h.2) rO)) 8 ab _ _
 | .fail e,h=> by rw [gH] at h;exact cH hnm rfl (qZ (dC hnm e h) rO) 9 ab _ _
 | .loop c b,h=> by rw [gH] at h;exact cH hnm rfl (qZ (dC hnm c h.1) (qZ (mb hnm (lK hnm b h.2)) rO)) 3 ab _ _
 | .ite c a b,h=> by rw [gH] at h;exact cH hnm rfl (qZ (dC hnm c h.1) (qZ (mb hnm (lK hnm a h.2.1)) (qZ (mb hnm (lK hnm b h.2.2)) rO))) 2 ab _ _
theorem lK (hnm:nm.length≤16): ∀ b:Bk,lh nm.length b→Bf nm (jg nm b) (GQ nm b)
 | .nil,_=> rO
 | .cons s b,h=> by rw [lh] at h;exact qZ (CP hnm s h.1) (lK hnm b h.2)
end
theorem zL (hnm:nm.length≤16) (b:Bk) (h:lh nm.length b):yG nm (jf nm b) (DO nm b):=mb hnm (lK hnm b h)
end

theorem mG {l:List Tx} (h:l.Nodup) {i j:Nat} (hi:i < l.length) (hj:j < l.length) (e:l.getD i []=l.getD j []):i=j:=by
 rw [List.getD_eq_getElem?_getD,List.getD_eq_getElem?_getD,List.getElem?_eq_getElem hi,List.getElem?_eq_getElem hj] at e
 have h:=List.pairwise_iff_getElem.1 h
 rcases Nat.lt_trichotomy i j with hlt | rfl | hlt
 ·exact absurd (Option.some.inj (by simpa using e)) (h i j hi hj hlt)
 ·rfl
 exact absurd (Option.some.inj (by simpa using e)).symm (h j i hj hi hlt)
theorem rV {a b:List Tx} {k:Nat} (h:k < a.length):a.getD k []=(a++b).getD k []:=by
 rw [List.getD_eq_getElem?_getD,List.getD_eq_getElem?_getD,List.getElem?_append_left h]
theorem getD_right {a b:List Tx} {k:Nat}:b.getD k []=(a++b).getD (a.length+k) []:=by
 rw [List.getD_eq_getElem?_getD,List.getD_eq_getElem?_getD,List.getElem?_append_right ab,Nat.add_sub_cancel_left]
theorem mW (d v:List Tx) (on:List PV) (no:Nat) (hn:(d++v).Nodup) (hl:(d++v).length≤1000) (i:Nat) (hi:i < (d++v).length):
  Spec Tryz.prog 121 (ba [.agg [.sl d.length (fm d), .sl v.length (fm v), .sl no on], .v (bt ((d++v).getD i []))] []) (aP (.v (.int .i64 (i:Int))) []):=by
 have hl2:(d++v).length=d.length+v.length:=List.length_append
 refine Spec.ofN Tryz.func121 rfl Tryz.ntmps121 rfl ?_
 refine am (ai (aQ (2,0) _ rfl rfl) (be rfl (aj (aU fun K2 hK2=> ?_))))
 refine am (be rfl (aj (ay ?_)))
 refine br (α:=Nat) (fun k=> k≤d.length∧k≤i) 41 [(1,_),(2,_)] [((2,0),_)] (fun k=> [(5, .v (.int .i64 (k:Int)))]) (fun k=> []) [] [] (fun k=> d.length - k) 0 ?_ (by
  refine Le.mkJ [] [] rfl ?_ ?_ trivial trivial ?_
  ·exact ⟨(iV rfl),(iP rfl),(cp ag),trivial⟩
  ·exact ⟨(bM rfl rfl rfl),trivial⟩
  kernel_rfl) ?_
 ·exact ⟨Nat.zero_le _,Nat.zero_le _⟩
 intro k hk
 obtain ⟨hk,hki⟩:=hk
 refine aU fun K4 hK4=> ?_
 refine am (aX rfl (bc rfl rfl rfl (eW rfl rfl rfl (ai (bn _ aa rfl) (ai (bm _ _ rfl rfl rfl) (aj (aR rfl (fun hc11=> ?_) (fun hc11=> ?_))))))))
 ·skip
  refine bs (hK4 _ ?_)
  clear hK4;try clear K4
  refine aq (ay (am (bc rfl rfl rfl (eW rfl rfl rfl (aX rfl (ai (bp _ _ aa rfl rfl _ rfl ab (by (simp only [aO,bi,bl,bw,bv,bI,bz,List.length_map];omega)) (by exact Nat.mul_one _)) ?_))))))
  refine ai (bO _ aa rfl (by exact jI _ _ ab) rfl) ?_
  refine ei rfl (ai (aV _ _ Tryz.underlying9 rfl rfl rfl) (aj (aR rfl (fun hc20=> ?_) (fun hc20=> ?_))))
  ·skip
   have he:k=i:=mG hn ab hi ((rV ab).symm.trans hc20)
   refine am (aX rfl (be rfl (aj (aG (sc rfl rfl ?_)))))
   rw [he]
  have he:k≠i:=fun e=> hc20 ((rV ab).trans (by rw [e]))
  refine cr (an (aX rfl (ai (aZ _ _ rfl rfl (bE ab)) ?_)))
  refine be rfl (aJ (⟨k+1,?_,?_,?_⟩))
  ·exact ⟨by omega,by omega⟩
  ·skip
   refine Le.mkJ [] [] rfl ?_ ?_ trivial trivial ?_
   ·exact ⟨(iV rfl),(iP rfl),(cp ag),trivial⟩
   ·exact ⟨(bM rfl rfl rfl),trivial⟩
   kernel_rfl
  omega
 refine bB (id (hK2 _ ?_))
 clear hK2;try clear K2
 refine aq (am (be rfl (aj (ay ?_))))
 refine br (α:=Nat) (fun q=> q≤v.length∧d.length+q≤i) 41 [(1,_),(2,_)] [((2,0),_)] (fun q=> [(6, .v (.int .i64 (q:Int)))]) (fun q=> []) [] [] (fun q=> v.length - q) 0 ?_ (by
  refine Le.mkJ [] [] rfl ?_ ?_ trivial trivial ?_
  ·exact ⟨(iV rfl),(iP rfl),(cp ag),trivial⟩
  ·exact ⟨(bM rfl rfl rfl),trivial⟩
  kernel_rfl) ?_
 ·exact ⟨Nat.zero_le _,by omega⟩
 intro q hq
 obtain ⟨hq,hqi⟩:=hq
 refine aU fun K11 hK11=> ?_
 refine am (aX rfl (bc rfl rfl rfl (eW rfl rfl rfl (ai (bn _ aa rfl) (ai (bm _ _ rfl rfl rfl) (aj (aR rfl (fun hc26=> ?_) (fun hc26=> ?_))))))))
 ·skip
  refine bs (hK11 _ ?_)
  clear hK11;try clear K11
  refine aq (ay (am (bc rfl rfl rfl (eW rfl rfl rfl (aX rfl (ai (bp _ _ aa rfl rfl _ rfl ab (by (simp only [aO,bi,bl,bw,bv,bI,bz,List.length_map];omega)) (by exact Nat.mul_one _)) ?_))))))
  refine ai (bO _ aa rfl (by exact jI _ _ ab) rfl) ?_
  refine ei rfl (ai (aV _ _ Tryz.underlying9 rfl rfl rfl) (aj (aR rfl (fun hc35=> ?_) (fun hc35=> ?_))))
  ·skip
   have he:d.length+q=i:=mG hn ab hi (getD_right.symm.trans hc35)
   refine am (bc rfl rfl rfl (eW rfl rfl rfl (ai (bn _ aa rfl) (aX rfl (ai (aZ _ _ rfl rfl (bE ab)) ?_)))))
   refine be rfl (aj (aG (sc rfl rfl ?_)))
   omega
  have he:d.length+q≠i:=fun e=> hc35 (getD_right.trans (by rw [e]))
  refine cr (an (aX rfl (ai (aZ _ _ rfl rfl (bE ab)) ?_)))
  refine be rfl (aJ (⟨q+1,?_,?_,?_⟩))
  ·exact ⟨by omega,by omega⟩
  ·skip
   refine Le.mkJ [] [] rfl ?_ ?_ trivial trivial ?_
   ·exact ⟨(iV rfl),(iP rfl),(cp ag),trivial⟩
   ·exact ⟨(bM rfl rfl rfl),trivial⟩
   kernel_rfl
  omega
 exact absurd hqi ab
theorem Co (ons:List (Nat×Bk)) (nm:List Tx) (k:Nat) (h:k < ons.length):oG (ons.map fun p=> (p.1,jf nm p.2)) k=((ons[k]).1,jf nm (ons[k]).2):=by
 rw [oI _ _ (by simpa using h),List.getElem_map]
theorem uj (l:List Hd) (k:Nat) (h:k < l.length):PV.ups (((mq l).drop (k*5+1)).take 4)=[.v (.int .i64 ((oG l k).2.k:Int)), .v (.int .i64 ((oG l k).2.n:Int)), .v (bt (oG l k).2.s), .sl (oG l k).2.kn (oG l k).2.kids]:=by
 have e:=mA wN 5 (fun _=> rfl) l k h
 have:((mq l).drop (k*5+1)).take 4=(((l.flatMap wN).drop (k*5)).take 5).drop 1:=by
  rw [List.drop_take,List.drop_drop];rfl
 rw [this,e,oI l k h];rfl
theorem qA (d v:List Tx) (ons:List (Nat×Bk)) (hn:(d++v).Nodup) (hl:(d++v).length≤16) (ho: ∀ p∈ons,lh (d++v).length p.2) (hw: ∀ p∈ons,qh p.2=true) (hc:ons.length≤1000):
  Spec Tryz.prog 97 (ba [Jk d v (ons.map fun p=> (p.1,jf (d++v) p.2))] []) (aP (.v (.int .i64 0)) []):=by
 obtain ⟨H,hH⟩: ∃ H,H=ons.map fun p=> (p.1,jf (d++v) p.2):=⟨_,rfl⟩
 have hHl:H.length=ons.length:=by rw [hH,List.length_map]
 rw [← hH]
 have hHk: ∀ k (h:k < ons.length),oG H k=((ons[k]).1,jf (d++v) (ons[k]).2):=fun k h=> by rw [hH];exact Co ons _ k h
 clear hH
 refine Spec.ofN Tryz.func97 rfl Tryz.ntmps97 rfl ?_
 refine am (ai (aQ (1,0) _ rfl rfl) (be rfl (aj (aU fun K2 hK2=> ?_))))
 refine am (be rfl (aj (ay ?_)))
 refine br (α:=Nat) (fun k=> k≤H.length) 43 [(1,_)] [((1,0),_)] (fun k=> [(3, .v (.int .i64 (k:Int)))]) (fun k=> []) [] [] (fun k=> H.length - k) 0 ?_ (by
  refine Le.mkJ [] [] rfl ?_ ?_ trivial trivial ?_
  ·exact ⟨(iP rfl),(cp ag),trivial⟩
  ·exact ⟨(bM rfl rfl rfl),trivial⟩
  kernel_rfl) ?_
 ·omega
 intro k hk
 refine aU fun K4 hK4=> ?_
 refine am (aX rfl (bc rfl rfl rfl (eW rfl rfl rfl (ai (bn _ aa rfl) (ai (bm _ _ rfl rfl rfl) (aj (aR rfl (fun hc11=> ?_) (fun hc11=> ?_))))))))
 ·skip
  have hk2:k < ons.length:=by omega
  obtain ⟨b,hb⟩: ∃ b,b=(ons[k]).2:=⟨_,rfl⟩
  have hkH:=hHk k hk2
  rw [← hb] at hkH
  have hwb:=FH (d++v) b (hb ▸ hw _ (List.getElem_mem hk2))
  obtain ⟨hnb,hng⟩:=zL hl b (hb ▸ ho _ (List.getElem_mem hk2)) [] GN.nil
  have hbody:=uj H k ab
  rw [hkH] at hbody
  generalize DO (d++v) b []=M at hnb hng
  have hMl:=hng.len
  refine bs (hK4 _ ?_)
  clear hK4;try clear K4
  refine aU fun K6 hK6=> ?_
  refine ay (am (bc rfl rfl rfl (eW rfl rfl rfl (aX rfl (ai (bp _ _ aa rfl rfl _ rfl ab (by (simp only [aO,bi,bl,bw,bv,bI,bz,List.length_map];omega)) ag) ?_)))))
  refine ai (dg _ aa rfl rfl) (ai (cf _ aa rfl (by exact hbody) rfl) ?_)
  refine ai (aH aa al (hwb) rfl rfl) ?_
  refine cq rfl (aj (aq (am (cN rfl (ai (cg (r:=false) _ rfl rfl) (aj (aW rfl rfl (aS (aq ?_)))))))))
  refine aL (σ':=aD 43 [(1,_),(3,_)] [((1,0),_)] [] []) kp ?_
  refine an (bc rfl rfl rfl (eW rfl rfl rfl (aX rfl (ai (bp _ _ aa rfl rfl _ rfl ab (by (simp only [aO,bi,bl,bw,bv,bI,bz,List.length_map];omega)) ag) ?_))))
  refine ai (dg _ aa rfl rfl) (ai (cf _ aa rfl (by exact hbody) rfl) ?_)
  refine ai (aH aa al (hnb) rfl rfl) ?_
  refine kD rfl (aj (am (be rfl (aj (ay ?_)))))
  refine br (α:=Nat) (fun q=> q≤M.length) 43 [(1,_),(3,_),(5,_)] [((1,0),_)] (fun q=> [(6, .v (.int .i64 (q:Int)))]) (fun q=> []) [] [] (fun q=> M.length - q) 0 ?_ (by
   refine Le.mkJ [] [] rfl ?_ ?_ trivial trivial ?_
   ·exact ⟨(iP rfl),(iV rfl),(iS rfl),(cp ag),trivial⟩
   ·exact ⟨(bM rfl rfl rfl),trivial⟩
   kernel_rfl) ?_
  ·omega
  intro q hq
  refine aU fun K12 hK12=> ?_
  refine am (aX rfl (eV rfl (ai (bn _ aa rfl) (ai (bm _ _ rfl rfl rfl) (aj (aR rfl (fun hc33=> ?_) (fun hc33=> ?_)))))))
  ·skip
   obtain ⟨i,hi,hiq⟩: ∃ i,i < (d++v).length∧M.getD q []=(d++v).getD i []:=by
    have hm:=hng.2 _ (jY (show q < M.length by omega))
    obtain ⟨i,hi,he⟩:=List.getElem_of_mem hm
    exact ⟨i,hi,by rw [List.getD_eq_getElem?_getD (l:=d++v),List.getElem?_eq_getElem hi,← he];rfl⟩
   have hix:=mW d v (mq H) H.length hn ab i hi
   rw [← hiq] at hix
   refine bs (hK12 _ ?_)
   clear hK12;try clear K12
   refine aq (ay (aq ?_))
   refine aL (σ':=aD 43 [(1,_),(3,_),(5,_),(6,_)] [((1,0),_)] [] []) kp ?_
   refine bJ 7 [36,37,38,39,40,41,42] [] ae ae rfl (aK rfl) (rfl:_=[_,_,_,_,_,_,_]) (rfl:_=[]) ?_
   refine ap (_,[]) (fun τ=> az _ aa rfl rfl rfl rfl) ?_
   refine fD rfl ?_
   refine ap (_,[]) (fun τ=> aI _ nD) ?_
   refine fF rfl ?_
   refine ap (_,[]) (fun τ=> aI _ eh) ?_
   refine fE rfl ?_
   refine ap (_,[]) (fun τ=> bp _ _ aa rfl rfl _ rfl ab (by (simp only [aO,bi,bl,bw,bv,bI,bz,List.length_map];omega)) (by exact Nat.mul_one _)) ?_
   refine fS rfl ?_
   refine ap (_,[]) (fun τ=> bO _ aa rfl (by exact jI _ _ ab) rfl) ?_
   refine gf rfl ?_
   refine ap (_,[]) (fun τ=> (aH aa al (hix) rfl rfl)) ?_
   refine gS rfl ?_
   refine ap (_,[]) (fun τ=> bm (r:=false) _ _ rfl rfl (decide_eq_false ab)) ?_
   refine ir rfl (bj ⟨rfl,?_⟩)
   refine aj (aW rfl rfl (cr (an (aX rfl (ai (aZ _ _ rfl rfl (bE ab)) ?_)))))
   refine be rfl (aJ (⟨q+1,?_,?_,?_⟩))
   ·omega
   ·skip
    refine Le.mkJ [] [] rfl ?_ ?_ trivial trivial ?_
    ·exact ⟨(iP rfl),(iV rfl),(iS rfl),(cp ag),trivial⟩
    ·exact ⟨(bM rfl rfl rfl),trivial⟩
    kernel_rfl
   omega
  refine bB (id (hK6 _ ?_))
  clear hK6;try clear K6
  refine an (aX rfl (ai (aZ _ _ rfl rfl (bE ab)) ?_))
  refine be rfl (aJ (⟨k+1,?_,?_,?_⟩))
  ·omega
  ·skip
   refine Le.mkJ [] [] rfl ?_ ?_ trivial trivial ?_
   ·exact ⟨(iP rfl),(cp ag),trivial⟩
   ·exact ⟨(bM rfl rfl rfl),trivial⟩
   kernel_rfl
  omega
 refine bB (id (hK2 _ ?_))
 clear hK2;try clear K2
 exact am (be rfl (aj (aG (fv rfl rfl))))
end Go.Proofs.YtmjnackchaahbaaGreat
