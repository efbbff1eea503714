/- Part 11 of the texts that the walk leans on: the machine, the walks, the plain laws. -/
import Derived.Test.YtmjnackchaahbaaGreatNrZ10
set_option linter.unusedSimpArgs false
set_option linter.unusedVariables false
namespace Go.Proofs.YtmjnackchaahbaaGreat
open Go.RowKit

def lh (l:List Nd) (j:Nat):Nd:=l.getD j ⟨0,0,[],0,[]⟩
theorem IC (l:List Nd) (k:Nat) (h:k < l.length):lh l k=l[k]:=by simp [lh,h]
theorem cO (l:List Nd) (k:Nat) (h:k < l.length):PV.ups (((mK l).drop (k*4)).take 4)=[.v (.int .i64 ((lh l k).k:Int)), .v (.int .i64 ((lh l k).n:Int)), .v (bt (lh l k).s), .sl (lh l k).kn (lh l k).kids]:=by
 rw [IC l k h,show ((mK l).drop (k*4)).take 4=l[k].row from mt Nd.row 4 (fun _=> rfl) l k h];rfl
theorem gE (l:List Tx) (n:Nat) (hn:l.length=n) (h1:n≤1000) (t:Tx):Spec Tryz.prog 204 (ba [.sl n (fj l), .v (bt t)] []) (aP (.v (.bool (decide (t∈l)))) []):=by
 refine Spec.ofN Tryz.func204 rfl Tryz.ntmps204 rfl ?_
 refine am (cp rfl (aj (aU fun K2 hK2=> ?_)))
 refine am (be rfl (aj (ay ?_)))
 refine bu (α:=Nat) (fun k=> k≤n∧t∉l.take k) 18 [(0,_),(1,_)] [] (fun k=> [(5, .v (.int .i64 (k:Int)))]) (fun k=> []) [] [] (fun k=> n - k) 0 ?_ (by
  refine Le.mkJ [] [] rfl ?_ ?_ trivial trivial ?_
  ·exact ⟨(iS rfl),(iV rfl),(cr ag),trivial⟩
  ·exact trivial
  kernel_rfl) ?_
 ·exact ⟨Nat.zero_le _,by simp⟩
 intro k hk
 obtain ⟨hk,hnt⟩:=hk
 refine aU fun K4 hK4=> ?_
 refine am (aX rfl (eV rfl (ai (bp _ aa rfl) (ai (bn _ _ rfl rfl rfl) (aj (aR rfl (fun hc9=> ?_) (fun hc9=> ?_)))))))
 ·skip
  refine br (hK4 _ ?_)
  clear hK4;try clear K4
  refine aq (ay (am (eV rfl (aX rfl (ai (bo _ _ aa rfl rfl _ rfl ab (by (simp only [aL,bf,bh,bw,bv,bH,bz];omega)) (by exact Nat.mul_one _)) ?_)))))
  refine ai (bO _ aa rfl (by exact jP _ _ ab) rfl) ?_
  refine eh rfl (ai (aV _ _ Tryz.underlying9 rfl rfl rfl) (aj (aR rfl (fun hc17=> ?_) (fun hc17=> ?_))))
  ·skip
   refine am (cp rfl (aj (aG (rP rfl rfl ?_))))
   exact decide_eq_true (hc17 ▸ kv ab)
  refine cw (an (aX rfl (ai (aZ _ _ rfl rfl (bF ab)) ?_)))
  refine be rfl (aJ (⟨k+1,?_,?_,?_⟩))
  ·exact ⟨by omega,kP hnt ab hc17⟩
  ·skip
   refine Le.mkJ [] [] rfl ?_ ?_ trivial trivial ?_
   ·exact ⟨(iS rfl),(iV rfl),(cr ag),trivial⟩
   ·exact trivial
   kernel_rfl
  omega
 have hall:t∉l:=by rwa [List.take_of_length_le ab] at hnt
 refine bD (id (hK2 _ ?_))
 clear hK2;try clear K2
 refine am (cp rfl (aj (aG (rP rfl rfl ?_))))
 exact decide_eq_false hall
def zc:List Tx:=[[60],[60,61],[62],[62,61],[61,61],[33,61]]
theorem mQ (t:Tx):Spec Tryz.prog 227 (ba [.v (bt t)] []) (aP (.v (.bool (decide (t∈zc)))) []):=by
 refine Spec.ofN Tryz.func227 rfl Tryz.ntmps227 rfl ?_
 refine am (cp rfl (aj (am (ai (bi _ _ aa rfl ag (by (simp <;> rfl)) ah rfl) ?_))))
 refine eh rfl (ai (aI aa al (gE zc 6 rfl ab t) rfl rfl) ?_)
 refine cp rfl (aj (aG (rP rfl rfl ?_)))
 rfl
theorem HA (n:Nat):Spec Tryz.prog 203 (ba [pm (nd 12 n [] [])] []) (aP (.v (.int .i64 1)) []):=by
 refine Spec.ofN Tryz.func203 rfl Tryz.ntmps203 rfl ?_
 refine am (ai (aQ (1,0) _ rfl rfl) (be rfl (aj (aq (am (bb rfl rfl rfl (cf rfl rfl rfl (kg rfl rfl rfl (cM rfl (aO rfl rfl ah ?_))))))))))
 refine aO rfl rfl ah ?_
 refine aO rfl rfl ah ?_
 refine ai (aC _ _ _ rfl bN) (cM rfl (aO rfl rfl ah ?_))
 refine aO rfl rfl ah ?_
 refine aO rfl rfl ah ?_
 refine ai (aC _ _ _ rfl bN) (aj (bL rfl rfl (aq ?_)))
 refine aN (σ':=aE 80 [] [] [] []) kp ?_
 exact an (be rfl (aj (aG (fq rfl rfl))))
theorem GX (s:Tx):Spec Tryz.prog 203 (ba [pm (nd 14 0 s [])] []) (aP (.v (.int .i64 1)) []):=by
 refine Spec.ofN Tryz.func203 rfl Tryz.ntmps203 rfl ?_
 refine am (ai (aQ (1,0) _ rfl rfl) (be rfl (aj (aq (am (bb rfl rfl rfl (cf rfl rfl rfl (gO rfl rfl rfl (cM rfl (ax rfl rfl (aA _ aa rfl rfl rfl) ?_))))))))))
 refine ax rfl rfl (aF _ aa rfl rfl ei) (ax rfl rfl (bB (r:=true) _ _ rfl rfl rfl) (ai (aC _ _ _ rfl bN) (cM rfl (aO rfl rfl ah ?_))))
 refine aO rfl rfl ah ?_
 refine aO rfl rfl ah ?_
 refine ai (aC _ _ _ rfl bN) (aj (bL rfl rfl (aq ?_)))
 refine aN (σ':=aE 80 [] [] [] []) kp ?_
 exact an (be rfl (aj (aG (fq rfl rfl))))
theorem FW (s:Tx):Spec Tryz.prog 203 (ba [pm (nd 15 0 s [])] []) (aP (.v (.int .i64 1)) []):=by
 refine Spec.ofN Tryz.func203 rfl Tryz.ntmps203 rfl ?_
 refine am (ai (aQ (1,0) _ rfl rfl) (be rfl (aj (aq (am (bb rfl rfl rfl (cf rfl rfl rfl (gO rfl rfl rfl (cM rfl (ax rfl rfl (aA _ aa rfl rfl rfl) ?_))))))))))
 refine ax rfl rfl (aF _ aa rfl rfl ei) (ax rfl rfl (bB (r:=false) _ _ rfl rfl rfl) (ai (aC _ _ _ rfl bN) (cM rfl (ax rfl rfl (aA _ aa rfl rfl rfl) (ax rfl rfl (aF _ aa rfl rfl ei) (ax rfl rfl (bB (r:=true) _ _ rfl rfl rfl) (ai (aC _ _ _ rfl bN) (aj (bL rfl rfl (aq ?_))))))))))
 refine aN (σ':=aE 80 [] [] [] []) kp ?_
 exact an (be rfl (aj (aG (fq rfl rfl))))
theorem Ey (n:Nat):Spec Tryz.prog 203 (ba [pm (nd 13 n [] [])] []) (aP (.v (.int .i64 2)) []):=by
 refine Spec.ofN Tryz.func203 rfl Tryz.ntmps203 rfl ?_
 refine am (ai (aQ (1,0) _ rfl rfl) (be rfl (aj (aq (am (bb rfl rfl rfl (cf rfl rfl rfl (gO rfl rfl rfl (cM rfl (ax rfl rfl (aA _ aa rfl rfl rfl) ?_))))))))))
 refine ax rfl rfl (aF _ aa rfl rfl ei) (ax rfl rfl (bB (r:=false) _ _ rfl rfl rfl) (ai (aC _ _ _ rfl bN) (cM rfl (ax rfl rfl (aA _ aa rfl rfl rfl) (ax rfl rfl (aF _ aa rfl rfl ei) (ax rfl rfl (bB (r:=false) _ _ rfl rfl rfl) (ai (aC _ _ _ rfl bN) (aj (aW rfl rfl (aS ?_))))))))))
 refine aq (aq ?_)
 refine aN (σ':=aE 80 [(1,_)] [((1,0),_)] [] []) kp ?_
 exact an (bb rfl rfl rfl (cf rfl rfl rfl (kg rfl rfl rfl (aj (bL rfl rfl (am (be rfl (aj (aG (fq rfl rfl))))))))))
theorem Es (L:List Nd) (hL:L.length≤3) (t:Nat→Nat) (ht: ∀ j,t j≤2) (h: ∀ j,j < L.length→Spec Tryz.prog 203 (ba [pm (lh L j)] []) (aP (.v (.int .i64 (t j:Int))) [])) (r:Nat) (hr1:(∀ j,j < L.length→t j=1)→r=1) (hr0: ∀ j,j < L.length→t j≠1→r=0):
  Spec Tryz.prog 203 (ba [.agg [.v (.int .i64 16), .v (.int .i64 0), .v (bt []), .sl L.length (mK L)]] []) (aP (.v (.int .i64 (r:Int))) []):=by
 refine Spec.ofN Tryz.func203 rfl Tryz.ntmps203 rfl ?_
 refine am (ai (aQ (1,0) _ rfl rfl) (be rfl (aj (aq (am (bb rfl rfl rfl (cf rfl rfl rfl (gO rfl rfl rfl (cM rfl (ax rfl rfl (aA _ aa rfl rfl rfl) ?_))))))))))
 refine ax rfl rfl (aF _ aa rfl rfl ei) (ax rfl rfl (bB (r:=false) _ _ rfl rfl rfl) (ai (aC _ _ _ rfl bN) (cM rfl (ax rfl rfl (aA _ aa rfl rfl rfl) (ax rfl rfl (aF _ aa rfl rfl ei) (ax rfl rfl (bB (r:=false) _ _ rfl rfl rfl) (ai (aC _ _ _ rfl bN) (aj (aW rfl rfl (aS ?_))))))))))
 refine aq (aq ?_)
 refine aN (σ':=aE 80 [(1,_)] [((1,0),_)] [] []) kp ?_
 refine an (bb rfl rfl rfl (cf rfl rfl rfl (gO rfl rfl rfl (aj (aW rfl rfl (aS (aq (am (bb rfl rfl rfl (cf rfl rfl rfl ?_))))))))))
 refine ai (bT (r:=false) _ _ rfl rfl rfl) (cM rfl (aO rfl rfl ah ?_))
 refine aO rfl rfl ah ?_
 refine aO rfl rfl ah ?_
 refine ai (aC _ _ _ rfl bN) (cM rfl (aO rfl rfl ah ?_))
 refine aO rfl rfl ah ?_
 refine aO rfl rfl ah ?_
 refine ai (aC _ _ _ rfl bN) (aj (aW rfl rfl (aS (aq ?_))))
 refine aN (σ':=aE 80 [(1,_)] [((1,0),_)] [] []) kp ?_
 refine an (be rfl (aj (am (be rfl (aj (aq (am (bb rfl rfl rfl (cf rfl rfl rfl (gO rfl rfl rfl ?_))))))))))
 refine cM rfl (aO rfl rfl ah ?_)
 refine aO rfl rfl ah ?_
 refine aO rfl rfl ah ?_
 refine ai (aC _ _ _ rfl bN) (cM rfl (ax rfl rfl (aA _ aa rfl rfl rfl) (ax rfl rfl (aF _ aa rfl rfl ei) (ax rfl rfl (bB (r:=false) _ _ rfl rfl rfl) (ax rfl rfl (aH _ bN) (aO rfl rfl ah ?_))))))
 refine aO rfl rfl ah ?_
 refine aO rfl rfl ah ?_
 refine aO rfl rfl ah ?_
 refine ax rfl rfl (aC _ _ _ rfl bN) (ai (aC _ _ _ rfl bN) (aj (aW rfl rfl (aS (aq (aq ?_))))))
 refine aN (σ':=aE 80 [(1,_),(3,_),(4,_)] [((1,0),_)] [] []) kp ?_
 refine an (bb rfl rfl rfl (cf rfl rfl rfl (gO rfl rfl rfl (cM rfl (aO rfl rfl ah ?_)))))
 refine aO rfl rfl ah ?_
 refine aO rfl rfl ah ?_
 refine ai (aC _ _ _ rfl bN) (aj (aW rfl rfl (aS (aU fun K14 hK14=> ?_))))
 refine am (be rfl (aj (ay ?_)))
 refine bu (α:=Nat) (fun j=> j≤L.length∧ ∀ q,q < j→t q=1) 80 [(1,_),(3,_),(4,_)] [((1,0),_)] (fun j=> [(5, .v (.int .i64 (j:Int)))]) (fun j=> []) [] [] (fun j=> L.length - j) 0 ?_ (by
  refine Le.mkJ [] [] rfl ?_ ?_ trivial trivial ?_
  ·exact ⟨(iP rfl),(iV rfl),(iV rfl),(cr ag),trivial⟩
  ·exact ⟨(cm rfl rfl rfl),trivial⟩
  kernel_rfl) ?_
 ·exact ⟨Nat.zero_le _,fun q hq=> by omega⟩
 intro j hj
 obtain ⟨hj,hall⟩:=hj
 have htj:=ht j
 refine aU fun K16 hK16=> ?_
 refine am (aX rfl (bb rfl rfl rfl (fb rfl rfl rfl (ai (bp _ aa rfl) (ai (bn _ _ rfl rfl rfl) (aj (aR rfl (fun hc67=> ?_) (fun hc67=> ?_))))))))
 ·skip
  refine br (hK16 _ ?_)
  clear hK16;try clear K16
  refine aq (ay (am (bb rfl rfl rfl (fb rfl rfl rfl (aX rfl (ai (bo _ _ aa rfl rfl _ rfl ab (by (simp only [aL,bf,bh,bw,bv,bH,bz];omega)) ag) ?_))))))
  refine ai (cg _ aa rfl (by exact cO _ _ ab) rfl) ?_
  refine ai (aI aa al (h j ab) rfl rfl) ?_
  refine be rfl (aj (am (aX rfl (aX rfl (ai (bT _ _ rfl rfl rfl) (aj (aR rfl (fun hc78=> ?_) (fun hc78=> ?_))))))))
  ·skip
   have hr:=hr0 j ab ab
   refine aq ?_
   refine aN (σ':=aE 80 [] [] [] []) kp ?_
   refine an (be rfl (aj (aG (rx rfl rfl ?_))))
   rw [hr];rfl
  have hall1: ∀ q,q < j+1→t q=1:=fun q hq=> by
   by_cases h:q < j
   ·exact hall q h
   obtain rfl:q=j:=by omega
   omega
  refine cw ?_
  refine aN (σ':=aE 80 [(1,_),(3,_),(4,_),(5,_)] [((1,0),_)] [] []) kp ?_
  refine an (aX rfl (ai (aZ _ _ rfl rfl (bF ab)) ?_))
  refine be rfl (aJ (⟨j+1,?_,?_,?_⟩))
  ·exact ⟨by omega,hall1⟩
  ·skip
   refine Le.mkJ [] [] rfl ?_ ?_ trivial trivial ?_
   ·exact ⟨(iP rfl),(iV rfl),(iV rfl),(cr ag),trivial⟩
   ·exact ⟨(cm rfl rfl rfl),trivial⟩
   kernel_rfl
  omega
 have hr:=hr1 fun q hq=> hall q ab
 refine bD (id (hK14 _ ?_))
 clear hK14;try clear K14
 refine am (aX rfl (be rfl (aj (aG (rx rfl rfl ?_)))))
 rw [hr];rfl
theorem GF (L:List Nd) (hL:L.length≤3) (t:Nat→Nat) (ht: ∀ j,t j≤2) (h: ∀ j,j < L.length→Spec Tryz.prog 203 (ba [pm (lh L j)] []) (aP (.v (.int .i64 (t j:Int))) [])) (r:Nat) (hr1:(∀ j,j < L.length→t j=1)→r=1) (hr0: ∀ j,j < L.length→t j≠1→r=0):
  Spec Tryz.prog 203 (ba [.agg [.v (.int .i64 17), .v (.int .i64 0), .v (bt [45]), .sl L.length (mK L)]] []) (aP (.v (.int .i64 (r:Int))) []):=by
 refine Spec.ofN Tryz.func203 rfl Tryz.ntmps203 rfl ?_
 refine am (ai (aQ (1,0) _ rfl rfl) (be rfl (aj (aq (am (bb rfl rfl rfl (cf rfl rfl rfl (gO rfl rfl rfl (cM rfl (ax rfl rfl (aA _ aa rfl rfl rfl) ?_))))))))))
 refine ax rfl rfl (aF _ aa rfl rfl ei) (ax rfl rfl (bB (r:=false) _ _ rfl rfl rfl) (ai (aC _ _ _ rfl bN) (cM rfl (ax rfl rfl (aA _ aa rfl rfl rfl) (ax rfl rfl (aF _ aa rfl rfl ei) (ax rfl rfl (bB (r:=false) _ _ rfl rfl rfl) (ai (aC _ _ _ rfl bN) (aj (aW rfl rfl (aS ?_))))))))))
 refine aq (aq ?_)
 refine aN (σ':=aE 80 [(1,_)] [((1,0),_)] [] []) kp ?_
 refine an (bb rfl rfl rfl (cf rfl rfl rfl (gO rfl rfl rfl (aj (aW rfl rfl (aS (aq (am (bb rfl rfl rfl (cf rfl rfl rfl ?_))))))))))
 refine ai (bT (r:=true) _ _ rfl rfl rfl) (cM rfl (ax rfl rfl (aA _ aa rfl rfl rfl) (ax rfl rfl (aF _ aa rfl rfl ei) (ax rfl rfl (bT (r:=false) _ _ rfl rfl rfl) (ai (aC _ _ _ rfl bN) (cM rfl (aO rfl rfl ah ?_)))))))
 refine aO rfl rfl ah ?_
 refine aO rfl rfl ah ?_
 refine ai (aC _ _ _ rfl bN) (aj (aW rfl rfl (aS (aq ?_))))
 refine aN (σ':=aE 80 [(1,_)] [((1,0),_)] [] []) kp ?_
 refine an (be rfl (aj (am (be rfl (aj (aq (am (bb rfl rfl rfl (cf rfl rfl rfl (kg rfl rfl rfl ?_))))))))))
 refine cM rfl (ax rfl rfl (aA _ aa rfl rfl rfl) (ax rfl rfl (aF _ aa rfl rfl fy) (ax rfl rfl (aV (r:=false) _ _ Tryz.underlying9 rfl rfl rfl) (ai (aC _ _ _ rfl bN) (cM rfl (ax rfl rfl (aA _ aa rfl rfl rfl) (ax rfl rfl (aF _ aa rfl rfl ei) (ax rfl rfl (bB (r:=false) _ _ rfl rfl rfl) (ax rfl rfl (aH _ bN) (aO rfl rfl ah ?_))))))))))
 refine aO rfl rfl ah ?_
 refine aO rfl rfl ah ?_
 refine aO rfl rfl ah ?_
 refine ax rfl rfl (aC _ _ _ rfl bN) (ai (aC _ _ _ rfl bN) (aj (aW rfl rfl (aS (aq (aq ?_))))))
 refine aN (σ':=aE 80 [(1,_),(3,_),(4,_)] [((1,0),_)] [] []) kp ?_
 refine an (bb rfl rfl rfl (cf rfl rfl rfl (gO rfl rfl rfl (cM rfl (aO rfl rfl ah ?_)))))
 refine aO rfl rfl ah ?_
 refine aO rfl rfl ah ?_
 refine ai (aC _ _ _ rfl bN) (aj (aW rfl rfl (aS (aU fun K14 hK14=> ?_))))
 refine am (be rfl (aj (ay ?_)))
 refine bu (α:=Nat) (fun j=> j≤L.length∧ ∀ q,q < j→t q=1) 80 [(1,_),(3,_),(4,_)] [((1,0),_)] (fun j=> [(5, .v (.int .i64 (j:Int)))]) (fun j=> []) [] [] (fun j=> L.length - j) 0 ?_ (by
  refine Le.mkJ [] [] rfl ?_ ?_ trivial trivial ?_
  ·exact ⟨(iP rfl),(iV rfl),(iV rfl),(cr ag),trivial⟩
  ·exact ⟨(cm rfl rfl rfl),trivial⟩
  kernel_rfl) ?_
 ·exact ⟨Nat.zero_le _,fun q hq=> by omega⟩
 intro j hj
 obtain ⟨hj,hall⟩:=hj
 have htj:=ht j
 refine aU fun K16 hK16=> ?_
 refine am (aX rfl (bb rfl rfl rfl (fb rfl rfl rfl (ai (bp _ aa rfl) (ai (bn _ _ rfl rfl rfl) (aj (aR rfl (fun hc67=> ?_) (fun hc67=> ?_))))))))
 ·skip
  refine br (hK16 _ ?_)
  clear hK16;try clear K16
  refine aq (ay (am (bb rfl rfl rfl (fb rfl rfl rfl (aX rfl (ai (bo _ _ aa rfl rfl _ rfl ab (by (simp only [aL,bf,bh,bw,bv,bH,bz];omega)) ag) ?_))))))
  refine ai (cg _ aa rfl (by exact cO _ _ ab) rfl) ?_
  refine ai (aI aa al (h j ab) rfl rfl) ?_
  refine be rfl (aj (am (aX rfl (aX rfl (ai (bT _ _ rfl rfl rfl) (aj (aR rfl (fun hc78=> ?_) (fun hc78=> ?_))))))))
  ·skip
   have hr:=hr0 j ab ab
   refine aq ?_
   refine aN (σ':=aE 80 [] [] [] []) kp ?_
   refine an (be rfl (aj (aG (rx rfl rfl ?_))))
   rw [hr];rfl
  have hall1: ∀ q,q < j+1→t q=1:=fun q hq=> by
   by_cases h:q < j
   ·exact hall q h
   obtain rfl:q=j:=by omega
   omega
  refine cw ?_
  refine aN (σ':=aE 80 [(1,_),(3,_),(4,_),(5,_)] [((1,0),_)] [] []) kp ?_
  refine an (aX rfl (ai (aZ _ _ rfl rfl (bF ab)) ?_))
  refine be rfl (aJ (⟨j+1,?_,?_,?_⟩))
  ·exact ⟨by omega,hall1⟩
  ·skip
   refine Le.mkJ [] [] rfl ?_ ?_ trivial trivial ?_
   ·exact ⟨(iP rfl),(iV rfl),(iV rfl),(cr ag),trivial⟩
   ·exact ⟨(cm rfl rfl rfl),trivial⟩
   kernel_rfl
  omega
 have hr:=hr1 fun q hq=> hall q ab
 refine bD (id (hK14 _ ?_))
 clear hK14;try clear K14
 refine am (aX rfl (be rfl (aj (aG (rx rfl rfl ?_)))))
 rw [hr];rfl
theorem HH (L:List Nd) (hL:L.length≤3) (t:Nat→Nat) (ht: ∀ j,t j≤2) (h: ∀ j,j < L.length→Spec Tryz.prog 203 (ba [pm (lh L j)] []) (aP (.v (.int .i64 (t j:Int))) [])) (r:Nat) (hr1:(∀ j,j < L.length→t j=2)→r=2) (hr0: ∀ j,j < L.length→t j≠2→r=0):
  Spec Tryz.prog 203 (ba [.agg [.v (.int .i64 17), .v (.int .i64 0), .v (bt [33]), .sl L.length (mK L)]] []) (aP (.v (.int .i64 (r:Int))) []):=by
 refine Spec.ofN Tryz.func203 rfl Tryz.ntmps203 rfl ?_
 refine am (ai (aQ (1,0) _ rfl rfl) (be rfl (aj (aq (am (bb rfl rfl rfl (cf rfl rfl rfl (gO rfl rfl rfl (cM rfl (ax rfl rfl (aA _ aa rfl rfl rfl) ?_))))))))))
 refine ax rfl rfl (aF _ aa rfl rfl ei) (ax rfl rfl (bB (r:=false) _ _ rfl rfl rfl) (ai (aC _ _ _ rfl bN) (cM rfl (ax rfl rfl (aA _ aa rfl rfl rfl) (ax rfl rfl (aF _ aa rfl rfl ei) (ax rfl rfl (bB (r:=false) _ _ rfl rfl rfl) (ai (aC _ _ _ rfl bN) (aj (aW rfl rfl (aS ?_))))))))))
 refine aq (aq ?_)
 refine aN (σ':=aE 80 [(1,_)] [((1,0),_)] [] []) kp ?_
 refine an (bb rfl rfl rfl (cf rfl rfl rfl (gO rfl rfl rfl (aj (aW rfl rfl (aS (aq (am (bb rfl rfl rfl (cf rfl rfl rfl ?_))))))))))
 refine ai (bT (r:=true) _ _ rfl rfl rfl) (cM rfl (ax rfl rfl (aA _ aa rfl rfl rfl) (ax rfl rfl (aF _ aa rfl rfl ei) (ax rfl rfl (bT (r:=false) _ _ rfl rfl rfl) (ai (aC _ _ _ rfl bN) (cM rfl (aO rfl rfl ah ?_)))))))
 refine aO rfl rfl ah ?_
 refine aO rfl rfl ah ?_
 refine ai (aC _ _ _ rfl bN) (aj (aW rfl rfl (aS (aq ?_))))
 refine aN (σ':=aE 80 [(1,_)] [((1,0),_)] [] []) kp ?_
 refine an (be rfl (aj (am (be rfl (aj (aq (am (bb rfl rfl rfl (cf rfl rfl rfl (kg rfl rfl rfl ?_))))))))))
 refine cM rfl (ax rfl rfl (aA _ aa rfl rfl rfl) (ax rfl rfl (aF _ aa rfl rfl fy) (ax rfl rfl (aV (r:=true) _ _ Tryz.underlying9 rfl rfl rfl) (ai (aC _ _ _ rfl bN) (cM rfl (aO rfl rfl ah ?_))))))
 refine aO rfl rfl ah ?_
 refine aO rfl rfl ah ?_
 refine aO rfl rfl ah ?_
 refine gQ rfl rfl (gQ rfl rfl (gQ rfl rfl (gQ rfl rfl (aO rfl rfl ah ?_))))
 refine ai (aC _ _ _ rfl bN) (aj (bL rfl rfl (aq ?_)))
 refine aN (σ':=aE 80 [(1,_)] [((1,0),_)] [] []) kp ?_
 refine an (be rfl (aj (an (be rfl (aj (aq (am (bb rfl rfl rfl (cf rfl rfl rfl (gO rfl rfl rfl ?_))))))))))
 refine cM rfl (aO rfl rfl ah ?_)
 refine aO rfl rfl ah ?_
 refine aO rfl rfl ah ?_
 refine ai (aC _ _ _ rfl bN) (aj (aW rfl rfl (aS (aU fun K15 hK15=> ?_))))
 refine am (be rfl (aj (ay ?_)))
 refine bu (α:=Nat) (fun j=> j≤L.length∧ ∀ q,q < j→t q=2) 80 [(1,_),(3,_),(4,_)] [((1,0),_)] (fun j=> [(5, .v (.int .i64 (j:Int)))]) (fun j=> []) [] [] (fun j=> L.length - j) 0 ?_ (by
  refine Le.mkJ [] [] rfl ?_ ?_ trivial trivial ?_
  ·exact ⟨(iP rfl),(iV rfl),(iV rfl),(cr ag),trivial⟩
  ·exact ⟨(cm rfl rfl rfl),trivial⟩
  kernel_rfl) ?_
 ·exact ⟨Nat.zero_le _,fun q hq=> by omega⟩
 intro j hj
 obtain ⟨hj,hall⟩:=hj
 have htj:=ht j
 refine aU fun K17 hK17=> ?_
 refine am (aX rfl (bb rfl rfl rfl (fb rfl rfl rfl (ai (bp _ aa rfl) (ai (bn _ _ rfl rfl rfl) (aj (aR rfl (fun hc67=> ?_) (fun hc67=> ?_))))))))
 ·skip
  refine br (hK17 _ ?_)
  clear hK17;try clear K17
  refine aq (ay (am (bb rfl rfl rfl (fb rfl rfl rfl (aX rfl (ai (bo _ _ aa rfl rfl _ rfl ab (by (simp only [aL,bf,bh,bw,bv,bH,bz];omega)) ag) ?_))))))
  refine ai (cg _ aa rfl (by exact cO _ _ ab) rfl) ?_
  refine ai (aI aa al (h j ab) rfl rfl) ?_
  refine be rfl (aj (am (aX rfl (aX rfl (ai (bT _ _ rfl rfl rfl) (aj (aR rfl (fun hc78=> ?_) (fun hc78=> ?_))))))))
  ·skip
   have hr:=hr0 j ab ab
   refine aq ?_
   refine aN (σ':=aE 80 [] [] [] []) kp ?_
   refine an (be rfl (aj (aG (rx rfl rfl ?_))))
   rw [hr];rfl
  have hall1: ∀ q,q < j+1→t q=2:=fun q hq=> by
   by_cases h:q < j
   ·exact hall q h
   obtain rfl:q=j:=by omega
   omega
  refine cw ?_
  refine aN (σ':=aE 80 [(1,_),(3,_),(4,_),(5,_)] [((1,0),_)] [] []) kp ?_
  refine an (aX rfl (ai (aZ _ _ rfl rfl (bF ab)) ?_))
  refine be rfl (aJ (⟨j+1,?_,?_,?_⟩))
  ·exact ⟨by omega,hall1⟩
  ·skip
   refine Le.mkJ [] [] rfl ?_ ?_ trivial trivial ?_
   ·exact ⟨(iP rfl),(iV rfl),(iV rfl),(cr ag),trivial⟩
   ·exact ⟨(cm rfl rfl rfl),trivial⟩
   kernel_rfl
  omega
 have hr:=hr1 fun q hq=> hall q ab
 refine bD (id (hK15 _ ?_))
 clear hK15;try clear K15
 refine am (aX rfl (be rfl (aj (aG (rx rfl rfl ?_)))))
 rw [hr];rfl
theorem uq (s:Tx) (hs1:s∈[[38,38],[124,124]]) (hs2:s∉zc) (L:List Nd) (hL:L.length≤3) (t:Nat→Nat) (ht: ∀ j,t j≤2) (h: ∀ j,j < L.length→Spec Tryz.prog 203 (ba [pm (lh L j)] []) (aP (.v (.int .i64 (t j:Int))) [])) (r:Nat) (hr1:(∀ j,j < L.length→t j=2)→r=2) (hr0: ∀ j,j < L.length→t j≠2→r=0):
  Spec Tryz.prog 203 (ba [.agg [.v (.int .i64 18), .v (.int .i64 0), .v (bt s), .sl L.length (mK L)]] []) (aP (.v (.int .i64 (r:Int))) []):=by
 refine Spec.ofN Tryz.func203 rfl Tryz.ntmps203 rfl ?_
 refine am (ai (aQ (1,0) _ rfl rfl) (be rfl (aj (aq (am (bb rfl rfl rfl (cf rfl rfl rfl (gO rfl rfl rfl (cM rfl (ax rfl rfl (aA _ aa rfl rfl rfl) ?_))))))))))
 refine ax rfl rfl (aF _ aa rfl rfl ei) (ax rfl rfl (bB (r:=false) _ _ rfl rfl rfl) (ai (aC _ _ _ rfl bN) (cM rfl (ax rfl rfl (aA _ aa rfl rfl rfl) (ax rfl rfl (aF _ aa rfl rfl ei) (ax rfl rfl (bB (r:=false) _ _ rfl rfl rfl) (ai (aC _ _ _ rfl bN) (aj (aW rfl rfl (aS ?_))))))))))
 refine aq (aq ?_)
 refine aN (σ':=aE 80 [(1,_)] [((1,0),_)] [] []) kp ?_
 refine an (bb rfl rfl rfl (cf rfl rfl rfl (gO rfl rfl rfl (aj (aW rfl rfl (aS (aq (am (bb rfl rfl rfl (cf rfl rfl rfl ?_))))))))))
 refine ai (bT (r:=true) _ _ rfl rfl rfl) (cM rfl (ax rfl rfl (aA _ aa rfl rfl rfl) (ax rfl rfl (aF _ aa rfl rfl ei) (ax rfl rfl (bT (r:=true) _ _ rfl rfl rfl) (ai (aC _ _ _ rfl bN) (cM rfl (ax rfl rfl (aA _ aa rfl rfl rfl) (ax rfl rfl (aF _ aa rfl rfl ei) (ax rfl rfl (bT (r:=false) _ _ rfl rfl rfl) (ai (aC _ _ _ rfl bN) ?_))))))))))
 refine aj (aW rfl rfl (aS (aq ?_)))
 refine aN (σ':=aE 80 [(1,_)] [((1,0),_)] [] []) kp ?_
 refine an (be rfl (aj (am (be rfl (aj (aq (am (bb rfl rfl rfl (cf rfl rfl rfl (gO rfl rfl rfl ?_))))))))))
 refine cM rfl (aO rfl rfl ah ?_)
 refine aO rfl rfl ah ?_
 refine aO rfl rfl ah ?_
 refine ai (aC _ _ _ rfl bN) (cM rfl (ax rfl rfl (aA _ aa rfl rfl rfl) (ax rfl rfl (aF _ aa rfl rfl ei) (ax rfl rfl (bB (r:=true) _ _ rfl rfl rfl) (ax rfl rfl (aH _ bN) (ax rfl rfl (bi _ _ aa rfl ag (by (simp <;> rfl)) ah rfl) ?_))))))
 refine ax rfl rfl (aA _ aa rfl rfl rfl) (ax rfl rfl (aF _ aa rfl rfl fy) (ax rfl rfl (aI aa al (gE [[38,38],[124,124]] 2 rfl ab s) rfl rfl) ?_))
 refine ax rfl rfl (aC _ _ _ rfl bN) (ai (aC _ _ _ rfl bN) (aj (bL rfl (decide_eq_true hs1) ?_)))
 refine aq ?_
 refine aN (σ':=aE 80 [(1,_)] [((1,0),_)] [] []) kp ?_
 refine an (be rfl (aj (an (be rfl (aj (aq (am (bb rfl rfl rfl (cf rfl rfl rfl (kg rfl rfl rfl ?_))))))))))
 refine cM rfl (ax rfl rfl (aA _ aa rfl rfl rfl) (ax rfl rfl (aF _ aa rfl rfl fy) (ax rfl rfl (aI aa al (mQ s) rfl rfl) ?_)))
 refine ai (aC _ _ _ rfl bN) (aj (aW rfl (decide_eq_false hs2) ?_))
 refine aS (aU fun K15 hK15=> ?_)
 refine am (be rfl (aj (ay ?_)))
 refine bu (α:=Nat) (fun j=> j≤L.length∧ ∀ q,q < j→t q=2) 80 [(1,_),(3,_),(4,_)] [((1,0),_)] (fun j=> [(5, .v (.int .i64 (j:Int)))]) (fun j=> []) [] [] (fun j=> L.length - j) 0 ?_ (by
  refine Le.mkJ [] [] rfl ?_ ?_ trivial trivial ?_
  ·exact ⟨(iP rfl),(iV rfl),(iV rfl),(cr ag),trivial⟩
  ·exact ⟨(cm rfl rfl rfl),trivial⟩
  kernel_rfl) ?_
 ·exact ⟨Nat.zero_le _,fun q hq=> by omega⟩
 intro j hj
 obtain ⟨hj,hall⟩:=hj
 have htj:=ht j
 refine aU fun K17 hK17=> ?_
 refine am (aX rfl (bb rfl rfl rfl (fb rfl rfl rfl (ai (bp _ aa rfl) (ai (bn _ _ rfl rfl rfl) (aj (aR rfl (fun hc67=> ?_) (fun hc67=> ?_))))))))
 ·skip
  refine br (hK17 _ ?_)
  clear hK17;try clear K17
  refine aq (ay (am (bb rfl rfl rfl (fb rfl rfl rfl (aX rfl (ai (bo _ _ aa rfl rfl _ rfl ab (by (simp only [aL,bf,bh,bw,bv,bH,bz];omega)) ag) ?_))))))
  refine ai (cg _ aa rfl (by exact cO _ _ ab) rfl) ?_
  refine ai (aI aa al (h j ab) rfl rfl) ?_
  refine be rfl (aj (am (aX rfl (aX rfl (ai (bT _ _ rfl rfl rfl) (aj (aR rfl (fun hc78=> ?_) (fun hc78=> ?_))))))))
  ·skip
   have hr:=hr0 j ab ab
   refine aq ?_
   refine aN (σ':=aE 80 [] [] [] []) kp ?_
   refine an (be rfl (aj (aG (rx rfl rfl ?_))))
   rw [hr];rfl
  have hall1: ∀ q,q < j+1→t q=2:=fun q hq=> by
   by_cases h:q < j
   ·exact hall q h
   obtain rfl:q=j:=by omega
   omega
  refine cw ?_
  refine aN (σ':=aE 80 [(1,_),(3,_),(4,_),(5,_)] [((1,0),_)] [] []) kp ?_
  refine an (aX rfl (ai (aZ _ _ rfl rfl (bF ab)) ?_))
  refine be rfl (aJ (⟨j+1,?_,?_,?_⟩))
  ·exact ⟨by omega,hall1⟩
  ·skip
   refine Le.mkJ [] [] rfl ?_ ?_ trivial trivial ?_
   ·exact ⟨(iP rfl),(iV rfl),(iV rfl),(cr ag),trivial⟩
   ·exact ⟨(cm rfl rfl rfl),trivial⟩
   kernel_rfl
  omega
 have hr:=hr1 fun q hq=> hall q ab
 refine bD (id (hK15 _ ?_))
 clear hK15;try clear K15
 refine am (aX rfl (be rfl (aj (aG (rx rfl rfl ?_)))))
 rw [hr];rfl
theorem Id (s:Tx) (hs1:s∉[[38,38],[124,124]]) (hs2:s∈zc) (L:List Nd) (hL:L.length≤3) (t:Nat→Nat) (ht: ∀ j,t j≤2) (h: ∀ j,j < L.length→Spec Tryz.prog 203 (ba [pm (lh L j)] []) (aP (.v (.int .i64 (t j:Int))) [])) (r:Nat) (hr1:(∀ j,j < L.length→t j=1)→r=2) (hr0: ∀ j,j < L.length→t j≠1→r=0):
  Spec Tryz.prog 203 (ba [.agg [.v (.int .i64 18), .v (.int .i64 0), .v (bt s), .sl L.length (mK L)]] []) (aP (.v (.int .i64 (r:Int))) []):=by
 refine Spec.ofN Tryz.func203 rfl Tryz.ntmps203 rfl ?_
 refine am (ai (aQ (1,0) _ rfl rfl) (be rfl (aj (aq (am (bb rfl rfl rfl (cf rfl rfl rfl (gO rfl rfl rfl (cM rfl (ax rfl rfl (aA _ aa rfl rfl rfl) ?_))))))))))
 refine ax rfl rfl (aF _ aa rfl rfl ei) (ax rfl rfl (bB (r:=false) _ _ rfl rfl rfl) (ai (aC _ _ _ rfl bN) (cM rfl (ax rfl rfl (aA _ aa rfl rfl rfl) (ax rfl rfl (aF _ aa rfl rfl ei) (ax rfl rfl (bB (r:=false) _ _ rfl rfl rfl) (ai (aC _ _ _ rfl bN) (aj (aW rfl rfl (aS ?_))))))))))
 refine aq (aq ?_)
 refine aN (σ':=aE 80 [(1,_)] [((1,0),_)] [] []) kp ?_
 refine an (bb rfl rfl rfl (cf rfl rfl rfl (gO rfl rfl rfl (aj (aW rfl rfl (aS (aq (am (bb rfl rfl rfl (cf rfl rfl rfl ?_))))))))))
 refine ai (bT (r:=true) _ _ rfl rfl rfl) (cM rfl (ax rfl rfl (aA _ aa rfl rfl rfl) (ax rfl rfl (aF _ aa rfl rfl ei) (ax rfl rfl (bT (r:=true) _ _ rfl rfl rfl) (ai (aC _ _ _ rfl bN) (cM rfl (ax rfl rfl (aA _ aa rfl rfl rfl) (ax rfl rfl (aF _ aa rfl rfl ei) (ax rfl rfl (bT (r:=false) _ _ rfl rfl rfl) (ai (aC _ _ _ rfl bN) ?_))))))))))
 refine aj (aW rfl rfl (aS (aq ?_)))
 refine aN (σ':=aE 80 [(1,_)] [((1,0),_)] [] []) kp ?_
 refine an (be rfl (aj (am (be rfl (aj (aq (am (bb rfl rfl rfl (cf rfl rfl rfl (gO rfl rfl rfl ?_))))))))))
 refine cM rfl (aO rfl rfl ah ?_)
 refine aO rfl rfl ah ?_
 refine aO rfl rfl ah ?_
 refine ai (aC _ _ _ rfl bN) (cM rfl (ax rfl rfl (aA _ aa rfl rfl rfl) (ax rfl rfl (aF _ aa rfl rfl ei) (ax rfl rfl (bB (r:=true) _ _ rfl rfl rfl) (ax rfl rfl (aH _ bN) (ax rfl rfl (bi _ _ aa rfl ag (by (simp <;> rfl)) ah rfl) ?_))))))
 refine ax rfl rfl (aA _ aa rfl rfl rfl) (ax rfl rfl (aF _ aa rfl rfl fy) (ax rfl rfl (aI aa al (gE [[38,38],[124,124]] 2 rfl ab s) rfl rfl) ?_))
 refine ax rfl rfl (aC _ _ _ rfl bN) (ai (aC _ _ _ rfl bN) (aj (aW rfl (decide_eq_false hs1) ?_)))
 refine aS (aq (aq ?_))
 refine aN (σ':=aE 80 [(1,_),(3,_),(4,_)] [((1,0),_)] [] []) kp ?_
 refine an (bb rfl rfl rfl (cf rfl rfl rfl (kg rfl rfl rfl (cM rfl (ax rfl rfl (aA _ aa rfl rfl rfl) (ax rfl rfl (aF _ aa rfl rfl fy) (ax rfl rfl (aI aa al (mQ s) rfl rfl) ?_)))))))
 refine ai (aC _ _ _ rfl bN) (aj (bL rfl (decide_eq_true hs2) ?_))
 refine an (be rfl (aj (aU fun K14 hK14=> ?_)))
 refine am (be rfl (aj (ay ?_)))
 refine bu (α:=Nat) (fun j=> j≤L.length∧ ∀ q,q < j→t q=1) 80 [(1,_),(3,_),(4,_)] [((1,0),_)] (fun j=> [(5, .v (.int .i64 (j:Int)))]) (fun j=> []) [] [] (fun j=> L.length - j) 0 ?_ (by
  refine Le.mkJ [] [] rfl ?_ ?_ trivial trivial ?_
  ·exact ⟨(iP rfl),(iV rfl),(iV rfl),(cr ag),trivial⟩
  ·exact ⟨(cm rfl rfl rfl),trivial⟩
  kernel_rfl) ?_
 ·exact ⟨Nat.zero_le _,fun q hq=> by omega⟩
 intro j hj
 obtain ⟨hj,hall⟩:=hj
 have htj:=ht j
 refine aU fun K16 hK16=> ?_
 refine am (aX rfl (bb rfl rfl rfl (fb rfl rfl rfl (ai (bp _ aa rfl) (ai (bn _ _ rfl rfl rfl) (aj (aR rfl (fun hc67=> ?_) (fun hc67=> ?_))))))))
 ·skip
  refine br (hK16 _ ?_)
  clear hK16;try clear K16
  refine aq (ay (am (bb rfl rfl rfl (fb rfl rfl rfl (aX rfl (ai (bo _ _ aa rfl rfl _ rfl ab (by (simp only [aL,bf,bh,bw,bv,bH,bz];omega)) ag) ?_))))))
  refine ai (cg _ aa rfl (by exact cO _ _ ab) rfl) ?_
  refine ai (aI aa al (h j ab) rfl rfl) ?_
  refine be rfl (aj (am (aX rfl (aX rfl (ai (bT _ _ rfl rfl rfl) (aj (aR rfl (fun hc78=> ?_) (fun hc78=> ?_))))))))
  ·skip
   have hr:=hr0 j ab ab
   refine aq ?_
   refine aN (σ':=aE 80 [] [] [] []) kp ?_
   refine an (be rfl (aj (aG (rx rfl rfl ?_))))
   rw [hr];rfl
  have hall1: ∀ q,q < j+1→t q=1:=fun q hq=> by
   by_cases h:q < j
   ·exact hall q h
   obtain rfl:q=j:=by omega
   omega
  refine cw ?_
  refine aN (σ':=aE 80 [(1,_),(3,_),(4,_),(5,_)] [((1,0),_)] [] []) kp ?_
  refine an (aX rfl (ai (aZ _ _ rfl rfl (bF ab)) ?_))
  refine be rfl (aJ (⟨j+1,?_,?_,?_⟩))
  ·exact ⟨by omega,hall1⟩
  ·skip
   refine Le.mkJ [] [] rfl ?_ ?_ trivial trivial ?_
   ·exact ⟨(iP rfl),(iV rfl),(iV rfl),(cr ag),trivial⟩
   ·exact ⟨(cm rfl rfl rfl),trivial⟩
   kernel_rfl
  omega
 have hr:=hr1 fun q hq=> hall q ab
 refine bD (id (hK14 _ ?_))
 clear hK14;try clear K14
 refine am (aX rfl (be rfl (aj (aG (rx rfl rfl ?_)))))
 rw [hr];rfl
theorem Bx (s:Tx) (hs1:s∉[[38,38],[124,124]]) (hs2:s∉zc) (L:List Nd) (hL:L.length≤3) (t:Nat→Nat) (ht: ∀ j,t j≤2) (h: ∀ j,j < L.length→Spec Tryz.prog 203 (ba [pm (lh L j)] []) (aP (.v (.int .i64 (t j:Int))) [])) (r:Nat) (hr1:(∀ j,j < L.length→t j=1)→r=1) (hr0: ∀ j,j < L.length→t j≠1→r=0):
  Spec Tryz.prog 203 (ba [.agg [.v (.int .i64 18), .v (.int .i64 0), .v (bt s), .sl L.length (mK L)]] []) (aP (.v (.int .i64 (r:Int))) []):=by
 refine Spec.ofN Tryz.func203 rfl Tryz.ntmps203 rfl ?_
 refine am (ai (aQ (1,0) _ rfl rfl) (be rfl (aj (aq (am (bb rfl rfl rfl (cf rfl rfl rfl (gO rfl rfl rfl (cM rfl (ax rfl rfl (aA _ aa rfl rfl rfl) ?_))))))))))
 refine ax rfl rfl (aF _ aa rfl rfl ei) (ax rfl rfl (bB (r:=false) _ _ rfl rfl rfl) (ai (aC _ _ _ rfl bN) (cM rfl (ax rfl rfl (aA _ aa rfl rfl rfl) (ax rfl rfl (aF _ aa rfl rfl ei) (ax rfl rfl (bB (r:=false) _ _ rfl rfl rfl) (ai (aC _ _ _ rfl bN) (aj (aW rfl rfl (aS ?_))))))))))
 refine aq (aq ?_)
 refine aN (σ':=aE 80 [(1,_)] [((1,0),_)] [] []) kp ?_
 refine an (bb rfl rfl rfl (cf rfl rfl rfl (gO rfl rfl rfl (aj (aW rfl rfl (aS (aq (am (bb rfl rfl rfl (cf rfl rfl rfl ?_))))))))))
 refine ai (bT (r:=true) _ _ rfl rfl rfl) (cM rfl (ax rfl rfl (aA _ aa rfl rfl rfl) (ax rfl rfl (aF _ aa rfl rfl ei) (ax rfl rfl (bT (r:=true) _ _ rfl rfl rfl) (ai (aC _ _ _ rfl bN) (cM rfl (ax rfl rfl (aA _ aa rfl rfl rfl) (ax rfl rfl (aF _ aa rfl rfl ei) (ax rfl rfl (bT (r:=false) _ _ rfl rfl rfl) (ai (aC _ _ _ rfl bN) ?_))))))))))
 refine aj (aW rfl rfl (aS (aq ?_)))
 refine aN (σ':=aE 80 [(1,_)] [((1,0),_)] [] []) kp ?_
 refine an (be rfl (aj (am (be rfl (aj (aq (am (bb rfl rfl rfl (cf rfl rfl rfl (gO rfl rfl rfl ?_))))))))))
 refine cM rfl (aO rfl rfl ah ?_)
 refine aO rfl rfl ah ?_
 refine aO rfl rfl ah ?_
 refine ai (aC _ _ _ rfl bN) (cM rfl (ax rfl rfl (aA _ aa rfl rfl rfl) (ax rfl rfl (aF _ aa rfl rfl ei) (ax rfl rfl (bB (r:=true) _ _ rfl rfl rfl) (ax rfl rfl (aH _ bN) (ax rfl rfl (bi _ _ aa rfl ag (by (simp <;> rfl)) ah rfl) ?_))))))
 refine ax rfl rfl (aA _ aa rfl rfl rfl) (ax rfl rfl (aF _ aa rfl rfl fy) (ax rfl rfl (aI aa al (gE [[38,38],[124,124]] 2 rfl ab s) rfl rfl) ?_))
 refine ax rfl rfl (aC _ _ _ rfl bN) (ai (aC _ _ _ rfl bN) (aj (aW rfl (decide_eq_false hs1) ?_)))
 refine aS (aq (aq ?_))
 refine aN (σ':=aE 80 [(1,_),(3,_),(4,_)] [((1,0),_)] [] []) kp ?_
 refine an (bb rfl rfl rfl (cf rfl rfl rfl (kg rfl rfl rfl (cM rfl (ax rfl rfl (aA _ aa rfl rfl rfl) (ax rfl rfl (aF _ aa rfl rfl fy) (ax rfl rfl (aI aa al (mQ s) rfl rfl) ?_)))))))
 refine ai (aC _ _ _ rfl bN) (aj (aW rfl (decide_eq_false hs2) ?_))
 refine aS (aU fun K14 hK14=> ?_)
 refine am (be rfl (aj (ay ?_)))
 refine bu (α:=Nat) (fun j=> j≤L.length∧ ∀ q,q < j→t q=1) 80 [(1,_),(3,_),(4,_)] [((1,0),_)] (fun j=> [(5, .v (.int .i64 (j:Int)))]) (fun j=> []) [] [] (fun j=> L.length - j) 0 ?_ (by
  refine Le.mkJ [] [] rfl ?_ ?_ trivial trivial ?_
  ·exact ⟨(iP rfl),(iV rfl),(iV rfl),(cr ag),trivial⟩
  ·exact ⟨(cm rfl rfl rfl),trivial⟩
  kernel_rfl) ?_
 ·exact ⟨Nat.zero_le _,fun q hq=> by omega⟩
 intro j hj
 obtain ⟨hj,hall⟩:=hj
 have htj:=ht j
 refine aU fun K16 hK16=> ?_
 refine am (aX rfl (bb rfl rfl rfl (fb rfl rfl rfl (ai (bp _ aa rfl) (ai (bn _ _ rfl rfl rfl) (aj (aR rfl (fun hc67=> ?_) (fun hc67=> ?_))))))))
 ·skip
  refine br (hK16 _ ?_)
  clear hK16;try clear K16
  refine aq (ay (am (bb rfl rfl rfl (fb rfl rfl rfl (aX rfl (ai (bo _ _ aa rfl rfl _ rfl ab (by (simp only [aL,bf,bh,bw,bv,bH,bz];omega)) ag) ?_))))))
  refine ai (cg _ aa rfl (by exact cO _ _ ab) rfl) ?_
  refine ai (aI aa al (h j ab) rfl rfl) ?_
  refine be rfl (aj (am (aX rfl (aX rfl (ai (bT _ _ rfl rfl rfl) (aj (aR rfl (fun hc78=> ?_) (fun hc78=> ?_))))))))
  ·skip
   have hr:=hr0 j ab ab
   refine aq ?_
   refine aN (σ':=aE 80 [] [] [] []) kp ?_
   refine an (be rfl (aj (aG (rx rfl rfl ?_))))
   rw [hr];rfl
  have hall1: ∀ q,q < j+1→t q=1:=fun q hq=> by
   by_cases h:q < j
   ·exact hall q h
   obtain rfl:q=j:=by omega
   omega
  refine cw ?_
  refine aN (σ':=aE 80 [(1,_),(3,_),(4,_),(5,_)] [((1,0),_)] [] []) kp ?_
  refine an (aX rfl (ai (aZ _ _ rfl rfl (bF ab)) ?_))
  refine be rfl (aJ (⟨j+1,?_,?_,?_⟩))
  ·exact ⟨by omega,hall1⟩
  ·skip
   refine Le.mkJ [] [] rfl ?_ ?_ trivial trivial ?_
   ·exact ⟨(iP rfl),(iV rfl),(iV rfl),(cr ag),trivial⟩
   ·exact ⟨(cm rfl rfl rfl),trivial⟩
   kernel_rfl
  omega
 have hr:=hr1 fun q hq=> hall q ab
 refine bD (id (hK14 _ ?_))
 clear hK14;try clear K14
 refine am (aX rfl (be rfl (aj (aG (rx rfl rfl ?_)))))
 rw [hr];rfl

theorem pK: ∀ e,fx e≤2
 | .int _=> by simp [fx] | .bool _=> by simp [fx] | .var _=> by simp [fx] | .name _=> by simp [fx]
 | .draw e=> by simp only [fx];split <;> omega
 | .neg e=> by simp only [fx];split <;> omega
 | .not e=> by simp only [fx];split <;> omega
 | .bin o a b=> by cases o <;> simp only [fx] <;> split <;> omega
 | .and a b=> by simp only [fx];split <;> omega
 | .or a b=> by simp only [fx];split <;> omega
def uR (a b:Ex) (j:Nat):Nat:=if j=0 then fx a else fx b
theorem pz (a b:Ex) (j:Nat):uR a b j≤2:=by unfold uR;split <;> exact pK _
theorem pB {a b:Ex} {op j:Nat} (hj:j < 2) (h:uR a b j≠op): ¬ (fx a=op∧fx b=op):=fun e=> by
 have:j=0∨j=1:=by omega
 rcases this with rfl | rfl
 ·exact h e.1
 exact h e.2
theorem ux (o:Bo):o.txt∉([[38,38],[124,124]]:List Tx):=by cases o <;> decide
def Mp:Bo→Nat | .add=> 1 | .sub=> 1 | .mul=> 1 | .div=> 1 | _=> 2
abbrev wC (d:Nd) (t:Nat):Prop:=Spec Tryz.prog 203 (ba [pm d] []) (aP (.v (.int .i64 (t:Int))) [])
theorem sU {d:Nd} {t:Nat} (h:wC d t): ∀ j,j < [d].length→wC (lh [d] j) t:=fun j hj=> by
 have:j=0:=by simpa using hj
 subst this
 exact h
theorem qn {d e:Nd} {a b:Ex} (h1:wC d (fx a)) (h2:wC e (fx b)): ∀ j,j < [d,e].length→wC (lh [d,e] j) (uR a b j):=fun j hj=> by
 have hj:j < 2:=hj
 have:j=0∨j=1:=by omega
 rcases this with rfl | rfl
 ·exact h1
 exact h2
theorem eC (nm:List Tx): ∀ e:Ex,wC (eL nm e) (fx e)
 | .int n=> HA n.toNat
 | .bool b=> Ey (if b then 1 else 0)
 | .var i=> GX (nm.getD i [])
 | .name k=> FW (bltT.getD k [])
 | .draw e=> Es [eL nm e] (by simp) (fun _=> fx e) (fun _=> pK e) (sU (eC nm e)) _ (fun h=> if_pos (h 0 (by simp))) (fun _ _ h=> if_neg h)
 | .neg e=> GF [eL nm e] (by simp) (fun _=> fx e) (fun _=> pK e) (sU (eC nm e)) _ (fun h=> if_pos (h 0 (by simp))) (fun _ _ h=> if_neg h)
 | .not e=> HH [eL nm e] (by simp) (fun _=> fx e) (fun _=> pK e) (sU (eC nm e)) _ (fun h=> if_pos (h 0 (by simp))) (fun _ _ h=> if_neg h)
 | .and a b=> uq [38,38] ah ah [eL nm a,eL nm b] (by simp) (uR a b) (pz a b) (qn (eC nm a) (eC nm b)) _ (fun h=> if_pos ⟨h 0 (by simp),h 1 (by simp)⟩) (fun _ hj h=> if_neg (pB hj h))
 | .or a b=> uq [124,124] ah ah [eL nm a,eL nm b] (by simp) (uR a b) (pz a b) (qn (eC nm a) (eC nm b)) _ (fun h=> if_pos ⟨h 0 (by simp),h 1 (by simp)⟩) (fun _ hj h=> if_neg (pB hj h))
 | .bin o a b=> by
  have hty:fx (.bin o a b)=if fx a=1∧fx b=1 then Mp o else 0:=by cases o <;> rfl
  have hk:=qn (eC nm a) (eC nm b)
  by_cases ho:o.txt∈zc
  ·have h2:Mp o=2:=by cases o <;> first | rfl | (exact absurd ho ah)
   rw [h2] at hty
   exact Id o.txt (ux o) ho [eL nm a,eL nm b] (by simp) (uR a b) (pz a b) hk _ (fun h=> hty.trans (if_pos ⟨h 0 (by simp),h 1 (by simp)⟩)) (fun _ hj h=> hty.trans (if_neg (pB hj h)))
  have h2:Mp o=1:=by cases o <;> first | rfl | (exact absurd ah ho)
  rw [h2] at hty
  exact Bx o.txt (ux o) ho [eL nm a,eL nm b] (by simp) (uR a b) (pz a b) hk _ (fun h=> hty.trans (if_pos ⟨h 0 (by simp),h 1 (by simp)⟩)) (fun _ hj h=> hty.trans (if_neg (pB hj h)))
theorem kJ (n:Int) (s:Tx) (L:List Nd) (h: ∀ j,j < L.length→Spec Tryz.prog 166 (ba [pm (lh L j)] []) (aP (.v (.bool true)) [])):
  Spec Tryz.prog 166 (ba [.agg [.v (.int .i64 11), .v (.int .i64 n), .v (bt s), .sl L.length (mK L)]] []) (aP (.v (.bool true)) []):=by
 refine Spec.ofN Tryz.func166 rfl Tryz.ntmps166 rfl ?_
 refine aq ?_
 refine lP 0 3 rfl rfl rfl fun hlen=> ?_
 unfold maxLen at hlen
 refine an (ai (aQ (1,0) _ rfl rfl) (cp rfl (aj (aq (am (bb rfl rfl rfl (cf rfl rfl rfl (kg rfl rfl rfl (aj (bL rfl rfl ?_))))))))))
 refine aU fun K4 hK4=> ?_
 refine am (be rfl (aj (ay ?_)))
 refine bu (α:=Nat) (fun j=> j≤L.length) 73 [(1,_)] [((1,0),_)] (fun j=> [(3, .v (.int .i64 (j:Int)))]) (fun j=> []) [] [] (fun j=> L.length - j) 0 ?_ (by
  refine Le.mkJ [] [] rfl ?_ ?_ trivial trivial ?_
  ·exact ⟨(iP rfl),(cr ag),trivial⟩
  ·exact ⟨(cm rfl rfl rfl),trivial⟩
  kernel_rfl) ?_
 ·omega
 intro j hj
 refine aU fun K6 hK6=> ?_
 refine am (aX rfl (bb rfl rfl rfl (fb rfl rfl rfl (ai (bp _ aa rfl) (ai (bn _ _ rfl rfl rfl) (aj (aR rfl (fun hc17=> ?_) (fun hc17=> ?_))))))))
 ·skip
  refine br (hK6 _ ?_)
  clear hK6;try clear K6
  refine aq (ay (am (bb rfl rfl rfl (fb rfl rfl rfl (aX rfl (ai (bo _ _ aa rfl rfl _ rfl ab (by (simp only [aL,bf,bh,bw,bv,bH,bz];omega)) ag) ?_))))))
  refine ai (cg _ aa rfl (by exact cO _ _ ab) rfl) ?_
  refine ai (aI aa al (h j ab) rfl rfl) ?_
  refine cp rfl (aj (am (cM rfl (ai (co (r:=false) _ rfl rfl) (aj (aW rfl rfl (cw (an (aX rfl (ai (aZ _ _ rfl rfl (bF ab)) ?_))))))))))
  refine be rfl (aJ (⟨j+1,?_,?_,?_⟩))
  ·omega
  ·skip
   refine Le.mkJ [] [] rfl ?_ ?_ trivial trivial ?_
   ·exact ⟨(iP rfl),(cr ag),trivial⟩
   ·exact ⟨(cm rfl rfl rfl),trivial⟩
   kernel_rfl
  omega
 refine bD (id (hK4 _ ?_))
 clear hK4;try clear K4
 refine am (cp rfl (aj (aG (rP rfl rfl ?_))))
 rfl
theorem rt (k:Nat) (hk:k=2∨k=3) (n:Int) (s:Tx) (L:List Nd) (hL:0 < L.length) (ht:Spec Tryz.prog 203 (ba [pm (lh L 0)] []) (aP (.v (.int .i64 2)) [])) (h: ∀ j,1≤j→j < L.length→Spec Tryz.prog 166 (ba [pm (lh L j)] []) (aP (.v (.bool true)) [])):
  Spec Tryz.prog 166 (ba [.agg [.v (.int .i64 (k:Int)), .v (.int .i64 n), .v (bt s), .sl L.length (mK L)]] []) (aP (.v (.bool true)) []):=by
 refine Spec.ofN Tryz.func166 rfl Tryz.ntmps166 rfl ?_
 refine aq ?_
 refine lP 0 3 rfl rfl rfl fun hlen=> ?_
 unfold maxLen at hlen
 refine an (ai (aQ (1,0) _ rfl rfl) (cp rfl (aj (aq (am (bb rfl rfl rfl (cf rfl rfl rfl (gO rfl rfl (beq_eq_false_iff_ne.2 ab) ?_))))))))
 refine aj (aW rfl rfl (aS (aq (am (bb rfl rfl rfl (cf rfl rfl rfl (ai (bB _ _ rfl rfl rfl) (cM rfl (dw (fun hg31=> ?_) (fun hg31=> ?_))))))))))
 ·skip
  refine aO rfl rfl ah ?_
  refine aO rfl rfl ah ?_
  refine aO rfl rfl ah ?_
  refine ai (aC _ _ _ rfl bN) (aj (bL rfl rfl (am (bb rfl rfl rfl (fb rfl rfl rfl (ai (bo _ _ aa rfl rfl 0 rfl hL (by simp only [bH];omega) rfl) ?_))))))
  refine ai (cg _ aa rfl (by exact cO L 0 hL) rfl) ?_
  refine ai (aI aa al (ht) rfl rfl) ?_
  refine be rfl (aj (aU fun K7 hK7=> ?_))
  refine aq ?_
  refine aN (σ':=aE 73 [(1,_),(5,_)] [((1,0),_)] [] []) kp ?_
  refine an (be rfl (aj (ay ?_)))
  refine bu (α:=Nat) (fun j=> 1≤j∧j≤L.length) 73 [(1,_),(5,_)] [((1,0),_)] (fun j=> [(6, .v (.int .i64 (j:Int)))]) (fun j=> []) [] [] (fun j=> L.length - j) 1 ?_ (by
   refine Le.mkJ [] [] rfl ?_ ?_ trivial trivial ?_
   ·exact ⟨(iP rfl),(iV rfl),(cr ag),trivial⟩
   ·exact ⟨(cm rfl rfl rfl),trivial⟩
   kernel_rfl) ?_
  ·exact ⟨Nat.le_refl _,hL⟩
  intro j hj
  obtain ⟨hj1,hj2⟩:=hj
  refine aU fun K9 hK9=> ?_
  refine am (aX rfl (bb rfl rfl rfl (fb rfl rfl rfl (ai (bp _ aa rfl) (ai (bn _ _ rfl rfl rfl) (aj (aR rfl (fun hc45=> ?_) (fun hc45=> ?_))))))))
  ·skip
   refine br (hK9 _ ?_)
   clear hK9;try clear K9
   refine aq (ay (am (bb rfl rfl rfl (fb rfl rfl rfl (aX rfl (ai (bo _ _ aa rfl rfl _ rfl ab (by (simp only [aL,bf,bh,bw,bv,bH,bz];omega)) ag) ?_))))))
   refine ai (cg _ aa rfl (by exact cO _ _ ab) rfl) ?_
   refine ai (aI aa al (h j hj1 ab) rfl rfl) ?_
   refine cp rfl (aj (am (cM rfl (ai (co (r:=false) _ rfl rfl) (aj (aW rfl rfl (cw (an (aX rfl (ai (aZ _ _ rfl rfl (bF ab)) ?_))))))))))
   refine be rfl (aJ (⟨j+1,?_,?_,?_⟩))
   ·omega
   ·skip
    refine Le.mkJ [] [] rfl ?_ ?_ trivial trivial ?_
    ·exact ⟨(iP rfl),(iV rfl),(cr ag),trivial⟩
    ·exact ⟨(cm rfl rfl rfl),trivial⟩
    kernel_rfl
   omega
  refine bD (id (hK7 _ ?_))
  clear hK7;try clear K7
  refine am (aX rfl (kg rfl rfl rfl (cp rfl (aj (aG (rP rfl rfl ?_))))))
  rfl
 have hk3:k=3:=by omega
 refine ax rfl rfl (aA _ aa rfl rfl rfl) (ax rfl rfl (aF _ aa rfl rfl ei) (ax rfl rfl (bB (r:=true) _ _ rfl rfl (beq_iff_eq.2 ab)) ?_))
 refine ai (aC _ _ _ rfl bN) (aj (bL rfl rfl (am (bb rfl rfl rfl (fb rfl rfl rfl (ai (bo _ _ aa rfl rfl 0 rfl hL (by simp only [bH];omega) rfl) ?_))))))
 refine ai (cg _ aa rfl (by exact cO L 0 hL) rfl) ?_
 refine ai (aI aa al (ht) rfl rfl) ?_
 refine be rfl (aj (aU fun K16 hK16=> ?_))
 refine aq ?_
 refine aN (σ':=aE 73 [(1,_),(5,_)] [((1,0),_)] [] []) kp ?_
 refine an (be rfl (aj (ay ?_)))
 refine bu (α:=Nat) (fun j=> 1≤j∧j≤L.length) 73 [(1,_),(5,_)] [((1,0),_)] (fun j=> [(6, .v (.int .i64 (j:Int)))]) (fun j=> []) [] [] (fun j=> L.length - j) 1 ?_ (by
  refine Le.mkJ [] [] rfl ?_ ?_ trivial trivial ?_
  ·exact ⟨(iP rfl),(iV rfl),(cr ag),trivial⟩
  ·exact ⟨(cm rfl rfl rfl),trivial⟩
  kernel_rfl) ?_
 ·exact ⟨Nat.le_refl _,hL⟩
 intro j hj
 obtain ⟨hj1,hj2⟩:=hj
 refine aU fun K18 hK18=> ?_
 refine am (aX rfl (bb rfl rfl rfl (fb rfl rfl rfl (ai (bp _ aa rfl) (ai (bn _ _ rfl rfl rfl) (aj (aR rfl (fun hc45=> ?_) (fun hc45=> ?_))))))))
 ·skip
  refine br (hK18 _ ?_)
  clear hK18;try clear K18
  refine aq (ay (am (bb rfl rfl rfl (fb rfl rfl rfl (aX rfl (ai (bo _ _ aa rfl rfl _ rfl ab (by (simp only [aL,bf,bh,bw,bv,bH,bz];omega)) ag) ?_))))))
  refine ai (cg _ aa rfl (by exact cO _ _ ab) rfl) ?_
  refine ai (aI aa al (h j hj1 ab) rfl rfl) ?_
  refine cp rfl (aj (am (cM rfl (ai (co (r:=false) _ rfl rfl) (aj (aW rfl rfl (cw (an (aX rfl (ai (aZ _ _ rfl rfl (bF ab)) ?_))))))))))
  refine be rfl (aJ (⟨j+1,?_,?_,?_⟩))
  ·omega
  ·skip
   refine Le.mkJ [] [] rfl ?_ ?_ trivial trivial ?_
   ·exact ⟨(iP rfl),(iV rfl),(cr ag),trivial⟩
   ·exact ⟨(cm rfl rfl rfl),trivial⟩
   kernel_rfl
  omega
 refine bD (id (hK16 _ ?_))
 clear hK16;try clear K16
 refine am (aX rfl (kg rfl rfl rfl (cp rfl (aj (aG (rP rfl rfl ?_))))))
 rfl
theorem fR (k:Nat) (hk:k≠2∧k≠3∧k≠11) (n:Int) (s:Tx) (L:List Nd) (h: ∀ j,j < L.length→Spec Tryz.prog 203 (ba [pm (lh L j)] []) (aP (.v (.int .i64 1)) [])):
  Spec Tryz.prog 166 (ba [.agg [.v (.int .i64 (k:Int)), .v (.int .i64 n), .v (bt s), .sl L.length (mK L)]] []) (aP (.v (.bool true)) []):=by
 refine Spec.ofN Tryz.func166 rfl Tryz.ntmps166 rfl ?_
 refine aq ?_
 refine lP 0 3 rfl rfl rfl fun hlen=> ?_
 unfold maxLen at hlen
 refine an (ai (aQ (1,0) _ rfl rfl) (cp rfl (aj (aq (am (bb rfl rfl rfl (cf rfl rfl rfl (gO rfl rfl (beq_eq_false_iff_ne.2 ab) ?_))))))))
 refine aj (aW rfl rfl (aS (aq (am (bb rfl rfl rfl (cf rfl rfl rfl (gO rfl rfl (beq_eq_false_iff_ne.2 ab) ?_)))))))
 refine cM rfl (ax rfl rfl (aA _ aa rfl rfl rfl) (ax rfl rfl (aF _ aa rfl rfl ei) (ax rfl rfl (bB (r:=false) _ _ rfl rfl (beq_eq_false_iff_ne.2 ab)) ?_)))
 refine ai (aC _ _ _ rfl bN) (aj (aW rfl rfl (aS (aU fun K6 hK6=> ?_))))
 refine am (be rfl (aj (ay ?_)))
 refine bu (α:=Nat) (fun j=> j≤L.length) 73 [(1,_)] [((1,0),_)] (fun j=> [(8, .v (.int .i64 (j:Int)))]) (fun j=> []) [] [] (fun j=> L.length - j) 0 ?_ (by
  refine Le.mkJ [] [] rfl ?_ ?_ trivial trivial ?_
  ·exact ⟨(iP rfl),(cr ag),trivial⟩
  ·exact ⟨(cm rfl rfl rfl),trivial⟩
  kernel_rfl) ?_
 ·omega
 intro j hj
 refine aU fun K8 hK8=> ?_
 refine am (aX rfl (bb rfl rfl rfl (fb rfl rfl rfl (ai (bp _ aa rfl) (ai (bn _ _ rfl rfl rfl) (aj (aR rfl (fun hc62=> ?_) (fun hc62=> ?_))))))))
 ·skip
  refine br (hK8 _ ?_)
  clear hK8;try clear K8
  refine aq (ay (am (bb rfl rfl rfl (fb rfl rfl rfl (aX rfl (ai (bo _ _ aa rfl rfl _ rfl ab (by (simp only [aL,bf,bh,bw,bv,bH,bz];omega)) ag) ?_))))))
  refine ai (cg _ aa rfl (by exact cO _ _ ab) rfl) ?_
  refine ai (aI aa al (h j ab) rfl rfl) ?_
  refine be rfl (aj (am (aX rfl (ai (bT (r:=false) _ _ rfl rfl rfl) (aj (aW rfl rfl (cw (an (aX rfl (ai (aZ _ _ rfl rfl (bF ab)) ?_))))))))))
  refine be rfl (aJ (⟨j+1,?_,?_,?_⟩))
  ·omega
  ·skip
   refine Le.mkJ [] [] rfl ?_ ?_ trivial trivial ?_
   ·exact ⟨(iP rfl),(cr ag),trivial⟩
   ·exact ⟨(cm rfl rfl rfl),trivial⟩
   kernel_rfl
  omega
 refine bD (id (hK6 _ ?_))
 clear hK6;try clear K6
 refine am (cp rfl (aj (aG (rP rfl rfl ?_))))
 rfl

abbrev LO (d:Nd):Prop:=Spec Tryz.prog 166 (ba [pm d] []) (aP (.v (.bool true)) [])
theorem jm {nm:List Tx} {e:Ex} (h:oV e=true):wC (eL nm e) 1:=by
 have:=Nat.eq_of_beq_eq_true h
 have h2:=eC nm e
 rwa [this] at h2
theorem IW {P:Nd→Prop} {d:Nd} (h:P d): ∀ j,j < [d].length→P (lh [d] j):=fun j hj=> by
 have:j=0:=by simpa using hj
 subst this
 exact h
theorem Lh {P:Nd→Prop} {d e:Nd} (h:P d) (h':P e): ∀ j,j < [d,e].length→P (lh [d,e] j):=fun j hj=> by
 have hj:j < 2:=hj
 have:j=0∨j=1:=by omega
 rcases this with rfl | rfl
 ·exact h
 exact h'
theorem Mo {P:Nd→Prop} {d e f:Nd} (h:P d) (h':P e) (h2:P f): ∀ j,j < [d,e,f].length→P (lh [d,e,f] j):=fun j hj=> by
 have hj:j < 3:=hj
 have:j=0∨j=1∨j=2:=by omega
 rcases this with rfl | rfl | rfl
 ·exact h
 ·exact h'
 exact h2
theorem AP {P:Nd→Prop}: ∀ j,j < ([]:List Nd).length→P (lh [] j):=fun j hj=> by simp at hj
theorem LN {P:Nd→Prop} {d:Nd} {l:List Nd} (h:P d) (h': ∀ j,j < l.length→P (lh l j)): ∀ j,j < (d::l).length→P (lh (d::l) j):=fun j hj=> by
 cases j with
 | zero=> exact h
 | succ j=> exact h' j (by simpa using hj)
mutual
theorem Ev (nm:List Tx): ∀ s:Sm,yZ s=true→LO (Gi nm s)
 | .assign i e,h=> fR 1 ab 0 (nm.getD i []) [eL nm e] (IW (P:=fun d=> wC d 1) (jm h))
 | .send t k a b,h=> by
  simp only [yZ,Bool.and_eq_true] at h
  exact fR 4 ab k [] [eL nm t,eL nm a,eL nm b] (Mo (P:=fun d=> wC d 1) (jm h.1.1) (jm h.1.2) (jm h.2))
 | .timer k,_=> fR 5 ab k [] [] (AP (P:=fun d=> wC d 1))
 | .cancel k,_=> fR 6 ab k [] [] (AP (P:=fun d=> wC d 1))
 | .sync,_=> fR 7 ab 0 [] [] (AP (P:=fun d=> wC d 1))
 | .stop,_=> fR 10 ab 0 [] [] (AP (P:=fun d=> wC d 1))
 | .reply a b,h=> by
  simp only [yZ,Bool.and_eq_true] at h
  exact fR 8 ab 0 [] [eL nm a,eL nm b] (Lh (P:=fun d=> wC d 1) (jm h.1) (jm h.2))
 | .fail e,h=> fR 9 ab 0 [] [eL nm e] (IW (P:=fun d=> wC d 1) (jm h))
 | .loop c b,h=> by
  simp only [yZ,Bool.and_eq_true] at h
  have h1:=eC nm c
  rw [Nat.eq_of_beq_eq_true h.1] at h1
  refine rt 3 (.inr rfl) 0 [] [eL nm c,nd 11 0 [] (jc nm b)] (by simp) h1 fun j h1 hj=> ?_
  have hj:j < 2:=hj
  obtain rfl:j=1:=by omega
  exact kJ 0 [] (jc nm b) (nT nm b h.2)
 | .ite c a b,h=> by
  simp only [yZ,Bool.and_eq_true] at h
  have h1:=eC nm c
  rw [Nat.eq_of_beq_eq_true h.1.1] at h1
  refine rt 2 (.inl rfl) 0 [] [eL nm c,nd 11 0 [] (jc nm a),nd 11 0 [] (jc nm b)] (by simp) h1 fun j h1 hj=> ?_
  have hj:j < 3:=hj
  have:j=1∨j=2:=by omega
  rcases this with rfl | rfl
  ·exact kJ 0 [] (jc nm a) (nT nm a h.1.2)
  exact kJ 0 [] (jc nm b) (nT nm b h.2)
theorem nT (nm:List Tx): ∀ b:Bk,qF b=true→ ∀ j,j < (jc nm b).length→LO (lh (jc nm b) j)
 | .nil,_=> AP
 | .cons s b,h=> by
  simp only [qF,Bool.and_eq_true] at h
  exact LN (Ev nm s h.1) (nT nm b h.2)
end
theorem FO (nm:List Tx) (b:Bk) (h:qF b=true):LO (iX nm b):=kJ 0 [] (jc nm b) (nT nm b h)

def iO (s:Tx) (l:List Tx):List Tx:=if s∈l then l else l++[s]
section
variable (nm:List Tx)
def tf:Ex→List Tx→List Tx
 | .int _,l=> l | .bool _,l=> l | .name _,l=> l
 | .var i,l=> iO (nm.getD i []) l
 | .draw e,l=> tf e l | .neg e,l=> tf e l | .not e,l=> tf e l
 | .bin _ a b,l=> tf b (tf a l)
 | .and a b,l=> tf b (tf a l)
 | .or a b,l=> tf b (tf a l)
mutual
def Mr:Sm→List Tx→List Tx
 | .assign i e,l=> tf nm e (iO (nm.getD i []) l)
 | .send t _ a b,l=> tf nm b (tf nm a (tf nm t l))
 | .timer _,l=> l | .cancel _,l=> l | .sync,l=> l | .stop,l=> l
 | .reply a b,l=> tf nm b (tf nm a l)
 | .fail e,l=> tf nm e l
 | .loop c b,l=> Dy b (tf nm c l)
 | .ite c a b,l=> Dy b (Dy a (tf nm c l))
def Dy:Bk→List Tx→List Tx
 | .nil,l=> l
 | .cons s b,l=> Dy b (Mr s l)
end
def GN (l:List Tx):Prop:=l.Nodup∧ ∀ x∈l,x∈nm
end
theorem GN.len {nm l:List Tx} (h:GN nm l):l.length≤nm.length:=h.1.length_le_of_subset fun x hx=> h.2 x hx
theorem GN.add {nm l:List Tx} (h:GN nm l) {i:Nat} (hi:i < nm.length):GN nm (iO (nm.getD i []) l):=by
 unfold iO
 split
 ·exact h
 rename_i hn
 refine ⟨List.nodup_append.2 ⟨h.1,by simp,fun a ha b hb e=> hn (by rw [List.mem_singleton.1 hb] at e;exact e ▸ ha)⟩,fun x hx=> ?_⟩
 rcases List.mem_append.1 hx with hx | hx
 ·exact h.2 x hx
 rw [List.mem_singleton.1 hx];exact kv hi
theorem GN.nil {nm:List Tx}:GN nm []:=⟨.nil,fun x hx=> by simp at hx⟩
theorem uM (n:Int) (s:Tx) (L:List Nd) (l:List Tx) (hs:s∉l) (hl:l.length≤1000) (F:Nat→List Tx) (hF:F 0=l++[s]) (h: ∀ j,j < L.length→Spec Tryz.prog 167 (ba [pm (lh L j), .sl (F j).length (fj (F j))] []) (aP (.sl (F (j+1)).length (fj (F (j+1)))) [])):
  Spec Tryz.prog 167 (ba [.agg [.v (.int .i64 1), .v (.int .i64 n), .v (bt s), .sl L.length (mK L)], .sl l.length (fj l)] []) (aP (.sl (F L.length).length (fj (F L.length))) []):=by
 refine Spec.ofN Tryz.func167 rfl Tryz.ntmps167 rfl ?_
 refine aq ?_
 refine lP 0 3 rfl rfl rfl fun hlen=> ?_
 unfold maxLen at hlen
 refine an (ai (aQ (2,0) _ rfl rfl) (ai (bq _ fA) (aj (aq (am (bb rfl rfl rfl (cf rfl rfl rfl (kg rfl rfl rfl (cM rfl (aO rfl rfl ah ?_))))))))))
 refine aO rfl rfl ah ?_
 refine aO rfl rfl ah ?_
 refine ai (aC _ _ _ rfl bN) (cM rfl (ax rfl rfl (aH _ mm) (ax rfl rfl (aA _ aa rfl rfl rfl) (ax rfl rfl (aF _ aa rfl rfl fy) (ax rfl rfl (aI aa al (gE l _ rfl ab s) rfl rfl) ?_)))))
 refine ax rfl rfl (co _ rfl rfl) (ai (aC _ _ _ rfl bN) (aj (bL rfl (by rw [decide_eq_false hs];rfl) ?_)))
 refine aq ?_
 refine aN (σ':=aE 45 [(1,_),(2,_)] [((2,0),_)] [] []) kp ?_
 refine an (ai (bq _ fA) (aj (am (ai (aH _ fA) (eV rfl (ai (vS (24,0) _ _ aa rfl (.sl (by simp)) ab rfl) ?_))))))
 refine fh rfl (aj (an (gK rfl (bb rfl rfl rfl (ai (aF _ aa rfl rfl fy) (ai (bi _ _ aa rfl ag (by (simp <;> rfl)) ah rfl) ?_))))))
 refine ai (du (29,0) _ _ aa rfl rfl (by simp) (.sl rfl) ab rfl (nD _ _) (show l.length+1=(l++[s]).length by simp)) ?_
 refine fh rfl (aj (aU fun K6 hK6=> ?_))
 refine am (be rfl (aj (ay ?_)))
 refine aN (Le.frzS 1 (ys:=fj (l++[s])) rfl rfl rfl (by rw [List.drop_zero,Nat.mul_one];exact List.take_of_length_le (by simp)) (by simp)) ?_
 refine bu (α:=Nat) (fun j=> j≤L.length) 45 [(2,_)] [((2,0),_)] (fun j=> [(6, .v (.int .i64 (j:Int))),(1, .sl (F j).length (fj (F j)))]) (fun j=> []) [] [] (fun j=> L.length - j) 0 ?_ (by
  refine Le.mkJ [] [] rfl ?_ ?_ trivial trivial ?_
  ·exact ⟨(iP rfl),(cr ag),(iY (by rw [hF]) (by rw [hF])),trivial⟩
  ·exact ⟨(cm rfl rfl rfl),trivial⟩
  kernel_rfl) ?_
 ·omega
 intro j hj
 refine aU fun K8 hK8=> ?_
 refine am (aX rfl (bb rfl rfl rfl (fb rfl rfl rfl (ai (bp _ aa rfl) (ai (bn _ _ rfl rfl rfl) (aj (aR rfl (fun hc34=> ?_) (fun hc34=> ?_))))))))
 ·skip
  refine br (hK8 _ ?_)
  clear hK8;try clear K8
  refine aq (ay (an (bb rfl rfl rfl (fb rfl rfl rfl (aX rfl (ai (bo _ _ aa rfl rfl _ rfl ab (by (simp only [aL,bf,bh,bw,bv,bH,bz];omega)) ag) ?_))))))
  refine ai (cg _ aa rfl (by exact cO _ _ ab) rfl) ?_
  refine eV rfl (ai (aI aa al (h j ab) rfl rfl) ?_)
  refine kE rfl (dY (an (aX rfl (ai (aZ _ _ rfl rfl (bF ab)) ?_))))
  refine be rfl (aJ (⟨j+1,?_,?_,?_⟩))
  ·omega
  ·skip
   refine Le.mkJ [] [] rfl ?_ ?_ trivial trivial ?_
   ·exact ⟨(iP rfl),(cr ag),(iY ag ag),trivial⟩
   ·exact ⟨(cm rfl rfl rfl),trivial⟩
   kernel_rfl
  omega
 obtain rfl:j=L.length:=by omega
 refine bD (id (hK6 _ ?_))
 clear hK6;try clear K6
 exact am (eV rfl (kE rfl (aj (aG (pY rfl rfl)))))
theorem ve (n:Int) (s:Tx) (L:List Nd) (l:List Tx) (hs:s∈l) (hl:l.length≤1000) (F:Nat→List Tx) (hF:F 0=l) (h: ∀ j,j < L.length→Spec Tryz.prog 167 (ba [pm (lh L j), .sl (F j).length (fj (F j))] []) (aP (.sl (F (j+1)).length (fj (F (j+1)))) [])):
  Spec Tryz.prog 167 (ba [.agg [.v (.int .i64 1), .v (.int .i64 n), .v (bt s), .sl L.length (mK L)], .sl l.length (fj l)] []) (aP (.sl (F L.length).length (fj (F L.length))) []):=by
 refine Spec.ofN Tryz.func167 rfl Tryz.ntmps167 rfl ?_
 refine aq ?_
 refine lP 0 3 rfl rfl rfl fun hlen=> ?_
 unfold maxLen at hlen
 refine an (ai (aQ (2,0) _ rfl rfl) (ai (bq _ fA) (aj (aq (am (bb rfl rfl rfl (cf rfl rfl rfl (kg rfl rfl rfl (cM rfl (aO rfl rfl ah ?_))))))))))
 refine aO rfl rfl ah ?_
 refine aO rfl rfl ah ?_
 refine ai (aC _ _ _ rfl bN) (cM rfl (ax rfl rfl (aH _ mm) (ax rfl rfl (aA _ aa rfl rfl rfl) (ax rfl rfl (aF _ aa rfl rfl fy) (ax rfl rfl (aI aa al (gE l _ rfl ab s) rfl rfl) ?_)))))
 refine ax rfl rfl (co _ rfl rfl) (ai (aC _ _ _ rfl bN) (aj (aW rfl (by rw [decide_eq_true hs];rfl) ?_)))
 refine aS (aU fun K4 hK4=> ?_)
 refine aq ?_
 refine aN (σ':=aE 45 [(1,_),(2,_)] [((2,0),_)] [] []) kp ?_
 refine an (be rfl (aj (ay ?_)))
 refine bu (α:=Nat) (fun j=> j≤L.length) 45 [(2,_)] [((2,0),_)] (fun j=> [(6, .v (.int .i64 (j:Int))),(1, .sl (F j).length (fj (F j)))]) (fun j=> []) [] [] (fun j=> L.length - j) 0 ?_ (by
  refine Le.mkJ [] [] rfl ?_ ?_ trivial trivial ?_
  ·exact ⟨(iP rfl),(cr ag),(iY (by rw [hF]) (by rw [hF])),trivial⟩
  ·exact ⟨(cm rfl rfl rfl),trivial⟩
  kernel_rfl) ?_
 ·omega
 intro j hj
 refine aU fun K6 hK6=> ?_
 refine am (aX rfl (bb rfl rfl rfl (fb rfl rfl rfl (ai (bp _ aa rfl) (ai (bn _ _ rfl rfl rfl) (aj (aR rfl (fun hc34=> ?_) (fun hc34=> ?_))))))))
 ·skip
  refine br (hK6 _ ?_)
  clear hK6;try clear K6
  refine aq (ay (an (bb rfl rfl rfl (fb rfl rfl rfl (aX rfl (ai (bo _ _ aa rfl rfl _ rfl ab (by (simp only [aL,bf,bh,bw,bv,bH,bz];omega)) ag) ?_))))))
  refine ai (cg _ aa rfl (by exact cO _ _ ab) rfl) ?_
  refine eV rfl (ai (aI aa al (h j ab) rfl rfl) ?_)
  refine kE rfl (dY (an (aX rfl (ai (aZ _ _ rfl rfl (bF ab)) ?_))))
  refine be rfl (aJ (⟨j+1,?_,?_,?_⟩))
  ·omega
  ·skip
   refine Le.mkJ [] [] rfl ?_ ?_ trivial trivial ?_
   ·exact ⟨(iP rfl),(cr ag),(iY ag ag),trivial⟩
   ·exact ⟨(cm rfl rfl rfl),trivial⟩
   kernel_rfl
  omega
 obtain rfl:j=L.length:=by omega
 refine bD (id (hK4 _ ?_))
 clear hK4;try clear K4
 exact am (eV rfl (kE rfl (aj (aG (pY rfl rfl)))))
theorem tG (n:Int) (s:Tx) (L:List Nd) (l:List Tx) (hs:s∉l) (hl:l.length≤1000) (F:Nat→List Tx) (hF:F 0=l++[s]) (h: ∀ j,j < L.length→Spec Tryz.prog 167 (ba [pm (lh L j), .sl (F j).length (fj (F j))] []) (aP (.sl (F (j+1)).length (fj (F (j+1)))) [])):
  Spec Tryz.prog 167 (ba [.agg [.v (.int .i64 14), .v (.int .i64 n), .v (bt s), .sl L.length (mK L)], .sl l.length (fj l)] []) (aP (.sl (F L.length).length (fj (F L.length))) []):=by
 refine Spec.ofN Tryz.func167 rfl Tryz.ntmps167 rfl ?_
 refine aq ?_
 refine lP 0 3 rfl rfl rfl fun hlen=> ?_
 unfold maxLen at hlen
 refine an (ai (aQ (2,0) _ rfl rfl) (ai (bq _ fA) (aj (aq (am (bb rfl rfl rfl (cf rfl rfl rfl (gO rfl rfl rfl (cM rfl (ax rfl rfl (aA _ aa rfl rfl rfl) ?_))))))))))
 refine ax rfl rfl (aF _ aa rfl rfl ei) (ax rfl rfl (bB (r:=true) _ _ rfl rfl rfl) (ai (aC _ _ _ rfl bN) (cM rfl (ax rfl rfl (aH _ mm) (ax rfl rfl (aA _ aa rfl rfl rfl) (ax rfl rfl (aF _ aa rfl rfl fy) (ax rfl rfl (aI aa al (gE l _ rfl ab s) rfl rfl) ?_)))))))
 refine ax rfl rfl (co _ rfl rfl) (ai (aC _ _ _ rfl bN) (aj (bL rfl (by rw [decide_eq_false hs];rfl) ?_)))
 refine aq ?_
 refine aN (σ':=aE 45 [(1,_),(2,_)] [((2,0),_)] [] []) kp ?_
 refine an (ai (bq _ fA) (aj (am (ai (aH _ fA) (eV rfl (ai (vS (24,0) _ _ aa rfl (.sl (by simp)) ab rfl) ?_))))))
 refine fh rfl (aj (an (gK rfl (bb rfl rfl rfl (ai (aF _ aa rfl rfl fy) (ai (bi _ _ aa rfl ag (by (simp <;> rfl)) ah rfl) ?_))))))
 refine ai (du (29,0) _ _ aa rfl rfl (by simp) (.sl rfl) ab rfl (nD _ _) (show l.length+1=(l++[s]).length by simp)) ?_
 refine fh rfl (aj (aU fun K6 hK6=> ?_))
 refine am (be rfl (aj (ay ?_)))
 refine aN (Le.frzS 1 (ys:=fj (l++[s])) rfl rfl rfl (by rw [List.drop_zero,Nat.mul_one];exact List.take_of_length_le (by simp)) (by simp)) ?_
 refine bu (α:=Nat) (fun j=> j≤L.length) 45 [(2,_)] [((2,0),_)] (fun j=> [(6, .v (.int .i64 (j:Int))),(1, .sl (F j).length (fj (F j)))]) (fun j=> []) [] [] (fun j=> L.length - j) 0 ?_ (by
  refine Le.mkJ [] [] rfl ?_ ?_ trivial trivial ?_
  ·exact ⟨(iP rfl),(cr ag),(iY (by rw [hF]) (by rw [hF])),trivial⟩
  ·exact ⟨(cm rfl rfl rfl),trivial⟩
  kernel_rfl) ?_
 ·omega
 intro j hj
 refine aU fun K8 hK8=> ?_
 refine am (aX rfl (bb rfl rfl rfl (fb rfl rfl rfl (ai (bp _ aa rfl) (ai (bn _ _ rfl rfl rfl) (aj (aR rfl (fun hc34=> ?_) (fun hc34=> ?_))))))))
 ·skip
  refine br (hK8 _ ?_)
  clear hK8;try clear K8
  refine aq (ay (an (bb rfl rfl rfl (fb rfl rfl rfl (aX rfl (ai (bo _ _ aa rfl rfl _ rfl ab (by (simp only [aL,bf,bh,bw,bv,bH,bz];omega)) ag) ?_))))))
  refine ai (cg _ aa rfl (by exact cO _ _ ab) rfl) ?_
  refine eV rfl (ai (aI aa al (h j ab) rfl rfl) ?_)
  refine kE rfl (dY (an (aX rfl (ai (aZ _ _ rfl rfl (bF ab)) ?_))))
  refine be rfl (aJ (⟨j+1,?_,?_,?_⟩))
  ·omega
  ·skip
   refine Le.mkJ [] [] rfl ?_ ?_ trivial trivial ?_
   ·exact ⟨(iP rfl),(cr ag),(iY ag ag),trivial⟩
   ·exact ⟨(cm rfl rfl rfl),trivial⟩
   kernel_rfl
  omega
 obtain rfl:j=L.length:=by omega
 refine bD (id (hK6 _ ?_))
 clear hK6;try clear K6
 exact am (eV rfl (kE rfl (aj (aG (pY rfl rfl)))))
theorem sI (n:Int) (s:Tx) (L:List Nd) (l:List Tx) (hs:s∈l) (hl:l.length≤1000) (F:Nat→List Tx) (hF:F 0=l) (h: ∀ j,j < L.length→Spec Tryz.prog 167 (ba [pm (lh L j), .sl (F j).length (fj (F j))] []) (aP (.sl (F (j+1)).length (fj (F (j+1)))) [])):
  Spec Tryz.prog 167 (ba [.agg [.v (.int .i64 14), .v (.int .i64 n), .v (bt s), .sl L.length (mK L)], .sl l.length (fj l)] []) (aP (.sl (F L.length).length (fj (F L.length))) []):=by
 refine Spec.ofN Tryz.func167 rfl Tryz.ntmps167 rfl ?_
 refine aq ?_
 refine lP 0 3 rfl rfl rfl fun hlen=> ?_
 unfold maxLen at hlen
 refine an (ai (aQ (2,0) _ rfl rfl) (ai (bq _ fA) (aj (aq (am (bb rfl rfl rfl (cf rfl rfl rfl (gO rfl rfl rfl (cM rfl (ax rfl rfl (aA _ aa rfl rfl rfl) ?_))))))))))
 refine ax rfl rfl (aF _ aa rfl rfl ei) (ax rfl rfl (bB (r:=true) _ _ rfl rfl rfl) (ai (aC _ _ _ rfl bN) (cM rfl (ax rfl rfl (aH _ mm) (ax rfl rfl (aA _ aa rfl rfl rfl) (ax rfl rfl (aF _ aa rfl rfl fy) (ax rfl rfl (aI aa al (gE l _ rfl ab s) rfl rfl) ?_)))))))
 refine ax rfl rfl (co _ rfl rfl) (ai (aC _ _ _ rfl bN) (aj (aW rfl (by rw [decide_eq_true hs];rfl) ?_)))
 refine aS (aU fun K4 hK4=> ?_)
 refine aq ?_
 refine aN (σ':=aE 45 [(1,_),(2,_)] [((2,0),_)] [] []) kp ?_
 refine an (be rfl (aj (ay ?_)))
 refine bu (α:=Nat) (fun j=> j≤L.length) 45 [(2,_)] [((2,0),_)] (fun j=> [(6, .v (.int .i64 (j:Int))),(1, .sl (F j).length (fj (F j)))]) (fun j=> []) [] [] (fun j=> L.length - j) 0 ?_ (by
  refine Le.mkJ [] [] rfl ?_ ?_ trivial trivial ?_
  ·exact ⟨(iP rfl),(cr ag),(iY (by rw [hF]) (by rw [hF])),trivial⟩
  ·exact ⟨(cm rfl rfl rfl),trivial⟩
  kernel_rfl) ?_
 ·omega
 intro j hj
 refine aU fun K6 hK6=> ?_
 refine am (aX rfl (bb rfl rfl rfl (fb rfl rfl rfl (ai (bp _ aa rfl) (ai (bn _ _ rfl rfl rfl) (aj (aR rfl (fun hc34=> ?_) (fun hc34=> ?_))))))))
 ·skip
  refine br (hK6 _ ?_)
  clear hK6;try clear K6
  refine aq (ay (an (bb rfl rfl rfl (fb rfl rfl rfl (aX rfl (ai (bo _ _ aa rfl rfl _ rfl ab (by (simp only [aL,bf,bh,bw,bv,bH,bz];omega)) ag) ?_))))))
  refine ai (cg _ aa rfl (by exact cO _ _ ab) rfl) ?_
  refine eV rfl (ai (aI aa al (h j ab) rfl rfl) ?_)
  refine kE rfl (dY (an (aX rfl (ai (aZ _ _ rfl rfl (bF ab)) ?_))))
  refine be rfl (aJ (⟨j+1,?_,?_,?_⟩))
  ·omega
  ·skip
   refine Le.mkJ [] [] rfl ?_ ?_ trivial trivial ?_
   ·exact ⟨(iP rfl),(cr ag),(iY ag ag),trivial⟩
   ·exact ⟨(cm rfl rfl rfl),trivial⟩
   kernel_rfl
  omega
 obtain rfl:j=L.length:=by omega
 refine bD (id (hK4 _ ?_))
 clear hK4;try clear K4
 exact am (eV rfl (kE rfl (aj (aG (pY rfl rfl)))))
theorem ul (k:Nat) (hk:k≠1∧k≠14) (n:Int) (s:Tx) (L:List Nd) (l:List Tx) (hl:l.length≤1000) (F:Nat→List Tx) (hF:F 0=l) (h: ∀ j,j < L.length→Spec Tryz.prog 167 (ba [pm (lh L j), .sl (F j).length (fj (F j))] []) (aP (.sl (F (j+1)).length (fj (F (j+1)))) [])):
  Spec Tryz.prog 167 (ba [.agg [.v (.int .i64 (k:Int)), .v (.int .i64 n), .v (bt s), .sl L.length (mK L)], .sl l.length (fj l)] []) (aP (.sl (F L.length).length (fj (F L.length))) []):=by
 refine Spec.ofN Tryz.func167 rfl Tryz.ntmps167 rfl ?_
 refine aq ?_
 refine lP 0 3 rfl rfl rfl fun hlen=> ?_
 unfold maxLen at hlen
 refine an (ai (aQ (2,0) _ rfl rfl) (ai (bq _ fA) (aj (aq (am (bb rfl rfl rfl (cf rfl rfl rfl (gO rfl rfl (beq_eq_false_iff_ne.2 ab) ?_))))))))
 refine cM rfl (ax rfl rfl (aA _ aa rfl rfl rfl) (ax rfl rfl (aF _ aa rfl rfl ei) (ax rfl rfl (bB (r:=false) _ _ rfl rfl (beq_eq_false_iff_ne.2 ab)) ?_)))
 refine ai (aC _ _ _ rfl bN) (cM rfl (aO rfl rfl ah ?_))
 refine aO rfl rfl ah ?_
 refine aO rfl rfl ah ?_
 refine aO rfl rfl ah ?_
 refine aO rfl rfl ah ?_
 refine ai (aC _ _ _ rfl bN) (aj (aW rfl rfl (aS (aU fun K4 hK4=> ?_))))
 refine aq ?_
 refine aN (σ':=aE 45 [(1,_),(2,_)] [((2,0),_)] [] []) kp ?_
 refine an (be rfl (aj (ay ?_)))
 refine bu (α:=Nat) (fun j=> j≤L.length) 45 [(2,_)] [((2,0),_)] (fun j=> [(6, .v (.int .i64 (j:Int))),(1, .sl (F j).length (fj (F j)))]) (fun j=> []) [] [] (fun j=> L.length - j) 0 ?_ (by
  refine Le.mkJ [] [] rfl ?_ ?_ trivial trivial ?_
  ·exact ⟨(iP rfl),(cr ag),(iY (by rw [hF]) (by rw [hF])),trivial⟩
  ·exact ⟨(cm rfl rfl rfl),trivial⟩
  kernel_rfl) ?_
 ·omega
 intro j hj
 refine aU fun K6 hK6=> ?_
 refine am (aX rfl (bb rfl rfl rfl (fb rfl rfl rfl (ai (bp _ aa rfl) (ai (bn _ _ rfl rfl rfl) (aj (aR rfl (fun hc34=> ?_) (fun hc34=> ?_))))))))
 ·skip
  refine br (hK6 _ ?_)
  clear hK6;try clear K6
  refine aq (ay (an (bb rfl rfl rfl (fb rfl rfl rfl (aX rfl (ai (bo _ _ aa rfl rfl _ rfl ab (by (simp only [aL,bf,bh,bw,bv,bH,bz];omega)) ag) ?_))))))
  refine ai (cg _ aa rfl (by exact cO _ _ ab) rfl) ?_
  refine eV rfl (ai (aI aa al (h j ab) rfl rfl) ?_)
  refine kE rfl (dY (an (aX rfl (ai (aZ _ _ rfl rfl (bF ab)) ?_))))
  refine be rfl (aJ (⟨j+1,?_,?_,?_⟩))
  ·omega
  ·skip
   refine Le.mkJ [] [] rfl ?_ ?_ trivial trivial ?_
   ·exact ⟨(iP rfl),(cr ag),(iY ag ag),trivial⟩
   ·exact ⟨(cm rfl rfl rfl),trivial⟩
   kernel_rfl
  omega
 obtain rfl:j=L.length:=by omega
 refine bD (id (hK4 _ ?_))
 clear hK4;try clear K4
 exact am (eV rfl (kE rfl (aj (aG (pY rfl rfl)))))
def fW (fs:List (List Tx→List Tx)) (l:List Tx):List Tx:=fs.foldl (fun l f=> f l) l
theorem kM {fs:List (List Tx→List Tx)} {l:List Tx} {j:Nat} (h:j < fs.length):fW (fs.take (j+1)) l=fs.getD j id (fW (fs.take j) l):=by
 rw [List.take_succ_eq_append_getElem h]
 unfold fW
 rw [List.foldl_append,List.getD_eq_getElem?_getD,List.getElem?_eq_getElem h];rfl
abbrev yS (nm:List Tx) (d:Nd) (f:List Tx→List Tx):Prop:= ∀ l,GN nm l→Spec Tryz.prog 167 (ba [pm d, .sl l.length (fj l)] []) (aP (.sl (f l).length (fj (f l))) [])∧GN nm (f l)
section
variable {nm:List Tx} (hnm:nm.length≤16) {L:List Nd} {fs:List (List Tx→List Tx)} (hfs:fs.length=L.length) (h: ∀ j,j < L.length→yS nm (lh L j) (fs.getD j id))
theorem qq (hfs:fs.length=L.length) (h: ∀ j,j < L.length→yS nm (lh L j) (fs.getD j id)) {l:List Tx} (hl:GN nm l): ∀ j,j≤L.length→GN nm (fW (fs.take j) l)
 | 0,_=> by simpa [fW] using hl
 | j+1,hj=> by
  rw [kM ab]
  exact (h j ab _ (qq hfs h hl j ab)).2
theorem cH (hnm:nm.length≤16) (hfs:fs.length=L.length) (h: ∀ j,j < L.length→yS nm (lh L j) (fs.getD j id)) (k:Nat) (hk:k≠1∧k≠14) (n:Nat) (s:Tx):yS nm (nd k n s L) (fW fs):=fun l hl=> by
 have hg:=qq hfs h hl
 have he:fW (fs.take L.length) l=fW fs l:=by rw [← hfs,List.take_length]
 have hw:=ul k hk n s L l (by have:=hl.len;omega) (fun j=> fW (fs.take j) l) rfl fun j hj=> by
  rw [show fW (fs.take (j+1)) l=_ from kM ab]
  exact (h j hj _ (hg j ab)).1
 rw [he] at hw
 exact ⟨hw,he ▸ hg _ (Nat.le_refl _)⟩
theorem yu (hnm:nm.length≤16) (hfs:fs.length=L.length) (h: ∀ j,j < L.length→yS nm (lh L j) (fs.getD j id)) (n:Nat) {i:Nat} (hi:i < nm.length):yS nm (nd 1 n (nm.getD i []) L) (fun l=> fW fs (iO (nm.getD i []) l)):=fun l hl=> by
 have hg:=qq hfs h (hl.add hi)
 have he:fW (fs.take L.length) (iO (nm.getD i []) l)=fW fs (iO (nm.getD i []) l):=by rw [← hfs,List.take_length]
 have hkid: ∀ j,j < L.length→_:=fun j hj=> (h j hj _ (hg j ab)).1
 have hll:=hl.len
 show Spec _ _ _ (aP (.sl (fW fs (iO (nm.getD i []) l)).length (fj (fW fs (iO (nm.getD i []) l)))) [])∧GN nm (fW fs (iO (nm.getD i []) l))
 rw [← he]
 refine ⟨?_,hg _ (Nat.le_refl _)⟩
 by_cases hs:nm.getD i []∈l
 ·exact ve n _ L l hs ab (fun j=> fW (fs.take j) (iO (nm.getD i []) l)) (by show iO _ l=l;unfold iO;rw [if_pos hs]) fun j hj=> by
   rw [show fW (fs.take (j+1)) (iO (nm.getD i []) l)=_ from kM ab]
   exact hkid j hj
 exact uM n _ L l hs ab (fun j=> fW (fs.take j) (iO (nm.getD i []) l)) (by show iO _ l=_;unfold iO;rw [if_neg hs]) fun j hj=> by
  rw [show fW (fs.take (j+1)) (iO (nm.getD i []) l)=_ from kM ab]
  exact hkid j hj
end
theorem yD {nm:List Tx} (hnm:nm.length≤16) {i:Nat} (hi:i < nm.length):yS nm (nd 14 0 (nm.getD i []) []) (iO (nm.getD i [])):=fun l hl=> by
 have hll:=hl.len
 refine ⟨?_,hl.add hi⟩
 by_cases hs:nm.getD i []∈l
 ·exact sI 0 _ [] l hs ab (fun _=> iO (nm.getD i []) l) (by show iO _ l=l;unfold iO;rw [if_pos hs]) fun j hj=> by simp at hj
 exact tG 0 _ [] l hs ab (fun _=> iO (nm.getD i []) l) (by show iO _ l=_;unfold iO;rw [if_neg hs]) fun j hj=> by simp at hj
section
variable {nm:List Tx}
abbrev BJ (nm:List Tx) (L:List Nd) (fs:List (List Tx→List Tx)):Prop:= ∀ j,j < L.length→yS nm (lh L j) (fs.getD j id)
theorem sc:BJ nm [] []:=fun j hj=> by simp at hj
theorem qW {d:Nd} {f:List Tx→List Tx} {L:List Nd} {fs:List (List Tx→List Tx)} (h:yS nm d f) (h':BJ nm L fs):BJ nm (d::L) (f::fs):=fun j hj=> by
 cases j with
 | zero=> exact h
 | succ j=> exact h' j (by simpa using hj)
theorem dA (hnm:nm.length≤16): ∀ e:Ex,hY nm.length e→yS nm (eL nm e) (tf nm e)
 | .int _,_=> cH hnm rfl sc 12 ab _ _
 | .bool _,_=> cH hnm rfl sc 13 ab _ _
 | .name _,_=> cH hnm rfl sc 15 ab _ _
 | .var i,h=> yD hnm h
 | .draw e,h=> cH hnm rfl (qW (dA hnm e h) sc) 16 ab _ _
 | .neg e,h=> cH hnm rfl (qW (dA hnm e h) sc) 17 ab _ _
 | .not e,h=> cH hnm rfl (qW (dA hnm e h) sc) 17 ab _ _
 | .bin _ a b,h=> cH hnm rfl (qW (dA hnm a h.1) (qW (dA hnm b h.2) sc)) 18 ab _ _
 | .and a b,h=> cH hnm rfl (qW (dA hnm a h.1) (qW (dA hnm b h.2) sc)) 18 ab _ _
 | .or a b,h=> cH hnm rfl (qW (dA hnm a h.1) (qW (dA hnm b h.2) sc)) 18 ab _ _
def Gv (nm:List Tx):Bk→List (List Tx→List Tx)
 | .nil=> []
 | .cons s b=> Mr nm s::Gv nm b
theorem xf (nm:List Tx): ∀ b:Bk,(Gv nm b).length=(jc nm b).length
 | .nil=> by simp [Gv,jc]
 | .cons s b=> by simp [Gv,jc,xf nm b]
theorem vp (nm:List Tx): ∀ (b:Bk) (l:List Tx),fW (Gv nm b) l=Dy nm b l
 | .nil,l=> rfl
 | .cons s b,l=> by rw [Dy,← vp nm b];rfl
theorem lZ (hnm:nm.length≤16) {b:Bk} (h:BJ nm (jc nm b) (Gv nm b)):yS nm (iX nm b) (Dy nm b):=by
 have:=cH hnm (xf nm b) h 11 ab 0 []
 rwa [show fW (Gv nm b)=Dy nm b from funext (vp nm b)] at this
mutual
theorem Cq (hnm:nm.length≤16): ∀ s:Sm,gI nm.length s→yS nm (Gi nm s) (Mr nm s)
 | .assign i e,h=> by rw [gI] at h;exact yu hnm rfl (qW (dA hnm e h.2) sc) 0 h.1
 | .send t k a b,h=> by rw [gI] at h;exact cH hnm rfl (qW (dA hnm t h.2.1) (qW (dA hnm a h.2.2.1) (qW (dA hnm b h.2.2.2) sc))) 4 ab _ _
 | .timer _,_=> cH hnm rfl sc 5 ab _ _
 | .cancel _,_=> cH hnm rfl sc 6 ab _ _
 | .sync,_=> cH hnm rfl sc 7 ab _ _
 | .stop,_=> cH hnm rfl sc 10 ab _ _
 | .reply a b,h=> by rw [gI] at h;exact cH hnm rfl (qW (dA hnm a h.1) (qW (dA hnm b h.2) sc)) 8 ab _ _
 | .fail e,h=> by rw [gI] at h;exact cH hnm rfl (qW (dA hnm e h) sc) 9 ab _ _
 | .loop c b,h=> by rw [gI] at h;exact cH hnm rfl (qW (dA hnm c h.1) (qW (lZ hnm (lL hnm b h.2)) sc)) 3 ab _ _
 | .ite c a b,h=> by rw [gI] at h;exact cH hnm rfl (qW (dA hnm c h.1) (qW (lZ hnm (lL hnm a h.2.1)) (qW (lZ hnm (lL hnm b h.2.2)) sc))) 2 ab _ _
theorem lL (hnm:nm.length≤16): ∀ b:Bk,lj nm.length b→BJ nm (jc nm b) (Gv nm b)
 | .nil,_=> sc
 | .cons s b,h=> by rw [lj] at h;exact qW (Cq hnm s h.1) (lL hnm b h.2)
end
theorem BB (hnm:nm.length≤16) (b:Bk) (h:lj nm.length b):yS nm (iX nm b) (Dy nm b):=lZ hnm (lL hnm b h)
end

theorem mL {l:List Tx} (h:l.Nodup) {i j:Nat} (hi:i < l.length) (hj:j < l.length) (e:l.getD i []=l.getD j []):i=j:=by
 rw [List.getD_eq_getElem?_getD,List.getD_eq_getElem?_getD,List.getElem?_eq_getElem hi,List.getElem?_eq_getElem hj] at e
 have h:=List.pairwise_iff_getElem.1 h
 rcases Nat.lt_trichotomy i j with hlt | rfl | hlt
 ·exact absurd (Option.some.inj (by simpa using e)) (h i j hi hj hlt)
 ·rfl
 exact absurd (Option.some.inj (by simpa using e)).symm (h j i hj hi hlt)
theorem sa {a b:List Tx} {k:Nat} (h:k < a.length):a.getD k []=(a++b).getD k []:=by
 rw [List.getD_eq_getElem?_getD,List.getD_eq_getElem?_getD,List.getElem?_append_left h]
theorem getD_right {a b:List Tx} {k:Nat}:b.getD k []=(a++b).getD (a.length+k) []:=by
 rw [List.getD_eq_getElem?_getD,List.getD_eq_getElem?_getD,List.getElem?_append_right ab,Nat.add_sub_cancel_left]
theorem my (d v:List Tx) (on:List PV) (no:Nat) (hn:(d++v).Nodup) (hl:(d++v).length≤1000) (i:Nat) (hi:i < (d++v).length):
  Spec Tryz.prog 121 (ba [.agg [.sl d.length (fj d), .sl v.length (fj v), .sl no on], .v (bt ((d++v).getD i []))] []) (aP (.v (.int .i64 (i:Int))) []):=by
 have hl2:(d++v).length=d.length+v.length:=List.length_append
 refine Spec.ofN Tryz.func121 rfl Tryz.ntmps121 rfl ?_
 refine am (ai (aQ (2,0) _ rfl rfl) (be rfl (aj (aU fun K2 hK2=> ?_))))
 refine am (be rfl (aj (ay ?_)))
 refine bu (α:=Nat) (fun k=> k≤d.length∧k≤i) 41 [(1,_),(2,_)] [((2,0),_)] (fun k=> [(5, .v (.int .i64 (k:Int)))]) (fun k=> []) [] [] (fun k=> d.length - k) 0 ?_ (by
  refine Le.mkJ [] [] rfl ?_ ?_ trivial trivial ?_
  ·exact ⟨(iV rfl),(iP rfl),(cr ag),trivial⟩
  ·exact ⟨(cm rfl rfl rfl),trivial⟩
  kernel_rfl) ?_
 ·exact ⟨Nat.zero_le _,Nat.zero_le _⟩
 intro k hk
 obtain ⟨hk,hki⟩:=hk
 refine aU fun K4 hK4=> ?_
 refine am (aX rfl (bb rfl rfl rfl (fb rfl rfl rfl (ai (bp _ aa rfl) (ai (bn _ _ rfl rfl rfl) (aj (aR rfl (fun hc11=> ?_) (fun hc11=> ?_))))))))
 ·skip
  refine br (hK4 _ ?_)
  clear hK4;try clear K4
  refine aq (ay (am (bb rfl rfl rfl (fb rfl rfl rfl (aX rfl (ai (bo _ _ aa rfl rfl _ rfl ab (by (simp only [aL,bf,bh,bw,bv,bH,bz,List.length_map];omega)) (by exact Nat.mul_one _)) ?_))))))
  refine ai (bO _ aa rfl (by exact jP _ _ ab) rfl) ?_
  refine eh rfl (ai (aV _ _ Tryz.underlying9 rfl rfl rfl) (aj (aR rfl (fun hc20=> ?_) (fun hc20=> ?_))))
  ·skip
   have he:k=i:=mL hn ab hi ((sa ab).symm.trans hc20)
   refine am (aX rfl (be rfl (aj (aG (rx rfl rfl ?_)))))
   rw [he]
  have he:k≠i:=fun e=> hc20 ((sa ab).trans (by rw [e]))
  refine cw (an (aX rfl (ai (aZ _ _ rfl rfl (bF ab)) ?_)))
  refine be rfl (aJ (⟨k+1,?_,?_,?_⟩))
  ·exact ⟨by omega,by omega⟩
  ·skip
   refine Le.mkJ [] [] rfl ?_ ?_ trivial trivial ?_
   ·exact ⟨(iV rfl),(iP rfl),(cr ag),trivial⟩
   ·exact ⟨(cm rfl rfl rfl),trivial⟩
   kernel_rfl
  omega
 refine bD (id (hK2 _ ?_))
 clear hK2;try clear K2
 refine aq (am (be rfl (aj (ay ?_))))
 refine bu (α:=Nat) (fun q=> q≤v.length∧d.length+q≤i) 41 [(1,_),(2,_)] [((2,0),_)] (fun q=> [(6, .v (.int .i64 (q:Int)))]) (fun q=> []) [] [] (fun q=> v.length - q) 0 ?_ (by
  refine Le.mkJ [] [] rfl ?_ ?_ trivial trivial ?_
  ·exact ⟨(iV rfl),(iP rfl),(cr ag),trivial⟩
  ·exact ⟨(cm rfl rfl rfl),trivial⟩
  kernel_rfl) ?_
 ·exact ⟨Nat.zero_le _,by omega⟩
 intro q hq
 obtain ⟨hq,hqi⟩:=hq
 refine aU fun K11 hK11=> ?_
 refine am (aX rfl (bb rfl rfl rfl (fb rfl rfl rfl (ai (bp _ aa rfl) (ai (bn _ _ rfl rfl rfl) (aj (aR rfl (fun hc26=> ?_) (fun hc26=> ?_))))))))
 ·skip
  refine br (hK11 _ ?_)
  clear hK11;try clear K11
  refine aq (ay (am (bb rfl rfl rfl (fb rfl rfl rfl (aX rfl (ai (bo _ _ aa rfl rfl _ rfl ab (by (simp only [aL,bf,bh,bw,bv,bH,bz,List.length_map];omega)) (by exact Nat.mul_one _)) ?_))))))
  refine ai (bO _ aa rfl (by exact jP _ _ ab) rfl) ?_
  refine eh rfl (ai (aV _ _ Tryz.underlying9 rfl rfl rfl) (aj (aR rfl (fun hc35=> ?_) (fun hc35=> ?_))))
  ·skip
   have he:d.length+q=i:=mL hn ab hi (getD_right.symm.trans hc35)
   refine am (bb rfl rfl rfl (fb rfl rfl rfl (ai (bp _ aa rfl) (aX rfl (ai (aZ _ _ rfl rfl (bF ab)) ?_)))))
   refine be rfl (aj (aG (rx rfl rfl ?_)))
   omega
  have he:d.length+q≠i:=fun e=> hc35 (getD_right.trans (by rw [e]))
  refine cw (an (aX rfl (ai (aZ _ _ rfl rfl (bF ab)) ?_)))
  refine be rfl (aJ (⟨q+1,?_,?_,?_⟩))
  ·exact ⟨by omega,by omega⟩
  ·skip
   refine Le.mkJ [] [] rfl ?_ ?_ trivial trivial ?_
   ·exact ⟨(iV rfl),(iP rfl),(cr ag),trivial⟩
   ·exact ⟨(cm rfl rfl rfl),trivial⟩
   kernel_rfl
  omega
 exact absurd hqi ab
theorem CO (ons:List (Nat×Bk)) (nm:List Tx) (k:Nat) (h:k < ons.length):oG (ons.map fun p=> (p.1,iX nm p.2)) k=((ons[k]).1,iX nm (ons[k]).2):=by
 rw [oE _ _ (by simpa using h),List.getElem_map]
theorem ud (l:List Hd) (k:Nat) (h:k < l.length):PV.ups (((mj l).drop (k*5+1)).take 4)=[.v (.int .i64 ((oG l k).2.k:Int)), .v (.int .i64 ((oG l k).2.n:Int)), .v (bt (oG l k).2.s), .sl (oG l k).2.kn (oG l k).2.kids]:=by
 have e:=mt wF 5 (fun _=> rfl) l k h
 have:((mj l).drop (k*5+1)).take 4=(((l.flatMap wF).drop (k*5)).take 5).drop 1:=by
  rw [List.drop_take,List.drop_drop];rfl
 rw [this,e,oE l k h];rfl
theorem qU (d v:List Tx) (ons:List (Nat×Bk)) (hn:(d++v).Nodup) (hl:(d++v).length≤16) (ho: ∀ p∈ons,lj (d++v).length p.2) (hw: ∀ p∈ons,qF p.2=true) (hc:ons.length≤1000):
  Spec Tryz.prog 97 (ba [JG d v (ons.map fun p=> (p.1,iX (d++v) p.2))] []) (aP (.v (.int .i64 0)) []):=by
 obtain ⟨H,hH⟩: ∃ H,H=ons.map fun p=> (p.1,iX (d++v) p.2):=⟨_,rfl⟩
 have hHl:H.length=ons.length:=by rw [hH,List.length_map]
 rw [← hH]
 have hHk: ∀ k (h:k < ons.length),oG H k=((ons[k]).1,iX (d++v) (ons[k]).2):=fun k h=> by rw [hH];exact CO ons _ k h
 clear hH
 refine Spec.ofN Tryz.func97 rfl Tryz.ntmps97 rfl ?_
 refine am (ai (aQ (1,0) _ rfl rfl) (be rfl (aj (aU fun K2 hK2=> ?_))))
 refine am (be rfl (aj (ay ?_)))
 refine bu (α:=Nat) (fun k=> k≤H.length) 43 [(1,_)] [((1,0),_)] (fun k=> [(3, .v (.int .i64 (k:Int)))]) (fun k=> []) [] [] (fun k=> H.length - k) 0 ?_ (by
  refine Le.mkJ [] [] rfl ?_ ?_ trivial trivial ?_
  ·exact ⟨(iP rfl),(cr ag),trivial⟩
  ·exact ⟨(cm rfl rfl rfl),trivial⟩
  kernel_rfl) ?_
 ·omega
 intro k hk
 refine aU fun K4 hK4=> ?_
 refine am (aX rfl (bb rfl rfl rfl (fb rfl rfl rfl (ai (bp _ aa rfl) (ai (bn _ _ rfl rfl rfl) (aj (aR rfl (fun hc11=> ?_) (fun hc11=> ?_))))))))
 ·skip
  have hk2:k < ons.length:=by omega
  obtain ⟨b,hb⟩: ∃ b,b=(ons[k]).2:=⟨_,rfl⟩
  have hkH:=hHk k hk2
  rw [← hb] at hkH
  have hwb:=FO (d++v) b (hb ▸ hw _ (List.getElem_mem hk2))
  obtain ⟨hnb,hng⟩:=BB hl b (hb ▸ ho _ (List.getElem_mem hk2)) [] GN.nil
  have hbody:=ud H k ab
  rw [hkH] at hbody
  generalize Dy (d++v) b []=M at hnb hng
  have hMl:=hng.len
  refine br (hK4 _ ?_)
  clear hK4;try clear K4
  refine aU fun K6 hK6=> ?_
  refine ay (am (bb rfl rfl rfl (fb rfl rfl rfl (aX rfl (ai (bo _ _ aa rfl rfl _ rfl ab (by (simp only [aL,bf,bh,bw,bv,bH,bz,List.length_map];omega)) ag) ?_)))))
  refine ai (cU _ aa rfl rfl) (ai (cg _ aa rfl (by exact hbody) rfl) ?_)
  refine ai (aI aa al (hwb) rfl rfl) ?_
  refine cp rfl (aj (aq (am (cM rfl (ai (co (r:=false) _ rfl rfl) (aj (aW rfl rfl (aS (aq ?_)))))))))
  refine aN (σ':=aE 43 [(1,_),(3,_)] [((1,0),_)] [] []) kp ?_
  refine an (bb rfl rfl rfl (fb rfl rfl rfl (aX rfl (ai (bo _ _ aa rfl rfl _ rfl ab (by (simp only [aL,bf,bh,bw,bv,bH,bz,List.length_map];omega)) ag) ?_))))
  refine ai (cU _ aa rfl rfl) (ai (cg _ aa rfl (by exact hbody) rfl) ?_)
  refine ai (aI aa al (hnb) rfl rfl) ?_
  refine kE rfl (aj (am (be rfl (aj (ay ?_)))))
  refine bu (α:=Nat) (fun q=> q≤M.length) 43 [(1,_),(3,_),(5,_)] [((1,0),_)] (fun q=> [(6, .v (.int .i64 (q:Int)))]) (fun q=> []) [] [] (fun q=> M.length - q) 0 ?_ (by
   refine Le.mkJ [] [] rfl ?_ ?_ trivial trivial ?_
   ·exact ⟨(iP rfl),(iV rfl),(iS rfl),(cr ag),trivial⟩
   ·exact ⟨(cm rfl rfl rfl),trivial⟩
   kernel_rfl) ?_
  ·omega
  intro q hq
  refine aU fun K12 hK12=> ?_
  refine am (aX rfl (eV rfl (ai (bp _ aa rfl) (ai (bn _ _ rfl rfl rfl) (aj (aR rfl (fun hc33=> ?_) (fun hc33=> ?_)))))))
  ·skip
   obtain ⟨i,hi,hiq⟩: ∃ i,i < (d++v).length∧M.getD q []=(d++v).getD i []:=by
    have hm:=hng.2 _ (kv (show q < M.length by omega))
    obtain ⟨i,hi,he⟩:=List.getElem_of_mem hm
    exact ⟨i,hi,by rw [List.getD_eq_getElem?_getD (l:=d++v),List.getElem?_eq_getElem hi,← he];rfl⟩
   have hix:=my d v (mj H) H.length hn ab i hi
   rw [← hiq] at hix
   refine br (hK12 _ ?_)
   clear hK12;try clear K12
   refine aq (ay (aq ?_))
   refine aN (σ':=aE 43 [(1,_),(3,_),(5,_),(6,_)] [((1,0),_)] [] []) kp ?_
   refine bK 7 [36,37,38,39,40,41,42] [] ae ae rfl (aK rfl) (rfl:_=[_,_,_,_,_,_,_]) (rfl:_=[]) ?_
   refine ap (_,[]) (fun τ=> az _ aa rfl rfl rfl rfl) ?_
   refine fB rfl ?_
   refine ap (_,[]) (fun τ=> aH _ mm) ?_
   refine fH rfl ?_
   refine ap (_,[]) (fun τ=> aH _ ek) ?_
   refine fQ rfl ?_
   refine ap (_,[]) (fun τ=> bo _ _ aa rfl rfl _ rfl ab (by (simp only [aL,bf,bh,bw,bv,bH,bz,List.length_map];omega)) (by exact Nat.mul_one _)) ?_
   refine fV rfl ?_
   refine ap (_,[]) (fun τ=> bO _ aa rfl (by exact jP _ _ ab) rfl) ?_
   refine gd rfl ?_
   refine ap (_,[]) (fun τ=> (aI aa al (hix) rfl rfl)) ?_
   refine gV rfl ?_
   refine ap (_,[]) (fun τ=> bn (r:=false) _ _ rfl rfl (decide_eq_false ab)) ?_
   refine iG rfl (bl ⟨rfl,?_⟩)
   refine aj (aW rfl rfl (cw (an (aX rfl (ai (aZ _ _ rfl rfl (bF ab)) ?_)))))
   refine be rfl (aJ (⟨q+1,?_,?_,?_⟩))
   ·omega
   ·skip
    refine Le.mkJ [] [] rfl ?_ ?_ trivial trivial ?_
    ·exact ⟨(iP rfl),(iV rfl),(iS rfl),(cr ag),trivial⟩
    ·exact ⟨(cm rfl rfl rfl),trivial⟩
    kernel_rfl
   omega
  refine bD (id (hK6 _ ?_))
  clear hK6;try clear K6
  refine an (aX rfl (ai (aZ _ _ rfl rfl (bF ab)) ?_))
  refine be rfl (aJ (⟨k+1,?_,?_,?_⟩))
  ·omega
  ·skip
   refine Le.mkJ [] [] rfl ?_ ?_ trivial trivial ?_
   ·exact ⟨(iP rfl),(cr ag),trivial⟩
   ·exact ⟨(cm rfl rfl rfl),trivial⟩
   kernel_rfl
  omega
 refine bD (id (hK2 _ ?_))
 clear hK2;try clear K2
 exact am (be rfl (aj (aG (fq rfl rfl))))
end Go.Proofs.YtmjnackchaahbaaGreat
