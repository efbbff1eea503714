/- Part 11 of the texts that the walk leans on: the machine, the walks, the plain laws. -/
import Derived.Test.YtmjnackchaahbaaGreatNcZ10
set_option linter.unusedSimpArgs false
set_option linter.unusedVariables false
namespace Go.Proofs.YtmjnackchaahbaaGreat
open Go.RowKit

def lf (l:List Nd) (j:Nat):Nd:=l.getD j ⟨0,0,[],0,[]⟩
theorem HG (l:List Nd) (k:Nat) (h:k < l.length):lf l k=l[k]:=by simp [lf,h]
theorem cO (l:List Nd) (k:Nat) (h:k < l.length):PV.ups (((mE l).drop (k*4)).take 4)=[.v (.int .i64 ((lf l k).k:Int)), .v (.int .i64 ((lf l k).n:Int)), .v (bt (lf l k).s), .sl (lf l k).kn (lf l k).kids]:=by
 rw [HG l k h,show ((mE l).drop (k*4)).take 4=l[k].row from ms Nd.row 4 (fun _=> rfl) l k h];rfl
theorem gD (l:List Tx) (n:Nat) (hn:l.length=n) (h1:n≤1000) (t:Tx):Spec Tryz.prog 204 (ba [.sl n (fk l), .v (bt t)] []) (aP (.v (.bool (decide (t∈l)))) []):=by
 refine Spec.ofN Tryz.func204 rfl Tryz.ntmps204 rfl ?_
 refine am (cq rfl (aj (aU fun K2 hK2=> ?_)))
 refine am (be rfl (aj (ay ?_)))
 refine bs (α:=Nat) (fun k=> k≤n∧t∉l.take k) 18 [(0,_),(1,_)] [] (fun k=> [(5, .v (.int .i64 (k:Int)))]) (fun k=> []) [] [] (fun k=> n - k) 0 ?_ (by
  refine Le.mkJ [] [] rfl ?_ ?_ trivial trivial ?_
  ·exact ⟨(iS rfl),(iV rfl),(cj ag),trivial⟩
  ·exact trivial
  kernel_rfl) ?_
 ·exact ⟨Nat.zero_le _,by simp⟩
 intro k hk
 obtain ⟨hk,hnt⟩:=hk
 refine aU fun K4 hK4=> ?_
 refine am (aX rfl (eQ rfl (ai (bo _ aa rfl) (ai (bm _ _ rfl rfl rfl) (aj (aR rfl (fun hc9=> ?_) (fun hc9=> ?_)))))))
 ·skip
  refine bq (hK4 _ ?_)
  clear hK4;try clear K4
  refine aq (ay (am (eQ rfl (aX rfl (ai (bn _ _ aa rfl rfl _ rfl ab (by (simp only [aN,bg,bj,bv,bu,bG,bw];omega)) (by exact Nat.mul_one _)) ?_)))))
  refine ai (bQ _ aa rfl (by exact jP _ _ ab) rfl) ?_
  refine eh rfl (ai (aV _ _ Tryz.underlying9 rfl rfl rfl) (aj (aR rfl (fun hc17=> ?_) (fun hc17=> ?_))))
  ·skip
   refine am (cq rfl (aj (aF (rz rfl rfl ?_))))
   exact decide_eq_true (hc17 ▸ ka ab)
  refine cu (an (aX rfl (ai (aZ _ _ rfl rfl (bD ab)) ?_)))
  refine be rfl (aJ (⟨k+1,?_,?_,?_⟩))
  ·exact ⟨by omega,kJ hnt ab hc17⟩
  ·skip
   refine Le.mkJ [] [] rfl ?_ ?_ trivial trivial ?_
   ·exact ⟨(iS rfl),(iV rfl),(cj ag),trivial⟩
   ·exact trivial
   kernel_rfl
  omega
 have hall:t∉l:=by rwa [List.take_of_length_le ab] at hnt
 refine bC (id (hK2 _ ?_))
 clear hK2;try clear K2
 refine am (cq rfl (aj (aF (rz rfl rfl ?_))))
 exact decide_eq_false hall
def za:List Tx:=[[60],[60,61],[62],[62,61],[61,61],[33,61]]
theorem mO (t:Tx):Spec Tryz.prog 227 (ba [.v (bt t)] []) (aP (.v (.bool (decide (t∈za)))) []):=by
 refine Spec.ofN Tryz.func227 rfl Tryz.ntmps227 rfl ?_
 refine am (cq rfl (aj (am (ai (bh _ _ aa rfl ag (by (simp <;> rfl)) ah rfl) ?_))))
 refine eh rfl (ai (aI aa al (gD za 6 rfl ab t) rfl rfl) ?_)
 refine cq rfl (aj (aF (rz rfl rfl ?_)))
 rfl
theorem HT (n:Nat):Spec Tryz.prog 203 (ba [pi (nd 12 n [] [])] []) (aP (.v (.int .i64 1)) []):=by
 refine Spec.ofN Tryz.func203 rfl Tryz.ntmps203 rfl ?_
 refine am (ai (aQ (1,0) _ rfl rfl) (be rfl (aj (aq (am (bb rfl rfl rfl (ca rfl rfl rfl (kx rfl rfl rfl (cL rfl (aO rfl rfl ah ?_))))))))))
 refine aO rfl rfl ah ?_
 refine aO rfl rfl ah ?_
 refine ai (aC _ _ _ rfl bN) (cL rfl (aO rfl rfl ah ?_))
 refine aO rfl rfl ah ?_
 refine aO rfl rfl ah ?_
 refine ai (aC _ _ _ rfl bN) (aj (bJ rfl rfl (aq ?_)))
 refine aM (σ':=aD 80 [] [] [] []) kp ?_
 exact an (be rfl (aj (aF (fu rfl rfl))))
theorem Ha (s:Tx):Spec Tryz.prog 203 (ba [pi (nd 14 0 s [])] []) (aP (.v (.int .i64 1)) []):=by
 refine Spec.ofN Tryz.func203 rfl Tryz.ntmps203 rfl ?_
 refine am (ai (aQ (1,0) _ rfl rfl) (be rfl (aj (aq (am (bb rfl rfl rfl (ca rfl rfl rfl (gL rfl rfl rfl (cL rfl (ax rfl rfl (aE _ aa rfl rfl rfl) ?_))))))))))
 refine ax rfl rfl (aG _ aa rfl rfl eo) (ax rfl rfl (bA (r:=true) _ _ rfl rfl rfl) (ai (aC _ _ _ rfl bN) (cL rfl (aO rfl rfl ah ?_))))
 refine aO rfl rfl ah ?_
 refine aO rfl rfl ah ?_
 refine ai (aC _ _ _ rfl bN) (aj (bJ rfl rfl (aq ?_)))
 refine aM (σ':=aD 80 [] [] [] []) kp ?_
 exact an (be rfl (aj (aF (fu rfl rfl))))
theorem Er (s:Tx):Spec Tryz.prog 203 (ba [pi (nd 15 0 s [])] []) (aP (.v (.int .i64 1)) []):=by
 refine Spec.ofN Tryz.func203 rfl Tryz.ntmps203 rfl ?_
 refine am (ai (aQ (1,0) _ rfl rfl) (be rfl (aj (aq (am (bb rfl rfl rfl (ca rfl rfl rfl (gL rfl rfl rfl (cL rfl (ax rfl rfl (aE _ aa rfl rfl rfl) ?_))))))))))
 refine ax rfl rfl (aG _ aa rfl rfl eo) (ax rfl rfl (bA (r:=false) _ _ rfl rfl rfl) (ai (aC _ _ _ rfl bN) (cL rfl (ax rfl rfl (aE _ aa rfl rfl rfl) (ax rfl rfl (aG _ aa rfl rfl eo) (ax rfl rfl (bA (r:=true) _ _ rfl rfl rfl) (ai (aC _ _ _ rfl bN) (aj (bJ rfl rfl (aq ?_))))))))))
 refine aM (σ':=aD 80 [] [] [] []) kp ?_
 exact an (be rfl (aj (aF (fu rfl rfl))))
theorem EI (n:Nat):Spec Tryz.prog 203 (ba [pi (nd 13 n [] [])] []) (aP (.v (.int .i64 2)) []):=by
 refine Spec.ofN Tryz.func203 rfl Tryz.ntmps203 rfl ?_
 refine am (ai (aQ (1,0) _ rfl rfl) (be rfl (aj (aq (am (bb rfl rfl rfl (ca rfl rfl rfl (gL rfl rfl rfl (cL rfl (ax rfl rfl (aE _ aa rfl rfl rfl) ?_))))))))))
 refine ax rfl rfl (aG _ aa rfl rfl eo) (ax rfl rfl (bA (r:=false) _ _ rfl rfl rfl) (ai (aC _ _ _ rfl bN) (cL rfl (ax rfl rfl (aE _ aa rfl rfl rfl) (ax rfl rfl (aG _ aa rfl rfl eo) (ax rfl rfl (bA (r:=false) _ _ rfl rfl rfl) (ai (aC _ _ _ rfl bN) (aj (aW rfl rfl (aS ?_))))))))))
 refine aq (aq ?_)
 refine aM (σ':=aD 80 [(1,_)] [((1,0),_)] [] []) kp ?_
 exact an (bb rfl rfl rfl (ca rfl rfl rfl (kx rfl rfl rfl (aj (bJ rfl rfl (am (be rfl (aj (aF (fu rfl rfl))))))))))
theorem EH (L:List Nd) (hL:L.length≤3) (t:Nat→Nat) (ht: ∀ j,t j≤2) (h: ∀ j,j < L.length→Spec Tryz.prog 203 (ba [pi (lf L j)] []) (aP (.v (.int .i64 (t j:Int))) [])) (r:Nat) (hr1:(∀ j,j < L.length→t j=1)→r=1) (hr0: ∀ j,j < L.length→t j≠1→r=0):
  Spec Tryz.prog 203 (ba [.agg [.v (.int .i64 16), .v (.int .i64 0), .v (bt []), .sl L.length (mE L)]] []) (aP (.v (.int .i64 (r:Int))) []):=by
 refine Spec.ofN Tryz.func203 rfl Tryz.ntmps203 rfl ?_
 refine am (ai (aQ (1,0) _ rfl rfl) (be rfl (aj (aq (am (bb rfl rfl rfl (ca rfl rfl rfl (gL rfl rfl rfl (cL rfl (ax rfl rfl (aE _ aa rfl rfl rfl) ?_))))))))))
 refine ax rfl rfl (aG _ aa rfl rfl eo) (ax rfl rfl (bA (r:=false) _ _ rfl rfl rfl) (ai (aC _ _ _ rfl bN) (cL rfl (ax rfl rfl (aE _ aa rfl rfl rfl) (ax rfl rfl (aG _ aa rfl rfl eo) (ax rfl rfl (bA (r:=false) _ _ rfl rfl rfl) (ai (aC _ _ _ rfl bN) (aj (aW rfl rfl (aS ?_))))))))))
 refine aq (aq ?_)
 refine aM (σ':=aD 80 [(1,_)] [((1,0),_)] [] []) kp ?_
 refine an (bb rfl rfl rfl (ca rfl rfl rfl (gL rfl rfl rfl (aj (aW rfl rfl (aS (aq (am (bb rfl rfl rfl (ca rfl rfl rfl ?_))))))))))
 refine ai (bU (r:=false) _ _ rfl rfl rfl) (cL rfl (aO rfl rfl ah ?_))
 refine aO rfl rfl ah ?_
 refine aO rfl rfl ah ?_
 refine ai (aC _ _ _ rfl bN) (cL rfl (aO rfl rfl ah ?_))
 refine aO rfl rfl ah ?_
 refine aO rfl rfl ah ?_
 refine ai (aC _ _ _ rfl bN) (aj (aW rfl rfl (aS (aq ?_))))
 refine aM (σ':=aD 80 [(1,_)] [((1,0),_)] [] []) kp ?_
 refine an (be rfl (aj (am (be rfl (aj (aq (am (bb rfl rfl rfl (ca rfl rfl rfl (gL rfl rfl rfl ?_))))))))))
 refine cL rfl (aO rfl rfl ah ?_)
 refine aO rfl rfl ah ?_
 refine aO rfl rfl ah ?_
 refine ai (aC _ _ _ rfl bN) (cL rfl (ax rfl rfl (aE _ aa rfl rfl rfl) (ax rfl rfl (aG _ aa rfl rfl eo) (ax rfl rfl (bA (r:=false) _ _ rfl rfl rfl) (ax rfl rfl (aH _ bN) (aO rfl rfl ah ?_))))))
 refine aO rfl rfl ah ?_
 refine aO rfl rfl ah ?_
 refine aO rfl rfl ah ?_
 refine ax rfl rfl (aC _ _ _ rfl bN) (ai (aC _ _ _ rfl bN) (aj (aW rfl rfl (aS (aq (aq ?_))))))
 refine aM (σ':=aD 80 [(1,_),(3,_),(4,_)] [((1,0),_)] [] []) kp ?_
 refine an (bb rfl rfl rfl (ca rfl rfl rfl (gL rfl rfl rfl (cL rfl (aO rfl rfl ah ?_)))))
 refine aO rfl rfl ah ?_
 refine aO rfl rfl ah ?_
 refine ai (aC _ _ _ rfl bN) (aj (aW rfl rfl (aS (aU fun K14 hK14=> ?_))))
 refine am (be rfl (aj (ay ?_)))
 refine bs (α:=Nat) (fun j=> j≤L.length∧ ∀ q,q < j→t q=1) 80 [(1,_),(3,_),(4,_)] [((1,0),_)] (fun j=> [(5, .v (.int .i64 (j:Int)))]) (fun j=> []) [] [] (fun j=> L.length - j) 0 ?_ (by
  refine Le.mkJ [] [] rfl ?_ ?_ trivial trivial ?_
  ·exact ⟨(iP rfl),(iV rfl),(iV rfl),(cj ag),trivial⟩
  ·exact ⟨(cp rfl rfl rfl),trivial⟩
  kernel_rfl) ?_
 ·exact ⟨Nat.zero_le _,fun q hq=> by omega⟩
 intro j hj
 obtain ⟨hj,hall⟩:=hj
 have htj:=ht j
 refine aU fun K16 hK16=> ?_
 refine am (aX rfl (bb rfl rfl rfl (fc rfl rfl rfl (ai (bo _ aa rfl) (ai (bm _ _ rfl rfl rfl) (aj (aR rfl (fun hc67=> ?_) (fun hc67=> ?_))))))))
 ·skip
  refine bq (hK16 _ ?_)
  clear hK16;try clear K16
  refine aq (ay (am (bb rfl rfl rfl (fc rfl rfl rfl (aX rfl (ai (bn _ _ aa rfl rfl _ rfl ab (by (simp only [aN,bg,bj,bv,bu,bG,bw];omega)) ag) ?_))))))
  refine ai (cf _ aa rfl (by exact cO _ _ ab) rfl) ?_
  refine ai (aI aa al (h j ab) rfl rfl) ?_
  refine be rfl (aj (am (aX rfl (aX rfl (ai (bU _ _ rfl rfl rfl) (aj (aR rfl (fun hc78=> ?_) (fun hc78=> ?_))))))))
  ·skip
   have hr:=hr0 j ab ab
   refine aq ?_
   refine aM (σ':=aD 80 [] [] [] []) kp ?_
   refine an (be rfl (aj (aF (rB rfl rfl ?_))))
   rw [hr];rfl
  have hall1: ∀ q,q < j+1→t q=1:=fun q hq=> by
   by_cases h:q < j
   ·exact hall q h
   obtain rfl:q=j:=by omega
   omega
  refine cu ?_
  refine aM (σ':=aD 80 [(1,_),(3,_),(4,_),(5,_)] [((1,0),_)] [] []) kp ?_
  refine an (aX rfl (ai (aZ _ _ rfl rfl (bD ab)) ?_))
  refine be rfl (aJ (⟨j+1,?_,?_,?_⟩))
  ·exact ⟨by omega,hall1⟩
  ·skip
   refine Le.mkJ [] [] rfl ?_ ?_ trivial trivial ?_
   ·exact ⟨(iP rfl),(iV rfl),(iV rfl),(cj ag),trivial⟩
   ·exact ⟨(cp rfl rfl rfl),trivial⟩
   kernel_rfl
  omega
 have hr:=hr1 fun q hq=> hall q ab
 refine bC (id (hK14 _ ?_))
 clear hK14;try clear K14
 refine am (aX rfl (be rfl (aj (aF (rB rfl rfl ?_)))))
 rw [hr];rfl
theorem HY (L:List Nd) (hL:L.length≤3) (t:Nat→Nat) (ht: ∀ j,t j≤2) (h: ∀ j,j < L.length→Spec Tryz.prog 203 (ba [pi (lf L j)] []) (aP (.v (.int .i64 (t j:Int))) [])) (r:Nat) (hr1:(∀ j,j < L.length→t j=1)→r=1) (hr0: ∀ j,j < L.length→t j≠1→r=0):
  Spec Tryz.prog 203 (ba [.agg [.v (.int .i64 17), .v (.int .i64 0), .v (bt [45]), .sl L.length (mE L)]] []) (aP (.v (.int .i64 (r:Int))) []):=by
 refine Spec.ofN Tryz.func203 rfl Tryz.ntmps203 rfl ?_
 refine am (ai (aQ (1,0) _ rfl rfl) (be rfl (aj (aq (am (bb rfl rfl rfl (ca rfl rfl rfl (gL rfl rfl rfl (cL rfl (ax rfl rfl (aE _ aa rfl rfl rfl) ?_))))))))))
 refine ax rfl rfl (aG _ aa rfl rfl eo) (ax rfl rfl (bA (r:=false) _ _ rfl rfl rfl) (ai (aC _ _ _ rfl bN) (cL rfl (ax rfl rfl (aE _ aa rfl rfl rfl) (ax rfl rfl (aG _ aa rfl rfl eo) (ax rfl rfl (bA (r:=false) _ _ rfl rfl rfl) (ai (aC _ _ _ rfl bN) (aj (aW rfl rfl (aS ?_))))))))))
 refine aq (aq ?_)
 refine aM (σ':=aD 80 [(1,_)] [((1,0),_)] [] []) kp ?_
 refine an (bb rfl rfl rfl (ca rfl rfl rfl (gL rfl rfl rfl (aj (aW rfl rfl (aS (aq (am (bb rfl rfl rfl (ca rfl rfl rfl ?_))))))))))
 refine ai (bU (r:=true) _ _ rfl rfl rfl) (cL rfl (ax rfl rfl (aE _ aa rfl rfl rfl) (ax rfl rfl (aG _ aa rfl rfl eo) (ax rfl rfl (bU (r:=false) _ _ rfl rfl rfl) (ai (aC _ _ _ rfl bN) (cL rfl (aO rfl rfl ah ?_)))))))
 refine aO rfl rfl ah ?_
 refine aO rfl rfl ah ?_
 refine ai (aC _ _ _ rfl bN) (aj (aW rfl rfl (aS (aq ?_))))
 refine aM (σ':=aD 80 [(1,_)] [((1,0),_)] [] []) kp ?_
 refine an (be rfl (aj (am (be rfl (aj (aq (am (bb rfl rfl rfl (ca rfl rfl rfl (kx rfl rfl rfl ?_))))))))))
 refine cL rfl (ax rfl rfl (aE _ aa rfl rfl rfl) (ax rfl rfl (aG _ aa rfl rfl fw) (ax rfl rfl (aV (r:=false) _ _ Tryz.underlying9 rfl rfl rfl) (ai (aC _ _ _ rfl bN) (cL rfl (ax rfl rfl (aE _ aa rfl rfl rfl) (ax rfl rfl (aG _ aa rfl rfl eo) (ax rfl rfl (bA (r:=false) _ _ rfl rfl rfl) (ax rfl rfl (aH _ bN) (aO rfl rfl ah ?_))))))))))
 refine aO rfl rfl ah ?_
 refine aO rfl rfl ah ?_
 refine aO rfl rfl ah ?_
 refine ax rfl rfl (aC _ _ _ rfl bN) (ai (aC _ _ _ rfl bN) (aj (aW rfl rfl (aS (aq (aq ?_))))))
 refine aM (σ':=aD 80 [(1,_),(3,_),(4,_)] [((1,0),_)] [] []) kp ?_
 refine an (bb rfl rfl rfl (ca rfl rfl rfl (gL rfl rfl rfl (cL rfl (aO rfl rfl ah ?_)))))
 refine aO rfl rfl ah ?_
 refine aO rfl rfl ah ?_
 refine ai (aC _ _ _ rfl bN) (aj (aW rfl rfl (aS (aU fun K14 hK14=> ?_))))
 refine am (be rfl (aj (ay ?_)))
 refine bs (α:=Nat) (fun j=> j≤L.length∧ ∀ q,q < j→t q=1) 80 [(1,_),(3,_),(4,_)] [((1,0),_)] (fun j=> [(5, .v (.int .i64 (j:Int)))]) (fun j=> []) [] [] (fun j=> L.length - j) 0 ?_ (by
  refine Le.mkJ [] [] rfl ?_ ?_ trivial trivial ?_
  ·exact ⟨(iP rfl),(iV rfl),(iV rfl),(cj ag),trivial⟩
  ·exact ⟨(cp rfl rfl rfl),trivial⟩
  kernel_rfl) ?_
 ·exact ⟨Nat.zero_le _,fun q hq=> by omega⟩
 intro j hj
 obtain ⟨hj,hall⟩:=hj
 have htj:=ht j
 refine aU fun K16 hK16=> ?_
 refine am (aX rfl (bb rfl rfl rfl (fc rfl rfl rfl (ai (bo _ aa rfl) (ai (bm _ _ rfl rfl rfl) (aj (aR rfl (fun hc67=> ?_) (fun hc67=> ?_))))))))
 ·skip
  refine bq (hK16 _ ?_)
  clear hK16;try clear K16
  refine aq (ay (am (bb rfl rfl rfl (fc rfl rfl rfl (aX rfl (ai (bn _ _ aa rfl rfl _ rfl ab (by (simp only [aN,bg,bj,bv,bu,bG,bw];omega)) ag) ?_))))))
  refine ai (cf _ aa rfl (by exact cO _ _ ab) rfl) ?_
  refine ai (aI aa al (h j ab) rfl rfl) ?_
  refine be rfl (aj (am (aX rfl (aX rfl (ai (bU _ _ rfl rfl rfl) (aj (aR rfl (fun hc78=> ?_) (fun hc78=> ?_))))))))
  ·skip
   have hr:=hr0 j ab ab
   refine aq ?_
   refine aM (σ':=aD 80 [] [] [] []) kp ?_
   refine an (be rfl (aj (aF (rB rfl rfl ?_))))
   rw [hr];rfl
  have hall1: ∀ q,q < j+1→t q=1:=fun q hq=> by
   by_cases h:q < j
   ·exact hall q h
   obtain rfl:q=j:=by omega
   omega
  refine cu ?_
  refine aM (σ':=aD 80 [(1,_),(3,_),(4,_),(5,_)] [((1,0),_)] [] []) kp ?_
  refine an (aX rfl (ai (aZ _ _ rfl rfl (bD ab)) ?_))
  refine be rfl (aJ (⟨j+1,?_,?_,?_⟩))
  ·exact ⟨by omega,hall1⟩
  ·skip
   refine Le.mkJ [] [] rfl ?_ ?_ trivial trivial ?_
   ·exact ⟨(iP rfl),(iV rfl),(iV rfl),(cj ag),trivial⟩
   ·exact ⟨(cp rfl rfl rfl),trivial⟩
   kernel_rfl
  omega
 have hr:=hr1 fun q hq=> hall q ab
 refine bC (id (hK14 _ ?_))
 clear hK14;try clear K14
 refine am (aX rfl (be rfl (aj (aF (rB rfl rfl ?_)))))
 rw [hr];rfl
theorem HP (L:List Nd) (hL:L.length≤3) (t:Nat→Nat) (ht: ∀ j,t j≤2) (h: ∀ j,j < L.length→Spec Tryz.prog 203 (ba [pi (lf L j)] []) (aP (.v (.int .i64 (t j:Int))) [])) (r:Nat) (hr1:(∀ j,j < L.length→t j=2)→r=2) (hr0: ∀ j,j < L.length→t j≠2→r=0):
  Spec Tryz.prog 203 (ba [.agg [.v (.int .i64 17), .v (.int .i64 0), .v (bt [33]), .sl L.length (mE L)]] []) (aP (.v (.int .i64 (r:Int))) []):=by
 refine Spec.ofN Tryz.func203 rfl Tryz.ntmps203 rfl ?_
 refine am (ai (aQ (1,0) _ rfl rfl) (be rfl (aj (aq (am (bb rfl rfl rfl (ca rfl rfl rfl (gL rfl rfl rfl (cL rfl (ax rfl rfl (aE _ aa rfl rfl rfl) ?_))))))))))
 refine ax rfl rfl (aG _ aa rfl rfl eo) (ax rfl rfl (bA (r:=false) _ _ rfl rfl rfl) (ai (aC _ _ _ rfl bN) (cL rfl (ax rfl rfl (aE _ aa rfl rfl rfl) (ax rfl rfl (aG _ aa rfl rfl eo) (ax rfl rfl (bA (r:=false) _ _ rfl rfl rfl) (ai (aC _ _ _ rfl bN) (aj (aW rfl rfl (aS ?_))))))))))
 refine aq (aq ?_)
 refine aM (σ':=aD 80 [(1,_)] [((1,0),_)] [] []) kp ?_
 refine an (bb rfl rfl rfl (ca rfl rfl rfl (gL rfl rfl rfl (aj (aW rfl rfl (aS (aq (am (bb rfl rfl rfl (ca rfl rfl rfl ?_))))))))))
 refine ai (bU (r:=true) _ _ rfl rfl rfl) (cL rfl (ax rfl rfl (aE _ aa rfl rfl rfl) (ax rfl rfl (aG _ aa rfl rfl eo) (ax rfl rfl (bU (r:=false) _ _ rfl rfl rfl) (ai (aC _ _ _ rfl bN) (cL rfl (aO rfl rfl ah ?_)))))))
 refine aO rfl rfl ah ?_
 refine aO rfl rfl ah ?_
 refine ai (aC _ _ _ rfl bN) (aj (aW rfl rfl (aS (aq ?_))))
 refine aM (σ':=aD 80 [(1,_)] [((1,0),_)] [] []) kp ?_
 refine an (be rfl (aj (am (be rfl (aj (aq (am (bb rfl rfl rfl (ca rfl rfl rfl (kx rfl rfl rfl ?_))))))))))
 refine cL rfl (ax rfl rfl (aE _ aa rfl rfl rfl) (ax rfl rfl (aG _ aa rfl rfl fw) (ax rfl rfl (aV (r:=true) _ _ Tryz.underlying9 rfl rfl rfl) (ai (aC _ _ _ rfl bN) (cL rfl (aO rfl rfl ah ?_))))))
 refine aO rfl rfl ah ?_
 refine aO rfl rfl ah ?_
 refine aO rfl rfl ah ?_
 refine fE rfl rfl (fE rfl rfl (fE rfl rfl (fE rfl rfl (aO rfl rfl ah ?_))))
 refine ai (aC _ _ _ rfl bN) (aj (bJ rfl rfl (aq ?_)))
 refine aM (σ':=aD 80 [(1,_)] [((1,0),_)] [] []) kp ?_
 refine an (be rfl (aj (an (be rfl (aj (aq (am (bb rfl rfl rfl (ca rfl rfl rfl (gL rfl rfl rfl ?_))))))))))
 refine cL rfl (aO rfl rfl ah ?_)
 refine aO rfl rfl ah ?_
 refine aO rfl rfl ah ?_
 refine ai (aC _ _ _ rfl bN) (aj (aW rfl rfl (aS (aU fun K15 hK15=> ?_))))
 refine am (be rfl (aj (ay ?_)))
 refine bs (α:=Nat) (fun j=> j≤L.length∧ ∀ q,q < j→t q=2) 80 [(1,_),(3,_),(4,_)] [((1,0),_)] (fun j=> [(5, .v (.int .i64 (j:Int)))]) (fun j=> []) [] [] (fun j=> L.length - j) 0 ?_ (by
  refine Le.mkJ [] [] rfl ?_ ?_ trivial trivial ?_
  ·exact ⟨(iP rfl),(iV rfl),(iV rfl),(cj ag),trivial⟩
  ·exact ⟨(cp rfl rfl rfl),trivial⟩
  kernel_rfl) ?_
 ·exact ⟨Nat.zero_le _,fun q hq=> by omega⟩
 intro j hj
 obtain ⟨hj,hall⟩:=hj
 have htj:=ht j
 refine aU fun K17 hK17=> ?_
 refine am (aX rfl (bb rfl rfl rfl (fc rfl rfl rfl (ai (bo _ aa rfl) (ai (bm _ _ rfl rfl rfl) (aj (aR rfl (fun hc67=> ?_) (fun hc67=> ?_))))))))
 ·skip
  refine bq (hK17 _ ?_)
  clear hK17;try clear K17
  refine aq (ay (am (bb rfl rfl rfl (fc rfl rfl rfl (aX rfl (ai (bn _ _ aa rfl rfl _ rfl ab (by (simp only [aN,bg,bj,bv,bu,bG,bw];omega)) ag) ?_))))))
  refine ai (cf _ aa rfl (by exact cO _ _ ab) rfl) ?_
  refine ai (aI aa al (h j ab) rfl rfl) ?_
  refine be rfl (aj (am (aX rfl (aX rfl (ai (bU _ _ rfl rfl rfl) (aj (aR rfl (fun hc78=> ?_) (fun hc78=> ?_))))))))
  ·skip
   have hr:=hr0 j ab ab
   refine aq ?_
   refine aM (σ':=aD 80 [] [] [] []) kp ?_
   refine an (be rfl (aj (aF (rB rfl rfl ?_))))
   rw [hr];rfl
  have hall1: ∀ q,q < j+1→t q=2:=fun q hq=> by
   by_cases h:q < j
   ·exact hall q h
   obtain rfl:q=j:=by omega
   omega
  refine cu ?_
  refine aM (σ':=aD 80 [(1,_),(3,_),(4,_),(5,_)] [((1,0),_)] [] []) kp ?_
  refine an (aX rfl (ai (aZ _ _ rfl rfl (bD ab)) ?_))
  refine be rfl (aJ (⟨j+1,?_,?_,?_⟩))
  ·exact ⟨by omega,hall1⟩
  ·skip
   refine Le.mkJ [] [] rfl ?_ ?_ trivial trivial ?_
   ·exact ⟨(iP rfl),(iV rfl),(iV rfl),(cj ag),trivial⟩
   ·exact ⟨(cp rfl rfl rfl),trivial⟩
   kernel_rfl
  omega
 have hr:=hr1 fun q hq=> hall q ab
 refine bC (id (hK15 _ ?_))
 clear hK15;try clear K15
 refine am (aX rfl (be rfl (aj (aF (rB rfl rfl ?_)))))
 rw [hr];rfl
theorem um (s:Tx) (hs1:s∈[[38,38],[124,124]]) (hs2:s∉za) (L:List Nd) (hL:L.length≤3) (t:Nat→Nat) (ht: ∀ j,t j≤2) (h: ∀ j,j < L.length→Spec Tryz.prog 203 (ba [pi (lf L j)] []) (aP (.v (.int .i64 (t j:Int))) [])) (r:Nat) (hr1:(∀ j,j < L.length→t j=2)→r=2) (hr0: ∀ j,j < L.length→t j≠2→r=0):
  Spec Tryz.prog 203 (ba [.agg [.v (.int .i64 18), .v (.int .i64 0), .v (bt s), .sl L.length (mE L)]] []) (aP (.v (.int .i64 (r:Int))) []):=by
 refine Spec.ofN Tryz.func203 rfl Tryz.ntmps203 rfl ?_
 refine am (ai (aQ (1,0) _ rfl rfl) (be rfl (aj (aq (am (bb rfl rfl rfl (ca rfl rfl rfl (gL rfl rfl rfl (cL rfl (ax rfl rfl (aE _ aa rfl rfl rfl) ?_))))))))))
 refine ax rfl rfl (aG _ aa rfl rfl eo) (ax rfl rfl (bA (r:=false) _ _ rfl rfl rfl) (ai (aC _ _ _ rfl bN) (cL rfl (ax rfl rfl (aE _ aa rfl rfl rfl) (ax rfl rfl (aG _ aa rfl rfl eo) (ax rfl rfl (bA (r:=false) _ _ rfl rfl rfl) (ai (aC _ _ _ rfl bN) (aj (aW rfl rfl (aS ?_))))))))))
 refine aq (aq ?_)
 refine aM (σ':=aD 80 [(1,_)] [((1,0),_)] [] []) kp ?_
 refine an (bb rfl rfl rfl (ca rfl rfl rfl (gL rfl rfl rfl (aj (aW rfl rfl (aS (aq (am (bb rfl rfl rfl (ca rfl rfl rfl ?_))))))))))
 refine ai (bU (r:=true) _ _ rfl rfl rfl) (cL rfl (ax rfl rfl (aE _ aa rfl rfl rfl) (ax rfl rfl (aG _ aa rfl rfl eo) (ax rfl rfl (bU (r:=true) _ _ rfl rfl rfl) (ai (aC _ _ _ rfl bN) (cL rfl (ax rfl rfl (aE _ aa rfl rfl rfl) (ax rfl rfl (aG _ aa rfl rfl eo) (ax rfl rfl (bU (r:=false) _ _ rfl rfl rfl) (ai (aC _ _ _ rfl bN) ?_))))))))))
 refine aj (aW rfl rfl (aS (aq ?_)))
 refine aM (σ':=aD 80 [(1,_)] [((1,0),_)] [] []) kp ?_
 refine an (be rfl (aj (am (be rfl (aj (aq (am (bb rfl rfl rfl (ca rfl rfl rfl (gL rfl rfl rfl ?_))))))))))
 refine cL rfl (aO rfl rfl ah ?_)
 refine aO rfl rfl ah ?_
 refine aO rfl rfl ah ?_
 refine ai (aC _ _ _ rfl bN) (cL rfl (ax rfl rfl (aE _ aa rfl rfl rfl) (ax rfl rfl (aG _ aa rfl rfl eo) (ax rfl rfl (bA (r:=true) _ _ rfl rfl rfl) (ax rfl rfl (aH _ bN) (ax rfl rfl (bh _ _ aa rfl ag (by (simp <;> rfl)) ah rfl) ?_))))))
 refine ax rfl rfl (aE _ aa rfl rfl rfl) (ax rfl rfl (aG _ aa rfl rfl fw) (ax rfl rfl (aI aa al (gD [[38,38],[124,124]] 2 rfl ab s) rfl rfl) ?_))
 refine ax rfl rfl (aC _ _ _ rfl bN) (ai (aC _ _ _ rfl bN) (aj (bJ rfl (decide_eq_true hs1) ?_)))
 refine aq ?_
 refine aM (σ':=aD 80 [(1,_)] [((1,0),_)] [] []) kp ?_
 refine an (be rfl (aj (an (be rfl (aj (aq (am (bb rfl rfl rfl (ca rfl rfl rfl (kx rfl rfl rfl ?_))))))))))
 refine cL rfl (ax rfl rfl (aE _ aa rfl rfl rfl) (ax rfl rfl (aG _ aa rfl rfl fw) (ax rfl rfl (aI aa al (mO s) rfl rfl) ?_)))
 refine ai (aC _ _ _ rfl bN) (aj (aW rfl (decide_eq_false hs2) ?_))
 refine aS (aU fun K15 hK15=> ?_)
 refine am (be rfl (aj (ay ?_)))
 refine bs (α:=Nat) (fun j=> j≤L.length∧ ∀ q,q < j→t q=2) 80 [(1,_),(3,_),(4,_)] [((1,0),_)] (fun j=> [(5, .v (.int .i64 (j:Int)))]) (fun j=> []) [] [] (fun j=> L.length - j) 0 ?_ (by
  refine Le.mkJ [] [] rfl ?_ ?_ trivial trivial ?_
  ·exact ⟨(iP rfl),(iV rfl),(iV rfl),(cj ag),trivial⟩
  ·exact ⟨(cp rfl rfl rfl),trivial⟩
  kernel_rfl) ?_
 ·exact ⟨Nat.zero_le _,fun q hq=> by omega⟩
 intro j hj
 obtain ⟨hj,hall⟩:=hj
 have htj:=ht j
 refine aU fun K17 hK17=> ?_
 refine am (aX rfl (bb rfl rfl rfl (fc rfl rfl rfl (ai (bo _ aa rfl) (ai (bm _ _ rfl rfl rfl) (aj (aR rfl (fun hc67=> ?_) (fun hc67=> ?_))))))))
 ·skip
  refine bq (hK17 _ ?_)
  clear hK17;try clear K17
  refine aq (ay (am (bb rfl rfl rfl (fc rfl rfl rfl (aX rfl (ai (bn _ _ aa rfl rfl _ rfl ab (by (simp only [aN,bg,bj,bv,bu,bG,bw];omega)) ag) ?_))))))
  refine ai (cf _ aa rfl (by exact cO _ _ ab) rfl) ?_
  refine ai (aI aa al (h j ab) rfl rfl) ?_
  refine be rfl (aj (am (aX rfl (aX rfl (ai (bU _ _ rfl rfl rfl) (aj (aR rfl (fun hc78=> ?_) (fun hc78=> ?_))))))))
  ·skip
   have hr:=hr0 j ab ab
   refine aq ?_
   refine aM (σ':=aD 80 [] [] [] []) kp ?_
   refine an (be rfl (aj (aF (rB rfl rfl ?_))))
   rw [hr];rfl
  have hall1: ∀ q,q < j+1→t q=2:=fun q hq=> by
   by_cases h:q < j
   ·exact hall q h
   obtain rfl:q=j:=by omega
   omega
  refine cu ?_
  refine aM (σ':=aD 80 [(1,_),(3,_),(4,_),(5,_)] [((1,0),_)] [] []) kp ?_
  refine an (aX rfl (ai (aZ _ _ rfl rfl (bD ab)) ?_))
  refine be rfl (aJ (⟨j+1,?_,?_,?_⟩))
  ·exact ⟨by omega,hall1⟩
  ·skip
   refine Le.mkJ [] [] rfl ?_ ?_ trivial trivial ?_
   ·exact ⟨(iP rfl),(iV rfl),(iV rfl),(cj ag),trivial⟩
   ·exact ⟨(cp rfl rfl rfl),trivial⟩
   kernel_rfl
  omega
 have hr:=hr1 fun q hq=> hall q ab
 refine bC (id (hK15 _ ?_))
 clear hK15;try clear K15
 refine am (aX rfl (be rfl (aj (aF (rB rfl rfl ?_)))))
 rw [hr];rfl
theorem IB (s:Tx) (hs1:s∉[[38,38],[124,124]]) (hs2:s∈za) (L:List Nd) (hL:L.length≤3) (t:Nat→Nat) (ht: ∀ j,t j≤2) (h: ∀ j,j < L.length→Spec Tryz.prog 203 (ba [pi (lf L j)] []) (aP (.v (.int .i64 (t j:Int))) [])) (r:Nat) (hr1:(∀ j,j < L.length→t j=1)→r=2) (hr0: ∀ j,j < L.length→t j≠1→r=0):
  Spec Tryz.prog 203 (ba [.agg [.v (.int .i64 18), .v (.int .i64 0), .v (bt s), .sl L.length (mE L)]] []) (aP (.v (.int .i64 (r:Int))) []):=by
 refine Spec.ofN Tryz.func203 rfl Tryz.ntmps203 rfl ?_
 refine am (ai (aQ (1,0) _ rfl rfl) (be rfl (aj (aq (am (bb rfl rfl rfl (ca rfl rfl rfl (gL rfl rfl rfl (cL rfl (ax rfl rfl (aE _ aa rfl rfl rfl) ?_))))))))))
 refine ax rfl rfl (aG _ aa rfl rfl eo) (ax rfl rfl (bA (r:=false) _ _ rfl rfl rfl) (ai (aC _ _ _ rfl bN) (cL rfl (ax rfl rfl (aE _ aa rfl rfl rfl) (ax rfl rfl (aG _ aa rfl rfl eo) (ax rfl rfl (bA (r:=false) _ _ rfl rfl rfl) (ai (aC _ _ _ rfl bN) (aj (aW rfl rfl (aS ?_))))))))))
 refine aq (aq ?_)
 refine aM (σ':=aD 80 [(1,_)] [((1,0),_)] [] []) kp ?_
 refine an (bb rfl rfl rfl (ca rfl rfl rfl (gL rfl rfl rfl (aj (aW rfl rfl (aS (aq (am (bb rfl rfl rfl (ca rfl rfl rfl ?_))))))))))
 refine ai (bU (r:=true) _ _ rfl rfl rfl) (cL rfl (ax rfl rfl (aE _ aa rfl rfl rfl) (ax rfl rfl (aG _ aa rfl rfl eo) (ax rfl rfl (bU (r:=true) _ _ rfl rfl rfl) (ai (aC _ _ _ rfl bN) (cL rfl (ax rfl rfl (aE _ aa rfl rfl rfl) (ax rfl rfl (aG _ aa rfl rfl eo) (ax rfl rfl (bU (r:=false) _ _ rfl rfl rfl) (ai (aC _ _ _ rfl bN) ?_))))))))))
 refine aj (aW rfl rfl (aS (aq ?_)))
 refine aM (σ':=aD 80 [(1,_)] [((1,0),_)] [] []) kp ?_
 refine an (be rfl (aj (am (be rfl (aj (aq (am (bb rfl rfl rfl (ca rfl rfl rfl (gL rfl rfl rfl ?_))))))))))
 refine cL rfl (aO rfl rfl ah ?_)
 refine aO rfl rfl ah ?_
 refine aO rfl rfl ah ?_
 refine ai (aC _ _ _ rfl bN) (cL rfl (ax rfl rfl (aE _ aa rfl rfl rfl) (ax rfl rfl (aG _ aa rfl rfl eo) (ax rfl rfl (bA (r:=true) _ _ rfl rfl rfl) (ax rfl rfl (aH _ bN) (ax rfl rfl (bh _ _ aa rfl ag (by (simp <;> rfl)) ah rfl) ?_))))))
 refine ax rfl rfl (aE _ aa rfl rfl rfl) (ax rfl rfl (aG _ aa rfl rfl fw) (ax rfl rfl (aI aa al (gD [[38,38],[124,124]] 2 rfl ab s) rfl rfl) ?_))
 refine ax rfl rfl (aC _ _ _ rfl bN) (ai (aC _ _ _ rfl bN) (aj (aW rfl (decide_eq_false hs1) ?_)))
 refine aS (aq (aq ?_))
 refine aM (σ':=aD 80 [(1,_),(3,_),(4,_)] [((1,0),_)] [] []) kp ?_
 refine an (bb rfl rfl rfl (ca rfl rfl rfl (kx rfl rfl rfl (cL rfl (ax rfl rfl (aE _ aa rfl rfl rfl) (ax rfl rfl (aG _ aa rfl rfl fw) (ax rfl rfl (aI aa al (mO s) rfl rfl) ?_)))))))
 refine ai (aC _ _ _ rfl bN) (aj (bJ rfl (decide_eq_true hs2) ?_))
 refine an (be rfl (aj (aU fun K14 hK14=> ?_)))
 refine am (be rfl (aj (ay ?_)))
 refine bs (α:=Nat) (fun j=> j≤L.length∧ ∀ q,q < j→t q=1) 80 [(1,_),(3,_),(4,_)] [((1,0),_)] (fun j=> [(5, .v (.int .i64 (j:Int)))]) (fun j=> []) [] [] (fun j=> L.length - j) 0 ?_ (by
  refine Le.mkJ [] [] rfl ?_ ?_ trivial trivial ?_
  ·exact ⟨(iP rfl),(iV rfl),(iV rfl),(cj ag),trivial⟩
  ·exact ⟨(cp rfl rfl rfl),trivial⟩
  kernel_rfl) ?_
 ·exact ⟨Nat.zero_le _,fun q hq=> by omega⟩
 intro j hj
 obtain ⟨hj,hall⟩:=hj
 have htj:=ht j
 refine aU fun K16 hK16=> ?_
 refine am (aX rfl (bb rfl rfl rfl (fc rfl rfl rfl (ai (bo _ aa rfl) (ai (bm _ _ rfl rfl rfl) (aj (aR rfl (fun hc67=> ?_) (fun hc67=> ?_))))))))
 ·skip
  refine bq (hK16 _ ?_)
  clear hK16;try clear K16
  refine aq (ay (am (bb rfl rfl rfl (fc rfl rfl rfl (aX rfl (ai (bn _ _ aa rfl rfl _ rfl ab (by (simp only [aN,bg,bj,bv,bu,bG,bw];omega)) ag) ?_))))))
  refine ai (cf _ aa rfl (by exact cO _ _ ab) rfl) ?_
  refine ai (aI aa al (h j ab) rfl rfl) ?_
  refine be rfl (aj (am (aX rfl (aX rfl (ai (bU _ _ rfl rfl rfl) (aj (aR rfl (fun hc78=> ?_) (fun hc78=> ?_))))))))
  ·skip
   have hr:=hr0 j ab ab
   refine aq ?_
   refine aM (σ':=aD 80 [] [] [] []) kp ?_
   refine an (be rfl (aj (aF (rB rfl rfl ?_))))
   rw [hr];rfl
  have hall1: ∀ q,q < j+1→t q=1:=fun q hq=> by
   by_cases h:q < j
   ·exact hall q h
   obtain rfl:q=j:=by omega
   omega
  refine cu ?_
  refine aM (σ':=aD 80 [(1,_),(3,_),(4,_),(5,_)] [((1,0),_)] [] []) kp ?_
  refine an (aX rfl (ai (aZ _ _ rfl rfl (bD ab)) ?_))
  refine be rfl (aJ (⟨j+1,?_,?_,?_⟩))
  ·exact ⟨by omega,hall1⟩
  ·skip
   refine Le.mkJ [] [] rfl ?_ ?_ trivial trivial ?_
   ·exact ⟨(iP rfl),(iV rfl),(iV rfl),(cj ag),trivial⟩
   ·exact ⟨(cp rfl rfl rfl),trivial⟩
   kernel_rfl
  omega
 have hr:=hr1 fun q hq=> hall q ab
 refine bC (id (hK14 _ ?_))
 clear hK14;try clear K14
 refine am (aX rfl (be rfl (aj (aF (rB rfl rfl ?_)))))
 rw [hr];rfl
theorem Df (s:Tx) (hs1:s∉[[38,38],[124,124]]) (hs2:s∉za) (L:List Nd) (hL:L.length≤3) (t:Nat→Nat) (ht: ∀ j,t j≤2) (h: ∀ j,j < L.length→Spec Tryz.prog 203 (ba [pi (lf L j)] []) (aP (.v (.int .i64 (t j:Int))) [])) (r:Nat) (hr1:(∀ j,j < L.length→t j=1)→r=1) (hr0: ∀ j,j < L.length→t j≠1→r=0):
  Spec Tryz.prog 203 (ba [.agg [.v (.int .i64 18), .v (.int .i64 0), .v (bt s), .sl L.length (mE L)]] []) (aP (.v (.int .i64 (r:Int))) []):=by
 refine Spec.ofN Tryz.func203 rfl Tryz.ntmps203 rfl ?_
 refine am (ai (aQ (1,0) _ rfl rfl) (be rfl (aj (aq (am (bb rfl rfl rfl (ca rfl rfl rfl (gL rfl rfl rfl (cL rfl (ax rfl rfl (aE _ aa rfl rfl rfl) ?_))))))))))
 refine ax rfl rfl (aG _ aa rfl rfl eo) (ax rfl rfl (bA (r:=false) _ _ rfl rfl rfl) (ai (aC _ _ _ rfl bN) (cL rfl (ax rfl rfl (aE _ aa rfl rfl rfl) (ax rfl rfl (aG _ aa rfl rfl eo) (ax rfl rfl (bA (r:=false) _ _ rfl rfl rfl) (ai (aC _ _ _ rfl bN) (aj (aW rfl rfl (aS ?_))))))))))
 refine aq (aq ?_)
 refine aM (σ':=aD 80 [(1,_)] [((1,0),_)] [] []) kp ?_
 refine an (bb rfl rfl rfl (ca rfl rfl rfl (gL rfl rfl rfl (aj (aW rfl rfl (aS (aq (am (bb rfl rfl rfl (ca rfl rfl rfl ?_))))))))))
 refine ai (bU (r:=true) _ _ rfl rfl rfl) (cL rfl (ax rfl rfl (aE _ aa rfl rfl rfl) (ax rfl rfl (aG _ aa rfl rfl eo) (ax rfl rfl (bU (r:=true) _ _ rfl rfl rfl) (ai (aC _ _ _ rfl bN) (cL rfl (ax rfl rfl (aE _ aa rfl rfl rfl) (ax rfl rfl (aG _ aa rfl rfl eo) (ax rfl rfl (bU (r:=false) _ _ rfl rfl rfl) (ai (aC _ _ _ rfl bN) ?_))))))))))
 refine aj (aW rfl rfl (aS (aq ?_)))
 refine aM (σ':=aD 80 [(1,_)] [((1,0),_)] [] []) kp ?_
 refine an (be rfl (aj (am (be rfl (aj (aq (am (bb rfl rfl rfl (ca rfl rfl rfl (gL rfl rfl rfl ?_))))))))))
 refine cL rfl (aO rfl rfl ah ?_)
 refine aO rfl rfl ah ?_
 refine aO rfl rfl ah ?_
 refine ai (aC _ _ _ rfl bN) (cL rfl (ax rfl rfl (aE _ aa rfl rfl rfl) (ax rfl rfl (aG _ aa rfl rfl eo) (ax rfl rfl (bA (r:=true) _ _ rfl rfl rfl) (ax rfl rfl (aH _ bN) (ax rfl rfl (bh _ _ aa rfl ag (by (simp <;> rfl)) ah rfl) ?_))))))
 refine ax rfl rfl (aE _ aa rfl rfl rfl) (ax rfl rfl (aG _ aa rfl rfl fw) (ax rfl rfl (aI aa al (gD [[38,38],[124,124]] 2 rfl ab s) rfl rfl) ?_))
 refine ax rfl rfl (aC _ _ _ rfl bN) (ai (aC _ _ _ rfl bN) (aj (aW rfl (decide_eq_false hs1) ?_)))
 refine aS (aq (aq ?_))
 refine aM (σ':=aD 80 [(1,_),(3,_),(4,_)] [((1,0),_)] [] []) kp ?_
 refine an (bb rfl rfl rfl (ca rfl rfl rfl (kx rfl rfl rfl (cL rfl (ax rfl rfl (aE _ aa rfl rfl rfl) (ax rfl rfl (aG _ aa rfl rfl fw) (ax rfl rfl (aI aa al (mO s) rfl rfl) ?_)))))))
 refine ai (aC _ _ _ rfl bN) (aj (aW rfl (decide_eq_false hs2) ?_))
 refine aS (aU fun K14 hK14=> ?_)
 refine am (be rfl (aj (ay ?_)))
 refine bs (α:=Nat) (fun j=> j≤L.length∧ ∀ q,q < j→t q=1) 80 [(1,_),(3,_),(4,_)] [((1,0),_)] (fun j=> [(5, .v (.int .i64 (j:Int)))]) (fun j=> []) [] [] (fun j=> L.length - j) 0 ?_ (by
  refine Le.mkJ [] [] rfl ?_ ?_ trivial trivial ?_
  ·exact ⟨(iP rfl),(iV rfl),(iV rfl),(cj ag),trivial⟩
  ·exact ⟨(cp rfl rfl rfl),trivial⟩
  kernel_rfl) ?_
 ·exact ⟨Nat.zero_le _,fun q hq=> by omega⟩
 intro j hj
 obtain ⟨hj,hall⟩:=hj
 have htj:=ht j
 refine aU fun K16 hK16=> ?_
 refine am (aX rfl (bb rfl rfl rfl (fc rfl rfl rfl (ai (bo _ aa rfl) (ai (bm _ _ rfl rfl rfl) (aj (aR rfl (fun hc67=> ?_) (fun hc67=> ?_))))))))
 ·skip
  refine bq (hK16 _ ?_)
  clear hK16;try clear K16
  refine aq (ay (am (bb rfl rfl rfl (fc rfl rfl rfl (aX rfl (ai (bn _ _ aa rfl rfl _ rfl ab (by (simp only [aN,bg,bj,bv,bu,bG,bw];omega)) ag) ?_))))))
  refine ai (cf _ aa rfl (by exact cO _ _ ab) rfl) ?_
  refine ai (aI aa al (h j ab) rfl rfl) ?_
  refine be rfl (aj (am (aX rfl (aX rfl (ai (bU _ _ rfl rfl rfl) (aj (aR rfl (fun hc78=> ?_) (fun hc78=> ?_))))))))
  ·skip
   have hr:=hr0 j ab ab
   refine aq ?_
   refine aM (σ':=aD 80 [] [] [] []) kp ?_
   refine an (be rfl (aj (aF (rB rfl rfl ?_))))
   rw [hr];rfl
  have hall1: ∀ q,q < j+1→t q=1:=fun q hq=> by
   by_cases h:q < j
   ·exact hall q h
   obtain rfl:q=j:=by omega
   omega
  refine cu ?_
  refine aM (σ':=aD 80 [(1,_),(3,_),(4,_),(5,_)] [((1,0),_)] [] []) kp ?_
  refine an (aX rfl (ai (aZ _ _ rfl rfl (bD ab)) ?_))
  refine be rfl (aJ (⟨j+1,?_,?_,?_⟩))
  ·exact ⟨by omega,hall1⟩
  ·skip
   refine Le.mkJ [] [] rfl ?_ ?_ trivial trivial ?_
   ·exact ⟨(iP rfl),(iV rfl),(iV rfl),(cj ag),trivial⟩
   ·exact ⟨(cp rfl rfl rfl),trivial⟩
   kernel_rfl
  omega
 have hr:=hr1 fun q hq=> hall q ab
 refine bC (id (hK14 _ ?_))
 clear hK14;try clear K14
 refine am (aX rfl (be rfl (aj (aF (rB rfl rfl ?_)))))
 rw [hr];rfl

theorem pB: ∀ e,fy e≤2
 | .int _=> by simp [fy] | .bool _=> by simp [fy] | .var _=> by simp [fy] | .name _=> by simp [fy]
 | .draw e=> by simp only [fy];split <;> omega
 | .neg e=> by simp only [fy];split <;> omega
 | .not e=> by simp only [fy];split <;> omega
 | .bin o a b=> by cases o <;> simp only [fy] <;> split <;> omega
 | .and a b=> by simp only [fy];split <;> omega
 | .or a b=> by simp only [fy];split <;> omega
def uV (a b:Ex) (j:Nat):Nat:=if j=0 then fy a else fy b
theorem pz (a b:Ex) (j:Nat):uV a b j≤2:=by unfold uV;split <;> exact pB _
theorem pw {a b:Ex} {op j:Nat} (hj:j < 2) (h:uV a b j≠op): ¬ (fy a=op∧fy b=op):=fun e=> by
 have:j=0∨j=1:=by omega
 rcases this with rfl | rfl
 ·exact h e.1
 exact h e.2
theorem tX (o:Bo):o.txt∉([[38,38],[124,124]]:List Tx):=by cases o <;> decide
def Lj:Bo→Nat | .add=> 1 | .sub=> 1 | .mul=> 1 | .div=> 1 | _=> 2
abbrev we (d:Nd) (t:Nat):Prop:=Spec Tryz.prog 203 (ba [pi d] []) (aP (.v (.int .i64 (t:Int))) [])
theorem sr {d:Nd} {t:Nat} (h:we d t): ∀ j,j < [d].length→we (lf [d] j) t:=fun j hj=> by
 have:j=0:=by simpa using hj
 subst this
 exact h
theorem pX {d e:Nd} {a b:Ex} (h1:we d (fy a)) (h2:we e (fy b)): ∀ j,j < [d,e].length→we (lf [d,e] j) (uV a b j):=fun j hj=> by
 have hj:j < 2:=hj
 have:j=0∨j=1:=by omega
 rcases this with rfl | rfl
 ·exact h1
 exact h2
theorem eB (nm:List Tx): ∀ e:Ex,we (eN nm e) (fy e)
 | .int n=> HT n.toNat
 | .bool b=> EI (if b then 1 else 0)
 | .var i=> Ha (nm.getD i [])
 | .name k=> Er (bltT.getD k [])
 | .draw e=> EH [eN nm e] (by simp) (fun _=> fy e) (fun _=> pB e) (sr (eB nm e)) _ (fun h=> if_pos (h 0 (by simp))) (fun _ _ h=> if_neg h)
 | .neg e=> HY [eN nm e] (by simp) (fun _=> fy e) (fun _=> pB e) (sr (eB nm e)) _ (fun h=> if_pos (h 0 (by simp))) (fun _ _ h=> if_neg h)
 | .not e=> HP [eN nm e] (by simp) (fun _=> fy e) (fun _=> pB e) (sr (eB nm e)) _ (fun h=> if_pos (h 0 (by simp))) (fun _ _ h=> if_neg h)
 | .and a b=> um [38,38] ah ah [eN nm a,eN nm b] (by simp) (uV a b) (pz a b) (pX (eB nm a) (eB nm b)) _ (fun h=> if_pos ⟨h 0 (by simp),h 1 (by simp)⟩) (fun _ hj h=> if_neg (pw hj h))
 | .or a b=> um [124,124] ah ah [eN nm a,eN nm b] (by simp) (uV a b) (pz a b) (pX (eB nm a) (eB nm b)) _ (fun h=> if_pos ⟨h 0 (by simp),h 1 (by simp)⟩) (fun _ hj h=> if_neg (pw hj h))
 | .bin o a b=> by
  have hty:fy (.bin o a b)=if fy a=1∧fy b=1 then Lj o else 0:=by cases o <;> rfl
  have hk:=pX (eB nm a) (eB nm b)
  by_cases ho:o.txt∈za
  ·have h2:Lj o=2:=by cases o <;> first | rfl | (exact absurd ho ah)
   rw [h2] at hty
   exact IB o.txt (tX o) ho [eN nm a,eN nm b] (by simp) (uV a b) (pz a b) hk _ (fun h=> hty.trans (if_pos ⟨h 0 (by simp),h 1 (by simp)⟩)) (fun _ hj h=> hty.trans (if_neg (pw hj h)))
  have h2:Lj o=1:=by cases o <;> first | rfl | (exact absurd ah ho)
  rw [h2] at hty
  exact Df o.txt (tX o) ho [eN nm a,eN nm b] (by simp) (uV a b) (pz a b) hk _ (fun h=> hty.trans (if_pos ⟨h 0 (by simp),h 1 (by simp)⟩)) (fun _ hj h=> hty.trans (if_neg (pw hj h)))
theorem kI (n:Int) (s:Tx) (L:List Nd) (h: ∀ j,j < L.length→Spec Tryz.prog 166 (ba [pi (lf L j)] []) (aP (.v (.bool true)) [])):
  Spec Tryz.prog 166 (ba [.agg [.v (.int .i64 11), .v (.int .i64 n), .v (bt s), .sl L.length (mE L)]] []) (aP (.v (.bool true)) []):=by
 refine Spec.ofN Tryz.func166 rfl Tryz.ntmps166 rfl ?_
 refine aq ?_
 refine lr 0 3 rfl rfl rfl fun hlen=> ?_
 unfold maxLen at hlen
 refine an (ai (aQ (1,0) _ rfl rfl) (cq rfl (aj (aq (am (bb rfl rfl rfl (ca rfl rfl rfl (kx rfl rfl rfl (aj (bJ rfl rfl ?_))))))))))
 refine aU fun K4 hK4=> ?_
 refine am (be rfl (aj (ay ?_)))
 refine bs (α:=Nat) (fun j=> j≤L.length) 73 [(1,_)] [((1,0),_)] (fun j=> [(3, .v (.int .i64 (j:Int)))]) (fun j=> []) [] [] (fun j=> L.length - j) 0 ?_ (by
  refine Le.mkJ [] [] rfl ?_ ?_ trivial trivial ?_
  ·exact ⟨(iP rfl),(cj ag),trivial⟩
  ·exact ⟨(cp rfl rfl rfl),trivial⟩
  kernel_rfl) ?_
 ·omega
 intro j hj
 refine aU fun K6 hK6=> ?_
 refine am (aX rfl (bb rfl rfl rfl (fc rfl rfl rfl (ai (bo _ aa rfl) (ai (bm _ _ rfl rfl rfl) (aj (aR rfl (fun hc17=> ?_) (fun hc17=> ?_))))))))
 ·skip
  refine bq (hK6 _ ?_)
  clear hK6;try clear K6
  refine aq (ay (am (bb rfl rfl rfl (fc rfl rfl rfl (aX rfl (ai (bn _ _ aa rfl rfl _ rfl ab (by (simp only [aN,bg,bj,bv,bu,bG,bw];omega)) ag) ?_))))))
  refine ai (cf _ aa rfl (by exact cO _ _ ab) rfl) ?_
  refine ai (aI aa al (h j ab) rfl rfl) ?_
  refine cq rfl (aj (am (cL rfl (ai (cr (r:=false) _ rfl rfl) (aj (aW rfl rfl (cu (an (aX rfl (ai (aZ _ _ rfl rfl (bD ab)) ?_))))))))))
  refine be rfl (aJ (⟨j+1,?_,?_,?_⟩))
  ·omega
  ·skip
   refine Le.mkJ [] [] rfl ?_ ?_ trivial trivial ?_
   ·exact ⟨(iP rfl),(cj ag),trivial⟩
   ·exact ⟨(cp rfl rfl rfl),trivial⟩
   kernel_rfl
  omega
 refine bC (id (hK4 _ ?_))
 clear hK4;try clear K4
 refine am (cq rfl (aj (aF (rz rfl rfl ?_))))
 rfl
theorem ru (k:Nat) (hk:k=2∨k=3) (n:Int) (s:Tx) (L:List Nd) (hL:0 < L.length) (ht:Spec Tryz.prog 203 (ba [pi (lf L 0)] []) (aP (.v (.int .i64 2)) [])) (h: ∀ j,1≤j→j < L.length→Spec Tryz.prog 166 (ba [pi (lf L j)] []) (aP (.v (.bool true)) [])):
  Spec Tryz.prog 166 (ba [.agg [.v (.int .i64 (k:Int)), .v (.int .i64 n), .v (bt s), .sl L.length (mE L)]] []) (aP (.v (.bool true)) []):=by
 refine Spec.ofN Tryz.func166 rfl Tryz.ntmps166 rfl ?_
 refine aq ?_
 refine lr 0 3 rfl rfl rfl fun hlen=> ?_
 unfold maxLen at hlen
 refine an (ai (aQ (1,0) _ rfl rfl) (cq rfl (aj (aq (am (bb rfl rfl rfl (ca rfl rfl rfl (gL rfl rfl (beq_eq_false_iff_ne.2 ab) ?_))))))))
 refine aj (aW rfl rfl (aS (aq (am (bb rfl rfl rfl (ca rfl rfl rfl (ai (bA _ _ rfl rfl rfl) (cL rfl (dv (fun hg31=> ?_) (fun hg31=> ?_))))))))))
 ·skip
  refine aO rfl rfl ah ?_
  refine aO rfl rfl ah ?_
  refine aO rfl rfl ah ?_
  refine ai (aC _ _ _ rfl bN) (aj (bJ rfl rfl (am (bb rfl rfl rfl (fc rfl rfl rfl (ai (bn _ _ aa rfl rfl 0 rfl hL (by simp only [bG];omega) rfl) ?_))))))
  refine ai (cf _ aa rfl (by exact cO L 0 hL) rfl) ?_
  refine ai (aI aa al (ht) rfl rfl) ?_
  refine be rfl (aj (aU fun K7 hK7=> ?_))
  refine aq ?_
  refine aM (σ':=aD 73 [(1,_),(5,_)] [((1,0),_)] [] []) kp ?_
  refine an (be rfl (aj (ay ?_)))
  refine bs (α:=Nat) (fun j=> 1≤j∧j≤L.length) 73 [(1,_),(5,_)] [((1,0),_)] (fun j=> [(6, .v (.int .i64 (j:Int)))]) (fun j=> []) [] [] (fun j=> L.length - j) 1 ?_ (by
   refine Le.mkJ [] [] rfl ?_ ?_ trivial trivial ?_
   ·exact ⟨(iP rfl),(iV rfl),(cj ag),trivial⟩
   ·exact ⟨(cp rfl rfl rfl),trivial⟩
   kernel_rfl) ?_
  ·exact ⟨Nat.le_refl _,hL⟩
  intro j hj
  obtain ⟨hj1,hj2⟩:=hj
  refine aU fun K9 hK9=> ?_
  refine am (aX rfl (bb rfl rfl rfl (fc rfl rfl rfl (ai (bo _ aa rfl) (ai (bm _ _ rfl rfl rfl) (aj (aR rfl (fun hc45=> ?_) (fun hc45=> ?_))))))))
  ·skip
   refine bq (hK9 _ ?_)
   clear hK9;try clear K9
   refine aq (ay (am (bb rfl rfl rfl (fc rfl rfl rfl (aX rfl (ai (bn _ _ aa rfl rfl _ rfl ab (by (simp only [aN,bg,bj,bv,bu,bG,bw];omega)) ag) ?_))))))
   refine ai (cf _ aa rfl (by exact cO _ _ ab) rfl) ?_
   refine ai (aI aa al (h j hj1 ab) rfl rfl) ?_
   refine cq rfl (aj (am (cL rfl (ai (cr (r:=false) _ rfl rfl) (aj (aW rfl rfl (cu (an (aX rfl (ai (aZ _ _ rfl rfl (bD ab)) ?_))))))))))
   refine be rfl (aJ (⟨j+1,?_,?_,?_⟩))
   ·omega
   ·skip
    refine Le.mkJ [] [] rfl ?_ ?_ trivial trivial ?_
    ·exact ⟨(iP rfl),(iV rfl),(cj ag),trivial⟩
    ·exact ⟨(cp rfl rfl rfl),trivial⟩
    kernel_rfl
   omega
  refine bC (id (hK7 _ ?_))
  clear hK7;try clear K7
  refine am (aX rfl (kx rfl rfl rfl (cq rfl (aj (aF (rz rfl rfl ?_))))))
  rfl
 have hk3:k=3:=by omega
 refine ax rfl rfl (aE _ aa rfl rfl rfl) (ax rfl rfl (aG _ aa rfl rfl eo) (ax rfl rfl (bA (r:=true) _ _ rfl rfl (beq_iff_eq.2 ab)) ?_))
 refine ai (aC _ _ _ rfl bN) (aj (bJ rfl rfl (am (bb rfl rfl rfl (fc rfl rfl rfl (ai (bn _ _ aa rfl rfl 0 rfl hL (by simp only [bG];omega) rfl) ?_))))))
 refine ai (cf _ aa rfl (by exact cO L 0 hL) rfl) ?_
 refine ai (aI aa al (ht) rfl rfl) ?_
 refine be rfl (aj (aU fun K16 hK16=> ?_))
 refine aq ?_
 refine aM (σ':=aD 73 [(1,_),(5,_)] [((1,0),_)] [] []) kp ?_
 refine an (be rfl (aj (ay ?_)))
 refine bs (α:=Nat) (fun j=> 1≤j∧j≤L.length) 73 [(1,_),(5,_)] [((1,0),_)] (fun j=> [(6, .v (.int .i64 (j:Int)))]) (fun j=> []) [] [] (fun j=> L.length - j) 1 ?_ (by
  refine Le.mkJ [] [] rfl ?_ ?_ trivial trivial ?_
  ·exact ⟨(iP rfl),(iV rfl),(cj ag),trivial⟩
  ·exact ⟨(cp rfl rfl rfl),trivial⟩
  kernel_rfl) ?_
 ·exact ⟨Nat.le_refl _,hL⟩
 intro j hj
 obtain ⟨hj1,hj2⟩:=hj
 refine aU fun K18 hK18=> ?_
 refine am (aX rfl (bb rfl rfl rfl (fc rfl rfl rfl (ai (bo _ aa rfl) (ai (bm _ _ rfl rfl rfl) (aj (aR rfl (fun hc45=> ?_) (fun hc45=> ?_))))))))
 ·skip
  refine bq (hK18 _ ?_)
  clear hK18;try clear K18
  refine aq (ay (am (bb rfl rfl rfl (fc rfl rfl rfl (aX rfl (ai (bn _ _ aa rfl rfl _ rfl ab (by (simp only [aN,bg,bj,bv,bu,bG,bw];omega)) ag) ?_))))))
  refine ai (cf _ aa rfl (by exact cO _ _ ab) rfl) ?_
  refine ai (aI aa al (h j hj1 ab) rfl rfl) ?_
  refine cq rfl (aj (am (cL rfl (ai (cr (r:=false) _ rfl rfl) (aj (aW rfl rfl (cu (an (aX rfl (ai (aZ _ _ rfl rfl (bD ab)) ?_))))))))))
  refine be rfl (aJ (⟨j+1,?_,?_,?_⟩))
  ·omega
  ·skip
   refine Le.mkJ [] [] rfl ?_ ?_ trivial trivial ?_
   ·exact ⟨(iP rfl),(iV rfl),(cj ag),trivial⟩
   ·exact ⟨(cp rfl rfl rfl),trivial⟩
   kernel_rfl
  omega
 refine bC (id (hK16 _ ?_))
 clear hK16;try clear K16
 refine am (aX rfl (kx rfl rfl rfl (cq rfl (aj (aF (rz rfl rfl ?_))))))
 rfl
theorem fH (k:Nat) (hk:k≠2∧k≠3∧k≠11) (n:Int) (s:Tx) (L:List Nd) (h: ∀ j,j < L.length→Spec Tryz.prog 203 (ba [pi (lf L j)] []) (aP (.v (.int .i64 1)) [])):
  Spec Tryz.prog 166 (ba [.agg [.v (.int .i64 (k:Int)), .v (.int .i64 n), .v (bt s), .sl L.length (mE L)]] []) (aP (.v (.bool true)) []):=by
 refine Spec.ofN Tryz.func166 rfl Tryz.ntmps166 rfl ?_
 refine aq ?_
 refine lr 0 3 rfl rfl rfl fun hlen=> ?_
 unfold maxLen at hlen
 refine an (ai (aQ (1,0) _ rfl rfl) (cq rfl (aj (aq (am (bb rfl rfl rfl (ca rfl rfl rfl (gL rfl rfl (beq_eq_false_iff_ne.2 ab) ?_))))))))
 refine aj (aW rfl rfl (aS (aq (am (bb rfl rfl rfl (ca rfl rfl rfl (gL rfl rfl (beq_eq_false_iff_ne.2 ab) ?_)))))))
 refine cL rfl (ax rfl rfl (aE _ aa rfl rfl rfl) (ax rfl rfl (aG _ aa rfl rfl eo) (ax rfl rfl (bA (r:=false) _ _ rfl rfl (beq_eq_false_iff_ne.2 ab)) ?_)))
 refine ai (aC _ _ _ rfl bN) (aj (aW rfl rfl (aS (aU fun K6 hK6=> ?_))))
 refine am (be rfl (aj (ay ?_)))
 refine bs (α:=Nat) (fun j=> j≤L.length) 73 [(1,_)] [((1,0),_)] (fun j=> [(8, .v (.int .i64 (j:Int)))]) (fun j=> []) [] [] (fun j=> L.length - j) 0 ?_ (by
  refine Le.mkJ [] [] rfl ?_ ?_ trivial trivial ?_
  ·exact ⟨(iP rfl),(cj ag),trivial⟩
  ·exact ⟨(cp rfl rfl rfl),trivial⟩
  kernel_rfl) ?_
 ·omega
 intro j hj
 refine aU fun K8 hK8=> ?_
 refine am (aX rfl (bb rfl rfl rfl (fc rfl rfl rfl (ai (bo _ aa rfl) (ai (bm _ _ rfl rfl rfl) (aj (aR rfl (fun hc62=> ?_) (fun hc62=> ?_))))))))
 ·skip
  refine bq (hK8 _ ?_)
  clear hK8;try clear K8
  refine aq (ay (am (bb rfl rfl rfl (fc rfl rfl rfl (aX rfl (ai (bn _ _ aa rfl rfl _ rfl ab (by (simp only [aN,bg,bj,bv,bu,bG,bw];omega)) ag) ?_))))))
  refine ai (cf _ aa rfl (by exact cO _ _ ab) rfl) ?_
  refine ai (aI aa al (h j ab) rfl rfl) ?_
  refine be rfl (aj (am (aX rfl (ai (bU (r:=false) _ _ rfl rfl rfl) (aj (aW rfl rfl (cu (an (aX rfl (ai (aZ _ _ rfl rfl (bD ab)) ?_))))))))))
  refine be rfl (aJ (⟨j+1,?_,?_,?_⟩))
  ·omega
  ·skip
   refine Le.mkJ [] [] rfl ?_ ?_ trivial trivial ?_
   ·exact ⟨(iP rfl),(cj ag),trivial⟩
   ·exact ⟨(cp rfl rfl rfl),trivial⟩
   kernel_rfl
  omega
 refine bC (id (hK6 _ ?_))
 clear hK6;try clear K6
 refine am (cq rfl (aj (aF (rz rfl rfl ?_))))
 rfl

abbrev LJ (d:Nd):Prop:=Spec Tryz.prog 166 (ba [pi d] []) (aP (.v (.bool true)) [])
theorem ji {nm:List Tx} {e:Ex} (h:oT e=true):we (eN nm e) 1:=by
 have:=Nat.eq_of_beq_eq_true h
 have h2:=eB nm e
 rwa [this] at h2
theorem JJ {P:Nd→Prop} {d:Nd} (h:P d): ∀ j,j < [d].length→P (lf [d] j):=fun j hj=> by
 have:j=0:=by simpa using hj
 subst this
 exact h
theorem Lk {P:Nd→Prop} {d e:Nd} (h:P d) (h':P e): ∀ j,j < [d,e].length→P (lf [d,e] j):=fun j hj=> by
 have hj:j < 2:=hj
 have:j=0∨j=1:=by omega
 rcases this with rfl | rfl
 ·exact h
 exact h'
theorem Mi {P:Nd→Prop} {d e f:Nd} (h:P d) (h':P e) (h2:P f): ∀ j,j < [d,e,f].length→P (lf [d,e,f] j):=fun j hj=> by
 have hj:j < 3:=hj
 have:j=0∨j=1∨j=2:=by omega
 rcases this with rfl | rfl | rfl
 ·exact h
 ·exact h'
 exact h2
theorem Ao {P:Nd→Prop}: ∀ j,j < ([]:List Nd).length→P (lf [] j):=fun j hj=> by simp at hj
theorem LU {P:Nd→Prop} {d:Nd} {l:List Nd} (h:P d) (h': ∀ j,j < l.length→P (lf l j)): ∀ j,j < (d::l).length→P (lf (d::l) j):=fun j hj=> by
 cases j with
 | zero=> exact h
 | succ j=> exact h' j (by simpa using hj)
mutual
theorem Fh (nm:List Tx): ∀ s:Sm,zg s=true→LJ (FD nm s)
 | .assign i e,h=> fH 1 ab 0 (nm.getD i []) [eN nm e] (JJ (P:=fun d=> we d 1) (ji h))
 | .send t k a b,h=> by
  simp only [zg,Bool.and_eq_true] at h
  exact fH 4 ab k [] [eN nm t,eN nm a,eN nm b] (Mi (P:=fun d=> we d 1) (ji h.1.1) (ji h.1.2) (ji h.2))
 | .timer k,_=> fH 5 ab k [] [] (Ao (P:=fun d=> we d 1))
 | .cancel k,_=> fH 6 ab k [] [] (Ao (P:=fun d=> we d 1))
 | .sync,_=> fH 7 ab 0 [] [] (Ao (P:=fun d=> we d 1))
 | .stop,_=> fH 10 ab 0 [] [] (Ao (P:=fun d=> we d 1))
 | .reply a b,h=> by
  simp only [zg,Bool.and_eq_true] at h
  exact fH 8 ab 0 [] [eN nm a,eN nm b] (Lk (P:=fun d=> we d 1) (ji h.1) (ji h.2))
 | .fail e,h=> fH 9 ab 0 [] [eN nm e] (JJ (P:=fun d=> we d 1) (ji h))
 | .loop c b,h=> by
  simp only [zg,Bool.and_eq_true] at h
  have h1:=eB nm c
  rw [Nat.eq_of_beq_eq_true h.1] at h1
  refine ru 3 (.inr rfl) 0 [] [eN nm c,nd 11 0 [] (jc nm b)] (by simp) h1 fun j h1 hj=> ?_
  have hj:j < 2:=hj
  obtain rfl:j=1:=by omega
  exact kI 0 [] (jc nm b) (ny nm b h.2)
 | .ite c a b,h=> by
  simp only [zg,Bool.and_eq_true] at h
  have h1:=eB nm c
  rw [Nat.eq_of_beq_eq_true h.1.1] at h1
  refine ru 2 (.inl rfl) 0 [] [eN nm c,nd 11 0 [] (jc nm a),nd 11 0 [] (jc nm b)] (by simp) h1 fun j h1 hj=> ?_
  have hj:j < 3:=hj
  have:j=1∨j=2:=by omega
  rcases this with rfl | rfl
  ·exact kI 0 [] (jc nm a) (ny nm a h.1.2)
  exact kI 0 [] (jc nm b) (ny nm b h.2)
theorem ny (nm:List Tx): ∀ b:Bk,qh b=true→ ∀ j,j < (jc nm b).length→LJ (lf (jc nm b) j)
 | .nil,_=> Ao
 | .cons s b,h=> by
  simp only [qh,Bool.and_eq_true] at h
  exact LU (Fh nm s h.1) (ny nm b h.2)
end
theorem Fg (nm:List Tx) (b:Bk) (h:qh b=true):LJ (jf nm b):=kI 0 [] (jc nm b) (ny nm b h)

def iL (s:Tx) (l:List Tx):List Tx:=if s∈l then l else l++[s]
section
variable (nm:List Tx)
def tH:Ex→List Tx→List Tx
 | .int _,l=> l | .bool _,l=> l | .name _,l=> l
 | .var i,l=> iL (nm.getD i []) l
 | .draw e,l=> tH e l | .neg e,l=> tH e l | .not e,l=> tH e l
 | .bin _ a b,l=> tH b (tH a l)
 | .and a b,l=> tH b (tH a l)
 | .or a b,l=> tH b (tH a l)
mutual
def KX:Sm→List Tx→List Tx
 | .assign i e,l=> tH nm e (iL (nm.getD i []) l)
 | .send t _ a b,l=> tH nm b (tH nm a (tH nm t l))
 | .timer _,l=> l | .cancel _,l=> l | .sync,l=> l | .stop,l=> l
 | .reply a b,l=> tH nm b (tH nm a l)
 | .fail e,l=> tH nm e l
 | .loop c b,l=> Dt b (tH nm c l)
 | .ite c a b,l=> Dt b (Dt a (tH nm c l))
def Dt:Bk→List Tx→List Tx
 | .nil,l=> l
 | .cons s b,l=> Dt b (KX s l)
end
def GN (l:List Tx):Prop:=l.Nodup∧ ∀ x∈l,x∈nm
end
theorem GN.len {nm l:List Tx} (h:GN nm l):l.length≤nm.length:=h.1.length_le_of_subset fun x hx=> h.2 x hx
theorem GN.add {nm l:List Tx} (h:GN nm l) {i:Nat} (hi:i < nm.length):GN nm (iL (nm.getD i []) l):=by
 unfold iL
 split
 ·exact h
 rename_i hn
 refine ⟨List.nodup_append.2 ⟨h.1,by simp,fun a ha b hb e=> hn (by rw [List.mem_singleton.1 hb] at e;exact e ▸ ha)⟩,fun x hx=> ?_⟩
 rcases List.mem_append.1 hx with hx | hx
 ·exact h.2 x hx
 rw [List.mem_singleton.1 hx];exact ka hi
theorem GN.nil {nm:List Tx}:GN nm []:=⟨.nil,fun x hx=> by simp at hx⟩
theorem ue (n:Int) (s:Tx) (L:List Nd) (l:List Tx) (hs:s∉l) (hl:l.length≤1000) (F:Nat→List Tx) (hF:F 0=l++[s]) (h: ∀ j,j < L.length→Spec Tryz.prog 167 (ba [pi (lf L j), .sl (F j).length (fk (F j))] []) (aP (.sl (F (j+1)).length (fk (F (j+1)))) [])):
  Spec Tryz.prog 167 (ba [.agg [.v (.int .i64 1), .v (.int .i64 n), .v (bt s), .sl L.length (mE L)], .sl l.length (fk l)] []) (aP (.sl (F L.length).length (fk (F L.length))) []):=by
 refine Spec.ofN Tryz.func167 rfl Tryz.ntmps167 rfl ?_
 refine aq ?_
 refine lr 0 3 rfl rfl rfl fun hlen=> ?_
 unfold maxLen at hlen
 refine an (ai (aQ (2,0) _ rfl rfl) (ai (bp _ fA) (aj (aq (am (bb rfl rfl rfl (ca rfl rfl rfl (kx rfl rfl rfl (cL rfl (aO rfl rfl ah ?_))))))))))
 refine aO rfl rfl ah ?_
 refine aO rfl rfl ah ?_
 refine ai (aC _ _ _ rfl bN) (cL rfl (ax rfl rfl (aH _ nf) (ax rfl rfl (aE _ aa rfl rfl rfl) (ax rfl rfl (aG _ aa rfl rfl fw) (ax rfl rfl (aI aa al (gD l _ rfl ab s) rfl rfl) ?_)))))
 refine ax rfl rfl (cr _ rfl rfl) (ai (aC _ _ _ rfl bN) (aj (bJ rfl (by rw [decide_eq_false hs];rfl) ?_)))
 refine aq ?_
 refine aM (σ':=aD 45 [(1,_),(2,_)] [((2,0),_)] [] []) kp ?_
 refine an (ai (bp _ fA) (aj (am (ai (aH _ fA) (eQ rfl (ai (ww (24,0) _ _ aa rfl (.sl (by simp)) ab rfl) ?_))))))
 refine fh rfl (aj (an (gF rfl (bb rfl rfl rfl (ai (aG _ aa rfl rfl fw) (ai (bh _ _ aa rfl ag (by (simp <;> rfl)) ah rfl) ?_))))))
 refine ai (du (29,0) _ _ aa rfl rfl (by simp) (.sl rfl) ab rfl (mW _ _) (show l.length+1=(l++[s]).length by simp)) ?_
 refine fh rfl (aj (aU fun K6 hK6=> ?_))
 refine am (be rfl (aj (ay ?_)))
 refine aM (Le.frzS 1 (ys:=fk (l++[s])) rfl rfl rfl (by rw [List.drop_zero,Nat.mul_one];exact List.take_of_length_le (by simp)) (by simp)) ?_
 refine bs (α:=Nat) (fun j=> j≤L.length) 45 [(2,_)] [((2,0),_)] (fun j=> [(6, .v (.int .i64 (j:Int))),(1, .sl (F j).length (fk (F j)))]) (fun j=> []) [] [] (fun j=> L.length - j) 0 ?_ (by
  refine Le.mkJ [] [] rfl ?_ ?_ trivial trivial ?_
  ·exact ⟨(iP rfl),(cj ag),(jb (by rw [hF]) (by rw [hF])),trivial⟩
  ·exact ⟨(cp rfl rfl rfl),trivial⟩
  kernel_rfl) ?_
 ·omega
 intro j hj
 refine aU fun K8 hK8=> ?_
 refine am (aX rfl (bb rfl rfl rfl (fc rfl rfl rfl (ai (bo _ aa rfl) (ai (bm _ _ rfl rfl rfl) (aj (aR rfl (fun hc34=> ?_) (fun hc34=> ?_))))))))
 ·skip
  refine bq (hK8 _ ?_)
  clear hK8;try clear K8
  refine aq (ay (an (bb rfl rfl rfl (fc rfl rfl rfl (aX rfl (ai (bn _ _ aa rfl rfl _ rfl ab (by (simp only [aN,bg,bj,bv,bu,bG,bw];omega)) ag) ?_))))))
  refine ai (cf _ aa rfl (by exact cO _ _ ab) rfl) ?_
  refine eQ rfl (ai (aI aa al (h j ab) rfl rfl) ?_)
  refine kD rfl (ee (an (aX rfl (ai (aZ _ _ rfl rfl (bD ab)) ?_))))
  refine be rfl (aJ (⟨j+1,?_,?_,?_⟩))
  ·omega
  ·skip
   refine Le.mkJ [] [] rfl ?_ ?_ trivial trivial ?_
   ·exact ⟨(iP rfl),(cj ag),(jb ag ag),trivial⟩
   ·exact ⟨(cp rfl rfl rfl),trivial⟩
   kernel_rfl
  omega
 obtain rfl:j=L.length:=by omega
 refine bC (id (hK6 _ ?_))
 clear hK6;try clear K6
 exact am (eQ rfl (kD rfl (aj (aF (qt rfl rfl)))))
theorem tS (n:Int) (s:Tx) (L:List Nd) (l:List Tx) (hs:s∈l) (hl:l.length≤1000) (F:Nat→List Tx) (hF:F 0=l) (h: ∀ j,j < L.length→Spec Tryz.prog 167 (ba [pi (lf L j), .sl (F j).length (fk (F j))] []) (aP (.sl (F (j+1)).length (fk (F (j+1)))) [])):
  Spec Tryz.prog 167 (ba [.agg [.v (.int .i64 1), .v (.int .i64 n), .v (bt s), .sl L.length (mE L)], .sl l.length (fk l)] []) (aP (.sl (F L.length).length (fk (F L.length))) []):=by
 refine Spec.ofN Tryz.func167 rfl Tryz.ntmps167 rfl ?_
 refine aq ?_
 refine lr 0 3 rfl rfl rfl fun hlen=> ?_
 unfold maxLen at hlen
 refine an (ai (aQ (2,0) _ rfl rfl) (ai (bp _ fA) (aj (aq (am (bb rfl rfl rfl (ca rfl rfl rfl (kx rfl rfl rfl (cL rfl (aO rfl rfl ah ?_))))))))))
 refine aO rfl rfl ah ?_
 refine aO rfl rfl ah ?_
 refine ai (aC _ _ _ rfl bN) (cL rfl (ax rfl rfl (aH _ nf) (ax rfl rfl (aE _ aa rfl rfl rfl) (ax rfl rfl (aG _ aa rfl rfl fw) (ax rfl rfl (aI aa al (gD l _ rfl ab s) rfl rfl) ?_)))))
 refine ax rfl rfl (cr _ rfl rfl) (ai (aC _ _ _ rfl bN) (aj (aW rfl (by rw [decide_eq_true hs];rfl) ?_)))
 refine aS (aU fun K4 hK4=> ?_)
 refine aq ?_
 refine aM (σ':=aD 45 [(1,_),(2,_)] [((2,0),_)] [] []) kp ?_
 refine an (be rfl (aj (ay ?_)))
 refine bs (α:=Nat) (fun j=> j≤L.length) 45 [(2,_)] [((2,0),_)] (fun j=> [(6, .v (.int .i64 (j:Int))),(1, .sl (F j).length (fk (F j)))]) (fun j=> []) [] [] (fun j=> L.length - j) 0 ?_ (by
  refine Le.mkJ [] [] rfl ?_ ?_ trivial trivial ?_
  ·exact ⟨(iP rfl),(cj ag),(jb (by rw [hF]) (by rw [hF])),trivial⟩
  ·exact ⟨(cp rfl rfl rfl),trivial⟩
  kernel_rfl) ?_
 ·omega
 intro j hj
 refine aU fun K6 hK6=> ?_
 refine am (aX rfl (bb rfl rfl rfl (fc rfl rfl rfl (ai (bo _ aa rfl) (ai (bm _ _ rfl rfl rfl) (aj (aR rfl (fun hc34=> ?_) (fun hc34=> ?_))))))))
 ·skip
  refine bq (hK6 _ ?_)
  clear hK6;try clear K6
  refine aq (ay (an (bb rfl rfl rfl (fc rfl rfl rfl (aX rfl (ai (bn _ _ aa rfl rfl _ rfl ab (by (simp only [aN,bg,bj,bv,bu,bG,bw];omega)) ag) ?_))))))
  refine ai (cf _ aa rfl (by exact cO _ _ ab) rfl) ?_
  refine eQ rfl (ai (aI aa al (h j ab) rfl rfl) ?_)
  refine kD rfl (ee (an (aX rfl (ai (aZ _ _ rfl rfl (bD ab)) ?_))))
  refine be rfl (aJ (⟨j+1,?_,?_,?_⟩))
  ·omega
  ·skip
   refine Le.mkJ [] [] rfl ?_ ?_ trivial trivial ?_
   ·exact ⟨(iP rfl),(cj ag),(jb ag ag),trivial⟩
   ·exact ⟨(cp rfl rfl rfl),trivial⟩
   kernel_rfl
  omega
 obtain rfl:j=L.length:=by omega
 refine bC (id (hK4 _ ?_))
 clear hK4;try clear K4
 exact am (eQ rfl (kD rfl (aj (aF (qt rfl rfl)))))
theorem sG (n:Int) (s:Tx) (L:List Nd) (l:List Tx) (hs:s∉l) (hl:l.length≤1000) (F:Nat→List Tx) (hF:F 0=l++[s]) (h: ∀ j,j < L.length→Spec Tryz.prog 167 (ba [pi (lf L j), .sl (F j).length (fk (F j))] []) (aP (.sl (F (j+1)).length (fk (F (j+1)))) [])):
  Spec Tryz.prog 167 (ba [.agg [.v (.int .i64 14), .v (.int .i64 n), .v (bt s), .sl L.length (mE L)], .sl l.length (fk l)] []) (aP (.sl (F L.length).length (fk (F L.length))) []):=by
 refine Spec.ofN Tryz.func167 rfl Tryz.ntmps167 rfl ?_
 refine aq ?_
 refine lr 0 3 rfl rfl rfl fun hlen=> ?_
 unfold maxLen at hlen
 refine an (ai (aQ (2,0) _ rfl rfl) (ai (bp _ fA) (aj (aq (am (bb rfl rfl rfl (ca rfl rfl rfl (gL rfl rfl rfl (cL rfl (ax rfl rfl (aE _ aa rfl rfl rfl) ?_))))))))))
 refine ax rfl rfl (aG _ aa rfl rfl eo) (ax rfl rfl (bA (r:=true) _ _ rfl rfl rfl) (ai (aC _ _ _ rfl bN) (cL rfl (ax rfl rfl (aH _ nf) (ax rfl rfl (aE _ aa rfl rfl rfl) (ax rfl rfl (aG _ aa rfl rfl fw) (ax rfl rfl (aI aa al (gD l _ rfl ab s) rfl rfl) ?_)))))))
 refine ax rfl rfl (cr _ rfl rfl) (ai (aC _ _ _ rfl bN) (aj (bJ rfl (by rw [decide_eq_false hs];rfl) ?_)))
 refine aq ?_
 refine aM (σ':=aD 45 [(1,_),(2,_)] [((2,0),_)] [] []) kp ?_
 refine an (ai (bp _ fA) (aj (am (ai (aH _ fA) (eQ rfl (ai (ww (24,0) _ _ aa rfl (.sl (by simp)) ab rfl) ?_))))))
 refine fh rfl (aj (an (gF rfl (bb rfl rfl rfl (ai (aG _ aa rfl rfl fw) (ai (bh _ _ aa rfl ag (by (simp <;> rfl)) ah rfl) ?_))))))
 refine ai (du (29,0) _ _ aa rfl rfl (by simp) (.sl rfl) ab rfl (mW _ _) (show l.length+1=(l++[s]).length by simp)) ?_
 refine fh rfl (aj (aU fun K6 hK6=> ?_))
 refine am (be rfl (aj (ay ?_)))
 refine aM (Le.frzS 1 (ys:=fk (l++[s])) rfl rfl rfl (by rw [List.drop_zero,Nat.mul_one];exact List.take_of_length_le (by simp)) (by simp)) ?_
 refine bs (α:=Nat) (fun j=> j≤L.length) 45 [(2,_)] [((2,0),_)] (fun j=> [(6, .v (.int .i64 (j:Int))),(1, .sl (F j).length (fk (F j)))]) (fun j=> []) [] [] (fun j=> L.length - j) 0 ?_ (by
  refine Le.mkJ [] [] rfl ?_ ?_ trivial trivial ?_
  ·exact ⟨(iP rfl),(cj ag),(jb (by rw [hF]) (by rw [hF])),trivial⟩
  ·exact ⟨(cp rfl rfl rfl),trivial⟩
  kernel_rfl) ?_
 ·omega
 intro j hj
 refine aU fun K8 hK8=> ?_
 refine am (aX rfl (bb rfl rfl rfl (fc rfl rfl rfl (ai (bo _ aa rfl) (ai (bm _ _ rfl rfl rfl) (aj (aR rfl (fun hc34=> ?_) (fun hc34=> ?_))))))))
 ·skip
  refine bq (hK8 _ ?_)
  clear hK8;try clear K8
  refine aq (ay (an (bb rfl rfl rfl (fc rfl rfl rfl (aX rfl (ai (bn _ _ aa rfl rfl _ rfl ab (by (simp only [aN,bg,bj,bv,bu,bG,bw];omega)) ag) ?_))))))
  refine ai (cf _ aa rfl (by exact cO _ _ ab) rfl) ?_
  refine eQ rfl (ai (aI aa al (h j ab) rfl rfl) ?_)
  refine kD rfl (ee (an (aX rfl (ai (aZ _ _ rfl rfl (bD ab)) ?_))))
  refine be rfl (aJ (⟨j+1,?_,?_,?_⟩))
  ·omega
  ·skip
   refine Le.mkJ [] [] rfl ?_ ?_ trivial trivial ?_
   ·exact ⟨(iP rfl),(cj ag),(jb ag ag),trivial⟩
   ·exact ⟨(cp rfl rfl rfl),trivial⟩
   kernel_rfl
  omega
 obtain rfl:j=L.length:=by omega
 refine bC (id (hK6 _ ?_))
 clear hK6;try clear K6
 exact am (eQ rfl (kD rfl (aj (aF (qt rfl rfl)))))
theorem sX (n:Int) (s:Tx) (L:List Nd) (l:List Tx) (hs:s∈l) (hl:l.length≤1000) (F:Nat→List Tx) (hF:F 0=l) (h: ∀ j,j < L.length→Spec Tryz.prog 167 (ba [pi (lf L j), .sl (F j).length (fk (F j))] []) (aP (.sl (F (j+1)).length (fk (F (j+1)))) [])):
  Spec Tryz.prog 167 (ba [.agg [.v (.int .i64 14), .v (.int .i64 n), .v (bt s), .sl L.length (mE L)], .sl l.length (fk l)] []) (aP (.sl (F L.length).length (fk (F L.length))) []):=by
 refine Spec.ofN Tryz.func167 rfl Tryz.ntmps167 rfl ?_
 refine aq ?_
 refine lr 0 3 rfl rfl rfl fun hlen=> ?_
 unfold maxLen at hlen
 refine an (ai (aQ (2,0) _ rfl rfl) (ai (bp _ fA) (aj (aq (am (bb rfl rfl rfl (ca rfl rfl rfl (gL rfl rfl rfl (cL rfl (ax rfl rfl (aE _ aa rfl rfl rfl) ?_))))))))))
 refine ax rfl rfl (aG _ aa rfl rfl eo) (ax rfl rfl (bA (r:=true) _ _ rfl rfl rfl) (ai (aC _ _ _ rfl bN) (cL rfl (ax rfl rfl (aH _ nf) (ax rfl rfl (aE _ aa rfl rfl rfl) (ax rfl rfl (aG _ aa rfl rfl fw) (ax rfl rfl (aI aa al (gD l _ rfl ab s) rfl rfl) ?_)))))))
 refine ax rfl rfl (cr _ rfl rfl) (ai (aC _ _ _ rfl bN) (aj (aW rfl (by rw [decide_eq_true hs];rfl) ?_)))
 refine aS (aU fun K4 hK4=> ?_)
 refine aq ?_
 refine aM (σ':=aD 45 [(1,_),(2,_)] [((2,0),_)] [] []) kp ?_
 refine an (be rfl (aj (ay ?_)))
 refine bs (α:=Nat) (fun j=> j≤L.length) 45 [(2,_)] [((2,0),_)] (fun j=> [(6, .v (.int .i64 (j:Int))),(1, .sl (F j).length (fk (F j)))]) (fun j=> []) [] [] (fun j=> L.length - j) 0 ?_ (by
  refine Le.mkJ [] [] rfl ?_ ?_ trivial trivial ?_
  ·exact ⟨(iP rfl),(cj ag),(jb (by rw [hF]) (by rw [hF])),trivial⟩
  ·exact ⟨(cp rfl rfl rfl),trivial⟩
  kernel_rfl) ?_
 ·omega
 intro j hj
 refine aU fun K6 hK6=> ?_
 refine am (aX rfl (bb rfl rfl rfl (fc rfl rfl rfl (ai (bo _ aa rfl) (ai (bm _ _ rfl rfl rfl) (aj (aR rfl (fun hc34=> ?_) (fun hc34=> ?_))))))))
 ·skip
  refine bq (hK6 _ ?_)
  clear hK6;try clear K6
  refine aq (ay (an (bb rfl rfl rfl (fc rfl rfl rfl (aX rfl (ai (bn _ _ aa rfl rfl _ rfl ab (by (simp only [aN,bg,bj,bv,bu,bG,bw];omega)) ag) ?_))))))
  refine ai (cf _ aa rfl (by exact cO _ _ ab) rfl) ?_
  refine eQ rfl (ai (aI aa al (h j ab) rfl rfl) ?_)
  refine kD rfl (ee (an (aX rfl (ai (aZ _ _ rfl rfl (bD ab)) ?_))))
  refine be rfl (aJ (⟨j+1,?_,?_,?_⟩))
  ·omega
  ·skip
   refine Le.mkJ [] [] rfl ?_ ?_ trivial trivial ?_
   ·exact ⟨(iP rfl),(cj ag),(jb ag ag),trivial⟩
   ·exact ⟨(cp rfl rfl rfl),trivial⟩
   kernel_rfl
  omega
 obtain rfl:j=L.length:=by omega
 refine bC (id (hK4 _ ?_))
 clear hK4;try clear K4
 exact am (eQ rfl (kD rfl (aj (aF (qt rfl rfl)))))
theorem uo (k:Nat) (hk:k≠1∧k≠14) (n:Int) (s:Tx) (L:List Nd) (l:List Tx) (hl:l.length≤1000) (F:Nat→List Tx) (hF:F 0=l) (h: ∀ j,j < L.length→Spec Tryz.prog 167 (ba [pi (lf L j), .sl (F j).length (fk (F j))] []) (aP (.sl (F (j+1)).length (fk (F (j+1)))) [])):
  Spec Tryz.prog 167 (ba [.agg [.v (.int .i64 (k:Int)), .v (.int .i64 n), .v (bt s), .sl L.length (mE L)], .sl l.length (fk l)] []) (aP (.sl (F L.length).length (fk (F L.length))) []):=by
 refine Spec.ofN Tryz.func167 rfl Tryz.ntmps167 rfl ?_
 refine aq ?_
 refine lr 0 3 rfl rfl rfl fun hlen=> ?_
 unfold maxLen at hlen
 refine an (ai (aQ (2,0) _ rfl rfl) (ai (bp _ fA) (aj (aq (am (bb rfl rfl rfl (ca rfl rfl rfl (gL rfl rfl (beq_eq_false_iff_ne.2 ab) ?_))))))))
 refine cL rfl (ax rfl rfl (aE _ aa rfl rfl rfl) (ax rfl rfl (aG _ aa rfl rfl eo) (ax rfl rfl (bA (r:=false) _ _ rfl rfl (beq_eq_false_iff_ne.2 ab)) ?_)))
 refine ai (aC _ _ _ rfl bN) (cL rfl (aO rfl rfl ah ?_))
 refine aO rfl rfl ah ?_
 refine aO rfl rfl ah ?_
 refine aO rfl rfl ah ?_
 refine aO rfl rfl ah ?_
 refine ai (aC _ _ _ rfl bN) (aj (aW rfl rfl (aS (aU fun K4 hK4=> ?_))))
 refine aq ?_
 refine aM (σ':=aD 45 [(1,_),(2,_)] [((2,0),_)] [] []) kp ?_
 refine an (be rfl (aj (ay ?_)))
 refine bs (α:=Nat) (fun j=> j≤L.length) 45 [(2,_)] [((2,0),_)] (fun j=> [(6, .v (.int .i64 (j:Int))),(1, .sl (F j).length (fk (F j)))]) (fun j=> []) [] [] (fun j=> L.length - j) 0 ?_ (by
  refine Le.mkJ [] [] rfl ?_ ?_ trivial trivial ?_
  ·exact ⟨(iP rfl),(cj ag),(jb (by rw [hF]) (by rw [hF])),trivial⟩
  ·exact ⟨(cp rfl rfl rfl),trivial⟩
  kernel_rfl) ?_
 ·omega
 intro j hj
 refine aU fun K6 hK6=> ?_
 refine am (aX rfl (bb rfl rfl rfl (fc rfl rfl rfl (ai (bo _ aa rfl) (ai (bm _ _ rfl rfl rfl) (aj (aR rfl (fun hc34=> ?_) (fun hc34=> ?_))))))))
 ·skip
  refine bq (hK6 _ ?_)
  clear hK6;try clear K6
  refine aq (ay (an (bb rfl rfl rfl (fc rfl rfl rfl (aX rfl (ai (bn _ _ aa rfl rfl _ rfl ab (by (simp only [aN,bg,bj,bv,bu,bG,bw];omega)) ag) ?_))))))
  refine ai (cf _ aa rfl (by exact cO _ _ ab) rfl) ?_
  refine eQ rfl (ai (aI aa al (h j ab) rfl rfl) ?_)
  refine kD rfl (ee (an (aX rfl (ai (aZ _ _ rfl rfl (bD ab)) ?_))))
  refine be rfl (aJ (⟨j+1,?_,?_,?_⟩))
  ·omega
  ·skip
   refine Le.mkJ [] [] rfl ?_ ?_ trivial trivial ?_
   ·exact ⟨(iP rfl),(cj ag),(jb ag ag),trivial⟩
   ·exact ⟨(cp rfl rfl rfl),trivial⟩
   kernel_rfl
  omega
 obtain rfl:j=L.length:=by omega
 refine bC (id (hK4 _ ?_))
 clear hK4;try clear K4
 exact am (eQ rfl (kD rfl (aj (aF (qt rfl rfl)))))
def fT (fs:List (List Tx→List Tx)) (l:List Tx):List Tx:=fs.foldl (fun l f=> f l) l
theorem kL {fs:List (List Tx→List Tx)} {l:List Tx} {j:Nat} (h:j < fs.length):fT (fs.take (j+1)) l=fs.getD j id (fT (fs.take j) l):=by
 rw [List.take_succ_eq_append_getElem h]
 unfold fT
 rw [List.foldl_append,List.getD_eq_getElem?_getD,List.getElem?_eq_getElem h];rfl
abbrev zj (nm:List Tx) (d:Nd) (f:List Tx→List Tx):Prop:= ∀ l,GN nm l→Spec Tryz.prog 167 (ba [pi d, .sl l.length (fk l)] []) (aP (.sl (f l).length (fk (f l))) [])∧GN nm (f l)
section
variable {nm:List Tx} (hnm:nm.length≤16) {L:List Nd} {fs:List (List Tx→List Tx)} (hfs:fs.length=L.length) (h: ∀ j,j < L.length→zj nm (lf L j) (fs.getD j id))
theorem qN (hfs:fs.length=L.length) (h: ∀ j,j < L.length→zj nm (lf L j) (fs.getD j id)) {l:List Tx} (hl:GN nm l): ∀ j,j≤L.length→GN nm (fT (fs.take j) l)
 | 0,_=> by simpa [fT] using hl
 | j+1,hj=> by
  rw [kL ab]
  exact (h j ab _ (qN hfs h hl j ab)).2
theorem cF (hnm:nm.length≤16) (hfs:fs.length=L.length) (h: ∀ j,j < L.length→zj nm (lf L j) (fs.getD j id)) (k:Nat) (hk:k≠1∧k≠14) (n:Nat) (s:Tx):zj nm (nd k n s L) (fT fs):=fun l hl=> by
 have hg:=qN hfs h hl
 have he:fT (fs.take L.length) l=fT fs l:=by rw [← hfs,List.take_length]
 have hw:=uo k hk n s L l (by have:=hl.len;omega) (fun j=> fT (fs.take j) l) rfl fun j hj=> by
  rw [show fT (fs.take (j+1)) l=_ from kL ab]
  exact (h j hj _ (hg j ab)).1
 rw [he] at hw
 exact ⟨hw,he ▸ hg _ (Nat.le_refl _)⟩
theorem xG (hnm:nm.length≤16) (hfs:fs.length=L.length) (h: ∀ j,j < L.length→zj nm (lf L j) (fs.getD j id)) (n:Nat) {i:Nat} (hi:i < nm.length):zj nm (nd 1 n (nm.getD i []) L) (fun l=> fT fs (iL (nm.getD i []) l)):=fun l hl=> by
 have hg:=qN hfs h (hl.add hi)
 have he:fT (fs.take L.length) (iL (nm.getD i []) l)=fT fs (iL (nm.getD i []) l):=by rw [← hfs,List.take_length]
 have hkid: ∀ j,j < L.length→_:=fun j hj=> (h j hj _ (hg j ab)).1
 have hll:=hl.len
 show Spec _ _ _ (aP (.sl (fT fs (iL (nm.getD i []) l)).length (fk (fT fs (iL (nm.getD i []) l)))) [])∧GN nm (fT fs (iL (nm.getD i []) l))
 rw [← he]
 refine ⟨?_,hg _ (Nat.le_refl _)⟩
 by_cases hs:nm.getD i []∈l
 ·exact tS n _ L l hs ab (fun j=> fT (fs.take j) (iL (nm.getD i []) l)) (by show iL _ l=l;unfold iL;rw [if_pos hs]) fun j hj=> by
   rw [show fT (fs.take (j+1)) (iL (nm.getD i []) l)=_ from kL ab]
   exact hkid j hj
 exact ue n _ L l hs ab (fun j=> fT (fs.take j) (iL (nm.getD i []) l)) (by show iL _ l=_;unfold iL;rw [if_neg hs]) fun j hj=> by
  rw [show fT (fs.take (j+1)) (iL (nm.getD i []) l)=_ from kL ab]
  exact hkid j hj
end
theorem xQ {nm:List Tx} (hnm:nm.length≤16) {i:Nat} (hi:i < nm.length):zj nm (nd 14 0 (nm.getD i []) []) (iL (nm.getD i [])):=fun l hl=> by
 have hll:=hl.len
 refine ⟨?_,hl.add hi⟩
 by_cases hs:nm.getD i []∈l
 ·exact sX 0 _ [] l hs ab (fun _=> iL (nm.getD i []) l) (by show iL _ l=l;unfold iL;rw [if_pos hs]) fun j hj=> by simp at hj
 exact sG 0 _ [] l hs ab (fun _=> iL (nm.getD i []) l) (by show iL _ l=_;unfold iL;rw [if_neg hs]) fun j hj=> by simp at hj
section
variable {nm:List Tx}
abbrev Bq (nm:List Tx) (L:List Nd) (fs:List (List Tx→List Tx)):Prop:= ∀ j,j < L.length→zj nm (lf L j) (fs.getD j id)
theorem rh:Bq nm [] []:=fun j hj=> by simp at hj
theorem qV {d:Nd} {f:List Tx→List Tx} {L:List Nd} {fs:List (List Tx→List Tx)} (h:zj nm d f) (h':Bq nm L fs):Bq nm (d::L) (f::fs):=fun j hj=> by
 cases j with
 | zero=> exact h
 | succ j=> exact h' j (by simpa using hj)
theorem dC (hnm:nm.length≤16): ∀ e:Ex,ia nm.length e→zj nm (eN nm e) (tH nm e)
 | .int _,_=> cF hnm rfl rh 12 ab _ _
 | .bool _,_=> cF hnm rfl rh 13 ab _ _
 | .name _,_=> cF hnm rfl rh 15 ab _ _
 | .var i,h=> xQ hnm h
 | .draw e,h=> cF hnm rfl (qV (dC hnm e h) rh) 16 ab _ _
 | .neg e,h=> cF hnm rfl (qV (dC hnm e h) rh) 17 ab _ _
 | .not e,h=> cF hnm rfl (qV (dC hnm e h) rh) 17 ab _ _
 | .bin _ a b,h=> cF hnm rfl (qV (dC hnm a h.1) (qV (dC hnm b h.2) rh)) 18 ab _ _
 | .and a b,h=> cF hnm rfl (qV (dC hnm a h.1) (qV (dC hnm b h.2) rh)) 18 ab _ _
 | .or a b,h=> cF hnm rfl (qV (dC hnm a h.1) (qV (dC hnm b h.2) rh)) 18 ab _ _
def Gx (nm:List Tx):Bk→List (List Tx→List Tx)
 | .nil=> []
 | .cons s b=> KX nm s::Gx nm b
theorem xC (nm:List Tx): ∀ b:Bk,(Gx nm b).length=(jc nm b).length
 | .nil=> by simp [Gx,jc]
 | .cons s b=> by simp [Gx,jc,xC nm b]
theorem uZ (nm:List Tx): ∀ (b:Bk) (l:List Tx),fT (Gx nm b) l=Dt nm b l
 | .nil,l=> rfl
 | .cons s b,l=> by rw [Dt,← uZ nm b];rfl
theorem ma (hnm:nm.length≤16) {b:Bk} (h:Bq nm (jc nm b) (Gx nm b)):zj nm (jf nm b) (Dt nm b):=by
 have:=cF hnm (xC nm b) h 11 ab 0 []
 rwa [show fT (Gx nm b)=Dt nm b from funext (uZ nm b)] at this
mutual
theorem CT (hnm:nm.length≤16): ∀ s:Sm,gJ nm.length s→zj nm (FD nm s) (KX nm s)
 | .assign i e,h=> by rw [gJ] at h;exact xG hnm rfl (qV (dC hnm e h.2) rh) 0 h.1
 | .send t k a b,h=> by rw [gJ] at h;exact cF hnm rfl (qV (dC hnm t h.2.1) (qV (dC hnm a h.2.2.1) (qV (dC hnm b h.2.2.2) rh))) 4 ab _ _
 | .timer _,_=> cF hnm rfl rh 5 ab _ _
 | .cancel _,_=> cF hnm rfl rh 6 ab _ _
 | .sync,_=> cF hnm rfl rh 7 ab _ _
 | .stop,_=> cF hnm rfl rh 10 ab _ _
 | .reply a b,h=> by rw [gJ] at h;exact cF hnm rfl (qV (dC hnm a h.1) (qV (dC hnm b h.2) rh)) 8 ab _ _
 | .fail e,h=> by rw [gJ] at h;exact cF hnm rfl (qV (dC hnm e h) rh) 9 ab _ _
 | .loop c b,h=> by rw [gJ] at h;exact cF hnm rfl (qV (dC hnm c h.1) (qV (ma hnm (lC hnm b h.2)) rh)) 3 ab _ _
 | .ite c a b,h=> by rw [gJ] at h;exact cF hnm rfl (qV (dC hnm c h.1) (qV (ma hnm (lC hnm a h.2.1)) (qV (ma hnm (lC hnm b h.2.2)) rh))) 2 ab _ _
theorem lC (hnm:nm.length≤16): ∀ b:Bk,li nm.length b→Bq nm (jc nm b) (Gx nm b)
 | .nil,_=> rh
 | .cons s b,h=> by rw [li] at h;exact qV (CT hnm s h.1) (lC hnm b h.2)
end
theorem Bw (hnm:nm.length≤16) (b:Bk) (h:li nm.length b):zj nm (jf nm b) (Dt nm b):=ma hnm (lC hnm b h)
end

theorem mM {l:List Tx} (h:l.Nodup) {i j:Nat} (hi:i < l.length) (hj:j < l.length) (e:l.getD i []=l.getD j []):i=j:=by
 rw [List.getD_eq_getElem?_getD,List.getD_eq_getElem?_getD,List.getElem?_eq_getElem hi,List.getElem?_eq_getElem hj] at e
 have h:=List.pairwise_iff_getElem.1 h
 rcases Nat.lt_trichotomy i j with hlt | rfl | hlt
 ·exact absurd (Option.some.inj (by simpa using e)) (h i j hi hj hlt)
 ·rfl
 exact absurd (Option.some.inj (by simpa using e)).symm (h j i hj hi hlt)
theorem rW {a b:List Tx} {k:Nat} (h:k < a.length):a.getD k []=(a++b).getD k []:=by
 rw [List.getD_eq_getElem?_getD,List.getD_eq_getElem?_getD,List.getElem?_append_left h]
theorem getD_right {a b:List Tx} {k:Nat}:b.getD k []=(a++b).getD (a.length+k) []:=by
 rw [List.getD_eq_getElem?_getD,List.getD_eq_getElem?_getD,List.getElem?_append_right ab,Nat.add_sub_cancel_left]
theorem mz (d v:List Tx) (on:List PV) (no:Nat) (hn:(d++v).Nodup) (hl:(d++v).length≤1000) (i:Nat) (hi:i < (d++v).length):
  Spec Tryz.prog 121 (ba [.agg [.sl d.length (fk d), .sl v.length (fk v), .sl no on], .v (bt ((d++v).getD i []))] []) (aP (.v (.int .i64 (i:Int))) []):=by
 have hl2:(d++v).length=d.length+v.length:=List.length_append
 refine Spec.ofN Tryz.func121 rfl Tryz.ntmps121 rfl ?_
 refine am (ai (aQ (2,0) _ rfl rfl) (be rfl (aj (aU fun K2 hK2=> ?_))))
 refine am (be rfl (aj (ay ?_)))
 refine bs (α:=Nat) (fun k=> k≤d.length∧k≤i) 41 [(1,_),(2,_)] [((2,0),_)] (fun k=> [(5, .v (.int .i64 (k:Int)))]) (fun k=> []) [] [] (fun k=> d.length - k) 0 ?_ (by
  refine Le.mkJ [] [] rfl ?_ ?_ trivial trivial ?_
  ·exact ⟨(iV rfl),(iP rfl),(cj ag),trivial⟩
  ·exact ⟨(cp rfl rfl rfl),trivial⟩
  kernel_rfl) ?_
 ·exact ⟨Nat.zero_le _,Nat.zero_le _⟩
 intro k hk
 obtain ⟨hk,hki⟩:=hk
 refine aU fun K4 hK4=> ?_
 refine am (aX rfl (bb rfl rfl rfl (fc rfl rfl rfl (ai (bo _ aa rfl) (ai (bm _ _ rfl rfl rfl) (aj (aR rfl (fun hc11=> ?_) (fun hc11=> ?_))))))))
 ·skip
  refine bq (hK4 _ ?_)
  clear hK4;try clear K4
  refine aq (ay (am (bb rfl rfl rfl (fc rfl rfl rfl (aX rfl (ai (bn _ _ aa rfl rfl _ rfl ab (by (simp only [aN,bg,bj,bv,bu,bG,bw,List.length_map];omega)) (by exact Nat.mul_one _)) ?_))))))
  refine ai (bQ _ aa rfl (by exact jP _ _ ab) rfl) ?_
  refine eh rfl (ai (aV _ _ Tryz.underlying9 rfl rfl rfl) (aj (aR rfl (fun hc20=> ?_) (fun hc20=> ?_))))
  ·skip
   have he:k=i:=mM hn ab hi ((rW ab).symm.trans hc20)
   refine am (aX rfl (be rfl (aj (aF (rB rfl rfl ?_)))))
   rw [he]
  have he:k≠i:=fun e=> hc20 ((rW ab).trans (by rw [e]))
  refine cu (an (aX rfl (ai (aZ _ _ rfl rfl (bD ab)) ?_)))
  refine be rfl (aJ (⟨k+1,?_,?_,?_⟩))
  ·exact ⟨by omega,by omega⟩
  ·skip
   refine Le.mkJ [] [] rfl ?_ ?_ trivial trivial ?_
   ·exact ⟨(iV rfl),(iP rfl),(cj ag),trivial⟩
   ·exact ⟨(cp rfl rfl rfl),trivial⟩
   kernel_rfl
  omega
 refine bC (id (hK2 _ ?_))
 clear hK2;try clear K2
 refine aq (am (be rfl (aj (ay ?_))))
 refine bs (α:=Nat) (fun q=> q≤v.length∧d.length+q≤i) 41 [(1,_),(2,_)] [((2,0),_)] (fun q=> [(6, .v (.int .i64 (q:Int)))]) (fun q=> []) [] [] (fun q=> v.length - q) 0 ?_ (by
  refine Le.mkJ [] [] rfl ?_ ?_ trivial trivial ?_
  ·exact ⟨(iV rfl),(iP rfl),(cj ag),trivial⟩
  ·exact ⟨(cp rfl rfl rfl),trivial⟩
  kernel_rfl) ?_
 ·exact ⟨Nat.zero_le _,by omega⟩
 intro q hq
 obtain ⟨hq,hqi⟩:=hq
 refine aU fun K11 hK11=> ?_
 refine am (aX rfl (bb rfl rfl rfl (fc rfl rfl rfl (ai (bo _ aa rfl) (ai (bm _ _ rfl rfl rfl) (aj (aR rfl (fun hc26=> ?_) (fun hc26=> ?_))))))))
 ·skip
  refine bq (hK11 _ ?_)
  clear hK11;try clear K11
  refine aq (ay (am (bb rfl rfl rfl (fc rfl rfl rfl (aX rfl (ai (bn _ _ aa rfl rfl _ rfl ab (by (simp only [aN,bg,bj,bv,bu,bG,bw,List.length_map];omega)) (by exact Nat.mul_one _)) ?_))))))
  refine ai (bQ _ aa rfl (by exact jP _ _ ab) rfl) ?_
  refine eh rfl (ai (aV _ _ Tryz.underlying9 rfl rfl rfl) (aj (aR rfl (fun hc35=> ?_) (fun hc35=> ?_))))
  ·skip
   have he:d.length+q=i:=mM hn ab hi (getD_right.symm.trans hc35)
   refine am (bb rfl rfl rfl (fc rfl rfl rfl (ai (bo _ aa rfl) (aX rfl (ai (aZ _ _ rfl rfl (bD ab)) ?_)))))
   refine be rfl (aj (aF (rB rfl rfl ?_)))
   omega
  have he:d.length+q≠i:=fun e=> hc35 (getD_right.trans (by rw [e]))
  refine cu (an (aX rfl (ai (aZ _ _ rfl rfl (bD ab)) ?_)))
  refine be rfl (aJ (⟨q+1,?_,?_,?_⟩))
  ·exact ⟨by omega,by omega⟩
  ·skip
   refine Le.mkJ [] [] rfl ?_ ?_ trivial trivial ?_
   ·exact ⟨(iV rfl),(iP rfl),(cj ag),trivial⟩
   ·exact ⟨(cp rfl rfl rfl),trivial⟩
   kernel_rfl
  omega
 exact absurd hqi ab
theorem zY (ons:List (Nat×Bk)) (nm:List Tx) (k:Nat) (h:k < ons.length):oQ (ons.map fun p=> (p.1,jf nm p.2)) k=((ons[k]).1,jf nm (ons[k]).2):=by
 rw [oH _ _ (by simpa using h),List.getElem_map]
theorem uC (l:List Hd) (k:Nat) (h:k < l.length):PV.ups (((mj l).drop (k*5+1)).take 4)=[.v (.int .i64 ((oQ l k).2.k:Int)), .v (.int .i64 ((oQ l k).2.n:Int)), .v (bt (oQ l k).2.s), .sl (oQ l k).2.kn (oQ l k).2.kids]:=by
 have e:=ms vL 5 (fun _=> rfl) l k h
 have:((mj l).drop (k*5+1)).take 4=(((l.flatMap vL).drop (k*5)).take 5).drop 1:=by
  rw [List.drop_take,List.drop_drop];rfl
 rw [this,e,oH l k h];rfl
theorem qb (d v:List Tx) (ons:List (Nat×Bk)) (hn:(d++v).Nodup) (hl:(d++v).length≤16) (ho: ∀ p∈ons,li (d++v).length p.2) (hw: ∀ p∈ons,qh p.2=true) (hc:ons.length≤1000):
  Spec Tryz.prog 97 (ba [JA d v (ons.map fun p=> (p.1,jf (d++v) p.2))] []) (aP (.v (.int .i64 0)) []):=by
 obtain ⟨H,hH⟩: ∃ H,H=ons.map fun p=> (p.1,jf (d++v) p.2):=⟨_,rfl⟩
 have hHl:H.length=ons.length:=by rw [hH,List.length_map]
 rw [← hH]
 have hHk: ∀ k (h:k < ons.length),oQ H k=((ons[k]).1,jf (d++v) (ons[k]).2):=fun k h=> by rw [hH];exact zY ons _ k h
 clear hH
 refine Spec.ofN Tryz.func97 rfl Tryz.ntmps97 rfl ?_
 refine am (ai (aQ (1,0) _ rfl rfl) (be rfl (aj (aU fun K2 hK2=> ?_))))
 refine am (be rfl (aj (ay ?_)))
 refine bs (α:=Nat) (fun k=> k≤H.length) 43 [(1,_)] [((1,0),_)] (fun k=> [(3, .v (.int .i64 (k:Int)))]) (fun k=> []) [] [] (fun k=> H.length - k) 0 ?_ (by
  refine Le.mkJ [] [] rfl ?_ ?_ trivial trivial ?_
  ·exact ⟨(iP rfl),(cj ag),trivial⟩
  ·exact ⟨(cp rfl rfl rfl),trivial⟩
  kernel_rfl) ?_
 ·omega
 intro k hk
 refine aU fun K4 hK4=> ?_
 refine am (aX rfl (bb rfl rfl rfl (fc rfl rfl rfl (ai (bo _ aa rfl) (ai (bm _ _ rfl rfl rfl) (aj (aR rfl (fun hc11=> ?_) (fun hc11=> ?_))))))))
 ·skip
  have hk2:k < ons.length:=by omega
  obtain ⟨b,hb⟩: ∃ b,b=(ons[k]).2:=⟨_,rfl⟩
  have hkH:=hHk k hk2
  rw [← hb] at hkH
  have hwb:=Fg (d++v) b (hb ▸ hw _ (List.getElem_mem hk2))
  obtain ⟨hnb,hng⟩:=Bw hl b (hb ▸ ho _ (List.getElem_mem hk2)) [] GN.nil
  have hbody:=uC H k ab
  rw [hkH] at hbody
  generalize Dt (d++v) b []=M at hnb hng
  have hMl:=hng.len
  refine bq (hK4 _ ?_)
  clear hK4;try clear K4
  refine aU fun K6 hK6=> ?_
  refine ay (am (bb rfl rfl rfl (fc rfl rfl rfl (aX rfl (ai (bn _ _ aa rfl rfl _ rfl ab (by (simp only [aN,bg,bj,bv,bu,bG,bw,List.length_map];omega)) ag) ?_)))))
  refine ai (dc _ aa rfl rfl) (ai (cf _ aa rfl (by exact hbody) rfl) ?_)
  refine ai (aI aa al (hwb) rfl rfl) ?_
  refine cq rfl (aj (aq (am (cL rfl (ai (cr (r:=false) _ rfl rfl) (aj (aW rfl rfl (aS (aq ?_)))))))))
  refine aM (σ':=aD 43 [(1,_),(3,_)] [((1,0),_)] [] []) kp ?_
  refine an (bb rfl rfl rfl (fc rfl rfl rfl (aX rfl (ai (bn _ _ aa rfl rfl _ rfl ab (by (simp only [aN,bg,bj,bv,bu,bG,bw,List.length_map];omega)) ag) ?_))))
  refine ai (dc _ aa rfl rfl) (ai (cf _ aa rfl (by exact hbody) rfl) ?_)
  refine ai (aI aa al (hnb) rfl rfl) ?_
  refine kD rfl (aj (am (be rfl (aj (ay ?_)))))
  refine bs (α:=Nat) (fun q=> q≤M.length) 43 [(1,_),(3,_),(5,_)] [((1,0),_)] (fun q=> [(6, .v (.int .i64 (q:Int)))]) (fun q=> []) [] [] (fun q=> M.length - q) 0 ?_ (by
   refine Le.mkJ [] [] rfl ?_ ?_ trivial trivial ?_
   ·exact ⟨(iP rfl),(iV rfl),(iS rfl),(cj ag),trivial⟩
   ·exact ⟨(cp rfl rfl rfl),trivial⟩
   kernel_rfl) ?_
  ·omega
  intro q hq
  refine aU fun K12 hK12=> ?_
  refine am (aX rfl (eQ rfl (ai (bo _ aa rfl) (ai (bm _ _ rfl rfl rfl) (aj (aR rfl (fun hc33=> ?_) (fun hc33=> ?_)))))))
  ·skip
   obtain ⟨i,hi,hiq⟩: ∃ i,i < (d++v).length∧M.getD q []=(d++v).getD i []:=by
    have hm:=hng.2 _ (ka (show q < M.length by omega))
    obtain ⟨i,hi,he⟩:=List.getElem_of_mem hm
    exact ⟨i,hi,by rw [List.getD_eq_getElem?_getD (l:=d++v),List.getElem?_eq_getElem hi,← he];rfl⟩
   have hix:=mz d v (mj H) H.length hn ab i hi
   rw [← hiq] at hix
   refine bq (hK12 _ ?_)
   clear hK12;try clear K12
   refine aq (ay (aq ?_))
   refine aM (σ':=aD 43 [(1,_),(3,_),(5,_),(6,_)] [((1,0),_)] [] []) kp ?_
   refine bL 7 [36,37,38,39,40,41,42] [] ae ae rfl (aK rfl) (rfl:_=[_,_,_,_,_,_,_]) (rfl:_=[]) ?_
   refine ap (_,[]) (fun τ=> az _ aa rfl rfl rfl rfl) ?_
   refine fN rfl ?_
   refine ap (_,[]) (fun τ=> aH _ nf) ?_
   refine fO rfl ?_
   refine ap (_,[]) (fun τ=> aH _ ea) ?_
   refine fS rfl ?_
   refine ap (_,[]) (fun τ=> bn _ _ aa rfl rfl _ rfl ab (by (simp only [aN,bg,bj,bv,bu,bG,bw,List.length_map];omega)) (by exact Nat.mul_one _)) ?_
   refine fY rfl ?_
   refine ap (_,[]) (fun τ=> bQ _ aa rfl (by exact jP _ _ ab) rfl) ?_
   refine gz rfl ?_
   refine ap (_,[]) (fun τ=> (aI aa al (hix) rfl rfl)) ?_
   refine hZ rfl ?_
   refine ap (_,[]) (fun τ=> bm (r:=false) _ _ rfl rfl (decide_eq_false ab)) ?_
   refine iX rfl (bl ⟨rfl,?_⟩)
   refine aj (aW rfl rfl (cu (an (aX rfl (ai (aZ _ _ rfl rfl (bD ab)) ?_)))))
   refine be rfl (aJ (⟨q+1,?_,?_,?_⟩))
   ·omega
   ·skip
    refine Le.mkJ [] [] rfl ?_ ?_ trivial trivial ?_
    ·exact ⟨(iP rfl),(iV rfl),(iS rfl),(cj ag),trivial⟩
    ·exact ⟨(cp rfl rfl rfl),trivial⟩
    kernel_rfl
   omega
  refine bC (id (hK6 _ ?_))
  clear hK6;try clear K6
  refine an (aX rfl (ai (aZ _ _ rfl rfl (bD ab)) ?_))
  refine be rfl (aJ (⟨k+1,?_,?_,?_⟩))
  ·omega
  ·skip
   refine Le.mkJ [] [] rfl ?_ ?_ trivial trivial ?_
   ·exact ⟨(iP rfl),(cj ag),trivial⟩
   ·exact ⟨(cp rfl rfl rfl),trivial⟩
   kernel_rfl
  omega
 refine bC (id (hK2 _ ?_))
 clear hK2;try clear K2
 exact am (be rfl (aj (aF (fu rfl rfl))))
end Go.Proofs.YtmjnackchaahbaaGreat
