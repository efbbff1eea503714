/- Part 11 of the texts that the walk leans on: the machine, the walks, the plain laws. -/
import Derived.Test.YtmjnackchaahbaaGreatNkZ10
set_option linter.unusedSimpArgs false
set_option linter.unusedVariables false
namespace Go.Proofs.YtmjnackchaahbaaGreat
open Go.RowKit

def lf (l:List Nd) (j:Nat):Nd:=l.getD j ⟨0,0,[],0,[]⟩
theorem HV (l:List Nd) (k:Nat) (h:k < l.length):lf l k=l[k]:=by simp [lf,h]
theorem cN (l:List Nd) (k:Nat) (h:k < l.length):PV.ups (((mR l).drop (k*4)).take 4)=[.v (.int .i64 ((lf l k).k:Int)), .v (.int .i64 ((lf l k).n:Int)), .v (bt (lf l k).s), .sl (lf l k).kn (lf l k).kids]:=by
 rw [HV l k h,show ((mR l).drop (k*4)).take 4=l[k].row from mt Nd.row 4 (fun _=> rfl) l k h];rfl
theorem gF (l:List Tx) (n:Nat) (hn:l.length=n) (h1:n≤1000) (t:Tx):Spec Tryz.prog 204 (ba [.sl n (fm l), .v (bt t)] []) (aP (.v (.bool (decide (t∈l)))) []):=by
 refine Spec.ofN Tryz.func204 rfl Tryz.ntmps204 rfl ?_
 refine am (cu rfl (aj (aT fun K2 hK2=> ?_)))
 refine am (bg rfl (aj (ay ?_)))
 refine bq (α:=Nat) (fun k=> k≤n∧t∉l.take k) 18 [(0,_),(1,_)] [] (fun k=> [(5, .v (.int .i64 (k:Int)))]) (fun k=> []) [] [] (fun k=> n - k) 0 ?_ (by
  refine Le.mkJ [] [] rfl ?_ ?_ trivial trivial ?_
  ·exact ⟨(iS rfl),(iV rfl),(ci ag),trivial⟩
  ·exact trivial
  kernel_rfl) ?_
 ·exact ⟨Nat.zero_le _,by simp⟩
 intro k hk
 obtain ⟨hk,hnt⟩:=hk
 refine aT fun K4 hK4=> ?_
 refine am (aX rfl (eO rfl (ai (bi _ aa rfl) (ai (bm _ _ rfl rfl rfl) (aj (aR rfl (fun hc9=> ?_) (fun hc9=> ?_)))))))
 ·skip
  refine br (hK4 _ ?_)
  clear hK4;try clear K4
  refine aq (ay (am (eO rfl (aX rfl (ai (bn _ _ aa rfl rfl _ rfl ab (by (simp only [aL,bb,bj,bv,bu,bG,bw];omega)) (by exact Nat.mul_one _)) ?_)))))
  refine ai (bL _ aa rfl (by exact jI _ _ ab) rfl) ?_
  refine ej rfl (ai (aV _ _ Tryz.underlying9 rfl rfl rfl) (aj (aR rfl (fun hc17=> ?_) (fun hc17=> ?_))))
  ·skip
   refine am (cu rfl (aj (aG (rV rfl rfl ?_))))
   exact decide_eq_true (hc17 ▸ kr ab)
  refine cr (an (aX rfl (ai (aZ _ _ rfl rfl (bD ab)) ?_)))
  refine bg rfl (aJ (⟨k+1,?_,?_,?_⟩))
  ·exact ⟨by omega,kU hnt ab hc17⟩
  ·skip
   refine Le.mkJ [] [] rfl ?_ ?_ trivial trivial ?_
   ·exact ⟨(iS rfl),(iV rfl),(ci ag),trivial⟩
   ·exact trivial
   kernel_rfl
  omega
 have hall:t∉l:=by rwa [List.take_of_length_le ab] at hnt
 refine bA (id (hK2 _ ?_))
 clear hK2;try clear K2
 refine am (cu rfl (aj (aG (rV rfl rfl ?_))))
 exact decide_eq_false hall
def yE:List Tx:=[[60],[60,61],[62],[62,61],[61,61],[33,61]]
theorem mL (t:Tx):Spec Tryz.prog 227 (ba [.v (bt t)] []) (aP (.v (.bool (decide (t∈yE)))) []):=by
 refine Spec.ofN Tryz.func227 rfl Tryz.ntmps227 rfl ?_
 refine am (cu rfl (aj (am (ai (bh _ _ aa rfl ag (by (simp <;> rfl)) ah rfl) ?_))))
 refine ej rfl (ai (aH aa al (gF yE 6 rfl ab t) rfl rfl) ?_)
 refine cu rfl (aj (aG (rV rfl rfl ?_)))
 rfl
theorem Ig (n:Nat):Spec Tryz.prog 203 (ba [pu (nd 12 n [] [])] []) (aP (.v (.int .i64 1)) []):=by
 refine Spec.ofN Tryz.func203 rfl Tryz.ntmps203 rfl ?_
 refine am (ai (aQ (1,0) _ rfl rfl) (bg rfl (aj (aq (am (bc rfl rfl rfl (cd rfl rfl rfl (jY rfl rfl rfl (cI rfl (aO rfl rfl ah ?_))))))))))
 refine aO rfl rfl ah ?_
 refine aO rfl rfl ah ?_
 refine ai (aD _ _ _ rfl bT) (cI rfl (aO rfl rfl ah ?_))
 refine aO rfl rfl ah ?_
 refine aO rfl rfl ah ?_
 refine ai (aD _ _ _ rfl bT) (aj (bK rfl rfl (aq ?_)))
 refine aM (σ':=aE 80 [] [] [] []) kp ?_
 exact an (bg rfl (aj (aG (fv rfl rfl))))
theorem Hm (s:Tx):Spec Tryz.prog 203 (ba [pu (nd 14 0 s [])] []) (aP (.v (.int .i64 1)) []):=by
 refine Spec.ofN Tryz.func203 rfl Tryz.ntmps203 rfl ?_
 refine am (ai (aQ (1,0) _ rfl rfl) (bg rfl (aj (aq (am (bc rfl rfl rfl (cd rfl rfl rfl (gR rfl rfl rfl (cI rfl (au rfl rfl (aA _ aa rfl rfl rfl) ?_))))))))))
 refine au rfl rfl (aF _ aa rfl rfl ef) (au rfl rfl (bC (r:=true) _ _ rfl rfl rfl) (ai (aD _ _ _ rfl bT) (cI rfl (aO rfl rfl ah ?_))))
 refine aO rfl rfl ah ?_
 refine aO rfl rfl ah ?_
 refine ai (aD _ _ _ rfl bT) (aj (bK rfl rfl (aq ?_)))
 refine aM (σ':=aE 80 [] [] [] []) kp ?_
 exact an (bg rfl (aj (aG (fv rfl rfl))))
theorem Er (s:Tx):Spec Tryz.prog 203 (ba [pu (nd 15 0 s [])] []) (aP (.v (.int .i64 1)) []):=by
 refine Spec.ofN Tryz.func203 rfl Tryz.ntmps203 rfl ?_
 refine am (ai (aQ (1,0) _ rfl rfl) (bg rfl (aj (aq (am (bc rfl rfl rfl (cd rfl rfl rfl (gR rfl rfl rfl (cI rfl (au rfl rfl (aA _ aa rfl rfl rfl) ?_))))))))))
 refine au rfl rfl (aF _ aa rfl rfl ef) (au rfl rfl (bC (r:=false) _ _ rfl rfl rfl) (ai (aD _ _ _ rfl bT) (cI rfl (au rfl rfl (aA _ aa rfl rfl rfl) (au rfl rfl (aF _ aa rfl rfl ef) (au rfl rfl (bC (r:=true) _ _ rfl rfl rfl) (ai (aD _ _ _ rfl bT) (aj (bK rfl rfl (aq ?_))))))))))
 refine aM (σ':=aE 80 [] [] [] []) kp ?_
 exact an (bg rfl (aj (aG (fv rfl rfl))))
theorem Fs (n:Nat):Spec Tryz.prog 203 (ba [pu (nd 13 n [] [])] []) (aP (.v (.int .i64 2)) []):=by
 refine Spec.ofN Tryz.func203 rfl Tryz.ntmps203 rfl ?_
 refine am (ai (aQ (1,0) _ rfl rfl) (bg rfl (aj (aq (am (bc rfl rfl rfl (cd rfl rfl rfl (gR rfl rfl rfl (cI rfl (au rfl rfl (aA _ aa rfl rfl rfl) ?_))))))))))
 refine au rfl rfl (aF _ aa rfl rfl ef) (au rfl rfl (bC (r:=false) _ _ rfl rfl rfl) (ai (aD _ _ _ rfl bT) (cI rfl (au rfl rfl (aA _ aa rfl rfl rfl) (au rfl rfl (aF _ aa rfl rfl ef) (au rfl rfl (bC (r:=false) _ _ rfl rfl rfl) (ai (aD _ _ _ rfl bT) (aj (aW rfl rfl (aS ?_))))))))))
 refine aq (aq ?_)
 refine aM (σ':=aE 80 [(1,_)] [((1,0),_)] [] []) kp ?_
 exact an (bc rfl rfl rfl (cd rfl rfl rfl (jY rfl rfl rfl (aj (bK rfl rfl (am (bg rfl (aj (aG (fv rfl rfl))))))))))
theorem DE (L:List Nd) (hL:L.length≤3) (t:Nat→Nat) (ht: ∀ j,t j≤2) (h: ∀ j,j < L.length→Spec Tryz.prog 203 (ba [pu (lf L j)] []) (aP (.v (.int .i64 (t j:Int))) [])) (r:Nat) (hr1:(∀ j,j < L.length→t j=1)→r=1) (hr0: ∀ j,j < L.length→t j≠1→r=0):
  Spec Tryz.prog 203 (ba [.agg [.v (.int .i64 16), .v (.int .i64 0), .v (bt []), .sl L.length (mR L)]] []) (aP (.v (.int .i64 (r:Int))) []):=by
 refine Spec.ofN Tryz.func203 rfl Tryz.ntmps203 rfl ?_
 refine am (ai (aQ (1,0) _ rfl rfl) (bg rfl (aj (aq (am (bc rfl rfl rfl (cd rfl rfl rfl (gR rfl rfl rfl (cI rfl (au rfl rfl (aA _ aa rfl rfl rfl) ?_))))))))))
 refine au rfl rfl (aF _ aa rfl rfl ef) (au rfl rfl (bC (r:=false) _ _ rfl rfl rfl) (ai (aD _ _ _ rfl bT) (cI rfl (au rfl rfl (aA _ aa rfl rfl rfl) (au rfl rfl (aF _ aa rfl rfl ef) (au rfl rfl (bC (r:=false) _ _ rfl rfl rfl) (ai (aD _ _ _ rfl bT) (aj (aW rfl rfl (aS ?_))))))))))
 refine aq (aq ?_)
 refine aM (σ':=aE 80 [(1,_)] [((1,0),_)] [] []) kp ?_
 refine an (bc rfl rfl rfl (cd rfl rfl rfl (gR rfl rfl rfl (aj (aW rfl rfl (aS (aq (am (bc rfl rfl rfl (cd rfl rfl rfl ?_))))))))))
 refine ai (bN (r:=false) _ _ rfl rfl rfl) (cI rfl (aO rfl rfl ah ?_))
 refine aO rfl rfl ah ?_
 refine aO rfl rfl ah ?_
 refine ai (aD _ _ _ rfl bT) (cI rfl (aO rfl rfl ah ?_))
 refine aO rfl rfl ah ?_
 refine aO rfl rfl ah ?_
 refine ai (aD _ _ _ rfl bT) (aj (aW rfl rfl (aS (aq ?_))))
 refine aM (σ':=aE 80 [(1,_)] [((1,0),_)] [] []) kp ?_
 refine an (bg rfl (aj (am (bg rfl (aj (aq (am (bc rfl rfl rfl (cd rfl rfl rfl (gR rfl rfl rfl ?_))))))))))
 refine cI rfl (aO rfl rfl ah ?_)
 refine aO rfl rfl ah ?_
 refine aO rfl rfl ah ?_
 refine ai (aD _ _ _ rfl bT) (cI rfl (au rfl rfl (aA _ aa rfl rfl rfl) (au rfl rfl (aF _ aa rfl rfl ef) (au rfl rfl (bC (r:=false) _ _ rfl rfl rfl) (au rfl rfl (aI _ bT) (aO rfl rfl ah ?_))))))
 refine aO rfl rfl ah ?_
 refine aO rfl rfl ah ?_
 refine aO rfl rfl ah ?_
 refine au rfl rfl (aD _ _ _ rfl bT) (ai (aD _ _ _ rfl bT) (aj (aW rfl rfl (aS (aq (aq ?_))))))
 refine aM (σ':=aE 80 [(1,_),(3,_),(4,_)] [((1,0),_)] [] []) kp ?_
 refine an (bc rfl rfl rfl (cd rfl rfl rfl (gR rfl rfl rfl (cI rfl (aO rfl rfl ah ?_)))))
 refine aO rfl rfl ah ?_
 refine aO rfl rfl ah ?_
 refine ai (aD _ _ _ rfl bT) (aj (aW rfl rfl (aS (aT fun K14 hK14=> ?_))))
 refine am (bg rfl (aj (ay ?_)))
 refine bq (α:=Nat) (fun j=> j≤L.length∧ ∀ q,q < j→t q=1) 80 [(1,_),(3,_),(4,_)] [((1,0),_)] (fun j=> [(5, .v (.int .i64 (j:Int)))]) (fun j=> []) [] [] (fun j=> L.length - j) 0 ?_ (by
  refine Le.mkJ [] [] rfl ?_ ?_ trivial trivial ?_
  ·exact ⟨(iP rfl),(iV rfl),(iV rfl),(ci ag),trivial⟩
  ·exact ⟨(cj rfl rfl rfl),trivial⟩
  kernel_rfl) ?_
 ·exact ⟨Nat.zero_le _,fun q hq=> by omega⟩
 intro j hj
 obtain ⟨hj,hall⟩:=hj
 have htj:=ht j
 refine aT fun K16 hK16=> ?_
 refine am (aX rfl (bc rfl rfl rfl (eQ rfl rfl rfl (ai (bi _ aa rfl) (ai (bm _ _ rfl rfl rfl) (aj (aR rfl (fun hc67=> ?_) (fun hc67=> ?_))))))))
 ·skip
  refine br (hK16 _ ?_)
  clear hK16;try clear K16
  refine aq (ay (am (bc rfl rfl rfl (eQ rfl rfl rfl (aX rfl (ai (bn _ _ aa rfl rfl _ rfl ab (by (simp only [aL,bb,bj,bv,bu,bG,bw];omega)) ag) ?_))))))
  refine ai (ca _ aa rfl (by exact cN _ _ ab) rfl) ?_
  refine ai (aH aa al (h j ab) rfl rfl) ?_
  refine bg rfl (aj (am (aX rfl (aX rfl (ai (bN _ _ rfl rfl rfl) (aj (aR rfl (fun hc78=> ?_) (fun hc78=> ?_))))))))
  ·skip
   have hr:=hr0 j ab ab
   refine aq ?_
   refine aM (σ':=aE 80 [] [] [] []) kp ?_
   refine an (bg rfl (aj (aG (ry rfl rfl ?_))))
   rw [hr];rfl
  have hall1: ∀ q,q < j+1→t q=1:=fun q hq=> by
   by_cases h:q < j
   ·exact hall q h
   obtain rfl:q=j:=by omega
   omega
  refine cr ?_
  refine aM (σ':=aE 80 [(1,_),(3,_),(4,_),(5,_)] [((1,0),_)] [] []) kp ?_
  refine an (aX rfl (ai (aZ _ _ rfl rfl (bD ab)) ?_))
  refine bg rfl (aJ (⟨j+1,?_,?_,?_⟩))
  ·exact ⟨by omega,hall1⟩
  ·skip
   refine Le.mkJ [] [] rfl ?_ ?_ trivial trivial ?_
   ·exact ⟨(iP rfl),(iV rfl),(iV rfl),(ci ag),trivial⟩
   ·exact ⟨(cj rfl rfl rfl),trivial⟩
   kernel_rfl
  omega
 have hr:=hr1 fun q hq=> hall q ab
 refine bA (id (hK14 _ ?_))
 clear hK14;try clear K14
 refine am (aX rfl (bg rfl (aj (aG (ry rfl rfl ?_)))))
 rw [hr];rfl
theorem Ih (L:List Nd) (hL:L.length≤3) (t:Nat→Nat) (ht: ∀ j,t j≤2) (h: ∀ j,j < L.length→Spec Tryz.prog 203 (ba [pu (lf L j)] []) (aP (.v (.int .i64 (t j:Int))) [])) (r:Nat) (hr1:(∀ j,j < L.length→t j=1)→r=1) (hr0: ∀ j,j < L.length→t j≠1→r=0):
  Spec Tryz.prog 203 (ba [.agg [.v (.int .i64 17), .v (.int .i64 0), .v (bt [45]), .sl L.length (mR L)]] []) (aP (.v (.int .i64 (r:Int))) []):=by
 refine Spec.ofN Tryz.func203 rfl Tryz.ntmps203 rfl ?_
 refine am (ai (aQ (1,0) _ rfl rfl) (bg rfl (aj (aq (am (bc rfl rfl rfl (cd rfl rfl rfl (gR rfl rfl rfl (cI rfl (au rfl rfl (aA _ aa rfl rfl rfl) ?_))))))))))
 refine au rfl rfl (aF _ aa rfl rfl ef) (au rfl rfl (bC (r:=false) _ _ rfl rfl rfl) (ai (aD _ _ _ rfl bT) (cI rfl (au rfl rfl (aA _ aa rfl rfl rfl) (au rfl rfl (aF _ aa rfl rfl ef) (au rfl rfl (bC (r:=false) _ _ rfl rfl rfl) (ai (aD _ _ _ rfl bT) (aj (aW rfl rfl (aS ?_))))))))))
 refine aq (aq ?_)
 refine aM (σ':=aE 80 [(1,_)] [((1,0),_)] [] []) kp ?_
 refine an (bc rfl rfl rfl (cd rfl rfl rfl (gR rfl rfl rfl (aj (aW rfl rfl (aS (aq (am (bc rfl rfl rfl (cd rfl rfl rfl ?_))))))))))
 refine ai (bN (r:=true) _ _ rfl rfl rfl) (cI rfl (au rfl rfl (aA _ aa rfl rfl rfl) (au rfl rfl (aF _ aa rfl rfl ef) (au rfl rfl (bN (r:=false) _ _ rfl rfl rfl) (ai (aD _ _ _ rfl bT) (cI rfl (aO rfl rfl ah ?_)))))))
 refine aO rfl rfl ah ?_
 refine aO rfl rfl ah ?_
 refine ai (aD _ _ _ rfl bT) (aj (aW rfl rfl (aS (aq ?_))))
 refine aM (σ':=aE 80 [(1,_)] [((1,0),_)] [] []) kp ?_
 refine an (bg rfl (aj (am (bg rfl (aj (aq (am (bc rfl rfl rfl (cd rfl rfl rfl (jY rfl rfl rfl ?_))))))))))
 refine cI rfl (au rfl rfl (aA _ aa rfl rfl rfl) (au rfl rfl (aF _ aa rfl rfl fz) (au rfl rfl (aV (r:=false) _ _ Tryz.underlying9 rfl rfl rfl) (ai (aD _ _ _ rfl bT) (cI rfl (au rfl rfl (aA _ aa rfl rfl rfl) (au rfl rfl (aF _ aa rfl rfl ef) (au rfl rfl (bC (r:=false) _ _ rfl rfl rfl) (au rfl rfl (aI _ bT) (aO rfl rfl ah ?_))))))))))
 refine aO rfl rfl ah ?_
 refine aO rfl rfl ah ?_
 refine aO rfl rfl ah ?_
 refine au rfl rfl (aD _ _ _ rfl bT) (ai (aD _ _ _ rfl bT) (aj (aW rfl rfl (aS (aq (aq ?_))))))
 refine aM (σ':=aE 80 [(1,_),(3,_),(4,_)] [((1,0),_)] [] []) kp ?_
 refine an (bc rfl rfl rfl (cd rfl rfl rfl (gR rfl rfl rfl (cI rfl (aO rfl rfl ah ?_)))))
 refine aO rfl rfl ah ?_
 refine aO rfl rfl ah ?_
 refine ai (aD _ _ _ rfl bT) (aj (aW rfl rfl (aS (aT fun K14 hK14=> ?_))))
 refine am (bg rfl (aj (ay ?_)))
 refine bq (α:=Nat) (fun j=> j≤L.length∧ ∀ q,q < j→t q=1) 80 [(1,_),(3,_),(4,_)] [((1,0),_)] (fun j=> [(5, .v (.int .i64 (j:Int)))]) (fun j=> []) [] [] (fun j=> L.length - j) 0 ?_ (by
  refine Le.mkJ [] [] rfl ?_ ?_ trivial trivial ?_
  ·exact ⟨(iP rfl),(iV rfl),(iV rfl),(ci ag),trivial⟩
  ·exact ⟨(cj rfl rfl rfl),trivial⟩
  kernel_rfl) ?_
 ·exact ⟨Nat.zero_le _,fun q hq=> by omega⟩
 intro j hj
 obtain ⟨hj,hall⟩:=hj
 have htj:=ht j
 refine aT fun K16 hK16=> ?_
 refine am (aX rfl (bc rfl rfl rfl (eQ rfl rfl rfl (ai (bi _ aa rfl) (ai (bm _ _ rfl rfl rfl) (aj (aR rfl (fun hc67=> ?_) (fun hc67=> ?_))))))))
 ·skip
  refine br (hK16 _ ?_)
  clear hK16;try clear K16
  refine aq (ay (am (bc rfl rfl rfl (eQ rfl rfl rfl (aX rfl (ai (bn _ _ aa rfl rfl _ rfl ab (by (simp only [aL,bb,bj,bv,bu,bG,bw];omega)) ag) ?_))))))
  refine ai (ca _ aa rfl (by exact cN _ _ ab) rfl) ?_
  refine ai (aH aa al (h j ab) rfl rfl) ?_
  refine bg rfl (aj (am (aX rfl (aX rfl (ai (bN _ _ rfl rfl rfl) (aj (aR rfl (fun hc78=> ?_) (fun hc78=> ?_))))))))
  ·skip
   have hr:=hr0 j ab ab
   refine aq ?_
   refine aM (σ':=aE 80 [] [] [] []) kp ?_
   refine an (bg rfl (aj (aG (ry rfl rfl ?_))))
   rw [hr];rfl
  have hall1: ∀ q,q < j+1→t q=1:=fun q hq=> by
   by_cases h:q < j
   ·exact hall q h
   obtain rfl:q=j:=by omega
   omega
  refine cr ?_
  refine aM (σ':=aE 80 [(1,_),(3,_),(4,_),(5,_)] [((1,0),_)] [] []) kp ?_
  refine an (aX rfl (ai (aZ _ _ rfl rfl (bD ab)) ?_))
  refine bg rfl (aJ (⟨j+1,?_,?_,?_⟩))
  ·exact ⟨by omega,hall1⟩
  ·skip
   refine Le.mkJ [] [] rfl ?_ ?_ trivial trivial ?_
   ·exact ⟨(iP rfl),(iV rfl),(iV rfl),(ci ag),trivial⟩
   ·exact ⟨(cj rfl rfl rfl),trivial⟩
   kernel_rfl
  omega
 have hr:=hr1 fun q hq=> hall q ab
 refine bA (id (hK14 _ ?_))
 clear hK14;try clear K14
 refine am (aX rfl (bg rfl (aj (aG (ry rfl rfl ?_)))))
 rw [hr];rfl
theorem HH (L:List Nd) (hL:L.length≤3) (t:Nat→Nat) (ht: ∀ j,t j≤2) (h: ∀ j,j < L.length→Spec Tryz.prog 203 (ba [pu (lf L j)] []) (aP (.v (.int .i64 (t j:Int))) [])) (r:Nat) (hr1:(∀ j,j < L.length→t j=2)→r=2) (hr0: ∀ j,j < L.length→t j≠2→r=0):
  Spec Tryz.prog 203 (ba [.agg [.v (.int .i64 17), .v (.int .i64 0), .v (bt [33]), .sl L.length (mR L)]] []) (aP (.v (.int .i64 (r:Int))) []):=by
 refine Spec.ofN Tryz.func203 rfl Tryz.ntmps203 rfl ?_
 refine am (ai (aQ (1,0) _ rfl rfl) (bg rfl (aj (aq (am (bc rfl rfl rfl (cd rfl rfl rfl (gR rfl rfl rfl (cI rfl (au rfl rfl (aA _ aa rfl rfl rfl) ?_))))))))))
 refine au rfl rfl (aF _ aa rfl rfl ef) (au rfl rfl (bC (r:=false) _ _ rfl rfl rfl) (ai (aD _ _ _ rfl bT) (cI rfl (au rfl rfl (aA _ aa rfl rfl rfl) (au rfl rfl (aF _ aa rfl rfl ef) (au rfl rfl (bC (r:=false) _ _ rfl rfl rfl) (ai (aD _ _ _ rfl bT) (aj (aW rfl rfl (aS ?_))))))))))
 refine aq (aq ?_)
 refine aM (σ':=aE 80 [(1,_)] [((1,0),_)] [] []) kp ?_
 refine an (bc rfl rfl rfl (cd rfl rfl rfl (gR rfl rfl rfl (aj (aW rfl rfl (aS (aq (am (bc rfl rfl rfl (cd rfl rfl rfl ?_))))))))))
 refine ai (bN (r:=true) _ _ rfl rfl rfl) (cI rfl (au rfl rfl (aA _ aa rfl rfl rfl) (au rfl rfl (aF _ aa rfl rfl ef) (au rfl rfl (bN (r:=false) _ _ rfl rfl rfl) (ai (aD _ _ _ rfl bT) (cI rfl (aO rfl rfl ah ?_)))))))
 refine aO rfl rfl ah ?_
 refine aO rfl rfl ah ?_
 refine ai (aD _ _ _ rfl bT) (aj (aW rfl rfl (aS (aq ?_))))
 refine aM (σ':=aE 80 [(1,_)] [((1,0),_)] [] []) kp ?_
 refine an (bg rfl (aj (am (bg rfl (aj (aq (am (bc rfl rfl rfl (cd rfl rfl rfl (jY rfl rfl rfl ?_))))))))))
 refine cI rfl (au rfl rfl (aA _ aa rfl rfl rfl) (au rfl rfl (aF _ aa rfl rfl fz) (au rfl rfl (aV (r:=true) _ _ Tryz.underlying9 rfl rfl rfl) (ai (aD _ _ _ rfl bT) (cI rfl (aO rfl rfl ah ?_))))))
 refine aO rfl rfl ah ?_
 refine aO rfl rfl ah ?_
 refine aO rfl rfl ah ?_
 refine gO rfl rfl (gO rfl rfl (gO rfl rfl (gO rfl rfl (aO rfl rfl ah ?_))))
 refine ai (aD _ _ _ rfl bT) (aj (bK rfl rfl (aq ?_)))
 refine aM (σ':=aE 80 [(1,_)] [((1,0),_)] [] []) kp ?_
 refine an (bg rfl (aj (an (bg rfl (aj (aq (am (bc rfl rfl rfl (cd rfl rfl rfl (gR rfl rfl rfl ?_))))))))))
 refine cI rfl (aO rfl rfl ah ?_)
 refine aO rfl rfl ah ?_
 refine aO rfl rfl ah ?_
 refine ai (aD _ _ _ rfl bT) (aj (aW rfl rfl (aS (aT fun K15 hK15=> ?_))))
 refine am (bg rfl (aj (ay ?_)))
 refine bq (α:=Nat) (fun j=> j≤L.length∧ ∀ q,q < j→t q=2) 80 [(1,_),(3,_),(4,_)] [((1,0),_)] (fun j=> [(5, .v (.int .i64 (j:Int)))]) (fun j=> []) [] [] (fun j=> L.length - j) 0 ?_ (by
  refine Le.mkJ [] [] rfl ?_ ?_ trivial trivial ?_
  ·exact ⟨(iP rfl),(iV rfl),(iV rfl),(ci ag),trivial⟩
  ·exact ⟨(cj rfl rfl rfl),trivial⟩
  kernel_rfl) ?_
 ·exact ⟨Nat.zero_le _,fun q hq=> by omega⟩
 intro j hj
 obtain ⟨hj,hall⟩:=hj
 have htj:=ht j
 refine aT fun K17 hK17=> ?_
 refine am (aX rfl (bc rfl rfl rfl (eQ rfl rfl rfl (ai (bi _ aa rfl) (ai (bm _ _ rfl rfl rfl) (aj (aR rfl (fun hc67=> ?_) (fun hc67=> ?_))))))))
 ·skip
  refine br (hK17 _ ?_)
  clear hK17;try clear K17
  refine aq (ay (am (bc rfl rfl rfl (eQ rfl rfl rfl (aX rfl (ai (bn _ _ aa rfl rfl _ rfl ab (by (simp only [aL,bb,bj,bv,bu,bG,bw];omega)) ag) ?_))))))
  refine ai (ca _ aa rfl (by exact cN _ _ ab) rfl) ?_
  refine ai (aH aa al (h j ab) rfl rfl) ?_
  refine bg rfl (aj (am (aX rfl (aX rfl (ai (bN _ _ rfl rfl rfl) (aj (aR rfl (fun hc78=> ?_) (fun hc78=> ?_))))))))
  ·skip
   have hr:=hr0 j ab ab
   refine aq ?_
   refine aM (σ':=aE 80 [] [] [] []) kp ?_
   refine an (bg rfl (aj (aG (ry rfl rfl ?_))))
   rw [hr];rfl
  have hall1: ∀ q,q < j+1→t q=2:=fun q hq=> by
   by_cases h:q < j
   ·exact hall q h
   obtain rfl:q=j:=by omega
   omega
  refine cr ?_
  refine aM (σ':=aE 80 [(1,_),(3,_),(4,_),(5,_)] [((1,0),_)] [] []) kp ?_
  refine an (aX rfl (ai (aZ _ _ rfl rfl (bD ab)) ?_))
  refine bg rfl (aJ (⟨j+1,?_,?_,?_⟩))
  ·exact ⟨by omega,hall1⟩
  ·skip
   refine Le.mkJ [] [] rfl ?_ ?_ trivial trivial ?_
   ·exact ⟨(iP rfl),(iV rfl),(iV rfl),(ci ag),trivial⟩
   ·exact ⟨(cj rfl rfl rfl),trivial⟩
   kernel_rfl
  omega
 have hr:=hr1 fun q hq=> hall q ab
 refine bA (id (hK15 _ ?_))
 clear hK15;try clear K15
 refine am (aX rfl (bg rfl (aj (aG (ry rfl rfl ?_)))))
 rw [hr];rfl
theorem tL (s:Tx) (hs1:s∈[[38,38],[124,124]]) (hs2:s∉yE) (L:List Nd) (hL:L.length≤3) (t:Nat→Nat) (ht: ∀ j,t j≤2) (h: ∀ j,j < L.length→Spec Tryz.prog 203 (ba [pu (lf L j)] []) (aP (.v (.int .i64 (t j:Int))) [])) (r:Nat) (hr1:(∀ j,j < L.length→t j=2)→r=2) (hr0: ∀ j,j < L.length→t j≠2→r=0):
  Spec Tryz.prog 203 (ba [.agg [.v (.int .i64 18), .v (.int .i64 0), .v (bt s), .sl L.length (mR L)]] []) (aP (.v (.int .i64 (r:Int))) []):=by
 refine Spec.ofN Tryz.func203 rfl Tryz.ntmps203 rfl ?_
 refine am (ai (aQ (1,0) _ rfl rfl) (bg rfl (aj (aq (am (bc rfl rfl rfl (cd rfl rfl rfl (gR rfl rfl rfl (cI rfl (au rfl rfl (aA _ aa rfl rfl rfl) ?_))))))))))
 refine au rfl rfl (aF _ aa rfl rfl ef) (au rfl rfl (bC (r:=false) _ _ rfl rfl rfl) (ai (aD _ _ _ rfl bT) (cI rfl (au rfl rfl (aA _ aa rfl rfl rfl) (au rfl rfl (aF _ aa rfl rfl ef) (au rfl rfl (bC (r:=false) _ _ rfl rfl rfl) (ai (aD _ _ _ rfl bT) (aj (aW rfl rfl (aS ?_))))))))))
 refine aq (aq ?_)
 refine aM (σ':=aE 80 [(1,_)] [((1,0),_)] [] []) kp ?_
 refine an (bc rfl rfl rfl (cd rfl rfl rfl (gR rfl rfl rfl (aj (aW rfl rfl (aS (aq (am (bc rfl rfl rfl (cd rfl rfl rfl ?_))))))))))
 refine ai (bN (r:=true) _ _ rfl rfl rfl) (cI rfl (au rfl rfl (aA _ aa rfl rfl rfl) (au rfl rfl (aF _ aa rfl rfl ef) (au rfl rfl (bN (r:=true) _ _ rfl rfl rfl) (ai (aD _ _ _ rfl bT) (cI rfl (au rfl rfl (aA _ aa rfl rfl rfl) (au rfl rfl (aF _ aa rfl rfl ef) (au rfl rfl (bN (r:=false) _ _ rfl rfl rfl) (ai (aD _ _ _ rfl bT) ?_))))))))))
 refine aj (aW rfl rfl (aS (aq ?_)))
 refine aM (σ':=aE 80 [(1,_)] [((1,0),_)] [] []) kp ?_
 refine an (bg rfl (aj (am (bg rfl (aj (aq (am (bc rfl rfl rfl (cd rfl rfl rfl (gR rfl rfl rfl ?_))))))))))
 refine cI rfl (aO rfl rfl ah ?_)
 refine aO rfl rfl ah ?_
 refine aO rfl rfl ah ?_
 refine ai (aD _ _ _ rfl bT) (cI rfl (au rfl rfl (aA _ aa rfl rfl rfl) (au rfl rfl (aF _ aa rfl rfl ef) (au rfl rfl (bC (r:=true) _ _ rfl rfl rfl) (au rfl rfl (aI _ bT) (au rfl rfl (bh _ _ aa rfl ag (by (simp <;> rfl)) ah rfl) ?_))))))
 refine au rfl rfl (aA _ aa rfl rfl rfl) (au rfl rfl (aF _ aa rfl rfl fz) (au rfl rfl (aH aa al (gF [[38,38],[124,124]] 2 rfl ab s) rfl rfl) ?_))
 refine au rfl rfl (aD _ _ _ rfl bT) (ai (aD _ _ _ rfl bT) (aj (bK rfl (decide_eq_true hs1) ?_)))
 refine aq ?_
 refine aM (σ':=aE 80 [(1,_)] [((1,0),_)] [] []) kp ?_
 refine an (bg rfl (aj (an (bg rfl (aj (aq (am (bc rfl rfl rfl (cd rfl rfl rfl (jY rfl rfl rfl ?_))))))))))
 refine cI rfl (au rfl rfl (aA _ aa rfl rfl rfl) (au rfl rfl (aF _ aa rfl rfl fz) (au rfl rfl (aH aa al (mL s) rfl rfl) ?_)))
 refine ai (aD _ _ _ rfl bT) (aj (aW rfl (decide_eq_false hs2) ?_))
 refine aS (aT fun K15 hK15=> ?_)
 refine am (bg rfl (aj (ay ?_)))
 refine bq (α:=Nat) (fun j=> j≤L.length∧ ∀ q,q < j→t q=2) 80 [(1,_),(3,_),(4,_)] [((1,0),_)] (fun j=> [(5, .v (.int .i64 (j:Int)))]) (fun j=> []) [] [] (fun j=> L.length - j) 0 ?_ (by
  refine Le.mkJ [] [] rfl ?_ ?_ trivial trivial ?_
  ·exact ⟨(iP rfl),(iV rfl),(iV rfl),(ci ag),trivial⟩
  ·exact ⟨(cj rfl rfl rfl),trivial⟩
  kernel_rfl) ?_
 ·exact ⟨Nat.zero_le _,fun q hq=> by omega⟩
 intro j hj
 obtain ⟨hj,hall⟩:=hj
 have htj:=ht j
 refine aT fun K17 hK17=> ?_
 refine am (aX rfl (bc rfl rfl rfl (eQ rfl rfl rfl (ai (bi _ aa rfl) (ai (bm _ _ rfl rfl rfl) (aj (aR rfl (fun hc67=> ?_) (fun hc67=> ?_))))))))
 ·skip
  refine br (hK17 _ ?_)
  clear hK17;try clear K17
  refine aq (ay (am (bc rfl rfl rfl (eQ rfl rfl rfl (aX rfl (ai (bn _ _ aa rfl rfl _ rfl ab (by (simp only [aL,bb,bj,bv,bu,bG,bw];omega)) ag) ?_))))))
  refine ai (ca _ aa rfl (by exact cN _ _ ab) rfl) ?_
  refine ai (aH aa al (h j ab) rfl rfl) ?_
  refine bg rfl (aj (am (aX rfl (aX rfl (ai (bN _ _ rfl rfl rfl) (aj (aR rfl (fun hc78=> ?_) (fun hc78=> ?_))))))))
  ·skip
   have hr:=hr0 j ab ab
   refine aq ?_
   refine aM (σ':=aE 80 [] [] [] []) kp ?_
   refine an (bg rfl (aj (aG (ry rfl rfl ?_))))
   rw [hr];rfl
  have hall1: ∀ q,q < j+1→t q=2:=fun q hq=> by
   by_cases h:q < j
   ·exact hall q h
   obtain rfl:q=j:=by omega
   omega
  refine cr ?_
  refine aM (σ':=aE 80 [(1,_),(3,_),(4,_),(5,_)] [((1,0),_)] [] []) kp ?_
  refine an (aX rfl (ai (aZ _ _ rfl rfl (bD ab)) ?_))
  refine bg rfl (aJ (⟨j+1,?_,?_,?_⟩))
  ·exact ⟨by omega,hall1⟩
  ·skip
   refine Le.mkJ [] [] rfl ?_ ?_ trivial trivial ?_
   ·exact ⟨(iP rfl),(iV rfl),(iV rfl),(ci ag),trivial⟩
   ·exact ⟨(cj rfl rfl rfl),trivial⟩
   kernel_rfl
  omega
 have hr:=hr1 fun q hq=> hall q ab
 refine bA (id (hK15 _ ?_))
 clear hK15;try clear K15
 refine am (aX rfl (bg rfl (aj (aG (ry rfl rfl ?_)))))
 rw [hr];rfl
theorem HK (s:Tx) (hs1:s∉[[38,38],[124,124]]) (hs2:s∈yE) (L:List Nd) (hL:L.length≤3) (t:Nat→Nat) (ht: ∀ j,t j≤2) (h: ∀ j,j < L.length→Spec Tryz.prog 203 (ba [pu (lf L j)] []) (aP (.v (.int .i64 (t j:Int))) [])) (r:Nat) (hr1:(∀ j,j < L.length→t j=1)→r=2) (hr0: ∀ j,j < L.length→t j≠1→r=0):
  Spec Tryz.prog 203 (ba [.agg [.v (.int .i64 18), .v (.int .i64 0), .v (bt s), .sl L.length (mR L)]] []) (aP (.v (.int .i64 (r:Int))) []):=by
 refine Spec.ofN Tryz.func203 rfl Tryz.ntmps203 rfl ?_
 refine am (ai (aQ (1,0) _ rfl rfl) (bg rfl (aj (aq (am (bc rfl rfl rfl (cd rfl rfl rfl (gR rfl rfl rfl (cI rfl (au rfl rfl (aA _ aa rfl rfl rfl) ?_))))))))))
 refine au rfl rfl (aF _ aa rfl rfl ef) (au rfl rfl (bC (r:=false) _ _ rfl rfl rfl) (ai (aD _ _ _ rfl bT) (cI rfl (au rfl rfl (aA _ aa rfl rfl rfl) (au rfl rfl (aF _ aa rfl rfl ef) (au rfl rfl (bC (r:=false) _ _ rfl rfl rfl) (ai (aD _ _ _ rfl bT) (aj (aW rfl rfl (aS ?_))))))))))
 refine aq (aq ?_)
 refine aM (σ':=aE 80 [(1,_)] [((1,0),_)] [] []) kp ?_
 refine an (bc rfl rfl rfl (cd rfl rfl rfl (gR rfl rfl rfl (aj (aW rfl rfl (aS (aq (am (bc rfl rfl rfl (cd rfl rfl rfl ?_))))))))))
 refine ai (bN (r:=true) _ _ rfl rfl rfl) (cI rfl (au rfl rfl (aA _ aa rfl rfl rfl) (au rfl rfl (aF _ aa rfl rfl ef) (au rfl rfl (bN (r:=true) _ _ rfl rfl rfl) (ai (aD _ _ _ rfl bT) (cI rfl (au rfl rfl (aA _ aa rfl rfl rfl) (au rfl rfl (aF _ aa rfl rfl ef) (au rfl rfl (bN (r:=false) _ _ rfl rfl rfl) (ai (aD _ _ _ rfl bT) ?_))))))))))
 refine aj (aW rfl rfl (aS (aq ?_)))
 refine aM (σ':=aE 80 [(1,_)] [((1,0),_)] [] []) kp ?_
 refine an (bg rfl (aj (am (bg rfl (aj (aq (am (bc rfl rfl rfl (cd rfl rfl rfl (gR rfl rfl rfl ?_))))))))))
 refine cI rfl (aO rfl rfl ah ?_)
 refine aO rfl rfl ah ?_
 refine aO rfl rfl ah ?_
 refine ai (aD _ _ _ rfl bT) (cI rfl (au rfl rfl (aA _ aa rfl rfl rfl) (au rfl rfl (aF _ aa rfl rfl ef) (au rfl rfl (bC (r:=true) _ _ rfl rfl rfl) (au rfl rfl (aI _ bT) (au rfl rfl (bh _ _ aa rfl ag (by (simp <;> rfl)) ah rfl) ?_))))))
 refine au rfl rfl (aA _ aa rfl rfl rfl) (au rfl rfl (aF _ aa rfl rfl fz) (au rfl rfl (aH aa al (gF [[38,38],[124,124]] 2 rfl ab s) rfl rfl) ?_))
 refine au rfl rfl (aD _ _ _ rfl bT) (ai (aD _ _ _ rfl bT) (aj (aW rfl (decide_eq_false hs1) ?_)))
 refine aS (aq (aq ?_))
 refine aM (σ':=aE 80 [(1,_),(3,_),(4,_)] [((1,0),_)] [] []) kp ?_
 refine an (bc rfl rfl rfl (cd rfl rfl rfl (jY rfl rfl rfl (cI rfl (au rfl rfl (aA _ aa rfl rfl rfl) (au rfl rfl (aF _ aa rfl rfl fz) (au rfl rfl (aH aa al (mL s) rfl rfl) ?_)))))))
 refine ai (aD _ _ _ rfl bT) (aj (bK rfl (decide_eq_true hs2) ?_))
 refine an (bg rfl (aj (aT fun K14 hK14=> ?_)))
 refine am (bg rfl (aj (ay ?_)))
 refine bq (α:=Nat) (fun j=> j≤L.length∧ ∀ q,q < j→t q=1) 80 [(1,_),(3,_),(4,_)] [((1,0),_)] (fun j=> [(5, .v (.int .i64 (j:Int)))]) (fun j=> []) [] [] (fun j=> L.length - j) 0 ?_ (by
  refine Le.mkJ [] [] rfl ?_ ?_ trivial trivial ?_
  ·exact ⟨(iP rfl),(iV rfl),(iV rfl),(ci ag),trivial⟩
  ·exact ⟨(cj rfl rfl rfl),trivial⟩
  kernel_rfl) ?_
 ·exact ⟨Nat.zero_le _,fun q hq=> by omega⟩
 intro j hj
 obtain ⟨hj,hall⟩:=hj
 have htj:=ht j
 refine aT fun K16 hK16=> ?_
 refine am (aX rfl (bc rfl rfl rfl (eQ rfl rfl rfl (ai (bi _ aa rfl) (ai (bm _ _ rfl rfl rfl) (aj (aR rfl (fun hc67=> ?_) (fun hc67=> ?_))))))))
 ·skip
  refine br (hK16 _ ?_)
  clear hK16;try clear K16
  refine aq (ay (am (bc rfl rfl rfl (eQ rfl rfl rfl (aX rfl (ai (bn _ _ aa rfl rfl _ rfl ab (by (simp only [aL,bb,bj,bv,bu,bG,bw];omega)) ag) ?_))))))
  refine ai (ca _ aa rfl (by exact cN _ _ ab) rfl) ?_
  refine ai (aH aa al (h j ab) rfl rfl) ?_
  refine bg rfl (aj (am (aX rfl (aX rfl (ai (bN _ _ rfl rfl rfl) (aj (aR rfl (fun hc78=> ?_) (fun hc78=> ?_))))))))
  ·skip
   have hr:=hr0 j ab ab
   refine aq ?_
   refine aM (σ':=aE 80 [] [] [] []) kp ?_
   refine an (bg rfl (aj (aG (ry rfl rfl ?_))))
   rw [hr];rfl
  have hall1: ∀ q,q < j+1→t q=1:=fun q hq=> by
   by_cases h:q < j
   ·exact hall q h
   obtain rfl:q=j:=by omega
   omega
  refine cr ?_
  refine aM (σ':=aE 80 [(1,_),(3,_),(4,_),(5,_)] [((1,0),_)] [] []) kp ?_
  refine an (aX rfl (ai (aZ _ _ rfl rfl (bD ab)) ?_))
  refine bg rfl (aJ (⟨j+1,?_,?_,?_⟩))
  ·exact ⟨by omega,hall1⟩
  ·skip
   refine Le.mkJ [] [] rfl ?_ ?_ trivial trivial ?_
   ·exact ⟨(iP rfl),(iV rfl),(iV rfl),(ci ag),trivial⟩
   ·exact ⟨(cj rfl rfl rfl),trivial⟩
   kernel_rfl
  omega
 have hr:=hr1 fun q hq=> hall q ab
 refine bA (id (hK14 _ ?_))
 clear hK14;try clear K14
 refine am (aX rfl (bg rfl (aj (aG (ry rfl rfl ?_)))))
 rw [hr];rfl
theorem BS (s:Tx) (hs1:s∉[[38,38],[124,124]]) (hs2:s∉yE) (L:List Nd) (hL:L.length≤3) (t:Nat→Nat) (ht: ∀ j,t j≤2) (h: ∀ j,j < L.length→Spec Tryz.prog 203 (ba [pu (lf L j)] []) (aP (.v (.int .i64 (t j:Int))) [])) (r:Nat) (hr1:(∀ j,j < L.length→t j=1)→r=1) (hr0: ∀ j,j < L.length→t j≠1→r=0):
  Spec Tryz.prog 203 (ba [.agg [.v (.int .i64 18), .v (.int .i64 0), .v (bt s), .sl L.length (mR L)]] []) (aP (.v (.int .i64 (r:Int))) []):=by
 refine Spec.ofN Tryz.func203 rfl Tryz.ntmps203 rfl ?_
 refine am (ai (aQ (1,0) _ rfl rfl) (bg rfl (aj (aq (am (bc rfl rfl rfl (cd rfl rfl rfl (gR rfl rfl rfl (cI rfl (au rfl rfl (aA _ aa rfl rfl rfl) ?_))))))))))
 refine au rfl rfl (aF _ aa rfl rfl ef) (au rfl rfl (bC (r:=false) _ _ rfl rfl rfl) (ai (aD _ _ _ rfl bT) (cI rfl (au rfl rfl (aA _ aa rfl rfl rfl) (au rfl rfl (aF _ aa rfl rfl ef) (au rfl rfl (bC (r:=false) _ _ rfl rfl rfl) (ai (aD _ _ _ rfl bT) (aj (aW rfl rfl (aS ?_))))))))))
 refine aq (aq ?_)
 refine aM (σ':=aE 80 [(1,_)] [((1,0),_)] [] []) kp ?_
 refine an (bc rfl rfl rfl (cd rfl rfl rfl (gR rfl rfl rfl (aj (aW rfl rfl (aS (aq (am (bc rfl rfl rfl (cd rfl rfl rfl ?_))))))))))
 refine ai (bN (r:=true) _ _ rfl rfl rfl) (cI rfl (au rfl rfl (aA _ aa rfl rfl rfl) (au rfl rfl (aF _ aa rfl rfl ef) (au rfl rfl (bN (r:=true) _ _ rfl rfl rfl) (ai (aD _ _ _ rfl bT) (cI rfl (au rfl rfl (aA _ aa rfl rfl rfl) (au rfl rfl (aF _ aa rfl rfl ef) (au rfl rfl (bN (r:=false) _ _ rfl rfl rfl) (ai (aD _ _ _ rfl bT) ?_))))))))))
 refine aj (aW rfl rfl (aS (aq ?_)))
 refine aM (σ':=aE 80 [(1,_)] [((1,0),_)] [] []) kp ?_
 refine an (bg rfl (aj (am (bg rfl (aj (aq (am (bc rfl rfl rfl (cd rfl rfl rfl (gR rfl rfl rfl ?_))))))))))
 refine cI rfl (aO rfl rfl ah ?_)
 refine aO rfl rfl ah ?_
 refine aO rfl rfl ah ?_
 refine ai (aD _ _ _ rfl bT) (cI rfl (au rfl rfl (aA _ aa rfl rfl rfl) (au rfl rfl (aF _ aa rfl rfl ef) (au rfl rfl (bC (r:=true) _ _ rfl rfl rfl) (au rfl rfl (aI _ bT) (au rfl rfl (bh _ _ aa rfl ag (by (simp <;> rfl)) ah rfl) ?_))))))
 refine au rfl rfl (aA _ aa rfl rfl rfl) (au rfl rfl (aF _ aa rfl rfl fz) (au rfl rfl (aH aa al (gF [[38,38],[124,124]] 2 rfl ab s) rfl rfl) ?_))
 refine au rfl rfl (aD _ _ _ rfl bT) (ai (aD _ _ _ rfl bT) (aj (aW rfl (decide_eq_false hs1) ?_)))
 refine aS (aq (aq ?_))
 refine aM (σ':=aE 80 [(1,_),(3,_),(4,_)] [((1,0),_)] [] []) kp ?_
 refine an (bc rfl rfl rfl (cd rfl rfl rfl (jY rfl rfl rfl (cI rfl (au rfl rfl (aA _ aa rfl rfl rfl) (au rfl rfl (aF _ aa rfl rfl fz) (au rfl rfl (aH aa al (mL s) rfl rfl) ?_)))))))
 refine ai (aD _ _ _ rfl bT) (aj (aW rfl (decide_eq_false hs2) ?_))
 refine aS (aT fun K14 hK14=> ?_)
 refine am (bg rfl (aj (ay ?_)))
 refine bq (α:=Nat) (fun j=> j≤L.length∧ ∀ q,q < j→t q=1) 80 [(1,_),(3,_),(4,_)] [((1,0),_)] (fun j=> [(5, .v (.int .i64 (j:Int)))]) (fun j=> []) [] [] (fun j=> L.length - j) 0 ?_ (by
  refine Le.mkJ [] [] rfl ?_ ?_ trivial trivial ?_
  ·exact ⟨(iP rfl),(iV rfl),(iV rfl),(ci ag),trivial⟩
  ·exact ⟨(cj rfl rfl rfl),trivial⟩
  kernel_rfl) ?_
 ·exact ⟨Nat.zero_le _,fun q hq=> by omega⟩
 intro j hj
 obtain ⟨hj,hall⟩:=hj
 have htj:=ht j
 refine aT fun K16 hK16=> ?_
 refine am (aX rfl (bc rfl rfl rfl (eQ rfl rfl rfl (ai (bi _ aa rfl) (ai (bm _ _ rfl rfl rfl) (aj (aR rfl (fun hc67=> ?_) (fun hc67=> ?_))))))))
 ·skip
  refine br (hK16 _ ?_)
  clear hK16;try clear K16
  refine aq (ay (am (bc rfl rfl rfl (eQ rfl rfl rfl (aX rfl (ai (bn _ _ aa rfl rfl _ rfl ab (by (simp only [aL,bb,bj,bv,bu,bG,bw];omega)) ag) ?_))))))
  refine ai (ca _ aa rfl (by exact cN _ _ ab) rfl) ?_
  refine ai (aH aa al (h j ab) rfl rfl) ?_
  refine bg rfl (aj (am (aX rfl (aX rfl (ai (bN _ _ rfl rfl rfl) (aj (aR rfl (fun hc78=> ?_) (fun hc78=> ?_))))))))
  ·skip
   have hr:=hr0 j ab ab
   refine aq ?_
   refine aM (σ':=aE 80 [] [] [] []) kp ?_
   refine an (bg rfl (aj (aG (ry rfl rfl ?_))))
   rw [hr];rfl
  have hall1: ∀ q,q < j+1→t q=1:=fun q hq=> by
   by_cases h:q < j
   ·exact hall q h
   obtain rfl:q=j:=by omega
   omega
  refine cr ?_
  refine aM (σ':=aE 80 [(1,_),(3,_),(4,_),(5,_)] [((1,0),_)] [] []) kp ?_
  refine an (aX rfl (ai (aZ _ _ rfl rfl (bD ab)) ?_))
  refine bg rfl (aJ (⟨j+1,?_,?_,?_⟩))
  ·exact ⟨by omega,hall1⟩
  ·skip
   refine Le.mkJ [] [] rfl ?_ ?_ trivial trivial ?_
   ·exact ⟨(iP rfl),(iV rfl),(iV rfl),(ci ag),trivial⟩
   ·exact ⟨(cj rfl rfl rfl),trivial⟩
   kernel_rfl
  omega
 have hr:=hr1 fun q hq=> hall q ab
 refine bA (id (hK14 _ ?_))
 clear hK14;try clear K14
 refine am (aX rfl (bg rfl (aj (aG (ry rfl rfl ?_)))))
 rw [hr];rfl

theorem pz: ∀ e,fB e≤2
 | .int _=> by simp [fB] | .bool _=> by simp [fB] | .var _=> by simp [fB] | .name _=> by simp [fB]
 | .draw e=> by simp only [fB];split <;> omega
 | .neg e=> by simp only [fB];split <;> omega
 | .not e=> by simp only [fB];split <;> omega
 | .bin o a b=> by cases o <;> simp only [fB] <;> split <;> omega
 | .and a b=> by simp only [fB];split <;> omega
 | .or a b=> by simp only [fB];split <;> omega
def ux (a b:Ex) (j:Nat):Nat:=if j=0 then fB a else fB b
theorem pE (a b:Ex) (j:Nat):ux a b j≤2:=by unfold ux;split <;> exact pz _
theorem pD {a b:Ex} {op j:Nat} (hj:j < 2) (h:ux a b j≠op): ¬ (fB a=op∧fB b=op):=fun e=> by
 have:j=0∨j=1:=by omega
 rcases this with rfl | rfl
 ·exact h e.1
 exact h e.2
theorem uC (o:Bo):o.txt∉([[38,38],[124,124]]:List Tx):=by cases o <;> decide
def Lz:Bo→Nat | .add=> 1 | .sub=> 1 | .mul=> 1 | .div=> 1 | _=> 2
abbrev wA (d:Nd) (t:Nat):Prop:=Spec Tryz.prog 203 (ba [pu d] []) (aP (.v (.int .i64 (t:Int))) [])
theorem sW {d:Nd} {t:Nat} (h:wA d t): ∀ j,j < [d].length→wA (lf [d] j) t:=fun j hj=> by
 have:j=0:=by simpa using hj
 subst this
 exact h
theorem qq {d e:Nd} {a b:Ex} (h1:wA d (fB a)) (h2:wA e (fB b)): ∀ j,j < [d,e].length→wA (lf [d,e] j) (ux a b j):=fun j hj=> by
 have hj:j < 2:=hj
 have:j=0∨j=1:=by omega
 rcases this with rfl | rfl
 ·exact h1
 exact h2
theorem eD (nm:List Tx): ∀ e:Ex,wA (eM nm e) (fB e)
 | .int n=> Ig n.toNat
 | .bool b=> Fs (if b then 1 else 0)
 | .var i=> Hm (nm.getD i [])
 | .name k=> Er (bltT.getD k [])
 | .draw e=> DE [eM nm e] (by simp) (fun _=> fB e) (fun _=> pz e) (sW (eD nm e)) _ (fun h=> if_pos (h 0 (by simp))) (fun _ _ h=> if_neg h)
 | .neg e=> Ih [eM nm e] (by simp) (fun _=> fB e) (fun _=> pz e) (sW (eD nm e)) _ (fun h=> if_pos (h 0 (by simp))) (fun _ _ h=> if_neg h)
 | .not e=> HH [eM nm e] (by simp) (fun _=> fB e) (fun _=> pz e) (sW (eD nm e)) _ (fun h=> if_pos (h 0 (by simp))) (fun _ _ h=> if_neg h)
 | .and a b=> tL [38,38] ah ah [eM nm a,eM nm b] (by simp) (ux a b) (pE a b) (qq (eD nm a) (eD nm b)) _ (fun h=> if_pos ⟨h 0 (by simp),h 1 (by simp)⟩) (fun _ hj h=> if_neg (pD hj h))
 | .or a b=> tL [124,124] ah ah [eM nm a,eM nm b] (by simp) (ux a b) (pE a b) (qq (eD nm a) (eD nm b)) _ (fun h=> if_pos ⟨h 0 (by simp),h 1 (by simp)⟩) (fun _ hj h=> if_neg (pD hj h))
 | .bin o a b=> by
  have hty:fB (.bin o a b)=if fB a=1∧fB b=1 then Lz o else 0:=by cases o <;> rfl
  have hk:=qq (eD nm a) (eD nm b)
  by_cases ho:o.txt∈yE
  ·have h2:Lz o=2:=by cases o <;> first | rfl | (exact absurd ho ah)
   rw [h2] at hty
   exact HK o.txt (uC o) ho [eM nm a,eM nm b] (by simp) (ux a b) (pE a b) hk _ (fun h=> hty.trans (if_pos ⟨h 0 (by simp),h 1 (by simp)⟩)) (fun _ hj h=> hty.trans (if_neg (pD hj h)))
  have h2:Lz o=1:=by cases o <;> first | rfl | (exact absurd ah ho)
  rw [h2] at hty
  exact BS o.txt (uC o) ho [eM nm a,eM nm b] (by simp) (ux a b) (pE a b) hk _ (fun h=> hty.trans (if_pos ⟨h 0 (by simp),h 1 (by simp)⟩)) (fun _ hj h=> hty.trans (if_neg (pD hj h)))
theorem kR (n:Int) (s:Tx) (L:List Nd) (h: ∀ j,j < L.length→Spec Tryz.prog 166 (ba [pu (lf L j)] []) (aP (.v (.bool true)) [])):
  Spec Tryz.prog 166 (ba [.agg [.v (.int .i64 11), .v (.int .i64 n), .v (bt s), .sl L.length (mR L)]] []) (aP (.v (.bool true)) []):=by
 refine Spec.ofN Tryz.func166 rfl Tryz.ntmps166 rfl ?_
 refine aq ?_
 refine lw 0 3 rfl rfl rfl fun hlen=> ?_
 unfold maxLen at hlen
 refine an (ai (aQ (1,0) _ rfl rfl) (cu rfl (aj (aq (am (bc rfl rfl rfl (cd rfl rfl rfl (jY rfl rfl rfl (aj (bK rfl rfl ?_))))))))))
 refine aT fun K4 hK4=> ?_
 refine am (bg rfl (aj (ay ?_)))
 refine bq (α:=Nat) (fun j=> j≤L.length) 73 [(1,_)] [((1,0),_)] (fun j=> [(3, .v (.int .i64 (j:Int)))]) (fun j=> []) [] [] (fun j=> L.length - j) 0 ?_ (by
  refine Le.mkJ [] [] rfl ?_ ?_ trivial trivial ?_
  ·exact ⟨(iP rfl),(ci ag),trivial⟩
  ·exact ⟨(cj rfl rfl rfl),trivial⟩
  kernel_rfl) ?_
 ·omega
 intro j hj
 refine aT fun K6 hK6=> ?_
 refine am (aX rfl (bc rfl rfl rfl (eQ rfl rfl rfl (ai (bi _ aa rfl) (ai (bm _ _ rfl rfl rfl) (aj (aR rfl (fun hc17=> ?_) (fun hc17=> ?_))))))))
 ·skip
  refine br (hK6 _ ?_)
  clear hK6;try clear K6
  refine aq (ay (am (bc rfl rfl rfl (eQ rfl rfl rfl (aX rfl (ai (bn _ _ aa rfl rfl _ rfl ab (by (simp only [aL,bb,bj,bv,bu,bG,bw];omega)) ag) ?_))))))
  refine ai (ca _ aa rfl (by exact cN _ _ ab) rfl) ?_
  refine ai (aH aa al (h j ab) rfl rfl) ?_
  refine cu rfl (aj (am (cI rfl (ai (cq (r:=false) _ rfl rfl) (aj (aW rfl rfl (cr (an (aX rfl (ai (aZ _ _ rfl rfl (bD ab)) ?_))))))))))
  refine bg rfl (aJ (⟨j+1,?_,?_,?_⟩))
  ·omega
  ·skip
   refine Le.mkJ [] [] rfl ?_ ?_ trivial trivial ?_
   ·exact ⟨(iP rfl),(ci ag),trivial⟩
   ·exact ⟨(cj rfl rfl rfl),trivial⟩
   kernel_rfl
  omega
 refine bA (id (hK4 _ ?_))
 clear hK4;try clear K4
 refine am (cu rfl (aj (aG (rV rfl rfl ?_))))
 rfl
theorem rF (k:Nat) (hk:k=2∨k=3) (n:Int) (s:Tx) (L:List Nd) (hL:0 < L.length) (ht:Spec Tryz.prog 203 (ba [pu (lf L 0)] []) (aP (.v (.int .i64 2)) [])) (h: ∀ j,1≤j→j < L.length→Spec Tryz.prog 166 (ba [pu (lf L j)] []) (aP (.v (.bool true)) [])):
  Spec Tryz.prog 166 (ba [.agg [.v (.int .i64 (k:Int)), .v (.int .i64 n), .v (bt s), .sl L.length (mR L)]] []) (aP (.v (.bool true)) []):=by
 refine Spec.ofN Tryz.func166 rfl Tryz.ntmps166 rfl ?_
 refine aq ?_
 refine lw 0 3 rfl rfl rfl fun hlen=> ?_
 unfold maxLen at hlen
 refine an (ai (aQ (1,0) _ rfl rfl) (cu rfl (aj (aq (am (bc rfl rfl rfl (cd rfl rfl rfl (gR rfl rfl (beq_eq_false_iff_ne.2 ab) ?_))))))))
 refine aj (aW rfl rfl (aS (aq (am (bc rfl rfl rfl (cd rfl rfl rfl (ai (bC _ _ rfl rfl rfl) (cI rfl (dv (fun hg31=> ?_) (fun hg31=> ?_))))))))))
 ·skip
  refine aO rfl rfl ah ?_
  refine aO rfl rfl ah ?_
  refine aO rfl rfl ah ?_
  refine ai (aD _ _ _ rfl bT) (aj (bK rfl rfl (am (bc rfl rfl rfl (eQ rfl rfl rfl (ai (bn _ _ aa rfl rfl 0 rfl hL (by simp only [bG];omega) rfl) ?_))))))
  refine ai (ca _ aa rfl (by exact cN L 0 hL) rfl) ?_
  refine ai (aH aa al (ht) rfl rfl) ?_
  refine bg rfl (aj (aT fun K7 hK7=> ?_))
  refine aq ?_
  refine aM (σ':=aE 73 [(1,_),(5,_)] [((1,0),_)] [] []) kp ?_
  refine an (bg rfl (aj (ay ?_)))
  refine bq (α:=Nat) (fun j=> 1≤j∧j≤L.length) 73 [(1,_),(5,_)] [((1,0),_)] (fun j=> [(6, .v (.int .i64 (j:Int)))]) (fun j=> []) [] [] (fun j=> L.length - j) 1 ?_ (by
   refine Le.mkJ [] [] rfl ?_ ?_ trivial trivial ?_
   ·exact ⟨(iP rfl),(iV rfl),(ci ag),trivial⟩
   ·exact ⟨(cj rfl rfl rfl),trivial⟩
   kernel_rfl) ?_
  ·exact ⟨Nat.le_refl _,hL⟩
  intro j hj
  obtain ⟨hj1,hj2⟩:=hj
  refine aT fun K9 hK9=> ?_
  refine am (aX rfl (bc rfl rfl rfl (eQ rfl rfl rfl (ai (bi _ aa rfl) (ai (bm _ _ rfl rfl rfl) (aj (aR rfl (fun hc45=> ?_) (fun hc45=> ?_))))))))
  ·skip
   refine br (hK9 _ ?_)
   clear hK9;try clear K9
   refine aq (ay (am (bc rfl rfl rfl (eQ rfl rfl rfl (aX rfl (ai (bn _ _ aa rfl rfl _ rfl ab (by (simp only [aL,bb,bj,bv,bu,bG,bw];omega)) ag) ?_))))))
   refine ai (ca _ aa rfl (by exact cN _ _ ab) rfl) ?_
   refine ai (aH aa al (h j hj1 ab) rfl rfl) ?_
   refine cu rfl (aj (am (cI rfl (ai (cq (r:=false) _ rfl rfl) (aj (aW rfl rfl (cr (an (aX rfl (ai (aZ _ _ rfl rfl (bD ab)) ?_))))))))))
   refine bg rfl (aJ (⟨j+1,?_,?_,?_⟩))
   ·omega
   ·skip
    refine Le.mkJ [] [] rfl ?_ ?_ trivial trivial ?_
    ·exact ⟨(iP rfl),(iV rfl),(ci ag),trivial⟩
    ·exact ⟨(cj rfl rfl rfl),trivial⟩
    kernel_rfl
   omega
  refine bA (id (hK7 _ ?_))
  clear hK7;try clear K7
  refine am (aX rfl (jY rfl rfl rfl (cu rfl (aj (aG (rV rfl rfl ?_))))))
  rfl
 have hk3:k=3:=by omega
 refine au rfl rfl (aA _ aa rfl rfl rfl) (au rfl rfl (aF _ aa rfl rfl ef) (au rfl rfl (bC (r:=true) _ _ rfl rfl (beq_iff_eq.2 ab)) ?_))
 refine ai (aD _ _ _ rfl bT) (aj (bK rfl rfl (am (bc rfl rfl rfl (eQ rfl rfl rfl (ai (bn _ _ aa rfl rfl 0 rfl hL (by simp only [bG];omega) rfl) ?_))))))
 refine ai (ca _ aa rfl (by exact cN L 0 hL) rfl) ?_
 refine ai (aH aa al (ht) rfl rfl) ?_
 refine bg rfl (aj (aT fun K16 hK16=> ?_))
 refine aq ?_
 refine aM (σ':=aE 73 [(1,_),(5,_)] [((1,0),_)] [] []) kp ?_
 refine an (bg rfl (aj (ay ?_)))
 refine bq (α:=Nat) (fun j=> 1≤j∧j≤L.length) 73 [(1,_),(5,_)] [((1,0),_)] (fun j=> [(6, .v (.int .i64 (j:Int)))]) (fun j=> []) [] [] (fun j=> L.length - j) 1 ?_ (by
  refine Le.mkJ [] [] rfl ?_ ?_ trivial trivial ?_
  ·exact ⟨(iP rfl),(iV rfl),(ci ag),trivial⟩
  ·exact ⟨(cj rfl rfl rfl),trivial⟩
  kernel_rfl) ?_
 ·exact ⟨Nat.le_refl _,hL⟩
 intro j hj
 obtain ⟨hj1,hj2⟩:=hj
 refine aT fun K18 hK18=> ?_
 refine am (aX rfl (bc rfl rfl rfl (eQ rfl rfl rfl (ai (bi _ aa rfl) (ai (bm _ _ rfl rfl rfl) (aj (aR rfl (fun hc45=> ?_) (fun hc45=> ?_))))))))
 ·skip
  refine br (hK18 _ ?_)
  clear hK18;try clear K18
  refine aq (ay (am (bc rfl rfl rfl (eQ rfl rfl rfl (aX rfl (ai (bn _ _ aa rfl rfl _ rfl ab (by (simp only [aL,bb,bj,bv,bu,bG,bw];omega)) ag) ?_))))))
  refine ai (ca _ aa rfl (by exact cN _ _ ab) rfl) ?_
  refine ai (aH aa al (h j hj1 ab) rfl rfl) ?_
  refine cu rfl (aj (am (cI rfl (ai (cq (r:=false) _ rfl rfl) (aj (aW rfl rfl (cr (an (aX rfl (ai (aZ _ _ rfl rfl (bD ab)) ?_))))))))))
  refine bg rfl (aJ (⟨j+1,?_,?_,?_⟩))
  ·omega
  ·skip
   refine Le.mkJ [] [] rfl ?_ ?_ trivial trivial ?_
   ·exact ⟨(iP rfl),(iV rfl),(ci ag),trivial⟩
   ·exact ⟨(cj rfl rfl rfl),trivial⟩
   kernel_rfl
  omega
 refine bA (id (hK16 _ ?_))
 clear hK16;try clear K16
 refine am (aX rfl (jY rfl rfl rfl (cu rfl (aj (aG (rV rfl rfl ?_))))))
 rfl
theorem fF (k:Nat) (hk:k≠2∧k≠3∧k≠11) (n:Int) (s:Tx) (L:List Nd) (h: ∀ j,j < L.length→Spec Tryz.prog 203 (ba [pu (lf L j)] []) (aP (.v (.int .i64 1)) [])):
  Spec Tryz.prog 166 (ba [.agg [.v (.int .i64 (k:Int)), .v (.int .i64 n), .v (bt s), .sl L.length (mR L)]] []) (aP (.v (.bool true)) []):=by
 refine Spec.ofN Tryz.func166 rfl Tryz.ntmps166 rfl ?_
 refine aq ?_
 refine lw 0 3 rfl rfl rfl fun hlen=> ?_
 unfold maxLen at hlen
 refine an (ai (aQ (1,0) _ rfl rfl) (cu rfl (aj (aq (am (bc rfl rfl rfl (cd rfl rfl rfl (gR rfl rfl (beq_eq_false_iff_ne.2 ab) ?_))))))))
 refine aj (aW rfl rfl (aS (aq (am (bc rfl rfl rfl (cd rfl rfl rfl (gR rfl rfl (beq_eq_false_iff_ne.2 ab) ?_)))))))
 refine cI rfl (au rfl rfl (aA _ aa rfl rfl rfl) (au rfl rfl (aF _ aa rfl rfl ef) (au rfl rfl (bC (r:=false) _ _ rfl rfl (beq_eq_false_iff_ne.2 ab)) ?_)))
 refine ai (aD _ _ _ rfl bT) (aj (aW rfl rfl (aS (aT fun K6 hK6=> ?_))))
 refine am (bg rfl (aj (ay ?_)))
 refine bq (α:=Nat) (fun j=> j≤L.length) 73 [(1,_)] [((1,0),_)] (fun j=> [(8, .v (.int .i64 (j:Int)))]) (fun j=> []) [] [] (fun j=> L.length - j) 0 ?_ (by
  refine Le.mkJ [] [] rfl ?_ ?_ trivial trivial ?_
  ·exact ⟨(iP rfl),(ci ag),trivial⟩
  ·exact ⟨(cj rfl rfl rfl),trivial⟩
  kernel_rfl) ?_
 ·omega
 intro j hj
 refine aT fun K8 hK8=> ?_
 refine am (aX rfl (bc rfl rfl rfl (eQ rfl rfl rfl (ai (bi _ aa rfl) (ai (bm _ _ rfl rfl rfl) (aj (aR rfl (fun hc62=> ?_) (fun hc62=> ?_))))))))
 ·skip
  refine br (hK8 _ ?_)
  clear hK8;try clear K8
  refine aq (ay (am (bc rfl rfl rfl (eQ rfl rfl rfl (aX rfl (ai (bn _ _ aa rfl rfl _ rfl ab (by (simp only [aL,bb,bj,bv,bu,bG,bw];omega)) ag) ?_))))))
  refine ai (ca _ aa rfl (by exact cN _ _ ab) rfl) ?_
  refine ai (aH aa al (h j ab) rfl rfl) ?_
  refine bg rfl (aj (am (aX rfl (ai (bN (r:=false) _ _ rfl rfl rfl) (aj (aW rfl rfl (cr (an (aX rfl (ai (aZ _ _ rfl rfl (bD ab)) ?_))))))))))
  refine bg rfl (aJ (⟨j+1,?_,?_,?_⟩))
  ·omega
  ·skip
   refine Le.mkJ [] [] rfl ?_ ?_ trivial trivial ?_
   ·exact ⟨(iP rfl),(ci ag),trivial⟩
   ·exact ⟨(cj rfl rfl rfl),trivial⟩
   kernel_rfl
  omega
 refine bA (id (hK6 _ ?_))
 clear hK6;try clear K6
 refine am (cu rfl (aj (aG (rV rfl rfl ?_))))
 rfl

abbrev LT (d:Nd):Prop:=Spec Tryz.prog 166 (ba [pu d] []) (aP (.v (.bool true)) [])
theorem jq {nm:List Tx} {e:Ex} (h:oV e=true):wA (eM nm e) 1:=by
 have:=Nat.eq_of_beq_eq_true h
 have h2:=eD nm e
 rwa [this] at h2
theorem Jn {P:Nd→Prop} {d:Nd} (h:P d): ∀ j,j < [d].length→P (lf [d] j):=fun j hj=> by
 have:j=0:=by simpa using hj
 subst this
 exact h
theorem LN {P:Nd→Prop} {d e:Nd} (h:P d) (h':P e): ∀ j,j < [d,e].length→P (lf [d,e] j):=fun j hj=> by
 have hj:j < 2:=hj
 have:j=0∨j=1:=by omega
 rcases this with rfl | rfl
 ·exact h
 exact h'
theorem LF {P:Nd→Prop} {d e f:Nd} (h:P d) (h':P e) (h2:P f): ∀ j,j < [d,e,f].length→P (lf [d,e,f] j):=fun j hj=> by
 have hj:j < 3:=hj
 have:j=0∨j=1∨j=2:=by omega
 rcases this with rfl | rfl | rfl
 ·exact h
 ·exact h'
 exact h2
theorem Ah {P:Nd→Prop}: ∀ j,j < ([]:List Nd).length→P (lf [] j):=fun j hj=> by simp at hj
theorem Mi {P:Nd→Prop} {d:Nd} {l:List Nd} (h:P d) (h': ∀ j,j < l.length→P (lf l j)): ∀ j,j < (d::l).length→P (lf (d::l) j):=fun j hj=> by
 cases j with
 | zero=> exact h
 | succ j=> exact h' j (by simpa using hj)
mutual
theorem DT (nm:List Tx): ∀ s:Sm,yo s=true→LT (Dw nm s)
 | .assign i e,h=> fF 1 ab 0 (nm.getD i []) [eM nm e] (Jn (P:=fun d=> wA d 1) (jq h))
 | .send t k a b,h=> by
  simp only [yo,Bool.and_eq_true] at h
  exact fF 4 ab k [] [eM nm t,eM nm a,eM nm b] (LF (P:=fun d=> wA d 1) (jq h.1.1) (jq h.1.2) (jq h.2))
 | .timer k,_=> fF 5 ab k [] [] (Ah (P:=fun d=> wA d 1))
 | .cancel k,_=> fF 6 ab k [] [] (Ah (P:=fun d=> wA d 1))
 | .sync,_=> fF 7 ab 0 [] [] (Ah (P:=fun d=> wA d 1))
 | .stop,_=> fF 10 ab 0 [] [] (Ah (P:=fun d=> wA d 1))
 | .reply a b,h=> by
  simp only [yo,Bool.and_eq_true] at h
  exact fF 8 ab 0 [] [eM nm a,eM nm b] (LN (P:=fun d=> wA d 1) (jq h.1) (jq h.2))
 | .fail e,h=> fF 9 ab 0 [] [eM nm e] (Jn (P:=fun d=> wA d 1) (jq h))
 | .loop c b,h=> by
  simp only [yo,Bool.and_eq_true] at h
  have h1:=eD nm c
  rw [Nat.eq_of_beq_eq_true h.1] at h1
  refine rF 3 (.inr rfl) 0 [] [eM nm c,nd 11 0 [] (jc nm b)] (by simp) h1 fun j h1 hj=> ?_
  have hj:j < 2:=hj
  obtain rfl:j=1:=by omega
  exact kR 0 [] (jc nm b) (nb nm b h.2)
 | .ite c a b,h=> by
  simp only [yo,Bool.and_eq_true] at h
  have h1:=eD nm c
  rw [Nat.eq_of_beq_eq_true h.1.1] at h1
  refine rF 2 (.inl rfl) 0 [] [eM nm c,nd 11 0 [] (jc nm a),nd 11 0 [] (jc nm b)] (by simp) h1 fun j h1 hj=> ?_
  have hj:j < 3:=hj
  have:j=1∨j=2:=by omega
  rcases this with rfl | rfl
  ·exact kR 0 [] (jc nm a) (nb nm a h.1.2)
  exact kR 0 [] (jc nm b) (nb nm b h.2)
theorem nb (nm:List Tx): ∀ b:Bk,qR b=true→ ∀ j,j < (jc nm b).length→LT (lf (jc nm b) j)
 | .nil,_=> Ah
 | .cons s b,h=> by
  simp only [qR,Bool.and_eq_true] at h
  exact Mi (DT nm s h.1) (nb nm b h.2)
end
theorem DR (nm:List Tx) (b:Bk) (h:qR b=true):LT (iX nm b):=kR 0 [] (jc nm b) (nb nm b h)

def iQ (s:Tx) (l:List Tx):List Tx:=if s∈l then l else l++[s]
section
variable (nm:List Tx)
def sY:Ex→List Tx→List Tx
 | .int _,l=> l | .bool _,l=> l | .name _,l=> l
 | .var i,l=> iQ (nm.getD i []) l
 | .draw e,l=> sY e l | .neg e,l=> sY e l | .not e,l=> sY e l
 | .bin _ a b,l=> sY b (sY a l)
 | .and a b,l=> sY b (sY a l)
 | .or a b,l=> sY b (sY a l)
mutual
def LY:Sm→List Tx→List Tx
 | .assign i e,l=> sY nm e (iQ (nm.getD i []) l)
 | .send t _ a b,l=> sY nm b (sY nm a (sY nm t l))
 | .timer _,l=> l | .cancel _,l=> l | .sync,l=> l | .stop,l=> l
 | .reply a b,l=> sY nm b (sY nm a l)
 | .fail e,l=> sY nm e l
 | .loop c b,l=> Dj b (sY nm c l)
 | .ite c a b,l=> Dj b (Dj a (sY nm c l))
def Dj:Bk→List Tx→List Tx
 | .nil,l=> l
 | .cons s b,l=> Dj b (LY s l)
end
def GN (l:List Tx):Prop:=l.Nodup∧ ∀ x∈l,x∈nm
end
theorem GN.len {nm l:List Tx} (h:GN nm l):l.length≤nm.length:=h.1.length_le_of_subset fun x hx=> h.2 x hx
theorem GN.add {nm l:List Tx} (h:GN nm l) {i:Nat} (hi:i < nm.length):GN nm (iQ (nm.getD i []) l):=by
 unfold iQ
 split
 ·exact h
 rename_i hn
 refine ⟨List.nodup_append.2 ⟨h.1,by simp,fun a ha b hb e=> hn (by rw [List.mem_singleton.1 hb] at e;exact e ▸ ha)⟩,fun x hx=> ?_⟩
 rcases List.mem_append.1 hx with hx | hx
 ·exact h.2 x hx
 rw [List.mem_singleton.1 hx];exact kr hi
theorem GN.nil {nm:List Tx}:GN nm []:=⟨.nil,fun x hx=> by simp at hx⟩
theorem uc (n:Int) (s:Tx) (L:List Nd) (l:List Tx) (hs:s∉l) (hl:l.length≤1000) (F:Nat→List Tx) (hF:F 0=l++[s]) (h: ∀ j,j < L.length→Spec Tryz.prog 167 (ba [pu (lf L j), .sl (F j).length (fm (F j))] []) (aP (.sl (F (j+1)).length (fm (F (j+1)))) [])):
  Spec Tryz.prog 167 (ba [.agg [.v (.int .i64 1), .v (.int .i64 n), .v (bt s), .sl L.length (mR L)], .sl l.length (fm l)] []) (aP (.sl (F L.length).length (fm (F L.length))) []):=by
 refine Spec.ofN Tryz.func167 rfl Tryz.ntmps167 rfl ?_
 refine aq ?_
 refine lw 0 3 rfl rfl rfl fun hlen=> ?_
 unfold maxLen at hlen
 refine an (ai (aQ (2,0) _ rfl rfl) (ai (bp _ fA) (aj (aq (am (bc rfl rfl rfl (cd rfl rfl rfl (jY rfl rfl rfl (cI rfl (aO rfl rfl ah ?_))))))))))
 refine aO rfl rfl ah ?_
 refine aO rfl rfl ah ?_
 refine ai (aD _ _ _ rfl bT) (cI rfl (au rfl rfl (aI _ mx) (au rfl rfl (aA _ aa rfl rfl rfl) (au rfl rfl (aF _ aa rfl rfl fz) (au rfl rfl (aH aa al (gF l _ rfl ab s) rfl rfl) ?_)))))
 refine au rfl rfl (cq _ rfl rfl) (ai (aD _ _ _ rfl bT) (aj (bK rfl (by rw [decide_eq_false hs];rfl) ?_)))
 refine aq ?_
 refine aM (σ':=aE 45 [(1,_),(2,_)] [((2,0),_)] [] []) kp ?_
 refine an (ai (bp _ fA) (aj (am (ai (aI _ fA) (eO rfl (ai (vH (24,0) _ _ aa rfl (.sl (by simp)) ab rfl) ?_))))))
 refine fe rfl (aj (an (gz rfl (bc rfl rfl rfl (ai (aF _ aa rfl rfl fz) (ai (bh _ _ aa rfl ag (by (simp <;> rfl)) ah rfl) ?_))))))
 refine ai (dh (29,0) _ _ aa rfl rfl (by simp) (.sl rfl) ab rfl (nS _ _) (show l.length+1=(l++[s]).length by simp)) ?_
 refine fe rfl (aj (aT fun K6 hK6=> ?_))
 refine am (bg rfl (aj (ay ?_)))
 refine aM (Le.frzS 1 (ys:=fm (l++[s])) rfl rfl rfl (by rw [List.drop_zero,Nat.mul_one];exact List.take_of_length_le (by simp)) (by simp)) ?_
 refine bq (α:=Nat) (fun j=> j≤L.length) 45 [(2,_)] [((2,0),_)] (fun j=> [(6, .v (.int .i64 (j:Int))),(1, .sl (F j).length (fm (F j)))]) (fun j=> []) [] [] (fun j=> L.length - j) 0 ?_ (by
  refine Le.mkJ [] [] rfl ?_ ?_ trivial trivial ?_
  ·exact ⟨(iP rfl),(ci ag),(ja (by rw [hF]) (by rw [hF])),trivial⟩
  ·exact ⟨(cj rfl rfl rfl),trivial⟩
  kernel_rfl) ?_
 ·omega
 intro j hj
 refine aT fun K8 hK8=> ?_
 refine am (aX rfl (bc rfl rfl rfl (eQ rfl rfl rfl (ai (bi _ aa rfl) (ai (bm _ _ rfl rfl rfl) (aj (aR rfl (fun hc34=> ?_) (fun hc34=> ?_))))))))
 ·skip
  refine br (hK8 _ ?_)
  clear hK8;try clear K8
  refine aq (ay (an (bc rfl rfl rfl (eQ rfl rfl rfl (aX rfl (ai (bn _ _ aa rfl rfl _ rfl ab (by (simp only [aL,bb,bj,bv,bu,bG,bw];omega)) ag) ?_))))))
  refine ai (ca _ aa rfl (by exact cN _ _ ab) rfl) ?_
  refine eO rfl (ai (aH aa al (h j ab) rfl rfl) ?_)
  refine kB rfl (eh (an (aX rfl (ai (aZ _ _ rfl rfl (bD ab)) ?_))))
  refine bg rfl (aJ (⟨j+1,?_,?_,?_⟩))
  ·omega
  ·skip
   refine Le.mkJ [] [] rfl ?_ ?_ trivial trivial ?_
   ·exact ⟨(iP rfl),(ci ag),(ja ag ag),trivial⟩
   ·exact ⟨(cj rfl rfl rfl),trivial⟩
   kernel_rfl
  omega
 obtain rfl:j=L.length:=by omega
 refine bA (id (hK6 _ ?_))
 clear hK6;try clear K6
 exact am (eO rfl (kB rfl (aj (aG (qd rfl rfl)))))
theorem uI (n:Int) (s:Tx) (L:List Nd) (l:List Tx) (hs:s∈l) (hl:l.length≤1000) (F:Nat→List Tx) (hF:F 0=l) (h: ∀ j,j < L.length→Spec Tryz.prog 167 (ba [pu (lf L j), .sl (F j).length (fm (F j))] []) (aP (.sl (F (j+1)).length (fm (F (j+1)))) [])):
  Spec Tryz.prog 167 (ba [.agg [.v (.int .i64 1), .v (.int .i64 n), .v (bt s), .sl L.length (mR L)], .sl l.length (fm l)] []) (aP (.sl (F L.length).length (fm (F L.length))) []):=by
 refine Spec.ofN Tryz.func167 rfl Tryz.ntmps167 rfl ?_
 refine aq ?_
 refine lw 0 3 rfl rfl rfl fun hlen=> ?_
 unfold maxLen at hlen
 refine an (ai (aQ (2,0) _ rfl rfl) (ai (bp _ fA) (aj (aq (am (bc rfl rfl rfl (cd rfl rfl rfl (jY rfl rfl rfl (cI rfl (aO rfl rfl ah ?_))))))))))
 refine aO rfl rfl ah ?_
 refine aO rfl rfl ah ?_
 refine ai (aD _ _ _ rfl bT) (cI rfl (au rfl rfl (aI _ mx) (au rfl rfl (aA _ aa rfl rfl rfl) (au rfl rfl (aF _ aa rfl rfl fz) (au rfl rfl (aH aa al (gF l _ rfl ab s) rfl rfl) ?_)))))
 refine au rfl rfl (cq _ rfl rfl) (ai (aD _ _ _ rfl bT) (aj (aW rfl (by rw [decide_eq_true hs];rfl) ?_)))
 refine aS (aT fun K4 hK4=> ?_)
 refine aq ?_
 refine aM (σ':=aE 45 [(1,_),(2,_)] [((2,0),_)] [] []) kp ?_
 refine an (bg rfl (aj (ay ?_)))
 refine bq (α:=Nat) (fun j=> j≤L.length) 45 [(2,_)] [((2,0),_)] (fun j=> [(6, .v (.int .i64 (j:Int))),(1, .sl (F j).length (fm (F j)))]) (fun j=> []) [] [] (fun j=> L.length - j) 0 ?_ (by
  refine Le.mkJ [] [] rfl ?_ ?_ trivial trivial ?_
  ·exact ⟨(iP rfl),(ci ag),(ja (by rw [hF]) (by rw [hF])),trivial⟩
  ·exact ⟨(cj rfl rfl rfl),trivial⟩
  kernel_rfl) ?_
 ·omega
 intro j hj
 refine aT fun K6 hK6=> ?_
 refine am (aX rfl (bc rfl rfl rfl (eQ rfl rfl rfl (ai (bi _ aa rfl) (ai (bm _ _ rfl rfl rfl) (aj (aR rfl (fun hc34=> ?_) (fun hc34=> ?_))))))))
 ·skip
  refine br (hK6 _ ?_)
  clear hK6;try clear K6
  refine aq (ay (an (bc rfl rfl rfl (eQ rfl rfl rfl (aX rfl (ai (bn _ _ aa rfl rfl _ rfl ab (by (simp only [aL,bb,bj,bv,bu,bG,bw];omega)) ag) ?_))))))
  refine ai (ca _ aa rfl (by exact cN _ _ ab) rfl) ?_
  refine eO rfl (ai (aH aa al (h j ab) rfl rfl) ?_)
  refine kB rfl (eh (an (aX rfl (ai (aZ _ _ rfl rfl (bD ab)) ?_))))
  refine bg rfl (aJ (⟨j+1,?_,?_,?_⟩))
  ·omega
  ·skip
   refine Le.mkJ [] [] rfl ?_ ?_ trivial trivial ?_
   ·exact ⟨(iP rfl),(ci ag),(ja ag ag),trivial⟩
   ·exact ⟨(cj rfl rfl rfl),trivial⟩
   kernel_rfl
  omega
 obtain rfl:j=L.length:=by omega
 refine bA (id (hK4 _ ?_))
 clear hK4;try clear K4
 exact am (eO rfl (kB rfl (aj (aG (qd rfl rfl)))))
theorem tB (n:Int) (s:Tx) (L:List Nd) (l:List Tx) (hs:s∉l) (hl:l.length≤1000) (F:Nat→List Tx) (hF:F 0=l++[s]) (h: ∀ j,j < L.length→Spec Tryz.prog 167 (ba [pu (lf L j), .sl (F j).length (fm (F j))] []) (aP (.sl (F (j+1)).length (fm (F (j+1)))) [])):
  Spec Tryz.prog 167 (ba [.agg [.v (.int .i64 14), .v (.int .i64 n), .v (bt s), .sl L.length (mR L)], .sl l.length (fm l)] []) (aP (.sl (F L.length).length (fm (F L.length))) []):=by
 refine Spec.ofN Tryz.func167 rfl Tryz.ntmps167 rfl ?_
 refine aq ?_
 refine lw 0 3 rfl rfl rfl fun hlen=> ?_
 unfold maxLen at hlen
 refine an (ai (aQ (2,0) _ rfl rfl) (ai (bp _ fA) (aj (aq (am (bc rfl rfl rfl (cd rfl rfl rfl (gR rfl rfl rfl (cI rfl (au rfl rfl (aA _ aa rfl rfl rfl) ?_))))))))))
 refine au rfl rfl (aF _ aa rfl rfl ef) (au rfl rfl (bC (r:=true) _ _ rfl rfl rfl) (ai (aD _ _ _ rfl bT) (cI rfl (au rfl rfl (aI _ mx) (au rfl rfl (aA _ aa rfl rfl rfl) (au rfl rfl (aF _ aa rfl rfl fz) (au rfl rfl (aH aa al (gF l _ rfl ab s) rfl rfl) ?_)))))))
 refine au rfl rfl (cq _ rfl rfl) (ai (aD _ _ _ rfl bT) (aj (bK rfl (by rw [decide_eq_false hs];rfl) ?_)))
 refine aq ?_
 refine aM (σ':=aE 45 [(1,_),(2,_)] [((2,0),_)] [] []) kp ?_
 refine an (ai (bp _ fA) (aj (am (ai (aI _ fA) (eO rfl (ai (vH (24,0) _ _ aa rfl (.sl (by simp)) ab rfl) ?_))))))
 refine fe rfl (aj (an (gz rfl (bc rfl rfl rfl (ai (aF _ aa rfl rfl fz) (ai (bh _ _ aa rfl ag (by (simp <;> rfl)) ah rfl) ?_))))))
 refine ai (dh (29,0) _ _ aa rfl rfl (by simp) (.sl rfl) ab rfl (nS _ _) (show l.length+1=(l++[s]).length by simp)) ?_
 refine fe rfl (aj (aT fun K6 hK6=> ?_))
 refine am (bg rfl (aj (ay ?_)))
 refine aM (Le.frzS 1 (ys:=fm (l++[s])) rfl rfl rfl (by rw [List.drop_zero,Nat.mul_one];exact List.take_of_length_le (by simp)) (by simp)) ?_
 refine bq (α:=Nat) (fun j=> j≤L.length) 45 [(2,_)] [((2,0),_)] (fun j=> [(6, .v (.int .i64 (j:Int))),(1, .sl (F j).length (fm (F j)))]) (fun j=> []) [] [] (fun j=> L.length - j) 0 ?_ (by
  refine Le.mkJ [] [] rfl ?_ ?_ trivial trivial ?_
  ·exact ⟨(iP rfl),(ci ag),(ja (by rw [hF]) (by rw [hF])),trivial⟩
  ·exact ⟨(cj rfl rfl rfl),trivial⟩
  kernel_rfl) ?_
 ·omega
 intro j hj
 refine aT fun K8 hK8=> ?_
 refine am (aX rfl (bc rfl rfl rfl (eQ rfl rfl rfl (ai (bi _ aa rfl) (ai (bm _ _ rfl rfl rfl) (aj (aR rfl (fun hc34=> ?_) (fun hc34=> ?_))))))))
 ·skip
  refine br (hK8 _ ?_)
  clear hK8;try clear K8
  refine aq (ay (an (bc rfl rfl rfl (eQ rfl rfl rfl (aX rfl (ai (bn _ _ aa rfl rfl _ rfl ab (by (simp only [aL,bb,bj,bv,bu,bG,bw];omega)) ag) ?_))))))
  refine ai (ca _ aa rfl (by exact cN _ _ ab) rfl) ?_
  refine eO rfl (ai (aH aa al (h j ab) rfl rfl) ?_)
  refine kB rfl (eh (an (aX rfl (ai (aZ _ _ rfl rfl (bD ab)) ?_))))
  refine bg rfl (aJ (⟨j+1,?_,?_,?_⟩))
  ·omega
  ·skip
   refine Le.mkJ [] [] rfl ?_ ?_ trivial trivial ?_
   ·exact ⟨(iP rfl),(ci ag),(ja ag ag),trivial⟩
   ·exact ⟨(cj rfl rfl rfl),trivial⟩
   kernel_rfl
  omega
 obtain rfl:j=L.length:=by omega
 refine bA (id (hK6 _ ?_))
 clear hK6;try clear K6
 exact am (eO rfl (kB rfl (aj (aG (qd rfl rfl)))))
theorem tC (n:Int) (s:Tx) (L:List Nd) (l:List Tx) (hs:s∈l) (hl:l.length≤1000) (F:Nat→List Tx) (hF:F 0=l) (h: ∀ j,j < L.length→Spec Tryz.prog 167 (ba [pu (lf L j), .sl (F j).length (fm (F j))] []) (aP (.sl (F (j+1)).length (fm (F (j+1)))) [])):
  Spec Tryz.prog 167 (ba [.agg [.v (.int .i64 14), .v (.int .i64 n), .v (bt s), .sl L.length (mR L)], .sl l.length (fm l)] []) (aP (.sl (F L.length).length (fm (F L.length))) []):=by
 refine Spec.ofN Tryz.func167 rfl Tryz.ntmps167 rfl ?_
 refine aq ?_
 refine lw 0 3 rfl rfl rfl fun hlen=> ?_
 unfold maxLen at hlen
 refine an (ai (aQ (2,0) _ rfl rfl) (ai (bp _ fA) (aj (aq (am (bc rfl rfl rfl (cd rfl rfl rfl (gR rfl rfl rfl (cI rfl (au rfl rfl (aA _ aa rfl rfl rfl) ?_))))))))))
 refine au rfl rfl (aF _ aa rfl rfl ef) (au rfl rfl (bC (r:=true) _ _ rfl rfl rfl) (ai (aD _ _ _ rfl bT) (cI rfl (au rfl rfl (aI _ mx) (au rfl rfl (aA _ aa rfl rfl rfl) (au rfl rfl (aF _ aa rfl rfl fz) (au rfl rfl (aH aa al (gF l _ rfl ab s) rfl rfl) ?_)))))))
 refine au rfl rfl (cq _ rfl rfl) (ai (aD _ _ _ rfl bT) (aj (aW rfl (by rw [decide_eq_true hs];rfl) ?_)))
 refine aS (aT fun K4 hK4=> ?_)
 refine aq ?_
 refine aM (σ':=aE 45 [(1,_),(2,_)] [((2,0),_)] [] []) kp ?_
 refine an (bg rfl (aj (ay ?_)))
 refine bq (α:=Nat) (fun j=> j≤L.length) 45 [(2,_)] [((2,0),_)] (fun j=> [(6, .v (.int .i64 (j:Int))),(1, .sl (F j).length (fm (F j)))]) (fun j=> []) [] [] (fun j=> L.length - j) 0 ?_ (by
  refine Le.mkJ [] [] rfl ?_ ?_ trivial trivial ?_
  ·exact ⟨(iP rfl),(ci ag),(ja (by rw [hF]) (by rw [hF])),trivial⟩
  ·exact ⟨(cj rfl rfl rfl),trivial⟩
  kernel_rfl) ?_
 ·omega
 intro j hj
 refine aT fun K6 hK6=> ?_
 refine am (aX rfl (bc rfl rfl rfl (eQ rfl rfl rfl (ai (bi _ aa rfl) (ai (bm _ _ rfl rfl rfl) (aj (aR rfl (fun hc34=> ?_) (fun hc34=> ?_))))))))
 ·skip
  refine br (hK6 _ ?_)
  clear hK6;try clear K6
  refine aq (ay (an (bc rfl rfl rfl (eQ rfl rfl rfl (aX rfl (ai (bn _ _ aa rfl rfl _ rfl ab (by (simp only [aL,bb,bj,bv,bu,bG,bw];omega)) ag) ?_))))))
  refine ai (ca _ aa rfl (by exact cN _ _ ab) rfl) ?_
  refine eO rfl (ai (aH aa al (h j ab) rfl rfl) ?_)
  refine kB rfl (eh (an (aX rfl (ai (aZ _ _ rfl rfl (bD ab)) ?_))))
  refine bg rfl (aJ (⟨j+1,?_,?_,?_⟩))
  ·omega
  ·skip
   refine Le.mkJ [] [] rfl ?_ ?_ trivial trivial ?_
   ·exact ⟨(iP rfl),(ci ag),(ja ag ag),trivial⟩
   ·exact ⟨(cj rfl rfl rfl),trivial⟩
   kernel_rfl
  omega
 obtain rfl:j=L.length:=by omega
 refine bA (id (hK4 _ ?_))
 clear hK4;try clear K4
 exact am (eO rfl (kB rfl (aj (aG (qd rfl rfl)))))
theorem ud (k:Nat) (hk:k≠1∧k≠14) (n:Int) (s:Tx) (L:List Nd) (l:List Tx) (hl:l.length≤1000) (F:Nat→List Tx) (hF:F 0=l) (h: ∀ j,j < L.length→Spec Tryz.prog 167 (ba [pu (lf L j), .sl (F j).length (fm (F j))] []) (aP (.sl (F (j+1)).length (fm (F (j+1)))) [])):
  Spec Tryz.prog 167 (ba [.agg [.v (.int .i64 (k:Int)), .v (.int .i64 n), .v (bt s), .sl L.length (mR L)], .sl l.length (fm l)] []) (aP (.sl (F L.length).length (fm (F L.length))) []):=by
 refine Spec.ofN Tryz.func167 rfl Tryz.ntmps167 rfl ?_
 refine aq ?_
 refine lw 0 3 rfl rfl rfl fun hlen=> ?_
 unfold maxLen at hlen
 refine an (ai (aQ (2,0) _ rfl rfl) (ai (bp _ fA) (aj (aq (am (bc rfl rfl rfl (cd rfl rfl rfl (gR rfl rfl (beq_eq_false_iff_ne.2 ab) ?_))))))))
 refine cI rfl (au rfl rfl (aA _ aa rfl rfl rfl) (au rfl rfl (aF _ aa rfl rfl ef) (au rfl rfl (bC (r:=false) _ _ rfl rfl (beq_eq_false_iff_ne.2 ab)) ?_)))
 refine ai (aD _ _ _ rfl bT) (cI rfl (aO rfl rfl ah ?_))
 refine aO rfl rfl ah ?_
 refine aO rfl rfl ah ?_
 refine aO rfl rfl ah ?_
 refine aO rfl rfl ah ?_
 refine ai (aD _ _ _ rfl bT) (aj (aW rfl rfl (aS (aT fun K4 hK4=> ?_))))
 refine aq ?_
 refine aM (σ':=aE 45 [(1,_),(2,_)] [((2,0),_)] [] []) kp ?_
 refine an (bg rfl (aj (ay ?_)))
 refine bq (α:=Nat) (fun j=> j≤L.length) 45 [(2,_)] [((2,0),_)] (fun j=> [(6, .v (.int .i64 (j:Int))),(1, .sl (F j).length (fm (F j)))]) (fun j=> []) [] [] (fun j=> L.length - j) 0 ?_ (by
  refine Le.mkJ [] [] rfl ?_ ?_ trivial trivial ?_
  ·exact ⟨(iP rfl),(ci ag),(ja (by rw [hF]) (by rw [hF])),trivial⟩
  ·exact ⟨(cj rfl rfl rfl),trivial⟩
  kernel_rfl) ?_
 ·omega
 intro j hj
 refine aT fun K6 hK6=> ?_
 refine am (aX rfl (bc rfl rfl rfl (eQ rfl rfl rfl (ai (bi _ aa rfl) (ai (bm _ _ rfl rfl rfl) (aj (aR rfl (fun hc34=> ?_) (fun hc34=> ?_))))))))
 ·skip
  refine br (hK6 _ ?_)
  clear hK6;try clear K6
  refine aq (ay (an (bc rfl rfl rfl (eQ rfl rfl rfl (aX rfl (ai (bn _ _ aa rfl rfl _ rfl ab (by (simp only [aL,bb,bj,bv,bu,bG,bw];omega)) ag) ?_))))))
  refine ai (ca _ aa rfl (by exact cN _ _ ab) rfl) ?_
  refine eO rfl (ai (aH aa al (h j ab) rfl rfl) ?_)
  refine kB rfl (eh (an (aX rfl (ai (aZ _ _ rfl rfl (bD ab)) ?_))))
  refine bg rfl (aJ (⟨j+1,?_,?_,?_⟩))
  ·omega
  ·skip
   refine Le.mkJ [] [] rfl ?_ ?_ trivial trivial ?_
   ·exact ⟨(iP rfl),(ci ag),(ja ag ag),trivial⟩
   ·exact ⟨(cj rfl rfl rfl),trivial⟩
   kernel_rfl
  omega
 obtain rfl:j=L.length:=by omega
 refine bA (id (hK4 _ ?_))
 clear hK4;try clear K4
 exact am (eO rfl (kB rfl (aj (aG (qd rfl rfl)))))
def fW (fs:List (List Tx→List Tx)) (l:List Tx):List Tx:=fs.foldl (fun l f=> f l) l
theorem kV {fs:List (List Tx→List Tx)} {l:List Tx} {j:Nat} (h:j < fs.length):fW (fs.take (j+1)) l=fs.getD j id (fW (fs.take j) l):=by
 rw [List.take_succ_eq_append_getElem h]
 unfold fW
 rw [List.foldl_append,List.getD_eq_getElem?_getD,List.getElem?_eq_getElem h];rfl
abbrev yt (nm:List Tx) (d:Nd) (f:List Tx→List Tx):Prop:= ∀ l,GN nm l→Spec Tryz.prog 167 (ba [pu d, .sl l.length (fm l)] []) (aP (.sl (f l).length (fm (f l))) [])∧GN nm (f l)
section
variable {nm:List Tx} (hnm:nm.length≤16) {L:List Nd} {fs:List (List Tx→List Tx)} (hfs:fs.length=L.length) (h: ∀ j,j < L.length→yt nm (lf L j) (fs.getD j id))
theorem pL (hfs:fs.length=L.length) (h: ∀ j,j < L.length→yt nm (lf L j) (fs.getD j id)) {l:List Tx} (hl:GN nm l): ∀ j,j≤L.length→GN nm (fW (fs.take j) l)
 | 0,_=> by simpa [fW] using hl
 | j+1,hj=> by
  rw [kV ab]
  exact (h j ab _ (pL hfs h hl j ab)).2
theorem cG (hnm:nm.length≤16) (hfs:fs.length=L.length) (h: ∀ j,j < L.length→yt nm (lf L j) (fs.getD j id)) (k:Nat) (hk:k≠1∧k≠14) (n:Nat) (s:Tx):yt nm (nd k n s L) (fW fs):=fun l hl=> by
 have hg:=pL hfs h hl
 have he:fW (fs.take L.length) l=fW fs l:=by rw [← hfs,List.take_length]
 have hw:=ud k hk n s L l (by have:=hl.len;omega) (fun j=> fW (fs.take j) l) rfl fun j hj=> by
  rw [show fW (fs.take (j+1)) l=_ from kV ab]
  exact (h j hj _ (hg j ab)).1
 rw [he] at hw
 exact ⟨hw,he ▸ hg _ (Nat.le_refl _)⟩
theorem xJ (hnm:nm.length≤16) (hfs:fs.length=L.length) (h: ∀ j,j < L.length→yt nm (lf L j) (fs.getD j id)) (n:Nat) {i:Nat} (hi:i < nm.length):yt nm (nd 1 n (nm.getD i []) L) (fun l=> fW fs (iQ (nm.getD i []) l)):=fun l hl=> by
 have hg:=pL hfs h (hl.add hi)
 have he:fW (fs.take L.length) (iQ (nm.getD i []) l)=fW fs (iQ (nm.getD i []) l):=by rw [← hfs,List.take_length]
 have hkid: ∀ j,j < L.length→_:=fun j hj=> (h j hj _ (hg j ab)).1
 have hll:=hl.len
 show Spec _ _ _ (aP (.sl (fW fs (iQ (nm.getD i []) l)).length (fm (fW fs (iQ (nm.getD i []) l)))) [])∧GN nm (fW fs (iQ (nm.getD i []) l))
 rw [← he]
 refine ⟨?_,hg _ (Nat.le_refl _)⟩
 by_cases hs:nm.getD i []∈l
 ·exact uI n _ L l hs ab (fun j=> fW (fs.take j) (iQ (nm.getD i []) l)) (by show iQ _ l=l;unfold iQ;rw [if_pos hs]) fun j hj=> by
   rw [show fW (fs.take (j+1)) (iQ (nm.getD i []) l)=_ from kV ab]
   exact hkid j hj
 exact uc n _ L l hs ab (fun j=> fW (fs.take j) (iQ (nm.getD i []) l)) (by show iQ _ l=_;unfold iQ;rw [if_neg hs]) fun j hj=> by
  rw [show fW (fs.take (j+1)) (iQ (nm.getD i []) l)=_ from kV ab]
  exact hkid j hj
end
theorem ya {nm:List Tx} (hnm:nm.length≤16) {i:Nat} (hi:i < nm.length):yt nm (nd 14 0 (nm.getD i []) []) (iQ (nm.getD i [])):=fun l hl=> by
 have hll:=hl.len
 refine ⟨?_,hl.add hi⟩
 by_cases hs:nm.getD i []∈l
 ·exact tC 0 _ [] l hs ab (fun _=> iQ (nm.getD i []) l) (by show iQ _ l=l;unfold iQ;rw [if_pos hs]) fun j hj=> by simp at hj
 exact tB 0 _ [] l hs ab (fun _=> iQ (nm.getD i []) l) (by show iQ _ l=_;unfold iQ;rw [if_neg hs]) fun j hj=> by simp at hj
section
variable {nm:List Tx}
abbrev Bw (nm:List Tx) (L:List Nd) (fs:List (List Tx→List Tx)):Prop:= ∀ j,j < L.length→yt nm (lf L j) (fs.getD j id)
theorem sd:Bw nm [] []:=fun j hj=> by simp at hj
theorem qV {d:Nd} {f:List Tx→List Tx} {L:List Nd} {fs:List (List Tx→List Tx)} (h:yt nm d f) (h':Bw nm L fs):Bw nm (d::L) (f::fs):=fun j hj=> by
 cases j with
 | zero=> exact h
 | succ j=> exact h' j (by simpa using hj)
theorem dC (hnm:nm.length≤16): ∀ e:Ex,ig nm.length e→yt nm (eM nm e) (sY nm e)
 | .int _,_=> cG hnm rfl sd 12 ab _ _
 | .bool _,_=> cG hnm rfl sd 13 ab _ _
 | .name _,_=> cG hnm rfl sd 15 ab _ _
 | .var i,h=> ya hnm h
 | .draw e,h=> cG hnm rfl (qV (dC hnm e h) sd) 16 ab _ _
 | .neg e,h=> cG hnm rfl (qV (dC hnm e h) sd) 17 ab _ _
 | .not e,h=> cG hnm rfl (qV (dC hnm e h) sd) 17 ab _ _
 | .bin _ a b,h=> cG hnm rfl (qV (dC hnm a h.1) (qV (dC hnm b h.2) sd)) 18 ab _ _
 | .and a b,h=> cG hnm rfl (qV (dC hnm a h.1) (qV (dC hnm b h.2) sd)) 18 ab _ _
 | .or a b,h=> cG hnm rfl (qV (dC hnm a h.1) (qV (dC hnm b h.2) sd)) 18 ab _ _
def Gj (nm:List Tx):Bk→List (List Tx→List Tx)
 | .nil=> []
 | .cons s b=> LY nm s::Gj nm b
theorem wP (nm:List Tx): ∀ b:Bk,(Gj nm b).length=(jc nm b).length
 | .nil=> by simp [Gj,jc]
 | .cons s b=> by simp [Gj,jc,wP nm b]
theorem tV (nm:List Tx): ∀ (b:Bk) (l:List Tx),fW (Gj nm b) l=Dj nm b l
 | .nil,l=> rfl
 | .cons s b,l=> by rw [Dj,← tV nm b];rfl
theorem lX (hnm:nm.length≤16) {b:Bk} (h:Bw nm (jc nm b) (Gj nm b)):yt nm (iX nm b) (Dj nm b):=by
 have:=cG hnm (wP nm b) h 11 ab 0 []
 rwa [show fW (Gj nm b)=Dj nm b from funext (tV nm b)] at this
mutual
theorem CF (hnm:nm.length≤16): ∀ s:Sm,gL nm.length s→yt nm (Dw nm s) (LY nm s)
 | .assign i e,h=> by rw [gL] at h;exact xJ hnm rfl (qV (dC hnm e h.2) sd) 0 h.1
 | .send t k a b,h=> by rw [gL] at h;exact cG hnm rfl (qV (dC hnm t h.2.1) (qV (dC hnm a h.2.2.1) (qV (dC hnm b h.2.2.2) sd))) 4 ab _ _
 | .timer _,_=> cG hnm rfl sd 5 ab _ _
 | .cancel _,_=> cG hnm rfl sd 6 ab _ _
 | .sync,_=> cG hnm rfl sd 7 ab _ _
 | .stop,_=> cG hnm rfl sd 10 ab _ _
 | .reply a b,h=> by rw [gL] at h;exact cG hnm rfl (qV (dC hnm a h.1) (qV (dC hnm b h.2) sd)) 8 ab _ _
 | .fail e,h=> by rw [gL] at h;exact cG hnm rfl (qV (dC hnm e h) sd) 9 ab _ _
 | .loop c b,h=> by rw [gL] at h;exact cG hnm rfl (qV (dC hnm c h.1) (qV (lX hnm (lB hnm b h.2)) sd)) 3 ab _ _
 | .ite c a b,h=> by rw [gL] at h;exact cG hnm rfl (qV (dC hnm c h.1) (qV (lX hnm (lB hnm a h.2.1)) (qV (lX hnm (lB hnm b h.2.2)) sd))) 2 ab _ _
theorem lB (hnm:nm.length≤16): ∀ b:Bk,ld nm.length b→Bw nm (jc nm b) (Gj nm b)
 | .nil,_=> sd
 | .cons s b,h=> by rw [ld] at h;exact qV (CF hnm s h.1) (lB hnm b h.2)
end
theorem Aa (hnm:nm.length≤16) (b:Bk) (h:ld nm.length b):yt nm (iX nm b) (Dj nm b):=lX hnm (lB hnm b h)
end

theorem mC {l:List Tx} (h:l.Nodup) {i j:Nat} (hi:i < l.length) (hj:j < l.length) (e:l.getD i []=l.getD j []):i=j:=by
 rw [List.getD_eq_getElem?_getD,List.getD_eq_getElem?_getD,List.getElem?_eq_getElem hi,List.getElem?_eq_getElem hj] at e
 have h:=List.pairwise_iff_getElem.1 h
 rcases Nat.lt_trichotomy i j with hlt | rfl | hlt
 ·exact absurd (Option.some.inj (by simpa using e)) (h i j hi hj hlt)
 ·rfl
 exact absurd (Option.some.inj (by simpa using e)).symm (h j i hj hi hlt)
theorem rx {a b:List Tx} {k:Nat} (h:k < a.length):a.getD k []=(a++b).getD k []:=by
 rw [List.getD_eq_getElem?_getD,List.getD_eq_getElem?_getD,List.getElem?_append_left h]
theorem getD_right {a b:List Tx} {k:Nat}:b.getD k []=(a++b).getD (a.length+k) []:=by
 rw [List.getD_eq_getElem?_getD,List.getD_eq_getElem?_getD,List.getElem?_append_right ab,Nat.add_sub_cancel_left]
theorem mE (d v:List Tx) (on:List PV) (no:Nat) (hn:(d++v).Nodup) (hl:(d++v).length≤1000) (i:Nat) (hi:i < (d++v).length):
  Spec Tryz.prog 121 (ba [.agg [.sl d.length (fm d), .sl v.length (fm v), .sl no on], .v (bt ((d++v).getD i []))] []) (aP (.v (.int .i64 (i:Int))) []):=by
 have hl2:(d++v).length=d.length+v.length:=List.length_append
 refine Spec.ofN Tryz.func121 rfl Tryz.ntmps121 rfl ?_
 refine am (ai (aQ (2,0) _ rfl rfl) (bg rfl (aj (aT fun K2 hK2=> ?_))))
 refine am (bg rfl (aj (ay ?_)))
 refine bq (α:=Nat) (fun k=> k≤d.length∧k≤i) 41 [(1,_),(2,_)] [((2,0),_)] (fun k=> [(5, .v (.int .i64 (k:Int)))]) (fun k=> []) [] [] (fun k=> d.length - k) 0 ?_ (by
  refine Le.mkJ [] [] rfl ?_ ?_ trivial trivial ?_
  ·exact ⟨(iV rfl),(iP rfl),(ci ag),trivial⟩
  ·exact ⟨(cj rfl rfl rfl),trivial⟩
  kernel_rfl) ?_
 ·exact ⟨Nat.zero_le _,Nat.zero_le _⟩
 intro k hk
 obtain ⟨hk,hki⟩:=hk
 refine aT fun K4 hK4=> ?_
 refine am (aX rfl (bc rfl rfl rfl (eQ rfl rfl rfl (ai (bi _ aa rfl) (ai (bm _ _ rfl rfl rfl) (aj (aR rfl (fun hc11=> ?_) (fun hc11=> ?_))))))))
 ·skip
  refine br (hK4 _ ?_)
  clear hK4;try clear K4
  refine aq (ay (am (bc rfl rfl rfl (eQ rfl rfl rfl (aX rfl (ai (bn _ _ aa rfl rfl _ rfl ab (by (simp only [aL,bb,bj,bv,bu,bG,bw,List.length_map];omega)) (by exact Nat.mul_one _)) ?_))))))
  refine ai (bL _ aa rfl (by exact jI _ _ ab) rfl) ?_
  refine ej rfl (ai (aV _ _ Tryz.underlying9 rfl rfl rfl) (aj (aR rfl (fun hc20=> ?_) (fun hc20=> ?_))))
  ·skip
   have he:k=i:=mC hn ab hi ((rx ab).symm.trans hc20)
   refine am (aX rfl (bg rfl (aj (aG (ry rfl rfl ?_)))))
   rw [he]
  have he:k≠i:=fun e=> hc20 ((rx ab).trans (by rw [e]))
  refine cr (an (aX rfl (ai (aZ _ _ rfl rfl (bD ab)) ?_)))
  refine bg rfl (aJ (⟨k+1,?_,?_,?_⟩))
  ·exact ⟨by omega,by omega⟩
  ·skip
   refine Le.mkJ [] [] rfl ?_ ?_ trivial trivial ?_
   ·exact ⟨(iV rfl),(iP rfl),(ci ag),trivial⟩
   ·exact ⟨(cj rfl rfl rfl),trivial⟩
   kernel_rfl
  omega
 refine bA (id (hK2 _ ?_))
 clear hK2;try clear K2
 refine aq (am (bg rfl (aj (ay ?_))))
 refine bq (α:=Nat) (fun q=> q≤v.length∧d.length+q≤i) 41 [(1,_),(2,_)] [((2,0),_)] (fun q=> [(6, .v (.int .i64 (q:Int)))]) (fun q=> []) [] [] (fun q=> v.length - q) 0 ?_ (by
  refine Le.mkJ [] [] rfl ?_ ?_ trivial trivial ?_
  ·exact ⟨(iV rfl),(iP rfl),(ci ag),trivial⟩
  ·exact ⟨(cj rfl rfl rfl),trivial⟩
  kernel_rfl) ?_
 ·exact ⟨Nat.zero_le _,by omega⟩
 intro q hq
 obtain ⟨hq,hqi⟩:=hq
 refine aT fun K11 hK11=> ?_
 refine am (aX rfl (bc rfl rfl rfl (eQ rfl rfl rfl (ai (bi _ aa rfl) (ai (bm _ _ rfl rfl rfl) (aj (aR rfl (fun hc26=> ?_) (fun hc26=> ?_))))))))
 ·skip
  refine br (hK11 _ ?_)
  clear hK11;try clear K11
  refine aq (ay (am (bc rfl rfl rfl (eQ rfl rfl rfl (aX rfl (ai (bn _ _ aa rfl rfl _ rfl ab (by (simp only [aL,bb,bj,bv,bu,bG,bw,List.length_map];omega)) (by exact Nat.mul_one _)) ?_))))))
  refine ai (bL _ aa rfl (by exact jI _ _ ab) rfl) ?_
  refine ej rfl (ai (aV _ _ Tryz.underlying9 rfl rfl rfl) (aj (aR rfl (fun hc35=> ?_) (fun hc35=> ?_))))
  ·skip
   have he:d.length+q=i:=mC hn ab hi (getD_right.symm.trans hc35)
   refine am (bc rfl rfl rfl (eQ rfl rfl rfl (ai (bi _ aa rfl) (aX rfl (ai (aZ _ _ rfl rfl (bD ab)) ?_)))))
   refine bg rfl (aj (aG (ry rfl rfl ?_)))
   omega
  have he:d.length+q≠i:=fun e=> hc35 (getD_right.trans (by rw [e]))
  refine cr (an (aX rfl (ai (aZ _ _ rfl rfl (bD ab)) ?_)))
  refine bg rfl (aJ (⟨q+1,?_,?_,?_⟩))
  ·exact ⟨by omega,by omega⟩
  ·skip
   refine Le.mkJ [] [] rfl ?_ ?_ trivial trivial ?_
   ·exact ⟨(iV rfl),(iP rfl),(ci ag),trivial⟩
   ·exact ⟨(cj rfl rfl rfl),trivial⟩
   kernel_rfl
  omega
 exact absurd hqi ab
theorem zR (ons:List (Nat×Bk)) (nm:List Tx) (k:Nat) (h:k < ons.length):oQ (ons.map fun p=> (p.1,iX nm p.2)) k=((ons[k]).1,iX nm (ons[k]).2):=by
 rw [oh _ _ (by simpa using h),List.getElem_map]
theorem tP (l:List Hd) (k:Nat) (h:k < l.length):PV.ups (((mj l).drop (k*5+1)).take 4)=[.v (.int .i64 ((oQ l k).2.k:Int)), .v (.int .i64 ((oQ l k).2.n:Int)), .v (bt (oQ l k).2.s), .sl (oQ l k).2.kn (oQ l k).2.kids]:=by
 have e:=mt vy 5 (fun _=> rfl) l k h
 have:((mj l).drop (k*5+1)).take 4=(((l.flatMap vy).drop (k*5)).take 5).drop 1:=by
  rw [List.drop_take,List.drop_drop];rfl
 rw [this,e,oh l k h];rfl
theorem qN (d v:List Tx) (ons:List (Nat×Bk)) (hn:(d++v).Nodup) (hl:(d++v).length≤16) (ho: ∀ p∈ons,ld (d++v).length p.2) (hw: ∀ p∈ons,qR p.2=true) (hc:ons.length≤1000):
  Spec Tryz.prog 97 (ba [JA d v (ons.map fun p=> (p.1,iX (d++v) p.2))] []) (aP (.v (.int .i64 0)) []):=by
 obtain ⟨H,hH⟩: ∃ H,H=ons.map fun p=> (p.1,iX (d++v) p.2):=⟨_,rfl⟩
 have hHl:H.length=ons.length:=by rw [hH,List.length_map]
 rw [← hH]
 have hHk: ∀ k (h:k < ons.length),oQ H k=((ons[k]).1,iX (d++v) (ons[k]).2):=fun k h=> by rw [hH];exact zR ons _ k h
 clear hH
 refine Spec.ofN Tryz.func97 rfl Tryz.ntmps97 rfl ?_
 refine am (ai (aQ (1,0) _ rfl rfl) (bg rfl (aj (aT fun K2 hK2=> ?_))))
 refine am (bg rfl (aj (ay ?_)))
 refine bq (α:=Nat) (fun k=> k≤H.length) 43 [(1,_)] [((1,0),_)] (fun k=> [(3, .v (.int .i64 (k:Int)))]) (fun k=> []) [] [] (fun k=> H.length - k) 0 ?_ (by
  refine Le.mkJ [] [] rfl ?_ ?_ trivial trivial ?_
  ·exact ⟨(iP rfl),(ci ag),trivial⟩
  ·exact ⟨(cj rfl rfl rfl),trivial⟩
  kernel_rfl) ?_
 ·omega
 intro k hk
 refine aT fun K4 hK4=> ?_
 refine am (aX rfl (bc rfl rfl rfl (eQ rfl rfl rfl (ai (bi _ aa rfl) (ai (bm _ _ rfl rfl rfl) (aj (aR rfl (fun hc11=> ?_) (fun hc11=> ?_))))))))
 ·skip
  have hk2:k < ons.length:=by omega
  obtain ⟨b,hb⟩: ∃ b,b=(ons[k]).2:=⟨_,rfl⟩
  have hkH:=hHk k hk2
  rw [← hb] at hkH
  have hwb:=DR (d++v) b (hb ▸ hw _ (List.getElem_mem hk2))
  obtain ⟨hnb,hng⟩:=Aa hl b (hb ▸ ho _ (List.getElem_mem hk2)) [] GN.nil
  have hbody:=tP H k ab
  rw [hkH] at hbody
  generalize Dj (d++v) b []=M at hnb hng
  have hMl:=hng.len
  refine br (hK4 _ ?_)
  clear hK4;try clear K4
  refine aT fun K6 hK6=> ?_
  refine ay (am (bc rfl rfl rfl (eQ rfl rfl rfl (aX rfl (ai (bn _ _ aa rfl rfl _ rfl ab (by (simp only [aL,bb,bj,bv,bu,bG,bw,List.length_map];omega)) ag) ?_)))))
  refine ai (cX _ aa rfl rfl) (ai (ca _ aa rfl (by exact hbody) rfl) ?_)
  refine ai (aH aa al (hwb) rfl rfl) ?_
  refine cu rfl (aj (aq (am (cI rfl (ai (cq (r:=false) _ rfl rfl) (aj (aW rfl rfl (aS (aq ?_)))))))))
  refine aM (σ':=aE 43 [(1,_),(3,_)] [((1,0),_)] [] []) kp ?_
  refine an (bc rfl rfl rfl (eQ rfl rfl rfl (aX rfl (ai (bn _ _ aa rfl rfl _ rfl ab (by (simp only [aL,bb,bj,bv,bu,bG,bw,List.length_map];omega)) ag) ?_))))
  refine ai (cX _ aa rfl rfl) (ai (ca _ aa rfl (by exact hbody) rfl) ?_)
  refine ai (aH aa al (hnb) rfl rfl) ?_
  refine kB rfl (aj (am (bg rfl (aj (ay ?_)))))
  refine bq (α:=Nat) (fun q=> q≤M.length) 43 [(1,_),(3,_),(5,_)] [((1,0),_)] (fun q=> [(6, .v (.int .i64 (q:Int)))]) (fun q=> []) [] [] (fun q=> M.length - q) 0 ?_ (by
   refine Le.mkJ [] [] rfl ?_ ?_ trivial trivial ?_
   ·exact ⟨(iP rfl),(iV rfl),(iS rfl),(ci ag),trivial⟩
   ·exact ⟨(cj rfl rfl rfl),trivial⟩
   kernel_rfl) ?_
  ·omega
  intro q hq
  refine aT fun K12 hK12=> ?_
  refine am (aX rfl (eO rfl (ai (bi _ aa rfl) (ai (bm _ _ rfl rfl rfl) (aj (aR rfl (fun hc33=> ?_) (fun hc33=> ?_)))))))
  ·skip
   obtain ⟨i,hi,hiq⟩: ∃ i,i < (d++v).length∧M.getD q []=(d++v).getD i []:=by
    have hm:=hng.2 _ (kr (show q < M.length by omega))
    obtain ⟨i,hi,he⟩:=List.getElem_of_mem hm
    exact ⟨i,hi,by rw [List.getD_eq_getElem?_getD (l:=d++v),List.getElem?_eq_getElem hi,← he];rfl⟩
   have hix:=mE d v (mj H) H.length hn ab i hi
   rw [← hiq] at hix
   refine br (hK12 _ ?_)
   clear hK12;try clear K12
   refine aq (ay (aq ?_))
   refine aM (σ':=aE 43 [(1,_),(3,_),(5,_),(6,_)] [((1,0),_)] [] []) kp ?_
   refine bJ 7 [36,37,38,39,40,41,42] [] ae ae rfl (aK rfl) (rfl:_=[_,_,_,_,_,_,_]) (rfl:_=[]) ?_
   refine ap (_,[]) (fun τ=> az _ aa rfl rfl rfl rfl) ?_
   refine fO rfl ?_
   refine ap (_,[]) (fun τ=> aI _ mx) ?_
   refine fN rfl ?_
   refine ap (_,[]) (fun τ=> aI _ et) ?_
   refine fP rfl ?_
   refine ap (_,[]) (fun τ=> bn _ _ aa rfl rfl _ rfl ab (by (simp only [aL,bb,bj,bv,bu,bG,bw,List.length_map];omega)) (by exact Nat.mul_one _)) ?_
   refine fV rfl ?_
   refine ap (_,[]) (fun τ=> bL _ aa rfl (by exact jI _ _ ab) rfl) ?_
   refine gm rfl ?_
   refine ap (_,[]) (fun τ=> (aH aa al (hix) rfl rfl)) ?_
   refine gY rfl ?_
   refine ap (_,[]) (fun τ=> bm (r:=false) _ _ rfl rfl (decide_eq_false ab)) ?_
   refine iH rfl (bo ⟨rfl,?_⟩)
   refine aj (aW rfl rfl (cr (an (aX rfl (ai (aZ _ _ rfl rfl (bD ab)) ?_)))))
   refine bg rfl (aJ (⟨q+1,?_,?_,?_⟩))
   ·omega
   ·skip
    refine Le.mkJ [] [] rfl ?_ ?_ trivial trivial ?_
    ·exact ⟨(iP rfl),(iV rfl),(iS rfl),(ci ag),trivial⟩
    ·exact ⟨(cj rfl rfl rfl),trivial⟩
    kernel_rfl
   omega
  refine bA (id (hK6 _ ?_))
  clear hK6;try clear K6
  refine an (aX rfl (ai (aZ _ _ rfl rfl (bD ab)) ?_))
  refine bg rfl (aJ (⟨k+1,?_,?_,?_⟩))
  ·omega
  ·skip
   refine Le.mkJ [] [] rfl ?_ ?_ trivial trivial ?_
   ·exact ⟨(iP rfl),(ci ag),trivial⟩
   ·exact ⟨(cj rfl rfl rfl),trivial⟩
   kernel_rfl
  omega
 refine bA (id (hK2 _ ?_))
 clear hK2;try clear K2
 exact am (bg rfl (aj (aG (fv rfl rfl))))
end Go.Proofs.YtmjnackchaahbaaGreat
