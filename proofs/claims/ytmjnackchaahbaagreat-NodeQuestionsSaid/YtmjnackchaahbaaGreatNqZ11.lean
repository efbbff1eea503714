/- part 11 -/
import Derived.Test.YtmjnackchaahbaaGreatNqZ10
set_option linter.unusedSimpArgs false
set_option linter.unusedVariables false
namespace Go.Proofs.YtmjnackchaahbaaGreat
open Go.RowKit

def ln (l:List Nd) (j:Nat):Nd:=l.getD j ⟨0,0,[],0,[]⟩
theorem IH (l:List Nd) (k:Nat) (h:k < l.length):ln l k=l[k]:=by simp [ln,h]
theorem cN (l:List Nd) (k:Nat) (h:k < l.length):PV.ups (((nc l).drop (k*4)).take 4)=[.v (.int .i64 ((ln l k).k:Int)), .v (.int .i64 ((ln l k).n:Int)), .v (bt (ln l k).s), .sl (ln l k).kn (ln l k).kids]:=by
 rw [IH l k h,show ((nc l).drop (k*4)).take 4=l[k].row from lU Nd.row 4 (fun _=> rfl) l k h];rfl
theorem gG (l:List Tx) (n:Nat) (hn:l.length=n) (h1:n≤1000) (t:Tx):Spec Tryz.prog 204 (ba [.sl n (fo l), .v (bt t)] []) (aP (.v (.bool (decide (t∈l)))) []):=by
 refine Spec.ofN Tryz.func204 rfl Tryz.ntmps204 rfl ?_
 refine am (cu rfl (aj (aU fun K2 hK2=> ?_)))
 refine am (be rfl (aj (ay ?_)))
 refine bq (α:=Nat) (fun k=> k≤n∧t∉l.take k) 18 [(0,_),(1,_)] [] (fun k=> [(5, .v (.int .i64 (k:Int)))]) (fun k=> []) [] [] (fun k=> n - k) 0 ?_ (by
  refine Le.mkJ [] [] rfl ?_ ?_ trivial trivial ?_
  ·exact ⟨(iS rfl),(iV rfl),(co ag),trivial⟩
  ·exact trivial
  kernel_rfl) ?_
 ·exact ⟨Nat.zero_le _,by simp⟩
 intro k hk
 obtain ⟨hk,hnt⟩:=hk
 refine aU fun K4 hK4=> ?_
 refine am (aX rfl (eY rfl (ai (bo _ aa rfl) (ai (bl _ _ rfl rfl rfl) (aj (aR rfl (fun hc9=> ?_) (fun hc9=> ?_)))))))
 ·skip
  refine bs (hK4 _ ?_)
  clear hK4;try clear K4
  refine aq (ay (am (eY rfl (aX rfl (ai (bn _ _ aa rfl rfl _ rfl ab (by (simp only [aO,bg,bj,bv,bu,bH,bw];omega)) (by exact Nat.mul_one _)) ?_)))))
  refine ai (bT _ aa rfl (by exact jO _ _ ab) rfl) ?_
  refine ej rfl (ai (aV _ _ Tryz.underlying9 rfl rfl rfl) (aj (aR rfl (fun hc17=> ?_) (fun hc17=> ?_))))
  ·skip
   refine am (cu rfl (aj (aG (rJ rfl rfl ?_))))
   exact decide_eq_true (hc17 ▸ kk ab)
  refine cp (an (aX rfl (ai (aZ _ _ rfl rfl (bD ab)) ?_)))
  refine be rfl (aJ (⟨k+1,?_,?_,?_⟩))
  ·exact ⟨by omega,kW hnt ab hc17⟩
  ·skip
   refine Le.mkJ [] [] rfl ?_ ?_ trivial trivial ?_
   ·exact ⟨(iS rfl),(iV rfl),(co ag),trivial⟩
   ·exact trivial
   kernel_rfl
  omega
 have hall:t∉l:=by rwa [List.take_of_length_le ab] at hnt
 refine bB (id (hK2 _ ?_))
 clear hK2;try clear K2
 refine am (cu rfl (aj (aG (rJ rfl rfl ?_))))
 exact decide_eq_false hall
def yk:List Tx:=[[60],[60,61],[62],[62,61],[61,61],[33,61]]
theorem mK (t:Tx):Spec Tryz.prog 227 (ba [.v (bt t)] []) (aP (.v (.bool (decide (t∈yk)))) []):=by
 refine Spec.ofN Tryz.func227 rfl Tryz.ntmps227 rfl ?_
 refine am (cu rfl (aj (am (ai (bh _ _ aa rfl ag (by (simp <;> rfl)) ah rfl) ?_))))
 refine ej rfl (ai (aI aa al (gG yk 6 rfl ab t) rfl rfl) ?_)
 refine cu rfl (aj (aG (rJ rfl rfl ?_)))
 rfl
theorem Ix (n:Nat):Spec Tryz.prog 203 (ba [pA (nd 12 n [] [])] []) (aP (.v (.int .i64 1)) []):=by
 refine Spec.ofN Tryz.func203 rfl Tryz.ntmps203 rfl ?_
 refine am (ai (aQ (1,0) _ rfl rfl) (be rfl (aj (aq (am (bb rfl rfl rfl (cf rfl rfl rfl (kf rfl rfl rfl (cE rfl (aK rfl rfl ah ?_))))))))))
 refine aK rfl rfl ah ?_
 refine aK rfl rfl ah ?_
 refine ai (aB _ _ _ rfl bJ) (cE rfl (aK rfl rfl ah ?_))
 refine aK rfl rfl ah ?_
 refine aK rfl rfl ah ?_
 refine ai (aB _ _ _ rfl bJ) (aj (bM rfl rfl (aq ?_)))
 refine aM (σ':=aE 80 [] [] [] []) kp ?_
 exact an (be rfl (aj (aG (fv rfl rfl))))
theorem Ij (s:Tx):Spec Tryz.prog 203 (ba [pA (nd 14 0 s [])] []) (aP (.v (.int .i64 1)) []):=by
 refine Spec.ofN Tryz.func203 rfl Tryz.ntmps203 rfl ?_
 refine am (ai (aQ (1,0) _ rfl rfl) (be rfl (aj (aq (am (bb rfl rfl rfl (cf rfl rfl rfl (gM rfl rfl rfl (cE rfl (au rfl rfl (aA _ aa rfl rfl rfl) ?_))))))))))
 refine au rfl rfl (aF _ aa rfl rfl ee) (au rfl rfl (bC (r:=true) _ _ rfl rfl rfl) (ai (aB _ _ _ rfl bJ) (cE rfl (aK rfl rfl ah ?_))))
 refine aK rfl rfl ah ?_
 refine aK rfl rfl ah ?_
 refine ai (aB _ _ _ rfl bJ) (aj (bM rfl rfl (aq ?_)))
 refine aM (σ':=aE 80 [] [] [] []) kp ?_
 exact an (be rfl (aj (aG (fv rfl rfl))))
theorem Gj (s:Tx):Spec Tryz.prog 203 (ba [pA (nd 15 0 s [])] []) (aP (.v (.int .i64 1)) []):=by
 refine Spec.ofN Tryz.func203 rfl Tryz.ntmps203 rfl ?_
 refine am (ai (aQ (1,0) _ rfl rfl) (be rfl (aj (aq (am (bb rfl rfl rfl (cf rfl rfl rfl (gM rfl rfl rfl (cE rfl (au rfl rfl (aA _ aa rfl rfl rfl) ?_))))))))))
 refine au rfl rfl (aF _ aa rfl rfl ee) (au rfl rfl (bC (r:=false) _ _ rfl rfl rfl) (ai (aB _ _ _ rfl bJ) (cE rfl (au rfl rfl (aA _ aa rfl rfl rfl) (au rfl rfl (aF _ aa rfl rfl ee) (au rfl rfl (bC (r:=true) _ _ rfl rfl rfl) (ai (aB _ _ _ rfl bJ) (aj (bM rfl rfl (aq ?_))))))))))
 refine aM (σ':=aE 80 [] [] [] []) kp ?_
 exact an (be rfl (aj (aG (fv rfl rfl))))
theorem EC (n:Nat):Spec Tryz.prog 203 (ba [pA (nd 13 n [] [])] []) (aP (.v (.int .i64 2)) []):=by
 refine Spec.ofN Tryz.func203 rfl Tryz.ntmps203 rfl ?_
 refine am (ai (aQ (1,0) _ rfl rfl) (be rfl (aj (aq (am (bb rfl rfl rfl (cf rfl rfl rfl (gM rfl rfl rfl (cE rfl (au rfl rfl (aA _ aa rfl rfl rfl) ?_))))))))))
 refine au rfl rfl (aF _ aa rfl rfl ee) (au rfl rfl (bC (r:=false) _ _ rfl rfl rfl) (ai (aB _ _ _ rfl bJ) (cE rfl (au rfl rfl (aA _ aa rfl rfl rfl) (au rfl rfl (aF _ aa rfl rfl ee) (au rfl rfl (bC (r:=false) _ _ rfl rfl rfl) (ai (aB _ _ _ rfl bJ) (aj (aW rfl rfl (aT ?_))))))))))
 refine aq (aq ?_)
 refine aM (σ':=aE 80 [(1,_)] [((1,0),_)] [] []) kp ?_
 exact an (bb rfl rfl rfl (cf rfl rfl rfl (kf rfl rfl rfl (aj (bM rfl rfl (am (be rfl (aj (aG (fv rfl rfl))))))))))
theorem Ev (L:List Nd) (hL:L.length≤3) (t:Nat→Nat) (ht: ∀ j,t j≤2) (h: ∀ j,j < L.length→Spec Tryz.prog 203 (ba [pA (ln L j)] []) (aP (.v (.int .i64 (t j:Int))) [])) (r:Nat) (hr1:(∀ j,j < L.length→t j=1)→r=1) (hr0: ∀ j,j < L.length→t j≠1→r=0):
  Spec Tryz.prog 203 (ba [.agg [.v (.int .i64 16), .v (.int .i64 0), .v (bt []), .sl L.length (nc L)]] []) (aP (.v (.int .i64 (r:Int))) []):=by
 refine Spec.ofN Tryz.func203 rfl Tryz.ntmps203 rfl ?_
 refine am (ai (aQ (1,0) _ rfl rfl) (be rfl (aj (aq (am (bb rfl rfl rfl (cf rfl rfl rfl (gM rfl rfl rfl (cE rfl (au rfl rfl (aA _ aa rfl rfl rfl) ?_))))))))))
 refine au rfl rfl (aF _ aa rfl rfl ee) (au rfl rfl (bC (r:=false) _ _ rfl rfl rfl) (ai (aB _ _ _ rfl bJ) (cE rfl (au rfl rfl (aA _ aa rfl rfl rfl) (au rfl rfl (aF _ aa rfl rfl ee) (au rfl rfl (bC (r:=false) _ _ rfl rfl rfl) (ai (aB _ _ _ rfl bJ) (aj (aW rfl rfl (aT ?_))))))))))
 refine aq (aq ?_)
 refine aM (σ':=aE 80 [(1,_)] [((1,0),_)] [] []) kp ?_
 refine an (bb rfl rfl rfl (cf rfl rfl rfl (gM rfl rfl rfl (aj (aW rfl rfl (aT (aq (am (bb rfl rfl rfl (cf rfl rfl rfl ?_))))))))))
 refine ai (bL (r:=false) _ _ rfl rfl rfl) (cE rfl (aK rfl rfl ah ?_))
 refine aK rfl rfl ah ?_
 refine aK rfl rfl ah ?_
 refine ai (aB _ _ _ rfl bJ) (cE rfl (aK rfl rfl ah ?_))
 refine aK rfl rfl ah ?_
 refine aK rfl rfl ah ?_
 refine ai (aB _ _ _ rfl bJ) (aj (aW rfl rfl (aT (aq ?_))))
 refine aM (σ':=aE 80 [(1,_)] [((1,0),_)] [] []) kp ?_
 refine an (be rfl (aj (am (be rfl (aj (aq (am (bb rfl rfl rfl (cf rfl rfl rfl (gM rfl rfl rfl ?_))))))))))
 refine cE rfl (aK rfl rfl ah ?_)
 refine aK rfl rfl ah ?_
 refine aK rfl rfl ah ?_
 refine ai (aB _ _ _ rfl bJ) (cE rfl (au rfl rfl (aA _ aa rfl rfl rfl) (au rfl rfl (aF _ aa rfl rfl ee) (au rfl rfl (bC (r:=false) _ _ rfl rfl rfl) (au rfl rfl (aH _ bJ) (aK rfl rfl ah ?_))))))
 refine aK rfl rfl ah ?_
 refine aK rfl rfl ah ?_
 refine aK rfl rfl ah ?_
 refine au rfl rfl (aB _ _ _ rfl bJ) (ai (aB _ _ _ rfl bJ) (aj (aW rfl rfl (aT (aq (aq ?_))))))
 refine aM (σ':=aE 80 [(1,_),(3,_),(4,_)] [((1,0),_)] [] []) kp ?_
 refine an (bb rfl rfl rfl (cf rfl rfl rfl (gM rfl rfl rfl (cE rfl (aK rfl rfl ah ?_)))))
 refine aK rfl rfl ah ?_
 refine aK rfl rfl ah ?_
 refine ai (aB _ _ _ rfl bJ) (aj (aW rfl rfl (aT (aU fun K14 hK14=> ?_))))
 refine am (be rfl (aj (ay ?_)))
 refine bq (α:=Nat) (fun j=> j≤L.length∧ ∀ q,q < j→t q=1) 80 [(1,_),(3,_),(4,_)] [((1,0),_)] (fun j=> [(5, .v (.int .i64 (j:Int)))]) (fun j=> []) [] [] (fun j=> L.length - j) 0 ?_ (by
  refine Le.mkJ [] [] rfl ?_ ?_ trivial trivial ?_
  ·exact ⟨(iP rfl),(iV rfl),(iV rfl),(co ag),trivial⟩
  ·exact ⟨(bF rfl rfl rfl),trivial⟩
  kernel_rfl) ?_
 ·exact ⟨Nat.zero_le _,fun q hq=> by omega⟩
 intro j hj
 obtain ⟨hj,hall⟩:=hj
 have htj:=ht j
 refine aU fun K16 hK16=> ?_
 refine am (aX rfl (bb rfl rfl rfl (eZ rfl rfl rfl (ai (bo _ aa rfl) (ai (bl _ _ rfl rfl rfl) (aj (aR rfl (fun hc67=> ?_) (fun hc67=> ?_))))))))
 ·skip
  refine bs (hK16 _ ?_)
  clear hK16;try clear K16
  refine aq (ay (am (bb rfl rfl rfl (eZ rfl rfl rfl (aX rfl (ai (bn _ _ aa rfl rfl _ rfl ab (by (simp only [aO,bg,bj,bv,bu,bH,bw];omega)) ag) ?_))))))
  refine ai (cg _ aa rfl (by exact cN _ _ ab) rfl) ?_
  refine ai (aI aa al (h j ab) rfl rfl) ?_
  refine be rfl (aj (am (aX rfl (aX rfl (ai (bL _ _ rfl rfl rfl) (aj (aR rfl (fun hc78=> ?_) (fun hc78=> ?_))))))))
  ·skip
   have hr:=hr0 j ab ab
   refine aq ?_
   refine aM (σ':=aE 80 [] [] [] []) kp ?_
   refine an (be rfl (aj (aG (rK rfl rfl ?_))))
   rw [hr];rfl
  have hall1: ∀ q,q < j+1→t q=1:=fun q hq=> by
   by_cases h:q < j
   ·exact hall q h
   obtain rfl:q=j:=by omega
   omega
  refine cp ?_
  refine aM (σ':=aE 80 [(1,_),(3,_),(4,_),(5,_)] [((1,0),_)] [] []) kp ?_
  refine an (aX rfl (ai (aZ _ _ rfl rfl (bD ab)) ?_))
  refine be rfl (aJ (⟨j+1,?_,?_,?_⟩))
  ·exact ⟨by omega,hall1⟩
  ·skip
   refine Le.mkJ [] [] rfl ?_ ?_ trivial trivial ?_
   ·exact ⟨(iP rfl),(iV rfl),(iV rfl),(co ag),trivial⟩
   ·exact ⟨(bF rfl rfl rfl),trivial⟩
   kernel_rfl
  omega
 have hr:=hr1 fun q hq=> hall q ab
 refine bB (id (hK14 _ ?_))
 clear hK14;try clear K14
 refine am (aX rfl (be rfl (aj (aG (rK rfl rfl ?_)))))
 rw [hr];rfl
theorem HY (L:List Nd) (hL:L.length≤3) (t:Nat→Nat) (ht: ∀ j,t j≤2) (h: ∀ j,j < L.length→Spec Tryz.prog 203 (ba [pA (ln L j)] []) (aP (.v (.int .i64 (t j:Int))) [])) (r:Nat) (hr1:(∀ j,j < L.length→t j=1)→r=1) (hr0: ∀ j,j < L.length→t j≠1→r=0):
  Spec Tryz.prog 203 (ba [.agg [.v (.int .i64 17), .v (.int .i64 0), .v (bt [45]), .sl L.length (nc L)]] []) (aP (.v (.int .i64 (r:Int))) []):=by
 refine Spec.ofN Tryz.func203 rfl Tryz.ntmps203 rfl ?_
 refine am (ai (aQ (1,0) _ rfl rfl) (be rfl (aj (aq (am (bb rfl rfl rfl (cf rfl rfl rfl (gM rfl rfl rfl (cE rfl (au rfl rfl (aA _ aa rfl rfl rfl) ?_))))))))))
 refine au rfl rfl (aF _ aa rfl rfl ee) (au rfl rfl (bC (r:=false) _ _ rfl rfl rfl) (ai (aB _ _ _ rfl bJ) (cE rfl (au rfl rfl (aA _ aa rfl rfl rfl) (au rfl rfl (aF _ aa rfl rfl ee) (au rfl rfl (bC (r:=false) _ _ rfl rfl rfl) (ai (aB _ _ _ rfl bJ) (aj (aW rfl rfl (aT ?_))))))))))
 refine aq (aq ?_)
 refine aM (σ':=aE 80 [(1,_)] [((1,0),_)] [] []) kp ?_
 refine an (bb rfl rfl rfl (cf rfl rfl rfl (gM rfl rfl rfl (aj (aW rfl rfl (aT (aq (am (bb rfl rfl rfl (cf rfl rfl rfl ?_))))))))))
 refine ai (bL (r:=true) _ _ rfl rfl rfl) (cE rfl (au rfl rfl (aA _ aa rfl rfl rfl) (au rfl rfl (aF _ aa rfl rfl ee) (au rfl rfl (bL (r:=false) _ _ rfl rfl rfl) (ai (aB _ _ _ rfl bJ) (cE rfl (aK rfl rfl ah ?_)))))))
 refine aK rfl rfl ah ?_
 refine aK rfl rfl ah ?_
 refine ai (aB _ _ _ rfl bJ) (aj (aW rfl rfl (aT (aq ?_))))
 refine aM (σ':=aE 80 [(1,_)] [((1,0),_)] [] []) kp ?_
 refine an (be rfl (aj (am (be rfl (aj (aq (am (bb rfl rfl rfl (cf rfl rfl rfl (kf rfl rfl rfl ?_))))))))))
 refine cE rfl (au rfl rfl (aA _ aa rfl rfl rfl) (au rfl rfl (aF _ aa rfl rfl fA) (au rfl rfl (aV (r:=false) _ _ Tryz.underlying9 rfl rfl rfl) (ai (aB _ _ _ rfl bJ) (cE rfl (au rfl rfl (aA _ aa rfl rfl rfl) (au rfl rfl (aF _ aa rfl rfl ee) (au rfl rfl (bC (r:=false) _ _ rfl rfl rfl) (au rfl rfl (aH _ bJ) (aK rfl rfl ah ?_))))))))))
 refine aK rfl rfl ah ?_
 refine aK rfl rfl ah ?_
 refine aK rfl rfl ah ?_
 refine au rfl rfl (aB _ _ _ rfl bJ) (ai (aB _ _ _ rfl bJ) (aj (aW rfl rfl (aT (aq (aq ?_))))))
 refine aM (σ':=aE 80 [(1,_),(3,_),(4,_)] [((1,0),_)] [] []) kp ?_
 refine an (bb rfl rfl rfl (cf rfl rfl rfl (gM rfl rfl rfl (cE rfl (aK rfl rfl ah ?_)))))
 refine aK rfl rfl ah ?_
 refine aK rfl rfl ah ?_
 refine ai (aB _ _ _ rfl bJ) (aj (aW rfl rfl (aT (aU fun K14 hK14=> ?_))))
 refine am (be rfl (aj (ay ?_)))
 refine bq (α:=Nat) (fun j=> j≤L.length∧ ∀ q,q < j→t q=1) 80 [(1,_),(3,_),(4,_)] [((1,0),_)] (fun j=> [(5, .v (.int .i64 (j:Int)))]) (fun j=> []) [] [] (fun j=> L.length - j) 0 ?_ (by
  refine Le.mkJ [] [] rfl ?_ ?_ trivial trivial ?_
  ·exact ⟨(iP rfl),(iV rfl),(iV rfl),(co ag),trivial⟩
  ·exact ⟨(bF rfl rfl rfl),trivial⟩
  kernel_rfl) ?_
 ·exact ⟨Nat.zero_le _,fun q hq=> by omega⟩
 intro j hj
 obtain ⟨hj,hall⟩:=hj
 have htj:=ht j
 refine aU fun K16 hK16=> ?_
 refine am (aX rfl (bb rfl rfl rfl (eZ rfl rfl rfl (ai (bo _ aa rfl) (ai (bl _ _ rfl rfl rfl) (aj (aR rfl (fun hc67=> ?_) (fun hc67=> ?_))))))))
 ·skip
  refine bs (hK16 _ ?_)
  clear hK16;try clear K16
  refine aq (ay (am (bb rfl rfl rfl (eZ rfl rfl rfl (aX rfl (ai (bn _ _ aa rfl rfl _ rfl ab (by (simp only [aO,bg,bj,bv,bu,bH,bw];omega)) ag) ?_))))))
  refine ai (cg _ aa rfl (by exact cN _ _ ab) rfl) ?_
  refine ai (aI aa al (h j ab) rfl rfl) ?_
  refine be rfl (aj (am (aX rfl (aX rfl (ai (bL _ _ rfl rfl rfl) (aj (aR rfl (fun hc78=> ?_) (fun hc78=> ?_))))))))
  ·skip
   have hr:=hr0 j ab ab
   refine aq ?_
   refine aM (σ':=aE 80 [] [] [] []) kp ?_
   refine an (be rfl (aj (aG (rK rfl rfl ?_))))
   rw [hr];rfl
  have hall1: ∀ q,q < j+1→t q=1:=fun q hq=> by
   by_cases h:q < j
   ·exact hall q h
   obtain rfl:q=j:=by omega
   omega
  refine cp ?_
  refine aM (σ':=aE 80 [(1,_),(3,_),(4,_),(5,_)] [((1,0),_)] [] []) kp ?_
  refine an (aX rfl (ai (aZ _ _ rfl rfl (bD ab)) ?_))
  refine be rfl (aJ (⟨j+1,?_,?_,?_⟩))
  ·exact ⟨by omega,hall1⟩
  ·skip
   refine Le.mkJ [] [] rfl ?_ ?_ trivial trivial ?_
   ·exact ⟨(iP rfl),(iV rfl),(iV rfl),(co ag),trivial⟩
   ·exact ⟨(bF rfl rfl rfl),trivial⟩
   kernel_rfl
  omega
 have hr:=hr1 fun q hq=> hall q ab
 refine bB (id (hK14 _ ?_))
 clear hK14;try clear K14
 refine am (aX rfl (be rfl (aj (aG (rK rfl rfl ?_)))))
 rw [hr];rfl
theorem Hg (L:List Nd) (hL:L.length≤3) (t:Nat→Nat) (ht: ∀ j,t j≤2) (h: ∀ j,j < L.length→Spec Tryz.prog 203 (ba [pA (ln L j)] []) (aP (.v (.int .i64 (t j:Int))) [])) (r:Nat) (hr1:(∀ j,j < L.length→t j=2)→r=2) (hr0: ∀ j,j < L.length→t j≠2→r=0):
  Spec Tryz.prog 203 (ba [.agg [.v (.int .i64 17), .v (.int .i64 0), .v (bt [33]), .sl L.length (nc L)]] []) (aP (.v (.int .i64 (r:Int))) []):=by
 refine Spec.ofN Tryz.func203 rfl Tryz.ntmps203 rfl ?_
 refine am (ai (aQ (1,0) _ rfl rfl) (be rfl (aj (aq (am (bb rfl rfl rfl (cf rfl rfl rfl (gM rfl rfl rfl (cE rfl (au rfl rfl (aA _ aa rfl rfl rfl) ?_))))))))))
 refine au rfl rfl (aF _ aa rfl rfl ee) (au rfl rfl (bC (r:=false) _ _ rfl rfl rfl) (ai (aB _ _ _ rfl bJ) (cE rfl (au rfl rfl (aA _ aa rfl rfl rfl) (au rfl rfl (aF _ aa rfl rfl ee) (au rfl rfl (bC (r:=false) _ _ rfl rfl rfl) (ai (aB _ _ _ rfl bJ) (aj (aW rfl rfl (aT ?_))))))))))
 refine aq (aq ?_)
 refine aM (σ':=aE 80 [(1,_)] [((1,0),_)] [] []) kp ?_
 refine an (bb rfl rfl rfl (cf rfl rfl rfl (gM rfl rfl rfl (aj (aW rfl rfl (aT (aq (am (bb rfl rfl rfl (cf rfl rfl rfl ?_))))))))))
 refine ai (bL (r:=true) _ _ rfl rfl rfl) (cE rfl (au rfl rfl (aA _ aa rfl rfl rfl) (au rfl rfl (aF _ aa rfl rfl ee) (au rfl rfl (bL (r:=false) _ _ rfl rfl rfl) (ai (aB _ _ _ rfl bJ) (cE rfl (aK rfl rfl ah ?_)))))))
 refine aK rfl rfl ah ?_
 refine aK rfl rfl ah ?_
 refine ai (aB _ _ _ rfl bJ) (aj (aW rfl rfl (aT (aq ?_))))
 refine aM (σ':=aE 80 [(1,_)] [((1,0),_)] [] []) kp ?_
 refine an (be rfl (aj (am (be rfl (aj (aq (am (bb rfl rfl rfl (cf rfl rfl rfl (kf rfl rfl rfl ?_))))))))))
 refine cE rfl (au rfl rfl (aA _ aa rfl rfl rfl) (au rfl rfl (aF _ aa rfl rfl fA) (au rfl rfl (aV (r:=true) _ _ Tryz.underlying9 rfl rfl rfl) (ai (aB _ _ _ rfl bJ) (cE rfl (aK rfl rfl ah ?_))))))
 refine aK rfl rfl ah ?_
 refine aK rfl rfl ah ?_
 refine aK rfl rfl ah ?_
 refine eN rfl rfl (eN rfl rfl (eN rfl rfl (eN rfl rfl (aK rfl rfl ah ?_))))
 refine ai (aB _ _ _ rfl bJ) (aj (bM rfl rfl (aq ?_)))
 refine aM (σ':=aE 80 [(1,_)] [((1,0),_)] [] []) kp ?_
 refine an (be rfl (aj (an (be rfl (aj (aq (am (bb rfl rfl rfl (cf rfl rfl rfl (gM rfl rfl rfl ?_))))))))))
 refine cE rfl (aK rfl rfl ah ?_)
 refine aK rfl rfl ah ?_
 refine aK rfl rfl ah ?_
 refine ai (aB _ _ _ rfl bJ) (aj (aW rfl rfl (aT (aU fun K15 hK15=> ?_))))
 refine am (be rfl (aj (ay ?_)))
 refine bq (α:=Nat) (fun j=> j≤L.length∧ ∀ q,q < j→t q=2) 80 [(1,_),(3,_),(4,_)] [((1,0),_)] (fun j=> [(5, .v (.int .i64 (j:Int)))]) (fun j=> []) [] [] (fun j=> L.length - j) 0 ?_ (by
  refine Le.mkJ [] [] rfl ?_ ?_ trivial trivial ?_
  ·exact ⟨(iP rfl),(iV rfl),(iV rfl),(co ag),trivial⟩
  ·exact ⟨(bF rfl rfl rfl),trivial⟩
  kernel_rfl) ?_
 ·exact ⟨Nat.zero_le _,fun q hq=> by omega⟩
 intro j hj
 obtain ⟨hj,hall⟩:=hj
 have htj:=ht j
 refine aU fun K17 hK17=> ?_
 refine am (aX rfl (bb rfl rfl rfl (eZ rfl rfl rfl (ai (bo _ aa rfl) (ai (bl _ _ rfl rfl rfl) (aj (aR rfl (fun hc67=> ?_) (fun hc67=> ?_))))))))
 ·skip
  refine bs (hK17 _ ?_)
  clear hK17;try clear K17
  refine aq (ay (am (bb rfl rfl rfl (eZ rfl rfl rfl (aX rfl (ai (bn _ _ aa rfl rfl _ rfl ab (by (simp only [aO,bg,bj,bv,bu,bH,bw];omega)) ag) ?_))))))
  refine ai (cg _ aa rfl (by exact cN _ _ ab) rfl) ?_
  refine ai (aI aa al (h j ab) rfl rfl) ?_
  refine be rfl (aj (am (aX rfl (aX rfl (ai (bL _ _ rfl rfl rfl) (aj (aR rfl (fun hc78=> ?_) (fun hc78=> ?_))))))))
  ·skip
   have hr:=hr0 j ab ab
   refine aq ?_
   refine aM (σ':=aE 80 [] [] [] []) kp ?_
   refine an (be rfl (aj (aG (rK rfl rfl ?_))))
   rw [hr];rfl
  have hall1: ∀ q,q < j+1→t q=2:=fun q hq=> by
   by_cases h:q < j
   ·exact hall q h
   obtain rfl:q=j:=by omega
   omega
  refine cp ?_
  refine aM (σ':=aE 80 [(1,_),(3,_),(4,_),(5,_)] [((1,0),_)] [] []) kp ?_
  refine an (aX rfl (ai (aZ _ _ rfl rfl (bD ab)) ?_))
  refine be rfl (aJ (⟨j+1,?_,?_,?_⟩))
  ·exact ⟨by omega,hall1⟩
  ·skip
   refine Le.mkJ [] [] rfl ?_ ?_ trivial trivial ?_
   ·exact ⟨(iP rfl),(iV rfl),(iV rfl),(co ag),trivial⟩
   ·exact ⟨(bF rfl rfl rfl),trivial⟩
   kernel_rfl
  omega
 have hr:=hr1 fun q hq=> hall q ab
 refine bB (id (hK15 _ ?_))
 clear hK15;try clear K15
 refine am (aX rfl (be rfl (aj (aG (rK rfl rfl ?_)))))
 rw [hr];rfl
theorem tU (s:Tx) (hs1:s∈[[38,38],[124,124]]) (hs2:s∉yk) (L:List Nd) (hL:L.length≤3) (t:Nat→Nat) (ht: ∀ j,t j≤2) (h: ∀ j,j < L.length→Spec Tryz.prog 203 (ba [pA (ln L j)] []) (aP (.v (.int .i64 (t j:Int))) [])) (r:Nat) (hr1:(∀ j,j < L.length→t j=2)→r=2) (hr0: ∀ j,j < L.length→t j≠2→r=0):
  Spec Tryz.prog 203 (ba [.agg [.v (.int .i64 18), .v (.int .i64 0), .v (bt s), .sl L.length (nc L)]] []) (aP (.v (.int .i64 (r:Int))) []):=by
 refine Spec.ofN Tryz.func203 rfl Tryz.ntmps203 rfl ?_
 refine am (ai (aQ (1,0) _ rfl rfl) (be rfl (aj (aq (am (bb rfl rfl rfl (cf rfl rfl rfl (gM rfl rfl rfl (cE rfl (au rfl rfl (aA _ aa rfl rfl rfl) ?_))))))))))
 refine au rfl rfl (aF _ aa rfl rfl ee) (au rfl rfl (bC (r:=false) _ _ rfl rfl rfl) (ai (aB _ _ _ rfl bJ) (cE rfl (au rfl rfl (aA _ aa rfl rfl rfl) (au rfl rfl (aF _ aa rfl rfl ee) (au rfl rfl (bC (r:=false) _ _ rfl rfl rfl) (ai (aB _ _ _ rfl bJ) (aj (aW rfl rfl (aT ?_))))))))))
 refine aq (aq ?_)
 refine aM (σ':=aE 80 [(1,_)] [((1,0),_)] [] []) kp ?_
 refine an (bb rfl rfl rfl (cf rfl rfl rfl (gM rfl rfl rfl (aj (aW rfl rfl (aT (aq (am (bb rfl rfl rfl (cf rfl rfl rfl ?_))))))))))
 refine ai (bL (r:=true) _ _ rfl rfl rfl) (cE rfl (au rfl rfl (aA _ aa rfl rfl rfl) (au rfl rfl (aF _ aa rfl rfl ee) (au rfl rfl (bL (r:=true) _ _ rfl rfl rfl) (ai (aB _ _ _ rfl bJ) (cE rfl (au rfl rfl (aA _ aa rfl rfl rfl) (au rfl rfl (aF _ aa rfl rfl ee) (au rfl rfl (bL (r:=false) _ _ rfl rfl rfl) (ai (aB _ _ _ rfl bJ) ?_))))))))))
 refine aj (aW rfl rfl (aT (aq ?_)))
 refine aM (σ':=aE 80 [(1,_)] [((1,0),_)] [] []) kp ?_
 refine an (be rfl (aj (am (be rfl (aj (aq (am (bb rfl rfl rfl (cf rfl rfl rfl (gM rfl rfl rfl ?_))))))))))
 refine cE rfl (aK rfl rfl ah ?_)
 refine aK rfl rfl ah ?_
 refine aK rfl rfl ah ?_
 refine ai (aB _ _ _ rfl bJ) (cE rfl (au rfl rfl (aA _ aa rfl rfl rfl) (au rfl rfl (aF _ aa rfl rfl ee) (au rfl rfl (bC (r:=true) _ _ rfl rfl rfl) (au rfl rfl (aH _ bJ) (au rfl rfl (bh _ _ aa rfl ag (by (simp <;> rfl)) ah rfl) ?_))))))
 refine au rfl rfl (aA _ aa rfl rfl rfl) (au rfl rfl (aF _ aa rfl rfl fA) (au rfl rfl (aI aa al (gG [[38,38],[124,124]] 2 rfl ab s) rfl rfl) ?_))
 refine au rfl rfl (aB _ _ _ rfl bJ) (ai (aB _ _ _ rfl bJ) (aj (bM rfl (decide_eq_true hs1) ?_)))
 refine aq ?_
 refine aM (σ':=aE 80 [(1,_)] [((1,0),_)] [] []) kp ?_
 refine an (be rfl (aj (an (be rfl (aj (aq (am (bb rfl rfl rfl (cf rfl rfl rfl (kf rfl rfl rfl ?_))))))))))
 refine cE rfl (au rfl rfl (aA _ aa rfl rfl rfl) (au rfl rfl (aF _ aa rfl rfl fA) (au rfl rfl (aI aa al (mK s) rfl rfl) ?_)))
 refine ai (aB _ _ _ rfl bJ) (aj (aW rfl (decide_eq_false hs2) ?_))
 refine aT (aU fun K15 hK15=> ?_)
 refine am (be rfl (aj (ay ?_)))
 refine bq (α:=Nat) (fun j=> j≤L.length∧ ∀ q,q < j→t q=2) 80 [(1,_),(3,_),(4,_)] [((1,0),_)] (fun j=> [(5, .v (.int .i64 (j:Int)))]) (fun j=> []) [] [] (fun j=> L.length - j) 0 ?_ (by
  refine Le.mkJ [] [] rfl ?_ ?_ trivial trivial ?_
  ·exact ⟨(iP rfl),(iV rfl),(iV rfl),(co ag),trivial⟩
  ·exact ⟨(bF rfl rfl rfl),trivial⟩
  kernel_rfl) ?_
 ·exact ⟨Nat.zero_le _,fun q hq=> by omega⟩
 intro j hj
 obtain ⟨hj,hall⟩:=hj
 have htj:=ht j
 refine aU fun K17 hK17=> ?_
 refine am (aX rfl (bb rfl rfl rfl (eZ rfl rfl rfl (ai (bo _ aa rfl) (ai (bl _ _ rfl rfl rfl) (aj (aR rfl (fun hc67=> ?_) (fun hc67=> ?_))))))))
 ·skip
  refine bs (hK17 _ ?_)
  clear hK17;try clear K17
  refine aq (ay (am (bb rfl rfl rfl (eZ rfl rfl rfl (aX rfl (ai (bn _ _ aa rfl rfl _ rfl ab (by (simp only [aO,bg,bj,bv,bu,bH,bw];omega)) ag) ?_))))))
  refine ai (cg _ aa rfl (by exact cN _ _ ab) rfl) ?_
  refine ai (aI aa al (h j ab) rfl rfl) ?_
  refine be rfl (aj (am (aX rfl (aX rfl (ai (bL _ _ rfl rfl rfl) (aj (aR rfl (fun hc78=> ?_) (fun hc78=> ?_))))))))
  ·skip
   have hr:=hr0 j ab ab
   refine aq ?_
   refine aM (σ':=aE 80 [] [] [] []) kp ?_
   refine an (be rfl (aj (aG (rK rfl rfl ?_))))
   rw [hr];rfl
  have hall1: ∀ q,q < j+1→t q=2:=fun q hq=> by
   by_cases h:q < j
   ·exact hall q h
   obtain rfl:q=j:=by omega
   omega
  refine cp ?_
  refine aM (σ':=aE 80 [(1,_),(3,_),(4,_),(5,_)] [((1,0),_)] [] []) kp ?_
  refine an (aX rfl (ai (aZ _ _ rfl rfl (bD ab)) ?_))
  refine be rfl (aJ (⟨j+1,?_,?_,?_⟩))
  ·exact ⟨by omega,hall1⟩
  ·skip
   refine Le.mkJ [] [] rfl ?_ ?_ trivial trivial ?_
   ·exact ⟨(iP rfl),(iV rfl),(iV rfl),(co ag),trivial⟩
   ·exact ⟨(bF rfl rfl rfl),trivial⟩
   kernel_rfl
  omega
 have hr:=hr1 fun q hq=> hall q ab
 refine bB (id (hK15 _ ?_))
 clear hK15;try clear K15
 refine am (aX rfl (be rfl (aj (aG (rK rfl rfl ?_)))))
 rw [hr];rfl
theorem HO (s:Tx) (hs1:s∉[[38,38],[124,124]]) (hs2:s∈yk) (L:List Nd) (hL:L.length≤3) (t:Nat→Nat) (ht: ∀ j,t j≤2) (h: ∀ j,j < L.length→Spec Tryz.prog 203 (ba [pA (ln L j)] []) (aP (.v (.int .i64 (t j:Int))) [])) (r:Nat) (hr1:(∀ j,j < L.length→t j=1)→r=2) (hr0: ∀ j,j < L.length→t j≠1→r=0):
  Spec Tryz.prog 203 (ba [.agg [.v (.int .i64 18), .v (.int .i64 0), .v (bt s), .sl L.length (nc L)]] []) (aP (.v (.int .i64 (r:Int))) []):=by
 refine Spec.ofN Tryz.func203 rfl Tryz.ntmps203 rfl ?_
 refine am (ai (aQ (1,0) _ rfl rfl) (be rfl (aj (aq (am (bb rfl rfl rfl (cf rfl rfl rfl (gM rfl rfl rfl (cE rfl (au rfl rfl (aA _ aa rfl rfl rfl) ?_))))))))))
 refine au rfl rfl (aF _ aa rfl rfl ee) (au rfl rfl (bC (r:=false) _ _ rfl rfl rfl) (ai (aB _ _ _ rfl bJ) (cE rfl (au rfl rfl (aA _ aa rfl rfl rfl) (au rfl rfl (aF _ aa rfl rfl ee) (au rfl rfl (bC (r:=false) _ _ rfl rfl rfl) (ai (aB _ _ _ rfl bJ) (aj (aW rfl rfl (aT ?_))))))))))
 refine aq (aq ?_)
 refine aM (σ':=aE 80 [(1,_)] [((1,0),_)] [] []) kp ?_
 refine an (bb rfl rfl rfl (cf rfl rfl rfl (gM rfl rfl rfl (aj (aW rfl rfl (aT (aq (am (bb rfl rfl rfl (cf rfl rfl rfl ?_))))))))))
 refine ai (bL (r:=true) _ _ rfl rfl rfl) (cE rfl (au rfl rfl (aA _ aa rfl rfl rfl) (au rfl rfl (aF _ aa rfl rfl ee) (au rfl rfl (bL (r:=true) _ _ rfl rfl rfl) (ai (aB _ _ _ rfl bJ) (cE rfl (au rfl rfl (aA _ aa rfl rfl rfl) (au rfl rfl (aF _ aa rfl rfl ee) (au rfl rfl (bL (r:=false) _ _ rfl rfl rfl) (ai (aB _ _ _ rfl bJ) ?_))))))))))
 refine aj (aW rfl rfl (aT (aq ?_)))
 refine aM (σ':=aE 80 [(1,_)] [((1,0),_)] [] []) kp ?_
 refine an (be rfl (aj (am (be rfl (aj (aq (am (bb rfl rfl rfl (cf rfl rfl rfl (gM rfl rfl rfl ?_))))))))))
 refine cE rfl (aK rfl rfl ah ?_)
 refine aK rfl rfl ah ?_
 refine aK rfl rfl ah ?_
 refine ai (aB _ _ _ rfl bJ) (cE rfl (au rfl rfl (aA _ aa rfl rfl rfl) (au rfl rfl (aF _ aa rfl rfl ee) (au rfl rfl (bC (r:=true) _ _ rfl rfl rfl) (au rfl rfl (aH _ bJ) (au rfl rfl (bh _ _ aa rfl ag (by (simp <;> rfl)) ah rfl) ?_))))))
 refine au rfl rfl (aA _ aa rfl rfl rfl) (au rfl rfl (aF _ aa rfl rfl fA) (au rfl rfl (aI aa al (gG [[38,38],[124,124]] 2 rfl ab s) rfl rfl) ?_))
 refine au rfl rfl (aB _ _ _ rfl bJ) (ai (aB _ _ _ rfl bJ) (aj (aW rfl (decide_eq_false hs1) ?_)))
 refine aT (aq (aq ?_))
 refine aM (σ':=aE 80 [(1,_),(3,_),(4,_)] [((1,0),_)] [] []) kp ?_
 refine an (bb rfl rfl rfl (cf rfl rfl rfl (kf rfl rfl rfl (cE rfl (au rfl rfl (aA _ aa rfl rfl rfl) (au rfl rfl (aF _ aa rfl rfl fA) (au rfl rfl (aI aa al (mK s) rfl rfl) ?_)))))))
 refine ai (aB _ _ _ rfl bJ) (aj (bM rfl (decide_eq_true hs2) ?_))
 refine an (be rfl (aj (aU fun K14 hK14=> ?_)))
 refine am (be rfl (aj (ay ?_)))
 refine bq (α:=Nat) (fun j=> j≤L.length∧ ∀ q,q < j→t q=1) 80 [(1,_),(3,_),(4,_)] [((1,0),_)] (fun j=> [(5, .v (.int .i64 (j:Int)))]) (fun j=> []) [] [] (fun j=> L.length - j) 0 ?_ (by
  refine Le.mkJ [] [] rfl ?_ ?_ trivial trivial ?_
  ·exact ⟨(iP rfl),(iV rfl),(iV rfl),(co ag),trivial⟩
  ·exact ⟨(bF rfl rfl rfl),trivial⟩
  kernel_rfl) ?_
 ·exact ⟨Nat.zero_le _,fun q hq=> by omega⟩
 intro j hj
 obtain ⟨hj,hall⟩:=hj
 have htj:=ht j
 refine aU fun K16 hK16=> ?_
 refine am (aX rfl (bb rfl rfl rfl (eZ rfl rfl rfl (ai (bo _ aa rfl) (ai (bl _ _ rfl rfl rfl) (aj (aR rfl (fun hc67=> ?_) (fun hc67=> ?_))))))))
 ·skip
  refine bs (hK16 _ ?_)
  clear hK16;try clear K16
  refine aq (ay (am (bb rfl rfl rfl (eZ rfl rfl rfl (aX rfl (ai (bn _ _ aa rfl rfl _ rfl ab (by (simp only [aO,bg,bj,bv,bu,bH,bw];omega)) ag) ?_))))))
  refine ai (cg _ aa rfl (by exact cN _ _ ab) rfl) ?_
  refine ai (aI aa al (h j ab) rfl rfl) ?_
  refine be rfl (aj (am (aX rfl (aX rfl (ai (bL _ _ rfl rfl rfl) (aj (aR rfl (fun hc78=> ?_) (fun hc78=> ?_))))))))
  ·skip
   have hr:=hr0 j ab ab
   refine aq ?_
   refine aM (σ':=aE 80 [] [] [] []) kp ?_
   refine an (be rfl (aj (aG (rK rfl rfl ?_))))
   rw [hr];rfl
  have hall1: ∀ q,q < j+1→t q=1:=fun q hq=> by
   by_cases h:q < j
   ·exact hall q h
   obtain rfl:q=j:=by omega
   omega
  refine cp ?_
  refine aM (σ':=aE 80 [(1,_),(3,_),(4,_),(5,_)] [((1,0),_)] [] []) kp ?_
  refine an (aX rfl (ai (aZ _ _ rfl rfl (bD ab)) ?_))
  refine be rfl (aJ (⟨j+1,?_,?_,?_⟩))
  ·exact ⟨by omega,hall1⟩
  ·skip
   refine Le.mkJ [] [] rfl ?_ ?_ trivial trivial ?_
   ·exact ⟨(iP rfl),(iV rfl),(iV rfl),(co ag),trivial⟩
   ·exact ⟨(bF rfl rfl rfl),trivial⟩
   kernel_rfl
  omega
 have hr:=hr1 fun q hq=> hall q ab
 refine bB (id (hK14 _ ?_))
 clear hK14;try clear K14
 refine am (aX rfl (be rfl (aj (aG (rK rfl rfl ?_)))))
 rw [hr];rfl
theorem Ao (s:Tx) (hs1:s∉[[38,38],[124,124]]) (hs2:s∉yk) (L:List Nd) (hL:L.length≤3) (t:Nat→Nat) (ht: ∀ j,t j≤2) (h: ∀ j,j < L.length→Spec Tryz.prog 203 (ba [pA (ln L j)] []) (aP (.v (.int .i64 (t j:Int))) [])) (r:Nat) (hr1:(∀ j,j < L.length→t j=1)→r=1) (hr0: ∀ j,j < L.length→t j≠1→r=0):
  Spec Tryz.prog 203 (ba [.agg [.v (.int .i64 18), .v (.int .i64 0), .v (bt s), .sl L.length (nc L)]] []) (aP (.v (.int .i64 (r:Int))) []):=by
 refine Spec.ofN Tryz.func203 rfl Tryz.ntmps203 rfl ?_
 refine am (ai (aQ (1,0) _ rfl rfl) (be rfl (aj (aq (am (bb rfl rfl rfl (cf rfl rfl rfl (gM rfl rfl rfl (cE rfl (au rfl rfl (aA _ aa rfl rfl rfl) ?_))))))))))
 refine au rfl rfl (aF _ aa rfl rfl ee) (au rfl rfl (bC (r:=false) _ _ rfl rfl rfl) (ai (aB _ _ _ rfl bJ) (cE rfl (au rfl rfl (aA _ aa rfl rfl rfl) (au rfl rfl (aF _ aa rfl rfl ee) (au rfl rfl (bC (r:=false) _ _ rfl rfl rfl) (ai (aB _ _ _ rfl bJ) (aj (aW rfl rfl (aT ?_))))))))))
 refine aq (aq ?_)
 refine aM (σ':=aE 80 [(1,_)] [((1,0),_)] [] []) kp ?_
 refine an (bb rfl rfl rfl (cf rfl rfl rfl (gM rfl rfl rfl (aj (aW rfl rfl (aT (aq (am (bb rfl rfl rfl (cf rfl rfl rfl ?_))))))))))
 refine ai (bL (r:=true) _ _ rfl rfl rfl) (cE rfl (au rfl rfl (aA _ aa rfl rfl rfl) (au rfl rfl (aF _ aa rfl rfl ee) (au rfl rfl (bL (r:=true) _ _ rfl rfl rfl) (ai (aB _ _ _ rfl bJ) (cE rfl (au rfl rfl (aA _ aa rfl rfl rfl) (au rfl rfl (aF _ aa rfl rfl ee) (au rfl rfl (bL (r:=false) _ _ rfl rfl rfl) (ai (aB _ _ _ rfl bJ) ?_))))))))))
 refine aj (aW rfl rfl (aT (aq ?_)))
 refine aM (σ':=aE 80 [(1,_)] [((1,0),_)] [] []) kp ?_
 refine an (be rfl (aj (am (be rfl (aj (aq (am (bb rfl rfl rfl (cf rfl rfl rfl (gM rfl rfl rfl ?_))))))))))
 refine cE rfl (aK rfl rfl ah ?_)
 refine aK rfl rfl ah ?_
 refine aK rfl rfl ah ?_
 refine ai (aB _ _ _ rfl bJ) (cE rfl (au rfl rfl (aA _ aa rfl rfl rfl) (au rfl rfl (aF _ aa rfl rfl ee) (au rfl rfl (bC (r:=true) _ _ rfl rfl rfl) (au rfl rfl (aH _ bJ) (au rfl rfl (bh _ _ aa rfl ag (by (simp <;> rfl)) ah rfl) ?_))))))
 refine au rfl rfl (aA _ aa rfl rfl rfl) (au rfl rfl (aF _ aa rfl rfl fA) (au rfl rfl (aI aa al (gG [[38,38],[124,124]] 2 rfl ab s) rfl rfl) ?_))
 refine au rfl rfl (aB _ _ _ rfl bJ) (ai (aB _ _ _ rfl bJ) (aj (aW rfl (decide_eq_false hs1) ?_)))
 refine aT (aq (aq ?_))
 refine aM (σ':=aE 80 [(1,_),(3,_),(4,_)] [((1,0),_)] [] []) kp ?_
 refine an (bb rfl rfl rfl (cf rfl rfl rfl (kf rfl rfl rfl (cE rfl (au rfl rfl (aA _ aa rfl rfl rfl) (au rfl rfl (aF _ aa rfl rfl fA) (au rfl rfl (aI aa al (mK s) rfl rfl) ?_)))))))
 refine ai (aB _ _ _ rfl bJ) (aj (aW rfl (decide_eq_false hs2) ?_))
 refine aT (aU fun K14 hK14=> ?_)
 refine am (be rfl (aj (ay ?_)))
 refine bq (α:=Nat) (fun j=> j≤L.length∧ ∀ q,q < j→t q=1) 80 [(1,_),(3,_),(4,_)] [((1,0),_)] (fun j=> [(5, .v (.int .i64 (j:Int)))]) (fun j=> []) [] [] (fun j=> L.length - j) 0 ?_ (by
  refine Le.mkJ [] [] rfl ?_ ?_ trivial trivial ?_
  ·exact ⟨(iP rfl),(iV rfl),(iV rfl),(co ag),trivial⟩
  ·exact ⟨(bF rfl rfl rfl),trivial⟩
  kernel_rfl) ?_
 ·exact ⟨Nat.zero_le _,fun q hq=> by omega⟩
 intro j hj
 obtain ⟨hj,hall⟩:=hj
 have htj:=ht j
 refine aU fun K16 hK16=> ?_
 refine am (aX rfl (bb rfl rfl rfl (eZ rfl rfl rfl (ai (bo _ aa rfl) (ai (bl _ _ rfl rfl rfl) (aj (aR rfl (fun hc67=> ?_) (fun hc67=> ?_))))))))
 ·skip
  refine bs (hK16 _ ?_)
  clear hK16;try clear K16
  refine aq (ay (am (bb rfl rfl rfl (eZ rfl rfl rfl (aX rfl (ai (bn _ _ aa rfl rfl _ rfl ab (by (simp only [aO,bg,bj,bv,bu,bH,bw];omega)) ag) ?_))))))
  refine ai (cg _ aa rfl (by exact cN _ _ ab) rfl) ?_
  refine ai (aI aa al (h j ab) rfl rfl) ?_
  refine be rfl (aj (am (aX rfl (aX rfl (ai (bL _ _ rfl rfl rfl) (aj (aR rfl (fun hc78=> ?_) (fun hc78=> ?_))))))))
  ·skip
   have hr:=hr0 j ab ab
   refine aq ?_
   refine aM (σ':=aE 80 [] [] [] []) kp ?_
   refine an (be rfl (aj (aG (rK rfl rfl ?_))))
   rw [hr];rfl
  have hall1: ∀ q,q < j+1→t q=1:=fun q hq=> by
   by_cases h:q < j
   ·exact hall q h
   obtain rfl:q=j:=by omega
   omega
  refine cp ?_
  refine aM (σ':=aE 80 [(1,_),(3,_),(4,_),(5,_)] [((1,0),_)] [] []) kp ?_
  refine an (aX rfl (ai (aZ _ _ rfl rfl (bD ab)) ?_))
  refine be rfl (aJ (⟨j+1,?_,?_,?_⟩))
  ·exact ⟨by omega,hall1⟩
  ·skip
   refine Le.mkJ [] [] rfl ?_ ?_ trivial trivial ?_
   ·exact ⟨(iP rfl),(iV rfl),(iV rfl),(co ag),trivial⟩
   ·exact ⟨(bF rfl rfl rfl),trivial⟩
   kernel_rfl
  omega
 have hr:=hr1 fun q hq=> hall q ab
 refine bB (id (hK14 _ ?_))
 clear hK14;try clear K14
 refine am (aX rfl (be rfl (aj (aG (rK rfl rfl ?_)))))
 rw [hr];rfl

theorem pI: ∀ e,fy e≤2
 | .int _=> by simp [fy] | .bool _=> by simp [fy] | .var _=> by simp [fy] | .name _=> by simp [fy]
 | .draw e=> by simp only [fy];split <;> omega
 | .neg e=> by simp only [fy];split <;> omega
 | .not e=> by simp only [fy];split <;> omega
 | .bin o a b=> by cases o <;> simp only [fy] <;> split <;> omega
 | .and a b=> by simp only [fy];split <;> omega
 | .or a b=> by simp only [fy];split <;> omega
def vf (a b:Ex) (j:Nat):Nat:=if j=0 then fy a else fy b
theorem pH (a b:Ex) (j:Nat):vf a b j≤2:=by unfold vf;split <;> exact pI _
theorem pC {a b:Ex} {op j:Nat} (hj:j < 2) (h:vf a b j≠op): ¬ (fy a=op∧fy b=op):=fun e=> by
 have:j=0∨j=1:=by omega
 rcases this with rfl | rfl
 ·exact h e.1
 exact h e.2
theorem uv (o:Bo):o.txt∉([[38,38],[124,124]]:List Tx):=by cases o <;> decide
def LP:Bo→Nat | .add=> 1 | .sub=> 1 | .mul=> 1 | .div=> 1 | _=> 2
abbrev wk (d:Nd) (t:Nat):Prop:=Spec Tryz.prog 203 (ba [pA d] []) (aP (.v (.int .i64 (t:Int))) [])
theorem tz {d:Nd} {t:Nat} (h:wk d t): ∀ j,j < [d].length→wk (ln [d] j) t:=fun j hj=> by
 have:j=0:=by simpa using hj
 subst this
 exact h
theorem pX {d e:Nd} {a b:Ex} (h1:wk d (fy a)) (h2:wk e (fy b)): ∀ j,j < [d,e].length→wk (ln [d,e] j) (vf a b j):=fun j hj=> by
 have hj:j < 2:=hj
 have:j=0∨j=1:=by omega
 rcases this with rfl | rfl
 ·exact h1
 exact h2
theorem eC (nm:List Tx): ∀ e:Ex,wk (eQ nm e) (fy e)
 | .int n=> Ix n.toNat
 | .bool b=> EC (if b then 1 else 0)
 | .var i=> Ij (nm.getD i [])
 | .name k=> Gj (bltT.getD k [])
 | .draw e=> Ev [eQ nm e] (by simp) (fun _=> fy e) (fun _=> pI e) (tz (eC nm e)) _ (fun h=> if_pos (h 0 (by simp))) (fun _ _ h=> if_neg h)
 | .neg e=> HY [eQ nm e] (by simp) (fun _=> fy e) (fun _=> pI e) (tz (eC nm e)) _ (fun h=> if_pos (h 0 (by simp))) (fun _ _ h=> if_neg h)
 | .not e=> Hg [eQ nm e] (by simp) (fun _=> fy e) (fun _=> pI e) (tz (eC nm e)) _ (fun h=> if_pos (h 0 (by simp))) (fun _ _ h=> if_neg h)
 | .and a b=> tU [38,38] ah ah [eQ nm a,eQ nm b] (by simp) (vf a b) (pH a b) (pX (eC nm a) (eC nm b)) _ (fun h=> if_pos ⟨h 0 (by simp),h 1 (by simp)⟩) (fun _ hj h=> if_neg (pC hj h))
 | .or a b=> tU [124,124] ah ah [eQ nm a,eQ nm b] (by simp) (vf a b) (pH a b) (pX (eC nm a) (eC nm b)) _ (fun h=> if_pos ⟨h 0 (by simp),h 1 (by simp)⟩) (fun _ hj h=> if_neg (pC hj h))
 | .bin o a b=> by
  have hty:fy (.bin o a b)=if fy a=1∧fy b=1 then LP o else 0:=by cases o <;> rfl
  have hk:=pX (eC nm a) (eC nm b)
  by_cases ho:o.txt∈yk
  ·have h2:LP o=2:=by cases o <;> first | rfl | (exact absurd ho ah)
   rw [h2] at hty
   exact HO o.txt (uv o) ho [eQ nm a,eQ nm b] (by simp) (vf a b) (pH a b) hk _ (fun h=> hty.trans (if_pos ⟨h 0 (by simp),h 1 (by simp)⟩)) (fun _ hj h=> hty.trans (if_neg (pC hj h)))
  have h2:LP o=1:=by cases o <;> first | rfl | (exact absurd ah ho)
  rw [h2] at hty
  exact Ao o.txt (uv o) ho [eQ nm a,eQ nm b] (by simp) (vf a b) (pH a b) hk _ (fun h=> hty.trans (if_pos ⟨h 0 (by simp),h 1 (by simp)⟩)) (fun _ hj h=> hty.trans (if_neg (pC hj h)))
theorem kS (n:Int) (s:Tx) (L:List Nd) (h: ∀ j,j < L.length→Spec Tryz.prog 166 (ba [pA (ln L j)] []) (aP (.v (.bool true)) [])):
  Spec Tryz.prog 166 (ba [.agg [.v (.int .i64 11), .v (.int .i64 n), .v (bt s), .sl L.length (nc L)]] []) (aP (.v (.bool true)) []):=by
 refine Spec.ofN Tryz.func166 rfl Tryz.ntmps166 rfl ?_
 refine aq ?_
 refine lM 0 3 rfl rfl rfl fun hlen=> ?_
 unfold maxLen at hlen
 refine an (ai (aQ (1,0) _ rfl rfl) (cu rfl (aj (aq (am (bb rfl rfl rfl (cf rfl rfl rfl (kf rfl rfl rfl (aj (bM rfl rfl ?_))))))))))
 refine aU fun K4 hK4=> ?_
 refine am (be rfl (aj (ay ?_)))
 refine bq (α:=Nat) (fun j=> j≤L.length) 73 [(1,_)] [((1,0),_)] (fun j=> [(3, .v (.int .i64 (j:Int)))]) (fun j=> []) [] [] (fun j=> L.length - j) 0 ?_ (by
  refine Le.mkJ [] [] rfl ?_ ?_ trivial trivial ?_
  ·exact ⟨(iP rfl),(co ag),trivial⟩
  ·exact ⟨(bF rfl rfl rfl),trivial⟩
  kernel_rfl) ?_
 ·omega
 intro j hj
 refine aU fun K6 hK6=> ?_
 refine am (aX rfl (bb rfl rfl rfl (eZ rfl rfl rfl (ai (bo _ aa rfl) (ai (bl _ _ rfl rfl rfl) (aj (aR rfl (fun hc17=> ?_) (fun hc17=> ?_))))))))
 ·skip
  refine bs (hK6 _ ?_)
  clear hK6;try clear K6
  refine aq (ay (am (bb rfl rfl rfl (eZ rfl rfl rfl (aX rfl (ai (bn _ _ aa rfl rfl _ rfl ab (by (simp only [aO,bg,bj,bv,bu,bH,bw];omega)) ag) ?_))))))
  refine ai (cg _ aa rfl (by exact cN _ _ ab) rfl) ?_
  refine ai (aI aa al (h j ab) rfl rfl) ?_
  refine cu rfl (aj (am (cE rfl (ai (cj (r:=false) _ rfl rfl) (aj (aW rfl rfl (cp (an (aX rfl (ai (aZ _ _ rfl rfl (bD ab)) ?_))))))))))
  refine be rfl (aJ (⟨j+1,?_,?_,?_⟩))
  ·omega
  ·skip
   refine Le.mkJ [] [] rfl ?_ ?_ trivial trivial ?_
   ·exact ⟨(iP rfl),(co ag),trivial⟩
   ·exact ⟨(bF rfl rfl rfl),trivial⟩
   kernel_rfl
  omega
 refine bB (id (hK4 _ ?_))
 clear hK4;try clear K4
 refine am (cu rfl (aj (aG (rJ rfl rfl ?_))))
 rfl
theorem rR (k:Nat) (hk:k=2∨k=3) (n:Int) (s:Tx) (L:List Nd) (hL:0 < L.length) (ht:Spec Tryz.prog 203 (ba [pA (ln L 0)] []) (aP (.v (.int .i64 2)) [])) (h: ∀ j,1≤j→j < L.length→Spec Tryz.prog 166 (ba [pA (ln L j)] []) (aP (.v (.bool true)) [])):
  Spec Tryz.prog 166 (ba [.agg [.v (.int .i64 (k:Int)), .v (.int .i64 n), .v (bt s), .sl L.length (nc L)]] []) (aP (.v (.bool true)) []):=by
 refine Spec.ofN Tryz.func166 rfl Tryz.ntmps166 rfl ?_
 refine aq ?_
 refine lM 0 3 rfl rfl rfl fun hlen=> ?_
 unfold maxLen at hlen
 refine an (ai (aQ (1,0) _ rfl rfl) (cu rfl (aj (aq (am (bb rfl rfl rfl (cf rfl rfl rfl (gM rfl rfl (beq_eq_false_iff_ne.2 ab) ?_))))))))
 refine aj (aW rfl rfl (aT (aq (am (bb rfl rfl rfl (cf rfl rfl rfl (ai (bC _ _ rfl rfl rfl) (cE rfl (dw (fun hg31=> ?_) (fun hg31=> ?_))))))))))
 ·skip
  refine aK rfl rfl ah ?_
  refine aK rfl rfl ah ?_
  refine aK rfl rfl ah ?_
  refine ai (aB _ _ _ rfl bJ) (aj (bM rfl rfl (am (bb rfl rfl rfl (eZ rfl rfl rfl (ai (bn _ _ aa rfl rfl 0 rfl hL (by simp only [bH];omega) rfl) ?_))))))
  refine ai (cg _ aa rfl (by exact cN L 0 hL) rfl) ?_
  refine ai (aI aa al (ht) rfl rfl) ?_
  refine be rfl (aj (aU fun K7 hK7=> ?_))
  refine aq ?_
  refine aM (σ':=aE 73 [(1,_),(5,_)] [((1,0),_)] [] []) kp ?_
  refine an (be rfl (aj (ay ?_)))
  refine bq (α:=Nat) (fun j=> 1≤j∧j≤L.length) 73 [(1,_),(5,_)] [((1,0),_)] (fun j=> [(6, .v (.int .i64 (j:Int)))]) (fun j=> []) [] [] (fun j=> L.length - j) 1 ?_ (by
   refine Le.mkJ [] [] rfl ?_ ?_ trivial trivial ?_
   ·exact ⟨(iP rfl),(iV rfl),(co ag),trivial⟩
   ·exact ⟨(bF rfl rfl rfl),trivial⟩
   kernel_rfl) ?_
  ·exact ⟨Nat.le_refl _,hL⟩
  intro j hj
  obtain ⟨hj1,hj2⟩:=hj
  refine aU fun K9 hK9=> ?_
  refine am (aX rfl (bb rfl rfl rfl (eZ rfl rfl rfl (ai (bo _ aa rfl) (ai (bl _ _ rfl rfl rfl) (aj (aR rfl (fun hc45=> ?_) (fun hc45=> ?_))))))))
  ·skip
   refine bs (hK9 _ ?_)
   clear hK9;try clear K9
   refine aq (ay (am (bb rfl rfl rfl (eZ rfl rfl rfl (aX rfl (ai (bn _ _ aa rfl rfl _ rfl ab (by (simp only [aO,bg,bj,bv,bu,bH,bw];omega)) ag) ?_))))))
   refine ai (cg _ aa rfl (by exact cN _ _ ab) rfl) ?_
   refine ai (aI aa al (h j hj1 ab) rfl rfl) ?_
   refine cu rfl (aj (am (cE rfl (ai (cj (r:=false) _ rfl rfl) (aj (aW rfl rfl (cp (an (aX rfl (ai (aZ _ _ rfl rfl (bD ab)) ?_))))))))))
   refine be rfl (aJ (⟨j+1,?_,?_,?_⟩))
   ·omega
   ·skip
    refine Le.mkJ [] [] rfl ?_ ?_ trivial trivial ?_
    ·exact ⟨(iP rfl),(iV rfl),(co ag),trivial⟩
    ·exact ⟨(bF rfl rfl rfl),trivial⟩
    kernel_rfl
   omega
  refine bB (id (hK7 _ ?_))
  clear hK7;try clear K7
  refine am (aX rfl (kf rfl rfl rfl (cu rfl (aj (aG (rJ rfl rfl ?_))))))
  rfl
 have hk3:k=3:=by omega
 refine au rfl rfl (aA _ aa rfl rfl rfl) (au rfl rfl (aF _ aa rfl rfl ee) (au rfl rfl (bC (r:=true) _ _ rfl rfl (beq_iff_eq.2 ab)) ?_))
 refine ai (aB _ _ _ rfl bJ) (aj (bM rfl rfl (am (bb rfl rfl rfl (eZ rfl rfl rfl (ai (bn _ _ aa rfl rfl 0 rfl hL (by simp only [bH];omega) rfl) ?_))))))
 refine ai (cg _ aa rfl (by exact cN L 0 hL) rfl) ?_
 refine ai (aI aa al (ht) rfl rfl) ?_
 refine be rfl (aj (aU fun K16 hK16=> ?_))
 refine aq ?_
 refine aM (σ':=aE 73 [(1,_),(5,_)] [((1,0),_)] [] []) kp ?_
 refine an (be rfl (aj (ay ?_)))
 refine bq (α:=Nat) (fun j=> 1≤j∧j≤L.length) 73 [(1,_),(5,_)] [((1,0),_)] (fun j=> [(6, .v (.int .i64 (j:Int)))]) (fun j=> []) [] [] (fun j=> L.length - j) 1 ?_ (by
  refine Le.mkJ [] [] rfl ?_ ?_ trivial trivial ?_
  ·exact ⟨(iP rfl),(iV rfl),(co ag),trivial⟩
  ·exact ⟨(bF rfl rfl rfl),trivial⟩
  kernel_rfl) ?_
 ·exact ⟨Nat.le_refl _,hL⟩
 intro j hj
 obtain ⟨hj1,hj2⟩:=hj
 refine aU fun K18 hK18=> ?_
 refine am (aX rfl (bb rfl rfl rfl (eZ rfl rfl rfl (ai (bo _ aa rfl) (ai (bl _ _ rfl rfl rfl) (aj (aR rfl (fun hc45=> ?_) (fun hc45=> ?_))))))))
 ·skip
  refine bs (hK18 _ ?_)
  clear hK18;try clear K18
  refine aq (ay (am (bb rfl rfl rfl (eZ rfl rfl rfl (aX rfl (ai (bn _ _ aa rfl rfl _ rfl ab (by (simp only [aO,bg,bj,bv,bu,bH,bw];omega)) ag) ?_))))))
  refine ai (cg _ aa rfl (by exact cN _ _ ab) rfl) ?_
  refine ai (aI aa al (h j hj1 ab) rfl rfl) ?_
  refine cu rfl (aj (am (cE rfl (ai (cj (r:=false) _ rfl rfl) (aj (aW rfl rfl (cp (an (aX rfl (ai (aZ _ _ rfl rfl (bD ab)) ?_))))))))))
  refine be rfl (aJ (⟨j+1,?_,?_,?_⟩))
  ·omega
  ·skip
   refine Le.mkJ [] [] rfl ?_ ?_ trivial trivial ?_
   ·exact ⟨(iP rfl),(iV rfl),(co ag),trivial⟩
   ·exact ⟨(bF rfl rfl rfl),trivial⟩
   kernel_rfl
  omega
 refine bB (id (hK16 _ ?_))
 clear hK16;try clear K16
 refine am (aX rfl (kf rfl rfl rfl (cu rfl (aj (aG (rJ rfl rfl ?_))))))
 rfl
theorem fI (k:Nat) (hk:k≠2∧k≠3∧k≠11) (n:Int) (s:Tx) (L:List Nd) (h: ∀ j,j < L.length→Spec Tryz.prog 203 (ba [pA (ln L j)] []) (aP (.v (.int .i64 1)) [])):
  Spec Tryz.prog 166 (ba [.agg [.v (.int .i64 (k:Int)), .v (.int .i64 n), .v (bt s), .sl L.length (nc L)]] []) (aP (.v (.bool true)) []):=by
 refine Spec.ofN Tryz.func166 rfl Tryz.ntmps166 rfl ?_
 refine aq ?_
 refine lM 0 3 rfl rfl rfl fun hlen=> ?_
 unfold maxLen at hlen
 refine an (ai (aQ (1,0) _ rfl rfl) (cu rfl (aj (aq (am (bb rfl rfl rfl (cf rfl rfl rfl (gM rfl rfl (beq_eq_false_iff_ne.2 ab) ?_))))))))
 refine aj (aW rfl rfl (aT (aq (am (bb rfl rfl rfl (cf rfl rfl rfl (gM rfl rfl (beq_eq_false_iff_ne.2 ab) ?_)))))))
 refine cE rfl (au rfl rfl (aA _ aa rfl rfl rfl) (au rfl rfl (aF _ aa rfl rfl ee) (au rfl rfl (bC (r:=false) _ _ rfl rfl (beq_eq_false_iff_ne.2 ab)) ?_)))
 refine ai (aB _ _ _ rfl bJ) (aj (aW rfl rfl (aT (aU fun K6 hK6=> ?_))))
 refine am (be rfl (aj (ay ?_)))
 refine bq (α:=Nat) (fun j=> j≤L.length) 73 [(1,_)] [((1,0),_)] (fun j=> [(8, .v (.int .i64 (j:Int)))]) (fun j=> []) [] [] (fun j=> L.length - j) 0 ?_ (by
  refine Le.mkJ [] [] rfl ?_ ?_ trivial trivial ?_
  ·exact ⟨(iP rfl),(co ag),trivial⟩
  ·exact ⟨(bF rfl rfl rfl),trivial⟩
  kernel_rfl) ?_
 ·omega
 intro j hj
 refine aU fun K8 hK8=> ?_
 refine am (aX rfl (bb rfl rfl rfl (eZ rfl rfl rfl (ai (bo _ aa rfl) (ai (bl _ _ rfl rfl rfl) (aj (aR rfl (fun hc62=> ?_) (fun hc62=> ?_))))))))
 ·skip
  refine bs (hK8 _ ?_)
  clear hK8;try clear K8
  refine aq (ay (am (bb rfl rfl rfl (eZ rfl rfl rfl (aX rfl (ai (bn _ _ aa rfl rfl _ rfl ab (by (simp only [aO,bg,bj,bv,bu,bH,bw];omega)) ag) ?_))))))
  refine ai (cg _ aa rfl (by exact cN _ _ ab) rfl) ?_
  refine ai (aI aa al (h j ab) rfl rfl) ?_
  refine be rfl (aj (am (aX rfl (ai (bL (r:=false) _ _ rfl rfl rfl) (aj (aW rfl rfl (cp (an (aX rfl (ai (aZ _ _ rfl rfl (bD ab)) ?_))))))))))
  refine be rfl (aJ (⟨j+1,?_,?_,?_⟩))
  ·omega
  ·skip
   refine Le.mkJ [] [] rfl ?_ ?_ trivial trivial ?_
   ·exact ⟨(iP rfl),(co ag),trivial⟩
   ·exact ⟨(bF rfl rfl rfl),trivial⟩
   kernel_rfl
  omega
 refine bB (id (hK6 _ ?_))
 clear hK6;try clear K6
 refine am (cu rfl (aj (aG (rJ rfl rfl ?_))))
 rfl

abbrev Mm (d:Nd):Prop:=Spec Tryz.prog 166 (ba [pA d] []) (aP (.v (.bool true)) [])
theorem jv {nm:List Tx} {e:Ex} (h:po e=true):wk (eQ nm e) 1:=by
 have:=Nat.eq_of_beq_eq_true h
 have h2:=eC nm e
 rwa [this] at h2
theorem JE {P:Nd→Prop} {d:Nd} (h:P d): ∀ j,j < [d].length→P (ln [d] j):=fun j hj=> by
 have:j=0:=by simpa using hj
 subst this
 exact h
theorem Mg {P:Nd→Prop} {d e:Nd} (h:P d) (h':P e): ∀ j,j < [d,e].length→P (ln [d,e] j):=fun j hj=> by
 have hj:j < 2:=hj
 have:j=0∨j=1:=by omega
 rcases this with rfl | rfl
 ·exact h
 exact h'
theorem LS {P:Nd→Prop} {d e f:Nd} (h:P d) (h':P e) (h2:P f): ∀ j,j < [d,e,f].length→P (ln [d,e,f] j):=fun j hj=> by
 have hj:j < 3:=hj
 have:j=0∨j=1∨j=2:=by omega
 rcases this with rfl | rfl | rfl
 ·exact h
 ·exact h'
 exact h2
theorem Bm {P:Nd→Prop}: ∀ j,j < ([]:List Nd).length→P (ln [] j):=fun j hj=> by simp at hj
theorem KY {P:Nd→Prop} {d:Nd} {l:List Nd} (h:P d) (h': ∀ j,j < l.length→P (ln l j)): ∀ j,j < (d::l).length→P (ln (d::l) j):=fun j hj=> by
 cases j with
 | zero=> exact h
 | succ j=> exact h' j (by simpa using hj)
mutual
theorem Ep (nm:List Tx): ∀ s:Sm,yn s=true→Mm (Eg nm s)
 | .assign i e,h=> fI 1 ab 0 (nm.getD i []) [eQ nm e] (JE (P:=fun d=> wk d 1) (jv h))
 | .send t k a b,h=> by
  simp only [yn,Bool.and_eq_true] at h
  exact fI 4 ab k [] [eQ nm t,eQ nm a,eQ nm b] (LS (P:=fun d=> wk d 1) (jv h.1.1) (jv h.1.2) (jv h.2))
 | .timer k,_=> fI 5 ab k [] [] (Bm (P:=fun d=> wk d 1))
 | .cancel k,_=> fI 6 ab k [] [] (Bm (P:=fun d=> wk d 1))
 | .sync,_=> fI 7 ab 0 [] [] (Bm (P:=fun d=> wk d 1))
 | .stop,_=> fI 10 ab 0 [] [] (Bm (P:=fun d=> wk d 1))
 | .reply a b,h=> by
  simp only [yn,Bool.and_eq_true] at h
  exact fI 8 ab 0 [] [eQ nm a,eQ nm b] (Mg (P:=fun d=> wk d 1) (jv h.1) (jv h.2))
 | .fail e,h=> fI 9 ab 0 [] [eQ nm e] (JE (P:=fun d=> wk d 1) (jv h))
 | .loop c b,h=> by
  simp only [yn,Bool.and_eq_true] at h
  have h1:=eC nm c
  rw [Nat.eq_of_beq_eq_true h.1] at h1
  refine rR 3 (.inr rfl) 0 [] [eQ nm c,nd 11 0 [] (ji nm b)] (by simp) h1 fun j h1 hj=> ?_
  have hj:j < 2:=hj
  obtain rfl:j=1:=by omega
  exact kS 0 [] (ji nm b) (nj nm b h.2)
 | .ite c a b,h=> by
  simp only [yn,Bool.and_eq_true] at h
  have h1:=eC nm c
  rw [Nat.eq_of_beq_eq_true h.1.1] at h1
  refine rR 2 (.inl rfl) 0 [] [eQ nm c,nd 11 0 [] (ji nm a),nd 11 0 [] (ji nm b)] (by simp) h1 fun j h1 hj=> ?_
  have hj:j < 3:=hj
  have:j=1∨j=2:=by omega
  rcases this with rfl | rfl
  ·exact kS 0 [] (ji nm a) (nj nm a h.1.2)
  exact kS 0 [] (ji nm b) (nj nm b h.2)
theorem nj (nm:List Tx): ∀ b:Bk,qF b=true→ ∀ j,j < (ji nm b).length→Mm (ln (ji nm b) j)
 | .nil,_=> Bm
 | .cons s b,h=> by
  simp only [qF,Bool.and_eq_true] at h
  exact KY (Ep nm s h.1) (nj nm b h.2)
end
theorem ED (nm:List Tx) (b:Bk) (h:qF b=true):Mm (jj nm b):=kS 0 [] (ji nm b) (nj nm b h)

def iU (s:Tx) (l:List Tx):List Tx:=if s∈l then l else l++[s]
section
variable (nm:List Tx)
def tN:Ex→List Tx→List Tx
 | .int _,l=> l | .bool _,l=> l | .name _,l=> l
 | .var i,l=> iU (nm.getD i []) l
 | .draw e,l=> tN e l | .neg e,l=> tN e l | .not e,l=> tN e l
 | .bin _ a b,l=> tN b (tN a l)
 | .and a b,l=> tN b (tN a l)
 | .or a b,l=> tN b (tN a l)
mutual
def LC:Sm→List Tx→List Tx
 | .assign i e,l=> tN nm e (iU (nm.getD i []) l)
 | .send t _ a b,l=> tN nm b (tN nm a (tN nm t l))
 | .timer _,l=> l | .cancel _,l=> l | .sync,l=> l | .stop,l=> l
 | .reply a b,l=> tN nm b (tN nm a l)
 | .fail e,l=> tN nm e l
 | .loop c b,l=> Dt b (tN nm c l)
 | .ite c a b,l=> Dt b (Dt a (tN nm c l))
def Dt:Bk→List Tx→List Tx
 | .nil,l=> l
 | .cons s b,l=> Dt b (LC s l)
end
def GN (l:List Tx):Prop:=l.Nodup∧ ∀ x∈l,x∈nm
end
theorem GN.len {nm l:List Tx} (h:GN nm l):l.length≤nm.length:=h.1.length_le_of_subset fun x hx=> h.2 x hx
theorem GN.add {nm l:List Tx} (h:GN nm l) {i:Nat} (hi:i < nm.length):GN nm (iU (nm.getD i []) l):=by
 unfold iU
 split
 ·exact h
 rename_i hn
 refine ⟨List.nodup_append.2 ⟨h.1,by simp,fun a ha b hb e=> hn (by rw [List.mem_singleton.1 hb] at e;exact e ▸ ha)⟩,fun x hx=> ?_⟩
 rcases List.mem_append.1 hx with hx | hx
 ·exact h.2 x hx
 rw [List.mem_singleton.1 hx];exact kk hi
theorem GN.nil {nm:List Tx}:GN nm []:=⟨.nil,fun x hx=> by simp at hx⟩
theorem vb (n:Int) (s:Tx) (L:List Nd) (l:List Tx) (hs:s∉l) (hl:l.length≤1000) (F:Nat→List Tx) (hF:F 0=l++[s]) (h: ∀ j,j < L.length→Spec Tryz.prog 167 (ba [pA (ln L j), .sl (F j).length (fo (F j))] []) (aP (.sl (F (j+1)).length (fo (F (j+1)))) [])):
  Spec Tryz.prog 167 (ba [.agg [.v (.int .i64 1), .v (.int .i64 n), .v (bt s), .sl L.length (nc L)], .sl l.length (fo l)] []) (aP (.sl (F L.length).length (fo (F L.length))) []):=by
 refine Spec.ofN Tryz.func167 rfl Tryz.ntmps167 rfl ?_
 refine aq ?_
 refine lM 0 3 rfl rfl rfl fun hlen=> ?_
 unfold maxLen at hlen
 refine an (ai (aQ (2,0) _ rfl rfl) (ai (bp _ fC) (aj (aq (am (bb rfl rfl rfl (cf rfl rfl rfl (kf rfl rfl rfl (cE rfl (aK rfl rfl ah ?_))))))))))
 refine aK rfl rfl ah ?_
 refine aK rfl rfl ah ?_
 refine ai (aB _ _ _ rfl bJ) (cE rfl (au rfl rfl (aH _ mL) (au rfl rfl (aA _ aa rfl rfl rfl) (au rfl rfl (aF _ aa rfl rfl fA) (au rfl rfl (aI aa al (gG l _ rfl ab s) rfl rfl) ?_)))))
 refine au rfl rfl (cj _ rfl rfl) (ai (aB _ _ _ rfl bJ) (aj (bM rfl (by rw [decide_eq_false hs];rfl) ?_)))
 refine aq ?_
 refine aM (σ':=aE 45 [(1,_),(2,_)] [((2,0),_)] [] []) kp ?_
 refine an (ai (bp _ fC) (aj (am (ai (aH _ fC) (eY rfl (ai (wi (24,0) _ _ aa rfl (.sl (by simp)) ab rfl) ?_))))))
 refine fk rfl (aj (an (gI rfl (bb rfl rfl rfl (ai (aF _ aa rfl rfl fA) (ai (bh _ _ aa rfl ag (by (simp <;> rfl)) ah rfl) ?_))))))
 refine ai (du (29,0) _ _ aa rfl rfl (by simp) (.sl rfl) ab rfl (nJ _ _) (show l.length+1=(l++[s]).length by simp)) ?_
 refine fk rfl (aj (aU fun K6 hK6=> ?_))
 refine am (be rfl (aj (ay ?_)))
 refine aM (Le.frzS 1 (ys:=fo (l++[s])) rfl rfl rfl (by rw [List.drop_zero,Nat.mul_one];exact List.take_of_length_le (by simp)) (by simp)) ?_
 refine bq (α:=Nat) (fun j=> j≤L.length) 45 [(2,_)] [((2,0),_)] (fun j=> [(6, .v (.int .i64 (j:Int))),(1, .sl (F j).length (fo (F j)))]) (fun j=> []) [] [] (fun j=> L.length - j) 0 ?_ (by
  refine Le.mkJ [] [] rfl ?_ ?_ trivial trivial ?_
  ·exact ⟨(iP rfl),(co ag),(jl (by rw [hF]) (by rw [hF])),trivial⟩
  ·exact ⟨(bF rfl rfl rfl),trivial⟩
  kernel_rfl) ?_
 ·omega
 intro j hj
 refine aU fun K8 hK8=> ?_
 refine am (aX rfl (bb rfl rfl rfl (eZ rfl rfl rfl (ai (bo _ aa rfl) (ai (bl _ _ rfl rfl rfl) (aj (aR rfl (fun hc34=> ?_) (fun hc34=> ?_))))))))
 ·skip
  refine bs (hK8 _ ?_)
  clear hK8;try clear K8
  refine aq (ay (an (bb rfl rfl rfl (eZ rfl rfl rfl (aX rfl (ai (bn _ _ aa rfl rfl _ rfl ab (by (simp only [aO,bg,bj,bv,bu,bH,bw];omega)) ag) ?_))))))
  refine ai (cg _ aa rfl (by exact cN _ _ ab) rfl) ?_
  refine eY rfl (ai (aI aa al (h j ab) rfl rfl) ?_)
  refine kH rfl (ek (an (aX rfl (ai (aZ _ _ rfl rfl (bD ab)) ?_))))
  refine be rfl (aJ (⟨j+1,?_,?_,?_⟩))
  ·omega
  ·skip
   refine Le.mkJ [] [] rfl ?_ ?_ trivial trivial ?_
   ·exact ⟨(iP rfl),(co ag),(jl ag ag),trivial⟩
   ·exact ⟨(bF rfl rfl rfl),trivial⟩
   kernel_rfl
  omega
 obtain rfl:j=L.length:=by omega
 refine bB (id (hK6 _ ?_))
 clear hK6;try clear K6
 exact am (eY rfl (kH rfl (aj (aG (qV rfl rfl)))))
theorem va (n:Int) (s:Tx) (L:List Nd) (l:List Tx) (hs:s∈l) (hl:l.length≤1000) (F:Nat→List Tx) (hF:F 0=l) (h: ∀ j,j < L.length→Spec Tryz.prog 167 (ba [pA (ln L j), .sl (F j).length (fo (F j))] []) (aP (.sl (F (j+1)).length (fo (F (j+1)))) [])):
  Spec Tryz.prog 167 (ba [.agg [.v (.int .i64 1), .v (.int .i64 n), .v (bt s), .sl L.length (nc L)], .sl l.length (fo l)] []) (aP (.sl (F L.length).length (fo (F L.length))) []):=by
 refine Spec.ofN Tryz.func167 rfl Tryz.ntmps167 rfl ?_
 refine aq ?_
 refine lM 0 3 rfl rfl rfl fun hlen=> ?_
 unfold maxLen at hlen
 refine an (ai (aQ (2,0) _ rfl rfl) (ai (bp _ fC) (aj (aq (am (bb rfl rfl rfl (cf rfl rfl rfl (kf rfl rfl rfl (cE rfl (aK rfl rfl ah ?_))))))))))
 refine aK rfl rfl ah ?_
 refine aK rfl rfl ah ?_
 refine ai (aB _ _ _ rfl bJ) (cE rfl (au rfl rfl (aH _ mL) (au rfl rfl (aA _ aa rfl rfl rfl) (au rfl rfl (aF _ aa rfl rfl fA) (au rfl rfl (aI aa al (gG l _ rfl ab s) rfl rfl) ?_)))))
 refine au rfl rfl (cj _ rfl rfl) (ai (aB _ _ _ rfl bJ) (aj (aW rfl (by rw [decide_eq_true hs];rfl) ?_)))
 refine aT (aU fun K4 hK4=> ?_)
 refine aq ?_
 refine aM (σ':=aE 45 [(1,_),(2,_)] [((2,0),_)] [] []) kp ?_
 refine an (be rfl (aj (ay ?_)))
 refine bq (α:=Nat) (fun j=> j≤L.length) 45 [(2,_)] [((2,0),_)] (fun j=> [(6, .v (.int .i64 (j:Int))),(1, .sl (F j).length (fo (F j)))]) (fun j=> []) [] [] (fun j=> L.length - j) 0 ?_ (by
  refine Le.mkJ [] [] rfl ?_ ?_ trivial trivial ?_
  ·exact ⟨(iP rfl),(co ag),(jl (by rw [hF]) (by rw [hF])),trivial⟩
  ·exact ⟨(bF rfl rfl rfl),trivial⟩
  kernel_rfl) ?_
 ·omega
 intro j hj
 refine aU fun K6 hK6=> ?_
 refine am (aX rfl (bb rfl rfl rfl (eZ rfl rfl rfl (ai (bo _ aa rfl) (ai (bl _ _ rfl rfl rfl) (aj (aR rfl (fun hc34=> ?_) (fun hc34=> ?_))))))))
 ·skip
  refine bs (hK6 _ ?_)
  clear hK6;try clear K6
  refine aq (ay (an (bb rfl rfl rfl (eZ rfl rfl rfl (aX rfl (ai (bn _ _ aa rfl rfl _ rfl ab (by (simp only [aO,bg,bj,bv,bu,bH,bw];omega)) ag) ?_))))))
  refine ai (cg _ aa rfl (by exact cN _ _ ab) rfl) ?_
  refine eY rfl (ai (aI aa al (h j ab) rfl rfl) ?_)
  refine kH rfl (ek (an (aX rfl (ai (aZ _ _ rfl rfl (bD ab)) ?_))))
  refine be rfl (aJ (⟨j+1,?_,?_,?_⟩))
  ·omega
  ·skip
   refine Le.mkJ [] [] rfl ?_ ?_ trivial trivial ?_
   ·exact ⟨(iP rfl),(co ag),(jl ag ag),trivial⟩
   ·exact ⟨(bF rfl rfl rfl),trivial⟩
   kernel_rfl
  omega
 obtain rfl:j=L.length:=by omega
 refine bB (id (hK4 _ ?_))
 clear hK4;try clear K4
 exact am (eY rfl (kH rfl (aj (aG (qV rfl rfl)))))
theorem sZ (n:Int) (s:Tx) (L:List Nd) (l:List Tx) (hs:s∉l) (hl:l.length≤1000) (F:Nat→List Tx) (hF:F 0=l++[s]) (h: ∀ j,j < L.length→Spec Tryz.prog 167 (ba [pA (ln L j), .sl (F j).length (fo (F j))] []) (aP (.sl (F (j+1)).length (fo (F (j+1)))) [])):
  Spec Tryz.prog 167 (ba [.agg [.v (.int .i64 14), .v (.int .i64 n), .v (bt s), .sl L.length (nc L)], .sl l.length (fo l)] []) (aP (.sl (F L.length).length (fo (F L.length))) []):=by
 refine Spec.ofN Tryz.func167 rfl Tryz.ntmps167 rfl ?_
 refine aq ?_
 refine lM 0 3 rfl rfl rfl fun hlen=> ?_
 unfold maxLen at hlen
 refine an (ai (aQ (2,0) _ rfl rfl) (ai (bp _ fC) (aj (aq (am (bb rfl rfl rfl (cf rfl rfl rfl (gM rfl rfl rfl (cE rfl (au rfl rfl (aA _ aa rfl rfl rfl) ?_))))))))))
 refine au rfl rfl (aF _ aa rfl rfl ee) (au rfl rfl (bC (r:=true) _ _ rfl rfl rfl) (ai (aB _ _ _ rfl bJ) (cE rfl (au rfl rfl (aH _ mL) (au rfl rfl (aA _ aa rfl rfl rfl) (au rfl rfl (aF _ aa rfl rfl fA) (au rfl rfl (aI aa al (gG l _ rfl ab s) rfl rfl) ?_)))))))
 refine au rfl rfl (cj _ rfl rfl) (ai (aB _ _ _ rfl bJ) (aj (bM rfl (by rw [decide_eq_false hs];rfl) ?_)))
 refine aq ?_
 refine aM (σ':=aE 45 [(1,_),(2,_)] [((2,0),_)] [] []) kp ?_
 refine an (ai (bp _ fC) (aj (am (ai (aH _ fC) (eY rfl (ai (wi (24,0) _ _ aa rfl (.sl (by simp)) ab rfl) ?_))))))
 refine fk rfl (aj (an (gI rfl (bb rfl rfl rfl (ai (aF _ aa rfl rfl fA) (ai (bh _ _ aa rfl ag (by (simp <;> rfl)) ah rfl) ?_))))))
 refine ai (du (29,0) _ _ aa rfl rfl (by simp) (.sl rfl) ab rfl (nJ _ _) (show l.length+1=(l++[s]).length by simp)) ?_
 refine fk rfl (aj (aU fun K6 hK6=> ?_))
 refine am (be rfl (aj (ay ?_)))
 refine aM (Le.frzS 1 (ys:=fo (l++[s])) rfl rfl rfl (by rw [List.drop_zero,Nat.mul_one];exact List.take_of_length_le (by simp)) (by simp)) ?_
 refine bq (α:=Nat) (fun j=> j≤L.length) 45 [(2,_)] [((2,0),_)] (fun j=> [(6, .v (.int .i64 (j:Int))),(1, .sl (F j).length (fo (F j)))]) (fun j=> []) [] [] (fun j=> L.length - j) 0 ?_ (by
  refine Le.mkJ [] [] rfl ?_ ?_ trivial trivial ?_
  ·exact ⟨(iP rfl),(co ag),(jl (by rw [hF]) (by rw [hF])),trivial⟩
  ·exact ⟨(bF rfl rfl rfl),trivial⟩
  kernel_rfl) ?_
 ·omega
 intro j hj
 refine aU fun K8 hK8=> ?_
 refine am (aX rfl (bb rfl rfl rfl (eZ rfl rfl rfl (ai (bo _ aa rfl) (ai (bl _ _ rfl rfl rfl) (aj (aR rfl (fun hc34=> ?_) (fun hc34=> ?_))))))))
 ·skip
  refine bs (hK8 _ ?_)
  clear hK8;try clear K8
  refine aq (ay (an (bb rfl rfl rfl (eZ rfl rfl rfl (aX rfl (ai (bn _ _ aa rfl rfl _ rfl ab (by (simp only [aO,bg,bj,bv,bu,bH,bw];omega)) ag) ?_))))))
  refine ai (cg _ aa rfl (by exact cN _ _ ab) rfl) ?_
  refine eY rfl (ai (aI aa al (h j ab) rfl rfl) ?_)
  refine kH rfl (ek (an (aX rfl (ai (aZ _ _ rfl rfl (bD ab)) ?_))))
  refine be rfl (aJ (⟨j+1,?_,?_,?_⟩))
  ·omega
  ·skip
   refine Le.mkJ [] [] rfl ?_ ?_ trivial trivial ?_
   ·exact ⟨(iP rfl),(co ag),(jl ag ag),trivial⟩
   ·exact ⟨(bF rfl rfl rfl),trivial⟩
   kernel_rfl
  omega
 obtain rfl:j=L.length:=by omega
 refine bB (id (hK6 _ ?_))
 clear hK6;try clear K6
 exact am (eY rfl (kH rfl (aj (aG (qV rfl rfl)))))
theorem sS (n:Int) (s:Tx) (L:List Nd) (l:List Tx) (hs:s∈l) (hl:l.length≤1000) (F:Nat→List Tx) (hF:F 0=l) (h: ∀ j,j < L.length→Spec Tryz.prog 167 (ba [pA (ln L j), .sl (F j).length (fo (F j))] []) (aP (.sl (F (j+1)).length (fo (F (j+1)))) [])):
  Spec Tryz.prog 167 (ba [.agg [.v (.int .i64 14), .v (.int .i64 n), .v (bt s), .sl L.length (nc L)], .sl l.length (fo l)] []) (aP (.sl (F L.length).length (fo (F L.length))) []):=by
 refine Spec.ofN Tryz.func167 rfl Tryz.ntmps167 rfl ?_
 refine aq ?_
 refine lM 0 3 rfl rfl rfl fun hlen=> ?_
 unfold maxLen at hlen
 refine an (ai (aQ (2,0) _ rfl rfl) (ai (bp _ fC) (aj (aq (am (bb rfl rfl rfl (cf rfl rfl rfl (gM rfl rfl rfl (cE rfl (au rfl rfl (aA _ aa rfl rfl rfl) ?_))))))))))
 refine au rfl rfl (aF _ aa rfl rfl ee) (au rfl rfl (bC (r:=true) _ _ rfl rfl rfl) (ai (aB _ _ _ rfl bJ) (cE rfl (au rfl rfl (aH _ mL) (au rfl rfl (aA _ aa rfl rfl rfl) (au rfl rfl (aF _ aa rfl rfl fA) (au rfl rfl (aI aa al (gG l _ rfl ab s) rfl rfl) ?_)))))))
 refine au rfl rfl (cj _ rfl rfl) (ai (aB _ _ _ rfl bJ) (aj (aW rfl (by rw [decide_eq_true hs];rfl) ?_)))
 refine aT (aU fun K4 hK4=> ?_)
 refine aq ?_
 refine aM (σ':=aE 45 [(1,_),(2,_)] [((2,0),_)] [] []) kp ?_
 refine an (be rfl (aj (ay ?_)))
 refine bq (α:=Nat) (fun j=> j≤L.length) 45 [(2,_)] [((2,0),_)] (fun j=> [(6, .v (.int .i64 (j:Int))),(1, .sl (F j).length (fo (F j)))]) (fun j=> []) [] [] (fun j=> L.length - j) 0 ?_ (by
  refine Le.mkJ [] [] rfl ?_ ?_ trivial trivial ?_
  ·exact ⟨(iP rfl),(co ag),(jl (by rw [hF]) (by rw [hF])),trivial⟩
  ·exact ⟨(bF rfl rfl rfl),trivial⟩
  kernel_rfl) ?_
 ·omega
 intro j hj
 refine aU fun K6 hK6=> ?_
 refine am (aX rfl (bb rfl rfl rfl (eZ rfl rfl rfl (ai (bo _ aa rfl) (ai (bl _ _ rfl rfl rfl) (aj (aR rfl (fun hc34=> ?_) (fun hc34=> ?_))))))))
 ·skip
  refine bs (hK6 _ ?_)
  clear hK6;try clear K6
  refine aq (ay (an (bb rfl rfl rfl (eZ rfl rfl rfl (aX rfl (ai (bn _ _ aa rfl rfl _ rfl ab (by (simp only [aO,bg,bj,bv,bu,bH,bw];omega)) ag) ?_))))))
  refine ai (cg _ aa rfl (by exact cN _ _ ab) rfl) ?_
  refine eY rfl (ai (aI aa al (h j ab) rfl rfl) ?_)
  refine kH rfl (ek (an (aX rfl (ai (aZ _ _ rfl rfl (bD ab)) ?_))))
  refine be rfl (aJ (⟨j+1,?_,?_,?_⟩))
  ·omega
  ·skip
   refine Le.mkJ [] [] rfl ?_ ?_ trivial trivial ?_
   ·exact ⟨(iP rfl),(co ag),(jl ag ag),trivial⟩
   ·exact ⟨(bF rfl rfl rfl),trivial⟩
   kernel_rfl
  omega
 obtain rfl:j=L.length:=by omega
 refine bB (id (hK4 _ ?_))
 clear hK4;try clear K4
 exact am (eY rfl (kH rfl (aj (aG (qV rfl rfl)))))
theorem uO (k:Nat) (hk:k≠1∧k≠14) (n:Int) (s:Tx) (L:List Nd) (l:List Tx) (hl:l.length≤1000) (F:Nat→List Tx) (hF:F 0=l) (h: ∀ j,j < L.length→Spec Tryz.prog 167 (ba [pA (ln L j), .sl (F j).length (fo (F j))] []) (aP (.sl (F (j+1)).length (fo (F (j+1)))) [])):
  Spec Tryz.prog 167 (ba [.agg [.v (.int .i64 (k:Int)), .v (.int .i64 n), .v (bt s), .sl L.length (nc L)], .sl l.length (fo l)] []) (aP (.sl (F L.length).length (fo (F L.length))) []):=by
 refine Spec.ofN Tryz.func167 rfl Tryz.ntmps167 rfl ?_
 refine aq ?_
 refine lM 0 3 rfl rfl rfl fun hlen=> ?_
 unfold maxLen at hlen
 refine an (ai (aQ (2,0) _ rfl rfl) (ai (bp _ fC) (aj (aq (am (bb rfl rfl rfl (cf rfl rfl rfl (gM rfl rfl (beq_eq_false_iff_ne.2 ab) ?_))))))))
 refine cE rfl (au rfl rfl (aA _ aa rfl rfl rfl) (au rfl rfl (aF _ aa rfl rfl ee) (au rfl rfl (bC (r:=false) _ _ rfl rfl (beq_eq_false_iff_ne.2 ab)) ?_)))
 refine ai (aB _ _ _ rfl bJ) (cE rfl (aK rfl rfl ah ?_))
 refine aK rfl rfl ah ?_
 refine aK rfl rfl ah ?_
 refine aK rfl rfl ah ?_
 refine aK rfl rfl ah ?_
 refine ai (aB _ _ _ rfl bJ) (aj (aW rfl rfl (aT (aU fun K4 hK4=> ?_))))
 refine aq ?_
 refine aM (σ':=aE 45 [(1,_),(2,_)] [((2,0),_)] [] []) kp ?_
 refine an (be rfl (aj (ay ?_)))
 refine bq (α:=Nat) (fun j=> j≤L.length) 45 [(2,_)] [((2,0),_)] (fun j=> [(6, .v (.int .i64 (j:Int))),(1, .sl (F j).length (fo (F j)))]) (fun j=> []) [] [] (fun j=> L.length - j) 0 ?_ (by
  refine Le.mkJ [] [] rfl ?_ ?_ trivial trivial ?_
  ·exact ⟨(iP rfl),(co ag),(jl (by rw [hF]) (by rw [hF])),trivial⟩
  ·exact ⟨(bF rfl rfl rfl),trivial⟩
  kernel_rfl) ?_
 ·omega
 intro j hj
 refine aU fun K6 hK6=> ?_
 refine am (aX rfl (bb rfl rfl rfl (eZ rfl rfl rfl (ai (bo _ aa rfl) (ai (bl _ _ rfl rfl rfl) (aj (aR rfl (fun hc34=> ?_) (fun hc34=> ?_))))))))
 ·skip
  refine bs (hK6 _ ?_)
  clear hK6;try clear K6
  refine aq (ay (an (bb rfl rfl rfl (eZ rfl rfl rfl (aX rfl (ai (bn _ _ aa rfl rfl _ rfl ab (by (simp only [aO,bg,bj,bv,bu,bH,bw];omega)) ag) ?_))))))
  refine ai (cg _ aa rfl (by exact cN _ _ ab) rfl) ?_
  refine eY rfl (ai (aI aa al (h j ab) rfl rfl) ?_)
  refine kH rfl (ek (an (aX rfl (ai (aZ _ _ rfl rfl (bD ab)) ?_))))
  refine be rfl (aJ (⟨j+1,?_,?_,?_⟩))
  ·omega
  ·skip
   refine Le.mkJ [] [] rfl ?_ ?_ trivial trivial ?_
   ·exact ⟨(iP rfl),(co ag),(jl ag ag),trivial⟩
   ·exact ⟨(bF rfl rfl rfl),trivial⟩
   kernel_rfl
  omega
 obtain rfl:j=L.length:=by omega
 refine bB (id (hK4 _ ?_))
 clear hK4;try clear K4
 exact am (eY rfl (kH rfl (aj (aG (qV rfl rfl)))))
def fV (fs:List (List Tx→List Tx)) (l:List Tx):List Tx:=fs.foldl (fun l f=> f l) l
theorem kO {fs:List (List Tx→List Tx)} {l:List Tx} {j:Nat} (h:j < fs.length):fV (fs.take (j+1)) l=fs.getD j id (fV (fs.take j) l):=by
 rw [List.take_succ_eq_append_getElem h]
 unfold fV
 rw [List.foldl_append,List.getD_eq_getElem?_getD,List.getElem?_eq_getElem h];rfl
abbrev xE (nm:List Tx) (d:Nd) (f:List Tx→List Tx):Prop:= ∀ l,GN nm l→Spec Tryz.prog 167 (ba [pA d, .sl l.length (fo l)] []) (aP (.sl (f l).length (fo (f l))) [])∧GN nm (f l)
section
variable {nm:List Tx} (hnm:nm.length≤16) {L:List Nd} {fs:List (List Tx→List Tx)} (hfs:fs.length=L.length) (h: ∀ j,j < L.length→xE nm (ln L j) (fs.getD j id))
theorem qT (hfs:fs.length=L.length) (h: ∀ j,j < L.length→xE nm (ln L j) (fs.getD j id)) {l:List Tx} (hl:GN nm l): ∀ j,j≤L.length→GN nm (fV (fs.take j) l)
 | 0,_=> by simpa [fV] using hl
 | j+1,hj=> by
  rw [kO ab]
  exact (h j ab _ (qT hfs h hl j ab)).2
theorem cH (hnm:nm.length≤16) (hfs:fs.length=L.length) (h: ∀ j,j < L.length→xE nm (ln L j) (fs.getD j id)) (k:Nat) (hk:k≠1∧k≠14) (n:Nat) (s:Tx):xE nm (nd k n s L) (fV fs):=fun l hl=> by
 have hg:=qT hfs h hl
 have he:fV (fs.take L.length) l=fV fs l:=by rw [← hfs,List.take_length]
 have hw:=uO k hk n s L l (by have:=hl.len;omega) (fun j=> fV (fs.take j) l) rfl fun j hj=> by
  rw [show fV (fs.take (j+1)) l=_ from kO ab]
  exact (h j hj _ (hg j ab)).1
 rw [he] at hw
 exact ⟨hw,he ▸ hg _ (Nat.le_refl _)⟩
theorem ye (hnm:nm.length≤16) (hfs:fs.length=L.length) (h: ∀ j,j < L.length→xE nm (ln L j) (fs.getD j id)) (n:Nat) {i:Nat} (hi:i < nm.length):xE nm (nd 1 n (nm.getD i []) L) (fun l=> fV fs (iU (nm.getD i []) l)):=fun l hl=> by
 have hg:=qT hfs h (hl.add hi)
 have he:fV (fs.take L.length) (iU (nm.getD i []) l)=fV fs (iU (nm.getD i []) l):=by rw [← hfs,List.take_length]
 have hkid: ∀ j,j < L.length→_:=fun j hj=> (h j hj _ (hg j ab)).1
 have hll:=hl.len
 show Spec _ _ _ (aP (.sl (fV fs (iU (nm.getD i []) l)).length (fo (fV fs (iU (nm.getD i []) l)))) [])∧GN nm (fV fs (iU (nm.getD i []) l))
 rw [← he]
 refine ⟨?_,hg _ (Nat.le_refl _)⟩
 by_cases hs:nm.getD i []∈l
 ·exact va n _ L l hs ab (fun j=> fV (fs.take j) (iU (nm.getD i []) l)) (by show iU _ l=l;unfold iU;rw [if_pos hs]) fun j hj=> by
   rw [show fV (fs.take (j+1)) (iU (nm.getD i []) l)=_ from kO ab]
   exact hkid j hj
 exact vb n _ L l hs ab (fun j=> fV (fs.take j) (iU (nm.getD i []) l)) (by show iU _ l=_;unfold iU;rw [if_neg hs]) fun j hj=> by
  rw [show fV (fs.take (j+1)) (iU (nm.getD i []) l)=_ from kO ab]
  exact hkid j hj
end
theorem yi {nm:List Tx} (hnm:nm.length≤16) {i:Nat} (hi:i < nm.length):xE nm (nd 14 0 (nm.getD i []) []) (iU (nm.getD i [])):=fun l hl=> by
 have hll:=hl.len
 refine ⟨?_,hl.add hi⟩
 by_cases hs:nm.getD i []∈l
 ·exact sS 0 _ [] l hs ab (fun _=> iU (nm.getD i []) l) (by show iU _ l=l;unfold iU;rw [if_pos hs]) fun j hj=> by simp at hj
 exact sZ 0 _ [] l hs ab (fun _=> iU (nm.getD i []) l) (by show iU _ l=_;unfold iU;rw [if_neg hs]) fun j hj=> by simp at hj
section
variable {nm:List Tx}
abbrev BE (nm:List Tx) (L:List Nd) (fs:List (List Tx→List Tx)):Prop:= ∀ j,j < L.length→xE nm (ln L j) (fs.getD j id)
theorem sg:BE nm [] []:=fun j hj=> by simp at hj
theorem qX {d:Nd} {f:List Tx→List Tx} {L:List Nd} {fs:List (List Tx→List Tx)} (h:xE nm d f) (h':BE nm L fs):BE nm (d::L) (f::fs):=fun j hj=> by
 cases j with
 | zero=> exact h
 | succ j=> exact h' j (by simpa using hj)
theorem dB (hnm:nm.length≤16): ∀ e:Ex,ic nm.length e→xE nm (eQ nm e) (tN nm e)
 | .int _,_=> cH hnm rfl sg 12 ab _ _
 | .bool _,_=> cH hnm rfl sg 13 ab _ _
 | .name _,_=> cH hnm rfl sg 15 ab _ _
 | .var i,h=> yi hnm h
 | .draw e,h=> cH hnm rfl (qX (dB hnm e h) sg) 16 ab _ _
 | .neg e,h=> cH hnm rfl (qX (dB hnm e h) sg) 17 ab _ _
 | .not e,h=> cH hnm rfl (qX (dB hnm e h) sg) 17 ab _ _
 | .bin _ a b,h=> cH hnm rfl (qX (dB hnm a h.1) (qX (dB hnm b h.2) sg)) 18 ab _ _
 | .and a b,h=> cH hnm rfl (qX (dB hnm a h.1) (qX (dB hnm b h.2) sg)) 18 ab _ _
 | .or a b,h=> cH hnm rfl (qX (dB hnm a h.1) (qX (dB hnm b h.2) sg)) 18 ab _ _
def GE (nm:List Tx):Bk→List (List Tx→List Tx)
 | .nil=> []
 | .cons s b=> LC nm s::GE nm b
theorem xe (nm:List Tx): ∀ b:Bk,(GE nm b).length=(ji nm b).length
 | .nil=> by simp [GE,ji]
 | .cons s b=> by simp [GE,ji,xe nm b]
theorem ue (nm:List Tx): ∀ (b:Bk) (l:List Tx),fV (GE nm b) l=Dt nm b l
 | .nil,l=> rfl
 | .cons s b,l=> by rw [Dt,← ue nm b];rfl
theorem ma (hnm:nm.length≤16) {b:Bk} (h:BE nm (ji nm b) (GE nm b)):xE nm (jj nm b) (Dt nm b):=by
 have:=cH hnm (xe nm b) h 11 ab 0 []
 rwa [show fV (GE nm b)=Dt nm b from funext (ue nm b)] at this
mutual
theorem CE (hnm:nm.length≤16): ∀ s:Sm,gK nm.length s→xE nm (Eg nm s) (LC nm s)
 | .assign i e,h=> by rw [gK] at h;exact ye hnm rfl (qX (dB hnm e h.2) sg) 0 h.1
 | .send t k a b,h=> by rw [gK] at h;exact cH hnm rfl (qX (dB hnm t h.2.1) (qX (dB hnm a h.2.2.1) (qX (dB hnm b h.2.2.2) sg))) 4 ab _ _
 | .timer _,_=> cH hnm rfl sg 5 ab _ _
 | .cancel _,_=> cH hnm rfl sg 6 ab _ _
 | .sync,_=> cH hnm rfl sg 7 ab _ _
 | .stop,_=> cH hnm rfl sg 10 ab _ _
 | .reply a b,h=> by rw [gK] at h;exact cH hnm rfl (qX (dB hnm a h.1) (qX (dB hnm b h.2) sg)) 8 ab _ _
 | .fail e,h=> by rw [gK] at h;exact cH hnm rfl (qX (dB hnm e h) sg) 9 ab _ _
 | .loop c b,h=> by rw [gK] at h;exact cH hnm rfl (qX (dB hnm c h.1) (qX (ma hnm (lS hnm b h.2)) sg)) 3 ab _ _
 | .ite c a b,h=> by rw [gK] at h;exact cH hnm rfl (qX (dB hnm c h.1) (qX (ma hnm (lS hnm a h.2.1)) (qX (ma hnm (lS hnm b h.2.2)) sg))) 2 ab _ _
theorem lS (hnm:nm.length≤16): ∀ b:Bk,lj nm.length b→BE nm (ji nm b) (GE nm b)
 | .nil,_=> sg
 | .cons s b,h=> by rw [lj] at h;exact qX (CE hnm s h.1) (lS hnm b h.2)
end
theorem BQ (hnm:nm.length≤16) (b:Bk) (h:lj nm.length b):xE nm (jj nm b) (Dt nm b):=ma hnm (lS hnm b h)
end

theorem mQ {l:List Tx} (h:l.Nodup) {i j:Nat} (hi:i < l.length) (hj:j < l.length) (e:l.getD i []=l.getD j []):i=j:=by
 rw [List.getD_eq_getElem?_getD,List.getD_eq_getElem?_getD,List.getElem?_eq_getElem hi,List.getElem?_eq_getElem hj] at e
 have h:=List.pairwise_iff_getElem.1 h
 rcases Nat.lt_trichotomy i j with hlt | rfl | hlt
 ·exact absurd (Option.some.inj (by simpa using e)) (h i j hi hj hlt)
 ·rfl
 exact absurd (Option.some.inj (by simpa using e)).symm (h j i hj hi hlt)
theorem rP {a b:List Tx} {k:Nat} (h:k < a.length):a.getD k []=(a++b).getD k []:=by
 rw [List.getD_eq_getElem?_getD,List.getD_eq_getElem?_getD,List.getElem?_append_left h]
theorem getD_right {a b:List Tx} {k:Nat}:b.getD k []=(a++b).getD (a.length+k) []:=by
 rw [List.getD_eq_getElem?_getD,List.getD_eq_getElem?_getD,List.getElem?_append_right ab,Nat.add_sub_cancel_left]
theorem mY (d v:List Tx) (on:List PV) (no:Nat) (hn:(d++v).Nodup) (hl:(d++v).length≤1000) (i:Nat) (hi:i < (d++v).length):
  Spec Tryz.prog 121 (ba [.agg [.sl d.length (fo d), .sl v.length (fo v), .sl no on], .v (bt ((d++v).getD i []))] []) (aP (.v (.int .i64 (i:Int))) []):=by
 have hl2:(d++v).length=d.length+v.length:=List.length_append
 refine Spec.ofN Tryz.func121 rfl Tryz.ntmps121 rfl ?_
 refine am (ai (aQ (2,0) _ rfl rfl) (be rfl (aj (aU fun K2 hK2=> ?_))))
 refine am (be rfl (aj (ay ?_)))
 refine bq (α:=Nat) (fun k=> k≤d.length∧k≤i) 41 [(1,_),(2,_)] [((2,0),_)] (fun k=> [(5, .v (.int .i64 (k:Int)))]) (fun k=> []) [] [] (fun k=> d.length - k) 0 ?_ (by
  refine Le.mkJ [] [] rfl ?_ ?_ trivial trivial ?_
  ·exact ⟨(iV rfl),(iP rfl),(co ag),trivial⟩
  ·exact ⟨(bF rfl rfl rfl),trivial⟩
  kernel_rfl) ?_
 ·exact ⟨Nat.zero_le _,Nat.zero_le _⟩
 intro k hk
 obtain ⟨hk,hki⟩:=hk
 refine aU fun K4 hK4=> ?_
 refine am (aX rfl (bb rfl rfl rfl (eZ rfl rfl rfl (ai (bo _ aa rfl) (ai (bl _ _ rfl rfl rfl) (aj (aR rfl (fun hc11=> ?_) (fun hc11=> ?_))))))))
 ·skip
  refine bs (hK4 _ ?_)
  clear hK4;try clear K4
  refine aq (ay (am (bb rfl rfl rfl (eZ rfl rfl rfl (aX rfl (ai (bn _ _ aa rfl rfl _ rfl ab (by (simp only [aO,bg,bj,bv,bu,bH,bw,List.length_map];omega)) (by exact Nat.mul_one _)) ?_))))))
  refine ai (bT _ aa rfl (by exact jO _ _ ab) rfl) ?_
  refine ej rfl (ai (aV _ _ Tryz.underlying9 rfl rfl rfl) (aj (aR rfl (fun hc20=> ?_) (fun hc20=> ?_))))
  ·skip
   have he:k=i:=mQ hn ab hi ((rP ab).symm.trans hc20)
   refine am (aX rfl (be rfl (aj (aG (rK rfl rfl ?_)))))
   rw [he]
  have he:k≠i:=fun e=> hc20 ((rP ab).trans (by rw [e]))
  refine cp (an (aX rfl (ai (aZ _ _ rfl rfl (bD ab)) ?_)))
  refine be rfl (aJ (⟨k+1,?_,?_,?_⟩))
  ·exact ⟨by omega,by omega⟩
  ·skip
   refine Le.mkJ [] [] rfl ?_ ?_ trivial trivial ?_
   ·exact ⟨(iV rfl),(iP rfl),(co ag),trivial⟩
   ·exact ⟨(bF rfl rfl rfl),trivial⟩
   kernel_rfl
  omega
 refine bB (id (hK2 _ ?_))
 clear hK2;try clear K2
 refine aq (am (be rfl (aj (ay ?_))))
 refine bq (α:=Nat) (fun q=> q≤v.length∧d.length+q≤i) 41 [(1,_),(2,_)] [((2,0),_)] (fun q=> [(6, .v (.int .i64 (q:Int)))]) (fun q=> []) [] [] (fun q=> v.length - q) 0 ?_ (by
  refine Le.mkJ [] [] rfl ?_ ?_ trivial trivial ?_
  ·exact ⟨(iV rfl),(iP rfl),(co ag),trivial⟩
  ·exact ⟨(bF rfl rfl rfl),trivial⟩
  kernel_rfl) ?_
 ·exact ⟨Nat.zero_le _,by omega⟩
 intro q hq
 obtain ⟨hq,hqi⟩:=hq
 refine aU fun K11 hK11=> ?_
 refine am (aX rfl (bb rfl rfl rfl (eZ rfl rfl rfl (ai (bo _ aa rfl) (ai (bl _ _ rfl rfl rfl) (aj (aR rfl (fun hc26=> ?_) (fun hc26=> ?_))))))))
 ·skip
  refine bs (hK11 _ ?_)
  clear hK11;try clear K11
  refine aq (ay (am (bb rfl rfl rfl (eZ rfl rfl rfl (aX rfl (ai (bn _ _ aa rfl rfl _ rfl ab (by (simp only [aO,bg,bj,bv,bu,bH,bw,List.length_map];omega)) (by exact Nat.mul_one _)) ?_))))))
  refine ai (bT _ aa rfl (by exact jO _ _ ab) rfl) ?_
  refine ej rfl (ai (aV _ _ Tryz.underlying9 rfl rfl rfl) (aj (aR rfl (fun hc35=> ?_) (fun hc35=> ?_))))
  ·skip
   have he:d.length+q=i:=mQ hn ab hi (getD_right.symm.trans hc35)
   refine am (bb rfl rfl rfl (eZ rfl rfl rfl (ai (bo _ aa rfl) (aX rfl (ai (aZ _ _ rfl rfl (bD ab)) ?_)))))
   refine be rfl (aj (aG (rK rfl rfl ?_)))
   omega
  have he:d.length+q≠i:=fun e=> hc35 (getD_right.trans (by rw [e]))
  refine cp (an (aX rfl (ai (aZ _ _ rfl rfl (bD ab)) ?_)))
  refine be rfl (aJ (⟨q+1,?_,?_,?_⟩))
  ·exact ⟨by omega,by omega⟩
  ·skip
   refine Le.mkJ [] [] rfl ?_ ?_ trivial trivial ?_
   ·exact ⟨(iV rfl),(iP rfl),(co ag),trivial⟩
   ·exact ⟨(bF rfl rfl rfl),trivial⟩
   kernel_rfl
  omega
 exact absurd hqi ab
theorem BO (ons:List (Nat×Bk)) (nm:List Tx) (k:Nat) (h:k < ons.length):oO (ons.map fun p=> (p.1,jj nm p.2)) k=((ons[k]).1,jj nm (ons[k]).2):=by
 rw [oJ _ _ (by simpa using h),List.getElem_map]
theorem uh (l:List Hd) (k:Nat) (h:k < l.length):PV.ups (((mb l).drop (k*5+1)).take 4)=[.v (.int .i64 ((oO l k).2.k:Int)), .v (.int .i64 ((oO l k).2.n:Int)), .v (bt (oO l k).2.s), .sl (oO l k).2.kn (oO l k).2.kids]:=by
 have e:=lU wO 5 (fun _=> rfl) l k h
 have:((mb l).drop (k*5+1)).take 4=(((l.flatMap wO).drop (k*5)).take 5).drop 1:=by
  rw [List.drop_take,List.drop_drop];rfl
 rw [this,e,oJ l k h];rfl
theorem qB (d v:List Tx) (ons:List (Nat×Bk)) (hn:(d++v).Nodup) (hl:(d++v).length≤16) (ho: ∀ p∈ons,lj (d++v).length p.2) (hw: ∀ p∈ons,qF p.2=true) (hc:ons.length≤1000):
  Spec Tryz.prog 97 (ba [JJ d v (ons.map fun p=> (p.1,jj (d++v) p.2))] []) (aP (.v (.int .i64 0)) []):=by
 obtain ⟨H,hH⟩: ∃ H,H=ons.map fun p=> (p.1,jj (d++v) p.2):=⟨_,rfl⟩
 have hHl:H.length=ons.length:=by rw [hH,List.length_map]
 rw [← hH]
 have hHk: ∀ k (h:k < ons.length),oO H k=((ons[k]).1,jj (d++v) (ons[k]).2):=fun k h=> by rw [hH];exact BO ons _ k h
 clear hH
 refine Spec.ofN Tryz.func97 rfl Tryz.ntmps97 rfl ?_
 refine am (ai (aQ (1,0) _ rfl rfl) (be rfl (aj (aU fun K2 hK2=> ?_))))
 refine am (be rfl (aj (ay ?_)))
 refine bq (α:=Nat) (fun k=> k≤H.length) 43 [(1,_)] [((1,0),_)] (fun k=> [(3, .v (.int .i64 (k:Int)))]) (fun k=> []) [] [] (fun k=> H.length - k) 0 ?_ (by
  refine Le.mkJ [] [] rfl ?_ ?_ trivial trivial ?_
  ·exact ⟨(iP rfl),(co ag),trivial⟩
  ·exact ⟨(bF rfl rfl rfl),trivial⟩
  kernel_rfl) ?_
 ·omega
 intro k hk
 refine aU fun K4 hK4=> ?_
 refine am (aX rfl (bb rfl rfl rfl (eZ rfl rfl rfl (ai (bo _ aa rfl) (ai (bl _ _ rfl rfl rfl) (aj (aR rfl (fun hc11=> ?_) (fun hc11=> ?_))))))))
 ·skip
  have hk2:k < ons.length:=by omega
  obtain ⟨b,hb⟩: ∃ b,b=(ons[k]).2:=⟨_,rfl⟩
  have hkH:=hHk k hk2
  rw [← hb] at hkH
  have hwb:=ED (d++v) b (hb ▸ hw _ (List.getElem_mem hk2))
  obtain ⟨hnb,hng⟩:=BQ hl b (hb ▸ ho _ (List.getElem_mem hk2)) [] GN.nil
  have hbody:=uh H k ab
  rw [hkH] at hbody
  generalize Dt (d++v) b []=M at hnb hng
  have hMl:=hng.len
  refine bs (hK4 _ ?_)
  clear hK4;try clear K4
  refine aU fun K6 hK6=> ?_
  refine ay (am (bb rfl rfl rfl (eZ rfl rfl rfl (aX rfl (ai (bn _ _ aa rfl rfl _ rfl ab (by (simp only [aO,bg,bj,bv,bu,bH,bw,List.length_map];omega)) ag) ?_)))))
  refine ai (di _ aa rfl rfl) (ai (cg _ aa rfl (by exact hbody) rfl) ?_)
  refine ai (aI aa al (hwb) rfl rfl) ?_
  refine cu rfl (aj (aq (am (cE rfl (ai (cj (r:=false) _ rfl rfl) (aj (aW rfl rfl (aT (aq ?_)))))))))
  refine aM (σ':=aE 43 [(1,_),(3,_)] [((1,0),_)] [] []) kp ?_
  refine an (bb rfl rfl rfl (eZ rfl rfl rfl (aX rfl (ai (bn _ _ aa rfl rfl _ rfl ab (by (simp only [aO,bg,bj,bv,bu,bH,bw,List.length_map];omega)) ag) ?_))))
  refine ai (di _ aa rfl rfl) (ai (cg _ aa rfl (by exact hbody) rfl) ?_)
  refine ai (aI aa al (hnb) rfl rfl) ?_
  refine kH rfl (aj (am (be rfl (aj (ay ?_)))))
  refine bq (α:=Nat) (fun q=> q≤M.length) 43 [(1,_),(3,_),(5,_)] [((1,0),_)] (fun q=> [(6, .v (.int .i64 (q:Int)))]) (fun q=> []) [] [] (fun q=> M.length - q) 0 ?_ (by
   refine Le.mkJ [] [] rfl ?_ ?_ trivial trivial ?_
   ·exact ⟨(iP rfl),(iV rfl),(iS rfl),(co ag),trivial⟩
   ·exact ⟨(bF rfl rfl rfl),trivial⟩
   kernel_rfl) ?_
  ·omega
  intro q hq
  refine aU fun K12 hK12=> ?_
  refine am (aX rfl (eY rfl (ai (bo _ aa rfl) (ai (bl _ _ rfl rfl rfl) (aj (aR rfl (fun hc33=> ?_) (fun hc33=> ?_)))))))
  ·skip
   obtain ⟨i,hi,hiq⟩: ∃ i,i < (d++v).length∧M.getD q []=(d++v).getD i []:=by
    have hm:=hng.2 _ (kk (show q < M.length by omega))
    obtain ⟨i,hi,he⟩:=List.getElem_of_mem hm
    exact ⟨i,hi,by rw [List.getD_eq_getElem?_getD (l:=d++v),List.getElem?_eq_getElem hi,← he];rfl⟩
   have hix:=mY d v (mb H) H.length hn ab i hi
   rw [← hiq] at hix
   refine bs (hK12 _ ?_)
   clear hK12;try clear K12
   refine aq (ay (aq ?_))
   refine aM (σ':=aE 43 [(1,_),(3,_),(5,_),(6,_)] [((1,0),_)] [] []) kp ?_
   refine bO 7 [36,37,38,39,40,41,42] [] ae ae rfl (aL rfl) (rfl:_=[_,_,_,_,_,_,_]) (rfl:_=[]) ?_
   refine ap (_,[]) (fun τ=> az _ aa rfl rfl rfl rfl) ?_
   refine fP rfl ?_
   refine ap (_,[]) (fun τ=> aH _ mL) ?_
   refine fQ rfl ?_
   refine ap (_,[]) (fun τ=> aH _ eg) ?_
   refine fU rfl ?_
   refine ap (_,[]) (fun τ=> bn _ _ aa rfl rfl _ rfl ab (by (simp only [aO,bg,bj,bv,bu,bH,bw,List.length_map];omega)) (by exact Nat.mul_one _)) ?_
   refine fY rfl ?_
   refine ap (_,[]) (fun τ=> bT _ aa rfl (by exact jO _ _ ab) rfl) ?_
   refine gz rfl ?_
   refine ap (_,[]) (fun τ=> (aI aa al (hix) rfl rfl)) ?_
   refine gZ rfl ?_
   refine ap (_,[]) (fun τ=> bl (r:=false) _ _ rfl rfl (decide_eq_false ab)) ?_
   refine jg rfl (bm ⟨rfl,?_⟩)
   refine aj (aW rfl rfl (cp (an (aX rfl (ai (aZ _ _ rfl rfl (bD ab)) ?_)))))
   refine be rfl (aJ (⟨q+1,?_,?_,?_⟩))
   ·omega
   ·skip
    refine Le.mkJ [] [] rfl ?_ ?_ trivial trivial ?_
    ·exact ⟨(iP rfl),(iV rfl),(iS rfl),(co ag),trivial⟩
    ·exact ⟨(bF rfl rfl rfl),trivial⟩
    kernel_rfl
   omega
  refine bB (id (hK6 _ ?_))
  clear hK6;try clear K6
  refine an (aX rfl (ai (aZ _ _ rfl rfl (bD ab)) ?_))
  refine be rfl (aJ (⟨k+1,?_,?_,?_⟩))
  ·omega
  ·skip
   refine Le.mkJ [] [] rfl ?_ ?_ trivial trivial ?_
   ·exact ⟨(iP rfl),(co ag),trivial⟩
   ·exact ⟨(bF rfl rfl rfl),trivial⟩
   kernel_rfl
  omega
 refine bB (id (hK2 _ ?_))
 clear hK2;try clear K2
 exact am (be rfl (aj (aG (fv rfl rfl))))
end Go.Proofs.YtmjnackchaahbaaGreat
