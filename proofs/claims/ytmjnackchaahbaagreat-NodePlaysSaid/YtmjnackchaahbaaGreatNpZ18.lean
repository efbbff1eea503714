/- part 18 -/
import Derived.Test.YtmjnackchaahbaaGreatNpZ17
set_option linter.unusedSimpArgs false
set_option linter.unusedVariables false
set_option maxHeartbeats 2000000
namespace Go.Proofs.YtmjnackchaahbaaGreat
open Go.RowKit

set_option maxHeartbeats 4000000 in
theorem Ip (s:Ns) (hup:s.up=false) (hep:0≤s.epoch) (P Q X:Pg) (ver:Int) (hX1:s.epoch % 2=1→X=Q∧ver=1) (hX2: ¬ s.epoch % 2=1→X=P∧ver=0) (drift:Int) (a:Na) (h1:a.draws.length≤1000) (h2:a.keeps.length≤1000) (c:Cz) (R:Ms) (q:Ns×Nr) (n:Nat) (L:List PV)
  (hS:Spec Tryz.prog 77 (aI [gm s,eU X, .v (.int .i64 ver), .v (.int .i64 1), .v (.int .i64 3), .v (.int .i64 drift), .sl (eJ 1 0 (s.counts.getD 0 0) a.tick a.draws a.keeps).length (ng (eJ 1 0 (s.counts.getD 0 0) a.tick a.draws a.keeps))] []) (aC (uA q.1 q.2 c R n L) [])):
  Spec Tryz.prog 44 (aI [gm s,eU P,eU Q, .v (.int .i64 drift),ur a] []) (aC (uA q.1 q.2 c R n L) []):=by
 have hans:=iW 1 0 (s.counts.getD 0 0) a h1 h2
 refine Spec.ofN Tryz.func44 rfl Tryz.ntmps44 rfl ?_
 refine go 11 ?_
 refine aj (ew (r:=true) _ rfl (by rw [hup];rfl)) ?_
 refine go 10 ?_
 refine jI (α:=Unit) (fun u=> True) 71 [(3,_),(5,_),(9,_),(10,_),(11,_)] [((5,0),_),((9,0),_),((10,0),_)] (fun u=> [(12, .v (.int .i64 ver))]) (fun u=> [((11,0), .box 26 [.sl X.c.length (inl X.c), .v (.int .i64 (X.e 0)), .v (.int .i64 (X.e 1)), .v (.int .i64 (X.e 2)), .v (.int .i64 (X.e 3)), .v (.int .i64 (X.e 4)), .v (.int .i64 (X.e 5)), .v (.int .i64 (X.e 6)), .v (.int .i64 (X.e 7)), .v (.int .i64 (X.e 8)), .v (.int .i64 (X.e 9)), .v (.int .i64 (X.e 10)), .v (.int .i64 (X.e 11)), .v (.int .i64 (X.e 12)), .v (.int .i64 (X.e 13)), .v (.int .i64 (X.e 14)), .v (.int .i64 (X.e 15)), .v (.int .i64 (X.e 16)), .v (.int .i64 (X.e 17)), .v (.int .i64 (X.e 18)), .v (.int .i64 (X.e 19)), .v (.int .i64 (X.e 20)), .v (.int .i64 (X.e 21)), .v (.int .i64 (X.e 22)), .v (.int .i64 (X.e 23)), .v (.int .i64 (X.e 24)), .v (.int .i64 (X.e 25)), .v (.int .i64 (X.e 26)), .v (.int .i64 (X.e 27)), .v (.int .i64 (X.e 28)), .v (.int .i64 (X.e 29)), .v (.int .i64 (X.e 30)), .v (.int .i64 (X.e 31)), .v (.int .i64 (X.e 32)), .v (.int .i64 (X.e 33)), .v (.int .i64 (X.e 34)), .v (.int .i64 (X.e 35)), .v (.int .i64 (X.e 36)), .v (.int .i64 (X.e 37)), .v (.int .i64 (X.e 38)), .v (.int .i64 (X.e 39)), .v (.int .i64 (X.d:Int)), .v (.int .i64 (X.v:Int))])]) [] []
  (by exact ⟨(iV rfl),(iP rfl),(iP rfl),(iP rfl),(iP rfl),trivial⟩)
  (by exact ⟨(bU rfl rfl rfl),(bU rfl rfl rfl),(bU rfl rfl rfl),trivial⟩) ?_ ?_
 ·refine go 3 ?_
  refine aj (dh (r:=s.epoch % 2) _ _ rfl rfl ab (Int.tmod_eq_emod_of_nonneg hep)) ?_
  refine aj (ba (r:=decide (s.epoch % 2=1)) _ _ rfl rfl (by rw [Bool.eq_iff_iff];simp)) ?_
  refine am (ay rfl (fun hc21=> ?_) (fun hc21=> ?_))
  ·obtain ⟨e1,e2⟩:=hX1 hc21
   refine aE ?_
   refine az (σ':=an 71 [(3,_),(5,_),(7,_),(9,_),(10,_),(11,_)] [((5,0),_),((7,0),_),((9,0),_),((10,0),_),((11,0),_)] [] []) kp ?_
   refine go 6 ?_
   refine ax (⟨(),?_,?_⟩)
   ·trivial
   refine Le.mkJ [] [] rfl ?_ ?_ trivial trivial ?_
   ·exact ⟨(iV rfl),(iP rfl),(iP rfl),(iP rfl),(iP rfl),(bj ab),trivial⟩
   ·exact ⟨(bU rfl rfl rfl),(bU rfl rfl rfl),(bU rfl rfl rfl),(cT rfl rfl rfl rfl (ai (de (by ((rw [e1]))) (by ((rw [e1])))) (ai (bj (by ((rw [e1])))) (ai (bj (by ((rw [e1])))) (ai (bj (by ((rw [e1])))) (ai (bj (by ((rw [e1])))) (ai (bj (by ((rw [e1])))) (ai (bj (by ((rw [e1])))) (ai (bj (by ((rw [e1])))) (ai (bj (by ((rw [e1])))) (ai (bj (by ((rw [e1])))) (ai (bj (by ((rw [e1])))) (ai (bj (by ((rw [e1])))) (ai (bj (by ((rw [e1])))) (ai (bj (by ((rw [e1])))) (ai (bj (by ((rw [e1])))) (ai (bj (by ((rw [e1])))) (ai (bj (by ((rw [e1])))) (ai (bj (by ((rw [e1])))) (ai (bj (by ((rw [e1])))) (ai (bj (by ((rw [e1])))) (ai (bj (by ((rw [e1])))) (ai (bj (by ((rw [e1])))) (ai (bj (by ((rw [e1])))) (ai (bj (by ((rw [e1])))) (ai (bj (by ((rw [e1])))) (ai (bj (by ((rw [e1])))) (ai (bj (by ((rw [e1])))) (ai (bj (by ((rw [e1])))) (ai (bj (by ((rw [e1])))) (ai (bj (by ((rw [e1])))) (ai (bj (by ((rw [e1])))) (ai (bj (by ((rw [e1])))) (ai (bj (by ((rw [e1])))) (ai (bj (by ((rw [e1])))) (ai (bj (by ((rw [e1])))) (ai (bj (by ((rw [e1])))) (ai (bj (by ((rw [e1])))) (ai (bj (by ((rw [e1])))) (ai (bj (by ((rw [e1])))) (ai (bj (by ((rw [e1])))) (ai (bj (by ((rw [e1])))) (ai (bj (by ((rw [e1])))) (ai (bj (by ((rw [e1])))) aK)))))))))))))))))))))))))))))))))))))))))))),trivial⟩
   kernel_rfl
  obtain ⟨e1,e2⟩:=hX2 hc21
  refine aR (⟨(),?_,?_⟩)
  ·trivial
  refine Le.mkJ [] [] rfl ?_ ?_ trivial trivial ?_
  ·exact ⟨(iV rfl),(iP rfl),(iP rfl),(iP rfl),(iP rfl),(bj ab),trivial⟩
  ·exact ⟨(bU rfl rfl rfl),(bU rfl rfl rfl),(bU rfl rfl rfl),(cT rfl rfl rfl rfl (ai (de (by ((rw [e1]))) (by ((rw [e1])))) (ai (bj (by ((rw [e1])))) (ai (bj (by ((rw [e1])))) (ai (bj (by ((rw [e1])))) (ai (bj (by ((rw [e1])))) (ai (bj (by ((rw [e1])))) (ai (bj (by ((rw [e1])))) (ai (bj (by ((rw [e1])))) (ai (bj (by ((rw [e1])))) (ai (bj (by ((rw [e1])))) (ai (bj (by ((rw [e1])))) (ai (bj (by ((rw [e1])))) (ai (bj (by ((rw [e1])))) (ai (bj (by ((rw [e1])))) (ai (bj (by ((rw [e1])))) (ai (bj (by ((rw [e1])))) (ai (bj (by ((rw [e1])))) (ai (bj (by ((rw [e1])))) (ai (bj (by ((rw [e1])))) (ai (bj (by ((rw [e1])))) (ai (bj (by ((rw [e1])))) (ai (bj (by ((rw [e1])))) (ai (bj (by ((rw [e1])))) (ai (bj (by ((rw [e1])))) (ai (bj (by ((rw [e1])))) (ai (bj (by ((rw [e1])))) (ai (bj (by ((rw [e1])))) (ai (bj (by ((rw [e1])))) (ai (bj (by ((rw [e1])))) (ai (bj (by ((rw [e1])))) (ai (bj (by ((rw [e1])))) (ai (bj (by ((rw [e1])))) (ai (bj (by ((rw [e1])))) (ai (bj (by ((rw [e1])))) (ai (bj (by ((rw [e1])))) (ai (bj (by ((rw [e1])))) (ai (bj (by ((rw [e1])))) (ai (bj (by ((rw [e1])))) (ai (bj (by ((rw [e1])))) (ai (bj (by ((rw [e1])))) (ai (bj (by ((rw [e1])))) (ai (bj (by ((rw [e1])))) (ai (bj (by ((rw [e1])))) aK)))))))))))))))))))))))))))))))))))))))))))),trivial⟩
  kernel_rfl
 intro u hu
 refine aE (dA 11 [] ?_)
 refine go 12 ?_
 refine aB (_,[]) (fun τ=> bJ _ _ aa rfl rfl rfl 0 rfl ab rfl) ?_
 refine go 5 ?_
 refine aB (_,[]) (fun τ=> (ap aa al (hans) rfl rfl)) ?_
 refine go 1 ?_
 refine aB (_,[]) (fun τ=> (ap aa al (hS) rfl rfl)) ?_
 refine go 4 ?_
 exact au (zX [])
set_option maxHeartbeats 4000000 in
theorem HX (s:Ns) (hup:s.up=true) (P Q:Pg) (drift:Int) (a:Na) (hcr:a.crash=true) (h1:a.draws.length≤1000) (h2:a.keeps.length≤1000) (c:Cz) (R:Ms) (q:Ns×Nr) (n:Nat) (L:List PV)
  (hS:Spec Tryz.prog 79 (aI [gm s, .v (.int .i64 1), .sl (eJ 1 40 (s.counts.getD 40 0) a.tick a.draws a.keeps).length (ng (eJ 1 40 (s.counts.getD 40 0) a.tick a.draws a.keeps))] []) (aC (uA q.1 q.2 c R n L) [])):
  Spec Tryz.prog 44 (aI [gm s,eU P,eU Q, .v (.int .i64 drift),ur a] []) (aC (uA q.1 q.2 c R n L) []):=by
 have hans:=iW 1 40 (s.counts.getD 40 0) a h1 h2
 refine Spec.ofN Tryz.func44 rfl Tryz.ntmps44 rfl ?_
 refine go 11 ?_
 refine aj (ew (r:=false) _ rfl (by rw [hup];rfl)) ?_
 refine go 7 ?_
 refine JS rfl rfl (by rw [hcr];rfl) ?_
 refine am (fR rfl rfl (aE ?_))
 refine az (σ':=an 71 [(5,_),(9,_),(10,_)] [((5,0),_),((9,0),_),((10,0),_)] [] []) kp ?_
 refine dA 8 [] ?_
 refine go 6 ?_
 refine aB (_,[]) (fun τ=> bJ _ _ aa rfl rfl rfl 40 rfl ab rfl) ?_
 refine go 5 ?_
 refine aB (_,[]) (fun τ=> (ap aa al (hans) rfl rfl)) ?_
 refine go 1 ?_
 refine aB (_,[]) (fun τ=> (ap aa al (hS) rfl rfl)) ?_
 refine go 4 ?_
 exact au (zX [])
set_option maxHeartbeats 4000000 in
theorem Jr (s:Ns) (hup:s.up=true) (P Q X:Pg) (hX1:s.ver=1→X=Q) (hX2: ¬ s.ver=1→X=P) (drift:Int) (a:Na) (hcr:a.crash=false) (hh:a.h < 41) (h1:a.draws.length≤1000) (h2:a.keeps.length≤1000) (c:Cz) (R:Ms) (q:Ns×Nr) (n:Nat) (L:List PV)
  (hS:Spec Tryz.prog 80 (aI [gm { s with wait:=a.wait },eU X, .v (.int .i64 (a.h:Int)), .v (.int .i64 1), .v (.int .i64 3), .v (.int .i64 drift), .agg [.v (.int .i64 (a.names.getD 0 0)), .v (.int .i64 (a.names.getD 1 0)), .v (.int .i64 (a.names.getD 2 0)), .v (.int .i64 (a.names.getD 3 0)), .v (.int .i64 (a.names.getD 4 0)), .v (.int .i64 (a.names.getD 5 0)), .v (.int .i64 (a.names.getD 6 0)), .v (.int .i64 (a.names.getD 7 0)), .v (.int .i64 (a.names.getD 8 0))], .sl (eJ 1 (a.h:Int) (s.counts.getD a.h 0) a.tick a.draws a.keeps).length (ng (eJ 1 (a.h:Int) (s.counts.getD a.h 0) a.tick a.draws a.keeps))] []) (aC (uA q.1 q.2 c R n L) [])):
  Spec Tryz.prog 44 (aI [gm s,eU P,eU Q, .v (.int .i64 drift),ur a] []) (aC (uA q.1 q.2 c R n L) []):=by
 have hans:=iW 1 (a.h:Int) (s.counts.getD a.h 0) a h1 h2
 refine Spec.ofN Tryz.func44 rfl Tryz.ntmps44 rfl ?_
 refine go 11 ?_
 refine aj (ew (r:=false) _ rfl (by rw [hup];rfl)) ?_
 refine go 7 ?_
 refine yQ rfl rfl (by rw [if_neg (by rw [hcr];exact Bool.false_ne_true)];rfl) ?_
 refine go 8 ?_
 refine jI (α:=Unit) (fun u=> True) 71 [(3,_),(5,_),(9,_),(10,_),(13,_)] [((5,0),_),((9,0),_),((10,0),_)] (fun u=> []) (fun u=> [((13,0), .box 26 [.sl X.c.length (inl X.c), .v (.int .i64 (X.e 0)), .v (.int .i64 (X.e 1)), .v (.int .i64 (X.e 2)), .v (.int .i64 (X.e 3)), .v (.int .i64 (X.e 4)), .v (.int .i64 (X.e 5)), .v (.int .i64 (X.e 6)), .v (.int .i64 (X.e 7)), .v (.int .i64 (X.e 8)), .v (.int .i64 (X.e 9)), .v (.int .i64 (X.e 10)), .v (.int .i64 (X.e 11)), .v (.int .i64 (X.e 12)), .v (.int .i64 (X.e 13)), .v (.int .i64 (X.e 14)), .v (.int .i64 (X.e 15)), .v (.int .i64 (X.e 16)), .v (.int .i64 (X.e 17)), .v (.int .i64 (X.e 18)), .v (.int .i64 (X.e 19)), .v (.int .i64 (X.e 20)), .v (.int .i64 (X.e 21)), .v (.int .i64 (X.e 22)), .v (.int .i64 (X.e 23)), .v (.int .i64 (X.e 24)), .v (.int .i64 (X.e 25)), .v (.int .i64 (X.e 26)), .v (.int .i64 (X.e 27)), .v (.int .i64 (X.e 28)), .v (.int .i64 (X.e 29)), .v (.int .i64 (X.e 30)), .v (.int .i64 (X.e 31)), .v (.int .i64 (X.e 32)), .v (.int .i64 (X.e 33)), .v (.int .i64 (X.e 34)), .v (.int .i64 (X.e 35)), .v (.int .i64 (X.e 36)), .v (.int .i64 (X.e 37)), .v (.int .i64 (X.e 38)), .v (.int .i64 (X.e 39)), .v (.int .i64 (X.d:Int)), .v (.int .i64 (X.v:Int))])]) [] []
  (by exact ⟨(iV rfl),(iP rfl),(iP rfl),(iP rfl),(iP rfl),trivial⟩)
  (by exact ⟨(bU rfl rfl rfl),(bU rfl rfl rfl),(bU rfl rfl rfl),trivial⟩) ?_ ?_
 ·refine go 3 ?_
  refine aj (ba (r:=decide (s.ver=1)) _ _ rfl rfl (by rw [Bool.eq_iff_iff];simp)) ?_
  refine am (ay rfl (fun hc48=> ?_) (fun hc48=> ?_))
  ·have e1:=hX1 hc48
   refine az (σ':=an 71 [(3,_),(5,_),(7,_),(9,_),(10,_),(13,_)] [((5,0),_),((7,0),_),((9,0),_),((10,0),_),((13,0),_)] [] []) kp ?_
   refine go 3 ?_
   refine ax (⟨(),?_,?_⟩)
   ·trivial
   refine Le.mkJ [] [] rfl ?_ ?_ trivial trivial ?_
   ·exact ⟨(iV rfl),(iP rfl),(iP rfl),(iP rfl),(iP rfl),trivial⟩
   ·exact ⟨(bU rfl rfl rfl),(bU rfl rfl rfl),(bU rfl rfl rfl),(cT rfl rfl rfl rfl (ai (de (by (rw [e1])) (by (rw [e1]))) (ai (bj (by (rw [e1]))) (ai (bj (by (rw [e1]))) (ai (bj (by (rw [e1]))) (ai (bj (by (rw [e1]))) (ai (bj (by (rw [e1]))) (ai (bj (by (rw [e1]))) (ai (bj (by (rw [e1]))) (ai (bj (by (rw [e1]))) (ai (bj (by (rw [e1]))) (ai (bj (by (rw [e1]))) (ai (bj (by (rw [e1]))) (ai (bj (by (rw [e1]))) (ai (bj (by (rw [e1]))) (ai (bj (by (rw [e1]))) (ai (bj (by (rw [e1]))) (ai (bj (by (rw [e1]))) (ai (bj (by (rw [e1]))) (ai (bj (by (rw [e1]))) (ai (bj (by (rw [e1]))) (ai (bj (by (rw [e1]))) (ai (bj (by (rw [e1]))) (ai (bj (by (rw [e1]))) (ai (bj (by (rw [e1]))) (ai (bj (by (rw [e1]))) (ai (bj (by (rw [e1]))) (ai (bj (by (rw [e1]))) (ai (bj (by (rw [e1]))) (ai (bj (by (rw [e1]))) (ai (bj (by (rw [e1]))) (ai (bj (by (rw [e1]))) (ai (bj (by (rw [e1]))) (ai (bj (by (rw [e1]))) (ai (bj (by (rw [e1]))) (ai (bj (by (rw [e1]))) (ai (bj (by (rw [e1]))) (ai (bj (by (rw [e1]))) (ai (bj (by (rw [e1]))) (ai (bj (by (rw [e1]))) (ai (bj (by (rw [e1]))) (ai (bj (by (rw [e1]))) (ai (bj (by (rw [e1]))) (ai (bj (by (rw [e1]))) aK)))))))))))))))))))))))))))))))))))))))))))),trivial⟩
   kernel_rfl
  have e1:=hX2 hc48
  refine aR (⟨(),?_,?_⟩)
  ·trivial
  refine Le.mkJ [] [] rfl ?_ ?_ trivial trivial ?_
  ·exact ⟨(iV rfl),(iP rfl),(iP rfl),(iP rfl),(iP rfl),trivial⟩
  ·exact ⟨(bU rfl rfl rfl),(bU rfl rfl rfl),(bU rfl rfl rfl),(cT rfl rfl rfl rfl (ai (de (by (rw [e1])) (by (rw [e1]))) (ai (bj (by (rw [e1]))) (ai (bj (by (rw [e1]))) (ai (bj (by (rw [e1]))) (ai (bj (by (rw [e1]))) (ai (bj (by (rw [e1]))) (ai (bj (by (rw [e1]))) (ai (bj (by (rw [e1]))) (ai (bj (by (rw [e1]))) (ai (bj (by (rw [e1]))) (ai (bj (by (rw [e1]))) (ai (bj (by (rw [e1]))) (ai (bj (by (rw [e1]))) (ai (bj (by (rw [e1]))) (ai (bj (by (rw [e1]))) (ai (bj (by (rw [e1]))) (ai (bj (by (rw [e1]))) (ai (bj (by (rw [e1]))) (ai (bj (by (rw [e1]))) (ai (bj (by (rw [e1]))) (ai (bj (by (rw [e1]))) (ai (bj (by (rw [e1]))) (ai (bj (by (rw [e1]))) (ai (bj (by (rw [e1]))) (ai (bj (by (rw [e1]))) (ai (bj (by (rw [e1]))) (ai (bj (by (rw [e1]))) (ai (bj (by (rw [e1]))) (ai (bj (by (rw [e1]))) (ai (bj (by (rw [e1]))) (ai (bj (by (rw [e1]))) (ai (bj (by (rw [e1]))) (ai (bj (by (rw [e1]))) (ai (bj (by (rw [e1]))) (ai (bj (by (rw [e1]))) (ai (bj (by (rw [e1]))) (ai (bj (by (rw [e1]))) (ai (bj (by (rw [e1]))) (ai (bj (by (rw [e1]))) (ai (bj (by (rw [e1]))) (ai (bj (by (rw [e1]))) (ai (bj (by (rw [e1]))) (ai (bj (by (rw [e1]))) aK)))))))))))))))))))))))))))))))))))))))))))),trivial⟩
  kernel_rfl
 intro u hu
 refine go 6 ?_
 refine aE ?_
 refine az (σ':=an 71 [(3,_),(5,_),(9,_),(10,_),(13,_)] [((5,0),_),((9,0),_),((10,0),_),((13,0),_)] [] []) kp ?_
 refine dA 18 [] ?_
 refine go 26 ?_
 refine aB (_,[]) (fun τ=> bJ _ _ aa rfl rfl rfl a.h rfl ab (show 8+a.h*1=8+a.h from by omega)) ?_
 refine go 1 ?_
 refine aB (_,[]) (fun τ=> bB _ aa rfl rfl (jA _ _ _ _ _ _ _ _ _ _ a.h ab)) ?_
 refine go 3 ?_
 refine aB (_,[]) (fun τ=> (ap aa al (hans) rfl rfl)) ?_
 refine go 1 ?_
 refine aB (_,[]) (fun τ=> (ap aa al (hS) rfl rfl)) ?_
 refine go 4 ?_
 exact au (zX [])
end Go.Proofs.YtmjnackchaahbaaGreat

set_option maxHeartbeats 2000000
namespace Go.Proofs.YtmjnackchaahbaaGreat
open Go.RowKit

abbrev EV (a:Na) (s:Ns):Cz:=⟨1,(hN a s:Int),s.counts.getD (hN a s) 0⟩
abbrev JZ (a:Ac):Prop:=1≤a.k∧a.k≤7
theorem FD {K:Cx} {x:eD} {s:Ms} (h: ∀ a∈s.acts,JZ a): ∀ a∈(bS K x s).acts,JZ a:=by
 have k (j b c d e:Int) (hj:1≤j∧j≤7): ∀ a∈s.acts++[(⟨j,b,c,d,e⟩:Ac)],JZ a:=fun a ha=> by
  rcases List.mem_append.1 ha with ha | ha
  ·exact h a ha
  rw [List.mem_singleton.1 ha];exact hj
 unfold bS
 cases x.op <;> first | exact h | exact k _ _ _ _ _ ⟨by decide,by decide⟩ | (simp only;split <;> first | exact h | exact k _ _ _ _ _ ⟨by decide,by decide⟩)
theorem Ct (p:Pg) (h:Nat) (names vars ans:List Int): ∀ a∈(fG p h names vars ans).acts,JZ a:=by
 unfold fG
 split
 ·exact fun a ha=> by simp at ha
 exact iB (I:=fun s=> ∀ a∈s.acts,JZ a) (fun s h _=> FD h) 500 _ fun a ha=> by simp [cR] at ha
section
variable {P Q:Pg} {tp tq:Int} {i:Nat} {s:Ns} {drift:Int} {a:Na}
theorem HJ (X:Pg) (tm:Int) (s:Ns) (hs:HdOk X tm s) (h:Nat) (hh:h < 40) (drift tick:Int) (names ans:List Int) (lK:names.length=9) (hn: ∀ i,Rg (names.getD i 0)) (h3:Rg (aQ s.clock drift tick)) (hdr:0≤drift∧drift≤1000) (t:Tl) (ht1:t.c1=1) (ht2:t.c2=(h:Int)) (ht3:t.c3=s.counts.getD h 0)
  (hlk:0 < drift→pB t 2 0 (drift+1) (tick % (drift+1))) (hld: ∀ (i:Nat) (k:Int),i≤100000→2≤k→k≤4→pB t 1 (i:Int) k (ee ans i k))
  (hal:ans.length≤1000) (hraw:Spec Tryz.prog 111 (aI [.sl t.na t.A, .agg [.v (.int .i64 1), .v (.int .i64 (h:Int)), .v (.int .i64 (s.counts.getD h 0))]] []) (aC (.sl ans.length (be ans)) [])) (R:Ms) (hR:R=fA s X h 1 3 drift tick names ans):
  Spec Tryz.prog 80 (aI [gm s,eU X, .v (.int .i64 (h:Int)), .v (.int .i64 1), .v (.int .i64 3), .v (.int .i64 drift), .agg [.v (.int .i64 (names.getD 0 0)), .v (.int .i64 (names.getD 1 0)), .v (.int .i64 (names.getD 2 0)), .v (.int .i64 (names.getD 3 0)), .v (.int .i64 (names.getD 4 0)), .v (.int .i64 (names.getD 5 0)), .v (.int .i64 (names.getD 6 0)), .v (.int .i64 (names.getD 7 0)), .v (.int .i64 (names.getD 8 0))], .sl t.na t.A] [])
   (aC (uA (cw s X h 1 3 drift tick names ans).1 (cw s X h 1 3 drift tick names ans).2 ⟨1,(h:Int),s.counts.getD h 0⟩ R (eE drift tick R.asked ans).length (rG t (eE drift tick R.asked ans))) []):=by
 obtain ⟨hsm,hin⟩:=hs.sm
 have hpn:=hs.pg.nv
 obtain ⟨v1,v2⟩:=hs.ns.dk.view
 have hvl:=hs.ns.vl
 have hiv:(s.dk.view++s.vol).length=X.d+X.v:=by rw [List.length_append,v1,hvl]
 have hir: ∀ v∈s.dk.view++s.vol,Rg v:=fun v hv=> (List.mem_append.1 hv).elim (v2 v) (hs.ns.vr v)
 have sj:=oX hn (cB (n:=1) ab) (cB (n:=3) ab) h3
 obtain ⟨a1,a2,a3⟩:=nk X h (cG names 1 3 (aQ s.clock drift tick)) (s.dk.view++s.vol) ans
 obtain ⟨iv,_,_⟩:=qx hs.pg (h:=h) (names:=cG names 1 3 (aQ s.clock drift tick)) (vars:=s.dk.view++s.vol) (ans:=ans) sj hiv hir
 have hRv:R.vars.length=X.d+X.v:=by rw [hR];show (jN _ _ _ _ _).vars.length=_;rw [a2];exact iv.vl
 have hRa:R.acts.length≤500:=by rw [hR];exact mZ _ _ _ _ _
 have hRk:R.asked.length≤500:=by rw [hR];show (jN _ _ _ _ _).asked.length≤_;rw [a3];exact rm _ _ _ _ _
 have hak: ∀ i,i < R.asked.length→2≤R.asked.getD i 0∧R.asked.getD i 0≤4:=fun i hi=> by
  have hm:R.asked.getD i 0∈R.asked:=by rw [List.getD_eq_getElem?_getD,List.getElem?_eq_getElem hi];exact List.getElem_mem _
  have hm2:R.asked.getD i 0∈(fG X h (cG names 1 3 (aQ s.clock drift tick)) (s.dk.view++s.vol) ans).asked:=by rw [← a3];rw [hR] at hm ⊢;exact hm
  exact iv.ar _ hm2
 have hac: ∀ a∈R.acts,xg tm a∧Rg a.b∧JZ a:=fun a ha=> by
  rw [hR] at ha
  have ha:a∈(fG X h (cG names 1 3 (aQ s.clock drift tick)) (s.dk.view++s.vol) ans).acts:=a1 ▸ ha
  exact ⟨qW hs.tc _ _ _ _ a ha,(iv.ac a ha).1.2.1,Ct _ _ _ _ _ a ha⟩
 have hq: ∀ i,i < R.acts.length→ ∀ (na:Nat) (A:List PV),pL ⟨1,(h:Int),s.counts.getD h 0⟩ R na A (bC s h (aQ s.clock drift tick) X R i).1 (bC s h (aQ s.clock drift tick) X R i).2 (kt R.acts i) (bC s h (aQ s.clock drift tick) X R (i+1)).1 (bC s h (aQ s.clock drift tick) X R (i+1)).2:=fun i hi na A=> by
  obtain ⟨h1,h2,h3,h4,h5⟩:=sX (h:=h) (ck:=aQ s.clock drift tick) (P:=X) (R:=R) (TmC.rg hs.tc) (fun a ha=> ⟨(hac a ha).1,(hac a ha).2.1⟩) hs.tl hs.ns.dk i ab
  rw [rp s h _ X R hi]
  have hp:=h2.pn
  refine HC ⟨1,(h:Int),s.counts.getD h 0⟩ R na A _ _ _ (hac _ (tX hi)).2.2 ⟨by rw [h2.len];omega,by omega,by rw [h3,List.length_drop];omega,?_⟩ (fun w hw=> ?_) ab ab
  ·rcases h1 with h1 | h1 <;> rw [h1] <;> simp
  obtain ⟨b1,b2,_⟩:=h2.pr w hw
  exact ⟨b1,by rw [h2.len];exact b2⟩
 obtain ⟨g0,g1,g2,g3,g4,g5,g6,g7,g8⟩:=qu lK 1 3 (aQ s.clock drift tick)
 have hrun:=Jt X hs.pg hs.cl h hh (cG names 1 3 (aQ s.clock drift tick)) (s.dk.view++s.vol) ans sj hiv hir ab R hR
 rw [g0,g1,g2,g3,g4,g5,g6,g7,g8] at hrun
 rw [← py,← hR,gl,← mv]
 exact tS s hsm hin hs.ns.ct X h hh 1 3 drift tick names t ans hdr ht1 ht2 ht3 hlk hld hs.cb hs.ck hraw R hrun ab ab hRa hRk hak hq
theorem Ea (hP:jg P tp) (hQ:jg Q tq) (hi:i≤1000) (hs:Sq P Q i s) (hsm:fB s) (hup:s.up=false) (hdr:0≤drift∧drift≤3) (hw:AU a) (h5:a.draws.length≤500):
  Spec Tryz.prog 44 (aI [gm s,eU P,eU Q, .v (.int .i64 drift),ur a] []) (aC (uA (cj P Q drift a s).1 (cj P Q drift a s).2 (EV a s) (wI P Q drift a s) (dR P Q drift a s).length (rG (eb s a (hN a s)) (dR P Q drift a s))) []):=by
 obtain ⟨⟨m,hdk⟩,_,_⟩:=hs.dn hup
 have hin:eL s.dk:=fun w hw=> by
  obtain ⟨b1,b2,_⟩:=hdk.pr w hw
  have:=hdk.len
  exact ⟨b1,by omega⟩
 have hck:=hs.ck
 have hep:=hs.ep
 have hcb: ∀ k, -1000000≤s.counts.getD k 0∧s.counts.getD k 0≤1000000:=fun k=> by have:=hs.ct k;omega
 have htk:=ki (clock:=s.clock) (tick:=a.tick) hdr
 have e1:cj P Q drift a s=ku s (bf P Q s) (fb s) 1 3 drift a.tick a.draws:=by unfold cj;rw [if_pos hup]
 have e2:dR P Q drift a s=eE drift a.tick (fH (bM s (bf P Q s) (fb s)) (bf P Q s) 0 1 3 drift a.tick (List.replicate 9 0) a.draws).asked a.draws:=by unfold dR;rw [if_pos hup]
 have e3:wI P Q drift a s=fA (bM s (bf P Q s) (fb s)) (bf P Q s) 0 1 3 drift a.tick (List.replicate 9 0) a.draws:=if_pos hup
 have e4:hN a s=0:=if_pos hup
 have hdl:=hw.dl
 have hnt: ¬ s.up=true:=by rw [hup];exact Bool.false_ne_true
 obtain ⟨X,hX⟩: ∃ X,X=bf P Q s:=⟨_,rfl⟩
 obtain ⟨v,hv⟩: ∃ v,v=fb s:=⟨_,rfl⟩
 have hX1:s.epoch % 2=1→X=Q∧v=1:=fun he=> ⟨by rw [hX];unfold bf;rw [if_neg hnt,if_pos he],hv.trans (if_pos he)⟩
 have hX2: ¬ s.epoch % 2=1→X=P∧v=0:=fun he=> ⟨by rw [hX];unfold bf;rw [if_neg hnt,if_neg he],hv.trans (if_neg he)⟩
 obtain ⟨tm,hXo⟩: ∃ tm,jg X tm:=by
  by_cases he:s.epoch % 2=1
  ·exact ⟨tq,(hX1 he).1 ▸ hQ⟩
  exact ⟨tp,(hX2 he).1 ▸ hP⟩
 rw [e3,e2,← kN,e1,EV,e4,← hX,← hv]
 have hb:=qD hXo.pg hXo.cl hXo.tc hdk hs.cl hcb ab v
 have hr:=uB 1 ((0:Nat):Int) (s.counts.getD 0 0) a.tick a.draws a.keeps hw.d0 h5 hw.kl
 have hH:=HJ X tm (bM s X v) hb 0 ab drift a.tick (List.replicate 9 0) a.draws (by simp) FP (by unfold Rg;show -2147483647≤aQ s.clock drift a.tick∧aQ s.clock drift a.tick≤2147483647;omega) ab (eb s a 0) rfl rfl rfl (fun h=> qb s 0 hw ab) (fun j k _ h2 _=> pT s 0 hw j ab) hdl hr _ rfl
 have hpn:=hXo.pg.nv
 exact Ip s hup hep.1 P Q X v hX1 hX2 drift a hw.dl hw.kl _ _ _ _ _ (CO s hsm hin X v 1 3 drift _ _ ab ab _ _ _ _ _ hH)
theorem DR (hP:jg P tp) (hQ:jg Q tq) (hi:i≤1000) (hs:Sq P Q i s) (hup:s.up=true) (htl:pG (if s.ver=1 then tq else tp) s.timers) (hdr:0≤drift∧drift≤3) (hw:AU a) (h5:a.draws.length≤500) (hcr:a.crash=false):
  Spec Tryz.prog 44 (aI [gm s,eU P,eU Q, .v (.int .i64 drift),ur a] []) (aC (uA (cj P Q drift a s).1 (cj P Q drift a s).2 (EV a s) (wI P Q drift a s) (dR P Q drift a s).length (rG (eb s a (hN a s)) (dR P Q drift a s))) []):=by
 obtain ⟨hns,hver⟩:=hs.up hup
 have hck:=hs.ck
 have hcb: ∀ k, -1000000≤s.counts.getD k 0∧s.counts.getD k 0≤1000000:=fun k=> by have:=hs.ct k;omega
 have htk:=ki (clock:=s.clock) (tick:=a.tick) hdr
 have hnf: ¬ s.up=false:=by rw [hup];exact fun h=> by cases h
 have hnc: ¬ a.crash=true:=by rw [hcr];exact Bool.false_ne_true
 have hah:=hw.ok.h
 have hdl:=hw.dl
 have e1:cj P Q drift a s=cw { s with wait:=a.wait } (bf P Q s) a.h 1 3 drift a.tick a.names a.draws:=by unfold cj;rw [if_neg hnf,if_neg hnc]
 have e2:dR P Q drift a s=eE drift a.tick (fH { s with wait:=a.wait } (bf P Q s) a.h 1 3 drift a.tick a.names a.draws).asked a.draws:=by unfold dR;rw [if_neg hnf,if_neg hnc]
 have e3:wI P Q drift a s=fA { s with wait:=a.wait } (bf P Q s) a.h 1 3 drift a.tick a.names a.draws:=(if_neg hnf).trans (if_neg hnc)
 have e4:hN a s=a.h:=(if_neg hnf).trans (if_neg hnc)
 obtain ⟨X,hX⟩: ∃ X,X=bf P Q s:=⟨_,rfl⟩
 have hX1:s.ver=1→X=Q:=fun he=> by rw [hX];unfold bf;rw [if_pos hup,if_pos he]
 have hX2: ¬ s.ver=1→X=P:=fun he=> by rw [hX];unfold bf;rw [if_pos hup,if_neg he]
 obtain ⟨tm,hXo,hN',htm⟩: ∃ tm,jg X tm∧rN X s∧pG tm s.timers:=by
  by_cases he:s.ver=1
  ·rw [if_pos he] at hns htl;rw [hX1 he];exact ⟨tq,hQ,hns,htl⟩
  rw [if_neg he] at hns htl;rw [hX2 he];exact ⟨tp,hP,hns,htl⟩
 rw [e3,e2,← kN,e1,EV,e4,← hX]
 have hr:=uB 1 (a.h:Int) (s.counts.getD a.h 0) a.tick a.draws a.keeps hw.d0 h5 hw.kl
 have hH:=HJ X tm { s with wait:=a.wait } ⟨hXo.pg,hXo.cl,hXo.tc,⟨hN'.dk,hN'.vl,hN'.vr,hN'.tm,hN'.ct⟩,htm,hcb,by show -1000000≤s.clock∧s.clock≤1000000;omega⟩ a.h hah drift a.tick a.names a.draws hw.nl hw.ok.nm (by show Rg (aQ s.clock drift a.tick);unfold Rg;omega) ab (eb s a a.h) rfl rfl rfl (fun h=> qb s a.h hw ab) (fun j k _ h2 _=> pT s a.h hw j ab) hdl hr _ rfl
 exact Jr s hup P Q X hX1 hX2 drift a hcr ab hw.dl hw.kl _ _ _ _ _ hH
theorem CW (hi:i≤1000) (hs:Sq P Q i s) (hsm:fB s) (hup:s.up=true) (hw:AU a) (hcr:a.crash=true):
  Spec Tryz.prog 44 (aI [gm s,eU P,eU Q, .v (.int .i64 drift),ur a] []) (aC (uA (cj P Q drift a s).1 (cj P Q drift a s).2 (EV a s) (wI P Q drift a s) (dR P Q drift a s).length (rG (eb s a (hN a s)) (dR P Q drift a s))) []):=by
 obtain ⟨hns,hver⟩:=hs.up hup
 have hep:=hs.ep
 have hcb:=hs.ct 40
 have hnf: ¬ s.up=false:=by rw [hup];exact fun h=> by cases h
 have e1:cj P Q drift a s=(gY s (keepB s.dk.pend.length a.keeps),{}):=by unfold cj;rw [if_neg hnf,if_pos hcr]
 have e2:dR P Q drift a s=fY s.dk.pend.length a.keeps:=by unfold dR;rw [if_neg hnf,if_pos hcr]
 have e3:wI P Q drift a s=NP:=(if_neg hnf).trans (if_pos hcr)
 have e4:hN a s=40:=(if_neg hnf).trans (if_pos hcr)
 have hin:eL s.dk:=fun w hw=> by
  obtain ⟨b1,b2,_⟩:=hns.dk.pr w hw
  have:=hns.dk.len
  exact ⟨b1,by omega⟩
 have h:=Cu s hsm hin hs.cl ab ab 1 (eb s a 40) rfl rfl rfl a.keeps (fun j _=> xS s 40 hw j)
 rw [e3,e2,e1,EV,e4,sc,show (fY s.dk.pend.length a.keeps).length=s.dk.pend.length by simp [fY]]
 exact HX s hup P Q drift a hcr hw.dl hw.kl _ _ _ _ _ h
theorem GE (hP:jg P tp) (hQ:jg Q tq) (hd:0≤drift∧drift≤3) (hi:i≤1000) (hs:SqT P Q tp tq i s) (hw:AU a) (h5:a.draws.length≤500):
  Spec Tryz.prog 44 (aI [gm s,eU P,eU Q, .v (.int .i64 drift),ur a] []) (aC (uA (cj P Q drift a s).1 (cj P Q drift a s).2 (EV a s) (wI P Q drift a s) (dR P Q drift a s).length (rG (eb s a (hN a s)) (dR P Q drift a s))) []):=by
 by_cases hu:s.up=true
 ·by_cases hc:a.crash=true
  ·exact CW hi hs.sq hs.sm hu hw hc
  exact DR hP hQ hi hs.sq hu (hs.tl hu) hd hw h5 (by simpa using hc)
 exact Ea hP hQ hi hs.sq hs.sm (by simpa using hu) hd hw h5
end
end Go.Proofs.YtmjnackchaahbaaGreat

set_option maxHeartbeats 2000000
namespace Go.Proofs.YtmjnackchaahbaaGreat
open Go.RowKit

theorem El (w:World) (a b c d e:Int):(Op.equal 57 (.agg #[.int .i64 a, .int .i64 b, .int .i64 c, .int .i64 d, .int .i64 e]) (.agg #[.int .i64 a, .int .i64 b, .int .i64 c, .int .i64 d, .int .i64 e])).run Tryz.prog w= .ok true w:=by
 have h:=eV w #[.int .i64 a, .int .i64 b, .int .i64 c, .int .i64 d, .int .i64 e]
 have e:=kR 9998 w
 show (Op.equalIn (9999+1) _ _ _).run Tryz.prog w=_
 rw [Op.equalIn]
 simp only [Sem.run_bind,run_underlying Tryz.underlying57,Result.andThen_ok]
 simp [Op.eqFields,h 0 _ rfl,h 1 _ rfl,h 2 _ rfl,h 3 _ rfl,h 4 _ rfl,e]
theorem xJ (l:List Ac) (h1:l.length≤1000000):Spec Tryz.prog 34 (aI [.sl l.length (oz l), .sl l.length (oz l)] []) (aC (.v (.bool true)) []):=by
 refine Spec.ofN Tryz.func34 rfl Tryz.ntmps34 rfl ?_
 refine go 9 ?_
 refine aj (cM (r:=false) _ _ rfl rfl (bne_self_eq_false _)) ?_
 refine am (cK rfl rfl (cE (aF fun K4 hK4=> ?_)))
 refine aG (cC rfl (am (aH ?_)))
 refine aT (α:=Nat) (fun k=> k≤l.length) 26 [(0,_),(1,_)] [] (fun k=> [(5, .v (.int .i64 (k:Int)))]) (fun k=> []) [] [] (fun k=> l.length - k) 0 ?_ (kj [] [] []) ?_
 ·omega
 intro k hk
 refine aF fun K6 hK6=> ?_
 refine go 6 ?_
 refine ay rfl (fun hc14=> ?_) (fun hc14=> ?_)
 ·have hia:=nx l k ab
  generalize kt l k=x at hia
  refine aR (hK6 _ ?_)
  refine aE (aH (aE ?_))
  refine az (σ':=an 26 [(0,_),(1,_),(5,_)] [] [] []) kp ?_
  refine dA 9 [] ?_
  refine go 4 ?_
  refine aB (_,[]) (fun τ=> aO _ _ aa rfl rfl _ rfl ab (by (simp only [aq,aJ,aM,aq,bA,cU,bN,eQ,cJ];omega)) ag) ?_
  refine go 1 ?_
  refine aB (_,[]) (fun τ=> bn _ aa rfl (by exact hia) rfl) ?_
  refine go 5 ?_
  refine aB (_,[]) (fun τ=> aO _ _ aa rfl rfl _ rfl ab (by (simp only [aq,aJ,aM,aq,bA,cU,bN,eQ,cJ];omega)) ag) ?_
  refine go 1 ?_
  refine aB (_,[]) (fun τ=> bn _ aa rfl (by exact hia) rfl) ?_
  refine go 1 ?_
  refine aB (_,[]) (fun τ=> qw _ _ [.int .i64 x.k, .int .i64 x.a, .int .i64 x.b, .int .i64 x.c, .int .i64 x.d] rfl rfl ae (fun W=> El W _ _ _ _ _)) ?_
  refine go 9 ?_
  refine ax (⟨k+1,?_,?_,?_⟩)
  ·omega
  ·exact kj [] [] []
  omega
 refine aW (id (hK4 _ ?_))
 exact aG (gv rfl (am (au (dU rfl rfl))))
theorem Jf:Spec Tryz.prog 42 (aI [] []) (aC (gm {}) []):=by
 refine Spec.ofN Tryz.func42 rfl Tryz.ntmps42 rfl ?_
 refine go 7 ?_
 exact au (zX [])
theorem ID {l m:List Int} (e:l=m) (h:l.length≤4611686018427387904):Spec Tryz.prog 30 (aI [.sl l.length (be l), .sl m.length (be m)] []) (aC (.v (.bool true)) []):=by
 subst e;exact mK l h
structure KO (r:Nr) (o:Ms):Prop where
 se:r.sent.length≤500
 fa:r.fails.length≤500
 ac:o.acts.length≤500
 va:o.vars.length≤10000
 co:o.cov.length≤500
set_option maxHeartbeats 1000000 in
theorem Bd (s:Ns) (r:Nr) (c:Cz) (o:Ms) (na:Nat) (A:List PV) (h:KO r o):Spec Tryz.prog 49 (aI [Bb c r o,uA s r c o na A] []) (aC (.v (.bool true)) []):=by
 have h1:=mK r.fails (by have:=h.fa;omega)
 have h2:=tn c r.sent (by have:=h.se;omega)
 have h3:=xJ o.acts (by have:=h.ac;omega)
 have h4:=mK o.vars (by have:=h.va;omega)
 have h5:=ID (BK o.cov).symm (by rw [← BK];have:=wk o.cov;have:=h.co;omega)
 refine Spec.ofN Tryz.func49 rfl Tryz.ntmps49 rfl ?_
 refine go 11 ?_
 refine aj (qw _ _ [.int .i64 c.a, .int .i64 c.b, .int .i64 c.c] rfl rfl ae (fun W=> yf 9998 W _ _ _)) ?_
 refine go 5 ?_
 refine aV rfl rfl (Dq (r:=false) _ _ rfl rfl Tryz.underlying4 (bne_self_eq_false _)) ?_
 refine go 6 ?_
 refine aV rfl rfl (cM (r:=false) _ _ rfl rfl (bne_self_eq_false _)) ?_
 refine go 6 ?_
 refine aV rfl rfl (ap aa al (h1) rfl rfl) ?_
 refine go 7 ?_
 refine aV rfl rfl (ap aa al (h2) rfl rfl) ?_
 refine go 5 ?_
 refine aE ?_
 refine az (σ':=an 83 [(2,_),(3,_)] [((2,0),_),((3,0),_)] [] []) kp ?_
 refine go 7 ?_
 refine aj (ap aa al (h3) rfl rfl) ?_
 refine go 7 ?_
 refine aV rfl rfl (ap aa al (h4) rfl rfl) ?_
 refine go 8 ?_
 refine aV rfl rfl (ba (r:=true) _ _ rfl rfl (beq_self_eq_true _)) ?_
 refine go 8 ?_
 refine aV rfl rfl (IA (r:=true) _ _ rfl rfl Tryz.underlying4 (beq_self_eq_true _)) ?_
 refine go 8 ?_
 refine aV rfl rfl (ap aa al (h5) rfl rfl) ?_
 refine go 3 ?_
 exact au (dU rfl rfl)
theorem Fj {K:Cx} {x:eD} {s:Ms}:(bS K x s).vars.length=s.vars.length:=by
 unfold bS
 cases x.op <;> first | rfl | exact List.length_set | (simp only;split <;> rfl)
theorem xR (p:Pg) (h:Nat) (names vars ans:List Int):(jN p h names vars ans).vars.length=vars.length∧(jN p h names vars ans).cov.length≤500:=by
 unfold jN
 split
 ·exact ⟨rfl,Nat.zero_le _⟩
 have h1:=iB (K:=⟨p.c,p.d,names,ans⟩) (I:=fun s=> s.vars.length=vars.length∧s.cov.length=s.steps) (fun s hs _=> by
  obtain ⟨a,b⟩:=stepM_steps (K:=⟨p.c,p.d,names,ans⟩) (s:=s)
  refine ⟨?_,by rw [a,b,List.length_append,hs.2];rfl⟩
  unfold gD
  rw [Fj];exact hs.1) 500 (cR vars (p.e h).toNat) ⟨rfl,rfl⟩
 have h2:=(kr (K:=⟨p.c,p.d,names,ans⟩) 500 (cR vars (p.e h).toNat)).1
 have h4:(cR vars (p.e h).toNat).steps=0:=rfl
 exact ⟨h1.1,by omega⟩
theorem sr: ∀ (l:List Ac) (q:Ns×Nr),(l.foldl dj q).2.sent.length≤q.2.sent.length+l.length∧(l.foldl dj q).2.fails.length≤q.2.fails.length+l.length
 | [],_=> ⟨Nat.le_refl _,Nat.le_refl _⟩
 | a::l,q=> by
  obtain ⟨h1,h2⟩:=sr l (dj q a)
  obtain ⟨h3,h4⟩:=uy q a
  simp only [List.foldl_cons,List.length_cons]
  omega
theorem qc (s:Ns) (p:Pg) (h:Nat) (self nodes drift tick:Int) (names ans:List Int):(cw s p h self nodes drift tick names ans).2.sent.length≤500∧(cw s p h self nodes drift tick names ans).2.fails.length≤500:=by
 have h1:=mZ p h (cG names self nodes (aQ s.clock drift tick)) (s.dk.view++s.vol) ans
 rw [(nk p h (cG names self nodes (aQ s.clock drift tick)) (s.dk.view++s.vol) ans).1] at h1
 have h2:=sr (fG p h (cG names self nodes (aQ s.clock drift tick)) (s.dk.view++s.vol) ans).acts ({ s with clock:=aQ s.clock drift tick,counts:=s.counts.set h (s.counts.getD h 0+1),vol:=(fG p h (cG names self nodes (aQ s.clock drift tick)) (s.dk.view++s.vol) ans).vars.drop p.d },{})
 have e1:(({}:Nr)).sent.length=0:=rfl
 have e2:(({}:Nr)).fails.length=0:=rfl
 exact ⟨Nat.le_trans h2.1 (by show (({}:Nr)).sent.length+_≤500;omega),Nat.le_trans h2.2 (by show (({}:Nr)).fails.length+_≤500;omega)⟩
theorem rA (d:Dk):d.view.length=d.cells.length:=dF _ _
theorem FZ {P Q:Pg} {tp tq:Int} (hP:jg P tp) (hQ:jg Q tq) (dr:Int) (a:Na) {s:Ns} (hs:fB s):KO (cj P Q dr a s).2 (wI P Q dr a s):=by
 have hc:=hs.c
 have hv:=hs.v
 by_cases hu:s.up=false
 ·have e1:cj P Q dr a s=ku s (bf P Q s) (fb s) 1 3 dr a.tick a.draws:=by unfold cj;rw [if_pos hu]
  have e3:wI P Q dr a s=fA (bM s (bf P Q s) (fb s)) (bf P Q s) 0 1 3 dr a.tick (List.replicate 9 0) a.draws:=if_pos hu
  rw [e1,e3]
  obtain ⟨h1,h2⟩:=qc (bM s (bf P Q s) (fb s)) (bf P Q s) 0 1 3 dr a.tick (List.replicate 9 0) a.draws
  obtain ⟨h3,h4⟩:=xR (bf P Q s) 0 (cG (List.replicate 9 0) 1 3 (aQ (bM s (bf P Q s) (fb s)).clock dr a.tick)) ((bM s (bf P Q s) (fb s)).dk.view++(bM s (bf P Q s) (fb s)).vol) a.draws
  have hp:lU (bf P Q s):=by unfold bf;split <;> split <;> first | exact hP.pg | exact hQ.pg
  have hnv:=hp.nv
  have hl:(bM s (bf P Q s) (fb s)).dk.cells.length≤1000:=by
   show (if s.dk.cells.length=(bf P Q s).d then s.dk else s.dk.resize (bf P Q s).d).cells.length≤1000
   split
   ·omega
   simp [Dk.resize];omega
  have hl2:(bM s (bf P Q s) (fb s)).vol.length≤1000:=by
   show (List.replicate (bf P Q s).v (0:Int)).length≤1000
   rw [List.length_replicate];omega
  rw [List.length_append,rA] at h3
  exact ⟨h1,h2,mZ _ _ _ _ _,by show (jN _ _ _ _ _).vars.length≤_;omega,h4⟩
 by_cases hc:a.crash=true
 ·have e1:cj P Q dr a s=(gY s (keepB s.dk.pend.length a.keeps),{}):=by unfold cj;rw [if_neg hu,if_pos hc]
  have e3:wI P Q dr a s=NP:=(if_neg hu).trans (if_pos hc)
  rw [e1,e3]
  exact ⟨Nat.zero_le _,Nat.zero_le _,Nat.zero_le _,Nat.zero_le _,Nat.zero_le _⟩
 have e1:cj P Q dr a s=cw { s with wait:=a.wait } (bf P Q s) a.h 1 3 dr a.tick a.names a.draws:=by unfold cj;rw [if_neg hu,if_neg hc]
 have e3:wI P Q dr a s=fA { s with wait:=a.wait } (bf P Q s) a.h 1 3 dr a.tick a.names a.draws:=(if_neg hu).trans (if_neg hc)
 rw [e1,e3]
 obtain ⟨h1,h2⟩:=qc { s with wait:=a.wait } (bf P Q s) a.h 1 3 dr a.tick a.names a.draws
 obtain ⟨h3,h4⟩:=xR (bf P Q s) a.h (cG a.names 1 3 (aQ s.clock dr a.tick)) (s.dk.view++s.vol) a.draws
 rw [List.length_append,rA] at h3
 exact ⟨h1,h2,mZ _ _ _ _ _,by show (jN (bf P Q s) a.h (cG a.names 1 3 (aQ s.clock dr a.tick)) (s.dk.view++s.vol) a.draws).vars.length≤_;omega,h4⟩
theorem Kw (a:Na) (s:Ns) (h:(s.up && a.crash)=false):JW a s=EV a s:=by
 unfold JW
 by_cases hu:s.up=false
 ·rw [if_pos hu,EV,show hN a s=0 from if_pos hu]
 have hc: ¬ a.crash=true:=fun hc=> by
  rw [hc,Bool.and_true] at h;exact hu h
 rw [if_neg hu,if_neg hc,EV,show hN a s=a.h from (if_neg hu).trans (if_neg hc)]
end Go.Proofs.YtmjnackchaahbaaGreat

set_option maxHeartbeats 2000000
namespace Go.Proofs.YtmjnackchaahbaaGreat
open Go.RowKit

set_option maxHeartbeats 4000000 in
theorem vA (one:Int) (two:Int) (dr:Int) (l:List Int) (hone: -9223372036854775808≤one∧one≤9223372036854775807) (htwo: -9223372036854775808≤two∧two≤9223372036854775807) (hdr: -9223372036854775808≤dr∧dr≤9223372036854775807) (hl:l.length≤4611686018427387904) (hr: ∀ x∈l, -9223372036854775808≤x∧x≤9223372036854775807):
  Spec Tryz.prog 11 (aI [.v (.int .i64 one), .v (.int .i64 two), .v (.int .i64 dr), .sl l.length (be l)] []) (aC (.v (.bool true)) []):=by
 have hac:=zb l hl hr
 have hnn:=sD
 have hA:=zL l
 have hgt:=Il (jj (l.take 10))
 have hga:=CG (jj (l.take 10))
 have ha:=im dr 4 ab ab hdr.1 hdr.2
 have hd:0≤da dr 4∧da dr 4≤3:=⟨gM dr 4 ab,by have:=jb dr 4 ab;omega⟩
 generalize da dr 4=d at ha hd
 have hP:=Du one
 have hp:=wg one hone
 generalize Lw one=P at hP hp
 generalize OL one=tm at hP
 have hQ:=Du two
 have hq:=wg two htwo
 generalize Lw two=Q at hQ hq
 generalize OL two=tq at hQ
 have hrn:=Jf
 generalize jj (l.take 10)=A at hac hA hgt hga
 refine Spec.ofN Tryz.func11 rfl Tryz.ntmps11 rfl ?_
 refine aG (gv rfl (am (aG (bW rfl (aj (ap aa al (hp) rfl rfl) ?_)))))
 refine go 5 ?_
 refine aj (ap aa al (hq) rfl rfl) ?_
 refine go 5 ?_
 refine aj (ap aa al (ha) rfl rfl) ?_
 refine cC rfl (am (aG (gR rfl (aj (ap aa al (hac) rfl rfl) ?_))))
 refine yq rfl (am (aE ?_))
 refine az (σ':=an 109 [(9,_),(10,_),(11,_),(12,_)] [((9,0),_),((10,0),_)] [] []) kp ?_
 refine aD (aj (ap aa (by repeat' (exact cp)) (hnn) rfl rfl) ?_)
 refine go 4 ?_
 refine aj (ap aa (by repeat' (exact cp)) (hrn) rfl rfl) ?_
 refine go 7 ?_
 refine aj (ap aa al (qr {} (Ep P Q tm tq).sm) rfl rfl) ?_
 refine go 4 ?_
 refine aF fun K10 hK10=> ?_
 refine aG (cC rfl (am (aH ?_)))
 refine aT (α:=Nat×Ns) (fun z=> z.1≤A.length∧SqT P Q tm tq z.1 z.2) 109 [(9,_),(10,_),(11,_),(12,_),(13,_),(14,_)] [((9,0),_),((10,0),_)] (fun z=> [(15, .v (.int .i64 (z.1:Int)))]) (fun z=> [((13,0), .box 83 [.v (.bool z.2.up), .v (.int .i64 (z.2.ver)), .v (.int .i64 (z.2.epoch)), .v (.int .i64 (z.2.clock)), .sl z.2.dk.cells.length (be z.2.dk.cells), .sl z.2.dk.pend.length (iu z.2.dk.pend), .sl z.2.vol.length (be z.2.vol), .sl z.2.timers.length (be z.2.timers), .v (.int .i64 (aP z.2 0)), .v (.int .i64 (aP z.2 1)), .v (.int .i64 (aP z.2 2)), .v (.int .i64 (aP z.2 3)), .v (.int .i64 (aP z.2 4)), .v (.int .i64 (aP z.2 5)), .v (.int .i64 (aP z.2 6)), .v (.int .i64 (aP z.2 7)), .v (.int .i64 (aP z.2 8)), .v (.int .i64 (aP z.2 9)), .v (.int .i64 (aP z.2 10)), .v (.int .i64 (aP z.2 11)), .v (.int .i64 (aP z.2 12)), .v (.int .i64 (aP z.2 13)), .v (.int .i64 (aP z.2 14)), .v (.int .i64 (aP z.2 15)), .v (.int .i64 (aP z.2 16)), .v (.int .i64 (aP z.2 17)), .v (.int .i64 (aP z.2 18)), .v (.int .i64 (aP z.2 19)), .v (.int .i64 (aP z.2 20)), .v (.int .i64 (aP z.2 21)), .v (.int .i64 (aP z.2 22)), .v (.int .i64 (aP z.2 23)), .v (.int .i64 (aP z.2 24)), .v (.int .i64 (aP z.2 25)), .v (.int .i64 (aP z.2 26)), .v (.int .i64 (aP z.2 27)), .v (.int .i64 (aP z.2 28)), .v (.int .i64 (aP z.2 29)), .v (.int .i64 (aP z.2 30)), .v (.int .i64 (aP z.2 31)), .v (.int .i64 (aP z.2 32)), .v (.int .i64 (aP z.2 33)), .v (.int .i64 (aP z.2 34)), .v (.int .i64 (aP z.2 35)), .v (.int .i64 (aP z.2 36)), .v (.int .i64 (aP z.2 37)), .v (.int .i64 (aP z.2 38)), .v (.int .i64 (aP z.2 39)), .v (.int .i64 (aP z.2 40)), .v (.int .i64 (z.2.wait)), .v (.int .i64 (0)), .v (.int .i64 (0))]),((14,0), .box 83 [.v (.bool z.2.up), .v (.int .i64 (z.2.ver)), .v (.int .i64 (z.2.epoch)), .v (.int .i64 (z.2.clock)), .sl z.2.dk.cells.length (be z.2.dk.cells), .sl z.2.dk.pend.length (iu z.2.dk.pend), .sl z.2.vol.length (be z.2.vol), .sl z.2.timers.length (be z.2.timers), .v (.int .i64 (aP z.2 0)), .v (.int .i64 (aP z.2 1)), .v (.int .i64 (aP z.2 2)), .v (.int .i64 (aP z.2 3)), .v (.int .i64 (aP z.2 4)), .v (.int .i64 (aP z.2 5)), .v (.int .i64 (aP z.2 6)), .v (.int .i64 (aP z.2 7)), .v (.int .i64 (aP z.2 8)), .v (.int .i64 (aP z.2 9)), .v (.int .i64 (aP z.2 10)), .v (.int .i64 (aP z.2 11)), .v (.int .i64 (aP z.2 12)), .v (.int .i64 (aP z.2 13)), .v (.int .i64 (aP z.2 14)), .v (.int .i64 (aP z.2 15)), .v (.int .i64 (aP z.2 16)), .v (.int .i64 (aP z.2 17)), .v (.int .i64 (aP z.2 18)), .v (.int .i64 (aP z.2 19)), .v (.int .i64 (aP z.2 20)), .v (.int .i64 (aP z.2 21)), .v (.int .i64 (aP z.2 22)), .v (.int .i64 (aP z.2 23)), .v (.int .i64 (aP z.2 24)), .v (.int .i64 (aP z.2 25)), .v (.int .i64 (aP z.2 26)), .v (.int .i64 (aP z.2 27)), .v (.int .i64 (aP z.2 28)), .v (.int .i64 (aP z.2 29)), .v (.int .i64 (aP z.2 30)), .v (.int .i64 (aP z.2 31)), .v (.int .i64 (aP z.2 32)), .v (.int .i64 (aP z.2 33)), .v (.int .i64 (aP z.2 34)), .v (.int .i64 (aP z.2 35)), .v (.int .i64 (aP z.2 36)), .v (.int .i64 (aP z.2 37)), .v (.int .i64 (aP z.2 38)), .v (.int .i64 (aP z.2 39)), .v (.int .i64 (aP z.2 40)), .v (.int .i64 (z.2.wait)), .v (.int .i64 (0)), .v (.int .i64 (0))])]) [] [] (fun z=> A.length - z.1) (0,{}) ?_ (kj [0,0,1,1] [] []) ?_
 ·exact ⟨Nat.zero_le _,Ep P Q tm tq⟩
 intro z hz
 obtain ⟨k,s⟩:=z
 obtain ⟨hz1,hs⟩:=hz
 simp only at hz1 hs ⊢
 refine aF fun K12 hK12=> ?_
 refine go 6 ?_
 refine ay rfl (fun hc38=> ?_) (fun hc38=> ?_)
 ·obtain ⟨hAk,hk10⟩:=hA k ab
  have ga:=hga k ab
  have gt:=hgt k ab
  rw [hAk] at ga gt
  have hw:=Ji l k
  have hnx:=Jc hP hQ hd ab hs hw
  have hsx:=KW hP hQ hd hw.ok ab hs
  have hwl:=Ia hsx
  have hrx:=GE hP hQ hd ab hs hw (show (zG l k).draws.length≤500 from Nat.le_of_ble_eq_true rfl)
  have hro:=FZ hP hQ d (zG l k) hs.sm
  have hrc:=Kw (zG l k) s
  have hsm:=hsx.sm
  have hdi:=hsx.din
  have hnq:=(Iy hP.pg hQ.pg hd hw.ok ab hs.sq).l
  generalize zG l k=a at*
  generalize cj P Q d a s=X at*
  obtain ⟨s',r⟩:=X
  simp only at*
  generalize EV a s=rr at hrx hrc
  generalize hN a s=h at*
  generalize JW a s=rc at hnx hrc
  generalize wI P Q d a s=ro at hnx hrx hro
  generalize eb s a h=tl at hnx hrx
  generalize dR P Q d a s=nq at*
  have hsc:=hsm.c
  have hsv:=hsm.v
  have hsa:=qr s' hsm
  have hsq:=rO tl nq ab
  have hv1:=mO s' hsm hdi
  have hv2:=rh s' hsm hdi
  have hv3:=mK (s'.dk.view++s'.vol) (by rw [List.length_append,rA];omega)
  have hsr:(s.up && a.crash)=false→Spec Tryz.prog 49 (aI [Bb rc r ro,uA s' r rr ro nq.length (rG tl nq)] []) (aC (.v (.bool true)) []):=fun e=> by rw [hrc e];exact Bd s' r rr ro nq.length (rG tl nq) hro
  have hcs:(s.up=true∧a.crash=true)∨(s.up=true∧a.crash=false)∨s.up=false:=by cases s.up <;> cases a.crash <;> simp
  refine aR (hK12 _ ?_)
  refine aE (aH ?_)
  refine jI (α:=Unit) (fun u=> True) 109 [(9,_),(10,_),(11,_),(12,_),(13,_),(14,_),(15,_)] [((9,0),_),((10,0),_),((13,0),_),((14,0),_)] (fun u=> [(16, .v (.bool (s.up && a.crash)))]) (fun u=> []) [] []
   (by exact ⟨(iP rfl),(iP rfl),(iV rfl),(iS rfl),(iP rfl),(iP rfl),(iV rfl),trivial⟩)
   (by exact ⟨(bU rfl rfl rfl),(bU rfl rfl rfl),(bU rfl rfl rfl),(bU rfl rfl rfl),trivial⟩) ?_ ?_
  ·rcases hcs with ⟨hu1,hc1⟩ | ⟨hu1,hc1⟩ | hu1
   ·refine aD (IE rfl rfl rfl (aj (bB _ aa rfl rfl (by exact congrArg (fun b=> some (AV.v (.bool b))) hu1)) ?_))
    refine go 3 ?_
    refine aV rfl rfl (aO _ _ aa rfl rfl _ rfl ab (by (simp only [aq,aJ,aM,aq,bA,cU,bN,eQ,cJ];omega)) ag) ?_
    refine aV rfl rfl (ej _ aa rfl rfl) (aV rfl rfl (bl _ aa rfl (by exact gt 0 ab) rfl) ?_)
    refine aV rfl rfl (ba (r:=true) _ _ rfl rfl (by rw [hc1];rfl)) ?_
    refine go 2 ?_
    refine ax (⟨(),?_,?_⟩)
    ·trivial
    refine Le.mkJ [] [] rfl ?_ ?_ trivial trivial ?_
    ·exact ⟨(iP rfl),(iP rfl),(iV rfl),(iS rfl),(iP rfl),(iP rfl),(iV rfl),(jL (by (rw [hu1,hc1];rfl))),trivial⟩
    ·exact ⟨(bU rfl rfl rfl),(bU rfl rfl rfl),(bU rfl rfl rfl),(bU rfl rfl rfl),trivial⟩
    kernel_rfl
   ·refine aD (IE rfl rfl rfl (aj (bB _ aa rfl rfl (by exact congrArg (fun b=> some (AV.v (.bool b))) hu1)) ?_))
    refine go 3 ?_
    refine aV rfl rfl (aO _ _ aa rfl rfl _ rfl ab (by (simp only [aq,aJ,aM,aq,bA,cU,bN,eQ,cJ];omega)) ag) ?_
    refine aV rfl rfl (ej _ aa rfl rfl) (aV rfl rfl (bl _ aa rfl (by exact gt 0 ab) rfl) ?_)
    refine aV rfl rfl (ba (r:=false) _ _ rfl rfl (by rw [hc1];rfl)) ?_
    refine go 2 ?_
    refine ax (⟨(),?_,?_⟩)
    ·trivial
    refine Le.mkJ [] [] rfl ?_ ?_ trivial trivial ?_
    ·exact ⟨(iP rfl),(iP rfl),(iV rfl),(iS rfl),(iP rfl),(iP rfl),(iV rfl),(jL (by (rw [hu1,hc1];rfl))),trivial⟩
    ·exact ⟨(bU rfl rfl rfl),(bU rfl rfl rfl),(bU rfl rfl rfl),(bU rfl rfl rfl),trivial⟩
    kernel_rfl
   refine aD (IE rfl rfl rfl (aj (bB _ aa rfl rfl (by exact congrArg (fun b=> some (AV.v (.bool b))) hu1)) ?_))
   refine go 9 ?_
   refine ax (⟨(),?_,?_⟩)
   ·trivial
   refine Le.mkJ [] [] rfl ?_ ?_ trivial trivial ?_
   ·exact ⟨(iP rfl),(iP rfl),(iV rfl),(iS rfl),(iP rfl),(iP rfl),(iV rfl),(jL (by (rw [hu1];rfl))),trivial⟩
   ·exact ⟨(bU rfl rfl rfl),(bU rfl rfl rfl),(bU rfl rfl rfl),(bU rfl rfl rfl),trivial⟩
   kernel_rfl
  intro u hu
  generalize (s.up && a.crash)=cr at*
  refine aE (dA 10 [(17,0)] ?_)
  refine go 12 ?_
  refine aB (_,[]) (fun τ=> aO _ _ aa rfl rfl _ rfl ab (by (simp only [aq,aJ,aM,aq,bA,cU,bN,eQ,cJ];omega)) ag) ?_
  refine go 1 ?_
  refine aB (_,[]) (fun τ=> bn _ aa rfl (by exact ga) rfl) ?_
  refine go 1 ?_
  refine aB (_,[]) (fun τ=> (ap aa al (hrx) rfl rfl)) ?_
  refine go 1 ?_
  refine aB (_,[((17,0),_)]) (fun τ=> fq (17,0) aa rfl rfl) ?_
  refine go 4 ?_
  refine aE ?_
  refine az (σ':=an 109 [(9,_),(10,_),(11,_),(12,_),(13,_),(14,_),(15,_),(16,_),(17,_)] [((9,0),_),((10,0),_),((13,0),_),((14,0),_),((17,0),_)] [] []) (by
   refine Le.mkJ [] [] rfl ?_ ?_ trivial trivial ?_
   ·exact ⟨(iP rfl),(iP rfl),(iV rfl),(iS rfl),(iP rfl),(iP rfl),(iV rfl),(by exact iV rfl),(iP rfl),trivial⟩
   ·exact ⟨(bU rfl rfl rfl),(bU rfl rfl rfl),(bU rfl rfl rfl),(bU rfl rfl rfl),(bU rfl rfl rfl),trivial⟩
   kernel_rfl) ?_
  refine nT 17 [61,62,63,64,65,66,67,68,69,60,70,71,72,18,19] [(69,0),(69,1),(18,0),(19,0),(18,0),(19,0)] ae ae rfl (rfl:_=[_,_,_,_,_,_,_,_,_,_,_,_,_,_,_,_,_]) (rfl:_=[_]) ?_
  refine bP (_,[]) (fun τ=> jM _ aa rfl rfl rfl rfl) ?_
  refine bO (rfl:_=[_]) ?_
  refine bP (_,[]) (fun τ=> jM _ aa rfl rfl rfl rfl) ?_
  refine bO (rfl:_=[_,_]) ?_
  refine bP (_,[]) (fun τ=> jM _ aa rfl rfl rfl rfl) ?_
  refine bO (rfl:_=[_,_,_]) ?_
  refine bP (_,[]) (fun τ=> cd _ rC) ?_
  refine bO (rfl:_=[_,_,_,_]) ?_
  refine bP (_,[]) (fun τ=> cd _ zN) ?_
  refine bO (rfl:_=[_,_,_,_,_]) ?_
  refine bP (_,[]) (fun τ=> cd _ rC) ?_
  refine bO (rfl:_=[_,_,_,_,_,_]) ?_
  refine bP (_,[]) (fun τ=> aO _ _ aa rfl rfl _ rfl ab (by (simp only [aq,aJ,aM,aq,bA,cU,bN,eQ,cJ];omega)) ag) ?_
  refine bO (rfl:_=[_,_,_,_,_,_,_]) ?_
  refine bP (_,[]) (fun τ=> bn _ aa rfl (by exact ga) rfl) ?_
  refine bO (rfl:_=[_,_,_,_,_,_,_,_]) ?_
  refine bP (_,[((69,0),_),((69,1),_)]) (fun τ=> (bp aa [((4,8),(69,0)),((5,8),(69,1))] ar (hnx.toI) trivial tr tr rfl rfl ae ae)) ?_
  refine bO (rfl:_=[_,_,_,_,_,_,_,_,_]) ?_
  refine bP (_,[]) (fun τ=> cd _ (rfl:_=AV.tup _)) ?_
  refine bO (rfl:_=[_,_,_,_,_,_,_,_,_,_]) ?_
  refine bP (_,[]) (fun τ=> ft _ rfl (rfl:_=some (AV.agg _))) ?_
  refine bO (rfl:_=[_,_,_,_,_,_,_,_,_,_,_]) ?_
  refine bP (_,[]) (fun τ=> ft _ rfl (rfl:_=some (AV.agg _))) ?_
  refine bO (rfl:_=[_,_,_,_,_,_,_,_,_,_,_,_]) ?_
  refine bP (_,[]) (fun τ=> ft _ rfl EK) ?_
  refine bO (rfl:_=[_,_,_,_,_,_,_,_,_,_,_,_,_]) ?_
  refine bP (_,[((18,0),_)]) (fun τ=> fq (18,0) aa rfl rfl) ?_
  refine bO (rfl:_=[_,_,_,_,_,_,_,_,_,_,_,_,_,_]) ?_
  refine bP (_,[((19,0),_)]) (fun τ=> fq (19,0) aa rfl rfl) ?_
  refine bO (rfl:_=[_,_,_,_,_,_,_,_,_,_,_,_,_,_,_]) ?_
  refine bP (_,[((18,0),_)]) (fun τ=> cY _ _ aa rfl rfl rfl rfl (Nat.le_of_ble_eq_true rfl) rfl) ?_
  refine bO (rfl:_=[_,_,_,_,_,_,_,_,_,_,_,_,_,_,_,_]) ?_
  refine bP (_,[((19,0),_)]) (fun τ=> cY _ _ aa rfl rfl rfl rfl (Nat.le_of_ble_eq_true rfl) rfl) ?_
  refine bO (rfl:_=[_,_,_,_,_,_,_,_,_,_,_,_,_,_,_,_,_]) ?_
  refine lp ⟨⟨rfl,by kernel_rfl,by kernel_rfl⟩,?_⟩
  refine JQ rfl (am (aE (aE ?_)))
  refine az (Le.frzB (ys:=rG tl nq) (69,0) 4 rfl rfl rfl rfl (by rw [List.drop_zero,List.take_of_length_le (by rw [jy];exact Nat.le_refl _)]) (by rw [jy,Nat.zero_add];exact Nat.le_refl _)) ?_
  refine dA 24 [] ?_
  refine go 6 ?_
  refine aB (_,[]) (fun τ=> (ap aa al (hsa) rfl rfl)) ?_
  refine go 17 ?_
  refine dM (_,[]) rfl (fun τ=> rfl) (fun τ=> (ap aa al (hsq) rfl rfl)) ?_
  refine go 9 ?_
  refine dM (_,[]) rfl (fun τ=> rfl) (fun τ=> (ap aa al (hv1) rfl rfl)) ?_
  refine go 5 ?_
  refine dM (_,[]) rfl (fun τ=> rfl) (fun τ=> (ap aa al (hv2) rfl rfl)) ?_
  refine go 1 ?_
  refine dM (_,[]) rfl (fun τ=> rfl) (fun τ=> (ap aa al (hv3) rfl rfl)) ?_
  refine go 9 ?_
  refine aF fun K19 hK19=> ?_
  refine aF fun K20 hK20=> ?_
  rcases Bool.eq_false_or_eq_true cr with hcr | hcr
  ·refine az (σ':=an 109 [(9,_),(10,_),(11,_),(12,_),(13,_),(14,_),(15,_),(16,_),(17,_),(18,_),(19,_)] [((9,0),_),((10,0),_),((13,0),_),((14,0),_),((17,0),_),((18,0),_),((19,0),_)] [] []) (by
    refine Le.mkJ [] [] rfl ?_ ?_ trivial trivial ?_
    ·exact ⟨(iP rfl),(iP rfl),(iV rfl),(iS rfl),(iP rfl),(iP rfl),(iV rfl),(by exact iV rfl),(iP rfl),(iP rfl),(iP rfl),trivial⟩
    ·exact ⟨(bU rfl rfl rfl),(bU rfl rfl rfl),(bU rfl rfl rfl),(bU rfl rfl rfl),(bU rfl rfl rfl),(bU rfl rfl rfl),(bU rfl rfl rfl),trivial⟩
    kernel_rfl) ?_
   refine aD (Ec rfl (aj (ew (r:=false) _ rfl (by rw [hcr];rfl)) ?_))
   refine go 6 ?_
   refine ax (hK20 _ ?_)
   refine cK rfl rfl (aR (hK19 _ ?_))
   refine go 13 ?_
   refine ax (⟨(k+1,s'),?_,?_,?_⟩)
   ·exact ⟨by omega,hsx⟩
   ·exact kj [0,0,1,1] [] []
   omega
  refine az (σ':=an 109 [(9,_),(10,_),(11,_),(12,_),(13,_),(14,_),(15,_),(16,_),(17,_),(18,_),(19,_)] [((9,0),_),((10,0),_),((13,0),_),((14,0),_),((17,0),_),((18,0),_),((19,0),_)] [] []) (by
   refine Le.mkJ [] [] rfl ?_ ?_ trivial trivial ?_
   ·exact ⟨(iP rfl),(iP rfl),(iV rfl),(iS rfl),(iP rfl),(iP rfl),(iV rfl),(by exact iV rfl),(iP rfl),(iP rfl),(iP rfl),trivial⟩
   ·exact ⟨(bU rfl rfl rfl),(bU rfl rfl rfl),(bU rfl rfl rfl),(bU rfl rfl rfl),(bU rfl rfl rfl),(bU rfl rfl rfl),(bU rfl rfl rfl),trivial⟩
   kernel_rfl) ?_
  refine aD (Ec rfl (aj (ew (r:=true) _ rfl (by rw [hcr];rfl)) ?_))
  refine go 3 ?_
  refine aV rfl rfl (ap aa al ((hsr hcr)) rfl rfl) ?_
  refine go 2 ?_
  refine ax (hK20 _ ?_)
  refine cK rfl rfl (aR (hK19 _ ?_))
  refine go 13 ?_
  refine ax (⟨(k+1,s'),?_,?_,?_⟩)
  ·exact ⟨by omega,hsx⟩
  ·exact kj [0,0,1,1] [] []
  omega
 refine aW (id (hK10 _ ?_))
 refine aG (aj (ap aa (by repeat' (exact cp)) (GK) rfl rfl) ?_)
 exact gv rfl (am (au (dU rfl rfl)))
theorem rM (one:Int) (two:Int) (dr:Int) (hone: -9223372036854775808≤one∧one≤9223372036854775807) (htwo: -9223372036854775808≤two∧two≤9223372036854775807) (hdr: -9223372036854775808≤dr∧dr≤9223372036854775807) (n0:Nat) (l:List Int) (h0:l.length=n0) (g0:n0≤4611686018427387904) (r0:Rng l):
  Spec Tryz.prog 11 (aI [.v (.int .i64 one), .v (.int .i64 two), .v (.int .i64 dr), .sl n0 (be l)] []) (aC (.v (.bool true)) []):=by
 subst h0
 exact vA one two dr l hone htwo hdr g0 r0
end Go.Proofs.YtmjnackchaahbaaGreat
