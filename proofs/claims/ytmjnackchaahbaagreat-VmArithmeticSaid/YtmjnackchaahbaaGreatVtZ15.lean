/- Part 15 of the texts that the walk leans on: the machine, the walks, the plain laws. -/
import Derived.Shelf.SlIterI.Nil
import Derived.Shelf.SortM.Plain
import Derived.Shelf.SortM.SortNone
import Derived.Ground.GgzProg
import Derived.Ground.SlgmProg
import Derived.Test.YtmjnackchaahbaaGreatVtZ14
set_option linter.unusedSimpArgs false
set_option linter.unusedVariables false
namespace Go.Proofs.YtmjnackchaahbaaGreat
open Go.RowKit

section
variable (M:Mk) (s:Ms) (dr se:Int)
theorem yy (n:Int) (hs:s.stack.length≤90000) (ha:s.acts.length≤90000) (h0:3≤s.stack.length) (hse: -100≤se) (h1:0≤s.top 2) (h2:s.top 2 < M.nm 1) (h3:se < 20):
  Spec Tryz.prog 149 (aY [.ptr (0,9) 0, .v (.int .i64 n)] (ki M s dr se)) (be (.tup []) (jY M { s with stack:=s.pop 3,acts:=s.acts++[{ k:=3,a:=s.top 2,b:=n,c:=s.top 1,d:=s.top 0 }] } dr (se+1) (2,8) (3,8) (5,8)) [(0,9),(1,9),(2,8),(3,8),(4,9),(5,8)] [(0,9),(1,9),(4,9)]):=by
 have h2x:=bS M { s with stack:=s.pop 1 } dr se (by have:=cb s 1;simp only;omega) (by have:=cb s 1;simp only;omega)
 rw [ej s 0 1 ab,eo,Nat.zero_add] at h2x
 have h3x:=bS M { s with stack:=s.pop 2 } dr se (by have:=cb s 2;simp only;omega) (by have:=cb s 2;simp only;omega)
 rw [ej s 0 2 ab,eo,Nat.zero_add] at h3x
 refine Spec.ofNI Tryz.func149 rfl Tryz.ntmps149 rfl ?_
 refine am (bN rfl (cu (Le.incT (8,0) rfl) ?_))
 refine aj (bk aa [((3,8),(8,0))] ar (bS M s dr se ab ab) ob tr tr rfl ae ae) ?_
 refine bN rfl (cu (Le.incT (10,0) rfl) ?_)
 refine aj (bk aa [((3,9),(8,0)),((3,8),(10,0))] ar (h2x) ob tr tr rfl ae ae) ?_
 refine bN rfl (cu (Le.incT (12,0) rfl) ?_)
 refine aj (bk aa [((3,9),(10,0)),((3,8),(12,0))] ar (h3x) ob tr tr rfl ae ae) ?_
 refine bc rfl (bc rfl (bc rfl (ai (am (aV rfl (aj (fj (r:=true) _ _ rfl rfl (decide_eq_true ab)) ?_))))))
 refine cE rfl (ax rfl rfl (aH _ (rfl:_=AV.v (.int _ _))) (ax rfl rfl (aH _ (rfl:_=AV.ptr _ _)) (ax rfl rfl (aJ _ rfl rfl) (ax rfl rfl (aD _ aa rfl rfl rfl) (ax rfl rfl (aD _ aa rfl rfl rfl) (ax rfl rfl (em _ _ aa rfl rfl rfl 1 rfl ab ag) ?_))))))
 refine ax rfl rfl (aG _ aa rfl rfl (rfl:_=some (AV.v (.int _ _)))) (ax rfl rfl (bo (r:=true) _ _ rfl rfl (decide_eq_true ab)) ?_)
 refine aj (az _ _ _ rfl (rfl:_=AV.v (.bool _))) (cE rfl (ax rfl rfl (aH _ (rfl:_=AV.ptr _ _)) (ax rfl rfl (aJ _ rfl rfl) (ax rfl rfl (aD _ aa rfl rfl rfl) (ax rfl rfl (aG _ aa rfl rfl (rfl:_=some (AV.v (.int _ _)))) (ax rfl rfl (bo (r:=true) _ _ rfl rfl (decide_eq_true ab)) ?_))))))
 refine aj (az _ _ _ rfl (rfl:_=AV.v (.bool _))) (ai (bR rfl rfl (aq ?_)))
 refine aQ (σ':=aA 45 [(0,_),(1,_),(4,_),(5,_),(6,_)] [((0,9),_),((1,9),_),((2,9),_),((4,9),_),((5,9),_),((12,0),_)] [(0,9),(1,9),(2,9),(4,9),(5,9),(12,0)] [(0,9),(1,9),(4,9)]) kp ?_
 refine an (bN rfl (aj (aJ _ rfl rfl) (bu rfl rfl rfl (cw rfl rfl rfl (aj (aZ (r:=se+1) _ _ rfl rfl (bJ ab)) ?_)))))
 refine aj (aJ _ rfl rfl) (bu rfl rfl rfl (cF rfl rfl rfl rfl rfl rfl (ai (an (bN rfl (aV rfl (aV rfl (aV rfl (aV rfl (cu (Le.incT (44,0) rfl) ?_))))))))))
 refine aj (bk aa [((3,9),(12,0)),((2,8),(44,0))] ar (eR M { s with stack:=s.pop 3 } dr (se+1) 3 (s.top 2) n (s.top 1) (s.top 0) (by simp only;omega)) ob tr tr rfl ae ae) ?_
 exact aI (et (.inl rfl) rfl (Le.outI [((2,8),(44,0)),((3,8),(12,0)),((5,8),(5,9))] [] (.tup rfl br) rfl rfl rfl trivial ob tr rfl))
theorem wq (n:Int) (hs:s.stack.length≤90000) (ha:s.acts.length≤90000) (h0:3≤s.stack.length) (hse: -100≤se) (h1:s.top 2 < 0):
  Spec Tryz.prog 149 (aY [.ptr (0,9) 0, .v (.int .i64 n)] (ki M s dr se)) (be (.tup []) (jY M { s with stack:=s.pop 3 } dr se (2,8) (3,8) (5,8)) [(0,9),(1,9),(2,8),(3,8),(4,9),(5,8)] [(0,9),(1,9),(4,9)]):=by
 have h2x:=bS M { s with stack:=s.pop 1 } dr se (by have:=cb s 1;simp only;omega) (by have:=cb s 1;simp only;omega)
 rw [ej s 0 1 ab,eo,Nat.zero_add] at h2x
 have h3x:=bS M { s with stack:=s.pop 2 } dr se (by have:=cb s 2;simp only;omega) (by have:=cb s 2;simp only;omega)
 rw [ej s 0 2 ab,eo,Nat.zero_add] at h3x
 refine Spec.ofNI Tryz.func149 rfl Tryz.ntmps149 rfl ?_
 refine am (bN rfl (cu (Le.incT (8,0) rfl) ?_))
 refine aj (bk aa [((3,8),(8,0))] ar (bS M s dr se ab ab) ob tr tr rfl ae ae) ?_
 refine bN rfl (cu (Le.incT (10,0) rfl) ?_)
 refine aj (bk aa [((3,9),(8,0)),((3,8),(10,0))] ar (h2x) ob tr tr rfl ae ae) ?_
 refine bN rfl (cu (Le.incT (12,0) rfl) ?_)
 refine aj (bk aa [((3,9),(10,0)),((3,8),(12,0))] ar (h3x) ob tr tr rfl ae ae) ?_
 refine bc rfl (bc rfl (bc rfl (ai (am (aV rfl (aj (fj (r:=false) _ _ rfl rfl (decide_eq_false ab)) ?_))))))
 refine cE rfl (aN rfl rfl ah ?_)
 refine aN rfl rfl ah ?_
 refine aN rfl rfl ah ?_
 refine aN rfl rfl ah ?_
 refine aN rfl rfl ah ?_
 refine aN rfl rfl ah ?_
 refine aN rfl rfl ah ?_
 refine aN rfl rfl ah ?_
 refine aj (az _ _ _ rfl (rfl:_=AV.v (.bool _))) (cE rfl (aN rfl rfl ah ?_))
 refine aN rfl rfl ah ?_
 refine aN rfl rfl ah ?_
 refine aN rfl rfl ah ?_
 refine aN rfl rfl ah ?_
 exact aj (az _ _ _ rfl (rfl:_=AV.v (.bool _))) (ai (aS rfl rfl (bA (et (.inl rfl) rfl (Le.outI [((2,8),(2,9)),((3,8),(12,0)),((5,8),(5,9))] [] (.tup rfl br) rfl rfl rfl trivial ob tr rfl)))))
theorem wP (n:Int) (hs:s.stack.length≤90000) (ha:s.acts.length≤90000) (h0:3≤s.stack.length) (hse: -100≤se) (h1:0≤s.top 2) (h2:M.nm 1≤s.top 2):
  Spec Tryz.prog 149 (aY [.ptr (0,9) 0, .v (.int .i64 n)] (ki M s dr se)) (be (.tup []) (jY M { s with stack:=s.pop 3 } dr se (2,8) (3,8) (5,8)) [(0,9),(1,9),(2,8),(3,8),(4,9),(5,8)] [(0,9),(1,9),(4,9)]):=by
 have h2x:=bS M { s with stack:=s.pop 1 } dr se (by have:=cb s 1;simp only;omega) (by have:=cb s 1;simp only;omega)
 rw [ej s 0 1 ab,eo,Nat.zero_add] at h2x
 have h3x:=bS M { s with stack:=s.pop 2 } dr se (by have:=cb s 2;simp only;omega) (by have:=cb s 2;simp only;omega)
 rw [ej s 0 2 ab,eo,Nat.zero_add] at h3x
 refine Spec.ofNI Tryz.func149 rfl Tryz.ntmps149 rfl ?_
 refine am (bN rfl (cu (Le.incT (8,0) rfl) ?_))
 refine aj (bk aa [((3,8),(8,0))] ar (bS M s dr se ab ab) ob tr tr rfl ae ae) ?_
 refine bN rfl (cu (Le.incT (10,0) rfl) ?_)
 refine aj (bk aa [((3,9),(8,0)),((3,8),(10,0))] ar (h2x) ob tr tr rfl ae ae) ?_
 refine bN rfl (cu (Le.incT (12,0) rfl) ?_)
 refine aj (bk aa [((3,9),(10,0)),((3,8),(12,0))] ar (h3x) ob tr tr rfl ae ae) ?_
 refine bc rfl (bc rfl (bc rfl (ai (am (aV rfl (aj (fj (r:=true) _ _ rfl rfl (decide_eq_true ab)) ?_))))))
 refine cE rfl (ax rfl rfl (aH _ (rfl:_=AV.v (.int _ _))) (ax rfl rfl (aH _ (rfl:_=AV.ptr _ _)) (ax rfl rfl (aJ _ rfl rfl) (ax rfl rfl (aD _ aa rfl rfl rfl) (ax rfl rfl (aD _ aa rfl rfl rfl) (ax rfl rfl (em _ _ aa rfl rfl rfl 1 rfl ab ag) ?_))))))
 refine ax rfl rfl (aG _ aa rfl rfl (rfl:_=some (AV.v (.int _ _)))) (ax rfl rfl (bo (r:=false) _ _ rfl rfl (decide_eq_false ab)) ?_)
 refine aj (az _ _ _ rfl (rfl:_=AV.v (.bool _))) (cE rfl (aN rfl rfl ah ?_))
 refine aN rfl rfl ah ?_
 refine aN rfl rfl ah ?_
 refine aN rfl rfl ah ?_
 refine aN rfl rfl ah ?_
 exact aj (az _ _ _ rfl (rfl:_=AV.v (.bool _))) (ai (aS rfl rfl (bA (et (.inl rfl) rfl (Le.outI [((2,8),(2,9)),((3,8),(12,0)),((5,8),(5,9))] [] (.tup rfl br) rfl rfl rfl trivial ob tr rfl)))))
theorem vc (n:Int) (hs:s.stack.length≤90000) (ha:s.acts.length≤90000) (h0:3≤s.stack.length) (hse: -100≤se) (h1:0≤s.top 2) (h2:s.top 2 < M.nm 1) (h3:20≤se):
  Spec Tryz.prog 149 (aY [.ptr (0,9) 0, .v (.int .i64 n)] (ki M s dr se)) (be (.tup []) (jY M { s with stack:=s.pop 3 } dr se (2,8) (3,8) (5,8)) [(0,9),(1,9),(2,8),(3,8),(4,9),(5,8)] [(0,9),(1,9),(4,9)]):=by
 have h2x:=bS M { s with stack:=s.pop 1 } dr se (by have:=cb s 1;simp only;omega) (by have:=cb s 1;simp only;omega)
 rw [ej s 0 1 ab,eo,Nat.zero_add] at h2x
 have h3x:=bS M { s with stack:=s.pop 2 } dr se (by have:=cb s 2;simp only;omega) (by have:=cb s 2;simp only;omega)
 rw [ej s 0 2 ab,eo,Nat.zero_add] at h3x
 refine Spec.ofNI Tryz.func149 rfl Tryz.ntmps149 rfl ?_
 refine am (bN rfl (cu (Le.incT (8,0) rfl) ?_))
 refine aj (bk aa [((3,8),(8,0))] ar (bS M s dr se ab ab) ob tr tr rfl ae ae) ?_
 refine bN rfl (cu (Le.incT (10,0) rfl) ?_)
 refine aj (bk aa [((3,9),(8,0)),((3,8),(10,0))] ar (h2x) ob tr tr rfl ae ae) ?_
 refine bN rfl (cu (Le.incT (12,0) rfl) ?_)
 refine aj (bk aa [((3,9),(10,0)),((3,8),(12,0))] ar (h3x) ob tr tr rfl ae ae) ?_
 refine bc rfl (bc rfl (bc rfl (ai (am (aV rfl (aj (fj (r:=true) _ _ rfl rfl (decide_eq_true ab)) ?_))))))
 refine cE rfl (ax rfl rfl (aH _ (rfl:_=AV.v (.int _ _))) (ax rfl rfl (aH _ (rfl:_=AV.ptr _ _)) (ax rfl rfl (aJ _ rfl rfl) (ax rfl rfl (aD _ aa rfl rfl rfl) (ax rfl rfl (aD _ aa rfl rfl rfl) (ax rfl rfl (em _ _ aa rfl rfl rfl 1 rfl ab ag) ?_))))))
 refine ax rfl rfl (aG _ aa rfl rfl (rfl:_=some (AV.v (.int _ _)))) (ax rfl rfl (bo (r:=true) _ _ rfl rfl (decide_eq_true ab)) ?_)
 refine aj (az _ _ _ rfl (rfl:_=AV.v (.bool _))) (cE rfl (ax rfl rfl (aH _ (rfl:_=AV.ptr _ _)) (ax rfl rfl (aJ _ rfl rfl) (ax rfl rfl (aD _ aa rfl rfl rfl) (ax rfl rfl (aG _ aa rfl rfl (rfl:_=some (AV.v (.int _ _)))) (ax rfl rfl (bo (r:=false) _ _ rfl rfl (decide_eq_false ab)) ?_))))))
 exact aj (az _ _ _ rfl (rfl:_=AV.v (.bool _))) (ai (aS rfl rfl (bA (et (.inl rfl) rfl (Le.outI [((2,8),(2,9)),((3,8),(12,0)),((5,8),(5,9))] [] (.tup rfl br) rfl rfl rfl trivial ob tr rfl)))))
abbrev xq (ans asked:List Int) (ak:ay):List (ay×Cells):=[((4,9), .box 129 [.sl ans.length (dS ans), .ref ak 0 asked.length, .v (.bool true)]),(ak, .row 3 1 (dS asked))]
theorem Bi (ans asked:List Int) (k:Int) (hl:asked.length≤90000) (hi:asked.length < ans.length) (hn:ans.length≤4611686018427387904):
  Spec Tryz.prog 60 (aY [.ptr (4,9) 0, .v (.int .i64 (asked.length:Int)), .v (.int .i64 k)] (xq ans asked (5,9))) (be (.v (.int .i64 (ans.getD asked.length 0))) (xq ans (asked++[k]) (5,8)) [(4,9),(5,8)] [(4,9)]):=by
 have hl1:(asked++[k]).length=asked.length+1:=by simp
 refine Spec.ofNI Tryz.func60 rfl Tryz.ntmps60 rfl ?_
 refine am (bc rfl (ai (aq (am (aV rfl (bN rfl (aj (aJ _ rfl rfl) (bu rfl rfl rfl (aj (aG _ aa rfl rfl (rfl:_=some (AV.ref _ _ _))) (aj (dh _ aa rfl rfl) ?_))))))))))
 refine aj (bY (r:=false) _ _ rfl rfl (by simp)) ?_
 refine ai (aS rfl rfl (aO (am (bN rfl (bN rfl (aj (aJ _ rfl rfl) (bu rfl rfl rfl (aj (aG _ aa rfl rfl (rfl:_=some (AV.ref _ _ _))) (aV rfl (aj (bi _ _ aa rfl ag (by (simp <;> rfl)) ah rfl) ?_))))))))))
 refine cu (Le.incT (24,0) rfl) ?_
 refine aj (mS (b:=true) (24,0) _ _ aa rfl rfl (by simp) (.sl rfl) ab rfl rfl rfl (mX _ k) hl1.symm) ?_
 refine aj (aJ _ rfl rfl) (bu rfl rfl rfl (cF rfl rfl rfl rfl rfl rfl (ai (aq (aq ?_)))))
 refine aQ (σ':=aA 45 [(0,_),(1,_)] [((4,9),_),((24,0),_)] [(4,9),(24,0)] [(4,9)]) kp ?_
 refine an (aV rfl (aj (bo (r:=false) _ _ rfl rfl (decide_eq_false ab)) ?_))
 refine cE rfl (ax rfl rfl (aH _ (rfl:_=AV.v (.int _ _))) (ax rfl rfl (aH _ (rfl:_=AV.ptr _ _)) (ax rfl rfl (aJ _ rfl rfl) (ax rfl rfl (aD _ aa rfl rfl rfl) (ax rfl rfl (aG _ aa rfl rfl (rfl:_=some (AV.sl _ _))) (ax rfl rfl (bD _ aa rfl) (ax rfl rfl (fj (r:=false) _ _ rfl rfl (decide_eq_false ab)) ?_)))))))
 refine aj (az _ _ _ rfl (rfl:_=AV.v (.bool _))) (ai (aS rfl rfl (aO (am (bN rfl (aj (aJ _ rfl rfl) (bu rfl rfl rfl (eY rfl rfl rfl (aV rfl (aj (bl _ _ aa rfl rfl _ rfl ab (by (simp only [aU,bj,bh,aU,bF,fk];omega)) (by exact Nat.mul_one _)) ?_))))))))))
 refine aj (bU _ aa rfl (by exact dz _ _ ab) rfl) ?_
 exact bc rfl (ai (aE (aW (.inr rfl) rfl (.tmp (rfl:_=AV.v _)) (Le.outI [((5,8),(24,0))] [] .v rfl rfl rfl trivial ob tr rfl))))
theorem xW (ans asked:List Int) (k:Int) (hl:asked.length≤90000) (hi:ans.length≤asked.length) (hn:ans.length≤4611686018427387904):
  Spec Tryz.prog 60 (aY [.ptr (4,9) 0, .v (.int .i64 (asked.length:Int)), .v (.int .i64 k)] (xq ans asked (5,9))) (be (.v (.int .i64 (0))) (xq ans (asked++[k]) (5,8)) [(4,9),(5,8)] [(4,9)]):=by
 have hl1:(asked++[k]).length=asked.length+1:=by simp
 refine Spec.ofNI Tryz.func60 rfl Tryz.ntmps60 rfl ?_
 refine am (bc rfl (ai (aq (am (aV rfl (bN rfl (aj (aJ _ rfl rfl) (bu rfl rfl rfl (aj (aG _ aa rfl rfl (rfl:_=some (AV.ref _ _ _))) (aj (dh _ aa rfl rfl) ?_))))))))))
 refine aj (bY (r:=false) _ _ rfl rfl (by simp)) ?_
 refine ai (aS rfl rfl (aO (am (bN rfl (bN rfl (aj (aJ _ rfl rfl) (bu rfl rfl rfl (aj (aG _ aa rfl rfl (rfl:_=some (AV.ref _ _ _))) (aV rfl (aj (bi _ _ aa rfl ag (by (simp <;> rfl)) ah rfl) ?_))))))))))
 refine cu (Le.incT (24,0) rfl) ?_
 refine aj (mS (b:=true) (24,0) _ _ aa rfl rfl (by simp) (.sl rfl) ab rfl rfl rfl (mX _ k) hl1.symm) ?_
 refine aj (aJ _ rfl rfl) (bu rfl rfl rfl (cF rfl rfl rfl rfl rfl rfl (ai (aq (aq ?_)))))
 refine aQ (σ':=aA 45 [(0,_),(1,_)] [((4,9),_),((24,0),_)] [(4,9),(24,0)] [(4,9)]) kp ?_
 refine an (aV rfl (aj (bo (r:=false) _ _ rfl rfl (decide_eq_false ab)) ?_))
 refine cE rfl (ax rfl rfl (aH _ (rfl:_=AV.v (.int _ _))) (ax rfl rfl (aH _ (rfl:_=AV.ptr _ _)) (ax rfl rfl (aJ _ rfl rfl) (ax rfl rfl (aD _ aa rfl rfl rfl) (ax rfl rfl (aG _ aa rfl rfl (rfl:_=some (AV.sl _ _))) (ax rfl rfl (bD _ aa rfl) (ax rfl rfl (fj (r:=true) _ _ rfl rfl (decide_eq_true ab)) ?_)))))))
 exact aj (az _ _ _ rfl (rfl:_=AV.v (.bool _))) (ai (bR rfl rfl (am (bc rfl (ai (aE (aW (.inr rfl) rfl (.tmp (rfl:_=AV.v _)) (Le.outI [((5,8),(24,0))] [] .v rfl rfl rfl trivial ob tr rfl))))))))
theorem vH (ans asked:List Int) (k:Int) (hl:asked.length≤90000) (hn:ans.length≤4611686018427387904):
  Spec Tryz.prog 60 (aY [.ptr (4,9) 0, .v (.int .i64 (asked.length:Int)), .v (.int .i64 k)] (xq ans asked (5,9))) (be (.v (.int .i64 (ans.getD asked.length 0))) (xq ans (asked++[k]) (5,8)) [(4,9),(5,8)] [(4,9)]):=by
 by_cases hi:asked.length < ans.length
 ·exact Bi ans asked k hl hi hn
 ·have h:=xW ans asked k hl ab hn
  rw [List.getD_eq_getElem?_getD,List.getElem?_eq_none ab];exact h
end

theorem CF (v k:Int) (hk:1≤k): -k < v.tmod k∧v.tmod k < k∧(v.tmod k+k).tmod k=v % k:=by
 have h1:v.tmod k < k:=Int.tmod_lt_of_pos v ab
 have h2: -k < v.tmod k:=by
  have:=Int.tmod_lt_of_pos (-v) (show 0 < k by omega)
  rw [Int.neg_tmod] at this;omega
 refine ⟨h2,h1,?_⟩
 rw [Int.tmod_eq_emod_of_nonneg ab,Int.add_emod_right,Int.tmod_def,Int.sub_mul_emod_self_left]
section
variable (M:Mk) (s:Ms) (dr se:Int)
theorem BF (hs:s.stack.length≤90000) (h0:0 < s.stack.length) (hk:max 1 (min (s.top 0) 4)=1):
  Spec Tryz.prog 135 (aY [.ptr (0,9) 0] (ki M s (s.asked.length:Int) se)) (be (.v (.int .i64 0)) (jY M { s with stack:=s.pop 1 } (s.asked.length:Int) se (2,9) (3,8) (5,8)) [(0,9),(1,9),(2,9),(3,8),(4,9),(5,8)] [(0,9),(1,9),(2,9),(4,9)]):=by
 have hc:=kg (s.top 0) 1 4
 rw [hk] at hc
 refine Spec.ofNI Tryz.func135 rfl Tryz.ntmps135 rfl ?_
 refine am (bc rfl (ai (am (bN rfl (cu (Le.incT (6,0) rfl) ?_)))))
 refine aj (bk aa [((3,8),(6,0))] ar (bS M s (s.asked.length:Int) se ab h0) ob tr tr rfl ae ae) ?_
 refine aj (aC aa al (hc) rfl rfl) ?_
 refine bc rfl (ai (aq (am (aV rfl (jv rfl rfl rfl (ai (bR rfl rfl (am (bc rfl (ai ?_))))))))))
 exact aE (aW (.inr rfl) rfl (.tmp (rfl:_=AV.v _)) (Le.outI [((3,8),(6,0)),((5,8),(5,9))] [] .v rfl rfl rfl trivial ob tr rfl))
theorem Aw (hs:s.stack.length≤90000) (h0:0 < s.stack.length) (hq:s.asked.length≤90000) (hn:M.ans.length≤4611686018427387904) {k:Int} (hk:max 1 (min (s.top 0) 4)=k) (hk1:k≠1):
  Spec Tryz.prog 135 (aY [.ptr (0,9) 0] (ki M s (s.asked.length:Int) se)) (be (.v (.int .i64 (lM M.ans s.asked.length k))) (jY M { s with stack:=s.pop 1,asked:=s.asked++[k] } ((s.asked++[k]).length:Int) se (2,9) (3,8) (5,8)) [(0,9),(1,9),(2,9),(3,8),(4,9),(5,8)] [(0,9),(1,9),(2,9),(4,9)]):=by
 have hk2:1≤k∧k≤4:=by omega
 have hc:=kg (s.top 0) 1 4
 rw [hk] at hc
 have hask:=vH M.ans s.asked k hq hn
 have htm:=CF (M.ans.getD s.asked.length 0) k hk2.1
 refine Spec.ofNI Tryz.func135 rfl Tryz.ntmps135 rfl ?_
 refine am (bc rfl (ai (am (bN rfl (cu (Le.incT (6,0) rfl) ?_)))))
 refine aj (bk aa [((3,8),(6,0))] ar (bS M s (s.asked.length:Int) se ab h0) ob tr tr rfl ae ae) ?_
 refine aj (aC aa al (hc) rfl rfl) ?_
 refine bc rfl (ai (aq (am (aV rfl (fJ rfl rfl (beq_eq_false_iff_ne.2 hk1) ?_)))))
 refine ai (aS rfl rfl (aO (aT fun K5 hK5=> ?_)))
 refine aQ (Le.incT (19,0) rfl) ?_
 refine bT 13 [10,11,12,13,14,15,16,17,18,19,20,21,4] [(4,9),(19,0),(5,9)] ae ae rfl (aM rfl) (rfl:_=[_,_,_,_,_,_,_,_,_,_,_,_,_]) (rfl:_=[]) ?_
 refine ap (_,[]) (fun τ=> aH _ (rfl:_=AV.ptr _ _)) ?_
 refine fO rfl ?_
 refine ap (_,[]) (fun τ=> aJ _ rfl rfl) ?_
 refine fR rfl ?_
 refine ap (_,[]) (fun τ=> aD _ aa rfl rfl rfl) ?_
 refine fT rfl ?_
 refine ap (_,[]) (fun τ=> aG _ aa rfl rfl (rfl:_=some (AV.fn _ _ _))) ?_
 refine fP rfl ?_
 refine ap (_,[]) (fun τ=> aH _ (rfl:_=AV.ptr _ _)) ?_
 refine gb rfl ?_
 refine ap (_,[]) (fun τ=> aJ _ rfl rfl) ?_
 refine gC rfl ?_
 refine ap (_,[]) (fun τ=> aD _ aa rfl rfl rfl) ?_
 refine iy rfl ?_
 refine ap (_,[]) (fun τ=> aG _ aa rfl rfl (rfl:_=some (AV.v (.int _ _)))) ?_
 refine jy rfl ?_
 refine ap (_,[]) (fun τ=> aH _ (rfl:_=AV.v (.int _ _))) ?_
 refine jr rfl ?_
 refine ap (_,[((4,9),_),((19,0),_),((5,9), .gone)]) (fun τ=> (nx rfl aa [((5,8),(19,0))] ar (hask) ob tr tr rfl ae ae)) ?_
 refine fq rfl ?_
 refine ap (_,[]) (fun τ=> aH _ (rfl:_=AV.v (.int _ _))) ?_
 refine fv rfl ?_
 refine ap (_,[]) (fun τ=> kq _ _ rfl rfl ab rfl) ?_
 refine jf rfl ?_
 refine ap (_,[]) (fun τ=> bB _ (rfl:_=AV.v (.int _ _))) ?_
 refine jR rfl (bw ⟨rfl,?_⟩)
 refine aI (hK5 _ ?_)
 clear hK5;try clear K5
 refine aq ?_
 refine aQ (σ':=aA 34 [(0,_),(3,_),(4,_)] [((0,9),_),((1,9),_),((2,9),_),((4,9),_),((6,0),_),((19,0),_)] [(0,9),(1,9),(2,9),(4,9),(6,0),(19,0)] [(0,9),(1,9),(2,9),(4,9)]) kp ?_
 refine an (bN rfl (aj (aJ _ rfl rfl) (bu rfl rfl rfl (cw rfl rfl rfl (aj (aZ (r:=((s.asked++[k]).length:Int)) _ _ rfl rfl ((bJ ab).trans (by simp))) ?_)))))
 refine aj (aJ _ rfl rfl) (bu rfl rfl rfl (cF rfl rfl rfl rfl rfl rfl (ai (am (aV rfl (aV rfl (aj (aZ (r:=(M.ans.getD s.asked.length 0).tmod k+k) _ _ rfl rfl (bJ ab)) ?_)))))))
 refine aV rfl (aj (kq (r:=lM M.ans s.asked.length k) _ _ rfl rfl ab htm.2.2) ?_)
 exact bc rfl (ai (aE (aW (.inr rfl) rfl (.tmp (rfl:_=AV.v _)) (Le.outI [((3,8),(6,0)),((5,8),(19,0))] [] .v rfl rfl rfl trivial ob tr rfl))))
theorem pb (n:Int) (hs:s.stack.length≤90000) (h2:2≤s.stack.length) {g:FuncId} [bW Tryz.prog g] {r:Int} (hg:Spec Tryz.prog g (bf ([.v (.int .i64 (s.top 1)), .v (.int .i64 (s.top 0))]++[]) []) (aL (.v (.int .i64 r)) [])):
  Spec Tryz.prog 189 (aY [.ptr (0,9) 0, .v (.int .i64 n), .fp 0 [.fn (.func g) [] []]] (ki M s dr se)) (be (.tup []) (jY M { s with stack:=s.pop 2++[jK r] } dr se (2,8) (3,8) (5,8)) [(0,9),(1,9),(2,8),(3,8),(4,9),(5,8)] [(0,9),(1,9),(4,9)]):=by
 have h2x:=bS M { s with stack:=s.pop 1 } dr se (by have:=cb s 1;simp only;omega) (by have:=cb s 1;simp only;omega)
 rw [ej s 0 1 ab,eo,Nat.zero_add] at h2x
 refine Spec.ofNI Tryz.func189 rfl Tryz.ntmps189 rfl ?_
 refine am (bN rfl (cu (Le.incT (7,0) rfl) ?_))
 refine aj (bk aa [((3,8),(7,0))] ar (bS M s dr se ab ab) ob tr tr rfl ae ae) ?_
 refine bc rfl (ai ?_)
 refine aQ (Le.incT (11,0) rfl) ?_
 refine bT 6 [8,9,10,11,12,13] [(0,9),(1,9),(2,9),(11,0),(4,9),(5,9),(7,0)] ae ae rfl (aM rfl) (rfl:_=[_,_,_,_,_,_]) (rfl:_=[_]) ?_
 refine ap (_,[]) (fun τ=> aH _ (rfl:_=AV.ptr _ _)) ?_
 refine fO rfl ?_
 refine ap (_,[]) (fun τ=> bU _ aa rfl ag rfl) ?_
 refine fR rfl ?_
 refine ap (_,[]) (fun τ=> aH _ (rfl:_=AV.ptr _ _)) ?_
 refine fT rfl ?_
 refine ap (_,[((0,9),_),((1,9),_),((2,9),_),((11,0),_),((4,9),_),((5,9),_),((7,0), .gone)]) (fun τ=> (bk aa [((3,9),(7,0)),((3,8),(11,0))] ar (h2x) ob tr tr rfl ae ae)) ?_
 refine fP rfl ?_
 refine ap (_,[]) (fun τ=> aH _ (rfl:_=AV.v (.int _ _))) ?_
 refine gb rfl ?_
 refine ap (_,[]) (fun τ=> (jJ rfl aa al (hg) rfl rfl)) ?_
 refine gC rfl (bw ⟨rfl,?_⟩)
 refine cu (Le.incT (14,0) rfl) ?_
 refine aj (bk aa [((3,9),(11,0)),((3,8),(14,0))] ar (dJ M { s with stack:=s.pop 2 } dr se r (by have:=cb s 2;simp only;omega)) ob tr tr rfl ae ae) ?_
 exact aI (et (.inl rfl) rfl (Le.outI [((2,8),(2,9)),((3,8),(14,0)),((5,8),(5,9))] [] (.tup rfl br) rfl rfl rfl trivial ob tr rfl))
theorem rh (n:Int) (hs:s.stack.length≤90000) (h2:2≤s.stack.length) {g:FuncId} [bW Tryz.prog g] {f:FuncId} {r:Int} (hg:Spec Tryz.prog g (bf ([.v (.int .i64 (s.top 1)), .v (.int .i64 (s.top 0))]++[.fp 0 [.fn (.func f) [] []]]) []) (aL (.v (.int .i64 r)) [])):
  Spec Tryz.prog 189 (aY [.ptr (0,9) 0, .v (.int .i64 n), .fp 0 [.fn (.func g) [] [.ptr 0 [.fn (.func f) [] []]]]] (ki M s dr se)) (be (.tup []) (jY M { s with stack:=s.pop 2++[jK r] } dr se (2,8) (3,8) (5,8)) [(0,9),(1,9),(2,8),(3,8),(4,9),(5,8)] [(0,9),(1,9),(4,9)]):=by
 have h2x:=bS M { s with stack:=s.pop 1 } dr se (by have:=cb s 1;simp only;omega) (by have:=cb s 1;simp only;omega)
 rw [ej s 0 1 ab,eo,Nat.zero_add] at h2x
 refine Spec.ofNI Tryz.func189 rfl Tryz.ntmps189 rfl ?_
 refine am (bN rfl (cu (Le.incT (7,0) rfl) ?_))
 refine aj (bk aa [((3,8),(7,0))] ar (bS M s dr se ab ab) ob tr tr rfl ae ae) ?_
 refine bc rfl (ai ?_)
 refine aQ (Le.incT (11,0) rfl) ?_
 refine bT 6 [8,9,10,11,12,13] [(0,9),(1,9),(2,9),(11,0),(4,9),(5,9),(7,0)] ae ae rfl (aM rfl) (rfl:_=[_,_,_,_,_,_]) (rfl:_=[_]) ?_
 refine ap (_,[]) (fun τ=> aH _ (rfl:_=AV.ptr _ _)) ?_
 refine fO rfl ?_
 refine ap (_,[]) (fun τ=> bU _ aa rfl ag rfl) ?_
 refine fR rfl ?_
 refine ap (_,[]) (fun τ=> aH _ (rfl:_=AV.ptr _ _)) ?_
 refine fT rfl ?_
 refine ap (_,[((0,9),_),((1,9),_),((2,9),_),((11,0),_),((4,9),_),((5,9),_),((7,0), .gone)]) (fun τ=> (bk aa [((3,9),(7,0)),((3,8),(11,0))] ar (h2x) ob tr tr rfl ae ae)) ?_
 refine fP rfl ?_
 refine ap (_,[]) (fun τ=> aH _ (rfl:_=AV.v (.int _ _))) ?_
 refine gb rfl ?_
 refine ap (_,[]) (fun τ=> (jJ rfl aa al (hg) rfl rfl)) ?_
 refine gC rfl (bw ⟨rfl,?_⟩)
 refine cu (Le.incT (14,0) rfl) ?_
 refine aj (bk aa [((3,9),(11,0)),((3,8),(14,0))] ar (dJ M { s with stack:=s.pop 2 } dr se r (by have:=cb s 2;simp only;omega)) ob tr tr rfl ae ae) ?_
 exact aI (et (.inl rfl) rfl (Le.outI [((2,8),(2,9)),((3,8),(14,0)),((5,8),(5,9))] [] (.tup rfl br) rfl rfl rfl trivial ob tr rfl))
end

theorem vm {x y:Int} (hx:Rg x) (hy:Rg y): -9223372036854775808≤x*y∧x*y≤9223372036854775807:=by
 unfold Rg at hx hy
 have h1:(x*y).natAbs≤2147483647*2147483647:=by
  rw [Int.natAbs_mul]
  exact Nat.mul_le_mul ab ab
 omega
theorem so {x y:Int} (hx:Rg x): -2147483647≤x.tdiv y∧x.tdiv y≤2147483647:=by
 unfold Rg at hx
 have h1:(x.tdiv y).natAbs≤x.natAbs:=by
  rw [Int.natAbs_tdiv]
  exact Nat.div_le_self _ _
 omega
section
variable (M:Mk) (s:Ms) (dr se:Int)
theorem uQ (n:Int) (hs:s.stack.length≤90000) (h0:0 < s.stack.length) (hk:max 1 (min (s.top 0) 4)=1):
  Spec Tryz.prog 134 (aY [.ptr (0,9) 0, .v (.int .i64 n)] (ki M s (s.asked.length:Int) se)) (be (.tup []) (jY M { s with stack:=s.pop 1++[0] } (s.asked.length:Int) se (2,8) (3,8) (5,8)) [(0,9),(1,9),(2,8),(3,8),(4,9),(5,8)] [(0,9),(1,9),(4,9)]):=by
 rw [show (0:Int)=jK 0 from ah]
 refine Spec.ofNI Tryz.func134 rfl Tryz.ntmps134 rfl ?_
 refine an (bN rfl (bN rfl (cu ((Le.incT (6,1) rfl).trans (Le.incT (6,0) rfl)) ?_)))
 refine aj (bk aa [((3,8),(6,0)),((5,8),(6,1))] ar (BF M s se ab h0 hk) ob tr tr rfl ae ae) ?_
 refine cu (Le.incT (7,0) rfl) ?_
 refine aj (bk aa [((3,9),(6,0)),((5,9),(6,1)),((3,8),(7,0))] ar (dJ M { s with stack:=s.pop 1 } (s.asked.length:Int) se 0 (by have:=cb s 1;simp only;omega)) ob tr tr rfl ae ae) ?_
 exact aI (et (.inl rfl) rfl (Le.outI [((2,8),(2,9)),((3,8),(7,0)),((5,8),(6,1))] [] (.tup rfl br) rfl rfl rfl trivial ob tr rfl))
theorem wT (n:Int) (hs:s.stack.length≤90000) (h0:0 < s.stack.length) (hq:s.asked.length≤80000) (hn:M.ans.length≤4611686018427387904) {k:Int} (hk:max 1 (min (s.top 0) 4)=k) (hk1:k≠1):
  Spec Tryz.prog 134 (aY [.ptr (0,9) 0, .v (.int .i64 n)] (ki M s (s.asked.length:Int) se)) (be (.tup []) (jY M { s with stack:=s.pop 1++[lM M.ans s.asked.length k],asked:=s.asked++[k] } ((s.asked++[k]).length:Int) se (2,8) (3,8) (5,8)) [(0,9),(1,9),(2,8),(3,8),(4,9),(5,8)] [(0,9),(1,9),(4,9)]):=by
 have ha:lM M.ans s.asked.length k=jK (lM M.ans s.asked.length k):=by
  have h1:=Int.emod_nonneg (M.ans.getD s.asked.length 0) (show k≠0 by omega)
  have h2:=Int.emod_lt_of_pos (M.ans.getD s.asked.length 0) (show 0 < k by omega)
  unfold lM jK;omega
 rw [ha]
 refine Spec.ofNI Tryz.func134 rfl Tryz.ntmps134 rfl ?_
 refine an (bN rfl (bN rfl (cu ((Le.incT (6,1) rfl).trans (Le.incT (6,0) rfl)) ?_)))
 refine aj (bk aa [((3,8),(6,0)),((5,8),(6,1))] ar (Aw M s se ab h0 ab hn hk hk1) ob tr tr rfl ae ae) ?_
 refine cu (Le.incT (7,0) rfl) ?_
 refine aj (bk aa [((3,9),(6,0)),((5,9),(6,1)),((3,8),(7,0))] ar (dJ M { s with stack:=s.pop 1,asked:=s.asked++[k] } ((s.asked++[k]).length:Int) se (lM M.ans s.asked.length k) (by have:=cb s 1;simp only;omega)) ob tr tr rfl ae ae) ?_
 exact aI (et (.inl rfl) rfl (Le.outI [((2,8),(2,9)),((3,8),(7,0)),((5,8),(6,1))] [] (.tup rfl br) rfl rfl rfl trivial ob tr rfl))
end
theorem CH {y x:Int} (hy:Rg y) (hx:Rg x):Spec Tryz.prog 137 (bf [.v (.int .i64 y), .v (.int .i64 x)] []) (aL (.v (.int .i64 (y+x))) []):=by
 refine Spec.ofN Tryz.func137 rfl Tryz.ntmps137 rfl ?_
 refine am (bc rfl (ai (am (aV rfl (aV rfl (aj (aZ (r:=y+x) _ _ rfl rfl (bJ (by unfold Rg at hy hx;omega))) ?_))))))
 exact bc rfl (ai (aE (aW (.inr rfl) rfl (.tmp (rfl:_=AV.v _)) (Le.out [] [] .v rfl rfl rfl trivial trivial))))
theorem Cw {y x:Int} (hy:Rg y) (hx:Rg x):Spec Tryz.prog 138 (bf [.v (.int .i64 y), .v (.int .i64 x)] []) (aL (.v (.int .i64 (y - x))) []):=by
 refine Spec.ofN Tryz.func138 rfl Tryz.ntmps138 rfl ?_
 refine am (bc rfl (ai (am (aV rfl (aV rfl (aj (gK (r:=y - x) _ _ rfl rfl (bJ (by unfold Rg at hy hx;omega))) ?_))))))
 exact bc rfl (ai (aE (aW (.inr rfl) rfl (.tmp (rfl:_=AV.v _)) (Le.out [] [] .v rfl rfl rfl trivial trivial))))
theorem CP {y x:Int} (hy:Rg y) (hx:Rg x):Spec Tryz.prog 139 (bf [.v (.int .i64 y), .v (.int .i64 x)] []) (aL (.v (.int .i64 (y*x))) []):=by
 refine Spec.ofN Tryz.func139 rfl Tryz.ntmps139 rfl ?_
 refine am (bc rfl (ai (am (aV rfl (aV rfl (aj (pz (r:=y*x) _ _ rfl rfl (bJ (vm hy hx))) ?_))))))
 exact bc rfl (ai (aE (aW (.inr rfl) rfl (.tmp (rfl:_=AV.v _)) (Le.out [] [] .v rfl rfl rfl trivial trivial))))
theorem Cz {y x:Int} (hy:Rg y):Spec Tryz.prog 140 (bf [.v (.int .i64 y), .v (.int .i64 x)] []) (aL (.v (.int .i64 (if x=0 then 0 else y.tdiv x))) []):=by
 have hd:=so (y:=x) hy
 by_cases h0:x=0
 ·rw [if_pos h0]
  refine Spec.ofN Tryz.func140 rfl Tryz.ntmps140 rfl ?_
  refine am (bc rfl (ai (aq (am (aV rfl (aj (bH _ _ rfl rfl rfl) (ai (bR rfl (decide_eq_true h0) ?_))))))))
  exact am (bc rfl (ai (aE (aW (.inr rfl) rfl (.tmp (rfl:_=AV.v _)) (Le.out [] [] .v rfl rfl rfl trivial trivial)))))
 ·rw [if_neg h0]
  refine Spec.ofN Tryz.func140 rfl Tryz.ntmps140 rfl ?_
  refine am (bc rfl (ai (aq (am (aV rfl (aj (bH _ _ rfl rfl rfl) (ai (aS rfl (decide_eq_false h0) ?_))))))))
  refine aO (am (aV rfl (aV rfl (aj (vE (r:=y.tdiv x) _ _ rfl rfl h0 (bJ ab)) ?_))))
  exact bc rfl (ai (aE (aW (.inr rfl) rfl (.tmp (rfl:_=AV.v _)) (Le.out [] [] .v rfl rfl rfl trivial trivial))))
theorem Jg (y x:Int):Spec Tryz.prog 143 (bf [.v (.int .i64 y), .v (.int .i64 x)] []) (aL (.v (.bool (decide (y < x)))) []):=by
 refine Spec.ofN Tryz.func143 rfl Tryz.ntmps143 rfl ?_
 exact am (ce rfl (ai (am (aV rfl (aV rfl (aj (bo _ _ rfl rfl rfl) (ce rfl (ai (aE (aW (.inr rfl) rfl (.tmp (rfl:_=AV.v _)) (Le.out [] [] .v rfl rfl rfl trivial trivial)))))))))))
theorem HI (y x:Int):Spec Tryz.prog 144 (bf [.v (.int .i64 y), .v (.int .i64 x)] []) (aL (.v (.bool (decide (y≤x)))) []):=by
 refine Spec.ofN Tryz.func144 rfl Tryz.ntmps144 rfl ?_
 exact am (ce rfl (ai (am (aV rfl (aV rfl (aj (pA _ _ rfl rfl rfl) (ce rfl (ai (aE (aW (.inr rfl) rfl (.tmp (rfl:_=AV.v _)) (Le.out [] [] .v rfl rfl rfl trivial trivial)))))))))))
theorem Ip (y x:Int):Spec Tryz.prog 145 (bf [.v (.int .i64 y), .v (.int .i64 x)] []) (aL (.v (.bool (decide (y=x)))) []):=by
 refine Spec.ofN Tryz.func145 rfl Tryz.ntmps145 rfl ?_
 exact am (ce rfl (ai (am (aV rfl (aV rfl (aj (bH _ _ rfl rfl rfl) (ce rfl (ai (aE (aW (.inr rfl) rfl (.tmp (rfl:_=AV.v _)) (Le.out [] [] .v rfl rfl rfl trivial trivial)))))))))))
theorem wQ {f:FuncId} [bW Tryz.prog f] {y x:Int} {b:Bool} (hg:Spec Tryz.prog f (bf [.v (.int .i64 y), .v (.int .i64 x)] []) (aL (.v (.bool b)) [])):Spec Tryz.prog 190 (bf [.v (.int .i64 y), .v (.int .i64 x), .fp 0 [.fn (.func f) [] []]] []) (aL (.v (.int .i64 (flag b))) []):=by
 cases b
 ·skip
  refine Spec.ofN Tryz.func190 rfl Tryz.ntmps190 rfl ?_
  refine am (bc rfl (ai (aq (am (aj (bU _ aa rfl ag rfl) ?_)))))
  refine aV rfl (aV rfl (aj (jJ rfl aa al (hg) rfl rfl) ?_))
  exact ai (aS rfl rfl (aO (am (bc rfl (ai (aE (aW (.inr rfl) rfl (.tmp (rfl:_=AV.v _)) (Le.out [] [] .v rfl rfl rfl trivial trivial))))))))
 ·skip
  refine Spec.ofN Tryz.func190 rfl Tryz.ntmps190 rfl ?_
  refine am (bc rfl (ai (aq (am (aj (bU _ aa rfl ag rfl) ?_)))))
  refine aV rfl (aV rfl (aj (jJ rfl aa al (hg) rfl rfl) ?_))
  exact ai (bR rfl rfl (am (bc rfl (ai (aE (aW (.inr rfl) rfl (.tmp (rfl:_=AV.v _)) (Le.out [] [] .v rfl rfl rfl trivial trivial)))))))
theorem kD (g:FuncId):Spec Tryz.prog 136 (bf [.fn (.func g) [] []] []) (aL (.fn (.func 189) [] [.fp 0 [.fn (.func g) [] []]]) []):=by
 refine Spec.ofN Tryz.func136 rfl Tryz.ntmps136 rfl ?_
 refine am (aj (bg (1,0) _ rfl rfl) (aj (bB _ (rfl:_=AV.v _)) (ai (am (aj (ol _ _ (rfl:_=[]) (rfl:_=[_])) ?_)))))
 exact aj (bB _ (rfl:_=AV.fn _ _ _)) (ai (aE (aW (.inr rfl) rfl (.tmp (rfl:_=AV.fn _ _ _)) (Le.out [] [(1,0)] (.fn rfl br rfl (aB (Lv.frzP rfl rfl rfl) br)) rfl rfl rfl tr trivial))))
theorem sU (g:FuncId) (f:FuncId):Spec Tryz.prog 136 (bf [.fn (.func g) [] [.fp 0 [.fn (.func f) [] []]]] []) (aL (.fn (.func 189) [] [.fp 0 [.fn (.func g) [] [.ptr 0 [.fn (.func f) [] []]]]]) []):=by
 refine Spec.ofN Tryz.func136 rfl Tryz.ntmps136 rfl ?_
 refine am (aj (bg (1,0) _ rfl rfl) (aj (bB _ (rfl:_=AV.v _)) (ai (am (aj (ol _ _ (rfl:_=[]) (rfl:_=[_])) ?_)))))
 exact aj (bB _ (rfl:_=AV.fn _ _ _)) (ai (aE (aW (.inr rfl) rfl (.tmp (rfl:_=AV.fn _ _ _)) (Le.out [] [(1,0)] (.fn rfl br rfl (aB (Lv.frzP rfl rfl rfl) br)) rfl rfl rfl tr trivial))))
theorem mE (f:FuncId):Spec Tryz.prog 142 (bf [.fn (.func f) [] []] []) (aL (.fn (.func 189) [] [.fp 0 [.fn (.func 190) [] [.ptr 0 [.fn (.func f) [] []]]]]) []):=by
 have hb:=sU 190 f
 refine Spec.ofN Tryz.func142 rfl Tryz.ntmps142 rfl ?_
 refine am (aj (bg (1,0) _ rfl rfl) (aj (bB _ (rfl:_=AV.v _)) (ai (aq ?_))))
 refine aQ (Le.frzPt 1 rfl rfl rfl rfl) ?_
 refine an (aj (ol _ _ (rfl:_=[]) (rfl:_=[_])) ?_)
 refine aj (aC aa al (hb) rfl rfl) ?_
 exact aj (bB _ (rfl:_=AV.fn _ _ _)) (ai (aE (aW (.inr rfl) rfl (.tmp (rfl:_=AV.fn _ _ _)) (Le.out [] [] (.fn rfl br rfl lz) rfl rfl rfl trivial trivial))))

def Fb:Opc→FuncId
 | .push=> 127
 | .var=> 128
 | .setVar=> 130
 | .name=> 133
 | .draw=> 134
 | .add=> 189
 | .sub=> 189
 | .mul=> 189
 | .div=> 189
 | .neg=> 141
 | .lt=> 189
 | .le=> 189
 | .eq=> 189
 | .not=> 146
 | .jump=> 147
 | .unl=> 148
 | .send=> 149
 | .timer=> 150
 | .cancel=> 151
 | .sync=> 152
 | .reply=> 153
 | .fail=> 154
 | .stop=> 155
def EW:Opc→List PV
 | .push=> []
 | .var=> []
 | .setVar=> []
 | .name=> []
 | .draw=> []
 | .add=> [.ptr 0 [.fn (.func 137) [] []]]
 | .sub=> [.ptr 0 [.fn (.func 138) [] []]]
 | .mul=> [.ptr 0 [.fn (.func 139) [] []]]
 | .div=> [.ptr 0 [.fn (.func 140) [] []]]
 | .neg=> []
 | .lt=> [.ptr 0 [.fn (.func 190) [] [.ptr 0 [.fn (.func 143) [] []]]]]
 | .le=> [.ptr 0 [.fn (.func 190) [] [.ptr 0 [.fn (.func 144) [] []]]]]
 | .eq=> [.ptr 0 [.fn (.func 190) [] [.ptr 0 [.fn (.func 145) [] []]]]]
 | .not=> []
 | .jump=> []
 | .unl=> []
 | .send=> []
 | .timer=> []
 | .cancel=> []
 | .sync=> []
 | .reply=> []
 | .fail=> []
 | .stop=> []
abbrev Cq:List AV:=[.v .nilFunc, .fn (.func 127) [] [], .fn (.func 128) [] [], .fn (.func 130) [] [], .fn (.func 133) [] [], .fn (.func 134) [] [], .fn (.func 189) [] [.fp 0 [.fn (.func 137) [] []]], .fn (.func 189) [] [.fp 0 [.fn (.func 138) [] []]], .fn (.func 189) [] [.fp 0 [.fn (.func 139) [] []]], .fn (.func 189) [] [.fp 0 [.fn (.func 140) [] []]], .fn (.func 141) [] [], .fn (.func 189) [] [.fp 0 [.fn (.func 190) [] [.ptr 0 [.fn (.func 143) [] []]]]], .fn (.func 189) [] [.fp 0 [.fn (.func 190) [] [.ptr 0 [.fn (.func 144) [] []]]]], .fn (.func 189) [] [.fp 0 [.fn (.func 190) [] [.ptr 0 [.fn (.func 145) [] []]]]], .fn (.func 146) [] [], .fn (.func 147) [] [], .fn (.func 148) [] [], .fn (.func 149) [] [], .fn (.func 150) [] [], .fn (.func 151) [] [], .fn (.func 152) [] [], .fn (.func 153) [] [], .fn (.func 154) [] [], .fn (.func 155) [] []]
theorem zm (o:Opc):Cq[o.num]? =some (.fn (.func (Fb o)) [] (PV.ups (EW o))):=by cases o <;> rfl
instance Ee (o:Opc):bW Tryz.prog (Fb o):=by cases o <;> (unfold Fb;infer_instance)
theorem wB:Spec Tryz.prog 93 (bf [] []) (aL (.agg Cq) []):=by
 refine Spec.ofN Tryz.func93 rfl Tryz.ntmps93 rfl ?_
 refine am (aj (aR (0,0) aa rfl rfl) (ai (am (aj (aC aa al (kD 137) rfl rfl) ?_))))
 refine aj (aC aa al (kD 138) rfl rfl) ?_
 refine aj (aC aa al (kD 139) rfl rfl) ?_
 refine aj (aC aa al (kD 140) rfl rfl) ?_
 refine aj (aC aa al (mE 143) rfl rfl) ?_
 refine aj (aC aa al (mE 144) rfl rfl) ?_
 refine aj (aC aa al (mE 145) rfl rfl) ?_
 refine aj (aF _ aa rfl (by exact (rfl:_=some [_,_,_,_,_,_,_,_,_,_,_,_,_,_,_,_,_,_,_,_,_,_,_,_]))) ?_
 exact cF rfl rfl rfl rfl rfl rfl (ai (aE (aW (.inr rfl) rfl (.cellA aa rfl rfl rfl) (Le.out [] [] (.agg rfl lz) rfl rfl rfl trivial trivial))))
theorem eV (l:List Ac) (a:Ac):cg (l++[a])=if a.k=3 then cg l+1 else cg l:=by
 unfold cg
 rw [List.countP_append,List.countP_singleton]
 by_cases h:a.k=3 <;> simp [h]
theorem mD (b:Bool):jK (flag b)=flag b:=by cases b <;> decide
theorem BE (M:Mk) (s:Ms) (x:dY) (nv:Nat) (hx:cJ nv x) (hv:IV M.cx nv s) (hp:x.op.pops≤s.stack.length) (hs:s.stack.length≤80000) (ha:s.acts.length≤80000) (hq:s.asked.length≤80000) (hn:M.ans.length≤4611686018427387904):
  Spec Tryz.prog (Fb x.op) (aY ([.ptr (0,9) 0, .v (.int .i64 x.n)]++PV.ups (EW x.op)) (ki M s (s.asked.length:Int) (cg s.acts:Int))) (be (.tup []) (jY M (dk M.cx x s) ((dk M.cx x s).asked.length:Int) (cg (dk M.cx x s).acts:Int) (2,8) (3,8) (5,8)) [(0,9),(1,9),(2,8),(3,8),(4,9),(5,8)] [(0,9),(1,9),(4,9)]):=by
 have rs0:=qS hv.rs 0
 have rs1:=qS hv.rs 1
 have hvl:=hv.vl
 have hsn:=hv.sn
 have hnat: ∀ n:Int,0≤n→ ∃ k:Nat,n=k:=fun n h=> ⟨n.toNat,by omega⟩
 obtain ⟨o,n⟩:=x
 have hpp:o.pops≤s.stack.length:=hp
 cases o
 case push=> exact yn M s _ _ n ab
 case var=>
  obtain ⟨k,rfl⟩:=hnat n hx.1
  have hk:(k:Int) < nv:=hx.2
  exact zq M s _ _ k ab ab
 case setVar=>
  obtain ⟨k,rfl⟩:=hnat n hx.1
  have hk:(k:Int) < nv:=hx.2
  by_cases hd:k < M.P.d
  ·have h:=vz M s (s.asked.length:Int) (cg s.acts:Int) k ab ab ab hpp hd
   have e:dk M.cx ⟨.setVar,(k:Int)⟩ s={ s with vars:=s.vars.set k (s.top 0),stack:=s.pop 1,acts:=s.acts++[{ k:=1,a:=k,b:=s.top 0 }] }:=by
    simp only [dk,Int.toNat_natCast]
    rw [if_pos (show (k:Int) < ((M.P.d:Nat):Int) by omega)]
   rw [e]
   rw [show cg (s.acts++[{ k:=1,a:=k,b:=s.top 0 }])=cg s.acts from eV _ _]
   exact h
  ·have h:=wX M s (s.asked.length:Int) (cg s.acts:Int) k ab ab hpp ab
   have e:dk M.cx ⟨.setVar,(k:Int)⟩ s={ s with vars:=s.vars.set k (s.top 0),stack:=s.pop 1 }:=by
    simp only [dk,Int.toNat_natCast]
    rw [if_neg (show ¬ (k:Int) < ((M.P.d:Nat):Int) by omega)]
   rw [e]
   exact h
 case name=>
  obtain ⟨k,rfl⟩:=hnat n hx.1
  have hk:(k:Int) < 9:=hx.2
  exact wW M s _ _ k ab ab
 case draw=>
  by_cases hk:max 1 (min (s.top 0) 4)=1
  ·have h:=uQ M s (cg s.acts:Int) n ab hpp hk
   have e:dk M.cx ⟨.draw,n⟩ s={ s with stack:=s.pop 1++[0] }:=if_pos hk
   rw [e];exact h
  ·have h:=wT M s (cg s.acts:Int) n ab hpp hq hn rfl hk
   have e:dk M.cx ⟨.draw,n⟩ s={ s with stack:=s.pop 1++[lM M.ans s.asked.length (max 1 (min (s.top 0) 4))],asked:=s.asked++[max 1 (min (s.top 0) 4)] }:=if_neg hk
   rw [e];exact h
 case add=> exact pb M s _ _ n ab hpp (CH rs1 rs0)
 case sub=> exact pb M s _ _ n ab hpp (Cw rs1 rs0)
 case mul=> exact pb M s _ _ n ab hpp (CP rs1 rs0)
 case div=>
  have h:=pb M s (s.asked.length:Int) (cg s.acts:Int) n ab hpp (Cz (x:=s.top 0) rs1)
  have e:dk M.cx ⟨.div,n⟩ s={ s with stack:=s.pop 2++[jK (if s.top 0=0 then 0 else (s.top 1).tdiv (s.top 0))] }:=by
   show { s with stack:=s.pop 2++[if s.top 0=0 then 0 else jK ((s.top 1).tdiv (s.top 0))] }=_
   split <;> rfl
  rw [e];exact h
 case neg=> exact xH M s _ _ n ab hpp rs0
 case not=>
  by_cases h0:s.top 0=0
  ·have h:=yg M s (s.asked.length:Int) (cg s.acts:Int) n ab hpp h0
   have e:dk M.cx ⟨.not,n⟩ s={ s with stack:=s.pop 1++[1] }:=by simp only [dk,h0,decide_true];rfl
   rw [e];exact h
  ·have h:=zD M s (s.asked.length:Int) (cg s.acts:Int) n ab hpp h0
   have e:dk M.cx ⟨.not,n⟩ s={ s with stack:=s.pop 1++[0] }:=by simp only [dk,h0,decide_false];rfl
   rw [e];exact h
 case jump=>
  obtain ⟨k,rfl⟩:=hnat n hx
  exact yK M s _ _ k
 case unl=>
  obtain ⟨k,rfl⟩:=hnat n hx
  by_cases h0:s.top 0=0
  ·have h:=xw M s (s.asked.length:Int) (cg s.acts:Int) k ab hpp h0
   have e:dk M.cx ⟨.unl,(k:Int)⟩ s={ s with stack:=s.pop 1,pc:=k }:=by simp only [dk,Int.toNat_natCast];rw [if_pos h0]
   rw [e];exact h
  ·have h:=xx M s (s.asked.length:Int) (cg s.acts:Int) k ab hpp h0
   have e:dk M.cx ⟨.unl,(k:Int)⟩ s={ s with stack:=s.pop 1 }:=by simp only [dk,Int.toNat_natCast];rw [if_neg h0]
   rw [e];exact h
 case send=>
  by_cases hc:0≤s.top 2∧s.top 2 < M.cx.names.getD 1 0∧cg s.acts < 20
  ·have h:=yy M s (s.asked.length:Int) (cg s.acts:Int) n ab ab hpp ab hc.1 hc.2.1 ab
   have e:dk M.cx ⟨.send,n⟩ s={ s with stack:=s.pop 3,acts:=s.acts++[{ k:=3,a:=s.top 2,b:=n,c:=s.top 1,d:=s.top 0 }] }:=by simp only [dk];rw [if_pos hc]
   rw [e]
   rw [show cg (s.acts++[{ k:=3,a:=s.top 2,b:=n,c:=s.top 1,d:=s.top 0 }])=cg s.acts+1 from eV _ _]
   exact h
  ·have e:dk M.cx ⟨.send,n⟩ s={ s with stack:=s.pop 3 }:=by simp only [dk];rw [if_neg hc]
   rw [e]
   by_cases h1:0≤s.top 2
   ·by_cases h2:s.top 2 < M.nm 1
    ·exact vc M s (s.asked.length:Int) (cg s.acts:Int) n ab ab hpp ab h1 h2 (by
      have: ¬ cg s.acts < 20:=fun h=> hc ⟨h1,h2,h⟩
      omega)
    ·exact wP M s (s.asked.length:Int) (cg s.acts:Int) n ab ab hpp ab h1 ab
   ·exact wq M s (s.asked.length:Int) (cg s.acts:Int) n ab ab hpp ab ab
 case timer=>
  have h:=vk M s (s.asked.length:Int) (cg s.acts:Int) n ab
  have e:cg (dk M.cx ⟨.timer,n⟩ s).acts=cg s.acts:=eV _ _
  rw [e];exact h
 case cancel=>
  have h:=tH M s (s.asked.length:Int) (cg s.acts:Int) n ab
  have e:cg (dk M.cx ⟨.cancel,n⟩ s).acts=cg s.acts:=eV _ _
  rw [e];exact h
 case sync=>
  have h:=xZ M s (s.asked.length:Int) (cg s.acts:Int) n ab
  have e:cg (dk M.cx ⟨.sync,n⟩ s).acts=cg s.acts:=eV _ _
  rw [e];exact h
 case reply=>
  have h:=wj M s (s.asked.length:Int) (cg s.acts:Int) n ab ab hpp
  have e:cg (dk M.cx ⟨.reply,n⟩ s).acts=cg s.acts:=eV _ _
  rw [e];exact h
 case fail=>
  have h:=vJ M s (s.asked.length:Int) (cg s.acts:Int) n ab ab hpp
  have e:cg (dk M.cx ⟨.fail,n⟩ s).acts=cg s.acts:=eV _ _
  rw [e];exact h
 case stop=> exact yt M s _ _ n
 case lt=>
  have h:=rh M s (s.asked.length:Int) (cg s.acts:Int) n ab hpp (wQ (Jg (s.top 1) (s.top 0)))
  rw [mD] at h
  exact h
 case le=>
  have h:=rh M s (s.asked.length:Int) (cg s.acts:Int) n ab hpp (wQ (HI (s.top 1) (s.top 0)))
  rw [mD] at h
  exact h
 case eq=>
  have h:=rh M s (s.asked.length:Int) (cg s.acts:Int) n ab hpp (wQ (Ip (s.top 1) (s.top 0)))
  rw [mD] at h
  exact h

theorem mP (l:List Int) (h0:0 < l.length) (h1:l.length≤1000000):
  Spec Tryz.prog 92 (bf [.sl l.length (dS l)] []) (aL (.ref (0,8) 0 l.length) [((0,8), .row 3 1 (dS l))]):=by
 refine Spec.ofN Tryz.func92 rfl Tryz.ntmps92 rfl ?_
 refine am (aj (bB _ (rfl:_=AV.v (.slice _ _ _))) (ai (aq (am (eT rfl (aj (yj _ _ Tryz.underlying22 (.inl ⟨_,rfl⟩) h0 rfl) ?_))))))
 refine ai (aS rfl rfl (aO (am (aj (BR _ aa rfl) (eT rfl (aj (zg (7,0) _ _ aa rfl h0 (.sl (by simp)) ab rfl) ?_))))))
 exact eE rfl (ai (aE (aW (.inr rfl) rfl (.tmp (rfl:_=AV.ref _ _ _)) (Le.out [((0,8),(7,0))] [] (cY rfl rfl) rfl rfl rfl trivial ob))))
def mm (l:List Nat):List (Int×Value):=l.foldl (fun M (i:Nat)=> fo M (i:Int) (.agg #[])) []
theorem wN (l:List Nat) (i:Nat):mm (l++[i])=fo (mm l) (i:Int) (.agg #[]):=by simp [mm,List.foldl_append]
theorem qw {M:List (Int×Value)} {n:Int} {u:Value} (h:kZ M n=some u):(n,u)∈M:=by
 unfold kZ at h
 cases hf:kL n M 0 with
 | none=> rw [hf] at h;cases h
 | some p=>
  obtain ⟨i,v⟩:=p
  rw [hf] at h
  obtain rfl:v=u:=Option.some.inj h
  obtain ⟨q,_,hq⟩:=pm hf
  exact List.mem_of_getElem? hq
theorem qk {M:List (Int×Value)} {n:Int} {u:Value} {p:Int×Value} (h:p∈fo M n u):p∈M∨p=(n,u):=by
 unfold fo at h
 split at h
 ·exact .inl h
 ·rcases List.mem_append.1 h with h | h
  ·exact .inl h
  ·exact .inr (List.mem_singleton.1 h)
theorem qK: ∀ (l:List Nat) (M:List (Int×Value)),(∀ p∈M,p.2= .agg #[])→ ∀ p∈l.foldl (fun M (i:Nat)=> fo M (i:Int) (.agg #[])) M,p.2= .agg #[]
 | [],_,h=> h
 | i::l,M,h=> qK l _ fun p hp=> by
  rcases qk hp with hp | rfl
  ·exact h p hp
  ·rfl
theorem oK (l:List Nat): ∀ p∈mm l,p.2= .agg #[]:=qK l [] fun p hp=> by cases hp
theorem sw {M:List (Int×Value)} {n:Int} (h:kZ M n=none):n∉M.map (·.1):=by
 intro hm
 obtain ⟨p,hp,he⟩:=List.mem_map.1 hm
 unfold kZ at h
 cases hf:kL n M 0 with
 | some q=> rw [hf] at h;cases h
 | none=>
  clear h hm
  have: ∀ (M:List (Int×Value)) (i:Nat),kL n M i=none→ ∀ p∈M,p.1≠n:=by
   intro M
   induction M with
   | nil=> intro i _ p hp;cases hp
   | cons a l ih=>
    intro i h p hp
    unfold kL at h
    split at h
    ·cases h
    ·rename_i hne
     rcases List.mem_cons.1 hp with rfl | hp
     ·exact fun e=> hne e.symm
     ·exact ih _ h p hp
  exact this M 0 hf p hp he
theorem zf {M:List (Int×Value)} {n:Int} {u:Value} (h:(M.map (·.1)).Nodup):((fo M n u).map (·.1)).Nodup:=by
 unfold fo
 cases hg:kZ M n with
 | some v=> exact h
 | none=>
  simp only [Option.isSome_none,Bool.false_eq_true,if_false,List.map_append,List.map_cons,List.map_nil]
  exact List.nodup_append.2 ⟨h,by simp,fun a ha b hb e=> sw hg (by rw [List.mem_singleton.1 hb] at e;exact e ▸ ha)⟩
theorem sB: ∀ (l:List Nat) (M:List (Int×Value)),(M.map (·.1)).Nodup→((l.foldl (fun M (i:Nat)=> fo M (i:Int) (.agg #[])) M).map (·.1)).Nodup
 | [],_,h=> h
 | _::l,_,h=> sB l _ (zf h)
theorem wJ (l:List Nat):((mm l).map (·.1)).Nodup:=sB l [] List.nodup_nil
theorem sK {N:Int}: ∀ (l:List Nat) (M:List (Int×Value)),(∀ i∈l,(i:Int)≤N)→(∀ p∈M,0≤p.1∧p.1≤N)→ ∀ p∈l.foldl (fun M (i:Nat)=> fo M (i:Int) (.agg #[])) M,0≤p.1∧p.1≤N
 | [],_,_,h=> h
 | i::l,M,hl,h=> sK l _ (fun j hj=> hl j (List.mem_cons_of_mem _ hj)) fun p hp=> by
  rcases qk hp with hp | rfl
  ·exact h p hp
  ·exact ⟨by simp only;omega,hl i List.mem_cons_self⟩
theorem vq (l:List Nat) (h: ∀ i∈l,i≤1000000): ∀ p∈mm l,0≤p.1∧p.1≤1000000:=sK l [] (fun i hi=> by have:=h i hi;omega) fun p hp=> by cases hp
theorem yq (l:List Nat) (n:Int): ∀ u,kZ (mm l) n=some u→u= .agg #[]:=fun u h=> oK l _ (qw h)
structure Sz (s:Ms):Prop where
 st:s.stack.length≤s.steps
 ac:s.acts.length≤s.steps
 ak:s.asked.length≤s.steps
theorem xF (K:Cx) (x:dY) (s:Ms):(dk K x s).stack.length≤s.stack.length+1∧(dk K x s).acts.length≤s.acts.length+1∧(dk K x s).asked.length≤s.asked.length+1∧(dk K x s).steps=s.steps:=by
 have hp:=cb s
 unfold dk
 cases x.op <;> simp only [List.length_append,List.length_cons,List.length_nil,hp]
 case setVar=> split <;> simp <;> omega
 case draw=> split <;> simp [hp] <;> omega
 case send=> split <;> simp <;> omega
 all_goals (refine ⟨?_,?_,?_,?_⟩ <;> first | trivial | omega)
theorem xY {K:Cx} {s:Ms} (h:Sz s):Sz (eh K s):=by
 obtain ⟨h1,h2,h3,h4⟩:=xF K (K.code.getD s.pc { op:= .stop }) { s with pc:=s.pc+1,steps:=s.steps+1,cov:=s.cov++[s.pc] }
 have:=h.st;have:=h.ac;have:=h.ak
 exact ⟨by unfold eh;rw [h4];simp only at h1 ⊢;omega,by unfold eh;rw [h4];simp only at h2 ⊢;omega,by unfold eh;rw [h4];simp only at h3 ⊢;omega⟩
theorem xk {ρ:ay→ay} {σ:St} {F:ay→Bool} {id id':ay} (h:ρ id=id'):Lv ρ σ F (.mp id) (.mp id'):=by subst h;exact .mp
def ia (M:List (Int×Value)):List Int:=(M.map (·.1)).mergeSort (fun x y=> decide (x≤y))
theorem oA (es:List MapEntry) (c:Nat):Spec Tryz.prog 95 (aY [.mp (0,9)] [((0,9), .mp es c)]) (be (.fn (.func 158) [] [.ptr (1,8) 0]) [((0,9), .mp es c),((1,8), .box 175 [.mp (0,9)])] [(0,9)] [(0,9)]):=by
 refine Spec.ofNI Tryz.func95 rfl Tryz.ntmps95 rfl ?_
 refine am (aj (bg (1,0) _ rfl rfl) (aj (bB _ (rfl:_=AV.v _)) (ai (am (aj (ol _ _ (rfl:_=[]) (rfl:_=[_])) ?_)))))
 exact aj (bB _ (rfl:_=AV.fn _ _ _)) (ai (aE (aW (.inr rfl) rfl (.tmp (rfl:_=AV.fn _ _ _)) (Le.outI [((1,8),(1,0))] [] (.fn rfl br rfl lz) rfl rfl rfl trivial ⟨⟨rfl,⟨_,rfl, .mp⟩,rfl⟩,⟨rfl,⟨_,rfl, .box rfl (aB (xk rfl) br)⟩,rfl⟩,trivial⟩ tr rfl))))
theorem wy {σ:St} {rn:List (ay×ay)} (o:Opc):fb σ rn (PV.ups (EW o)) (PV.ups (EW o)):=by
 cases o <;> first | exact cW | exact cG .fp cW
theorem AG (o:Opc):o.num < 24:=by cases o <;> decide
theorem wE (M:List (Int×Value)) (n:Int) (u:Value):(fo M n u).length≤M.length+1:=by unfold fo;split <;> simp
theorem pY: ∀ (l:List Nat) (M:List (Int×Value)),(l.foldl (fun M (i:Nat)=> fo M (i:Int) (.agg #[])) M).length≤M.length+l.length
 | [],M=> Nat.le_refl _
 | i::l,M=> by have:=pY l (fo M i (.agg #[]));have:=wE M i (.agg #[]);simp only [List.foldl_cons,List.length_cons];omega
theorem sM (l:List Nat):(mm l).length≤l.length:=by have:=pY l [];simpa [mm] using this
theorem wU (K:Cx) (x:dY) (s:Ms):(dk K x s).cov=s.cov:=by
 unfold dk
 cases x.op <;> simp only
 all_goals (split <;> rfl)
theorem sa {K:Cx} {s:Ms} (h:s.fin=true): ∀ k,kB K k s=s
 | 0=> rfl
 | k+1=> by rw [kB,if_pos h]
abbrev uT:Prop:= ∀ (M:List (Int×Value)),M.length≤1000000→(∀ p∈M,p.2= .agg #[])→(M.map (·.1)).Nodup→(∀ p∈M,0≤p.1∧p.1≤1000000)→Spec Tryz.prog 94 (aY [.fn (.func 158) [] [.ptr (1,9) 0]] [((0,9), .mp (dL M) M.length),((1,9), .box 175 [.mp (0,9)])]) (be (.sl (ia M).length (dS (ia M))) [((0,9), .mp (dL M) M.length),((1,9), .box 175 [.mp (0,9)])] [(0,9),(1,9)] [(0,9),(1,9)])
set_option maxHeartbeats 1000000 in
theorem tq (M:Mk) (hS:uT) (D:Nat→Nat) (nv:Nat) (hK:PG M.cx D nv) (h:Nat) (hh:h < 40) (e0:Nat) (he:M.P.e h=(e0:Int)) (he2:e0 < M.P.c.length) (hD:D e0=0) (hiv:M.iv.length=nv) (hir: ∀ v∈M.iv,Rg v) (h0:0 < nv) (hc:M.P.c.length≤1000000) (hn:M.ans.length≤4611686018427387904) (R:Ms) (hR:R=kB M.cx 500 (el M.iv e0)):
  Spec Tryz.prog 59 (aY [zO M.P, .v (.int .i64 (h:Int)), .agg [.sl M.iv.length (dS M.iv), .v (.int .i64 (M.nm 0)), .v (.int .i64 (M.nm 1)), .v (.int .i64 (M.nm 2)), .v (.int .i64 (M.nm 3)), .v (.int .i64 (M.nm 4)), .v (.int .i64 (M.nm 5)), .v (.int .i64 (M.nm 6)), .v (.int .i64 (M.nm 7)), .v (.int .i64 (M.nm 8))],Ap (4,9)] (xq M.ans [] (5,9))) (be (.agg [.sl R.vars.length (dS R.vars), .ref (2,8) 0 R.acts.length, .v (.int .i64 (R.steps:Int)), .v (.bool (!R.fin)), .sl (ia (mm R.cov)).length (dS (ia (mm R.cov)))]) (((2,8), .row 57 5 (sI R.acts))::xq M.ans R.asked (5,8)) [(2,8),(4,9),(5,8)] [(4,9)]):=by
 have hnv:=hK.nv
 have hcl:=mP M.iv ab ab
 have hg:=pD M.P.c.length (inl M.P.c) M.P.e (M.P.d:Int) (M.P.v:Int) h hh
 rw [he] at hg
 refine Spec.ofNI Tryz.func59 rfl Tryz.ntmps59 rfl ?_
 refine am (aj (bg (4,0) _ rfl rfl) (aj (bg (6,0) _ rfl rfl) (aj (aR (8,0) aa rfl rfl) (ai (aq (bT 11 [13,14,15,16,17,18,19,20,21,22,23] [(22,0)] ae ae rfl (aM rfl) (rfl:_=[_,_,_,_,_,_,_,_,_,_,_]) (rfl:_=[_,_,_]) ?_))))))
 refine ap (_,[]) (fun τ=> aX _ aa rfl rfl rfl rfl) ?_
 refine fO rfl ?_
 refine ap (_,[]) (fun τ=> aX _ aa rfl rfl rfl rfl) ?_
 refine fR rfl ?_
 refine ap (_,[]) (fun τ=> aH _ (rfl:_=AV.fn _ _ _)) ?_
 refine fT rfl ?_
 refine ap (_,[]) (fun τ=> aH _ (rfl:_=AV.v (.int _ _))) ?_
 refine fP rfl ?_
 refine ap (_,[]) (fun τ=> aD _ aa rfl rfl rfl) ?_
 refine gb rfl ?_
 refine ap (_,[]) (fun τ=> em _ _ aa rfl rfl rfl h rfl ab (by exact congrArg (fun z=> 0+1+z) (Nat.mul_one h))) ?_
 refine gC rfl ?_
 refine ap (_,[]) (fun τ=> aG _ aa rfl rfl (by exact (congrArg (fun z=> (yG M.P.c.length (inl M.P.c) M.P.e (M.P.d:Int) (M.P.v:Int))[z]?) ab).trans hg)) ?_
 refine iy rfl ?_
 refine ap (_,[]) (fun τ=> aD _ aa rfl rfl rfl) ?_
 refine jy rfl ?_
 refine ap (_,[]) (fun τ=> aG _ aa rfl rfl (rfl:_=some (AV.sl _ _))) ?_
 refine jr rfl ?_
 refine ap (_,[((22,0),_)]) (fun τ=> (eb aa [((0,8),(22,0))] ar (hcl.toI) trivial tr tr rfl rfl ae ae)) ?_
 refine fq rfl ?_
 refine ap (_,[]) (fun τ=> aF _ aa rfl (by exact (rfl:_=some [AV.ref (22,0) 0 M.iv.length,AV.v (.slice none 0 0),AV.v (.int .i64 0),AV.v (.bool false),AV.v (.slice none 0 0)]))) ?_
 refine fv rfl (bw ⟨rfl,?_⟩)
 refine aj (aF _ aa rfl (by exact (rfl:_=some [_,_,_,_,_,_,_,_,_,_,_,_,_,_,_,_,_,_,_,_,_,_,_,_,_,_,_,_,_,_,_,_,_,_,_,_,_,_,_,_,_,_,_,_,_,_,_,_,_,_,_,_,_,_,_,_,_,_,_,_,_,_,_,_]))) ?_
 refine aj (bg (25,0) _ rfl rfl) (CX rfl (ai (aq (aq ?_))))
 refine aQ (σ':=aA 108 [(4,_),(8,_),(9,_)] [((4,9),_),((5,9),_),((4,0),_),((8,0),_),((22,0),_),((25,0),_)] [(4,9),(5,9)] [(4,9)]) kp ?_
 refine an (bN rfl (aj (aJ _ rfl rfl) (bu rfl rfl rfl (cw rfl rfl rfl (aj (bo _ _ rfl rfl rfl) (ai (aS rfl (decide_eq_false ab) ?_)))))))
 refine aO (am (aj (aC aa (by repeat' (exact eP)) (wB) rfl rfl) ?_))
 refine aj (aR (10,0) aa rfl rfl) (cF rfl rfl rfl rfl rfl rfl (ai (am (aj (BT (36,0) rfl) (aj (bB _ (rfl:_=AV.mp _)) (ai (aT fun K7 hK7=> ?_)))))))
 refine au ?_
 refine aQ (Le.incT (60,0) rfl) ?_
 refine aQ (Le.incT (61,0) rfl) ?_
 refine aQ (Le.nilB (25,0) 55 (60,0) 57 5 rfl rfl rfl) ?_
 refine aQ (Le.nilB (25,0) 59 (61,0) 3 1 rfl rfl rfl) ?_
 refine bv (α:=Nat×Ms) (fun z=> R=kB M.cx z.1 z.2∧z.1+z.2.steps=500∧At M.cx D nv z.2∧Sz z.2) 108 [(4,_),(8,_),(9,_),(10,_),(11,_)] [((4,0),_),((8,0),_),((10,0),_)] (fun z=> []) (fun z=> [((25,0), .box 171 [.sl M.P.c.length (inl M.P.c), .v (.int .i64 (M.P.e 0)), .v (.int .i64 (M.P.e 1)), .v (.int .i64 (M.P.e 2)), .v (.int .i64 (M.P.e 3)), .v (.int .i64 (M.P.e 4)), .v (.int .i64 (M.P.e 5)), .v (.int .i64 (M.P.e 6)), .v (.int .i64 (M.P.e 7)), .v (.int .i64 (M.P.e 8)), .v (.int .i64 (M.P.e 9)), .v (.int .i64 (M.P.e 10)), .v (.int .i64 (M.P.e 11)), .v (.int .i64 (M.P.e 12)), .v (.int .i64 (M.P.e 13)), .v (.int .i64 (M.P.e 14)), .v (.int .i64 (M.P.e 15)), .v (.int .i64 (M.P.e 16)), .v (.int .i64 (M.P.e 17)), .v (.int .i64 (M.P.e 18)), .v (.int .i64 (M.P.e 19)), .v (.int .i64 (M.P.e 20)), .v (.int .i64 (M.P.e 21)), .v (.int .i64 (M.P.e 22)), .v (.int .i64 (M.P.e 23)), .v (.int .i64 (M.P.e 24)), .v (.int .i64 (M.P.e 25)), .v (.int .i64 (M.P.e 26)), .v (.int .i64 (M.P.e 27)), .v (.int .i64 (M.P.e 28)), .v (.int .i64 (M.P.e 29)), .v (.int .i64 (M.P.e 30)), .v (.int .i64 (M.P.e 31)), .v (.int .i64 (M.P.e 32)), .v (.int .i64 (M.P.e 33)), .v (.int .i64 (M.P.e 34)), .v (.int .i64 (M.P.e 35)), .v (.int .i64 (M.P.e 36)), .v (.int .i64 (M.P.e 37)), .v (.int .i64 (M.P.e 38)), .v (.int .i64 (M.P.e 39)), .v (.int .i64 (M.P.d:Int)), .v (.int .i64 (M.P.v:Int)), .sl M.iv.length (dS M.iv), .v (.int .i64 (M.nm 0)), .v (.int .i64 (M.nm 1)), .v (.int .i64 (M.nm 2)), .v (.int .i64 (M.nm 3)), .v (.int .i64 (M.nm 4)), .v (.int .i64 (M.nm 5)), .v (.int .i64 (M.nm 6)), .v (.int .i64 (M.nm 7)), .v (.int .i64 (M.nm 8)), .fn (.func 60) [.ptr (4,9) 0] [], .ref (22,0) 0 z.2.vars.length, .ref (60,0) 0 z.2.acts.length, .v (.int .i64 (z.2.steps:Int)), .v (.bool false), .v (.slice none 0 0), .ref (61,0) 0 z.2.stack.length, .v (.int .i64 (z.2.pc:Int)), .v (.int .i64 (z.2.asked.length:Int)), .v (.int .i64 (cg z.2.acts:Int)), .v (.bool z.2.fin)]),((22,0), .row 3 1 (dS z.2.vars)),((60,0), .row 57 5 (sI z.2.acts)),((61,0), .row 3 1 (dS z.2.stack)),((36,0), .mp (dL (mm z.2.cov)) (mm z.2.cov).length),((4,9), .box 129 [.sl M.ans.length (dS M.ans), .ref (5,9) 0 z.2.asked.length, .v (.bool true)]),((5,9), .row 3 1 (dS z.2.asked))]) [(4,9),(5,9),(60,0),(61,0)] [(4,9)] (fun z=> z.1) (500,el M.iv e0) ?_ (by
  refine Le.mkJ [] [] rfl ?_ ?_ trivial tr ?_
  ·exact ⟨(iP rfl),(iP rfl),(iP rfl),(iP rfl),(iM rfl),trivial⟩
  ·exact ⟨(cH rfl rfl rfl),(cH rfl rfl rfl),(cH rfl rfl rfl),(gz rfl rfl rfl rfl (aB (gS ag ag) (qr (qr (qr (qr (px (px (aB (gS ag ag) (yb (yb (px (aB (by repeat' (first | exact eg rfl | refine Lv.fn rfl ?_ rfl ?_ | exact br | refine aB ?_ ?_)) (aB (cY rfl ag) (aB (cY rfl ag) (px (aB (gy ag) (aB (by repeat' (exact Lv.v)) lz)))))))))))))))))),(gJ rfl rfl rfl ag),(gJ rfl rfl rfl ag),(gJ rfl rfl rfl ag),(LX rfl rfl rfl ag ag),(gz rfl rfl rfl rfl lz),(gJ rfl rfl rfl ag),trivial⟩
  ·kernel_rfl) ?_
 ·exact ⟨hR,rfl,vi hiv hir he2 hD,⟨Nat.le_refl _,Nat.le_refl _,Nat.le_refl _⟩⟩
 intro z hz
 obtain ⟨k,s⟩:=z
 obtain ⟨hz1,hz2,hz3,hz4⟩:=hz
 simp only at hz1 hz2 hz3 hz4 ⊢
 have hl1:=hz4.st
 have hl2:=hz4.ac
 have hl3:=hz4.ak
 have hcn:=hz3.cn
 refine aT fun K8 hK8=> ?_
 refine aT fun K9 hK9=> ?_
 refine an (bN rfl (aj (aJ _ rfl rfl) (bu rfl rfl rfl (Ir rfl rfl rfl (aj (cL (r:= !s.fin) _ rfl rfl) ?_)))))
 refine cE rfl (dw (fun hg42=> ?_) (fun hg42=> ?_))
 ·skip
  have hf:s.fin=false:=by simpa using hg42
  refine ax rfl rfl (aH _ (rfl:_=AV.ptr _ _)) (ax rfl rfl (aJ _ rfl rfl) (ax rfl rfl (aD _ aa rfl rfl rfl) (ax rfl rfl (aD _ aa rfl rfl rfl) (ax rfl rfl (aG _ aa rfl rfl (rfl:_=some (AV.v (.int _ _)))) (ax rfl rfl (bo (r:=decide ((s.steps:Int) < 500)) _ _ rfl rfl rfl) ?_)))))
  refine aj (az _ _ _ rfl (rfl:_=AV.v (.bool _))) (aI (hK9 _ ?_))
  clear hK9;try clear K9
  refine aP rfl (fun hc49=> ?_) (fun hc49=> ?_)
  ·skip
   obtain ⟨k,rfl⟩: ∃ q,k=q+1:=⟨k - 1,by omega⟩
   obtain ⟨hp,hd⟩:=hz3.go hf
   obtain ⟨⟨o,n⟩,hx⟩: ∃ x,M.cx.code[s.pc]? =some x:=⟨_,List.getElem?_eq_getElem hp⟩
   obtain ⟨g1,g2,_⟩:=hK.good s.pc ⟨o,n⟩ hx
   rw [Nat.zero_add] at g2
   have g2:o.pops≤D s.pc:=g2
   have hgx:M.cx.code.getD s.pc { op:= .stop }=⟨o,n⟩:=by rw [List.getD_eq_getElem?_getD,hx];rfl
   have hst:eh M.cx s=dk M.cx ⟨o,n⟩ { s with pc:=s.pc+1,steps:=s.steps+1,cov:=s.cov++[s.pc] }:=by unfold eh;rw [hgx]
   have hat:=yC hK hz3 hf
   have hsz:=xY (K:=M.cx) hz4
   have hss:=(lY (K:=M.cx) (s:=s)).1
   rw [kB,if_neg (by rw [hf];decide)] at hz1
   have hop:=BE M { s with pc:=s.pc+1,steps:=s.steps+1,cov:=s.cov++[s.pc] } ⟨o,n⟩ nv g1 ⟨hz3.iv.vl,hz3.iv.rv,hz3.iv.rs,hz3.iv.ac,hz3.iv.sn,hz3.iv.ar⟩ (show o.pops≤s.stack.length by omega) (by simp only;omega) (by simp only;omega) (by simp only;omega) hn
   have hcov:=wU M.cx ⟨o,n⟩ { s with pc:=s.pc+1,steps:=s.steps+1,cov:=s.cov++[s.pc] }
   rw [hst] at hz1 hat hsz hss
   have hmp:fo (mm s.cov) (s.pc:Int) (.agg #[])=mm (dk M.cx ⟨o,n⟩ { s with pc:=s.pc+1,steps:=s.steps+1,cov:=s.cov++[s.pc] }).cov:=by rw [hcov,wN]
   have hia:=vb M.P.c s.pc hp
   rw [show cD M.P.c s.pc=⟨o,n⟩ from hgx] at hia
   have hn24:=AG o
   have hpcl:s.pc < M.P.c.length:=hp
   generalize dk M.cx ⟨o,n⟩ { s with pc:=s.pc+1,steps:=s.steps+1,cov:=s.cov++[s.pc] }=E at hz1 hat hsz hss hop hcov hmp
   refine bA (hK8 _ ?_)
   clear hK8;try clear K8
   refine au (am (aj (aH _ (rfl:_=AV.mp _)) (bN rfl (aj (aJ _ rfl rfl) (bu rfl rfl rfl (cw rfl rfl rfl (aj (aF _ aa rfl (by exact (rfl:_=some []))) ?_)))))))
   refine aj (yx _ _ _ Tryz.underlying175 Tryz.underlying3 rfl rfl rfl rfl rfl (yq _ _) hmp rfl) ?_
   refine ai (aq ?_)
   refine aQ (σ':=aA 108 [(4,_),(8,_),(9,_),(10,_),(11,_)] [((4,0),_),((8,0),_),((10,0),_),((25,0),_),((22,0),_),((60,0),_),((61,0),_),((36,0),_),((4,9),_),((5,9),_)] [(4,9),(5,9),(60,0),(61,0)] [(4,9)]) kp ?_
   refine bT 9 [56,57,58,59,60,61,62,63,12] [(12,0)] ae ae rfl (aM rfl) (rfl:_=[_,_,_,_,_,_,_,_,_]) (rfl:_=[_]) ?_
   refine ap (_,[]) (fun τ=> aD _ aa rfl rfl rfl) ?_
   refine fO rfl ?_
   refine ap (_,[]) (fun τ=> aG _ aa rfl rfl (rfl:_=some (AV.sl _ _))) ?_
   refine fR rfl ?_
   refine ap (_,[]) (fun τ=> aH _ (rfl:_=AV.ptr _ _)) ?_
   refine fT rfl ?_
   refine ap (_,[]) (fun τ=> aJ _ rfl rfl) ?_
   refine fP rfl ?_
   refine ap (_,[]) (fun τ=> aD _ aa rfl rfl rfl) ?_
   refine gb rfl ?_
   refine ap (_,[]) (fun τ=> aG _ aa rfl rfl (rfl:_=some (AV.v (.int _ _)))) ?_
   refine gC rfl ?_
   refine ap (_,[]) (fun τ=> bl _ _ aa rfl rfl _ rfl ab (by (simp only [aU,bj,bh,aU,bF,fk];omega)) ag) ?_
   refine iy rfl ?_
   refine ap (_,[]) (fun τ=> bZ _ aa rfl (by exact hia) rfl) ?_
   refine jy rfl ?_
   refine ap (_,[((12,0),_)]) (fun τ=> aR (12,0) aa rfl rfl) ?_
   refine jr rfl (bw ⟨rfl,?_⟩)
   refine cF rfl rfl rfl rfl rfl rfl (ai (am (bN rfl (aj (aJ _ rfl rfl) (bu rfl rfl rfl (cw rfl rfl rfl (aj (aZ (r:=((s.pc+1:Nat):Int)) _ _ rfl rfl ((bJ ab).trans ab)) ?_)))))))
   refine aj (aJ _ rfl rfl) (bu rfl rfl rfl (cF rfl rfl rfl rfl rfl rfl (ai (aq ?_))))
   refine aQ (σ':=aA 108 [(4,_),(8,_),(9,_),(10,_),(11,_),(12,_)] [((4,0),_),((8,0),_),((10,0),_),((25,0),_),((22,0),_),((60,0),_),((61,0),_),((36,0),_),((4,9),_),((5,9),_),((12,0),_)] [(4,9),(5,9),(60,0),(61,0)] [(4,9)]) kp ?_
   refine an (bN rfl (aj (aJ _ rfl rfl) (bu rfl rfl rfl (bu rfl rfl rfl (cw rfl rfl rfl (aj (aZ (r:=((s.steps+1:Nat):Int)) _ _ rfl rfl ((bJ ab).trans ab)) ?_))))))
   refine aj (aJ _ rfl rfl) (bu rfl rfl rfl (bu rfl rfl rfl (cF rfl rfl rfl rfl rfl rfl (ai ?_))))
   refine aQ (σ':=aA 108 [(4,_),(8,_),(9,_),(10,_),(11,_),(12,_)] [((4,0),_),((8,0),_),((10,0),_),((25,0),_),((22,0),_),((60,0),_),((61,0),_),((36,0),_),((4,9),_),((5,9),_),((12,0),_)] [(4,9),(5,9),(60,0),(61,0)] [(4,9)]) kp ?_
   refine bT 7 [80,81,82,83,84,85,86] [] ae ae rfl (aM rfl) (rfl:_=[_,_,_,_,_,_,_]) (rfl:_=[_]) ?_
   refine ap (_,[]) (fun τ=> aD _ aa rfl rfl rfl) ?_
   refine fO rfl ?_
   refine ap (_,[]) (fun τ=> aG _ aa rfl rfl (rfl:_=some (AV.v (.int _ _)))) ?_
   refine fR rfl ?_
   refine ap (_,[]) (fun τ=> em _ _ aa rfl rfl rfl o.num rfl ab (by exact (Nat.zero_add _).trans (Nat.mul_one _))) ?_
   refine fT rfl ?_
   refine ap (_,[]) (fun τ=> aG _ aa rfl rfl (by exact zm o)) ?_
   refine fP rfl ?_
   refine ap (_,[]) (fun τ=> aH _ (rfl:_=AV.ptr _ _)) ?_
   refine gb rfl ?_
   refine ap (_,[]) (fun τ=> aD _ aa rfl rfl rfl) ?_
   refine gC rfl ?_
   refine ap (_,[]) (fun τ=> aG _ aa rfl rfl (rfl:_=some (AV.v (.int _ _)))) ?_
   refine iy rfl (bw ⟨rfl,?_⟩)
   refine cu ((Le.incT (87,0) rfl).trans ((Le.incT (87,1) rfl).trans (Le.incT (87,2) rfl))) ?_
   refine aj (nx rfl aa [((0,9),(25,0)),((1,9),(22,0)),((2,9),(60,0)),((3,9),(61,0)),((2,8),(87,0)),((3,8),(87,1)),((5,8),(87,2))] ?_ (hop) ob tr tr rfl (by clear hS hg hia hop;cases o <;> kernel_rfl) ae) ?_
   ·exact cG (eg rfl) (cG .v (wy o))
   refine aI (⟨(k,E),?_,?_,?_⟩)
   ·exact ⟨hz1,by simp only;omega,hat,hsz⟩
   ·skip
    refine Le.mkJ [((60,0),(87,0)),((61,0),(87,1)),((5,9),(87,2))] [] rfl ?_ ?_ trivial tr ?_
    ·exact ⟨(eg (id:=(4,0)) rfl),(eg (id:=(8,0)) rfl),(eg (id:=(25,0)) rfl),(eg (id:=(10,0)) rfl),(by repeat' (exact Lv.mp)),trivial⟩
    ·exact ⟨(gz rfl rfl rfl rfl (by repeat' (first | exact Lv.v | exact Lv.sl | exact br | refine aB ?_ ?_))),(gz rfl rfl rfl rfl (by repeat' (first | exact Lv.v | exact br | refine aB ?_ ?_))),(gz rfl rfl rfl rfl (by repeat' (first | exact Lv.v | exact Lv.fp | refine Lv.fn rfl ?_ rfl ?_ | exact br | refine aB ?_ ?_))),(gz rfl rfl rfl rfl (aB (gS ag ag) (qr (qr (qr (qr (px (px (aB (gS ag ag) (yb (yb (px (aB (by repeat' (first | exact eg (id:=(4,9)) rfl | refine Lv.fn rfl ?_ rfl ?_ | exact br | refine aB ?_ ?_)) (aB (cY rfl ag) (aB (cY rfl ag) (px (aB (gy ag) (aB (by repeat' (exact Lv.v)) lz)))))))))))))))))),(gJ rfl rfl rfl ag),(gJ rfl rfl rfl ag),(gJ rfl rfl rfl ag),(LX rfl rfl rfl ag ag),(gz rfl rfl rfl rfl lz),(gJ rfl rfl rfl ag),trivial⟩
    ·kernel_rfl
   ·simp only;omega
  ·skip
   obtain rfl:k=0:=by omega
   obtain rfl:R=s:=hz1
   refine bI (id (hK7 _ ?_))
   clear hK7;try clear K7
   refine am (bN rfl (bN rfl (aj (aJ _ rfl rfl) (bu rfl rfl rfl (Ir rfl rfl rfl (aj (cL (r:= !R.fin) _ rfl rfl) ?_))))))
   refine aj (aJ _ rfl rfl) (bu rfl rfl rfl (bu rfl rfl rfl (cF rfl rfl rfl rfl rfl rfl (ai (aq ?_)))))
   refine aQ (σ':=aA 108 [(8,_),(9,_),(11,_)] [((8,0),_),((25,0),_),((22,0),_),((60,0),_),((61,0),_),((36,0),_),((4,9),_),((5,9),_)] [(4,9),(5,9),(60,0),(61,0)] [(4,9)]) kp ?_
   refine an (bN rfl (aj (aH _ (rfl:_=AV.mp _)) (aj (eb aa [((0,9),(36,0)),((1,8),(99,0))] ?_ (oA _ _) ⟨⟨rfl,⟨_,rfl, .mp⟩,rfl⟩,trivial⟩ tr tr rfl rfl ae ae) ?_)))
   ·exact cG (xk rfl) cW
   refine aj (eb aa [((0,9),(36,0)),((1,9),(99,0))] ar (hS (mm R.cov) (by have:=sM R.cov;omega) (oK _) (wJ _) (vq _ fun i hi=> Nat.le_trans (Nat.le_of_lt (hz3.cl i hi)) hc)) ⟨⟨rfl,⟨_,rfl, .mp⟩,rfl⟩,⟨rfl,⟨_,rfl, .box ag (aB (xk (id:=(0,9)) (id':=(36,0)) rfl) br)⟩,rfl⟩,trivial⟩ tr tr rfl rfl ae ae) ?_
   refine aj (aJ _ rfl rfl) (bu rfl rfl rfl (bu rfl rfl rfl (cF rfl rfl rfl rfl rfl rfl (ai (am (bN rfl (aj (aJ _ rfl rfl) (bu rfl rfl rfl (aj (aX _ aa rfl rfl rfl rfl) (cF rfl rfl rfl rfl rfl rfl ?_))))))))))
   exact ai (aE (aW (.inr rfl) rfl (.cellA aa rfl rfl rfl) (Le.outI [((2,8),(60,0)),((5,8),(5,9))] [(22,0)] (.agg rfl (aB (iL rfl rfl (by simp) rfl) lz)) rfl rfl rfl tr ob tr rfl)))
 ·skip
  have hf:s.fin=true:=by simpa using hg42
  obtain rfl:R=s:=hz1.trans (sa hf k)
  refine aN rfl rfl ah ?_
  refine aN rfl rfl ah ?_
  refine aN rfl rfl ah ?_
  refine aN rfl rfl ah ?_
  refine aN rfl rfl ah ?_
  refine aN rfl rfl ah ?_
  refine aj (az _ _ _ rfl (rfl:_=AV.v (.bool _))) (aI (hK9 _ ?_))
  clear hK9;try clear K9
  refine aS rfl rfl (bI (id (hK7 _ ?_)))
  clear hK7;try clear K7
  refine am (bN rfl (bN rfl (aj (aJ _ rfl rfl) (bu rfl rfl rfl (Ir rfl rfl rfl (aj (cL (r:= !R.fin) _ rfl rfl) ?_))))))
  refine aj (aJ _ rfl rfl) (bu rfl rfl rfl (bu rfl rfl rfl (cF rfl rfl rfl rfl rfl rfl (ai (aq ?_)))))
  refine aQ (σ':=aA 108 [(8,_),(9,_),(11,_)] [((8,0),_),((25,0),_),((22,0),_),((60,0),_),((61,0),_),((36,0),_),((4,9),_),((5,9),_)] [(4,9),(5,9),(60,0),(61,0)] [(4,9)]) kp ?_
  refine an (bN rfl (aj (aH _ (rfl:_=AV.mp _)) (aj (eb aa [((0,9),(36,0)),((1,8),(99,0))] ?_ (oA _ _) ⟨⟨rfl,⟨_,rfl, .mp⟩,rfl⟩,trivial⟩ tr tr rfl rfl ae ae) ?_)))
  ·exact cG (xk rfl) cW
  refine aj (eb aa [((0,9),(36,0)),((1,9),(99,0))] ar (hS (mm R.cov) (by have:=sM R.cov;omega) (oK _) (wJ _) (vq _ fun i hi=> Nat.le_trans (Nat.le_of_lt (hz3.cl i hi)) hc)) ⟨⟨rfl,⟨_,rfl, .mp⟩,rfl⟩,⟨rfl,⟨_,rfl, .box ag (aB (xk (id:=(0,9)) (id':=(36,0)) rfl) br)⟩,rfl⟩,trivial⟩ tr tr rfl rfl ae ae) ?_
  refine aj (aJ _ rfl rfl) (bu rfl rfl rfl (bu rfl rfl rfl (cF rfl rfl rfl rfl rfl rfl (ai (am (bN rfl (aj (aJ _ rfl rfl) (bu rfl rfl rfl (aj (aX _ aa rfl rfl rfl rfl) (cF rfl rfl rfl rfl rfl rfl ?_))))))))))
  exact ai (aE (aW (.inr rfl) rfl (.cellA aa rfl rfl rfl) (Le.outI [((2,8),(60,0)),((5,8),(5,9))] [(22,0)] (.agg rfl (aB (iL rfl rfl (by simp) rfl) lz)) rfl rfl rfl tr ob tr rfl)))

abbrev zX:Prop:= ∀ (M:List (Int×Value)) (g b:Nat) (w:World),M.length≤1000000→(M.map (·.1)).Nodup→(∀ p∈M,0≤p.1∧p.1≤1000000)→g < w.heap.size→w.cell? ⟨g,0,none⟩=some (.map (some b))→w.heap[b]? =some (.map (dL M).toArray M.length)→
  Calls Tryz.prog 94 #[.func (.func 158) #[] #[.pointer (some ⟨g,0,none⟩)]] w fun e w'=> ∃ (v:Value) (ss:List Int),e= .returned v∧ss.Perm (M.map (·.1))∧
    w'.ownsRow w.heap.size 3 1 v ss.length ((ss.mergeSort (fun x y=> decide (x≤y))).map fun x=> Value.int .i64 x)∧Below w.heap.size w w'
theorem pJ {l m:List Int} (h:l.Perm m):l.mergeSort (fun x y=> decide (x≤y))=m.mergeSort (fun x y=> decide (x≤y)):=by
  have tr: ∀ a b c:Int,decide (a≤b)=true→decide (b≤c)=true→decide (a≤c)=true:=fun a b c h1 h2=> by
    simp only [decide_eq_true_eq] at*;omega
  have tt: ∀ a b:Int,(decide (a≤b) || decide (b≤a))=true:=fun a b=> by simp only [Bool.or_eq_true,decide_eq_true_eq];omega
  have p1:=List.pairwise_mergeSort (le:=fun x y:Int=> decide (x≤y)) tr tt l
  have p2:=List.pairwise_mergeSort (le:=fun x y:Int=> decide (x≤y)) tr tt m
  exact ((List.mergeSort_perm l _).trans (h.trans (List.mergeSort_perm m _).symm)).eq_of_pairwise (le:=fun x y:Int=> decide (x≤y)=true) (fun a b _ _ h1 h2=> by simp only [decide_eq_true_eq] at h1 h2;omega) p1 p2
theorem wk (hC:zX):uT:=by
  intro M hlen hval hnd hrg K ι S vs w hw0 hrd R
  obtain ⟨B1,g1,b1,b2,b3,b4⟩:=R.ob (1,9) (.box 175 [.mp (0,9)]) rfl
  obtain ⟨B0,g0,c1,c2,c3⟩:=R.ob (0,9) (.mp (dL M) M.length) rfl
  have hnt:vs.size=1:=R.nt
  have hf:Rep ι S w (.fn (.func 158) [] [.ptr (1,9) 0]) (vs.getD 0 undef):=R.fr 0 (by show 0 < 1;omega)
  have hvs:vs= #[.func (.func 158) #[] #[.pointer (some ⟨g1,0,none⟩)]]:=by
    generalize hx:vs.getD 0 undef=x at hf
    have hvx:vs= #[x]:=by
      apply Array.ext
      · rw [hnt];rfl
      · intro i h1 h2
        have:i=0:=by omega
        subst this
        simp only [Array.getD_eq_getD_getElem?,Array.getElem?_eq_getElem h1,Option.getD_some] at hx
        rw [hx];rfl
    rw [hvx]
    cases hf with
    | fn a1 a2 a3 a4=>
    rename_i us ws
    obtain rfl:us= #[]:=Array.size_eq_zero_iff.1 (by simpa using a1)
    have h0:=a4 0 (.ptr (1,9) 0) rfl
    have hws:ws.size=1:=a2
    generalize hy:ws.getD 0 undef=y at h0
    have hwy:ws= #[y]:=by
      apply Array.ext
      · rw [hws];rfl
      · intro i h1 h2
        have:i=0:=by omega
        subst this
        simp only [Array.getD_eq_getD_getElem?,Array.getElem?_eq_getElem h1,Option.getD_some] at hy
        rw [hy];rfl
    rw [hwy]
    cases h0 with
    | ptr h _=>
    obtain ⟨g',hg',rfl⟩:=h B1 b1
    rw [b2] at hg'
    obtain rfl:=Option.some.inj hg'
    rfl
  have hbox: ∃ cur e,w.heap[g1]? =some (.cells cur e (0,0))∧cur[0]? =some (.map (some g0)):=by
    rcases b4 with ⟨d1,_⟩ | ⟨g,cur,d1,d2,d3,d4,d5⟩
    · rw [b2] at d1;cases d1
    · rw [b2] at d1
      obtain rfl:=Option.some.inj d1
      obtain ⟨u,u1,u2,u3⟩:=d5 0 (by simp)
      have:=u3 (.mp (0,9)) rfl
      cases this with
      | mp h _=>
      obtain ⟨g',hg',rfl⟩:=h B0 c1
      rw [c2] at hg'
      obtain rfl:=Option.some.inj hg'
      exact ⟨cur,_,d2,u1⟩
  obtain ⟨cur1,e1,hh1,hc1⟩:=hbox
  have hlt:g1 < w.heap.size:=(Array.getElem?_eq_some_iff.1 hh1).1
  subst hvs
  refine (hC M g1 g0 w hlen hnd hrg hlt (dV hh1 hc1) c3).mono ?_
  rintro e w' ⟨v,ss,rfl,hp,hrow,hbl⟩
  have hsrt:ss.mergeSort (fun x y=> decide (x≤y))=ia M:=pJ hp
  have hsl:ss.length=(ia M).length:=by rw [← hsrt,List.length_mergeSort]
  rw [hsrt,hsl] at hrow
  have fin: ∀ (S':Nat→Prop),(∀ g,S g→S' g)→(∀ g,S' g→S g∨w.heap.size≤g)→(∀ g,S' g→g < w'.heap.size)→Rd S' w' (.sl (ia M).length (dS (ia M))) v→ ∃ v2 ι' S',Ending.returned v=Ending.returned v2∧RelI K ι' S' (be (.sl (ia M).length (dS (ia M))) [((0,9), .mp (dL M) M.length),((1,9), .box 175 [.mp (0,9)])] [(0,9),(1,9)] [(0,9),(1,9)]) ⟨#[v2],[]⟩ w':=by
    intro S' g1 g2 g3 hrd
    have R3:=R.gen (ι':=ι) (S':=S') (w':=w') (ob':=(aY [.fn (.func 158) [] [.ptr (1,9) 0]] [((0,9), .mp (dL M) M.length),((1,9), .box 175 [.mp (0,9)])]).ob) (inc':=(aY [.fn (.func 158) [] [.ptr (1,9) 0]] [((0,9), .mp (dL M) M.length),((1,9), .box 175 [.mp (0,9)])]).inc) (fun _=> False) (.of_below hbl) (fun _ _=> rfl) (fun _ _=> rfl) (fun _ _=> rfl) (fun _ h=> h) g1
      (fun g h=> by rcases g2 g h with h | h; · exact .inl h
                    · exact .inr (.inl h)) g3
      (fun _ _ h=> h.elim) (fun _ _ h=> h.elim) (fun _ _ h=> h.elim) (fun _ _ _ _ _ h=> h.elim) (fun _ _ _ h=> h.elim) (fun _ _ _ h=> h.elim)
    refine ⟨v,ι,S',rfl,R3.keeps,R3.S0,R3.Slt,rfl,R3.df,fun t ht=> ?_,fun t id hh=> ?_,R3.clo,R3.ob,R3.dom,R3.inj,R3.sep,R3.pin,R3.pf⟩
    · obtain rfl:t=0:=by have:t < 1:=ht;omega
      exact .sl hrd
    · cases t with
      | zero=> exact absurd hh po
      | succ t=> exact absurd hh (fun h=> by cases h)
  rcases hrow.2 with ⟨hv,hz⟩ | ⟨g,cap,cur,hv,hbase,hg,r1,r2,r3,r4⟩
  · subst hv
    have hn:ia M=[]:=List.eq_nil_of_length_eq_zero hz
    refine fin S (fun _ h=> h) (fun _ h=> .inl h) (fun g h=> Nat.lt_of_lt_of_le (R.Slt g h) hbl.size) ?_
    rw [hn]
    exact .sl0 (Nat.le_refl _) (by unfold maxLen;omega) fun _=> ⟨rfl,rfl⟩
  · subst hv
    refine fin (fun k=> S k∨k=g) (fun _ h=> .inl h) (fun k h=> ?_) (fun k h=> ?_) ?_
    · rcases h with h | h
      · exact .inl h
      · exact .inr (by rw [h];exact hbase)
    · rcases h with h | h
      · exact Nat.lt_of_lt_of_le (R.Slt k h) hbl.size
      · rw [h];exact (Array.getElem?_eq_some_iff.1 hg).1
    · have key: ∀ (j:Nat) (p:PV),(dS (ia M))[j]? =some p→ ∃ x:Int,p= .v (.int .i64 x)∧cur[j]? =some (.int .i64 x):=by
        intro j p hj
        rw [dS,List.getElem?_map] at hj
        obtain ⟨x,hx,rfl⟩:=Option.map_eq_some_iff.1 hj
        refine ⟨x,rfl,?_⟩
        have h5:(cur.toList.take ((ia M).length*1))[j]? =some (.int .i64 x):=by rw [r4,List.getElem?_map,hx];rfl
        rw [List.getElem?_take] at h5
        split at h5
        · simpa using h5
        · cases h5
      refine Rd.sl (o:=0) (fun j=> cur.getD j undef) r1 r2 (.mk (.inr rfl) hg) (fun j p hj=> ?_) (fun j p hj=> ?_)
      · obtain ⟨x,_,hu⟩:=key j p hj
        simp only [Nat.zero_add,Array.getD_eq_getD_getElem?,hu,Option.getD_some]
        exact dV hg hu
      · obtain ⟨x,rfl,hu⟩:=key j p hj
        simp only [Array.getD_eq_getD_getElem?,hu,Option.getD_some]
        exact .v rfl
end Go.Proofs.YtmjnackchaahbaaGreat

namespace Go.Proofs.YtmjnackchaahbaaGreat
open Go.RowKit Go.Maps Go.Sort Go.Shelf

def ma:Go.Shelf.Ren:=⟨fun | 7=> 95 | 10=> 158 | n=> n,fun | 23=> 175 | 26=> 3 | 3=> 176 | 28=> 179 | 0=> 0 | 27=> 178 | 33=> 216 | 4=> 4 | n=> n,fun | n=> n⟩
theorem zh:Go.Proofs.SlLaysZI.n7 Tryz.prog ma:=
  { mixed:=by kernel_rfl,
    f7:=⟨Tryz.f95.name,by decide,Tryz.func95.trans (congrArg some ae)⟩,
    f10:=⟨Tryz.f158.name,by decide,Tryz.func158.trans (congrArg some ae)⟩,
    t0:=Tryz.underlying0,
    a0:=Tryz.isAgg0,
    z0:=Tryz.sizeOf0,
    v0:=Tryz.zeroValue0,
    t4:=Tryz.underlying4,
    a4:=Tryz.isAgg4,
    z4:=Tryz.sizeOf4,
    v4:=Tryz.zeroValue4,
    t23:=Tryz.underlying175,
    a23:=Tryz.isAgg175,
    z23:=Tryz.sizeOf175,
    v23:=Tryz.zeroValue175,
    t26:=Tryz.underlying3,
    a26:=Tryz.isAgg3,
    z26:=Tryz.sizeOf3,
    v26:=Tryz.zeroValue3,
    t27:=Tryz.underlying178,
    a27:=Tryz.isAgg178,
    z27:=Tryz.sizeOf178,
    v27:=Tryz.zeroValue178,
    t28:=Tryz.underlying179,
    a28:=Tryz.isAgg179,
    z28:=Tryz.sizeOf179,
    v28:=Tryz.zeroValue179,
    t33:=Tryz.underlying216,
    a33:=Tryz.isAgg216,
    z33:=Tryz.sizeOf216,
    v33:=Tryz.zeroValue216 }
def ka:Go.Shelf.Ren:=⟨fun | 6=> 94 | 8=> 156 | 9=> 157 | 11=> 191 | 13=> 193 | 12=> 192 | 23=> 219 | 24=> 220 | 14=> 211 | 15=> 212 | 16=> 213 | 17=> 214 | 18=> 215 | 19=> 216 | 20=> 207 | 21=> 217 | 22=> 218 | 25=> 230 | 26=> 231 | 27=> 232 | 28=> 233 | 29=> 234 | 30=> 228 | 31=> 239 | n=> n,fun | 26=> 3 | 28=> 179 | 24=> 22 | 0=> 0 | 3=> 3 | 37=> 243 | 48=> 260 | 50=> 262 | 4=> 4 | 40=> 254 | 39=> 253 | 45=> 193 | 5=> 5 | 9=> 9 | 51=> 265 | 55=> 269 | 57=> 272 | 58=> 273 | 33=> 216 | n=> n,fun | n=> n⟩
theorem tX:Go.Proofs.SlLaysZI.n6 Tryz.prog ka:=
  { mixed:=by kernel_rfl,
    f6:=⟨Tryz.f94.name,by decide,Tryz.func94.trans (congrArg some ae)⟩,
    f8:=⟨Tryz.f156.name,by decide,Tryz.func156.trans (congrArg some ae)⟩,
    f11:=⟨Tryz.f191.name,by decide,Tryz.func191.trans (congrArg some ae)⟩,
    t0:=Tryz.underlying0,
    a0:=Tryz.isAgg0,
    z0:=Tryz.sizeOf0,
    v0:=Tryz.zeroValue0,
    t24:=Tryz.underlying22,
    a24:=Tryz.isAgg22,
    z24:=Tryz.sizeOf22,
    v24:=Tryz.zeroValue22,
    t26:=Tryz.underlying3,
    a26:=Tryz.isAgg3,
    z26:=Tryz.sizeOf3,
    v26:=Tryz.zeroValue3,
    t28:=Tryz.underlying179,
    a28:=Tryz.isAgg179,
    z28:=Tryz.sizeOf179,
    v28:=Tryz.zeroValue179,
    i26:=by kernel_rfl }
def qd:Go.Shelf.Ren:=⟨fun | 5=> 157 | 8=> 193 | 7=> 192 | 19=> 219 | 20=> 220 | 10=> 211 | 11=> 212 | 12=> 213 | 13=> 214 | 14=> 215 | 15=> 216 | 16=> 207 | 17=> 217 | 18=> 218 | 30=> 230 | 31=> 231 | 32=> 232 | 33=> 233 | 34=> 234 | 35=> 228 | 40=> 239 | n=> n,fun | 23=> 22 | 25=> 3 | 3=> 3 | 32=> 243 | 22=> 22 | 0=> 0 | 44=> 260 | 46=> 262 | 4=> 4 | 36=> 254 | 35=> 253 | 41=> 193 | 5=> 5 | 9=> 9 | 53=> 265 | 57=> 269 | 63=> 272 | 64=> 273 | n=> n,fun | n=> n⟩
theorem sH:Go.Proofs.SlLaysM.n5 Tryz.prog qd:=
  { mixed:=by kernel_rfl,
    f5:=⟨Tryz.f157.name,by decide,Tryz.func157.trans (congrArg some ae)⟩,
    f7:=⟨Tryz.f192.name,by decide,Tryz.func192.trans (congrArg some ae)⟩,
    f8:=Tryz.func193.trans (congrArg some ae),
    f10:=⟨Tryz.f211.name,by decide,Tryz.func211.trans (congrArg some ae)⟩,
    f11:=⟨Tryz.f212.name,by decide,Tryz.func212.trans (congrArg some ae)⟩,
    f12:=⟨Tryz.f213.name,by decide,Tryz.func213.trans (congrArg some ae)⟩,
    f13:=⟨Tryz.f214.name,by decide,Tryz.func214.trans (congrArg some ae)⟩,
    f14:=⟨Tryz.f215.name,by decide,Tryz.func215.trans (congrArg some ae)⟩,
    f15:=⟨Tryz.f216.name,by decide,Tryz.func216.trans (congrArg some ae)⟩,
    f16:=⟨Tryz.f207.name,by decide,Tryz.func207.trans (congrArg some ae)⟩,
    f17:=⟨Tryz.f217.name,by decide,Tryz.func217.trans (congrArg some ae)⟩,
    f18:=⟨Tryz.f218.name,by decide,Tryz.func218.trans (congrArg some ae)⟩,
    f19:=Tryz.func219.trans (congrArg some ae),
    f20:=Tryz.func220.trans (congrArg some ae),
    f30:=⟨Tryz.f230.name,by decide,Tryz.func230.trans (congrArg some ae)⟩,
    f31:=Tryz.func231.trans (congrArg some ae),
    f32:=Tryz.func232.trans (congrArg some ae),
    f33:=⟨Tryz.f233.name,by decide,Tryz.func233.trans (congrArg some ae)⟩,
    f34:=⟨Tryz.f234.name,by decide,Tryz.func234.trans (congrArg some ae)⟩,
    f35:=⟨Tryz.f228.name,by decide,Tryz.func228.trans (congrArg some ae)⟩,
    f40:=⟨Tryz.f239.name,by decide,Tryz.func239.trans (congrArg some ae)⟩,
    t0:=Tryz.underlying0,
    a0:=Tryz.isAgg0,
    z0:=Tryz.sizeOf0,
    v0:=Tryz.zeroValue0,
    t3:=Tryz.underlying3,
    a3:=Tryz.isAgg3,
    z3:=Tryz.sizeOf3,
    v3:=Tryz.zeroValue3,
    t4:=Tryz.underlying4,
    a4:=Tryz.isAgg4,
    z4:=Tryz.sizeOf4,
    v4:=Tryz.zeroValue4,
    t5:=Tryz.underlying5,
    a5:=Tryz.isAgg5,
    z5:=Tryz.sizeOf5,
    v5:=Tryz.zeroValue5,
    t9:=Tryz.underlying9,
    a9:=Tryz.isAgg9,
    z9:=Tryz.sizeOf9,
    v9:=Tryz.zeroValue9,
    t22:=Tryz.underlying22,
    a22:=Tryz.isAgg22,
    z22:=Tryz.sizeOf22,
    v22:=Tryz.zeroValue22,
    t23:=Tryz.underlying22,
    a23:=Tryz.isAgg22,
    z23:=Tryz.sizeOf22,
    v23:=Tryz.zeroValue22,
    t25:=Tryz.underlying3,
    a25:=Tryz.isAgg3,
    z25:=Tryz.sizeOf3,
    v25:=Tryz.zeroValue3,
    t32:=Tryz.underlying243,
    a32:=Tryz.isAgg243,
    z32:=Tryz.sizeOf243,
    v32:=Tryz.zeroValue243,
    t35:=Tryz.underlying253,
    a35:=Tryz.isAgg253,
    z35:=Tryz.sizeOf253,
    v35:=Tryz.zeroValue253,
    t36:=Tryz.underlying254,
    a36:=Tryz.isAgg254,
    z36:=Tryz.sizeOf254,
    v36:=Tryz.zeroValue254,
    t41:=Tryz.underlying193,
    a41:=Tryz.isAgg193,
    z41:=Tryz.sizeOf193,
    v41:=Tryz.zeroValue193,
    t44:=Tryz.underlying260,
    a44:=Tryz.isAgg260,
    z44:=Tryz.sizeOf260,
    v44:=Tryz.zeroValue260,
    t46:=Tryz.underlying262,
    a46:=Tryz.isAgg262,
    z46:=Tryz.sizeOf262,
    v46:=Tryz.zeroValue262,
    t53:=Tryz.underlying265,
    a53:=Tryz.isAgg265,
    z53:=Tryz.sizeOf265,
    v53:=Tryz.zeroValue265,
    t57:=Tryz.underlying269,
    a57:=Tryz.isAgg269,
    z57:=Tryz.sizeOf269,
    v57:=Tryz.zeroValue269,
    t63:=Tryz.underlying272,
    a63:=Tryz.isAgg272,
    z63:=Tryz.sizeOf272,
    v63:=Tryz.zeroValue272,
    t64:=Tryz.underlying273,
    a64:=Tryz.isAgg273,
    z64:=Tryz.sizeOf273,
    v64:=Tryz.zeroValue273 }
theorem AH (m:Nat):AnyZI.SortsIn Tryz.prog ka Fence.wide m:=
  ⟨fun blk off cap ss W hH hblk hsz=> callsIn_wide.2 (AnyM.slices_Sort_int sH blk off cap ss W hH hblk hsz),
   fun p cap W=> callsIn_wide.2 (AnyM.slices_Sort_int_none sH p cap W)⟩
abbrev Ch:Value→Option (DataW Unit×List MemPlace):=fun _=> some (.nil,[])
theorem vw (M:List (Int×Value)):(dL M).map (fun x=> x.key)=M.map fun p=> Value.int .i64 p.1:=by
  apply List.ext_getElem?
  intro j
  rw [List.getElem?_map,gV,List.getElem?_map]
  cases M[j]? <;> rfl
theorem nW (M:List (Int×Value)):(dL M).map (fun x=> x.born)=List.range M.length:=by
  apply List.ext_getElem?
  intro j
  rw [List.getElem?_map,gV]
  by_cases h:j < M.length
  · rw [List.getElem?_eq_getElem h,List.getElem?_range h];rfl
  · rw [List.getElem?_eq_none ab,List.getElem?_eq_none (by simp;omega)];rfl
theorem wO {M:List (Int×Value)} {x:MapEntry} (h:x∈dL M): ∃ p∈M,x.key= .int .i64 p.1:=by
  obtain ⟨j,hj⟩:=List.getElem?_of_mem h
  rw [gV] at hj
  obtain ⟨p,hp,rfl⟩:=Option.map_eq_some_iff.1 hj
  exact ⟨p,List.mem_of_getElem? hp,rfl⟩
theorem AI {a:Int} (h:0≤a∧a≤1000000):(Lit.int .i64 a).wf=true:=by
  have h1:IntKind.i64.min= -9223372036854775808:=by decide
  have h2:IntKind.i64.max=9223372036854775807:=by decide
  simp only [Lit.wf,h1,h2,Bool.and_eq_true,decide_eq_true_eq]
  omega
theorem yS {P:Program} {a:Int} (hk:P.underlying 3=some (.int .i64)) (h:0≤a∧a≤1000000):keyOf P 3 (.int .i64 a)=some (.int .i64 a):=keyOf_int_mk hk (AI h)
theorem CI:zX:=by
  intro M g b w hlen hnd hrg hlt hcell hb
  have hk3:Tryz.prog.underlying 3=some (.int .i64):=Tryz.underlying3
  have hlen2:(dL M).length=M.length:=vt M
  have hrd: ∀ x∈dL M,∃ p∈M,Go.WideElems.rd Tryz.prog 3 Ch x=some (.int .i64 p.1, .nil)∧x.key= .int .i64 p.1:=by
    intro x hx
    obtain ⟨p,hp,hkx⟩:=wO hx
    refine ⟨p,hp,?_,hkx⟩
    have:=Go.WideElems.rd_mk (P:=Tryz.prog) (k:=3) (R:=Ch) (val:=x.val) (born:=x.born) (yS hk3 (hrg p hp)) (yv:=(.nil,[])) rfl
    rw [← hkx] at this
    exact this
  obtain ⟨E,hE⟩: ∃ E,E=((dL M).map (Go.WideElems.rg Tryz.prog 3 Ch)).foldr DataW.insert []:=⟨_,rfl⟩
  have hperm:E.Perm ((dL M).map (Go.WideElems.rg Tryz.prog 3 Ch)):=by rw [hE];exact Go.WideShapes.sorted_perm _
  have hkeys:((dL M).map (Go.WideElems.rg Tryz.prog 3 Ch)).map (fun p=> Go.intOf p.1)=M.map (·.1):=by
    apply List.ext_getElem?
    intro j
    rw [List.getElem?_map,List.getElem?_map,List.getElem?_map]
    cases hj:(dL M)[j]? with
    | none=>
      rw [gV] at hj
      have:=Option.map_eq_none_iff.1 hj
      rw [this];rfl
    | some x=>
      obtain ⟨q,_,h1,h2⟩:=hrd x (List.mem_of_getElem? hj)
      rw [gV] at hj
      obtain ⟨p,hp,rfl⟩:=Option.map_eq_some_iff.1 hj
      rw [hp]
      simp only [Option.map_some,Go.WideElems.rg_of h1,Go.intOf]
      have h2:Value.int .i64 p.1=Value.int .i64 q.1:=h2
      have h3:p.1=q.1:=by injection h2
      rw [h3]
  have hown:w.ownsMap Tryz.prog 3 Ch b M.length (.map E):=by
    refine ⟨(dL M).toArray,M.length,hb,⟨by simp only [List.size_toArray];rw [hlen2];unfold maxLen;omega,⟨?_,?_,?_⟩,fun x hx=> ?_⟩,by simp only [List.size_toArray];omega,by rw [hE]⟩
    · intro x hx
      have h1:x.born∈(dL M).map (fun x=> x.born):=List.mem_map_of_mem (by simpa using hx)
      rw [nW] at h1
      simpa using h1
    · show ((dL M).map (fun x=> x.born)).Nodup
      rw [nW];exact List.nodup_range
    · show ((dL M).map (fun x=> x.key)).Nodup
      rw [vw]
      have:(M.map fun p=> Value.int .i64 p.1)=(M.map (·.1)).map (fun n=> Value.int .i64 n):=by rw [List.map_map];rfl
      rw [this]
      exact hnd.map (fun n=> Value.int .i64 n) fun a b h e=> h (by cases e;rfl)
    · obtain ⟨p,_,h1,_⟩:=hrd x (by simpa using hx)
      exact ⟨_,h1⟩
  have hsz:Maps.size (.map E:DataW Unit)=M.length:=by
    show E.length=_
    rw [hperm.length_eq,List.length_map,hlen2]
  have hseq:SeqGives Fence.wide 2 Tryz.prog 158 #[.pointer (some ⟨g,0,none⟩)] encZ (fun ss=> ss.Perm (intKeys (.map E:DataW Unit))) (Maps.size (.map E:DataW Unit)) w:=
    AnyZI.keys_gives (ρ:=ma) { zh with } Fence.wide 2 trivial rfl ab g b M.length (.map E) w hlt hcell hown
  have cS:=AnyZI.sorted_in tX Fence.wide 5 trivial trivial trivial trivial rfl ab (AH _) (enters_of Tryz.func157 ae rfl) 158 #[.pointer (some ⟨g,0,none⟩)] trivial (enters_of Tryz.func158 ae rfl) _ _ (by rw [hsz];unfold maxLen;omega) (by rw [hsz];omega) _ hseq
  change CallsIn _ _ Tryz.prog 94 _ _ _ at cS
  refine ((callsIn_wide (n:=5)).1 cS).mono ?_
  rintro e w' ⟨v,ss,rfl,hS,hrow,_,hbl⟩
  refine ⟨v,ss,rfl,?_,hrow,hbl⟩
  have h1:ss.Perm (E.map fun p=> Go.intOf p.1):=hS
  have h2:=hperm.map (fun p=> Go.intOf p.1)
  rw [hkeys] at h2
  exact h1.trans h2
theorem Co:uT:=wk CI

theorem hU (x:Int):Spec Tryz.prog 65 (bf [.v (.int .i64 x)] []) (aL (.v (.int .i64 (jK x))) []):=by
 refine Spec.ofN Tryz.func65 rfl Tryz.ntmps65 rfl ?_
 exact am (bc rfl (ai (am (aV rfl (aj (qX _ _ rfl rfl rfl) (aj (vX _ _ rfl rfl rfl) (bc rfl (ai (aE (aW (.inr rfl) rfl (.tmp (rfl:_=AV.v _)) (Le.out [] [] .v rfl rfl rfl trivial trivial)))))))))))
theorem kt (b:Bool):Spec Tryz.prog 62 (bf [.v (.bool b)] []) (aL (.v (.int .i64 (flag b))) []):=by
 cases b
 ·skip
  refine Spec.ofN Tryz.func62 rfl Tryz.ntmps62 rfl ?_
  refine am (bc rfl (ai (aq (am (cE rfl (ai (aS rfl rfl (aO (am (bc rfl ?_))))))))))
  exact ai (aE (aW (.inr rfl) rfl (.tmp (rfl:_=AV.v _)) (Le.out [] [] .v rfl rfl rfl trivial trivial)))
 ·skip
  refine Spec.ofN Tryz.func62 rfl Tryz.ntmps62 rfl ?_
  refine am (bc rfl (ai (aq (am (cE rfl (ai (bR rfl rfl (am (bc rfl (ai ?_))))))))))
  exact aE (aW (.inr rfl) rfl (.tmp (rfl:_=AV.v _)) (Le.out [] [] .v rfl rfl rfl trivial trivial))
theorem Bs {y x:Int} (hy:Rg y) (hx:Rg x):Spec Tryz.prog 31 (bf [.v (.int .i64 6), .v (.int .i64 y), .v (.int .i64 x)] []) (aL (.v (.int .i64 (iH .add y x))) []):=by
 refine Spec.ofN Tryz.func31 rfl Tryz.ntmps31 rfl ?_
 refine am (bc rfl (ai (aq (am (aV rfl (ai (au (fN rfl rfl rfl rfl rfl (am (aV rfl ?_))))))))))
 refine aV rfl (aj (aZ (r:=y+x) _ _ rfl rfl (bJ (by unfold Rg at hy hx;omega))) ?_)
 refine aj (aC aa al (hU (y+x)) rfl rfl) ?_
 exact bc rfl (ai (aE (aW (.inr rfl) rfl (.tmp (rfl:_=AV.v _)) (Le.out [] [] .v rfl rfl rfl trivial trivial))))
theorem AP {y x:Int} (hy:Rg y) (hx:Rg x):Spec Tryz.prog 31 (bf [.v (.int .i64 7), .v (.int .i64 y), .v (.int .i64 x)] []) (aL (.v (.int .i64 (iH .sub y x))) []):=by
 refine Spec.ofN Tryz.func31 rfl Tryz.ntmps31 rfl ?_
 refine am (bc rfl (ai (aq (am (aV rfl (ai (au (cm rfl rfl rfl rfl rfl (fN rfl rfl rfl rfl rfl (am ?_))))))))))
 refine aV rfl (aV rfl (aj (gK (r:=y - x) _ _ rfl rfl (bJ (by unfold Rg at hy hx;omega))) ?_))
 refine aj (aC aa al (hU (y - x)) rfl rfl) ?_
 exact bc rfl (ai (aE (aW (.inr rfl) rfl (.tmp (rfl:_=AV.v _)) (Le.out [] [] .v rfl rfl rfl trivial trivial))))
theorem AO {y x:Int} (hy:Rg y) (hx:Rg x):Spec Tryz.prog 31 (bf [.v (.int .i64 8), .v (.int .i64 y), .v (.int .i64 x)] []) (aL (.v (.int .i64 (iH .mul y x))) []):=by
 refine Spec.ofN Tryz.func31 rfl Tryz.ntmps31 rfl ?_
 refine am (bc rfl (ai (aq (am (aV rfl (ai (au ?_)))))))
 iterate 2 refine cm rfl rfl rfl rfl rfl ?_
 refine fN rfl rfl rfl rfl rfl (am (aV rfl (aV rfl (aj (pz (r:=y*x) _ _ rfl rfl (bJ (vm hy hx))) ?_))))
 refine aj (aC aa al (hU (y*x)) rfl rfl) ?_
 exact bc rfl (ai (aE (aW (.inr rfl) rfl (.tmp (rfl:_=AV.v _)) (Le.out [] [] .v rfl rfl rfl trivial trivial))))
theorem zH {y x:Int} (hy:Rg y) (hx:Rg x) (h0:x=0):Spec Tryz.prog 31 (bf [.v (.int .i64 9), .v (.int .i64 y), .v (.int .i64 x)] []) (aL (.v (.int .i64 (0))) []):=by
 refine Spec.ofN Tryz.func31 rfl Tryz.ntmps31 rfl ?_
 refine am (bc rfl (ai (aq (am (aV rfl (ai (au ?_)))))))
 iterate 3 refine cm rfl rfl rfl rfl rfl ?_
 refine fN rfl rfl rfl rfl rfl (aq (am (aV rfl (aj (bH _ _ rfl rfl rfl) (ai (bR rfl (decide_eq_true h0) ?_))))))
 exact am (bc rfl (ai (aE (aW (.inr rfl) rfl (.tmp (rfl:_=AV.v _)) (Le.out [] [] .v rfl rfl rfl trivial trivial)))))
theorem xL {y x:Int} (hy:Rg y) (hx:Rg x) (h0:x≠0):Spec Tryz.prog 31 (bf [.v (.int .i64 9), .v (.int .i64 y), .v (.int .i64 x)] []) (aL (.v (.int .i64 (jK (y.tdiv x)))) []):=by
 refine Spec.ofN Tryz.func31 rfl Tryz.ntmps31 rfl ?_
 refine am (bc rfl (ai (aq (am (aV rfl (ai (au ?_)))))))
 iterate 3 refine cm rfl rfl rfl rfl rfl ?_
 refine fN rfl rfl rfl rfl rfl (aq (am (aV rfl (aj (bH _ _ rfl rfl rfl) (ai (aS rfl (decide_eq_false h0) ?_))))))
 refine aO (am (aV rfl (aV rfl (aj (vE (r:=y.tdiv x) _ _ rfl rfl h0 (bJ (by have:=so (y:=x) hy;omega))) ?_))))
 refine aj (aC aa al (hU (y.tdiv x)) rfl rfl) ?_
 exact bc rfl (ai (aE (aW (.inr rfl) rfl (.tmp (rfl:_=AV.v _)) (Le.out [] [] .v rfl rfl rfl trivial trivial))))
theorem Ct {y x:Int} (hy:Rg y) (hx:Rg x):Spec Tryz.prog 31 (bf [.v (.int .i64 11), .v (.int .i64 y), .v (.int .i64 x)] []) (aL (.v (.int .i64 (iH .lt y x))) []):=by
 refine Spec.ofN Tryz.func31 rfl Tryz.ntmps31 rfl ?_
 refine am (bc rfl (ai (aq (am (aV rfl (ai (au ?_)))))))
 iterate 4 refine cm rfl rfl rfl rfl rfl ?_
 refine fN rfl rfl rfl rfl rfl (am (aV rfl (aV rfl (aj (bo _ _ rfl rfl rfl) (aj (aC aa al (kt (decide (y < x))) rfl rfl) ?_)))))
 exact bc rfl (ai (aE (aW (.inr rfl) rfl (.tmp (rfl:_=AV.v _)) (Le.out [] [] .v rfl rfl rfl trivial trivial))))
theorem CQ {y x:Int} (hy:Rg y) (hx:Rg x):Spec Tryz.prog 31 (bf [.v (.int .i64 12), .v (.int .i64 y), .v (.int .i64 x)] []) (aL (.v (.int .i64 (iH .le y x))) []):=by
 refine Spec.ofN Tryz.func31 rfl Tryz.ntmps31 rfl ?_
 refine am (bc rfl (ai (aq (am (aV rfl (ai (au ?_)))))))
 iterate 5 refine cm rfl rfl rfl rfl rfl ?_
 refine fN rfl rfl rfl rfl rfl (am (aV rfl (aV rfl (aj (pA _ _ rfl rfl rfl) (aj (aC aa al (kt (decide (y≤x))) rfl rfl) ?_)))))
 exact bc rfl (ai (aE (aW (.inr rfl) rfl (.tmp (rfl:_=AV.v _)) (Le.out [] [] .v rfl rfl rfl trivial trivial))))
theorem Cy {y x:Int} (hy:Rg y) (hx:Rg x):Spec Tryz.prog 31 (bf [.v (.int .i64 13), .v (.int .i64 y), .v (.int .i64 x)] []) (aL (.v (.int .i64 (iH .eq y x))) []):=by
 refine Spec.ofN Tryz.func31 rfl Tryz.ntmps31 rfl ?_
 refine am (bc rfl (ai (aq (am (aV rfl (ai (au ?_)))))))
 iterate 6 refine cm rfl rfl rfl rfl rfl ?_
 refine cf (am (aV rfl (aV rfl (aj (bH _ _ rfl rfl rfl) (aj (aC aa al (kt (decide (y=x))) rfl rfl) ?_)))))
 exact bc rfl (ai (aE (aW (.inr rfl) rfl (.tmp (rfl:_=AV.v _)) (Le.out [] [] .v rfl rfl rfl trivial trivial))))
theorem qU {o:Opc} {y x:Int} (hy:Rg y) (hx:Rg x) (ho:o= .add∨o= .sub∨o= .mul∨o= .div∨o= .lt∨o= .le∨o= .eq):Spec Tryz.prog 31 (bf [.v (.int .i64 (o.num:Int)), .v (.int .i64 y), .v (.int .i64 x)] []) (aL (.v (.int .i64 (iH o y x))) []):=by
 rcases ho with rfl | rfl | rfl | rfl | rfl | rfl | rfl
 ·exact Bs hy hx
 ·exact AP hy hx
 ·exact AO hy hx
 ·by_cases h0:x=0
  ·rw [show iH .div y x=0 from if_pos h0];exact zH hy hx h0
  ·rw [show iH .div y x=jK (y.tdiv x) from if_neg h0];exact xL hy hx h0
 ·exact Ct hy hx
 ·exact CQ hy hx
 ·exact Cy hy hx

def pn (l:List Int) (x:Int):List Int:=if x∈l then l else l.takeWhile (fun y=> decide (y < x))++[x]++l.dropWhile (fun y=> decide (y < x))

def rN (l:List Nat):List Int:=l.foldl (fun m (i:Nat)=> pn m (i:Int)) []

theorem tU {l:List Int} {x:Int} (h:x∉l):(pn l x).Perm (l++[x]):=by
 unfold pn
 rw [if_neg h]
 have e:=List.takeWhile_append_dropWhile (p:=fun y=> decide (y < x)) (l:=l)
 conv=> rhs;rw [← e]
 rw [List.append_assoc,List.append_assoc]
 exact List.Perm.append_left _ List.perm_append_comm
theorem sF {p:Int→Bool}: ∀ {l:List Int} {y:Int},y∈l.takeWhile p→p y=true
 | a::l,y,h=> by
  rw [List.takeWhile_cons] at h
  split at h
  ·rename_i ha
   rcases List.mem_cons.1 h with rfl | h
   ·exact ha
   ·exact sF h
  ·cases h
theorem xh {l:List Int} {x:Int} (h:l.Pairwise (· < ·)):(pn l x).Pairwise (· < ·):=by
 unfold pn
 split
 ·exact h
 ·rename_i hx
  have e:=List.takeWhile_append_dropWhile (p:=fun y=> decide (y < x)) (l:=l)
  have h':=h
  rw [← e] at h'
  obtain ⟨h1,h2,h3⟩:=List.pairwise_append.1 h'
  have ht: ∀ y∈l.takeWhile (fun y=> decide (y < x)),y < x:=fun y hy=> by
   have:=sF hy
   simpa using this
  have hd: ∀ y∈l.dropWhile (fun y=> decide (y < x)),x < y:=by
   intro y hy
   have hyl:y∈l:=by rw [← e];exact List.mem_append_right _ hy
   have hne:y≠x:=fun e=> hx (e ▸ hyl)
   cases hdw:l.dropWhile (fun y=> decide (y < x)) with
   | nil=> rw [hdw] at hy;cases hy
   | cons a t=>
    have ha: ¬ a < x:=by
     have:=List.head_dropWhile_not (p:=fun y=> decide (y < x)) (l:=l) (by rw [hdw];simp)
     simp only [hdw,List.head_cons] at this
     simpa using this
    rw [hdw] at hy h2
    rcases List.mem_cons.1 hy with rfl | hy
    ·omega
    ·have:=List.rel_of_pairwise_cons h2 hy;omega
  refine List.pairwise_append.2 ⟨List.pairwise_append.2 ⟨h1,by simp,fun a ha b hb=> ?_⟩,h2,fun a ha b hb=> ?_⟩
  ·rw [List.mem_singleton.1 hb];exact ht a ha
  ·rcases List.mem_append.1 ha with ha | ha
   ·exact h3 a ha b hb
   ·rw [List.mem_singleton.1 ha];exact hd b hb
theorem oF: ∀ (l:List Nat) (m:List Int) (M:List (Int×Value)),m.Perm (M.map (·.1))→(l.foldl (fun m (i:Nat)=> pn m (i:Int)) m).Perm ((l.foldl (fun M (i:Nat)=> fo M (i:Int) (.agg #[])) M).map (·.1))
 | [],_,_,h=> h
 | i::l,m,M,h=> oF l _ _ (by
  show (pn m (i:Int)).Perm ((fo M (i:Int) (.agg #[])).map (·.1))
  cases hg:kZ M (i:Int) with
  | none=>
   have hn:(i:Int)∉m:=fun hm=> sw hg (h.mem_iff.1 hm)
   have e:fo M (i:Int) (.agg #[])=M++[((i:Int), .agg #[])]:=by unfold fo;rw [hg];rfl
   rw [e,List.map_append]
   exact (tU hn).trans (h.append_right _)
  | some u=>
   have hm:(i:Int)∈m:=h.mem_iff.2 (List.mem_map.2 ⟨_,qw hg,rfl⟩)
   have e:fo M (i:Int) (.agg #[])=M:=by unfold fo;rw [hg];rfl
   rw [e]
   unfold pn
   rw [if_pos hm];exact h)
theorem qo: ∀ (l:List Nat) (m:List Int),m.Pairwise (· < ·)→(l.foldl (fun m (i:Nat)=> pn m (i:Int)) m).Pairwise (· < ·)
 | [],_,h=> h
 | _::l,_,h=> qo l _ (xh h)
theorem Ar (l:List Nat):rN l=ia (mm l):=by
 have hp:(rN l).Perm ((mm l).map (·.1)):=oF l [] [] (.refl _)
 have hs:(rN l).Pairwise (· < ·):=qo l [] .nil
 have h1:=pJ hp
 have h2:(rN l).mergeSort (fun x y=> decide (x≤y))=rN l:=List.mergeSort_of_pairwise (hs.imp fun h=> by simp only [decide_eq_true_eq];omega)
 rw [← h2,h1];rfl
end Go.Proofs.YtmjnackchaahbaaGreat
