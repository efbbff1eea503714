/- part 15 -/
import Derived.Shelf.SlIterI.Nil
import Derived.Shelf.SortM.Plain
import Derived.Shelf.SortM.SortNone
import Derived.Ground.GgzProg
import Derived.Ground.SlgmProg
import Derived.Test.YtmjnackchaahbaaGreatVhZ14
set_option linter.unusedSimpArgs false
set_option linter.unusedVariables false
set_option maxHeartbeats 2000000
namespace Go.Proofs.YtmjnackchaahbaaGreat
open Go.RowKit

theorem Jq (v k:Int) (hk:1≤k): -k < v.tmod k∧v.tmod k < k∧(v.tmod k+k).tmod k=v % k:=by
 have h1:v.tmod k < k:=Int.tmod_lt_of_pos v ab
 have h2: -k < v.tmod k:=by
  have:=Int.tmod_lt_of_pos (-v) (show 0 < k by omega)
  rw [Int.neg_tmod] at this;omega
 refine ⟨h2,h1,?_⟩
 rw [Int.tmod_eq_emod_of_nonneg ab,Int.add_emod_right,Int.tmod_def,Int.sub_mul_emod_self_left]
section
variable (M:Mk) (s:Ms) (dr se:Int)
theorem Gl (hs:s.stack.length≤90000) (h0:0 < s.stack.length) (hk:max 1 (min (s.top 0) 4)=1):
  Spec Tryz.prog 135 (aE [.ptr (0,9) 0] (ll M s (s.asked.length:Int) se)) (aP (.v (.int .i64 0)) (lj M { s with stack:=s.pop 1 } (s.asked.length:Int) se (2,9) (3,8) (5,8)) [(0,9),(1,9),(2,9),(3,8),(4,9),(5,8)] [(0,9),(1,9),(2,9),(4,9)]):=by
 have hc:=lQ (s.top 0) 1 4
 rw [hk] at hc
 refine Spec.ofNI Tryz.func135 rfl Tryz.ntmps135 rfl ?_
 refine aH (bF rfl (aj (aH (bN rfl (bc (Le.incT (6,0) rfl) ?_)))))
 refine ai (aC aa [((3,8),(6,0))] ar (bH M s (s.asked.length:Int) se ab h0) ob tr tr rfl ae ae) ?_
 refine ai (au aa al (hc) rfl rfl) ?_
 refine go 11 ?_
 exact aq (dm (.inr rfl) rfl (.tmp iH) (Le.outI [((3,8),(6,0)),((5,8),(5,9))] [] .v rfl rfl rfl trivial ob tr rfl))
theorem FN (hs:s.stack.length≤90000) (h0:0 < s.stack.length) (hq:s.asked.length≤90000) (hn:M.ans.length≤4611686018427387904) {k:Int} (hk:max 1 (min (s.top 0) 4)=k) (hk1:k≠1):
  Spec Tryz.prog 135 (aE [.ptr (0,9) 0] (ll M s (s.asked.length:Int) se)) (aP (.v (.int .i64 (nB M.ans s.asked.length k))) (lj M { s with stack:=s.pop 1,asked:=s.asked++[k] } ((s.asked++[k]).length:Int) se (2,9) (3,8) (5,8)) [(0,9),(1,9),(2,9),(3,8),(4,9),(5,8)] [(0,9),(1,9),(2,9),(4,9)]):=by
 have hk2:1≤k∧k≤4:=by omega
 have hc:=lQ (s.top 0) 1 4
 rw [hk] at hc
 have hask:=yN M.ans s.asked k hq hn
 have htm:=Jq (M.ans.getD s.asked.length 0) k hk2.1
 refine Spec.ofNI Tryz.func135 rfl Tryz.ntmps135 rfl ?_
 refine aH (bF rfl (aj (aH (bN rfl (bc (Le.incT (6,0) rfl) ?_)))))
 refine ai (aC aa [((3,8),(6,0))] ar (bH M s (s.asked.length:Int) se ab h0) ob tr tr rfl ae ae) ?_
 refine ai (au aa al (hc) rfl rfl) ?_
 refine bF rfl (aj (aA (aH (bE rfl (AP rfl rfl (beq_eq_false_iff_ne.2 hk1) ?_)))))
 refine aj (cd rfl rfl (cX (ax fun K5 hK5=> ?_)))
 refine az (Le.incT (19,0) rfl) ?_
 refine dA 13 [(4,9),(19,0),(5,9)] ?_
 refine go 18 ?_
 refine aJ (_,[((4,9),_),((19,0),_),((5,9), .gone)]) (fun τ=> (dN rfl aa [((5,8),(19,0))] ar (hask) ob tr tr rfl ae ae)) ?_
 refine go 3 ?_
 refine aJ (_,[]) (fun τ=> cA _ _ rfl rfl ab rfl) ?_
 refine go 4 ?_
 refine am (hK5 _ ?_)
 refine aA ?_
 refine az (σ':=ap 34 [(0,_),(3,_),(4,_)] [((0,9),_),((1,9),_),((2,9),_),((4,9),_),((6,0),_),((19,0),_)] [(0,9),(1,9),(2,9),(4,9),(6,0),(19,0)] [(0,9),(1,9),(2,9),(4,9)]) kp ?_
 refine go 5 ?_
 refine ai (dL (r:=((s.asked++[k]).length:Int)) _ _ rfl rfl ((bT ab).trans (by simp))) ?_
 refine go 7 ?_
 refine ai (dL (r:=(M.ans.getD s.asked.length 0).tmod k+k) _ _ rfl rfl (bT ab)) ?_
 refine bE rfl (ai (cA (r:=nB M.ans s.asked.length k) _ _ rfl rfl ab htm.2.2) ?_)
 exact bF rfl (aj (aq (dm (.inr rfl) rfl (.tmp iH) (Le.outI [((3,8),(6,0)),((5,8),(19,0))] [] .v rfl rfl rfl trivial ob tr rfl))))
theorem sC (n:Int) (hs:s.stack.length≤90000) (h2:2≤s.stack.length) {g:FuncId} [ce Tryz.prog g] {r:Int} (hg:Spec Tryz.prog g (aQ ([.v (.int .i64 (s.top 1)), .v (.int .i64 (s.top 0))]++[]) []) (aG (.v (.int .i64 r)) [])):
  Spec Tryz.prog 189 (aE [.ptr (0,9) 0, .v (.int .i64 n), .fp 0 [.fn (.func g) [] []]] (ll M s dr se)) (aP (.tup []) (lj M { s with stack:=s.pop 2++[mY r] } dr se (2,8) (3,8) (5,8)) [(0,9),(1,9),(2,8),(3,8),(4,9),(5,8)] [(0,9),(1,9),(4,9)]):=by
 have h2x:=bH M { s with stack:=s.pop 1 } dr se (by have:=bV s 1;simp only;omega) (by have:=bV s 1;simp only;omega)
 rw [eG s 0 1 ab,eI,Nat.zero_add] at h2x
 refine Spec.ofNI Tryz.func189 rfl Tryz.ntmps189 rfl ?_
 refine aH (bN rfl (bc (Le.incT (7,0) rfl) ?_))
 refine ai (aC aa [((3,8),(7,0))] ar (bH M s dr se ab ab) ob tr tr rfl ae ae) ?_
 refine bF rfl (aj ?_)
 refine az (Le.incT (11,0) rfl) ?_
 refine dA 6 [(0,9),(1,9),(2,9),(11,0),(4,9),(5,9),(7,0)] ?_
 refine go 2 ?_
 refine aJ (_,[]) (fun τ=> bh _ aa rfl ag rfl) ?_
 refine go 3 ?_
 refine aJ (_,[((0,9),_),((1,9),_),((2,9),_),((11,0),_),((4,9),_),((5,9),_),((7,0), .gone)]) (fun τ=> (aC aa [((3,9),(7,0)),((3,8),(11,0))] ar (h2x) ob tr tr rfl ae ae)) ?_
 refine go 3 ?_
 refine aJ (_,[]) (fun τ=> (kN rfl aa al (hg) rfl rfl)) ?_
 refine go 1 ?_
 refine cD ⟨rfl,?_⟩
 refine bc (Le.incT (14,0) rfl) ?_
 refine ai (aC aa [((3,9),(11,0)),((3,8),(14,0))] ar (dK M { s with stack:=s.pop 2 } dr se r (by have:=bV s 2;simp only;omega)) ob tr tr rfl ae ae) ?_
 exact am (fw [((2,8),(2,9)),((3,8),(14,0)),((5,8),(5,9))])
theorem vu (n:Int) (hs:s.stack.length≤90000) (h2:2≤s.stack.length) {g:FuncId} [ce Tryz.prog g] {f:FuncId} {r:Int} (hg:Spec Tryz.prog g (aQ ([.v (.int .i64 (s.top 1)), .v (.int .i64 (s.top 0))]++[.fp 0 [.fn (.func f) [] []]]) []) (aG (.v (.int .i64 r)) [])):
  Spec Tryz.prog 189 (aE [.ptr (0,9) 0, .v (.int .i64 n), .fp 0 [.fn (.func g) [] [.ptr 0 [.fn (.func f) [] []]]]] (ll M s dr se)) (aP (.tup []) (lj M { s with stack:=s.pop 2++[mY r] } dr se (2,8) (3,8) (5,8)) [(0,9),(1,9),(2,8),(3,8),(4,9),(5,8)] [(0,9),(1,9),(4,9)]):=by
 have h2x:=bH M { s with stack:=s.pop 1 } dr se (by have:=bV s 1;simp only;omega) (by have:=bV s 1;simp only;omega)
 rw [eG s 0 1 ab,eI,Nat.zero_add] at h2x
 refine Spec.ofNI Tryz.func189 rfl Tryz.ntmps189 rfl ?_
 refine aH (bN rfl (bc (Le.incT (7,0) rfl) ?_))
 refine ai (aC aa [((3,8),(7,0))] ar (bH M s dr se ab ab) ob tr tr rfl ae ae) ?_
 refine bF rfl (aj ?_)
 refine az (Le.incT (11,0) rfl) ?_
 refine dA 6 [(0,9),(1,9),(2,9),(11,0),(4,9),(5,9),(7,0)] ?_
 refine go 2 ?_
 refine aJ (_,[]) (fun τ=> bh _ aa rfl ag rfl) ?_
 refine go 3 ?_
 refine aJ (_,[((0,9),_),((1,9),_),((2,9),_),((11,0),_),((4,9),_),((5,9),_),((7,0), .gone)]) (fun τ=> (aC aa [((3,9),(7,0)),((3,8),(11,0))] ar (h2x) ob tr tr rfl ae ae)) ?_
 refine go 3 ?_
 refine aJ (_,[]) (fun τ=> (kN rfl aa al (hg) rfl rfl)) ?_
 refine go 1 ?_
 refine cD ⟨rfl,?_⟩
 refine bc (Le.incT (14,0) rfl) ?_
 refine ai (aC aa [((3,9),(11,0)),((3,8),(14,0))] ar (dK M { s with stack:=s.pop 2 } dr se r (by have:=bV s 2;simp only;omega)) ob tr tr rfl ae ae) ?_
 exact am (fw [((2,8),(2,9)),((3,8),(14,0)),((5,8),(5,9))])
end
end Go.Proofs.YtmjnackchaahbaaGreat

set_option maxHeartbeats 2000000
namespace Go.Proofs.YtmjnackchaahbaaGreat
open Go.RowKit

theorem Hu {x y:Int} (hx:Rg x) (hy:Rg y): -9223372036854775808≤x*y∧x*y≤9223372036854775807:=by
 unfold Rg at hx hy
 have h1:(x*y).natAbs≤2147483647*2147483647:=by
  rw [Int.natAbs_mul]
  exact Nat.mul_le_mul ab ab
 omega
theorem Cw {x y:Int} (hx:Rg x): -2147483647≤x.tdiv y∧x.tdiv y≤2147483647:=by
 unfold Rg at hx
 have h1:(x.tdiv y).natAbs≤x.natAbs:=by
  rw [Int.natAbs_tdiv]
  exact Nat.div_le_self _ _
 omega
section
variable (M:Mk) (s:Ms) (dr se:Int)
theorem zi (n:Int) (hs:s.stack.length≤90000) (h0:0 < s.stack.length) (hk:max 1 (min (s.top 0) 4)=1):
  Spec Tryz.prog 134 (aE [.ptr (0,9) 0, .v (.int .i64 n)] (ll M s (s.asked.length:Int) se)) (aP (.tup []) (lj M { s with stack:=s.pop 1++[0] } (s.asked.length:Int) se (2,8) (3,8) (5,8)) [(0,9),(1,9),(2,8),(3,8),(4,9),(5,8)] [(0,9),(1,9),(4,9)]):=by
 rw [show (0:Int)=mY 0 from ah]
 refine Spec.ofNI Tryz.func134 rfl Tryz.ntmps134 rfl ?_
 refine an (bN rfl (bN rfl (bc ((Le.incT (6,1) rfl).trans (Le.incT (6,0) rfl)) ?_)))
 refine ai (aC aa [((3,8),(6,0)),((5,8),(6,1))] ar (Gl M s se ab h0 hk) ob tr tr rfl ae ae) ?_
 refine bc (Le.incT (7,0) rfl) ?_
 refine ai (aC aa [((3,9),(6,0)),((5,9),(6,1)),((3,8),(7,0))] ar (dK M { s with stack:=s.pop 1 } (s.asked.length:Int) se 0 (by have:=bV s 1;simp only;omega)) ob tr tr rfl ae ae) ?_
 exact am (fw [((2,8),(2,9)),((3,8),(7,0)),((5,8),(6,1))])
theorem zZ (n:Int) (hs:s.stack.length≤90000) (h0:0 < s.stack.length) (hq:s.asked.length≤80000) (hn:M.ans.length≤4611686018427387904) {k:Int} (hk:max 1 (min (s.top 0) 4)=k) (hk1:k≠1):
  Spec Tryz.prog 134 (aE [.ptr (0,9) 0, .v (.int .i64 n)] (ll M s (s.asked.length:Int) se)) (aP (.tup []) (lj M { s with stack:=s.pop 1++[nB M.ans s.asked.length k],asked:=s.asked++[k] } ((s.asked++[k]).length:Int) se (2,8) (3,8) (5,8)) [(0,9),(1,9),(2,8),(3,8),(4,9),(5,8)] [(0,9),(1,9),(4,9)]):=by
 have ha:nB M.ans s.asked.length k=mY (nB M.ans s.asked.length k):=by
  have h1:=Int.emod_nonneg (M.ans.getD s.asked.length 0) (show k≠0 by omega)
  have h2:=Int.emod_lt_of_pos (M.ans.getD s.asked.length 0) (show 0 < k by omega)
  unfold nB mY;omega
 rw [ha]
 refine Spec.ofNI Tryz.func134 rfl Tryz.ntmps134 rfl ?_
 refine an (bN rfl (bN rfl (bc ((Le.incT (6,1) rfl).trans (Le.incT (6,0) rfl)) ?_)))
 refine ai (aC aa [((3,8),(6,0)),((5,8),(6,1))] ar (FN M s se ab h0 ab hn hk hk1) ob tr tr rfl ae ae) ?_
 refine bc (Le.incT (7,0) rfl) ?_
 refine ai (aC aa [((3,9),(6,0)),((5,9),(6,1)),((3,8),(7,0))] ar (dK M { s with stack:=s.pop 1,asked:=s.asked++[k] } ((s.asked++[k]).length:Int) se (nB M.ans s.asked.length k) (by have:=bV s 1;simp only;omega)) ob tr tr rfl ae ae) ?_
 exact am (fw [((2,8),(2,9)),((3,8),(7,0)),((5,8),(6,1))])
end
theorem HZ {y x:Int} (hy:Rg y) (hx:Rg x):Spec Tryz.prog 137 (aQ [.v (.int .i64 y), .v (.int .i64 x)] []) (aG (.v (.int .i64 (y+x))) []):=by
 refine Spec.ofN Tryz.func137 rfl Tryz.ntmps137 rfl ?_
 refine go 6 ?_
 refine ai (dL (r:=y+x) _ _ rfl rfl (bT (by unfold Rg at hy hx;omega))) ?_
 exact bF rfl (aj (aq (eu rfl rfl)))
theorem IZ {y x:Int} (hy:Rg y) (hx:Rg x):Spec Tryz.prog 138 (aQ [.v (.int .i64 y), .v (.int .i64 x)] []) (aG (.v (.int .i64 (y - x))) []):=by
 refine Spec.ofN Tryz.func138 rfl Tryz.ntmps138 rfl ?_
 refine go 6 ?_
 refine ai (bB (r:=y - x) _ _ rfl rfl (bT (by unfold Rg at hy hx;omega))) ?_
 exact bF rfl (aj (aq (eu rfl rfl)))
theorem Ih {y x:Int} (hy:Rg y) (hx:Rg x):Spec Tryz.prog 139 (aQ [.v (.int .i64 y), .v (.int .i64 x)] []) (aG (.v (.int .i64 (y*x))) []):=by
 refine Spec.ofN Tryz.func139 rfl Tryz.ntmps139 rfl ?_
 refine go 6 ?_
 refine ai (ze (r:=y*x) _ _ rfl rfl (bT (Hu hy hx))) ?_
 exact bF rfl (aj (aq (eu rfl rfl)))
theorem IN {y x:Int} (hy:Rg y):Spec Tryz.prog 140 (aQ [.v (.int .i64 y), .v (.int .i64 x)] []) (aG (.v (.int .i64 (if x=0 then 0 else y.tdiv x))) []):=by
 have hd:=Cw (y:=x) hy
 by_cases h0:x=0
 ·rw [if_pos h0]
  refine Spec.ofN Tryz.func140 rfl Tryz.ntmps140 rfl ?_
  refine go 6 ?_
  refine ai (ca _ _ rfl rfl rfl) (aj (dH rfl (decide_eq_true h0) ?_))
  exact aH (bF rfl (aj (aq (eu rfl rfl))))
 rw [if_neg h0]
 refine Spec.ofN Tryz.func140 rfl Tryz.ntmps140 rfl ?_
 refine go 6 ?_
 refine ai (ca _ _ rfl rfl rfl) (aj (cd rfl (decide_eq_false h0) ?_))
 refine cX (aH (bE rfl (bE rfl (ai (Gi (r:=y.tdiv x) _ _ rfl rfl h0 (bT ab)) ?_))))
 exact bF rfl (aj (aq (eu rfl rfl)))
theorem KQ (y x:Int):Spec Tryz.prog 143 (aQ [.v (.int .i64 y), .v (.int .i64 x)] []) (aG (.v (.bool (decide (y < x)))) []):=by
 refine Spec.ofN Tryz.func143 rfl Tryz.ntmps143 rfl ?_
 refine go 9 ?_
 exact aq (eu rfl rfl)
theorem Lq (y x:Int):Spec Tryz.prog 144 (aQ [.v (.int .i64 y), .v (.int .i64 x)] []) (aG (.v (.bool (decide (y≤x)))) []):=by
 refine Spec.ofN Tryz.func144 rfl Tryz.ntmps144 rfl ?_
 refine go 9 ?_
 exact aq (eu rfl rfl)
theorem Lo (y x:Int):Spec Tryz.prog 145 (aQ [.v (.int .i64 y), .v (.int .i64 x)] []) (aG (.v (.bool (decide (y=x)))) []):=by
 refine Spec.ofN Tryz.func145 rfl Tryz.ntmps145 rfl ?_
 refine go 6 ?_
 exact ai (ca _ _ rfl rfl rfl) (gP rfl (aj (aq (eu rfl rfl))))
theorem AS {f:FuncId} [ce Tryz.prog f] {y x:Int} {b:Bool} (hg:Spec Tryz.prog f (aQ [.v (.int .i64 y), .v (.int .i64 x)] []) (aG (.v (.bool b)) [])):Spec Tryz.prog 190 (aQ [.v (.int .i64 y), .v (.int .i64 x), .fp 0 [.fn (.func f) [] []]] []) (aG (.v (.int .i64 (flag b))) []):=by
 cases b
 ·refine Spec.ofN Tryz.func190 rfl Tryz.ntmps190 rfl ?_
  refine aH (bF rfl (aj (aA (aH (ai (bh _ aa rfl ag rfl) ?_)))))
  refine bE rfl (bE rfl (ai (kN rfl aa al (hg) rfl rfl) ?_))
  refine go 6 ?_
  exact aq (eu rfl rfl)
 refine Spec.ofN Tryz.func190 rfl Tryz.ntmps190 rfl ?_
 refine aH (bF rfl (aj (aA (aH (ai (bh _ aa rfl ag rfl) ?_)))))
 refine bE rfl (bE rfl (ai (kN rfl aa al (hg) rfl rfl) ?_))
 refine go 5 ?_
 exact aq (eu rfl rfl)
theorem mO (g:FuncId):Spec Tryz.prog 136 (aQ [.fn (.func g) [] []] []) (aG (.fn (.func 189) [] [.fp 0 [.fn (.func g) [] []]]) []):=by
 refine Spec.ofN Tryz.func136 rfl Tryz.ntmps136 rfl ?_
 refine go 5 ?_
 refine ai (gD _ _ (rfl:_=[]) (rfl:_=[AV.ptr _ _])) ?_
 refine go 2 ?_
 exact aq (dm (.inr rfl) rfl (.tmp Cf) (Le.out [] [(1,0)] (.fn rfl bz rfl (aB (Lv.frzP rfl rfl rfl) bz)) rfl rfl rfl tr trivial))
theorem xx (g:FuncId) (f:FuncId):Spec Tryz.prog 136 (aQ [.fn (.func g) [] [.fp 0 [.fn (.func f) [] []]]] []) (aG (.fn (.func 189) [] [.fp 0 [.fn (.func g) [] [.ptr 0 [.fn (.func f) [] []]]]]) []):=by
 refine Spec.ofN Tryz.func136 rfl Tryz.ntmps136 rfl ?_
 refine go 5 ?_
 refine ai (gD _ _ (rfl:_=[]) (rfl:_=[AV.ptr _ _])) ?_
 refine go 2 ?_
 exact aq (dm (.inr rfl) rfl (.tmp Cf) (Le.out [] [(1,0)] (.fn rfl bz rfl (aB (Lv.frzP rfl rfl rfl) bz)) rfl rfl rfl tr trivial))
theorem pL (f:FuncId):Spec Tryz.prog 142 (aQ [.fn (.func f) [] []] []) (aG (.fn (.func 189) [] [.fp 0 [.fn (.func 190) [] [.ptr 0 [.fn (.func f) [] []]]]]) []):=by
 have hb:=xx 190 f
 refine Spec.ofN Tryz.func142 rfl Tryz.ntmps142 rfl ?_
 refine go 4 ?_
 refine aA ?_
 refine az (Le.frzPt 1 rfl rfl rfl rfl) ?_
 refine an (ai (gD _ _ (rfl:_=[]) (rfl:_=[AV.fp _ _])) ?_)
 refine ai (au aa al (hb) rfl rfl) ?_
 refine go 2 ?_
 exact aq (dm (.inr rfl) rfl (.tmp Cf) (Le.out [] [] (.fn rfl bz rfl lz) rfl rfl rfl trivial trivial))
end Go.Proofs.YtmjnackchaahbaaGreat

set_option maxHeartbeats 2000000
namespace Go.Proofs.YtmjnackchaahbaaGreat
open Go.RowKit

def JP:Opc→FuncId
 | .push=> 127
 | .var=> 128
 | .setVar=> 130
 | .name=> 133
 | .draw=> 134
 | .add=> 189
 | .sub=> 189
 | .mul=> 189
 | .div=> 189
 | .neg=> 141
 | .lt=> 189
 | .le=> 189
 | .eq=> 189
 | .not=> 146
 | .jump=> 147
 | .unl=> 148
 | .send=> 149
 | .timer=> 150
 | .cancel=> 151
 | .sync=> 152
 | .reply=> 153
 | .fail=> 154
 | .stop=> 155
def JW:Opc→List PV
 | .push=> []
 | .var=> []
 | .setVar=> []
 | .name=> []
 | .draw=> []
 | .add=> [.ptr 0 [.fn (.func 137) [] []]]
 | .sub=> [.ptr 0 [.fn (.func 138) [] []]]
 | .mul=> [.ptr 0 [.fn (.func 139) [] []]]
 | .div=> [.ptr 0 [.fn (.func 140) [] []]]
 | .neg=> []
 | .lt=> [.ptr 0 [.fn (.func 190) [] [.ptr 0 [.fn (.func 143) [] []]]]]
 | .le=> [.ptr 0 [.fn (.func 190) [] [.ptr 0 [.fn (.func 144) [] []]]]]
 | .eq=> [.ptr 0 [.fn (.func 190) [] [.ptr 0 [.fn (.func 145) [] []]]]]
 | .not=> []
 | .jump=> []
 | .unl=> []
 | .send=> []
 | .timer=> []
 | .cancel=> []
 | .sync=> []
 | .reply=> []
 | .fail=> []
 | .stop=> []
abbrev HR:List AV:=[.v .nilFunc, .fn (.func 127) [] [], .fn (.func 128) [] [], .fn (.func 130) [] [], .fn (.func 133) [] [], .fn (.func 134) [] [], .fn (.func 189) [] [.fp 0 [.fn (.func 137) [] []]], .fn (.func 189) [] [.fp 0 [.fn (.func 138) [] []]], .fn (.func 189) [] [.fp 0 [.fn (.func 139) [] []]], .fn (.func 189) [] [.fp 0 [.fn (.func 140) [] []]], .fn (.func 141) [] [], .fn (.func 189) [] [.fp 0 [.fn (.func 190) [] [.ptr 0 [.fn (.func 143) [] []]]]], .fn (.func 189) [] [.fp 0 [.fn (.func 190) [] [.ptr 0 [.fn (.func 144) [] []]]]], .fn (.func 189) [] [.fp 0 [.fn (.func 190) [] [.ptr 0 [.fn (.func 145) [] []]]]], .fn (.func 146) [] [], .fn (.func 147) [] [], .fn (.func 148) [] [], .fn (.func 149) [] [], .fn (.func 150) [] [], .fn (.func 151) [] [], .fn (.func 152) [] [], .fn (.func 153) [] [], .fn (.func 154) [] [], .fn (.func 155) [] []]
theorem DE (o:Opc):HR[o.num]? =some (.fn (.func (JP o)) [] (PV.ups (JW o))):=by cases o <;> rfl
instance Ju (o:Opc):ce Tryz.prog (JP o):=by cases o <;> (unfold JP;infer_instance)
theorem AN:Spec Tryz.prog 93 (aQ [] []) (aG (.agg HR) []):=by
 refine Spec.ofN Tryz.func93 rfl Tryz.ntmps93 rfl ?_
 refine go 4 ?_
 refine ai (au aa al (mO 137) rfl rfl) ?_
 refine ai (au aa al (mO 138) rfl rfl) ?_
 refine ai (au aa al (mO 139) rfl rfl) ?_
 refine ai (au aa al (mO 140) rfl rfl) ?_
 refine ai (au aa al (pL 143) rfl rfl) ?_
 refine ai (au aa al (pL 144) rfl rfl) ?_
 refine ai (au aa al (pL 145) rfl rfl) ?_
 refine ai (gp _ aa rfl (by exact (rfl:_=some [_,_,_,_,_,_,_,_,_,_,_,_,_,_,_,_,_,_,_,_,_,_,_,_]))) ?_
 exact HG rfl rfl rfl rfl rfl rfl (aj (aq (NJ [])))
theorem fj (l:List Ac) (a:Ac):bU (l++[a])=if a.k=3 then bU l+1 else bU l:=by
 unfold bU
 rw [List.countP_append,List.countP_singleton]
 by_cases h:a.k=3 <;> simp [h]
theorem pa (b:Bool):mY (flag b)=flag b:=by cases b <;> decide
theorem Gg (M:Mk) (s:Ms) (x:bq) (nv:Nat) (hx:cg nv x) (hv:IV M.cx nv s) (hp:x.op.pops≤s.stack.length) (hs:s.stack.length≤80000) (ha:s.acts.length≤80000) (hq:s.asked.length≤80000) (hn:M.ans.length≤4611686018427387904):
  Spec Tryz.prog (JP x.op) (aE ([.ptr (0,9) 0, .v (.int .i64 x.n)]++PV.ups (JW x.op)) (ll M s (s.asked.length:Int) (bU s.acts:Int))) (aP (.tup []) (lj M (cH M.cx x s) ((cH M.cx x s).asked.length:Int) (bU (cH M.cx x s).acts:Int) (2,8) (3,8) (5,8)) [(0,9),(1,9),(2,8),(3,8),(4,9),(5,8)] [(0,9),(1,9),(4,9)]):=by
 have rs0:=vR hv.rs 0
 have rs1:=vR hv.rs 1
 have hvl:=hv.vl
 have hsn:=hv.sn
 have hnat: ∀ n:Int,0≤n→ ∃ k:Nat,n=k:=fun n h=> ⟨n.toNat,by omega⟩
 obtain ⟨o,n⟩:=x
 have hpp:o.pops≤s.stack.length:=hp
 cases o
 case push=> exact De M s _ _ n ab
 case var=>
  obtain ⟨k,rfl⟩:=hnat n hx.1
  have hk:(k:Int) < nv:=hx.2
  exact CI M s _ _ k ab ab
 case setVar=>
  obtain ⟨k,rfl⟩:=hnat n hx.1
  have hk:(k:Int) < nv:=hx.2
  by_cases hd:k < M.P.d
  ·have h:=Bh M s (s.asked.length:Int) (bU s.acts:Int) k ab ab ab hpp hd
   have e:cH M.cx ⟨.setVar,(k:Int)⟩ s={ s with vars:=s.vars.set k (s.top 0),stack:=s.pop 1,acts:=s.acts++[{ k:=1,a:=k,b:=s.top 0 }] }:=by
    simp only [cH,Int.toNat_natCast]
    rw [if_pos (show (k:Int) < ((M.P.d:Nat):Int) by omega)]
   rw [e]
   rw [show bU (s.acts++[{ k:=1,a:=k,b:=s.top 0 }])=bU s.acts from fj _ _]
   exact h
  have h:=zp M s (s.asked.length:Int) (bU s.acts:Int) k ab ab hpp ab
  have e:cH M.cx ⟨.setVar,(k:Int)⟩ s={ s with vars:=s.vars.set k (s.top 0),stack:=s.pop 1 }:=by
   simp only [cH,Int.toNat_natCast]
   rw [if_neg (show ¬ (k:Int) < ((M.P.d:Nat):Int) by omega)]
  rw [e]
  exact h
 case name=>
  obtain ⟨k,rfl⟩:=hnat n hx.1
  have hk:(k:Int) < 9:=hx.2
  exact BY M s _ _ k ab ab
 case draw=>
  by_cases hk:max 1 (min (s.top 0) 4)=1
  ·have h:=zi M s (bU s.acts:Int) n ab hpp hk
   have e:cH M.cx ⟨.draw,n⟩ s={ s with stack:=s.pop 1++[0] }:=if_pos hk
   rw [e];exact h
  have h:=zZ M s (bU s.acts:Int) n ab hpp hq hn rfl hk
  have e:cH M.cx ⟨.draw,n⟩ s={ s with stack:=s.pop 1++[nB M.ans s.asked.length (max 1 (min (s.top 0) 4))],asked:=s.asked++[max 1 (min (s.top 0) 4)] }:=if_neg hk
  rw [e];exact h
 case add=> exact sC M s _ _ n ab hpp (HZ rs1 rs0)
 case sub=> exact sC M s _ _ n ab hpp (IZ rs1 rs0)
 case mul=> exact sC M s _ _ n ab hpp (Ih rs1 rs0)
 case div=>
  have h:=sC M s (s.asked.length:Int) (bU s.acts:Int) n ab hpp (IN (x:=s.top 0) rs1)
  have e:cH M.cx ⟨.div,n⟩ s={ s with stack:=s.pop 2++[mY (if s.top 0=0 then 0 else (s.top 1).tdiv (s.top 0))] }:=by
   show { s with stack:=s.pop 2++[if s.top 0=0 then 0 else mY ((s.top 1).tdiv (s.top 0))] }=_
   split <;> rfl
  rw [e];exact h
 case neg=> exact Dc M s _ _ n ab hpp rs0
 case not=>
  by_cases h0:s.top 0=0
  ·have h:=CP M s (s.asked.length:Int) (bU s.acts:Int) n ab hpp h0
   have e:cH M.cx ⟨.not,n⟩ s={ s with stack:=s.pop 1++[1] }:=by simp only [cH,h0,decide_true];rfl
   rw [e];exact h
  have h:=Ey M s (s.asked.length:Int) (bU s.acts:Int) n ab hpp h0
  have e:cH M.cx ⟨.not,n⟩ s={ s with stack:=s.pop 1++[0] }:=by simp only [cH,h0,decide_false];rfl
  rw [e];exact h
 case jump=>
  obtain ⟨k,rfl⟩:=hnat n hx
  exact EG M s _ _ k
 case unl=>
  obtain ⟨k,rfl⟩:=hnat n hx
  by_cases h0:s.top 0=0
  ·have h:=EF M s (s.asked.length:Int) (bU s.acts:Int) k ab hpp h0
   have e:cH M.cx ⟨.unl,(k:Int)⟩ s={ s with stack:=s.pop 1,pc:=k }:=by simp only [cH,Int.toNat_natCast];rw [if_pos h0]
   rw [e];exact h
  have h:=Em M s (s.asked.length:Int) (bU s.acts:Int) k ab hpp h0
  have e:cH M.cx ⟨.unl,(k:Int)⟩ s={ s with stack:=s.pop 1 }:=by simp only [cH,Int.toNat_natCast];rw [if_neg h0]
  rw [e];exact h
 case send=>
  by_cases hc:0≤s.top 2∧s.top 2 < M.cx.names.getD 1 0∧bU s.acts < 20
  ·have h:=Et M s (s.asked.length:Int) (bU s.acts:Int) n ab ab hpp ab hc.1 hc.2.1 ab
   have e:cH M.cx ⟨.send,n⟩ s={ s with stack:=s.pop 3,acts:=s.acts++[{ k:=3,a:=s.top 2,b:=n,c:=s.top 1,d:=s.top 0 }] }:=by simp only [cH];rw [if_pos hc]
   rw [e]
   rw [show bU (s.acts++[{ k:=3,a:=s.top 2,b:=n,c:=s.top 1,d:=s.top 0 }])=bU s.acts+1 from fj _ _]
   exact h
  have e:cH M.cx ⟨.send,n⟩ s={ s with stack:=s.pop 3 }:=by simp only [cH];rw [if_neg hc]
  rw [e]
  by_cases h1:0≤s.top 2
  ·by_cases h2:s.top 2 < M.nm 1
   ·exact zN M s (s.asked.length:Int) (bU s.acts:Int) n ab ab hpp ab h1 h2 (by
     have: ¬ bU s.acts < 20:=fun h=> hc ⟨h1,h2,h⟩
     omega)
   exact BF M s (s.asked.length:Int) (bU s.acts:Int) n ab ab hpp ab h1 ab
  exact Ca M s (s.asked.length:Int) (bU s.acts:Int) n ab ab hpp ab ab
 case timer=>
  have h:=As M s (s.asked.length:Int) (bU s.acts:Int) n ab
  have e:bU (cH M.cx ⟨.timer,n⟩ s).acts=bU s.acts:=fj _ _
  rw [e];exact h
 case cancel=>
  have h:=yH M s (s.asked.length:Int) (bU s.acts:Int) n ab
  have e:bU (cH M.cx ⟨.cancel,n⟩ s).acts=bU s.acts:=fj _ _
  rw [e];exact h
 case sync=>
  have h:=Ez M s (s.asked.length:Int) (bU s.acts:Int) n ab
  have e:bU (cH M.cx ⟨.sync,n⟩ s).acts=bU s.acts:=fj _ _
  rw [e];exact h
 case reply=>
  have h:=zj M s (s.asked.length:Int) (bU s.acts:Int) n ab ab hpp
  have e:bU (cH M.cx ⟨.reply,n⟩ s).acts=bU s.acts:=fj _ _
  rw [e];exact h
 case fail=>
  have h:=yW M s (s.asked.length:Int) (bU s.acts:Int) n ab ab hpp
  have e:bU (cH M.cx ⟨.fail,n⟩ s).acts=bU s.acts:=fj _ _
  rw [e];exact h
 case stop=> exact DC M s _ _ n
 case lt=>
  have h:=vu M s (s.asked.length:Int) (bU s.acts:Int) n ab hpp (AS (KQ (s.top 1) (s.top 0)))
  rw [pa] at h
  exact h
 case le=>
  have h:=vu M s (s.asked.length:Int) (bU s.acts:Int) n ab hpp (AS (Lq (s.top 1) (s.top 0)))
  rw [pa] at h
  exact h
 case eq=>
  have h:=vu M s (s.asked.length:Int) (bU s.acts:Int) n ab hpp (AS (Lo (s.top 1) (s.top 0)))
  rw [pa] at h
  exact h
end Go.Proofs.YtmjnackchaahbaaGreat

set_option maxHeartbeats 2000000
namespace Go.Proofs.YtmjnackchaahbaaGreat
open Go.RowKit

theorem qb (l:List Int) (h0:0 < l.length) (h1:l.length≤1000000):
  Spec Tryz.prog 92 (aQ [.sl l.length (cB l)] []) (aG (.ref (0,8) 0 l.length) [((0,8), .row 3 1 (cB l))]):=by
 refine Spec.ofN Tryz.func92 rfl Tryz.ntmps92 rfl ?_
 refine aH (ai (bg _ fg) (aj (aA (aH (jV rfl (ai (Fi _ _ Tryz.underlying22 (.inl ⟨_,rfl⟩) h0 rfl) ?_))))))
 refine aj (cd rfl rfl (cX (aH (ai (GH _ aa rfl) (jV rfl (ai (Eo (7,0) _ _ aa rfl h0 (.sl (by simp)) ab rfl) ?_))))))
 exact gF rfl (aj (aq (nF [((0,8),(7,0))])))
def ow (l:List Nat):List (Int×Value):=l.foldl (fun M (i:Nat)=> fN M (i:Int) (.agg #[])) []
theorem Ar (l:List Nat) (i:Nat):ow (l++[i])=fN (ow l) (i:Int) (.agg #[]):=by simp [ow,List.foldl_append]
theorem tc {M:List (Int×Value)} {n:Int} {u:Value} (h:fX M n=some u):(n,u)∈M:=by
 unfold fX at h
 cases hf:jg n M 0 with
 | none=> rw [hf] at h;cases h
 | some p=>
  obtain ⟨i,v⟩:=p
  rw [hf] at h
  obtain rfl:v=u:=Option.some.inj h
  obtain ⟨q,_,hq⟩:=rz hf
  exact List.mem_of_getElem? hq
theorem ug {M:List (Int×Value)} {n:Int} {u:Value} {p:Int×Value} (h:p∈fN M n u):p∈M∨p=(n,u):=by
 unfold fN at h
 split at h
 ·exact .inl h
 rcases List.mem_append.1 h with h | h
 ·exact .inl h
 exact .inr (List.mem_singleton.1 h)
theorem tI: ∀ (l:List Nat) (M:List (Int×Value)),(∀ p∈M,p.2= .agg #[])→ ∀ p∈l.foldl (fun M (i:Nat)=> fN M (i:Int) (.agg #[])) M,p.2= .agg #[]
 | [],_,h=> h
 | i::l,M,h=> tI l _ fun p hp=> by
  rcases ug hp with hp | rfl
  ·exact h p hp
  rfl
theorem sr (l:List Nat): ∀ p∈ow l,p.2= .agg #[]:=tI l [] fun p hp=> by cases hp
theorem wc {M:List (Int×Value)} {n:Int} (h:fX M n=none):n∉M.map (·.1):=by
 intro hm
 obtain ⟨p,hp,he⟩:=List.mem_map.1 hm
 unfold fX at h
 cases hf:jg n M 0 with
 | some q=> rw [hf] at h;cases h
 | none=>
  clear h hm
  have: ∀ (M:List (Int×Value)) (i:Nat),jg n M i=none→ ∀ p∈M,p.1≠n:=by
   intro M
   induction M with
   | nil=> intro i _ p hp;cases hp
   | cons a l ih=>
    intro i h p hp
    unfold jg at h
    split at h
    ·cases h
    rename_i hne
    rcases List.mem_cons.1 hp with rfl | hp
    ·exact fun e=> hne e.symm
    exact ih _ h p hp
  exact this M 0 hf p hp he
theorem DA {M:List (Int×Value)} {n:Int} {u:Value} (h:(M.map (·.1)).Nodup):((fN M n u).map (·.1)).Nodup:=by
 unfold fN
 cases hg:fX M n with
 | some v=> exact h
 | none=>
  simp only [Option.isSome_none,Bool.false_eq_true,if_false,List.map_append,List.map_cons,List.map_nil]
  exact List.nodup_append.2 ⟨h,by simp,fun a ha b hb e=> wc hg (by rw [List.mem_singleton.1 hb] at e;exact e ▸ ha)⟩
theorem xa: ∀ (l:List Nat) (M:List (Int×Value)),(M.map (·.1)).Nodup→((l.foldl (fun M (i:Nat)=> fN M (i:Int) (.agg #[])) M).map (·.1)).Nodup
 | [],_,h=> h
 | _::l,_,h=> xa l _ (DA h)
theorem BC (l:List Nat):((ow l).map (·.1)).Nodup:=xa l [] List.nodup_nil
theorem xb {N:Int}: ∀ (l:List Nat) (M:List (Int×Value)),(∀ i∈l,(i:Int)≤N)→(∀ p∈M,0≤p.1∧p.1≤N)→ ∀ p∈l.foldl (fun M (i:Nat)=> fN M (i:Int) (.agg #[])) M,0≤p.1∧p.1≤N
 | [],_,_,h=> h
 | i::l,M,hl,h=> xb l _ (fun j hj=> hl j (List.mem_cons_of_mem _ hj)) fun p hp=> by
  rcases ug hp with hp | rfl
  ·exact h p hp
  exact ⟨by simp only;omega,hl i List.mem_cons_self⟩
theorem Ab (l:List Nat) (h: ∀ i∈l,i≤1000000): ∀ p∈ow l,0≤p.1∧p.1≤1000000:=xb l [] (fun i hi=> by have:=h i hi;omega) fun p hp=> by cases hp
theorem Ew (l:List Nat) (n:Int): ∀ u,fX (ow l) n=some u→u= .agg #[]:=fun u h=> sr l _ (tc h)
structure Sz (s:Ms):Prop where
 st:s.stack.length≤s.steps
 ac:s.acts.length≤s.steps
 ak:s.asked.length≤s.steps
theorem DQ (K:Cx) (x:bq) (s:Ms):(cH K x s).stack.length≤s.stack.length+1∧(cH K x s).acts.length≤s.acts.length+1∧(cH K x s).asked.length≤s.asked.length+1∧(cH K x s).steps=s.steps:=by
 have hp:=bV s
 unfold cH
 cases x.op <;> simp only [List.length_append,List.length_cons,List.length_nil,hp]
 case setVar=> split <;> simp <;> omega
 case draw=> split <;> simp [hp] <;> omega
 case send=> split <;> simp <;> omega
 all_goals (refine ⟨?_,?_,?_,?_⟩ <;> first | trivial | omega)
theorem wv {K:Cx} {s:Ms} (h:Sz s):Sz (eO K s):=by
 obtain ⟨h1,h2,h3,h4⟩:=DQ K (K.code.getD s.pc { op:= .stop }) { s with pc:=s.pc+1,steps:=s.steps+1,cov:=s.cov++[s.pc] }
 have:=h.st;have:=h.ac;have:=h.ak
 exact ⟨by unfold eO;rw [h4];simp only at h1 ⊢;omega,by unfold eO;rw [h4];simp only at h2 ⊢;omega,by unfold eO;rw [h4];simp only at h3 ⊢;omega⟩
theorem zV {ρ:ay→ay} {σ:St} {F:ay→Bool} {id id':ay} (h:ρ id=id'):Lv ρ σ F (.mp id) (.mp id'):=by subst h;exact .mp
def jA (M:List (Int×Value)):List Int:=(M.map (·.1)).mergeSort (fun x y=> decide (x≤y))
theorem rh (es:List MapEntry) (c:Nat):Spec Tryz.prog 95 (aE [.mp (0,9)] [((0,9), .mp es c)]) (aP (.fn (.func 158) [] [.ptr (1,8) 0]) [((0,9), .mp es c),((1,8), .box 175 [.mp (0,9)])] [(0,9)] [(0,9)]):=by
 refine Spec.ofNI Tryz.func95 rfl Tryz.ntmps95 rfl ?_
 refine go 5 ?_
 refine ai (gD _ _ (rfl:_=[]) (rfl:_=[AV.ptr _ _])) ?_
 refine go 2 ?_
 exact aq (dm (.inr rfl) rfl (.tmp Cf) (Le.outI [((1,8),(1,0))] [] (.fn rfl bz rfl lz) rfl rfl rfl trivial ⟨⟨rfl,⟨_,rfl, .mp⟩,rfl⟩,⟨rfl,⟨_,rfl, .box rfl (aB (zV rfl) bz)⟩,rfl⟩,trivial⟩ tr rfl))
theorem AJ {σ:St} {rn:List (ay×ay)} (o:Opc):eP σ rn (PV.ups (JW o)) (PV.ups (JW o)):=by
 cases o <;> first | exact cN | exact cq .fp cN
theorem GM (o:Opc):o.num < 24:=by cases o <;> decide
theorem BI (M:List (Int×Value)) (n:Int) (u:Value):(fN M n u).length≤M.length+1:=by unfold fN;split <;> simp
theorem tM: ∀ (l:List Nat) (M:List (Int×Value)),(l.foldl (fun M (i:Nat)=> fN M (i:Int) (.agg #[])) M).length≤M.length+l.length
 | [],M=> Nat.le_refl _
 | i::l,M=> by have:=tM l (fN M i (.agg #[]));have:=BI M i (.agg #[]);simp only [List.foldl_cons,List.length_cons];omega
theorem wu (l:List Nat):(ow l).length≤l.length:=by have:=tM l [];simpa [ow] using this
theorem Bl (K:Cx) (x:bq) (s:Ms):(cH K x s).cov=s.cov:=by
 unfold cH
 cases x.op <;> simp only
 all_goals (split <;> rfl)
theorem CL {K:Cx} {s:Ms} (h:s.fin=true): ∀ k,fi K k s=s
 | 0=> rfl
 | k+1=> by rw [fi,if_pos h]
abbrev Bv:Prop:= ∀ (M:List (Int×Value)),M.length≤1000000→(∀ p∈M,p.2= .agg #[])→(M.map (·.1)).Nodup→(∀ p∈M,0≤p.1∧p.1≤1000000)→Spec Tryz.prog 94 (aE [.fn (.func 158) [] [.ptr (1,9) 0]] [((0,9), .mp (cM M) M.length),((1,9), .box 175 [.mp (0,9)])]) (aP (.sl (jA M).length (cB (jA M))) [((0,9), .mp (cM M) M.length),((1,9), .box 175 [.mp (0,9)])] [(0,9),(1,9)] [(0,9),(1,9)])
set_option maxHeartbeats 1000000 in
theorem xp (M:Mk) (hS:Bv) (D:Nat→Nat) (nv:Nat) (hK:PG M.cx D nv) (h:Nat) (hh:h < 40) (e0:Nat) (he:M.P.e h=(e0:Int)) (he2:e0 < M.P.c.length) (hD:D e0=0) (hiv:M.iv.length=nv) (hir: ∀ v∈M.iv,Rg v) (h0:0 < nv) (hc:M.P.c.length≤1000000) (hn:M.ans.length≤4611686018427387904) (R:Ms) (hR:R=fi M.cx 500 (cw M.iv e0)):
  Spec Tryz.prog 59 (aE [FH M.P, .v (.int .i64 (h:Int)), .agg [.sl M.iv.length (cB M.iv), .v (.int .i64 (M.nm 0)), .v (.int .i64 (M.nm 1)), .v (.int .i64 (M.nm 2)), .v (.int .i64 (M.nm 3)), .v (.int .i64 (M.nm 4)), .v (.int .i64 (M.nm 5)), .v (.int .i64 (M.nm 6)), .v (.int .i64 (M.nm 7)), .v (.int .i64 (M.nm 8))],HA (4,9)] (Cl M.ans [] (5,9))) (aP (.agg [.sl R.vars.length (cB R.vars), .ref (2,8) 0 R.acts.length, .v (.int .i64 (R.steps:Int)), .v (.bool (!R.fin)), .sl (jA (ow R.cov)).length (cB (jA (ow R.cov)))]) (((2,8), .row 57 5 (xw R.acts))::Cl M.ans R.asked (5,8)) [(2,8),(4,9),(5,8)] [(4,9)]):=by
 have hnv:=hK.nv
 have hcl:=qb M.iv ab ab
 have hg:=kM M.P.c.length (inl M.P.c) M.P.e (M.P.d:Int) (M.P.v:Int) h hh
 rw [he] at hg
 refine Spec.ofNI Tryz.func59 rfl Tryz.ntmps59 rfl ?_
 refine go 5 ?_
 refine aA (dA 11 [(22,0)] ?_)
 refine go 10 ?_
 refine aJ (_,[]) (fun τ=> dC _ _ aa rfl rfl rfl h rfl ab (by exact congrArg (fun z=> 0+1+z) (Nat.mul_one h))) ?_
 refine go 1 ?_
 refine aJ (_,[]) (fun τ=> bM _ aa rfl rfl (by exact (congrArg (fun z=> (rX M.P.c.length (inl M.P.c) M.P.e (M.P.d:Int) (M.P.v:Int))[z]?) ab).trans hg)) ?_
 refine go 5 ?_
 refine aJ (_,[((22,0),_)]) (fun τ=> (db aa [((0,8),(22,0))] ar (hcl.toI) trivial tr tr rfl rfl ae ae)) ?_
 refine go 1 ?_
 refine aJ (_,[]) (fun τ=> gp _ aa rfl (by exact (rfl:_=some [AV.ref (22,0) 0 M.iv.length,AV.v (.slice none 0 0),AV.v (.int .i64 0),AV.v (.bool false),AV.v (.slice none 0 0)]))) ?_
 refine go 1 ?_
 refine cD ⟨rfl,?_⟩
 refine ai (gp _ aa rfl (by exact (rfl:_=some [_,_,_,_,_,_,_,_,_,_,_,_,_,_,_,_,_,_,_,_,_,_,_,_,_,_,_,_,_,_,_,_,_,_,_,_,_,_,_,_,_,_,_,_,_,_,_,_,_,_,_,_,_,_,_,_,_,_,_,_,_,_,_,_]))) ?_
 refine ai (ed (25,0) _ rfl rfl) (Oe rfl (aj (aA (aA ?_))))
 refine az (σ':=ap 108 [(4,_),(8,_),(9,_)] [((4,9),_),((5,9),_),((4,0),_),((8,0),_),((22,0),_),((25,0),_)] [(4,9),(5,9)] [(4,9)]) kp ?_
 refine go 7 ?_
 refine cd rfl (decide_eq_false ab) ?_
 refine cX (aH (ai (au aa (by repeat' (exact cL)) (AN) rfl rfl) ?_))
 refine go 4 ?_
 refine ai (fm (36,0) rfl) (go 2 ?_)
 refine ax fun K7 hK7=> ?_
 refine aN ?_
 refine az (Le.incT (60,0) rfl) ?_
 refine az (Le.incT (61,0) rfl) ?_
 refine az (Le.nilB (25,0) 55 (60,0) 57 5 rfl rfl rfl) ?_
 refine az (Le.nilB (25,0) 59 (61,0) 3 1 rfl rfl rfl) ?_
 refine aX (α:=Nat×Ms) (fun z=> R=fi M.cx z.1 z.2∧z.1+z.2.steps=500∧At M.cx D nv z.2∧Sz z.2) 108 [(4,_),(8,_),(9,_),(10,_),(11,_)] [((4,0),_),((8,0),_),((10,0),_)] (fun z=> []) (fun z=> [((25,0), .box 171 [.sl M.P.c.length (inl M.P.c), .v (.int .i64 (M.P.e 0)), .v (.int .i64 (M.P.e 1)), .v (.int .i64 (M.P.e 2)), .v (.int .i64 (M.P.e 3)), .v (.int .i64 (M.P.e 4)), .v (.int .i64 (M.P.e 5)), .v (.int .i64 (M.P.e 6)), .v (.int .i64 (M.P.e 7)), .v (.int .i64 (M.P.e 8)), .v (.int .i64 (M.P.e 9)), .v (.int .i64 (M.P.e 10)), .v (.int .i64 (M.P.e 11)), .v (.int .i64 (M.P.e 12)), .v (.int .i64 (M.P.e 13)), .v (.int .i64 (M.P.e 14)), .v (.int .i64 (M.P.e 15)), .v (.int .i64 (M.P.e 16)), .v (.int .i64 (M.P.e 17)), .v (.int .i64 (M.P.e 18)), .v (.int .i64 (M.P.e 19)), .v (.int .i64 (M.P.e 20)), .v (.int .i64 (M.P.e 21)), .v (.int .i64 (M.P.e 22)), .v (.int .i64 (M.P.e 23)), .v (.int .i64 (M.P.e 24)), .v (.int .i64 (M.P.e 25)), .v (.int .i64 (M.P.e 26)), .v (.int .i64 (M.P.e 27)), .v (.int .i64 (M.P.e 28)), .v (.int .i64 (M.P.e 29)), .v (.int .i64 (M.P.e 30)), .v (.int .i64 (M.P.e 31)), .v (.int .i64 (M.P.e 32)), .v (.int .i64 (M.P.e 33)), .v (.int .i64 (M.P.e 34)), .v (.int .i64 (M.P.e 35)), .v (.int .i64 (M.P.e 36)), .v (.int .i64 (M.P.e 37)), .v (.int .i64 (M.P.e 38)), .v (.int .i64 (M.P.e 39)), .v (.int .i64 (M.P.d:Int)), .v (.int .i64 (M.P.v:Int)), .sl M.iv.length (cB M.iv), .v (.int .i64 (M.nm 0)), .v (.int .i64 (M.nm 1)), .v (.int .i64 (M.nm 2)), .v (.int .i64 (M.nm 3)), .v (.int .i64 (M.nm 4)), .v (.int .i64 (M.nm 5)), .v (.int .i64 (M.nm 6)), .v (.int .i64 (M.nm 7)), .v (.int .i64 (M.nm 8)), .fn (.func 60) [.ptr (4,9) 0] [], .ref (22,0) 0 z.2.vars.length, .ref (60,0) 0 z.2.acts.length, .v (.int .i64 (z.2.steps:Int)), .v (.bool false), .v (.slice none 0 0), .ref (61,0) 0 z.2.stack.length, .v (.int .i64 (z.2.pc:Int)), .v (.int .i64 (z.2.asked.length:Int)), .v (.int .i64 (bU z.2.acts:Int)), .v (.bool z.2.fin)]),((22,0), .row 3 1 (cB z.2.vars)),((60,0), .row 57 5 (xw z.2.acts)),((61,0), .row 3 1 (cB z.2.stack)),((36,0), .mp (cM (ow z.2.cov)) (ow z.2.cov).length),((4,9), .box 129 [.sl M.ans.length (cB M.ans), .ref (5,9) 0 z.2.asked.length, .v (.bool true)]),((5,9), .row 3 1 (cB z.2.asked))]) [(4,9),(5,9),(60,0),(61,0)] [(4,9)] (fun z=> z.1) (500,cw M.iv e0) ?_ (by
  refine Le.mkJ [] [] rfl ?_ ?_ trivial tr ?_
  ·exact ⟨(iP rfl),(iP rfl),(iP rfl),(iP rfl),(iM rfl),trivial⟩
  ·exact ⟨(dc rfl rfl rfl),(dc rfl rfl rfl),(dc rfl rfl rfl),(iq rfl rfl rfl rfl (aB (iu ag ag) (tV (tV (tV (tV (vT (vT (aB (iu ag ag) (CE (CE (vT (aB (by repeat' (first | exact di rfl | refine Lv.fn rfl ?_ rfl ?_ | exact bz | refine aB ?_ ?_)) (aB (eH rfl ag) (aB (eH rfl ag) (vT (aB (qK ag) (aB (by repeat' (exact Lv.v)) lz)))))))))))))))))),(im rfl rfl rfl ag),(im rfl rfl rfl ag),(im rfl rfl rfl ag),(FC rfl rfl rfl ag ag),(iq rfl rfl rfl rfl lz),(im rfl rfl rfl ag),trivial⟩
  kernel_rfl) ?_
 ·exact ⟨hR,rfl,py hiv hir he2 hD,⟨Nat.le_refl _,Nat.le_refl _,Nat.le_refl _⟩⟩
 intro z hz
 obtain ⟨k,s⟩:=z
 obtain ⟨hz1,hz2,hz3,hz4⟩:=hz
 simp only at hz1 hz2 hz3 hz4 ⊢
 have hl1:=hz4.st
 have hl2:=hz4.ac
 have hl3:=hz4.ak
 have hcn:=hz3.cn
 refine ax fun K8 hK8=> ?_
 refine ax fun K9 hK9=> ?_
 refine go 5 ?_
 refine ai (lP (r:= !s.fin) _ rfl rfl) ?_
 refine HY rfl (dn (fun hg42=> ?_) (fun hg42=> ?_))
 ·have hf:s.fin=false:=by simpa using hg42
  refine go 5 ?_
  refine aZ rfl rfl (dg (r:=decide ((s.steps:Int) < 500)) _ _ rfl rfl rfl) ?_
  refine go 1 ?_
  refine am (hK9 _ ?_)
  refine aD rfl (fun hc49=> ?_) (fun hc49=> ?_)
  ·obtain ⟨k,rfl⟩: ∃ q,k=q+1:=⟨k - 1,by omega⟩
   obtain ⟨hp,hd⟩:=hz3.go hf
   obtain ⟨⟨o,n⟩,hx⟩: ∃ x,M.cx.code[s.pc]? =some x:=⟨_,List.getElem?_eq_getElem hp⟩
   obtain ⟨g1,g2,_⟩:=hK.good s.pc ⟨o,n⟩ hx
   rw [Nat.zero_add] at g2
   have g2:o.pops≤D s.pc:=g2
   have hgx:M.cx.code.getD s.pc { op:= .stop }=⟨o,n⟩:=by rw [List.getD_eq_getElem?_getD,hx];rfl
   have hst:eO M.cx s=cH M.cx ⟨o,n⟩ { s with pc:=s.pc+1,steps:=s.steps+1,cov:=s.cov++[s.pc] }:=by unfold eO;rw [hgx]
   have hat:=ou hK hz3 hf
   have hsz:=wv (K:=M.cx) hz4
   have hss:=(stepM_steps (K:=M.cx) (s:=s)).1
   rw [fi,if_neg (by rw [hf];decide)] at hz1
   have hop:=Gg M { s with pc:=s.pc+1,steps:=s.steps+1,cov:=s.cov++[s.pc] } ⟨o,n⟩ nv g1 ⟨hz3.iv.vl,hz3.iv.rv,hz3.iv.rs,hz3.iv.ac,hz3.iv.sn,hz3.iv.ar⟩ (show o.pops≤s.stack.length by omega) (by simp only;omega) (by simp only;omega) (by simp only;omega) hn
   have hcov:=Bl M.cx ⟨o,n⟩ { s with pc:=s.pc+1,steps:=s.steps+1,cov:=s.cov++[s.pc] }
   rw [hst] at hz1 hat hsz hss
   have hmp:fN (ow s.cov) (s.pc:Int) (.agg #[])=ow (cH M.cx ⟨o,n⟩ { s with pc:=s.pc+1,steps:=s.steps+1,cov:=s.cov++[s.pc] }).cov:=by rw [hcov,Ar]
   have hia:=pJ M.P.c s.pc hp
   rw [show bC M.P.c s.pc=⟨o,n⟩ from hgx] at hia
   have hn24:=GM o
   have hpcl:s.pc < M.P.c.length:=hp
   generalize cH M.cx ⟨o,n⟩ { s with pc:=s.pc+1,steps:=s.steps+1,cov:=s.cov++[s.pc] }=E at hz1 hat hsz hss hop hcov hmp
   refine aU (hK8 _ ?_)
   refine go 8 ?_
   refine ai (Dn _ _ _ Tryz.underlying175 Tryz.underlying3 rfl rfl rfl rfl rfl (Ew _ _) hmp rfl) ?_
   refine aj (aA ?_)
   refine az (σ':=ap 108 [(4,_),(8,_),(9,_),(10,_),(11,_)] [((4,0),_),((8,0),_),((10,0),_),((25,0),_),((22,0),_),((60,0),_),((61,0),_),((36,0),_),((4,9),_),((5,9),_)] [(4,9),(5,9),(60,0),(61,0)] [(4,9)]) kp ?_
   refine dA 9 [(12,0)] ?_
   refine go 12 ?_
   refine aJ (_,[]) (fun τ=> aL _ _ aa rfl rfl _ rfl ab (by (simp only [aM,aW,aV,aM,bo,iy];omega)) ag) ?_
   refine go 1 ?_
   refine aJ (_,[]) (fun τ=> bu _ aa rfl (by exact hia) rfl) ?_
   refine go 1 ?_
   refine aJ (_,[((12,0),_)]) (fun τ=> eX (12,0) aa rfl rfl) ?_
   refine go 9 ?_
   refine ai (dL (r:=((s.pc+1:Nat):Int)) _ _ rfl rfl ((bT ab).trans ab)) ?_
   refine go 4 ?_
   refine aA ?_
   refine az (σ':=ap 108 [(4,_),(8,_),(9,_),(10,_),(11,_),(12,_)] [((4,0),_),((8,0),_),((10,0),_),((25,0),_),((22,0),_),((60,0),_),((61,0),_),((36,0),_),((4,9),_),((5,9),_),((12,0),_)] [(4,9),(5,9),(60,0),(61,0)] [(4,9)]) kp ?_
   refine go 6 ?_
   refine ai (dL (r:=((s.steps+1:Nat):Int)) _ _ rfl rfl ((bT ab).trans ab)) ?_
   refine go 5 ?_
   refine az (σ':=ap 108 [(4,_),(8,_),(9,_),(10,_),(11,_),(12,_)] [((4,0),_),((8,0),_),((10,0),_),((25,0),_),((22,0),_),((60,0),_),((61,0),_),((36,0),_),((4,9),_),((5,9),_),((12,0),_)] [(4,9),(5,9),(60,0),(61,0)] [(4,9)]) kp ?_
   refine dA 7 [] ?_
   refine go 4 ?_
   refine aJ (_,[]) (fun τ=> dC _ _ aa rfl rfl rfl o.num rfl ab (by exact (Nat.zero_add _).trans (Nat.mul_one _))) ?_
   refine go 1 ?_
   refine aJ (_,[]) (fun τ=> bM _ aa rfl rfl (by exact DE o)) ?_
   refine go 8 ?_
   refine bc ((Le.incT (87,0) rfl).trans ((Le.incT (87,1) rfl).trans (Le.incT (87,2) rfl))) ?_
   refine ai (dN rfl aa [((0,9),(25,0)),((1,9),(22,0)),((2,9),(60,0)),((3,9),(61,0)),((2,8),(87,0)),((3,8),(87,1)),((5,8),(87,2))] ?_ (hop) ob tr tr rfl (by clear hS hg hia hop;cases o <;> kernel_rfl) ae) ?_
   ·exact cq (di rfl) (cq .v (AJ o))
   refine am (⟨(k,E),?_,?_,?_⟩)
   ·exact ⟨hz1,by simp only;omega,hat,hsz⟩
   ·refine Le.mkJ [((60,0),(87,0)),((61,0),(87,1)),((5,9),(87,2))] [] rfl ?_ ?_ trivial tr ?_
    ·exact ⟨(di (id:=(4,0)) rfl),(di (id:=(8,0)) rfl),(di (id:=(25,0)) rfl),(di (id:=(10,0)) rfl),(by repeat' (exact Lv.mp)),trivial⟩
    ·exact ⟨(iq rfl rfl rfl rfl (by repeat' (first | exact Lv.v | exact Lv.sl | exact bz | refine aB ?_ ?_))),(iq rfl rfl rfl rfl (by repeat' (first | exact Lv.v | exact bz | refine aB ?_ ?_))),(iq rfl rfl rfl rfl (by repeat' (first | exact Lv.v | exact Lv.fp | refine Lv.fn rfl ?_ rfl ?_ | exact bz | refine aB ?_ ?_))),(iq rfl rfl rfl rfl (aB (iu ag ag) (tV (tV (tV (tV (vT (vT (aB (iu ag ag) (CE (CE (vT (aB (by repeat' (first | exact di (id:=(4,9)) rfl | refine Lv.fn rfl ?_ rfl ?_ | exact bz | refine aB ?_ ?_)) (aB (eH rfl ag) (aB (eH rfl ag) (vT (aB (qK ag) (aB (by repeat' (exact Lv.v)) lz)))))))))))))))))),(im rfl rfl rfl ag),(im rfl rfl rfl ag),(im rfl rfl rfl ag),(FC rfl rfl rfl ag ag),(iq rfl rfl rfl rfl lz),(im rfl rfl rfl ag),trivial⟩
    kernel_rfl
   simp only;omega
  obtain rfl:k=0:=by omega
  obtain rfl:R=s:=hz1
  refine bm (id (hK7 _ ?_))
  refine go 6 ?_
  refine ai (lP (r:= !R.fin) _ rfl rfl) ?_
  refine go 5 ?_
  refine aA ?_
  refine az (σ':=ap 108 [(8,_),(9,_),(11,_)] [((8,0),_),((25,0),_),((22,0),_),((60,0),_),((61,0),_),((36,0),_),((4,9),_),((5,9),_)] [(4,9),(5,9),(60,0),(61,0)] [(4,9)]) kp ?_
  refine go 3 ?_
  refine ai (db aa [((0,9),(36,0)),((1,8),(99,0))] ?_ (rh _ _) ⟨⟨rfl,⟨_,rfl, .mp⟩,rfl⟩,trivial⟩ tr tr rfl rfl ae ae) ?_
  ·exact cq (zV rfl) cN
  refine ai (db aa [((0,9),(36,0)),((1,9),(99,0))] ar (hS (ow R.cov) (by have:=wu R.cov;omega) (sr _) (BC _) (Ab _ fun i hi=> Nat.le_trans (Nat.le_of_lt (hz3.cl i hi)) hc)) ⟨⟨rfl,⟨_,rfl, .mp⟩,rfl⟩,⟨rfl,⟨_,rfl, .box ag (aB (zV (id:=(0,9)) (id':=(36,0)) rfl) bz)⟩,rfl⟩,trivial⟩ tr tr rfl rfl ae ae) ?_
  refine go 12 ?_
  exact aq (dm (.inr rfl) rfl (.cellA aa rfl rfl rfl) (Le.outI [((2,8),(60,0)),((5,8),(5,9))] [(22,0)] (.agg rfl (aB (iO rfl rfl (by simp) rfl) lz)) rfl rfl rfl tr ob tr rfl))
 have hf:s.fin=true:=by simpa using hg42
 obtain rfl:R=s:=hz1.trans (CL hf k)
 refine go 7 ?_
 refine am (hK9 _ ?_)
 refine cd rfl rfl (bm (id (hK7 _ ?_)))
 refine go 6 ?_
 refine ai (lP (r:= !R.fin) _ rfl rfl) ?_
 refine go 5 ?_
 refine aA ?_
 refine az (σ':=ap 108 [(8,_),(9,_),(11,_)] [((8,0),_),((25,0),_),((22,0),_),((60,0),_),((61,0),_),((36,0),_),((4,9),_),((5,9),_)] [(4,9),(5,9),(60,0),(61,0)] [(4,9)]) kp ?_
 refine go 3 ?_
 refine ai (db aa [((0,9),(36,0)),((1,8),(99,0))] ?_ (rh _ _) ⟨⟨rfl,⟨_,rfl, .mp⟩,rfl⟩,trivial⟩ tr tr rfl rfl ae ae) ?_
 ·exact cq (zV rfl) cN
 refine ai (db aa [((0,9),(36,0)),((1,9),(99,0))] ar (hS (ow R.cov) (by have:=wu R.cov;omega) (sr _) (BC _) (Ab _ fun i hi=> Nat.le_trans (Nat.le_of_lt (hz3.cl i hi)) hc)) ⟨⟨rfl,⟨_,rfl, .mp⟩,rfl⟩,⟨rfl,⟨_,rfl, .box ag (aB (zV (id:=(0,9)) (id':=(36,0)) rfl) bz)⟩,rfl⟩,trivial⟩ tr tr rfl rfl ae ae) ?_
 refine go 12 ?_
 exact aq (dm (.inr rfl) rfl (.cellA aa rfl rfl rfl) (Le.outI [((2,8),(60,0)),((5,8),(5,9))] [(22,0)] (.agg rfl (aB (iO rfl rfl (by simp) rfl) lz)) rfl rfl rfl tr ob tr rfl))
end Go.Proofs.YtmjnackchaahbaaGreat

set_option maxHeartbeats 2000000
namespace Go.Proofs.YtmjnackchaahbaaGreat
open Go.RowKit

abbrev FB:Prop:= ∀ (M:List (Int×Value)) (g b:Nat) (w:World),M.length≤1000000→(M.map (·.1)).Nodup→(∀ p∈M,0≤p.1∧p.1≤1000000)→g < w.heap.size→w.cell? ⟨g,0,none⟩=some (.map (some b))→w.heap[b]? =some (.map (cM M).toArray M.length)→
  Calls Tryz.prog 94 #[.func (.func 158) #[] #[.pointer (some ⟨g,0,none⟩)]] w fun e w'=> ∃ (v:Value) (ss:List Int),e= .returned v∧ss.Perm (M.map (·.1))∧
    w'.ownsRow w.heap.size 3 1 v ss.length ((ss.mergeSort (fun x y=> decide (x≤y))).map fun x=> Value.int .i64 x)∧Below w.heap.size w w'
theorem sW {l m:List Int} (h:l.Perm m):l.mergeSort (fun x y=> decide (x≤y))=m.mergeSort (fun x y=> decide (x≤y)):=by
  have tr: ∀ a b c:Int,decide (a≤b)=true→decide (b≤c)=true→decide (a≤c)=true:=fun a b c h1 h2=> by
    simp only [decide_eq_true_eq] at*;omega
  have tt: ∀ a b:Int,(decide (a≤b) || decide (b≤a))=true:=fun a b=> by simp only [Bool.or_eq_true,decide_eq_true_eq];omega
  have p1:=List.pairwise_mergeSort (le:=fun x y:Int=> decide (x≤y)) tr tt l
  have p2:=List.pairwise_mergeSort (le:=fun x y:Int=> decide (x≤y)) tr tt m
  exact ((List.mergeSort_perm l _).trans (h.trans (List.mergeSort_perm m _).symm)).eq_of_pairwise (le:=fun x y:Int=> decide (x≤y)=true) (fun a b _ _ h1 h2=> by simp only [decide_eq_true_eq] at h1 h2;omega) p1 p2
theorem zX (hC:FB):Bv:=by
  intro M hlen hval hnd hrg K ι S vs w hw0 hrd R
  obtain ⟨B1,g1,b1,b2,b3,b4⟩:=R.ob (1,9) (.box 175 [.mp (0,9)]) rfl
  obtain ⟨B0,g0,c1,c2,c3⟩:=R.ob (0,9) (.mp (cM M) M.length) rfl
  have hnt:vs.size=1:=R.nt
  have hf:Rep ι S w (.fn (.func 158) [] [.ptr (1,9) 0]) (vs.getD 0 undef):=R.fr 0 (by show 0 < 1;omega)
  have hvs:vs= #[.func (.func 158) #[] #[.pointer (some ⟨g1,0,none⟩)]]:=by
    generalize hx:vs.getD 0 undef=x at hf
    have hvx:vs= #[x]:=by
      apply Array.ext
      · rw [hnt];rfl
      intro i h1 h2
      have:i=0:=by omega
      subst this
      simp only [Array.getD_eq_getD_getElem?,Array.getElem?_eq_getElem h1,Option.getD_some] at hx
      rw [hx];rfl
    rw [hvx]
    cases hf with
    | fn a1 a2 a3 a4=>
    rename_i us ws
    obtain rfl:us= #[]:=Array.size_eq_zero_iff.1 (by simpa using a1)
    have h0:=a4 0 (.ptr (1,9) 0) rfl
    have hws:ws.size=1:=a2
    generalize hy:ws.getD 0 undef=y at h0
    have hwy:ws= #[y]:=by
      apply Array.ext
      · rw [hws];rfl
      intro i h1 h2
      have:i=0:=by omega
      subst this
      simp only [Array.getD_eq_getD_getElem?,Array.getElem?_eq_getElem h1,Option.getD_some] at hy
      rw [hy];rfl
    rw [hwy]
    cases h0 with
    | ptr h _=>
    obtain ⟨g',hg',rfl⟩:=h B1 b1
    rw [b2] at hg'
    obtain rfl:=Option.some.inj hg'
    rfl
  have hbox: ∃ cur e,w.heap[g1]? =some (.cells cur e (0,0))∧cur[0]? =some (.map (some g0)):=by
    rcases b4 with ⟨d1,_⟩ | ⟨g,cur,d1,d2,d3,d4,d5⟩
    · rw [b2] at d1;cases d1
    rw [b2] at d1
    obtain rfl:=Option.some.inj d1
    obtain ⟨u,u1,u2,u3⟩:=d5 0 (by simp)
    have:=u3 (.mp (0,9)) rfl
    cases this with
    | mp h _=>
    obtain ⟨g',hg',rfl⟩:=h B0 c1
    rw [c2] at hg'
    obtain rfl:=Option.some.inj hg'
    exact ⟨cur,_,d2,u1⟩
  obtain ⟨cur1,e1,hh1,hc1⟩:=hbox
  have hlt:g1 < w.heap.size:=(Array.getElem?_eq_some_iff.1 hh1).1
  subst hvs
  refine (hC M g1 g0 w hlen hnd hrg hlt (ee hh1 hc1) c3).mono ?_
  rintro e w' ⟨v,ss,rfl,hp,hrow,hbl⟩
  have hsrt:ss.mergeSort (fun x y=> decide (x≤y))=jA M:=sW hp
  have hsl:ss.length=(jA M).length:=by rw [← hsrt,List.length_mergeSort]
  rw [hsrt,hsl] at hrow
  have fin: ∀ (S':Nat→Prop),(∀ g,S g→S' g)→(∀ g,S' g→S g∨w.heap.size≤g)→(∀ g,S' g→g < w'.heap.size)→Rd S' w' (.sl (jA M).length (cB (jA M))) v→ ∃ v2 ι' S',Ending.returned v=Ending.returned v2∧RelI K ι' S' (aP (.sl (jA M).length (cB (jA M))) [((0,9), .mp (cM M) M.length),((1,9), .box 175 [.mp (0,9)])] [(0,9),(1,9)] [(0,9),(1,9)]) ⟨#[v2],[]⟩ w':=by
    intro S' g1 g2 g3 hrd
    have R3:=R.gen (ι':=ι) (S':=S') (w':=w') (ob':=(aE [.fn (.func 158) [] [.ptr (1,9) 0]] [((0,9), .mp (cM M) M.length),((1,9), .box 175 [.mp (0,9)])]).ob) (inc':=(aE [.fn (.func 158) [] [.ptr (1,9) 0]] [((0,9), .mp (cM M) M.length),((1,9), .box 175 [.mp (0,9)])]).inc) (fun _=> False) (.of_below hbl) (fun _ _=> rfl) (fun _ _=> rfl) (fun _ _=> rfl) (fun _ h=> h) g1
      (fun g h=> by rcases g2 g h with h | h; · exact .inl h
                    exact .inr (.inl h)) g3
      (fun _ _ h=> h.elim) (fun _ _ h=> h.elim) (fun _ _ h=> h.elim) (fun _ _ _ _ _ h=> h.elim) (fun _ _ _ h=> h.elim) (fun _ _ _ h=> h.elim)
    refine ⟨v,ι,S',rfl,R3.keeps,R3.S0,R3.Slt,rfl,R3.df,fun t ht=> ?_,fun t id hh=> ?_,R3.clo,R3.ob,R3.dom,R3.inj,R3.sep,R3.pin,R3.pf⟩
    · obtain rfl:t=0:=by have:t < 1:=ht;omega
      exact .sl hrd
    cases t with
    | zero=> exact absurd hh sN
    | succ t=> exact absurd hh (fun h=> by cases h)
  rcases hrow.2 with ⟨hv,hz⟩ | ⟨g,cap,cur,hv,hbase,hg,r1,r2,r3,r4⟩
  · subst hv
    have hn:jA M=[]:=List.eq_nil_of_length_eq_zero hz
    refine fin S (fun _ h=> h) (fun _ h=> .inl h) (fun g h=> Nat.lt_of_lt_of_le (R.Slt g h) hbl.size) ?_
    rw [hn]
    exact .sl0 (Nat.le_refl _) (by unfold maxLen;omega) fun _=> ⟨rfl,rfl⟩
  subst hv
  refine fin (fun k=> S k∨k=g) (fun _ h=> .inl h) (fun k h=> ?_) (fun k h=> ?_) ?_
  · rcases h with h | h
    · exact .inl h
    exact .inr (by rw [h];exact hbase)
  · rcases h with h | h
    · exact Nat.lt_of_lt_of_le (R.Slt k h) hbl.size
    rw [h];exact (Array.getElem?_eq_some_iff.1 hg).1
  have key: ∀ (j:Nat) (p:PV),(cB (jA M))[j]? =some p→ ∃ x:Int,p= .v (.int .i64 x)∧cur[j]? =some (.int .i64 x):=by
    intro j p hj
    rw [cB,List.getElem?_map] at hj
    obtain ⟨x,hx,rfl⟩:=Option.map_eq_some_iff.1 hj
    refine ⟨x,rfl,?_⟩
    have h5:(cur.toList.take ((jA M).length*1))[j]? =some (.int .i64 x):=by rw [r4,List.getElem?_map,hx];rfl
    rw [List.getElem?_take] at h5
    split at h5
    · simpa using h5
    cases h5
  refine Rd.sl (o:=0) (fun j=> cur.getD j undef) r1 r2 (.mk (.inr rfl) hg) (fun j p hj=> ?_) (fun j p hj=> ?_)
  · obtain ⟨x,_,hu⟩:=key j p hj
    simp only [Nat.zero_add,Array.getD_eq_getD_getElem?,hu,Option.getD_some]
    exact ee hg hu
  obtain ⟨x,rfl,hu⟩:=key j p hj
  simp only [Array.getD_eq_getD_getElem?,hu,Option.getD_some]
  exact .v rfl
end Go.Proofs.YtmjnackchaahbaaGreat

set_option maxHeartbeats 2000000
namespace Go.Proofs.YtmjnackchaahbaaGreat
open Go.RowKit Go.Maps Go.Sort Go.Shelf

def nH:Go.Shelf.Ren:=⟨fun | 7=> 95 | 10=> 158 | n=> n,fun | 23=> 175 | 26=> 3 | 3=> 176 | 28=> 179 | 0=> 0 | 27=> 178 | 33=> 216 | 4=> 4 | n=> n,fun | n=> n⟩
theorem EZ:Go.Proofs.SlLaysZI.n7 Tryz.prog nH:=
  { mixed:=by kernel_rfl,
    f7:=⟨Tryz.f95.name,by decide,Tryz.func95.trans (congrArg some ae)⟩,
    f10:=⟨Tryz.f158.name,by decide,Tryz.func158.trans (congrArg some ae)⟩,
    t0:=Tryz.underlying0,
    a0:=Tryz.isAgg0,
    z0:=Tryz.sizeOf0,
    v0:=Tryz.zeroValue0,
    t4:=Tryz.underlying4,
    a4:=Tryz.isAgg4,
    z4:=Tryz.sizeOf4,
    v4:=Tryz.zeroValue4,
    t23:=Tryz.underlying175,
    a23:=Tryz.isAgg175,
    z23:=Tryz.sizeOf175,
    v23:=Tryz.zeroValue175,
    t26:=Tryz.underlying3,
    a26:=Tryz.isAgg3,
    z26:=Tryz.sizeOf3,
    v26:=Tryz.zeroValue3,
    t27:=Tryz.underlying178,
    a27:=Tryz.isAgg178,
    z27:=Tryz.sizeOf178,
    v27:=Tryz.zeroValue178,
    t28:=Tryz.underlying179,
    a28:=Tryz.isAgg179,
    z28:=Tryz.sizeOf179,
    v28:=Tryz.zeroValue179,
    t33:=Tryz.underlying216,
    a33:=Tryz.isAgg216,
    z33:=Tryz.sizeOf216,
    v33:=Tryz.zeroValue216 }
def lc:Go.Shelf.Ren:=⟨fun | 6=> 94 | 8=> 156 | 9=> 157 | 11=> 191 | 13=> 193 | 12=> 192 | 23=> 219 | 24=> 220 | 14=> 211 | 15=> 212 | 16=> 213 | 17=> 214 | 18=> 215 | 19=> 216 | 20=> 207 | 21=> 217 | 22=> 218 | 25=> 230 | 26=> 231 | 27=> 232 | 28=> 233 | 29=> 234 | 30=> 228 | 31=> 239 | n=> n,fun | 26=> 3 | 28=> 179 | 24=> 22 | 0=> 0 | 3=> 3 | 37=> 243 | 48=> 260 | 50=> 262 | 4=> 4 | 40=> 254 | 39=> 253 | 45=> 193 | 5=> 5 | 9=> 9 | 51=> 265 | 55=> 269 | 57=> 272 | 58=> 273 | 33=> 216 | n=> n,fun | n=> n⟩
theorem xu:Go.Proofs.SlLaysZI.n6 Tryz.prog lc:=
  { mixed:=by kernel_rfl,
    f6:=⟨Tryz.f94.name,by decide,Tryz.func94.trans (congrArg some ae)⟩,
    f8:=⟨Tryz.f156.name,by decide,Tryz.func156.trans (congrArg some ae)⟩,
    f11:=⟨Tryz.f191.name,by decide,Tryz.func191.trans (congrArg some ae)⟩,
    t0:=Tryz.underlying0,
    a0:=Tryz.isAgg0,
    z0:=Tryz.sizeOf0,
    v0:=Tryz.zeroValue0,
    t24:=Tryz.underlying22,
    a24:=Tryz.isAgg22,
    z24:=Tryz.sizeOf22,
    v24:=Tryz.zeroValue22,
    t26:=Tryz.underlying3,
    a26:=Tryz.isAgg3,
    z26:=Tryz.sizeOf3,
    v26:=Tryz.zeroValue3,
    t28:=Tryz.underlying179,
    a28:=Tryz.isAgg179,
    z28:=Tryz.sizeOf179,
    v28:=Tryz.zeroValue179,
    i26:=by kernel_rfl }
def tC:Go.Shelf.Ren:=⟨fun | 5=> 157 | 8=> 193 | 7=> 192 | 19=> 219 | 20=> 220 | 10=> 211 | 11=> 212 | 12=> 213 | 13=> 214 | 14=> 215 | 15=> 216 | 16=> 207 | 17=> 217 | 18=> 218 | 30=> 230 | 31=> 231 | 32=> 232 | 33=> 233 | 34=> 234 | 35=> 228 | 40=> 239 | n=> n,fun | 23=> 22 | 25=> 3 | 3=> 3 | 32=> 243 | 22=> 22 | 0=> 0 | 44=> 260 | 46=> 262 | 4=> 4 | 36=> 254 | 35=> 253 | 41=> 193 | 5=> 5 | 9=> 9 | 53=> 265 | 57=> 269 | 63=> 272 | 64=> 273 | n=> n,fun | n=> n⟩
theorem wy:Go.Proofs.SlLaysM.n5 Tryz.prog tC:=
  { mixed:=by kernel_rfl,
    f5:=⟨Tryz.f157.name,by decide,Tryz.func157.trans (congrArg some ae)⟩,
    f7:=⟨Tryz.f192.name,by decide,Tryz.func192.trans (congrArg some ae)⟩,
    f8:=Tryz.func193.trans (congrArg some ae),
    f10:=⟨Tryz.f211.name,by decide,Tryz.func211.trans (congrArg some ae)⟩,
    f11:=⟨Tryz.f212.name,by decide,Tryz.func212.trans (congrArg some ae)⟩,
    f12:=⟨Tryz.f213.name,by decide,Tryz.func213.trans (congrArg some ae)⟩,
    f13:=⟨Tryz.f214.name,by decide,Tryz.func214.trans (congrArg some ae)⟩,
    f14:=⟨Tryz.f215.name,by decide,Tryz.func215.trans (congrArg some ae)⟩,
    f15:=⟨Tryz.f216.name,by decide,Tryz.func216.trans (congrArg some ae)⟩,
    f16:=⟨Tryz.f207.name,by decide,Tryz.func207.trans (congrArg some ae)⟩,
    f17:=⟨Tryz.f217.name,by decide,Tryz.func217.trans (congrArg some ae)⟩,
    f18:=⟨Tryz.f218.name,by decide,Tryz.func218.trans (congrArg some ae)⟩,
    f19:=Tryz.func219.trans (congrArg some ae),
    f20:=Tryz.func220.trans (congrArg some ae),
    f30:=⟨Tryz.f230.name,by decide,Tryz.func230.trans (congrArg some ae)⟩,
    f31:=Tryz.func231.trans (congrArg some ae),
    f32:=Tryz.func232.trans (congrArg some ae),
    f33:=⟨Tryz.f233.name,by decide,Tryz.func233.trans (congrArg some ae)⟩,
    f34:=⟨Tryz.f234.name,by decide,Tryz.func234.trans (congrArg some ae)⟩,
    f35:=⟨Tryz.f228.name,by decide,Tryz.func228.trans (congrArg some ae)⟩,
    f40:=⟨Tryz.f239.name,by decide,Tryz.func239.trans (congrArg some ae)⟩,
    t0:=Tryz.underlying0,
    a0:=Tryz.isAgg0,
    z0:=Tryz.sizeOf0,
    v0:=Tryz.zeroValue0,
    t3:=Tryz.underlying3,
    a3:=Tryz.isAgg3,
    z3:=Tryz.sizeOf3,
    v3:=Tryz.zeroValue3,
    t4:=Tryz.underlying4,
    a4:=Tryz.isAgg4,
    z4:=Tryz.sizeOf4,
    v4:=Tryz.zeroValue4,
    t5:=Tryz.underlying5,
    a5:=Tryz.isAgg5,
    z5:=Tryz.sizeOf5,
    v5:=Tryz.zeroValue5,
    t9:=Tryz.underlying9,
    a9:=Tryz.isAgg9,
    z9:=Tryz.sizeOf9,
    v9:=Tryz.zeroValue9,
    t22:=Tryz.underlying22,
    a22:=Tryz.isAgg22,
    z22:=Tryz.sizeOf22,
    v22:=Tryz.zeroValue22,
    t23:=Tryz.underlying22,
    a23:=Tryz.isAgg22,
    z23:=Tryz.sizeOf22,
    v23:=Tryz.zeroValue22,
    t25:=Tryz.underlying3,
    a25:=Tryz.isAgg3,
    z25:=Tryz.sizeOf3,
    v25:=Tryz.zeroValue3,
    t32:=Tryz.underlying243,
    a32:=Tryz.isAgg243,
    z32:=Tryz.sizeOf243,
    v32:=Tryz.zeroValue243,
    t35:=Tryz.underlying253,
    a35:=Tryz.isAgg253,
    z35:=Tryz.sizeOf253,
    v35:=Tryz.zeroValue253,
    t36:=Tryz.underlying254,
    a36:=Tryz.isAgg254,
    z36:=Tryz.sizeOf254,
    v36:=Tryz.zeroValue254,
    t41:=Tryz.underlying193,
    a41:=Tryz.isAgg193,
    z41:=Tryz.sizeOf193,
    v41:=Tryz.zeroValue193,
    t44:=Tryz.underlying260,
    a44:=Tryz.isAgg260,
    z44:=Tryz.sizeOf260,
    v44:=Tryz.zeroValue260,
    t46:=Tryz.underlying262,
    a46:=Tryz.isAgg262,
    z46:=Tryz.sizeOf262,
    v46:=Tryz.zeroValue262,
    t53:=Tryz.underlying265,
    a53:=Tryz.isAgg265,
    z53:=Tryz.sizeOf265,
    v53:=Tryz.zeroValue265,
    t57:=Tryz.underlying269,
    a57:=Tryz.isAgg269,
    z57:=Tryz.sizeOf269,
    v57:=Tryz.zeroValue269,
    t63:=Tryz.underlying272,
    a63:=Tryz.isAgg272,
    z63:=Tryz.sizeOf272,
    v63:=Tryz.zeroValue272,
    t64:=Tryz.underlying273,
    a64:=Tryz.isAgg273,
    z64:=Tryz.sizeOf273,
    v64:=Tryz.zeroValue273 }
theorem GF (m:Nat):AnyZI.SortsIn Tryz.prog lc Fence.wide m:=
  ⟨fun blk off cap ss W hH hblk hsz=> callsIn_wide.2 (AnyM.slices_Sort_int wy blk off cap ss W hH hblk hsz),
   fun p cap W=> callsIn_wide.2 (AnyM.slices_Sort_int_none wy p cap W)⟩
abbrev HL:Value→Option (DataW Unit×List MemPlace):=fun _=> some (.nil,[])
theorem Av (M:List (Int×Value)):(cM M).map (fun x=> x.key)=M.map fun p=> Value.int .i64 p.1:=by
  apply List.ext_getElem?
  intro j
  rw [List.getElem?_map,iY,List.getElem?_map]
  cases M[j]? <;> rfl
theorem qC (M:List (Int×Value)):(cM M).map (fun x=> x.born)=List.range M.length:=by
  apply List.ext_getElem?
  intro j
  rw [List.getElem?_map,iY]
  by_cases h:j < M.length
  · rw [List.getElem?_eq_getElem h,List.getElem?_range h];rfl
  rw [List.getElem?_eq_none ab,List.getElem?_eq_none (by simp;omega)];rfl
theorem Ay {M:List (Int×Value)} {x:MapEntry} (h:x∈cM M): ∃ p∈M,x.key= .int .i64 p.1:=by
  obtain ⟨j,hj⟩:=List.getElem?_of_mem h
  rw [iY] at hj
  obtain ⟨p,hp,rfl⟩:=Option.map_eq_some_iff.1 hj
  exact ⟨p,List.mem_of_getElem? hp,rfl⟩
theorem FV {a:Int} (h:0≤a∧a≤1000000):(Lit.int .i64 a).wf=true:=by
  have h1:IntKind.i64.min= -9223372036854775808:=by decide
  have h2:IntKind.i64.max=9223372036854775807:=by decide
  simp only [Lit.wf,h1,h2,Bool.and_eq_true,decide_eq_true_eq]
  omega
theorem Ed {P:Program} {a:Int} (hk:P.underlying 3=some (.int .i64)) (h:0≤a∧a≤1000000):keyOf P 3 (.int .i64 a)=some (.int .i64 a):=keyOf_int_mk hk (FV h)
theorem Jm:FB:=by
  intro M g b w hlen hnd hrg hlt hcell hb
  have hk3:Tryz.prog.underlying 3=some (.int .i64):=Tryz.underlying3
  have hlen2:(cM M).length=M.length:=AT M
  have hrd: ∀ x∈cM M,∃ p∈M,Go.WideElems.rd Tryz.prog 3 HL x=some (.int .i64 p.1, .nil)∧x.key= .int .i64 p.1:=by
    intro x hx
    obtain ⟨p,hp,hkx⟩:=Ay hx
    refine ⟨p,hp,?_,hkx⟩
    have:=Go.WideElems.rd_mk (P:=Tryz.prog) (k:=3) (R:=HL) (val:=x.val) (born:=x.born) (Ed hk3 (hrg p hp)) (yv:=(.nil,[])) rfl
    rw [← hkx] at this
    exact this
  obtain ⟨E,hE⟩: ∃ E,E=((cM M).map (Go.WideElems.rg Tryz.prog 3 HL)).foldr DataW.insert []:=⟨_,rfl⟩
  have hperm:E.Perm ((cM M).map (Go.WideElems.rg Tryz.prog 3 HL)):=by rw [hE];exact Go.WideShapes.sorted_perm _
  have hkeys:((cM M).map (Go.WideElems.rg Tryz.prog 3 HL)).map (fun p=> Go.intOf p.1)=M.map (·.1):=by
    apply List.ext_getElem?
    intro j
    rw [List.getElem?_map,List.getElem?_map,List.getElem?_map]
    cases hj:(cM M)[j]? with
    | none=>
      rw [iY] at hj
      have:=Option.map_eq_none_iff.1 hj
      rw [this];rfl
    | some x=>
      obtain ⟨q,_,h1,h2⟩:=hrd x (List.mem_of_getElem? hj)
      rw [iY] at hj
      obtain ⟨p,hp,rfl⟩:=Option.map_eq_some_iff.1 hj
      rw [hp]
      simp only [Option.map_some,Go.WideElems.rg_of h1,Go.intOf]
      have h2:Value.int .i64 p.1=Value.int .i64 q.1:=h2
      have h3:p.1=q.1:=by injection h2
      rw [h3]
  have hown:w.ownsMap Tryz.prog 3 HL b M.length (.map E):=by
    refine ⟨(cM M).toArray,M.length,hb,⟨by simp only [List.size_toArray];rw [hlen2];unfold maxLen;omega,⟨?_,?_,?_⟩,fun x hx=> ?_⟩,by simp only [List.size_toArray];omega,by rw [hE]⟩
    · intro x hx
      have h1:x.born∈(cM M).map (fun x=> x.born):=List.mem_map_of_mem (by simpa using hx)
      rw [qC] at h1
      simpa using h1
    · show ((cM M).map (fun x=> x.born)).Nodup
      rw [qC];exact List.nodup_range
    · show ((cM M).map (fun x=> x.key)).Nodup
      rw [Av]
      have:(M.map fun p=> Value.int .i64 p.1)=(M.map (·.1)).map (fun n=> Value.int .i64 n):=by rw [List.map_map];rfl
      rw [this]
      exact hnd.map (fun n=> Value.int .i64 n) fun a b h e=> h (by cases e;rfl)
    obtain ⟨p,_,h1,_⟩:=hrd x (by simpa using hx)
    exact ⟨_,h1⟩
  have hsz:Maps.size (.map E:DataW Unit)=M.length:=by
    show E.length=_
    rw [hperm.length_eq,List.length_map,hlen2]
  have hseq:SeqGives Fence.wide 2 Tryz.prog 158 #[.pointer (some ⟨g,0,none⟩)] encZ (fun ss=> ss.Perm (intKeys (.map E:DataW Unit))) (Maps.size (.map E:DataW Unit)) w:=
    AnyZI.keys_gives (ρ:=nH) { EZ with } Fence.wide 2 trivial rfl ab g b M.length (.map E) w hlt hcell hown
  have cS:=AnyZI.sorted_in xu Fence.wide 5 trivial trivial trivial trivial rfl ab (GF _) (enters_of Tryz.func157 ae rfl) 158 #[.pointer (some ⟨g,0,none⟩)] trivial (enters_of Tryz.func158 ae rfl) _ _ (by rw [hsz];unfold maxLen;omega) (by rw [hsz];omega) _ hseq
  change CallsIn _ _ Tryz.prog 94 _ _ _ at cS
  refine ((callsIn_wide (n:=5)).1 cS).mono ?_
  rintro e w' ⟨v,ss,rfl,hS,hrow,_,hbl⟩
  refine ⟨v,ss,rfl,?_,hrow,hbl⟩
  have h1:ss.Perm (E.map fun p=> Go.intOf p.1):=hS
  have h2:=hperm.map (fun p=> Go.intOf p.1)
  rw [hkeys] at h2
  exact h1.trans h2
theorem IB:Bv:=zX Jm
end Go.Proofs.YtmjnackchaahbaaGreat

set_option maxHeartbeats 2000000
namespace Go.Proofs.YtmjnackchaahbaaGreat
open Go.RowKit

theorem xh (xs:List Int) (x:Int) (h1:xs.length≤4611686018427387904):
  Spec Tryz.prog 35 (aQ [.sl xs.length (cB xs), .v (.int .i64 x)] []) (aG (.v (.bool (decide (x∈xs)))) []):=by
 refine Spec.ofN Tryz.func35 rfl Tryz.ntmps35 rfl ?_
 refine aH (gP rfl (aj (ax fun K2 hK2=> ?_)))
 refine aH (bF rfl (aj (aN ?_)))
 refine aX (α:=Nat) (fun k=> k≤xs.length∧x∉xs.take k) 18 [(0,_),(1,_)] [] (fun k=> [(5, .v (.int .i64 (k:Int)))]) (fun k=> []) [] [] (fun k=> xs.length - k) 0 ?_ (kj [] [] []) ?_
 ·exact ⟨Nat.zero_le _,by simp⟩
 intro k hk
 obtain ⟨hk,hnt⟩:=hk
 refine ax fun K4 hK4=> ?_
 refine go 6 ?_
 refine aD rfl (fun hc9=> ?_) (fun hc9=> ?_)
 ·have hkx:k < xs.length:=by omega
  have hgk:xs.getD k 0=xs[k]:=by rw [List.getD_eq_getElem?_getD,List.getElem?_eq_getElem hkx];rfl
  refine aU (hK4 _ ?_)
  refine aA (aN (aH (jV rfl (bE rfl (ai (aL _ _ aa rfl rfl _ rfl ab (by (simp only [aM,aW,aV,aM,iy,bo];omega)) (by exact Nat.mul_one _)) ?_)))))
  refine ai (bh _ aa rfl (by exact cU _ _ ab) rfl) ?_
  refine bE rfl (ai (ca _ _ rfl rfl rfl) (aj (aD rfl (fun hc17=> ?_) (fun hc17=> ?_))))
  ·refine aH (gP rfl (aj (aq (kV rfl rfl ?_))))
   rw [hgk] at hc17
   exact decide_eq_true (hc17 ▸ List.getElem_mem hkx)
  refine go 5 ?_
  refine am (⟨k+1,?_,?_,?_⟩)
  ·rw [hgk] at hc17
   refine ⟨by omega,?_⟩
   rw [List.take_succ_eq_append_getElem hkx,List.mem_append,List.mem_singleton]
   exact fun h=> h.elim hnt fun e=> hc17 (by rw [e])
  ·exact kj [] [] []
  omega
 have hall:x∉xs:=by rwa [List.take_of_length_le ab] at hnt
 refine bm (id (hK2 _ ?_))
 refine aH (gP rfl (aj (aq (kV rfl rfl ?_))))
 exact decide_eq_false hall
def jY (l:List Int) (x:Int):List Int:=if x∈l then l else l.takeWhile (fun y=> decide (y < x))++[x]++l.dropWhile (fun y=> decide (y < x))
end Go.Proofs.YtmjnackchaahbaaGreat

set_option maxHeartbeats 2000000
namespace Go.Proofs.YtmjnackchaahbaaGreat
open Go.RowKit

def mB (x:bq):Bool:=match x.op with
 | .push=> true | .var=> true | .setVar=> true | .name=> true | .send=> true | .timer=> true | .cancel=> true | .jump=> true | .unl=> true
 | _=> x.n==0
theorem Qt (o:Bo):o.code.all mB=true:=by cases o <;> rfl
theorem zE: ∀ (e:Ex) (a:Nat),(aI e a).all mB=true
 | .int _,_=> rfl | .bool _,_=> rfl | .var _,_=> rfl | .name _,_=> rfl
 | .draw e,a=> by simp [aI,zE e a,mB]
 | .neg e,a=> by simp [aI,zE e a,mB]
 | .not e,a=> by simp [aI,zE e a,mB]
 | .bin o x y,a=> by simp only [aI,List.all_append,zE x,zE y,Qt,Bool.and_self]
 | .and x y,a=> by simp only [aI,List.all_append,zE x,zE y,Bool.true_and];rfl
 | .or x y,a=> by simp only [aI,List.all_append,zE x,zE y,Bool.true_and,Bool.and_true];rfl
mutual
theorem zS: ∀ (s:Sm) (a:Nat),(bp s a).all mB=true
 | .assign _ e,a=> by simp [bp,zE e a,mB]
 | .send t k x y,a=> by simp only [bp,List.all_append,zE t,zE x,zE y,Bool.true_and];rfl
 | .timer _,_=> by simp [bp,mB] | .cancel _,_=> by simp [bp,mB] | .sync,_=> by simp [bp,mB] | .stop,_=> by simp [bp,mB]
 | .reply x y,a=> by simp only [bp,List.all_append,zE x,zE y,Bool.true_and];rfl
 | .fail e,a=> by simp [bp,zE e a,mB]
 | .loop c b,a=> by simp only [bp,List.all_append,zE c,zB b,Bool.true_and,Bool.and_true];rfl
 | .ite c x y,a=> by simp only [bp,List.all_append,zE c,zB x,zB y,Bool.true_and,Bool.and_true];rfl
theorem zB: ∀ (b:Bk) (a:Nat),(bK b a).all mB=true
 | .nil,_=> by simp [bK]
 | .cons s b,a=> by simp only [bK,List.all_append,zS s,zB b,Bool.and_self]
end
theorem zH: ∀ (l:List (Nat×Bk)) (a:Nat),(aO l a).all mB=true
 | [],_=> rfl
 | (h,b)::l,a=> by simp only [aO,List.all_append,zB b,zH l,Bool.true_and,Bool.and_true];rfl
abbrev Ap (C:List bq) (en:Nat→Int) (dd vv:Nat) (o:Opc) (n:Int):Prop:=Spec Tryz.prog 71 (aQ [.agg (rX C.length (inl C) en (dd:Int) (vv:Int)), .agg [.v (.int .i64 (o.num:Int)), .v (.int .i64 n)]] []) (aG (.v (.bool true)) [])
theorem zn (C:List bq) (en:Nat→Int) (dd vv:Nat) (hC:C.length≤1000000) (hd:dd≤1000) (hv:vv≤1000) (n:Int) (h: -2147483647≤n∧n≤2147483647):Ap C en dd vv .push n:=by
 refine Spec.ofN Tryz.func71 rfl Tryz.ntmps71 rfl ?_
 refine go 22 ?_
 refine ai (cf (r:=true) _ _ rfl rfl (decide_eq_true h.1)) ?_
 refine go 3 ?_
 refine aZ rfl rfl (bn (r:=true) _ _ rfl rfl (decide_eq_true h.2)) ?_
 refine go 3 ?_
 refine aq (kV rfl rfl ?_)
 rfl
theorem Fe (C:List bq) (en:Nat→Int) (dd vv:Nat) (hC:C.length≤1000000) (hd:dd≤1000) (hv:vv≤1000) (n:Int) (h0:0≤n) (h1:n < (dd+vv:Nat)):Ap C en dd vv .var n:=by
 refine Spec.ofN Tryz.func71 rfl Tryz.ntmps71 rfl ?_
 refine go 32 ?_
 refine ai (dL (r:=((dd+vv:Nat):Int)) _ _ rfl rfl ((bT ab).trans ab)) ?_
 refine ai (bB (r:=((dd+vv:Nat):Int) - 1) _ _ rfl rfl (bT ab)) ?_
 refine bF rfl (qz (aA ?_))
 refine az (σ':=ap 56 [(3,_),(5,_)] [((3,0),_)] [] []) kp ?_
 refine go 3 ?_
 refine ai (au aa al (dW .var) rfl rfl) ?_
 refine ai (cf (r:=true) _ _ rfl rfl (decide_eq_true ab)) ?_
 refine go 3 ?_
 refine aZ rfl rfl (cf (r:=true) _ _ rfl rfl (decide_eq_true ab)) ?_
 refine go 5 ?_
 refine aZ rfl rfl (bn (r:=true) _ _ rfl rfl (decide_eq_true ab)) ?_
 refine go 3 ?_
 refine aq (kV rfl rfl ?_)
 rfl
theorem uR (C:List bq) (en:Nat→Int) (dd vv:Nat) (hC:C.length≤1000000) (hd:dd≤1000) (hv:vv≤1000) (n:Int) (h0:0≤n) (h1:n < (dd+vv:Nat)):Ap C en dd vv .setVar n:=by
 refine Spec.ofN Tryz.func71 rfl Tryz.ntmps71 rfl ?_
 refine go 35 ?_
 refine ai (dL (r:=((dd+vv:Nat):Int)) _ _ rfl rfl ((bT ab).trans ab)) ?_
 refine ai (bB (r:=((dd+vv:Nat):Int) - 1) _ _ rfl rfl (bT ab)) ?_
 refine bF rfl (qz (aA ?_))
 refine az (σ':=ap 56 [(3,_),(5,_)] [((3,0),_)] [] []) kp ?_
 refine go 3 ?_
 refine ai (au aa al (dW .setVar) rfl rfl) ?_
 refine ai (cf (r:=true) _ _ rfl rfl (decide_eq_true ab)) ?_
 refine go 3 ?_
 refine aZ rfl rfl (cf (r:=true) _ _ rfl rfl (decide_eq_true ab)) ?_
 refine go 5 ?_
 refine aZ rfl rfl (bn (r:=true) _ _ rfl rfl (decide_eq_true ab)) ?_
 refine go 3 ?_
 refine aq (kV rfl rfl ?_)
 rfl
theorem Ao (C:List bq) (en:Nat→Int) (dd vv:Nat) (hC:C.length≤1000000) (hd:dd≤1000) (hv:vv≤1000) (n:Int) (h0:0≤n) (h1:n < 9):Ap C en dd vv .name n:=by
 refine Spec.ofN Tryz.func71 rfl Tryz.ntmps71 rfl ?_
 refine go 38 ?_
 refine aA ?_
 refine az (σ':=ap 56 [(3,_),(5,_)] [((3,0),_)] [] []) kp ?_
 refine go 3 ?_
 refine ai (au aa al (dW .name) rfl rfl) ?_
 refine ai (cf (r:=true) _ _ rfl rfl (decide_eq_true ab)) ?_
 refine go 3 ?_
 refine aZ rfl rfl (cf (r:=true) _ _ rfl rfl (decide_eq_true ab)) ?_
 refine go 5 ?_
 refine aZ rfl rfl (bn (r:=true) _ _ rfl rfl (decide_eq_true ab)) ?_
 refine go 3 ?_
 refine aq (kV rfl rfl ?_)
 rfl
theorem zr (C:List bq) (en:Nat→Int) (dd vv:Nat) (hC:C.length≤1000000) (hd:dd≤1000) (hv:vv≤1000) (n:Int) (h0:0≤n) (h1:n < 30):Ap C en dd vv .send n:=by
 refine Spec.ofN Tryz.func71 rfl Tryz.ntmps71 rfl ?_
 refine go 40 ?_
 refine az (σ':=ap 56 [(3,_)] [((3,0),_)] [] []) kp ?_
 refine go 6 ?_
 refine ai (au aa al (dW .send) rfl rfl) ?_
 refine ai (cf (r:=true) _ _ rfl rfl (decide_eq_true ab)) ?_
 refine go 3 ?_
 refine aZ rfl rfl (cf (r:=true) _ _ rfl rfl (decide_eq_true ab)) ?_
 refine go 5 ?_
 refine aZ rfl rfl (bn (r:=true) _ _ rfl rfl (decide_eq_true ab)) ?_
 refine go 3 ?_
 refine aq (kV rfl rfl ?_)
 rfl
theorem xG (C:List bq) (en:Nat→Int) (dd vv:Nat) (hC:C.length≤1000000) (hd:dd≤1000) (hv:vv≤1000) (n:Int) (h0:0≤n) (h1:n < 8):Ap C en dd vv .timer n:=by
 refine Spec.ofN Tryz.func71 rfl Tryz.ntmps71 rfl ?_
 refine go 41 ?_
 refine aA ?_
 refine az (σ':=ap 56 [(2,_),(3,_),(5,_),(7,_)] [((2,0),_),((3,0),_)] [] []) kp ?_
 refine go 13 ?_
 refine ai (au aa al (dW .timer) rfl rfl) ?_
 refine ai (cf (r:=true) _ _ rfl rfl (decide_eq_true ab)) ?_
 refine go 3 ?_
 refine aZ rfl rfl (cf (r:=true) _ _ rfl rfl (decide_eq_true ab)) ?_
 refine go 5 ?_
 refine aZ rfl rfl (bn (r:=true) _ _ rfl rfl (decide_eq_true ab)) ?_
 refine go 3 ?_
 refine aq (kV rfl rfl ?_)
 rfl
theorem vQ (C:List bq) (en:Nat→Int) (dd vv:Nat) (hC:C.length≤1000000) (hd:dd≤1000) (hv:vv≤1000) (n:Int) (h0:0≤n) (h1:n < 8):Ap C en dd vv .cancel n:=by
 refine Spec.ofN Tryz.func71 rfl Tryz.ntmps71 rfl ?_
 refine go 41 ?_
 refine aA ?_
 refine az (σ':=ap 56 [(2,_),(3,_),(5,_),(7,_)] [((2,0),_),((3,0),_)] [] []) kp ?_
 refine go 16 ?_
 refine ai (au aa al (dW .cancel) rfl rfl) ?_
 refine ai (cf (r:=true) _ _ rfl rfl (decide_eq_true ab)) ?_
 refine go 3 ?_
 refine aZ rfl rfl (cf (r:=true) _ _ rfl rfl (decide_eq_true ab)) ?_
 refine go 5 ?_
 refine aZ rfl rfl (bn (r:=true) _ _ rfl rfl (decide_eq_true ab)) ?_
 refine go 3 ?_
 refine aq (kV rfl rfl ?_)
 rfl
theorem Bf (C:List bq) (en:Nat→Int) (dd vv:Nat) (hC:C.length≤1000000) (hd:dd≤1000) (hv:vv≤1000) (n:Int) (h0:0≤n) (h1:n < C.length):Ap C en dd vv .jump n:=by
 refine Spec.ofN Tryz.func71 rfl Tryz.ntmps71 rfl ?_
 refine go 41 ?_
 refine aA ?_
 refine az (σ':=ap 56 [(2,_),(3,_),(5,_),(7,_)] [((2,0),_),((3,0),_)] [] []) kp ?_
 refine go 22 ?_
 refine ai (bB (r:=(C.length:Int) - 1) _ _ rfl rfl (bT ab)) ?_
 refine go 5 ?_
 refine ai (au aa al (dW .jump) rfl rfl) ?_
 refine ai (cf (r:=true) _ _ rfl rfl (decide_eq_true ab)) ?_
 refine go 3 ?_
 refine aZ rfl rfl (cf (r:=true) _ _ rfl rfl (decide_eq_true ab)) ?_
 refine go 5 ?_
 refine aZ rfl rfl (bn (r:=true) _ _ rfl rfl (decide_eq_true ab)) ?_
 refine go 3 ?_
 refine aq (kV rfl rfl ?_)
 rfl
theorem Fc (C:List bq) (en:Nat→Int) (dd vv:Nat) (hC:C.length≤1000000) (hd:dd≤1000) (hv:vv≤1000) (n:Int) (h0:0≤n) (h1:n < C.length):Ap C en dd vv .unl n:=by
 refine Spec.ofN Tryz.func71 rfl Tryz.ntmps71 rfl ?_
 refine go 41 ?_
 refine aA ?_
 refine az (σ':=ap 56 [(2,_),(3,_),(5,_),(7,_)] [((2,0),_),((3,0),_)] [] []) kp ?_
 refine go 25 ?_
 refine ai (bB (r:=(C.length:Int) - 1) _ _ rfl rfl (bT ab)) ?_
 refine go 5 ?_
 refine ai (au aa al (dW .unl) rfl rfl) ?_
 refine ai (cf (r:=true) _ _ rfl rfl (decide_eq_true ab)) ?_
 refine go 3 ?_
 refine aZ rfl rfl (cf (r:=true) _ _ rfl rfl (decide_eq_true ab)) ?_
 refine go 5 ?_
 refine aZ rfl rfl (bn (r:=true) _ _ rfl rfl (decide_eq_true ab)) ?_
 refine go 3 ?_
 refine aq (kV rfl rfl ?_)
 rfl
theorem cW (C:List bq) (en:Nat→Int) (dd vv:Nat) (hC:C.length≤1000000) (hd:dd≤1000) (hv:vv≤1000) (n:Int) (o:Opc) (h0:n=0) (g0:((o.num:Int)==1)=false) (g1:((o.num:Int)==2)=false) (g2:((o.num:Int)==3)=false) (g3:((o.num:Int)==4)=false) (g4:((o.num:Int)==17)=false) (g5:((o.num:Int)==18)=false) (g6:((o.num:Int)==19)=false) (g7:((o.num:Int)==15)=false) (g8:((o.num:Int)==16)=false):Ap C en dd vv o n:=by
 subst h0
 refine Spec.ofN Tryz.func71 rfl Tryz.ntmps71 rfl ?_
 refine go 14 ?_
 refine Ic rfl rfl g0 rfl rfl (aA (Ic rfl rfl g1 rfl rfl (Kg rfl rfl g2 rfl rfl (Ic rfl rfl g3 rfl rfl (Ic rfl rfl g4 rfl rfl (aA (aA ?_)))))))
 refine az (σ':=ap 56 [(2,_),(3,_),(5,_),(7,_)] [((2,0),_),((3,0),_)] [] []) kp ?_
 refine Kg rfl rfl g5 rfl rfl (Kg rfl rfl g6 rfl rfl (aA (Ic rfl rfl g7 rfl rfl (Kg rfl rfl g8 rfl rfl (go 4 ?_)))))
 refine ai (au aa al (dW o) rfl rfl) ?_
 refine ai (cf (r:=true) _ _ rfl rfl (decide_eq_true ab)) ?_
 refine go 3 ?_
 refine aZ rfl rfl (cf (r:=true) _ _ rfl rfl (decide_eq_true ab)) ?_
 refine go 5 ?_
 refine aZ rfl rfl (bn (r:=true) _ _ rfl rfl (decide_eq_true ab)) ?_
 refine go 3 ?_
 refine aq (kV rfl rfl ?_)
 rfl
theorem sc (C:List bq) (en:Nat→Int) (dd vv:Nat) (hC:C.length≤1000000) (hd:dd≤1000) (hv:vv≤1000) (n:Int) (o:Opc) (h:cg (dd+vv) ⟨o,n⟩) (hz:mB ⟨o,n⟩=true) (hj:o= .jump∨o= .unl→n < C.length):Ap C en dd vv o n:=by
 cases o <;> simp only [cg] at h
 ·exact zn C en dd vv hC hd hv n h
 ·exact Fe C en dd vv hC hd hv n h.1 h.2
 ·exact uR C en dd vv hC hd hv n h.1 h.2
 ·exact Ao C en dd vv hC hd hv n h.1 h.2
 ·exact cW C en dd vv hC hd hv n .draw (by simpa [mB] using hz) rfl rfl rfl rfl rfl rfl rfl rfl rfl
 ·exact cW C en dd vv hC hd hv n .add (by simpa [mB] using hz) rfl rfl rfl rfl rfl rfl rfl rfl rfl
 ·exact cW C en dd vv hC hd hv n .sub (by simpa [mB] using hz) rfl rfl rfl rfl rfl rfl rfl rfl rfl
 ·exact cW C en dd vv hC hd hv n .mul (by simpa [mB] using hz) rfl rfl rfl rfl rfl rfl rfl rfl rfl
 ·exact cW C en dd vv hC hd hv n .div (by simpa [mB] using hz) rfl rfl rfl rfl rfl rfl rfl rfl rfl
 ·exact cW C en dd vv hC hd hv n .neg (by simpa [mB] using hz) rfl rfl rfl rfl rfl rfl rfl rfl rfl
 ·exact cW C en dd vv hC hd hv n .lt (by simpa [mB] using hz) rfl rfl rfl rfl rfl rfl rfl rfl rfl
 ·exact cW C en dd vv hC hd hv n .le (by simpa [mB] using hz) rfl rfl rfl rfl rfl rfl rfl rfl rfl
 ·exact cW C en dd vv hC hd hv n .eq (by simpa [mB] using hz) rfl rfl rfl rfl rfl rfl rfl rfl rfl
 ·exact cW C en dd vv hC hd hv n .not (by simpa [mB] using hz) rfl rfl rfl rfl rfl rfl rfl rfl rfl
 ·exact Bf C en dd vv hC hd hv n h (hj (.inl rfl))
 ·exact Fc C en dd vv hC hd hv n h (hj (.inr rfl))
 ·exact zr C en dd vv hC hd hv n h.1 h.2
 ·exact xG C en dd vv hC hd hv n h.1 h.2
 ·exact vQ C en dd vv hC hd hv n h.1 h.2
 ·exact cW C en dd vv hC hd hv n .sync (by simpa [mB] using hz) rfl rfl rfl rfl rfl rfl rfl rfl rfl
 ·exact cW C en dd vv hC hd hv n .reply (by simpa [mB] using hz) rfl rfl rfl rfl rfl rfl rfl rfl rfl
 ·exact cW C en dd vv hC hd hv n .fail (by simpa [mB] using hz) rfl rfl rfl rfl rfl rfl rfl rfl rfl
 exact cW C en dd vv hC hd hv n .stop (by simpa [mB] using hz) rfl rfl rfl rfl rfl rfl rfl rfl rfl
theorem ED (l:List Nat):cB (l.map fun (x:Nat)=> (x:Int))=nC l:=by simp [cB,nC]
theorem yy (l:List Nat) (x:Nat) (h1:l.length≤1000) (hx:x∉l):Spec Tryz.prog 35 (aQ [.sl l.length (nC l), .v (.int .i64 (x:Int))] []) (aG (.v (.bool false)) []):=by
 have h:=xh (l.map fun (x:Nat)=> (x:Int)) (x:Int) (by rw [List.length_map];omega)
 rw [ED,List.length_map,decide_eq_false (fun hm=> by
  obtain ⟨y,hy,e⟩:=List.mem_map.1 hm
  obtain rfl:y=x:=by omega
  exact hx hy)] at h
 exact h
set_option maxHeartbeats 2000000 in
theorem nI (d v:List Tx) (ons:List (Nat×Bk)) (U:UOk d v ons) (hc:CmpOk ons) (h0:0 < (aO ons 0).length):
  Spec Tryz.prog 38 (aQ [GA d v ons] []) (aG (.v (.int .i64 0)) []):=by
 have hUl:=U.len
 have hdl:d.length≤16∧v.length≤16∧d.length+v.length≤16:=by rw [List.length_append] at hUl;omega
 have hg:=U.good
 rw [List.length_append] at hg
 have hz:=zH ons 0
 have hD: ∀ i,lx ons i≤1000000:=fun i=> Nat.le_trans (sH ons i) U.c
 have hE:=oR ons
 have hc2:=hc.2
 have hl4:=hc.1
 have hent: ∀ h,bi ons h= -1∨ ∃ e:Nat,bi ons h=(e:Int)∧e < (aO ons 0).length∧lx ons e=0:=fun h=> by
  rcases hE h with h1 | ⟨e,_,h1,h2,h3⟩
  ·exact .inl h1
  exact .inr ⟨e,h1,h2,h3⟩
 show Spec Tryz.prog 38 (aQ [.agg (rX (aO ons 0).length (inl (aO ons 0)) (bi ons) (d.length:Int) (v.length:Int))] []) _
 generalize bi ons=en at hc2 hent ⊢
 generalize lx ons=D at hg hD hent hc2
 generalize aO ons 0=C at hg hz hc2 hl4 hent h0 ⊢
 clear hc hE U hUl
 obtain ⟨hd1,hd2,hd3⟩:=hdl
 refine Spec.ofN Tryz.func38 rfl Tryz.ntmps38 rfl ?_
 refine go 13 ?_
 refine ai (du (r:=false) _ _ rfl rfl (decide_eq_false ab)) ?_
 refine go 7 ?_
 refine ai (dg (r:=false) _ _ rfl rfl (decide_eq_false ab)) ?_
 refine go 3 ?_
 refine aZ rfl rfl (dg (r:=false) _ _ rfl rfl (decide_eq_false ab)) ?_
 refine go 4 ?_
 refine aZ rfl rfl (du (r:=false) _ _ rfl rfl (decide_eq_false ab)) ?_
 refine go 7 ?_
 refine aZ rfl rfl (du (r:=false) _ _ rfl rfl (decide_eq_false ab)) ?_
 refine go 4 ?_
 refine ax fun K7 hK7=> ?_
 refine aA ?_
 refine az (σ':=ap 107 [(1,_),(3,_)] [((1,0),_)] [] []) kp ?_
 refine an (bF rfl (aj (aN ?_)))
 refine aX (α:=Nat) (fun i=> i≤C.length) 107 [(1,_),(3,_)] [((1,0),_)] (fun i=> [(4, .v (.int .i64 (i:Int)))]) (fun i=> []) [] [] (fun i=> C.length - i) 0 ?_ (kj [0] [] []) ?_
 ·omega
 intro i hi
 refine ax fun K9 hK9=> ?_
 refine go 5 ?_
 refine aD rfl (fun hc38=> ?_) (fun hc38=> ?_)
 ·have hi:i < C.length:=by omega
  obtain ⟨ho1,ho2,ho3⟩:=hg.at hi
  have hzi:=List.all_eq_true.1 hz _ (List.mem_of_getElem? (oY hi))
  have hga:=pJ C i hi
  have hin:bC C i=bC C i:=rfl
  generalize bC C i=x at ho1 ho3 hzi hga
  obtain ⟨o,n⟩:=x
  have hop:=sc C en d.length v.length ab ab ab n o ho1 hzi fun hj=> by
   have h1:=ho3 n.toNat (by rcases hj with rfl | rfl <;> simp [bP])
   omega
  clear ho1 ho3 hzi hz hin
  refine aU (hK9 _ ?_)
  refine aA (aN (aA (dA 8 [] ?_)))
  refine go 8 ?_
  refine aJ (_,[]) (fun τ=> aL _ _ aa rfl rfl i rfl ab (by rw [bo];omega) rfl) ?_
  refine go 1 ?_
  refine aJ (_,[]) (fun τ=> bu _ aa rfl (by exact hga) rfl) ?_
  refine go 1 ?_
  refine aJ (_,[]) (fun τ=> (au aa al (hop) rfl rfl)) ?_
  refine go 11 ?_
  refine am (⟨i+1,?_,?_,?_⟩)
  ·omega
  ·exact kj [0] [] []
  omega
 refine bm (id (hK7 _ ?_))
 refine ax fun K13 hK13=> ?_
 refine aH (bF rfl (aj (aN ?_)))
 refine aX (α:=Nat) (fun h=> h≤40) 107 [(1,_),(3,_)] [((1,0),_)] (fun h=> [(5, .v (.int .i64 (h:Int)))]) (fun h=> []) [] [] (fun h=> 40 - h) 0 ?_ (kj [0] [] []) ?_
 ·omega
 intro h hh
 refine ax fun K15 hK15=> ?_
 refine go 4 ?_
 refine aD rfl (fun hc50=> ?_) (fun hc50=> ?_)
 ·have hh4:h < 40:=by omega
  have hgh:=kM C.length (inl C) en (d.length:Int) (v.length:Int) h hh4
  have heb: -1≤en h∧en h < C.length:=by rcases hent h with h1 | ⟨e,h1,h2,_⟩ <;> omega
  refine aU (hK15 _ ?_)
  refine go 5 ?_
  refine ai (dC _ _ aa rfl rfl rfl h rfl ab (by exact congrArg (fun z=> 0+1+z) (Nat.mul_one h))) ?_
  refine ai (bM _ aa rfl rfl (by exact (congrArg (fun z=> (rX C.length (inl C) en (d.length:Int) (v.length:Int))[z]?) ab).trans hgh)) ?_
  refine ai (dg (r:=false) _ _ rfl rfl (decide_eq_false ab)) ?_
  refine go 3 ?_
  refine aZ rfl rfl (dC _ _ aa rfl rfl rfl h rfl ab (by exact congrArg (fun z=> 0+1+z) (Nat.mul_one h))) ?_
  refine aZ rfl rfl (bM _ aa rfl rfl (by exact (congrArg (fun z=> (rX C.length (inl C) en (d.length:Int) (v.length:Int))[z]?) ab).trans hgh)) ?_
  refine go 1 ?_
  refine aZ rfl rfl (cf (r:=false) _ _ rfl rfl (decide_eq_false ab)) ?_
  refine go 4 ?_
  refine az (σ':=ap 107 [(1,_),(3,_),(5,_)] [((1,0),_)] [] []) kp ?_
  refine go 4 ?_
  refine am (⟨h+1,?_,?_,?_⟩)
  ·omega
  ·exact kj [0] [] []
  omega
 refine bm (id (hK13 _ ?_))
 refine aH (bF rfl (aj (ax fun K20 hK20=> ?_)))
 refine aH (bF rfl (aj (aN ?_)))
 refine aX (α:=Nat) (fun q=> q≤40) 107 [(1,_),(3,_),(6,_)] [((1,0),_)] (fun q=> [(7, .v (.int .i64 (q:Int)))]) (fun q=> []) [] [] (fun q=> 40 - q) 0 ?_ (kj [0] [] []) ?_
 ·omega
 intro q hq
 refine ax fun K22 hK22=> ?_
 refine go 4 ?_
 refine aD rfl (fun hc67=> ?_) (fun hc67=> ?_)
 ·have hq4:q < 40:=by omega
  have hgh:=kM C.length (inl C) en (d.length:Int) (v.length:Int) q hq4
  refine aU (hK22 _ ?_)
  refine ax fun K24 hK24=> ?_
  refine go 5 ?_
  refine ai (dC _ _ aa rfl rfl rfl q rfl ab (by exact congrArg (fun z=> 0+1+z) (Nat.mul_one q))) ?_
  refine ai (bM _ aa rfl rfl (by exact (congrArg (fun z=> (rX C.length (inl C) en (d.length:Int) (v.length:Int))[z]?) ab).trans hgh)) ?_
  refine ai (dg _ _ rfl rfl rfl) (aj (aD rfl (fun hc74=> ?_) (fun hc74=> ?_)))
  ·refine bm (id (hK24 _ ?_))
   refine go 4 ?_
   refine am (⟨q+1,?_,?_,?_⟩)
   ·omega
   ·exact kj [0] [] []
   omega
  obtain ⟨e,he1,he2,he3⟩: ∃ e:Nat,en q=(e:Int)∧e < C.length∧D e=0:=by
   rcases hent q with h1 | h1
   ·omega
   exact h1
  have hDe:0≤en q→en q < C.length→D (en q).toNat=0:=fun _ _=> by rw [he1,Int.toNat_natCast];exact he3
  have hds:=nJ C en (d.length:Int) (v.length:Int) (en q) ab D _ hg hD hDe
  have hdp:=pO C en (d.length:Int) (v.length:Int) q hq4 ab D _ hg hD hDe
  have hdi:=kC hg hDe
  have hdl:=hdi.len
  have hdo:(eY C (en q)).2=true:=hdi.ok
  simp only at hdl
  have hms:=Bz hg he2 he3 (hc2 q hq4 e he1) C.length (Nat.le_refl _)
  rw [← he1] at hms
  rw [hdo] at hds
  have hlast:=hg.at (i:=C.length - 1) ab
  have hnx:=rf C en (d.length:Int) (v.length:Int) (C.length - 1) ab ab fun hj=> by
   have h1:=hlast.1
   generalize bC C (C.length - 1)=x at h1 hj
   obtain ⟨o,n⟩:=x
   rcases hj with hj | hj <;> simp only at hj <;> subst hj <;> exact h1
  have hhs:=yy (bP (C.length - 1) (bC C (C.length - 1))) C.length (by unfold bP;split <;> simp) (fun hm=> by have:=(hlast.2.2 _ hm).1;omega)
  generalize bP (C.length - 1) (bC C (C.length - 1))=sx at hnx hhs
  generalize hQ C (eY C (en q)).1 C.length=ms at hms hdp
  generalize (eY C (en q)).1=R at hds hdl
  rw [hdl] at hds
  clear hdi hlast hdo hDe
  refine cX (aA ?_)
  refine az (σ':=ap 107 [(1,_),(3,_),(6,_),(7,_)] [((1,0),_)] [] []) kp ?_
  refine dA 11 [] ?_
  refine go 6 ?_
  refine aJ (_,[]) (fun τ=> dC _ _ aa rfl rfl rfl q rfl ab (by exact congrArg (fun z=> 0+1+z) (Nat.mul_one q))) ?_
  refine go 1 ?_
  refine aJ (_,[]) (fun τ=> bM _ aa rfl rfl (by exact (congrArg (fun z=> (rX C.length (inl C) en (d.length:Int) (v.length:Int))[z]?) ab).trans hgh)) ?_
  refine go 1 ?_
  refine aJ (_,[]) (fun τ=> (au aa al (hds) rfl rfl)) ?_
  refine go 14 ?_
  refine aA ?_
  rcases (Decidable.em (0≤R.getD (C.length - 1) 0)) with hx | hx
  ·refine an (jV rfl (bE rfl (ai (bB (r:=((C.length - 1:Nat):Int)) _ _ rfl rfl ((bT ab).trans ab)) ?_)))
   refine ai (aL _ _ aa rfl rfl (C.length - 1) rfl ab (by rw [aM];omega) rfl) ?_
   refine ai (bh _ aa rfl (by exact cU _ _ ab) rfl) ?_
   refine ai (cf (r:=true) _ _ rfl rfl (decide_eq_true (by rw [Nat.mul_one];exact hx))) ?_
   refine go 3 ?_
   refine aZ rfl rfl (bB (r:=((C.length - 1:Nat):Int)) _ _ rfl rfl ((bT ab).trans ab)) ?_
   refine aZ rfl rfl (au aa al (hnx) rfl rfl) ?_
   refine go 1 ?_
   refine aZ rfl rfl (au aa al (hhs) rfl rfl) ?_
   refine go 4 ?_
   refine aA ?_
   refine az (σ':=ap 107 [(1,_),(3,_),(6,_),(7,_),(9,_)] [((1,0),_)] [] []) kp ?_
   refine go 6 ?_
   refine aZ rfl rfl (au aa al (hdp) rfl rfl) ?_
   refine aZ rfl rfl (du (r:=false) _ _ rfl rfl (decide_eq_false ab)) ?_
   refine go 3 ?_
   refine aU (hK24 _ ?_)
   refine go 4 ?_
   refine am (⟨q+1,?_,?_,?_⟩)
   ·omega
   ·exact kj [0] [] []
   omega
  refine an (jV rfl (bE rfl (ai (bB (r:=((C.length - 1:Nat):Int)) _ _ rfl rfl ((bT ab).trans ab)) ?_)))
  refine ai (aL _ _ aa rfl rfl (C.length - 1) rfl ab (by rw [aM];omega) rfl) ?_
  refine ai (bh _ aa rfl (by exact cU _ _ ab) rfl) ?_
  refine ai (cf (r:=false) _ _ rfl rfl (decide_eq_false (by rw [Nat.mul_one];exact hx))) ?_
  refine go 11 ?_
  refine aA ?_
  refine az (σ':=ap 107 [(1,_),(3,_),(6,_),(7,_),(9,_)] [((1,0),_)] [] []) kp ?_
  refine go 6 ?_
  refine aZ rfl rfl (au aa al (hdp) rfl rfl) ?_
  refine aZ rfl rfl (du (r:=false) _ _ rfl rfl (decide_eq_false ab)) ?_
  refine go 3 ?_
  refine aU (hK24 _ ?_)
  refine go 4 ?_
  refine am (⟨q+1,?_,?_,?_⟩)
  ·omega
  ·exact kj [0] [] []
  omega
 refine bm (id (hK20 _ ?_))
 exact aH (bE rfl (bF rfl (aj (aq (eu rfl rfl)))))

def lb (l:List Nat):List Int:=l.foldl (fun m (i:Nat)=> jY m (i:Int)) []
theorem AK (l:List Int) (x:Int):(jY l x).length≤l.length+1:=by
  unfold jY
  split
  · omega
  have h:=congrArg List.length (List.takeWhile_append_dropWhile (p:=fun y=> decide (y < x)) (l:=l))
  simp only [List.length_append,List.length_cons,List.length_nil] at h ⊢
  omega
theorem zx (l:List Nat):(lb l).length≤l.length:=by
  have: ∀ (l:List Nat) (m:List Int),(l.foldl (fun m (i:Nat)=> jY m (i:Int)) m).length≤m.length+l.length:=by
    intro l
    induction l with
    | nil=> intro m;simp
    | cons a l ih=> intro m;have h1:=ih (jY m a);have h2:=AK m a;simp only [List.foldl_cons,List.length_cons];omega
  simpa [lb] using this l []
end Go.Proofs.YtmjnackchaahbaaGreat

set_option maxHeartbeats 2000000
namespace Go.Proofs.YtmjnackchaahbaaGreat
open Go.RowKit

theorem qt {l:List Int} {x:Int} (h:x∉l):(jY l x).Perm (l++[x]):=by
 unfold jY
 rw [if_neg h]
 have e:=List.takeWhile_append_dropWhile (p:=fun y=> decide (y < x)) (l:=l)
 conv=> rhs;rw [← e]
 rw [List.append_assoc,List.append_assoc]
 exact List.Perm.append_left _ List.perm_append_comm
theorem wZ {p:Int→Bool}: ∀ {l:List Int} {y:Int},y∈l.takeWhile p→p y=true
 | a::l,y,h=> by
  rw [List.takeWhile_cons] at h
  split at h
  ·rename_i ha
   rcases List.mem_cons.1 h with rfl | h
   ·exact ha
   exact wZ h
  cases h
theorem BE {l:List Int} {x:Int} (h:l.Pairwise (· < ·)):(jY l x).Pairwise (· < ·):=by
 unfold jY
 split
 ·exact h
 rename_i hx
 have e:=List.takeWhile_append_dropWhile (p:=fun y=> decide (y < x)) (l:=l)
 have h':=h
 rw [← e] at h'
 obtain ⟨h1,h2,h3⟩:=List.pairwise_append.1 h'
 have ht: ∀ y∈l.takeWhile (fun y=> decide (y < x)),y < x:=fun y hy=> by
  have:=wZ hy
  simpa using this
 have hd: ∀ y∈l.dropWhile (fun y=> decide (y < x)),x < y:=by
  intro y hy
  have hyl:y∈l:=by rw [← e];exact List.mem_append_right _ hy
  have hne:y≠x:=fun e=> hx (e ▸ hyl)
  cases hdw:l.dropWhile (fun y=> decide (y < x)) with
  | nil=> rw [hdw] at hy;cases hy
  | cons a t=>
   have ha: ¬ a < x:=by
    have:=List.head_dropWhile_not (p:=fun y=> decide (y < x)) (l:=l) (by rw [hdw];simp)
    simp only [hdw,List.head_cons] at this
    simpa using this
   rw [hdw] at hy h2
   rcases List.mem_cons.1 hy with rfl | hy
   ·omega
   have:=List.rel_of_pairwise_cons h2 hy;omega
 refine List.pairwise_append.2 ⟨List.pairwise_append.2 ⟨h1,by simp,fun a ha b hb=> ?_⟩,h2,fun a ha b hb=> ?_⟩
 ·rw [List.mem_singleton.1 hb];exact ht a ha
 rcases List.mem_append.1 ha with ha | ha
 ·exact h3 a ha b hb
 rw [List.mem_singleton.1 ha];exact hd b hb
theorem qs: ∀ (l:List Nat) (m:List Int) (M:List (Int×Value)),m.Perm (M.map (·.1))→(l.foldl (fun m (i:Nat)=> jY m (i:Int)) m).Perm ((l.foldl (fun M (i:Nat)=> fN M (i:Int) (.agg #[])) M).map (·.1))
 | [],_,_,h=> h
 | i::l,m,M,h=> qs l _ _ (by
  show (jY m (i:Int)).Perm ((fN M (i:Int) (.agg #[])).map (·.1))
  cases hg:fX M (i:Int) with
  | none=>
   have hn:(i:Int)∉m:=fun hm=> wc hg (h.mem_iff.1 hm)
   have e:fN M (i:Int) (.agg #[])=M++[((i:Int), .agg #[])]:=by unfold fN;rw [hg];rfl
   rw [e,List.map_append]
   exact (qt hn).trans (h.append_right _)
  | some u=>
   have hm:(i:Int)∈m:=h.mem_iff.2 (List.mem_map.2 ⟨_,tc hg,rfl⟩)
   have e:fN M (i:Int) (.agg #[])=M:=by unfold fN;rw [hg];rfl
   rw [e]
   unfold jY
   rw [if_pos hm];exact h)
theorem pj: ∀ (l:List Nat) (m:List Int),m.Pairwise (· < ·)→(l.foldl (fun m (i:Nat)=> jY m (i:Int)) m).Pairwise (· < ·)
 | [],_,h=> h
 | _::l,_,h=> pj l _ (BE h)
theorem Hx (l:List Nat):lb l=jA (ow l):=by
 have hp:(lb l).Perm ((ow l).map (·.1)):=qs l [] [] (.refl _)
 have hs:(lb l).Pairwise (· < ·):=pj l [] .nil
 have h1:=sW hp
 have h2:(lb l).mergeSort (fun x y=> decide (x≤y))=lb l:=List.mergeSort_of_pairwise (hs.imp fun h=> by simp only [decide_eq_true_eq];omega)
 rw [← h2,h1];rfl
end Go.Proofs.YtmjnackchaahbaaGreat

set_option maxHeartbeats 2000000
namespace Go.Proofs.YtmjnackchaahbaaGreat
open Go.RowKit

set_option maxHeartbeats 1000000 in
theorem vp (M:Mk) (h:Nat) (hh:h < 40) (he:M.P.e h < 0) (h0:0 < M.iv.length) (h1:M.iv.length≤1000):
  Spec Tryz.prog 59 (aE [FH M.P, .v (.int .i64 (h:Int)), .agg [.sl M.iv.length (cB M.iv), .v (.int .i64 (M.nm 0)), .v (.int .i64 (M.nm 1)), .v (.int .i64 (M.nm 2)), .v (.int .i64 (M.nm 3)), .v (.int .i64 (M.nm 4)), .v (.int .i64 (M.nm 5)), .v (.int .i64 (M.nm 6)), .v (.int .i64 (M.nm 7)), .v (.int .i64 (M.nm 8))],HA (4,9)] (Cl M.ans [] (5,9))) (aP (.agg [.sl M.iv.length (cB M.iv), .sl 0 [], .v (.int .i64 0), .v (.bool false), .sl 0 []]) (Cl M.ans [] (5,8)) [(4,9),(5,8)] [(4,9)]):=by
 have hcl:=qb M.iv ab ab
 have hg:=kM M.P.c.length (inl M.P.c) M.P.e (M.P.d:Int) (M.P.v:Int) h hh
 refine Spec.ofNI Tryz.func59 rfl Tryz.ntmps59 rfl ?_
 refine go 5 ?_
 refine aA (dA 11 [(22,0)] ?_)
 refine go 10 ?_
 refine aJ (_,[]) (fun τ=> dC _ _ aa rfl rfl rfl h rfl ab (by exact congrArg (fun z=> 0+1+z) (Nat.mul_one h))) ?_
 refine go 1 ?_
 refine aJ (_,[]) (fun τ=> bM _ aa rfl rfl (by exact (congrArg (fun z=> (rX M.P.c.length (inl M.P.c) M.P.e (M.P.d:Int) (M.P.v:Int))[z]?) ab).trans hg)) ?_
 refine go 5 ?_
 refine aJ (_,[((22,0),_)]) (fun τ=> (db aa [((0,8),(22,0))] ar (hcl.toI) trivial tr tr rfl rfl ae ae)) ?_
 refine go 1 ?_
 refine aJ (_,[]) (fun τ=> gp _ aa rfl (by exact (rfl:_=some [AV.ref (22,0) 0 M.iv.length,AV.v (.slice none 0 0),AV.v (.int .i64 0),AV.v (.bool false),AV.v (.slice none 0 0)]))) ?_
 refine go 1 ?_
 refine cD ⟨rfl,?_⟩
 refine ai (gp _ aa rfl (by exact (rfl:_=some [_,_,_,_,_,_,_,_,_,_,_,_,_,_,_,_,_,_,_,_,_,_,_,_,_,_,_,_,_,_,_,_,_,_,_,_,_,_,_,_,_,_,_,_,_,_,_,_,_,_,_,_,_,_,_,_,_,_,_,_,_,_,_,_]))) ?_
 refine ai (ed (25,0) _ rfl rfl) (Oe rfl (aj (aA (aA ?_))))
 refine az (σ':=ap 108 [(4,_),(8,_),(9,_)] [((4,9),_),((5,9),_),((4,0),_),((8,0),_),((22,0),_),((25,0),_)] [(4,9),(5,9)] [(4,9)]) kp ?_
 refine go 5 ?_
 refine ai (dg (r:=true) _ _ rfl rfl (decide_eq_true he)) ?_
 refine go 9 ?_
 exact aq (dm (.inr rfl) rfl (.cellA aa rfl rfl rfl) (Le.outI [((5,8),(5,9))] [(22,0)] (.agg rfl (aB (iO rfl rfl (by simp) rfl) lz)) rfl rfl rfl tr ob tr rfl))
set_option maxHeartbeats 1000000 in
theorem tx (M:Mk) (D:Nat→Nat) (nv:Nat) (hK:PG M.cx D nv) (h:Nat) (hh:h < 40) (e0:Nat) (he:M.P.e h=(e0:Int)) (he2:e0 < M.P.c.length) (hD:D e0=0) (hiv:M.iv.length=nv) (hir: ∀ v∈M.iv,Rg v) (h0:0 < nv) (hc:M.P.c.length≤1000000) (hn:M.ans.length≤4611686018427387904) (R:Ms) (hR:R=fi M.cx 500 (cw M.iv e0)):
  Spec Tryz.prog 24 (aQ [FH M.P, .v (.int .i64 (h:Int)), .sl M.iv.length (cB M.iv), .agg [.v (.int .i64 (M.nm 0)), .v (.int .i64 (M.nm 1)), .v (.int .i64 (M.nm 2)), .v (.int .i64 (M.nm 3)), .v (.int .i64 (M.nm 4)), .v (.int .i64 (M.nm 5)), .v (.int .i64 (M.nm 6)), .v (.int .i64 (M.nm 7)), .v (.int .i64 (M.nm 8))], .sl M.ans.length (cB M.ans)] []) (aG (.tup [.agg [.sl R.vars.length (cB R.vars), .sl R.acts.length (xw R.acts), .v (.int .i64 (R.steps:Int)), .v (.bool (!R.fin)), .sl (jA (ow R.cov)).length (cB (jA (ow R.cov)))], .sl R.asked.length (cB R.asked), .v (.bool true)]) []):=by
 have hv:=xp M IB D nv hK h hh e0 he he2 hD hiv hir h0 hc hn R hR
 refine Spec.ofN Tryz.func24 rfl Tryz.ntmps24 rfl ?_
 refine go 4 ?_
 refine ai (bg _ fg) (go 8 ?_)
 refine aA ?_
 refine az (Le.nilB (17,0) 1 (62,0) 3 1 rfl rfl rfl) ?_
 refine go 7 ?_
 refine ai (gD _ _ (rfl:_=[AV.ptr _ _]) (rfl:_=[])) ?_
 refine ai (db aa [((4,9),(17,0)),((5,9),(62,0)),((2,8),(25,0)),((5,8),(25,1))] ar (hv) ob tr tr rfl rfl ae ae) ?_
 refine go 3 ?_
 refine aA ?_
 refine az (σ':=ap 35 [(10,_),(13,_),(14,_)] [((10,0),_),((17,0),_),((25,0),_),((25,1),_),((14,0),_)] [] []) kp ?_
 refine kT 12 [26,27,28,29,30,31,32,33,34,11,12] [(10,0)] ae ae rfl (rfl:_=[_,_,_,_,_,_,_,_,_,_,_,_]) (rfl:_=[]) ?_
 refine aS (_,[]) (fun τ=> fB _ aa rfl rfl rfl rfl) ?_
 refine aT (rfl:_=[_]) ?_
 refine aS (_,[]) (fun τ=> br _ oz) ?_
 refine aT (rfl:_=[_,_]) ?_
 refine aS (_,[]) (fun τ=> jz _ rfl rfl) ?_
 refine aT (rfl:_=[_,_,_]) ?_
 refine aS (_,[]) (fun τ=> et _ aa rfl rfl rfl) ?_
 refine aT (rfl:_=[_,_,_,_]) ?_
 refine aS (_,[]) (fun τ=> bM _ aa rfl rfl yk) ?_
 refine aT (rfl:_=[_,_,_,_,_]) ?_
 refine aS (_,[]) (fun τ=> br _ oz) ?_
 refine aT (rfl:_=[_,_,_,_,_,_]) ?_
 refine aS (_,[]) (fun τ=> jz _ rfl rfl) ?_
 refine aT (rfl:_=[_,_,_,_,_,_,_]) ?_
 refine aS (_,[]) (fun τ=> et _ aa rfl rfl rfl) ?_
 refine aT (rfl:_=[_,_,_,_,_,_,_,_]) ?_
 refine aS (_,[]) (fun τ=> bM _ aa rfl rfl qk) ?_
 refine aT (rfl:_=[_,_,_,_,_,_,_,_,_]) ?_
 refine aS (_,[((10,0),_)]) (fun τ=> fU _ _ aa rfl rfl rfl rfl (Nat.le_of_ble_eq_true rfl) rfl) ?_
 refine aT (rfl:_=[_,_,_,_,_,_,_,_,_,_]) ?_
 refine aS (_,[]) (fun τ=> bg _ qj) ?_
 refine aT (rfl:_=[_,_,_,_,_,_,_,_,_,_,_]) ?_
 refine aS (_,[]) (fun τ=> bg _ rD) ?_
 refine aT (rfl:_=[_,_,_,_,_,_,_,_,_,_,_,_]) ?_
 refine jj ⟨⟨rfl,by kernel_rfl,by kernel_rfl⟩,?_⟩
 exact aj (aq (Dm (.inr rfl) rfl (.cellA aa rfl rfl rfl) (.tmp qj) (.tmp iH) (Le.out [] [(25,0),(25,1)] (.tup rfl (aB (.agg rfl (aB .sl (aB (iO rfl rfl (iy _).symm rfl) lz))) (aB (iO rfl rfl (by simp) rfl) lz))) rfl rfl rfl tr trivial)))
end Go.Proofs.YtmjnackchaahbaaGreat
