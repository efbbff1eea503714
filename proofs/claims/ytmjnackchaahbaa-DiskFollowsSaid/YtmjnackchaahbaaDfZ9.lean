/- part 9 -/
import Derived.Test.YtmjnackchaahbaaDfZ8
set_option linter.unusedSimpArgs false
set_option linter.unusedVariables false
namespace Go.Proofs.Ytmjnackchaahbaa
open Go.RowKit

theorem oH {x y:Int} (hx:Rg x) (hy:Rg y): -9223372036854775808≤x*y∧x*y≤9223372036854775807:=by
  unfold Rg at hx hy
  have h1:(x*y).natAbs≤2147483647*2147483647:=by
    rw [Int.natAbs_mul]
    exact Nat.mul_le_mul ab ab
  omega
theorem ng {x y:Int} (hx:Rg x): -2147483647≤x.tdiv y∧x.tdiv y≤2147483647:=by
  unfold Rg at hx
  have h1:(x.tdiv y).natAbs≤x.natAbs:=by
    rw [Int.natAbs_tdiv]
    exact Nat.div_le_self _ _
  omega
section
variable (M:Mk) (s:Ms) (dr se:Int)
theorem lH (n:Int) (hs:s.stack.length≤90000) (h0:0 < s.stack.length) (hk:max 1 (min (s.top 0) 4)=1):
    Spec Try.prog 41 (aZ [.ptr (0,9) 0, .v (.int .i64 n)] (eL M s (s.asked.length:Int) se)) (aS (.tup []) (eH M { s with stack:=s.pop 1++[0] } (s.asked.length:Int) se (2,8) (3,8)) [(0,9),(1,9),(2,8),(3,8)] [(0,9),(1,9)]):=by
  rw [show (0:Int)=fF 0 from ah]
  refine Spec.ofNI Try.func41 rfl Try.ntmps41 rfl ?_
  refine an ?_
  refine aj (au _ bI) ?_
  refine aj (au _ bI) ?_
  refine bj (Le.incT (6,0) rfl) ?_
  refine aj (aH aa [((3,8),(6,0))] ?_ (oU M s se ab h0 hk) ⟨⟨rfl,⟨_,rfl, .box ag (ai .sl (ai .v (ai .v (ai .v (ai .v (ai .v (ai .v (ai .v (ai .v (ai .v (ai .v (ai .v (ai .v (ai .v (ai .v (ai .v (ai .v (ai .v (ai .v (ai .v (ai .v (ai .v (ai .v (ai .v (ai .v (ai .v (ai .v (ai .v (ai .v (ai .v (ai .v (ai .v (ai .v (ai .v (ai .v (ai .v (ai .v (ai .v (ai .v (ai .v (ai .v (ai .v (ai .v (ai .sl (ai .v (ai .v (ai .v (ai .v (ai .v (ai .v (ai .v (ai .v (ai .v (ai (.fn rfl am rfl am) (ai (aq (id:=(1,9)) (id':=(1,9)) rfl rfl) (ai (aq (id:=(2,9)) (id':=(2,9)) rfl rfl) (ai .v (ai .v (ai .v (ai (aq (id:=(3,9)) (id':=(3,9)) rfl rfl) (ai .v (ai .v (ai .v (ai .v am))))))))))))))))))))))))))))))))))))))))))))))))))))))))))))))))⟩,rfl⟩,⟨rfl,⟨_,rfl, .rowE rfl⟩,rfl⟩,⟨rfl,⟨_,rfl, .rowE rfl⟩,rfl⟩,⟨rfl,⟨_,rfl, .rowE rfl⟩,rfl⟩,trivial⟩ ⟨rfl,rfl,rfl,rfl,trivial⟩ ⟨rfl,rfl,rfl,rfl,trivial⟩ rfl ae ae) ?_
  · repeat' (first | exact aD | refine aB ?_ ?_ | exact Lv.v | exact aF (by assumption) | exact aF ab | exact Lv.sl | exact Lv.fp | exact Lv.nil | exact aq rfl rfl | exact aP rfl | refine Lv.agg rfl ?_ | refine Lv.fn rfl ?_ rfl ?_ | refine Lv.ifc ?_ | exact am | refine ai ?_ ?_)
  refine bj (Le.incT (7,0) rfl) ?_
  refine aj (aH aa [((3,9),(6,0)),((3,8),(7,0))] ?_ (bK M { s with stack:=s.pop 1 } (s.asked.length:Int) se 0 (by have:=bd s 1;simp only;omega)) ⟨⟨rfl,⟨_,rfl, .box ag (ai .sl (ai .v (ai .v (ai .v (ai .v (ai .v (ai .v (ai .v (ai .v (ai .v (ai .v (ai .v (ai .v (ai .v (ai .v (ai .v (ai .v (ai .v (ai .v (ai .v (ai .v (ai .v (ai .v (ai .v (ai .v (ai .v (ai .v (ai .v (ai .v (ai .v (ai .v (ai .v (ai .v (ai .v (ai .v (ai .v (ai .v (ai .v (ai .v (ai .v (ai .v (ai .v (ai .v (ai .sl (ai .v (ai .v (ai .v (ai .v (ai .v (ai .v (ai .v (ai .v (ai .v (ai (.fn rfl am rfl am) (ai (aq (id:=(1,9)) (id':=(1,9)) rfl rfl) (ai (aq (id:=(2,9)) (id':=(2,9)) rfl rfl) (ai .v (ai .v (ai .v (ai (aq (id:=(3,9)) (id':=(6,0)) rfl rfl) (ai .v (ai .v (ai .v (ai .v am))))))))))))))))))))))))))))))))))))))))))))))))))))))))))))))))⟩,rfl⟩,⟨rfl,⟨_,rfl, .rowE rfl⟩,rfl⟩,⟨rfl,⟨_,rfl, .rowE rfl⟩,rfl⟩,⟨rfl,⟨_,rfl, .rowE rfl⟩,rfl⟩,trivial⟩ ⟨rfl,rfl,rfl,rfl,trivial⟩ ⟨rfl,rfl,rfl,rfl,trivial⟩ rfl ae ae) ?_
  · repeat' (first | exact aD | refine aB ?_ ?_ | exact Lv.v | exact aF (by assumption) | exact aF ab | exact Lv.sl | exact Lv.fp | exact Lv.nil | exact aq rfl rfl | exact aP rfl | refine Lv.agg rfl ?_ | refine Lv.fn rfl ?_ rfl ?_ | refine Lv.ifc ?_ | exact am | refine ai ?_ ?_)
  refine ap ?_
  exact cR (.inl rfl) rfl (Le.outI [((2,8),(2,9)),((3,8),(7,0))] [] (.tup rfl am) rfl rfl rfl trivial ⟨⟨rfl,⟨_,rfl, .box rfl (ai .sl (ai .v (ai .v (ai .v (ai .v (ai .v (ai .v (ai .v (ai .v (ai .v (ai .v (ai .v (ai .v (ai .v (ai .v (ai .v (ai .v (ai .v (ai .v (ai .v (ai .v (ai .v (ai .v (ai .v (ai .v (ai .v (ai .v (ai .v (ai .v (ai .v (ai .v (ai .v (ai .v (ai .v (ai .v (ai .v (ai .v (ai .v (ai .v (ai .v (ai .v (ai .v (ai .v (ai .sl (ai .v (ai .v (ai .v (ai .v (ai .v (ai .v (ai .v (ai .v (ai .v (ai (.fn rfl am rfl am) (ai (aq rfl rfl) (ai (aq rfl rfl) (ai .v (ai .v (ai .v (ai (aq rfl rfl) (ai .v (ai .v (ai .v (ai .v am))))))))))))))))))))))))))))))))))))))))))))))))))))))))))))))))⟩,rfl⟩,⟨rfl,⟨_,rfl, .rowE rfl⟩,rfl⟩,⟨rfl,⟨_,rfl, .rowE rfl⟩,rfl⟩,⟨rfl,⟨_,rfl, .rowE rfl⟩,rfl⟩,trivial⟩ ⟨rfl,rfl,trivial⟩ rfl)
theorem lI (n:Int) (hs:s.stack.length≤90000) (h0:0 < s.stack.length) (hq:s.asked.length≤80000) (hn:M.ans=[]) {k:Int} (hk:max 1 (min (s.top 0) 4)=k) (hk1:k≠1):
    Spec Try.prog 41 (aZ [.ptr (0,9) 0, .v (.int .i64 n)] (eL M s (s.asked.length:Int) se)) (aS (.tup []) (eH M { s with stack:=s.pop 1++[fK M.ans s.asked.length k],asked:=s.asked++[k] } ((s.asked++[k]).length:Int) se (2,8) (3,8)) [(0,9),(1,9),(2,8),(3,8)] [(0,9),(1,9)]):=by
  have ha:fK M.ans s.asked.length k=fF (fK M.ans s.asked.length k):=by
    have h1:=Int.emod_nonneg (M.ans.getD s.asked.length 0) (show k≠0 by omega)
    have h2:=Int.emod_lt_of_pos (M.ans.getD s.asked.length 0) (show 0 < k by omega)
    unfold fK fF;omega
  rw [ha]
  refine Spec.ofNI Try.func41 rfl Try.ntmps41 rfl ?_
  refine an ?_
  refine aj (au _ bI) ?_
  refine aj (au _ bI) ?_
  refine bj (Le.incT (6,0) rfl) ?_
  refine aj (aH aa [((3,8),(6,0))] ?_ (nN M s se ab h0 ab hn hk hk1) ⟨⟨rfl,⟨_,rfl, .box ag (ai .sl (ai .v (ai .v (ai .v (ai .v (ai .v (ai .v (ai .v (ai .v (ai .v (ai .v (ai .v (ai .v (ai .v (ai .v (ai .v (ai .v (ai .v (ai .v (ai .v (ai .v (ai .v (ai .v (ai .v (ai .v (ai .v (ai .v (ai .v (ai .v (ai .v (ai .v (ai .v (ai .v (ai .v (ai .v (ai .v (ai .v (ai .v (ai .v (ai .v (ai .v (ai .v (ai .v (ai .sl (ai .v (ai .v (ai .v (ai .v (ai .v (ai .v (ai .v (ai .v (ai .v (ai (.fn rfl am rfl am) (ai (aq (id:=(1,9)) (id':=(1,9)) rfl rfl) (ai (aq (id:=(2,9)) (id':=(2,9)) rfl rfl) (ai .v (ai .v (ai .v (ai (aq (id:=(3,9)) (id':=(3,9)) rfl rfl) (ai .v (ai .v (ai .v (ai .v am))))))))))))))))))))))))))))))))))))))))))))))))))))))))))))))))⟩,rfl⟩,⟨rfl,⟨_,rfl, .rowE rfl⟩,rfl⟩,⟨rfl,⟨_,rfl, .rowE rfl⟩,rfl⟩,⟨rfl,⟨_,rfl, .rowE rfl⟩,rfl⟩,trivial⟩ ⟨rfl,rfl,rfl,rfl,trivial⟩ ⟨rfl,rfl,rfl,rfl,trivial⟩ rfl ae ae) ?_
  · repeat' (first | exact aD | refine aB ?_ ?_ | exact Lv.v | exact aF (by assumption) | exact aF ab | exact Lv.sl | exact Lv.fp | exact Lv.nil | exact aq rfl rfl | exact aP rfl | refine Lv.agg rfl ?_ | refine Lv.fn rfl ?_ rfl ?_ | refine Lv.ifc ?_ | exact am | refine ai ?_ ?_)
  refine bj (Le.incT (7,0) rfl) ?_
  refine aj (aH aa [((3,9),(6,0)),((3,8),(7,0))] ?_ (bK M { s with stack:=s.pop 1,asked:=s.asked++[k] } ((s.asked++[k]).length:Int) se (fK M.ans s.asked.length k) (by have:=bd s 1;simp only;omega)) ⟨⟨rfl,⟨_,rfl, .box ag (ai .sl (ai .v (ai .v (ai .v (ai .v (ai .v (ai .v (ai .v (ai .v (ai .v (ai .v (ai .v (ai .v (ai .v (ai .v (ai .v (ai .v (ai .v (ai .v (ai .v (ai .v (ai .v (ai .v (ai .v (ai .v (ai .v (ai .v (ai .v (ai .v (ai .v (ai .v (ai .v (ai .v (ai .v (ai .v (ai .v (ai .v (ai .v (ai .v (ai .v (ai .v (ai .v (ai .v (ai .sl (ai .v (ai .v (ai .v (ai .v (ai .v (ai .v (ai .v (ai .v (ai .v (ai (.fn rfl am rfl am) (ai (aq (id:=(1,9)) (id':=(1,9)) rfl rfl) (ai (aq (id:=(2,9)) (id':=(2,9)) rfl rfl) (ai .v (ai .v (ai .v (ai (aq (id:=(3,9)) (id':=(6,0)) rfl rfl) (ai .v (ai .v (ai .v (ai .v am))))))))))))))))))))))))))))))))))))))))))))))))))))))))))))))))⟩,rfl⟩,⟨rfl,⟨_,rfl, .rowE rfl⟩,rfl⟩,⟨rfl,⟨_,rfl, .rowE rfl⟩,rfl⟩,⟨rfl,⟨_,rfl, .rowE rfl⟩,rfl⟩,trivial⟩ ⟨rfl,rfl,rfl,rfl,trivial⟩ ⟨rfl,rfl,rfl,rfl,trivial⟩ rfl ae ae) ?_
  · repeat' (first | exact aD | refine aB ?_ ?_ | exact Lv.v | exact aF (by assumption) | exact aF ab | exact Lv.sl | exact Lv.fp | exact Lv.nil | exact aq rfl rfl | exact aP rfl | refine Lv.agg rfl ?_ | refine Lv.fn rfl ?_ rfl ?_ | refine Lv.ifc ?_ | exact am | refine ai ?_ ?_)
  refine ap ?_
  exact cR (.inl rfl) rfl (Le.outI [((2,8),(2,9)),((3,8),(7,0))] [] (.tup rfl am) rfl rfl rfl trivial ⟨⟨rfl,⟨_,rfl, .box rfl (ai .sl (ai .v (ai .v (ai .v (ai .v (ai .v (ai .v (ai .v (ai .v (ai .v (ai .v (ai .v (ai .v (ai .v (ai .v (ai .v (ai .v (ai .v (ai .v (ai .v (ai .v (ai .v (ai .v (ai .v (ai .v (ai .v (ai .v (ai .v (ai .v (ai .v (ai .v (ai .v (ai .v (ai .v (ai .v (ai .v (ai .v (ai .v (ai .v (ai .v (ai .v (ai .v (ai .v (ai .sl (ai .v (ai .v (ai .v (ai .v (ai .v (ai .v (ai .v (ai .v (ai .v (ai (.fn rfl am rfl am) (ai (aq rfl rfl) (ai (aq rfl rfl) (ai .v (ai .v (ai .v (ai (aq rfl rfl) (ai .v (ai .v (ai .v (ai .v am))))))))))))))))))))))))))))))))))))))))))))))))))))))))))))))))⟩,rfl⟩,⟨rfl,⟨_,rfl, .rowE rfl⟩,rfl⟩,⟨rfl,⟨_,rfl, .rowE rfl⟩,rfl⟩,⟨rfl,⟨_,rfl, .rowE rfl⟩,rfl⟩,trivial⟩ ⟨rfl,rfl,trivial⟩ rfl)
end
theorem pL {y x:Int} (hy:Rg y) (hx:Rg x):Spec Try.prog 44 (bq [.v (.int .i64 y), .v (.int .i64 x)] []) (aX (.v (.int .i64 (y+x))) []):=by
  refine Spec.ofN Try.func44 rfl Try.ntmps44 rfl ?_
  refine ay fun K1 hK1=> ?_
  refine an ?_
  refine aj (aM _ bc) ?_
  refine ap (hK1 _ ?_)
  clear hK1;try clear K1
  refine ay fun K2 hK2=> ?_
  refine an ?_
  refine aj (au _ bc) ?_
  refine aj (au _ bc) ?_
  refine aj (bA (r:=y+x) _ _ rfl rfl (dH (by unfold Rg at hy hx;omega))) ?_
  refine aj (aM _ bc) ?_
  refine ap (hK2 _ ?_)
  clear hK2;try clear K2
  refine br ?_
  exact km rfl rfl
theorem py {y x:Int} (hy:Rg y) (hx:Rg x):Spec Try.prog 45 (bq [.v (.int .i64 y), .v (.int .i64 x)] []) (aX (.v (.int .i64 (y - x))) []):=by
  refine Spec.ofN Try.func45 rfl Try.ntmps45 rfl ?_
  refine ay fun K1 hK1=> ?_
  refine an ?_
  refine aj (aM _ bc) ?_
  refine ap (hK1 _ ?_)
  clear hK1;try clear K1
  refine ay fun K2 hK2=> ?_
  refine an ?_
  refine aj (au _ bc) ?_
  refine aj (au _ bc) ?_
  refine aj (jQ (r:=y - x) _ _ rfl rfl (dH (by unfold Rg at hy hx;omega))) ?_
  refine aj (aM _ bc) ?_
  refine ap (hK2 _ ?_)
  clear hK2;try clear K2
  refine br ?_
  exact km rfl rfl
theorem pv {y x:Int} (hy:Rg y) (hx:Rg x):Spec Try.prog 46 (bq [.v (.int .i64 y), .v (.int .i64 x)] []) (aX (.v (.int .i64 (y*x))) []):=by
  refine Spec.ofN Try.func46 rfl Try.ntmps46 rfl ?_
  refine ay fun K1 hK1=> ?_
  refine an ?_
  refine aj (aM _ bc) ?_
  refine ap (hK1 _ ?_)
  clear hK1;try clear K1
  refine ay fun K2 hK2=> ?_
  refine an ?_
  refine aj (au _ bc) ?_
  refine aj (au _ bc) ?_
  refine aj (oM (r:=y*x) _ _ rfl rfl (dH (oH hy hx))) ?_
  refine aj (aM _ bc) ?_
  refine ap (hK2 _ ?_)
  clear hK2;try clear K2
  refine br ?_
  exact km rfl rfl
theorem pG {y x:Int} (hy:Rg y):Spec Try.prog 47 (bq [.v (.int .i64 y), .v (.int .i64 x)] []) (aX (.v (.int .i64 (if x=0 then 0 else y.tdiv x))) []):=by
  have hd:=ng (y:=x) hy
  by_cases h0:x=0
  · rw [if_pos h0]
    refine Spec.ofN Try.func47 rfl Try.ntmps47 rfl ?_
    refine ay fun K1 hK1=> ?_
    refine an ?_
    refine aj (aM _ bc) ?_
    refine ap (hK1 _ ?_)
    clear hK1;try clear K1
    refine ay fun K2 hK2=> ?_
    refine ay fun K3 hK3=> ?_
    refine an ?_
    refine aj (au _ bc) ?_
    first
      | refine aj (ca _ _ rfl rfl (by assumption)) ?_
      | refine aj (ca _ _ rfl rfl rfl) ?_
    refine ap (hK3 _ ?_)
    clear hK3;try clear K3
    refine gH rfl (decide_eq_true h0) ?_
    refine ay fun K4 hK4=> ?_
    refine an ?_
    refine aj (aM _ bc) ?_
    refine ap (hK4 _ ?_)
    clear hK4;try clear K4
    refine br ?_
    exact km rfl rfl
  rw [if_neg h0]
  refine Spec.ofN Try.func47 rfl Try.ntmps47 rfl ?_
  refine ay fun K1 hK1=> ?_
  refine an ?_
  refine aj (aM _ bc) ?_
  refine ap (hK1 _ ?_)
  clear hK1;try clear K1
  refine ay fun K2 hK2=> ?_
  refine ay fun K3 hK3=> ?_
  refine an ?_
  refine aj (au _ bc) ?_
  first
    | refine aj (ca _ _ rfl rfl (by assumption)) ?_
    | refine aj (ca _ _ rfl rfl rfl) ?_
  refine ap (hK3 _ ?_)
  clear hK3;try clear K3
  refine eE rfl (decide_eq_false h0) ?_
  refine bw (hK2 _ ?_)
  clear hK2;try clear K2
  refine ay fun K4 hK4=> ?_
  refine an ?_
  refine aj (au _ bc) ?_
  refine aj (au _ bc) ?_
  refine aj (oA (r:=y.tdiv x) _ _ rfl rfl h0 (dH ab)) ?_
  refine aj (aM _ bc) ?_
  refine ap (hK4 _ ?_)
  clear hK4;try clear K4
  refine br ?_
  exact km rfl rfl
theorem rh (y x:Int):Spec Try.prog 50 (bq [.v (.int .i64 y), .v (.int .i64 x)] []) (aX (.v (.bool (decide (y < x)))) []):=by
  refine Spec.ofN Try.func50 rfl Try.ntmps50 rfl ?_
  refine ay fun K1 hK1=> ?_
  refine an ?_
  refine aj (aM _ dh) ?_
  refine ap (hK1 _ ?_)
  clear hK1;try clear K1
  refine ay fun K2 hK2=> ?_
  refine an ?_
  refine aj (au _ bc) ?_
  refine aj (au _ bc) ?_
  refine aj (bo _ _ rfl rfl rfl) ?_
  refine aj (aM _ dh) ?_
  refine ap (hK2 _ ?_)
  clear hK2;try clear K2
  refine br ?_
  exact km rfl rfl
theorem rG (y x:Int):Spec Try.prog 51 (bq [.v (.int .i64 y), .v (.int .i64 x)] []) (aX (.v (.bool (decide (y≤x)))) []):=by
  refine Spec.ofN Try.func51 rfl Try.ntmps51 rfl ?_
  refine ay fun K1 hK1=> ?_
  refine an ?_
  refine aj (aM _ dh) ?_
  refine ap (hK1 _ ?_)
  clear hK1;try clear K1
  refine ay fun K2 hK2=> ?_
  refine an ?_
  refine aj (au _ bc) ?_
  refine aj (au _ bc) ?_
  refine aj (pb _ _ rfl rfl rfl) ?_
  refine aj (aM _ dh) ?_
  refine ap (hK2 _ ?_)
  clear hK2;try clear K2
  refine br ?_
  exact km rfl rfl
theorem qy (y x:Int):Spec Try.prog 52 (bq [.v (.int .i64 y), .v (.int .i64 x)] []) (aX (.v (.bool (decide (y=x)))) []):=by
  refine Spec.ofN Try.func52 rfl Try.ntmps52 rfl ?_
  refine ay fun K1 hK1=> ?_
  refine an ?_
  refine aj (aM _ dh) ?_
  refine ap (hK1 _ ?_)
  clear hK1;try clear K1
  refine ay fun K2 hK2=> ?_
  refine an ?_
  refine aj (au _ bc) ?_
  refine aj (au _ bc) ?_
  refine aj (ca _ _ rfl rfl rfl) ?_
  refine aj (aM _ dh) ?_
  refine ap (hK2 _ ?_)
  clear hK2;try clear K2
  refine br ?_
  exact km rfl rfl
theorem lY {f:FuncId} [bR Try.prog f] {y x:Int} {b:Bool} (hg:Spec Try.prog f (bq [.v (.int .i64 y), .v (.int .i64 x)] []) (aX (.v (.bool b)) [])):Spec Try.prog 70 (bq [.v (.int .i64 y), .v (.int .i64 x), .fp 0 [.fn (.func f) [] []]] []) (aX (.v (.int .i64 (iy b))) []):=by
  cases b
  · skip
    refine Spec.ofN Try.func70 rfl Try.ntmps70 rfl ?_
    refine ay fun K1 hK1=> ?_
    refine an ?_
    refine aj (aM _ bc) ?_
    refine ap (hK1 _ ?_)
    clear hK1;try clear K1
    refine ay fun K2 hK2=> ?_
    refine ay fun K3 hK3=> ?_
    refine an ?_
    refine aj (eX _ aa rfl (by first | rfl | exact ax _ _ ab | exact aG _ _ ab | assumption | exact ax _ _ ab) rfl) ?_
    refine aj (au _ bc) ?_
    refine aj (au _ bc) ?_
    refine aj (dZ rfl aa (by repeat' (first | exact aJ | refine aI ?_ ?_ | exact Lv.v | exact aF ab | exact Lv.sl | exact Lv.fp | exact Lv.nil | refine Lv.agg rfl ?_ | refine Lv.fn rfl ?_ rfl ?_ | exact am | refine ai ?_ ?_ | exact Lv.z0)) (hg) rfl rfl) ?_
    refine ap (hK3 _ ?_)
    clear hK3;try clear K3
    refine eE rfl rfl ?_
    refine bw (hK2 _ ?_)
    clear hK2;try clear K2
    refine ay fun K4 hK4=> ?_
    refine an ?_
    refine aj (aM _ bc) ?_
    refine ap (hK4 _ ?_)
    clear hK4;try clear K4
    refine br ?_
    exact km rfl rfl
  refine Spec.ofN Try.func70 rfl Try.ntmps70 rfl ?_
  refine ay fun K1 hK1=> ?_
  refine an ?_
  refine aj (aM _ bc) ?_
  refine ap (hK1 _ ?_)
  clear hK1;try clear K1
  refine ay fun K2 hK2=> ?_
  refine ay fun K3 hK3=> ?_
  refine an ?_
  refine aj (eX _ aa rfl (by first | rfl | exact ax _ _ ab | exact aG _ _ ab | assumption | exact ax _ _ ab) rfl) ?_
  refine aj (au _ bc) ?_
  refine aj (au _ bc) ?_
  refine aj (dZ rfl aa (by repeat' (first | exact aJ | refine aI ?_ ?_ | exact Lv.v | exact aF ab | exact Lv.sl | exact Lv.fp | exact Lv.nil | refine Lv.agg rfl ?_ | refine Lv.fn rfl ?_ rfl ?_ | exact am | refine ai ?_ ?_ | exact Lv.z0)) (hg) rfl rfl) ?_
  refine ap (hK3 _ ?_)
  clear hK3;try clear K3
  refine gH rfl rfl ?_
  refine ay fun K4 hK4=> ?_
  refine an ?_
  refine aj (aM _ bc) ?_
  refine ap (hK4 _ ?_)
  clear hK4;try clear K4
  refine br ?_
  exact km rfl rfl
theorem fi (g:FuncId):Spec Try.prog 43 (bq [.fn (.func g) [] []] []) (aX (.fn (.func 69) [] [.fp 0 [.fn (.func g) [] []]]) []):=by
  refine Spec.ofN Try.func43 rfl Try.ntmps43 rfl ?_
  refine ay fun K1 hK1=> ?_
  refine an ?_
  refine aj (cC (1,0) _ rfl rfl) ?_
  first
    | refine aj (aM _ fJ) ?_
    | refine aj (aM _ pd) ?_
  refine ap (hK1 _ ?_)
  clear hK1;try clear K1
  refine ay fun K2 hK2=> ?_
  refine an ?_
  refine aj (jY _ _ (rfl:_=[]) (rfl:_=[AV.ptr _ _])) ?_
  refine aj (aM _ fJ) ?_
  refine ap (hK2 _ ?_)
  clear hK2;try clear K2
  refine br ?_
  exact dk (.inr rfl) rfl (.tmp fJ) (Le.out [] [(1,0)] (.fn rfl am rfl (ai (Lv.frzP rfl rfl rfl) am)) rfl rfl rfl ⟨rfl,trivial⟩ trivial)
theorem kK (g:FuncId) (f:FuncId):Spec Try.prog 43 (bq [.fn (.func g) [] [.fp 0 [.fn (.func f) [] []]]] []) (aX (.fn (.func 69) [] [.fp 0 [.fn (.func g) [] [.ptr 0 [.fn (.func f) [] []]]]]) []):=by
  refine Spec.ofN Try.func43 rfl Try.ntmps43 rfl ?_
  refine ay fun K1 hK1=> ?_
  refine an ?_
  refine aj (cC (1,0) _ rfl rfl) ?_
  first
    | refine aj (aM _ fJ) ?_
    | refine aj (aM _ pd) ?_
  refine ap (hK1 _ ?_)
  clear hK1;try clear K1
  refine ay fun K2 hK2=> ?_
  refine an ?_
  refine aj (jY _ _ (rfl:_=[]) (rfl:_=[AV.ptr _ _])) ?_
  refine aj (aM _ fJ) ?_
  refine ap (hK2 _ ?_)
  clear hK2;try clear K2
  refine br ?_
  exact dk (.inr rfl) rfl (.tmp fJ) (Le.out [] [(1,0)] (.fn rfl am rfl (ai (Lv.frzP rfl rfl rfl) am)) rfl rfl rfl ⟨rfl,trivial⟩ trivial)
theorem gv (f:FuncId):Spec Try.prog 49 (bq [.fn (.func f) [] []] []) (aX (.fn (.func 69) [] [.fp 0 [.fn (.func 70) [] [.ptr 0 [.fn (.func f) [] []]]]]) []):=by
  have hb:=kK 70 f
  refine Spec.ofN Try.func49 rfl Try.ntmps49 rfl ?_
  refine ay fun K1 hK1=> ?_
  refine an ?_
  refine aj (cC (1,0) _ rfl rfl) ?_
  first
    | refine aj (aM _ fJ) ?_
    | refine aj (aM _ pd) ?_
  refine ap (hK1 _ ?_)
  clear hK1;try clear K1
  refine ay fun K2 hK2=> ?_
  refine bP (Le.frzPt 1 rfl rfl rfl rfl) ?_
  refine an ?_
  refine aj (jY _ _ (rfl:_=[]) (rfl:_=[AV.fp _ _])) ?_
  refine aj (ba aa (by repeat' (first | exact aJ | refine aI ?_ ?_ | exact Lv.v | exact aF ab | exact Lv.sl | exact Lv.fp | exact Lv.nil | refine Lv.agg rfl ?_ | refine Lv.fn rfl ?_ rfl ?_ | exact am | refine ai ?_ ?_ | exact Lv.z0)) (hb) rfl rfl) ?_
  refine aj (aM _ fJ) ?_
  refine ap (hK2 _ ?_)
  clear hK2;try clear K2
  refine br ?_
  exact dk (.inr rfl) rfl (.tmp fJ) (Le.out [] [] (.fn rfl am rfl (ai .fp am)) rfl rfl rfl trivial trivial)

def pX:Opc→FuncId
  | .push=> 34
  | .var=> 35
  | .setVar=> 37
  | .name=> 40
  | .draw=> 41
  | .add=> 69
  | .sub=> 69
  | .mul=> 69
  | .div=> 69
  | .neg=> 48
  | .lt=> 69
  | .le=> 69
  | .eq=> 69
  | .not=> 53
  | .jump=> 54
  | .unl=> 55
  | .send=> 56
  | .timer=> 57
  | .cancel=> 58
  | .sync=> 59
  | .reply=> 60
  | .fail=> 61
  | .stop=> 62
def pT:Opc→List PV
  | .push=> []
  | .var=> []
  | .setVar=> []
  | .name=> []
  | .draw=> []
  | .add=> [.ptr 0 [.fn (.func 44) [] []]]
  | .sub=> [.ptr 0 [.fn (.func 45) [] []]]
  | .mul=> [.ptr 0 [.fn (.func 46) [] []]]
  | .div=> [.ptr 0 [.fn (.func 47) [] []]]
  | .neg=> []
  | .lt=> [.ptr 0 [.fn (.func 70) [] [.ptr 0 [.fn (.func 50) [] []]]]]
  | .le=> [.ptr 0 [.fn (.func 70) [] [.ptr 0 [.fn (.func 51) [] []]]]]
  | .eq=> [.ptr 0 [.fn (.func 70) [] [.ptr 0 [.fn (.func 52) [] []]]]]
  | .not=> []
  | .jump=> []
  | .unl=> []
  | .send=> []
  | .timer=> []
  | .cancel=> []
  | .sync=> []
  | .reply=> []
  | .fail=> []
  | .stop=> []
abbrev pO:List AV:=[.v .nilFunc, .fn (.func 34) [] [], .fn (.func 35) [] [], .fn (.func 37) [] [], .fn (.func 40) [] [], .fn (.func 41) [] [], .fn (.func 69) [] [.fp 0 [.fn (.func 44) [] []]], .fn (.func 69) [] [.fp 0 [.fn (.func 45) [] []]], .fn (.func 69) [] [.fp 0 [.fn (.func 46) [] []]], .fn (.func 69) [] [.fp 0 [.fn (.func 47) [] []]], .fn (.func 48) [] [], .fn (.func 69) [] [.fp 0 [.fn (.func 70) [] [.ptr 0 [.fn (.func 50) [] []]]]], .fn (.func 69) [] [.fp 0 [.fn (.func 70) [] [.ptr 0 [.fn (.func 51) [] []]]]], .fn (.func 69) [] [.fp 0 [.fn (.func 70) [] [.ptr 0 [.fn (.func 52) [] []]]]], .fn (.func 53) [] [], .fn (.func 54) [] [], .fn (.func 55) [] [], .fn (.func 56) [] [], .fn (.func 57) [] [], .fn (.func 58) [] [], .fn (.func 59) [] [], .fn (.func 60) [] [], .fn (.func 61) [] [], .fn (.func 62) [] []]
theorem nl (o:Opc):pO[o.num]? =some (.fn (.func (pX o)) [] (PV.ups (pT o))):=by cases o <;> rfl
instance pS (o:Opc):bR Try.prog (pX o):=by cases o <;> (unfold pX;infer_instance)
theorem lh:Spec Try.prog 27 (bq [] []) (aX (.agg pO) []):=by
  refine Spec.ofN Try.func27 rfl Try.ntmps27 rfl ?_
  refine ay fun K1 hK1=> ?_
  refine an ?_
  refine aj (bb (0,0) aa rfl rfl) ?_
  refine ap (hK1 _ ?_)
  clear hK1;try clear K1
  refine ay fun K2 hK2=> ?_
  refine an ?_
  refine aj (ba aa (by repeat' (first | exact aJ | refine aI ?_ ?_ | exact Lv.v | exact aF ab | exact Lv.sl | exact Lv.fp | exact Lv.nil | refine Lv.agg rfl ?_ | refine Lv.fn rfl ?_ rfl ?_ | exact am | refine ai ?_ ?_ | exact Lv.z0)) (fi 44) rfl rfl) ?_
  refine aj (ba aa (by repeat' (first | exact aJ | refine aI ?_ ?_ | exact Lv.v | exact aF ab | exact Lv.sl | exact Lv.fp | exact Lv.nil | refine Lv.agg rfl ?_ | refine Lv.fn rfl ?_ rfl ?_ | exact am | refine ai ?_ ?_ | exact Lv.z0)) (fi 45) rfl rfl) ?_
  refine aj (ba aa (by repeat' (first | exact aJ | refine aI ?_ ?_ | exact Lv.v | exact aF ab | exact Lv.sl | exact Lv.fp | exact Lv.nil | refine Lv.agg rfl ?_ | refine Lv.fn rfl ?_ rfl ?_ | exact am | refine ai ?_ ?_ | exact Lv.z0)) (fi 46) rfl rfl) ?_
  refine aj (ba aa (by repeat' (first | exact aJ | refine aI ?_ ?_ | exact Lv.v | exact aF ab | exact Lv.sl | exact Lv.fp | exact Lv.nil | refine Lv.agg rfl ?_ | refine Lv.fn rfl ?_ rfl ?_ | exact am | refine ai ?_ ?_ | exact Lv.z0)) (fi 47) rfl rfl) ?_
  refine aj (ba aa (by repeat' (first | exact aJ | refine aI ?_ ?_ | exact Lv.v | exact aF ab | exact Lv.sl | exact Lv.fp | exact Lv.nil | refine Lv.agg rfl ?_ | refine Lv.fn rfl ?_ rfl ?_ | exact am | refine ai ?_ ?_ | exact Lv.z0)) (gv 50) rfl rfl) ?_
  refine aj (ba aa (by repeat' (first | exact aJ | refine aI ?_ ?_ | exact Lv.v | exact aF ab | exact Lv.sl | exact Lv.fp | exact Lv.nil | refine Lv.agg rfl ?_ | refine Lv.fn rfl ?_ rfl ?_ | exact am | refine ai ?_ ?_ | exact Lv.z0)) (gv 51) rfl rfl) ?_
  refine aj (ba aa (by repeat' (first | exact aJ | refine aI ?_ ?_ | exact Lv.v | exact aF ab | exact Lv.sl | exact Lv.fp | exact Lv.nil | refine Lv.agg rfl ?_ | refine Lv.fn rfl ?_ rfl ?_ | exact am | refine ai ?_ ?_ | exact Lv.z0)) (gv 52) rfl rfl) ?_
  refine aj (bf _ aa rfl (by exact (rfl:_=some [_,_,_,_,_,_,_,_,_,_,_,_,_,_,_,_,_,_,_,_,_,_,_,_]))) ?_
  refine aj (aT _ _ aa rfl rfl rfl rfl (Nat.le_of_ble_eq_true rfl) rfl) ?_
  refine ap (hK2 _ ?_)
  clear hK2;try clear K2
  refine br ?_
  exact dk (.inr rfl) rfl (.cellA aa rfl rfl rfl) (Le.out [] [] (.agg rfl (ai .v (ai (.fn rfl am rfl am) (ai (.fn rfl am rfl am) (ai (.fn rfl am rfl am) (ai (.fn rfl am rfl am) (ai (.fn rfl am rfl am) (ai (.fn rfl am rfl (ai .fp am)) (ai (.fn rfl am rfl (ai .fp am)) (ai (.fn rfl am rfl (ai .fp am)) (ai (.fn rfl am rfl (ai .fp am)) (ai (.fn rfl am rfl am) (ai (.fn rfl am rfl (ai .fp am)) (ai (.fn rfl am rfl (ai .fp am)) (ai (.fn rfl am rfl (ai .fp am)) (ai (.fn rfl am rfl am) (ai (.fn rfl am rfl am) (ai (.fn rfl am rfl am) (ai (.fn rfl am rfl am) (ai (.fn rfl am rfl am) (ai (.fn rfl am rfl am) (ai (.fn rfl am rfl am) (ai (.fn rfl am rfl am) (ai (.fn rfl am rfl am) (ai (.fn rfl am rfl am) am))))))))))))))))))))))))) rfl rfl rfl trivial trivial)
theorem cA (l:List Ac) (a:Ac):be (l++[a])=if a.k=3 then be l+1 else be l:=by
  unfold be
  rw [List.countP_append,List.countP_singleton]
  by_cases h:a.k=3 <;> simp [h]
theorem gA (b:Bool):fF (iy b)=iy b:=by cases b <;> decide
theorem nX (M:Mk) (s:Ms) (x:eY) (nv:Nat) (hx:fW nv x) (hv:IV M.cx nv s) (hp:x.op.pops≤s.stack.length) (hs:s.stack.length≤80000) (ha:s.acts.length≤80000) (hq:s.asked.length≤80000) (hn:M.ans=[]):
    Spec Try.prog (pX x.op) (aZ ([.ptr (0,9) 0, .v (.int .i64 x.n)]++PV.ups (pT x.op)) (eL M s (s.asked.length:Int) (be s.acts:Int))) (aS (.tup []) (eH M (bv M.cx x s) ((bv M.cx x s).asked.length:Int) (be (bv M.cx x s).acts:Int) (2,8) (3,8)) [(0,9),(1,9),(2,8),(3,8)] [(0,9),(1,9)]):=by
  have rs0:=jG hv.rs 0
  have rs1:=jG hv.rs 1
  have hvl:=hv.vl
  have hsn:=hv.sn
  have hnat: ∀ n:Int,0≤n→ ∃ k:Nat,n=k:=fun n h=> ⟨n.toNat,by omega⟩
  obtain ⟨o,n⟩:=x
  have hpp:o.pops≤s.stack.length:=hp
  cases o
  case push=> exact nc M s _ _ n ab
  case var=>
    obtain ⟨k,rfl⟩:=hnat n hx.1
    have hk:(k:Int) < nv:=hx.2
    exact mI M s _ _ k ab ab
  case setVar=>
    obtain ⟨k,rfl⟩:=hnat n hx.1
    have hk:(k:Int) < nv:=hx.2
    by_cases hd:k < M.P.d
    · have h:=lB M s (s.asked.length:Int) (be s.acts:Int) k ab ab ab hpp hd
      have e:bv M.cx ⟨.setVar,(k:Int)⟩ s={ s with vars:=s.vars.set k (s.top 0),stack:=s.pop 1,acts:=s.acts++[{ k:=1,a:=k,b:=s.top 0 }] }:=by
        simp only [bv,Int.toNat_natCast]
        rw [if_pos (show (k:Int) < ((M.P.d:Nat):Int) by omega)]
      rw [e]
      rw [show be (s.acts++[{ k:=1,a:=k,b:=s.top 0 }])=be s.acts from cA _ _]
      exact h
    have h:=lL M s (s.asked.length:Int) (be s.acts:Int) k ab ab hpp ab
    have e:bv M.cx ⟨.setVar,(k:Int)⟩ s={ s with vars:=s.vars.set k (s.top 0),stack:=s.pop 1 }:=by
      simp only [bv,Int.toNat_natCast]
      rw [if_neg (show ¬ (k:Int) < ((M.P.d:Nat):Int) by omega)]
    rw [e]
    exact h
  case name=>
    obtain ⟨k,rfl⟩:=hnat n hx.1
    have hk:(k:Int) < 9:=hx.2
    exact kZ M s _ _ k ab ab
  case draw=>
    by_cases hk:max 1 (min (s.top 0) 4)=1
    · have h:=lH M s (be s.acts:Int) n ab hpp hk
      have e:bv M.cx ⟨.draw,n⟩ s={ s with stack:=s.pop 1++[0] }:=if_pos hk
      rw [e];exact h
    have h:=lI M s (be s.acts:Int) n ab hpp hq hn rfl hk
    have e:bv M.cx ⟨.draw,n⟩ s={ s with stack:=s.pop 1++[fK M.ans s.asked.length (max 1 (min (s.top 0) 4))],asked:=s.asked++[max 1 (min (s.top 0) 4)] }:=if_neg hk
    rw [e];exact h
  case add=> exact im M s _ _ n ab hpp (pL rs1 rs0)
  case sub=> exact im M s _ _ n ab hpp (py rs1 rs0)
  case mul=> exact im M s _ _ n ab hpp (pv rs1 rs0)
  case div=>
    have h:=im M s (s.asked.length:Int) (be s.acts:Int) n ab hpp (pG (x:=s.top 0) rs1)
    have e:bv M.cx ⟨.div,n⟩ s={ s with stack:=s.pop 2++[fF (if s.top 0=0 then 0 else (s.top 1).tdiv (s.top 0))] }:=by
      show { s with stack:=s.pop 2++[if s.top 0=0 then 0 else fF ((s.top 1).tdiv (s.top 0))] }=_
      split <;> rfl
    rw [e];exact h
  case neg=> exact mH M s _ _ n ab hpp rs0
  case not=>
    by_cases h0:s.top 0=0
    · have h:=nn M s (s.asked.length:Int) (be s.acts:Int) n ab hpp h0
      have e:bv M.cx ⟨.not,n⟩ s={ s with stack:=s.pop 1++[1] }:=by simp only [bv,h0,decide_true];rfl
      rw [e];exact h
    have h:=ni M s (s.asked.length:Int) (be s.acts:Int) n ab hpp h0
    have e:bv M.cx ⟨.not,n⟩ s={ s with stack:=s.pop 1++[0] }:=by simp only [bv,h0,decide_false];rfl
    rw [e];exact h
  case jump=>
    obtain ⟨k,rfl⟩:=hnat n hx
    exact mW M s _ _ k
  case unl=>
    obtain ⟨k,rfl⟩:=hnat n hx
    by_cases h0:s.top 0=0
    · have h:=mE M s (s.asked.length:Int) (be s.acts:Int) k ab hpp h0
      have e:bv M.cx ⟨.unl,(k:Int)⟩ s={ s with stack:=s.pop 1,pc:=k }:=by simp only [bv,Int.toNat_natCast];rw [if_pos h0]
      rw [e];exact h
    have h:=ms M s (s.asked.length:Int) (be s.acts:Int) k ab hpp h0
    have e:bv M.cx ⟨.unl,(k:Int)⟩ s={ s with stack:=s.pop 1 }:=by simp only [bv,Int.toNat_natCast];rw [if_neg h0]
    rw [e];exact h
  case send=>
    by_cases hc:0≤s.top 2∧s.top 2 < M.cx.names.getD 1 0∧be s.acts < 20
    · have h:=mB M s (s.asked.length:Int) (be s.acts:Int) n ab ab hpp ab hc.1 hc.2.1 ab
      have e:bv M.cx ⟨.send,n⟩ s={ s with stack:=s.pop 3,acts:=s.acts++[{ k:=3,a:=s.top 2,b:=n,c:=s.top 1,d:=s.top 0 }] }:=by simp only [bv];rw [if_pos hc]
      rw [e]
      rw [show be (s.acts++[{ k:=3,a:=s.top 2,b:=n,c:=s.top 1,d:=s.top 0 }])=be s.acts+1 from cA _ _]
      exact h
    have e:bv M.cx ⟨.send,n⟩ s={ s with stack:=s.pop 3 }:=by simp only [bv];rw [if_neg hc]
    rw [e]
    by_cases h1:0≤s.top 2
    · by_cases h2:s.top 2 < M.nm 1
      · exact kU M s (s.asked.length:Int) (be s.acts:Int) n ab ab hpp ab h1 h2 (by
          have: ¬ be s.acts < 20:=fun h=> hc ⟨h1,h2,h⟩
          omega)
      exact lx M s (s.asked.length:Int) (be s.acts:Int) n ab ab hpp ab h1 ab
    exact lX M s (s.asked.length:Int) (be s.acts:Int) n ab ab hpp ab ab
  case timer=>
    have h:=kX M s (s.asked.length:Int) (be s.acts:Int) n ab
    have e:be (bv M.cx ⟨.timer,n⟩ s).acts=be s.acts:=cA _ _
    rw [e];exact h
  case cancel=>
    have h:=kH M s (s.asked.length:Int) (be s.acts:Int) n ab
    have e:be (bv M.cx ⟨.cancel,n⟩ s).acts=be s.acts:=cA _ _
    rw [e];exact h
  case sync=>
    have h:=mD M s (s.asked.length:Int) (be s.acts:Int) n ab
    have e:be (bv M.cx ⟨.sync,n⟩ s).acts=be s.acts:=cA _ _
    rw [e];exact h
  case reply=>
    have h:=lE M s (s.asked.length:Int) (be s.acts:Int) n ab ab hpp
    have e:be (bv M.cx ⟨.reply,n⟩ s).acts=be s.acts:=cA _ _
    rw [e];exact h
  case fail=>
    have h:=lP M s (s.asked.length:Int) (be s.acts:Int) n ab ab hpp
    have e:be (bv M.cx ⟨.fail,n⟩ s).acts=be s.acts:=cA _ _
    rw [e];exact h
  case stop=> exact mv M s _ _ n
  case lt=>
    have h:=jJ M s (s.asked.length:Int) (be s.acts:Int) n ab hpp (lY (rh (s.top 1) (s.top 0)))
    rw [gA] at h
    exact h
  case le=>
    have h:=jJ M s (s.asked.length:Int) (be s.acts:Int) n ab hpp (lY (rG (s.top 1) (s.top 0)))
    rw [gA] at h
    exact h
  case eq=>
    have h:=jJ M s (s.asked.length:Int) (be s.acts:Int) n ab hpp (lY (qy (s.top 1) (s.top 0)))
    rw [gA] at h
    exact h

theorem jR (l:List Int) (h0:0 < l.length) (h1:l.length≤1000000):
    Spec Try.prog 26 (bq [.sl l.length (ce l)] []) (aX (.ref (0,8) 0 l.length) [((0,8), .row 3 1 (ce l))]):=by
  refine Spec.ofN Try.func26 rfl Try.ntmps26 rfl ?_
  refine ay fun K1 hK1=> ?_
  refine an ?_
  first
    | refine aj (aM _ kw) ?_
    | refine aj (aM _ mo) ?_
    | refine aj (aM _ nP) ?_
    | refine aj (aM _ (rfl:_=AV.z)) ?_
  refine ap (hK1 _ ?_)
  clear hK1;try clear K1
  refine ay fun K2 hK2=> ?_
  refine ay fun K3 hK3=> ?_
  refine an ?_
  refine aj (au _ kw) ?_
  refine aj (mx _ _ Try.underlying22 (.inl ⟨_,rfl⟩) h0 rfl) ?_
  refine ap (hK3 _ ?_)
  clear hK3;try clear K3
  refine eE rfl rfl ?_
  refine bw (hK2 _ ?_)
  clear hK2;try clear K2
  refine ay fun K4 hK4=> ?_
  refine an ?_
  refine aj (oL _ aa rfl) ?_
  refine aj (au _ kw) ?_
  refine aj (na (7,0) _ _ aa rfl h0 (.sl (by simp)) ab rfl) ?_
  refine aj (aM _ mo) ?_
  refine ap (hK4 _ ?_)
  clear hK4;try clear K4
  refine br ?_
  exact dk (.inr rfl) rfl (.tmp mo) (Le.out [((0,8),(7,0))] [] (aq rfl rfl) rfl rfl rfl trivial ⟨⟨rfl,⟨_,rfl, .rowE rfl⟩,rfl⟩,trivial⟩)
def jb (l:List Nat):List (Int×Value):=l.foldl (fun M (i:Nat)=> dI M (i:Int) (.agg #[])) []
theorem lf (l:List Nat) (i:Nat):jb (l++[i])=dI (jb l) (i:Int) (.agg #[]):=by simp [jb,List.foldl_append]
theorem lz {M:List (Int×Value)} {n:Int} {u:Value} (h:fB M n=some u):(n,u)∈M:=by
  unfold fB at h
  cases hf:ff n M 0 with
  | none=> rw [hf] at h;cases h
  | some p=>
    obtain ⟨i,v⟩:=p
    rw [hf] at h
    obtain rfl:v=u:=Option.some.inj h
    obtain ⟨q,_,hq⟩:=ij hf
    exact List.mem_of_getElem? hq
theorem jh {M:List (Int×Value)} {n:Int} {u:Value} {p:Int×Value} (h:p∈dI M n u):p∈M∨p=(n,u):=by
  unfold dI at h
  split at h
  · exact .inl h
  rcases List.mem_append.1 h with h | h
  · exact .inl h
  exact .inr (List.mem_singleton.1 h)
theorem ju: ∀ (l:List Nat) (M:List (Int×Value)),(∀ p∈M,p.2= .agg #[])→ ∀ p∈l.foldl (fun M (i:Nat)=> dI M (i:Int) (.agg #[])) M,p.2= .agg #[]
  | [],_,h=> h
  | i::l,M,h=> ju l _ fun p hp=> by
    rcases jh hp with hp | rfl
    · exact h p hp
    rfl
theorem iC (l:List Nat): ∀ p∈jb l,p.2= .agg #[]:=ju l [] fun p hp=> by cases hp
theorem mL {M:List (Int×Value)} {n:Int} (h:fB M n=none):n∉M.map (·.1):=by
  intro hm
  obtain ⟨p,hp,he⟩:=List.mem_map.1 hm
  unfold fB at h
  cases hf:ff n M 0 with
  | some q=> rw [hf] at h;cases h
  | none=>
    clear h hm
    have: ∀ (M:List (Int×Value)) (i:Nat),ff n M i=none→ ∀ p∈M,p.1≠n:=by
      intro M
      induction M with
      | nil=> intro i _ p hp;cases hp
      | cons a l ih=>
        intro i h p hp
        unfold ff at h
        split at h
        · cases h
        rename_i hne
        rcases List.mem_cons.1 hp with rfl | hp
        · exact fun e=> hne e.symm
        exact ih _ h p hp
    exact this M 0 hf p hp he
theorem mt {M:List (Int×Value)} {n:Int} {u:Value} (h:(M.map (·.1)).Nodup):((dI M n u).map (·.1)).Nodup:=by
  unfold dI
  cases hg:fB M n with
  | some v=> exact h
  | none=>
    simp only [Option.isSome_none,Bool.false_eq_true,if_false,List.map_append,List.map_cons,List.map_nil]
    exact List.nodup_append.2 ⟨h,by simp,fun a ha b hb e=> mL hg (by rw [List.mem_singleton.1 hb] at e;exact e ▸ ha)⟩
theorem ks: ∀ (l:List Nat) (M:List (Int×Value)),(M.map (·.1)).Nodup→((l.foldl (fun M (i:Nat)=> dI M (i:Int) (.agg #[])) M).map (·.1)).Nodup
  | [],_,h=> h
  | _::l,_,h=> ks l _ (mt h)
theorem lb (l:List Nat):((jb l).map (·.1)).Nodup:=ks l [] List.nodup_nil
theorem jZ {N:Int}: ∀ (l:List Nat) (M:List (Int×Value)),(∀ i∈l,(i:Int)≤N)→(∀ p∈M,0≤p.1∧p.1≤N)→ ∀ p∈l.foldl (fun M (i:Nat)=> dI M (i:Int) (.agg #[])) M,0≤p.1∧p.1≤N
  | [],_,_,h=> h
  | i::l,M,hl,h=> jZ l _ (fun j hj=> hl j (List.mem_cons_of_mem _ hj)) fun p hp=> by
    rcases jh hp with hp | rfl
    · exact h p hp
    exact ⟨by simp only;omega,hl i List.mem_cons_self⟩
theorem me (l:List Nat) (h: ∀ i∈l,i≤1000000): ∀ p∈jb l,0≤p.1∧p.1≤1000000:=jZ l [] (fun i hi=> by have:=h i hi;omega) fun p hp=> by cases hp
theorem mX (l:List Nat) (n:Int): ∀ u,fB (jb l) n=some u→u= .agg #[]:=fun u h=> iC l _ (lz h)
structure Sz (s:Ms):Prop where
  st:s.stack.length≤s.steps
  ac:s.acts.length≤s.steps
  ak:s.asked.length≤s.steps
theorem mZ (K:Cx) (x:eY) (s:Ms):(bv K x s).stack.length≤s.stack.length+1∧(bv K x s).acts.length≤s.acts.length+1∧(bv K x s).asked.length≤s.asked.length+1∧(bv K x s).steps=s.steps:=by
  have hp:=bd s
  unfold bv
  cases x.op <;> simp only [List.length_append,List.length_cons,List.length_nil,hp]
  case setVar=> split <;> simp <;> omega
  case draw=> split <;> simp [hp] <;> omega
  case send=> split <;> simp <;> omega
  all_goals (refine ⟨?_,?_,?_,?_⟩ <;> first | trivial | omega)
theorem kh {K:Cx} {s:Ms} (h:Sz s):Sz (di K s):=by
  obtain ⟨h1,h2,h3,h4⟩:=mZ K (K.code.getD s.pc { op:= .stop }) { s with pc:=s.pc+1,steps:=s.steps+1,cov:=s.cov++[s.pc] }
  have:=h.st;have:=h.ac;have:=h.ak
  exact ⟨by unfold di;rw [h4];simp only at h1 ⊢;omega,by unfold di;rw [h4];simp only at h2 ⊢;omega,by unfold di;rw [h4];simp only at h3 ⊢;omega⟩
theorem lQ {ρ:aw→aw} {σ:St} {F:aw→Bool} {id id':aw} (h:ρ id=id'):Lv ρ σ F (.mp id) (.mp id'):=by subst h;exact .mp
def fO (M:List (Int×Value)):List Int:=(M.map (·.1)).mergeSort (fun x y=> decide (x≤y))
theorem gM (es:List MapEntry) (c:Nat):Spec Try.prog 29 (aZ [.mp (0,9)] [((0,9), .mp es c)]) (aS (.fn (.func 65) [] [.ptr (1,8) 0]) [((0,9), .mp es c),((1,8), .box 72 [.mp (0,9)])] [(0,9)] [(0,9)]):=by
  refine Spec.ofNI Try.func29 rfl Try.ntmps29 rfl ?_
  refine ay fun K1 hK1=> ?_
  refine an ?_
  refine aj (cC (1,0) _ rfl rfl) ?_
  first
    | refine aj (aM _ fJ) ?_
    | refine aj (aM _ pd) ?_
  refine ap (hK1 _ ?_)
  clear hK1;try clear K1
  refine ay fun K2 hK2=> ?_
  refine an ?_
  refine aj (jY _ _ (rfl:_=[]) (rfl:_=[AV.ptr _ _])) ?_
  refine aj (aM _ fJ) ?_
  refine ap (hK2 _ ?_)
  clear hK2;try clear K2
  refine br ?_
  exact dk (.inr rfl) rfl (.tmp fJ) (Le.outI [((1,8),(1,0))] [] (.fn rfl am rfl (ai (aP rfl) am)) rfl rfl rfl trivial ⟨⟨rfl,⟨_,rfl, .mp⟩,rfl⟩,⟨rfl,⟨_,rfl, .box rfl (ai (lQ rfl) am)⟩,rfl⟩,trivial⟩ ⟨rfl,trivial⟩ rfl)
theorem lJ {σ:St} {rn:List (aw×aw)} (o:Opc):dw σ rn (PV.ups (pT o)) (PV.ups (pT o)):=by
  cases o <;> first | exact aD | exact aB .fp aD
theorem oV (o:Opc):o.num < 24:=by cases o <;> decide
theorem kT (M:List (Int×Value)) (n:Int) (u:Value):(dI M n u).length≤M.length+1:=by unfold dI;split <;> simp
theorem jj: ∀ (l:List Nat) (M:List (Int×Value)),(l.foldl (fun M (i:Nat)=> dI M (i:Int) (.agg #[])) M).length≤M.length+l.length
  | [],M=> Nat.le_refl _
  | i::l,M=> by have:=jj l (dI M i (.agg #[]));have:=kT M i (.agg #[]);simp only [List.foldl_cons,List.length_cons];omega
theorem kq (l:List Nat):(jb l).length≤l.length:=by have:=jj l [];simpa [jb] using this
theorem mn (K:Cx) (x:eY) (s:Ms):(bv K x s).cov=s.cov:=by
  unfold bv
  cases x.op <;> simp only
  all_goals first | rfl | (split <;> rfl)
theorem mG {K:Cx} {s:Ms} (h:s.fin=true): ∀ k,dX K k s=s
  | 0=> rfl
  | k+1=> by rw [dX,if_pos h]
abbrev lR:Prop:= ∀ (M:List (Int×Value)),M.length≤1000000→(∀ p∈M,p.2= .agg #[])→(M.map (·.1)).Nodup→(∀ p∈M,0≤p.1∧p.1≤1000000)→Spec Try.prog 28 (aZ [.fn (.func 65) [] [.ptr (1,9) 0]] [((0,9), .mp (bM M) M.length),((1,9), .box 72 [.mp (0,9)])]) (aS (.sl (fO M).length (ce (fO M))) [((0,9), .mp (bM M) M.length),((1,9), .box 72 [.mp (0,9)])] [(0,9),(1,9)] [(0,9),(1,9)])
set_option maxHeartbeats 1000000 in
theorem kJ (M:Mk) (hS:lR) (D:Nat→Nat) (nv:Nat) (hK:PG M.cx D nv) (h:Nat) (hh:h < 40) (e0:Nat) (he:M.P.e h=(e0:Int)) (he2:e0 < M.P.c.length) (hD:D e0=0) (hiv:M.iv.length=nv) (hir: ∀ v∈M.iv,Rg v) (h0:0 < nv) (hc:M.P.c.length≤1000000) (hn:M.ans=[]) (R:Ms) (hR:R=dX M.cx 500 (bT M.iv e0)):
    Spec Try.prog 16 (aZ [qc M.P, .v (.int .i64 (h:Int)), .agg [.sl M.iv.length (ce M.iv), .v (.int .i64 (M.nm 0)), .v (.int .i64 (M.nm 1)), .v (.int .i64 (M.nm 2)), .v (.int .i64 (M.nm 3)), .v (.int .i64 (M.nm 4)), .v (.int .i64 (M.nm 5)), .v (.int .i64 (M.nm 6)), .v (.int .i64 (M.nm 7)), .v (.int .i64 (M.nm 8))],nk] []) (aS (.agg [.sl R.vars.length (ce R.vars), .ref (2,8) 0 R.acts.length, .v (.int .i64 (R.steps:Int)), .v (.bool (!R.fin)), .sl (fO (jb R.cov)).length (ce (fO (jb R.cov)))]) [((2,8), .row 54 5 (mr R.acts))] [(2,8)] []):=by
  have hnv:=hK.nv
  have hcl:=jR M.iv ab ab
  have hg:=nu M.P.c.length (inl M.P.c) M.P.e (M.P.d:Int) (M.P.v:Int) h hh
  rw [he] at hg
  refine Spec.ofNI Try.func16 rfl Try.ntmps16 rfl ?_
  refine ay fun K1 hK1=> ?_
  refine an ?_
  refine aj (cC (4,0) _ rfl rfl) ?_
  refine aj (cC (6,0) _ rfl rfl) ?_
  refine aj (bb (8,0) aa rfl rfl) ?_
  refine ap (hK1 _ ?_)
  clear hK1;try clear K1
  refine ay fun K2 hK2=> ?_
  refine de 11 [13,14,15,16,17,18,19,20,21,22,23] [(22,0)] ae ae rfl (aQ rfl) (rfl:_=[_,_,_,_,_,_,_,_,_,_,_]) (rfl:_=[_,_,_]) ?_
  first
    | refine az (_,[]) (fun τ=> bl _ aa rfl rfl rfl rfl) ?_
    | refine az (_,[]) (fun τ=> bm _ aa rfl rfl (by first | rfl | assumption) rfl) ?_
    | refine az (_,[]) (fun τ=> bg _ aa rfl (by first | rfl | assumption) rfl) ?_
  refine aE (rfl:_=[_]) ?_
  first
    | refine az (_,[]) (fun τ=> bl _ aa rfl rfl rfl rfl) ?_
    | refine az (_,[]) (fun τ=> bm _ aa rfl rfl (by first | rfl | assumption) rfl) ?_
    | refine az (_,[]) (fun τ=> bg _ aa rfl (by first | rfl | assumption) rfl) ?_
  refine aE (rfl:_=[_,_]) ?_
  refine az (_,[]) (fun τ=> au _ fJ) ?_
  refine aE (rfl:_=[_,_,_]) ?_
  refine az (_,[]) (fun τ=> au _ bc) ?_
  refine aE (rfl:_=[_,_,_,_]) ?_
  first
    | refine az (_,[]) (fun τ=> aA _ aa rfl rfl rfl) ?_
    | refine az (_,[]) (fun τ=> aC _ aa rfl rfl) ?_
  refine aE (rfl:_=[_,_,_,_,_]) ?_
  refine az (_,[]) (fun τ=> em _ _ aa rfl rfl rfl h rfl ab (by exact congrArg (fun z=> 0+1+z) (Nat.mul_one h))) ?_
  refine aE (rfl:_=[_,_,_,_,_,_]) ?_
  refine az (_,[]) (fun τ=> aK _ aa rfl rfl (by exact (congrArg (fun z=> (qp M.P.c.length (inl M.P.c) M.P.e (M.P.d:Int) (M.P.v:Int))[z]?) ab).trans hg)) ?_
  refine aE (rfl:_=[_,_,_,_,_,_,_]) ?_
  first
    | refine az (_,[]) (fun τ=> aA _ aa rfl rfl rfl) ?_
    | refine az (_,[]) (fun τ=> aC _ aa rfl rfl) ?_
  refine aE (rfl:_=[_,_,_,_,_,_,_,_]) ?_
  first
    | refine az (_,[]) (fun τ=> aK _ aa rfl rfl et) ?_
    | refine az (_,[]) (fun τ=> aN _ aa rfl rfl (by first | rfl | exact ax _ _ ab | exact aG _ _ ab | assumption | exact ax _ _ ab) rfl) ?_
  refine aE (rfl:_=[_,_,_,_,_,_,_,_,_]) ?_
  refine az (_,[((22,0),_)]) (fun τ=> (dW aa [((0,8),(22,0))] ?_ (hcl.toI) trivial ⟨rfl,trivial⟩ ⟨rfl,trivial⟩ rfl rfl ae ae)) ?_
  · repeat' (first | exact aD | refine aB ?_ ?_ | exact Lv.v | exact aF (by assumption) | exact aF ab | exact Lv.sl | exact Lv.fp | exact Lv.nil | exact aq rfl rfl | exact aP rfl | refine Lv.agg rfl ?_ | refine Lv.fn rfl ?_ rfl ?_ | refine Lv.ifc ?_ | exact am | refine ai ?_ ?_)
  refine aE (rfl:_=[_,_,_,_,_,_,_,_,_,_]) ?_
  refine az (_,[]) (fun τ=> bf _ aa rfl (by exact (rfl:_=some [AV.ref (22,0) 0 M.iv.length,AV.v (.slice none 0 0),AV.v (.int .i64 0),AV.v (.bool false),AV.v (.slice none 0 0)]))) ?_
  refine aE (rfl:_=[_,_,_,_,_,_,_,_,_,_,_]) ?_
  refine cf ⟨rfl,?_⟩
  refine aj (bf _ aa rfl (by exact (rfl:_=some [_,_,_,_,_,_,_,_,_,_,_,_,_,_,_,_,_,_,_,_,_,_,_,_,_,_,_,_,_,_,_,_,_,_,_,_,_,_,_,_,_,_,_,_,_,_,_,_,_,_,_,_,_,_,_,_,_,_,_,_,_,_,_,_]))) ?_
  refine aj (cC (25,0) _ rfl rfl) ?_
  refine aj (aM _ bI) ?_
  refine ap (hK2 _ ?_)
  clear hK2;try clear K2
  refine ay fun K3 hK3=> ?_
  refine ay fun K4 hK4=> ?_
  refine bP (σ':=bC 108 [(4,_),(8,_),(9,_)] [((4,0),_),((8,0),_),((22,0),_),((25,0),_)] [] []) (by
    refine Le.mkJ [] [] rfl ?_ ?_ trivial trivial ?_
    · exact ⟨(iP rfl),(iP rfl),(iP rfl),trivial⟩
    · exact ⟨(bn rfl rfl rfl),(bn rfl rfl rfl),(bn rfl rfl rfl),(bn rfl rfl rfl),trivial⟩
    kernel_rfl) ?_
  refine an ?_
  refine aj (au _ bI) ?_
  refine aj (aR _ rfl rfl) ?_
  first
    | refine aj (aA _ aa rfl rfl rfl) ?_
    | refine aj (aC _ aa rfl rfl) ?_
  first
    | refine aj (aK _ aa rfl rfl gg) ?_
    | refine aj (aN _ aa rfl rfl (by first | rfl | exact ax _ _ ab | exact aG _ _ ab | assumption | exact ax _ _ ab) rfl) ?_
  first
    | refine aj (bo _ _ rfl rfl (by assumption)) ?_
    | refine aj (bo _ _ rfl rfl rfl) ?_
  refine ap (hK4 _ ?_)
  clear hK4;try clear K4
  refine eE rfl (decide_eq_false ab) ?_
  refine bw (hK3 _ ?_)
  clear hK3;try clear K3
  refine ay fun K5 hK5=> ?_
  refine an ?_
  refine aj (ba aa (by repeat' (first | exact aJ | refine aI ?_ ?_ | exact Lv.v | exact aF ab | exact Lv.sl | exact Lv.fp | exact Lv.nil | refine Lv.agg rfl ?_ | refine Lv.fn rfl ?_ rfl ?_ | exact am | refine ai ?_ ?_ | exact Lv.z0)) (lh) rfl rfl) ?_
  refine aj (bb (10,0) aa rfl rfl) ?_
  refine aj (aT _ _ aa rfl rfl rfl rfl (Nat.le_of_ble_eq_true rfl) rfl) ?_
  refine ap (hK5 _ ?_)
  clear hK5;try clear K5
  refine ay fun K6 hK6=> ?_
  refine an ?_
  refine aj (nL (36,0) rfl) ?_
  refine aj (aM _ (rfl:_=AV.mp _)) ?_
  refine ap (hK6 _ ?_)
  clear hK6;try clear K6
  refine ay fun K7 hK7=> ?_
  refine cw ?_
  refine bP (Le.incT (60,0) rfl) ?_
  refine bP (Le.incT (61,0) rfl) ?_
  refine bP (Le.nilB (25,0) 55 (60,0) 54 5 rfl rfl rfl) ?_
  refine bP (Le.nilB (25,0) 59 (61,0) 3 1 rfl rfl rfl) ?_
  refine ez (α:=Nat×Ms) (fun z=> R=dX M.cx z.1 z.2∧z.1+z.2.steps=500∧At M.cx D nv z.2∧Sz z.2) 108 [(4,_),(8,_),(9,_),(10,_),(11,_)] [((4,0),_),((8,0),_),((10,0),_)] (fun z=> []) (fun z=> [((25,0), .box 68 [.sl M.P.c.length (inl M.P.c), .v (.int .i64 (M.P.e 0)), .v (.int .i64 (M.P.e 1)), .v (.int .i64 (M.P.e 2)), .v (.int .i64 (M.P.e 3)), .v (.int .i64 (M.P.e 4)), .v (.int .i64 (M.P.e 5)), .v (.int .i64 (M.P.e 6)), .v (.int .i64 (M.P.e 7)), .v (.int .i64 (M.P.e 8)), .v (.int .i64 (M.P.e 9)), .v (.int .i64 (M.P.e 10)), .v (.int .i64 (M.P.e 11)), .v (.int .i64 (M.P.e 12)), .v (.int .i64 (M.P.e 13)), .v (.int .i64 (M.P.e 14)), .v (.int .i64 (M.P.e 15)), .v (.int .i64 (M.P.e 16)), .v (.int .i64 (M.P.e 17)), .v (.int .i64 (M.P.e 18)), .v (.int .i64 (M.P.e 19)), .v (.int .i64 (M.P.e 20)), .v (.int .i64 (M.P.e 21)), .v (.int .i64 (M.P.e 22)), .v (.int .i64 (M.P.e 23)), .v (.int .i64 (M.P.e 24)), .v (.int .i64 (M.P.e 25)), .v (.int .i64 (M.P.e 26)), .v (.int .i64 (M.P.e 27)), .v (.int .i64 (M.P.e 28)), .v (.int .i64 (M.P.e 29)), .v (.int .i64 (M.P.e 30)), .v (.int .i64 (M.P.e 31)), .v (.int .i64 (M.P.e 32)), .v (.int .i64 (M.P.e 33)), .v (.int .i64 (M.P.e 34)), .v (.int .i64 (M.P.e 35)), .v (.int .i64 (M.P.e 36)), .v (.int .i64 (M.P.e 37)), .v (.int .i64 (M.P.e 38)), .v (.int .i64 (M.P.e 39)), .v (.int .i64 (M.P.d:Int)), .v (.int .i64 (M.P.v:Int)), .sl M.iv.length (ce M.iv), .v (.int .i64 (M.nm 0)), .v (.int .i64 (M.nm 1)), .v (.int .i64 (M.nm 2)), .v (.int .i64 (M.nm 3)), .v (.int .i64 (M.nm 4)), .v (.int .i64 (M.nm 5)), .v (.int .i64 (M.nm 6)), .v (.int .i64 (M.nm 7)), .v (.int .i64 (M.nm 8)),nk, .ref (22,0) 0 z.2.vars.length, .ref (60,0) 0 z.2.acts.length, .v (.int .i64 (z.2.steps:Int)), .v (.bool false), .v (.slice none 0 0), .ref (61,0) 0 z.2.stack.length, .v (.int .i64 (z.2.pc:Int)), .v (.int .i64 (z.2.asked.length:Int)), .v (.int .i64 (be z.2.acts:Int)), .v (.bool z.2.fin)]),((22,0), .row 3 1 (ce z.2.vars)),((60,0), .row 54 5 (mr z.2.acts)),((61,0), .row 3 1 (ce z.2.stack)),((36,0), .mp (bM (jb z.2.cov)) (jb z.2.cov).length)]) [(60,0),(61,0)] [] (fun z=> z.1) (500,bT M.iv e0) ?_ (by
    refine Le.mkJ [] [] rfl ?_ ?_ trivial trivial ?_
    · exact ⟨(iP rfl),(iP rfl),(iP rfl),(iP rfl),(iM rfl),trivial⟩
    · exact ⟨(bn rfl rfl rfl),(bn rfl rfl rfl),(bn rfl rfl rfl),(mq rfl rfl rfl rfl (ai (fy (by first | rfl | omega | (simp;done) | (simp;omega) | assumption) (by first | rfl | omega | (simp;done) | (simp;omega) | assumption)) (ai (aF (by first | rfl | omega | (simp;done) | (simp;omega) | assumption)) (ai (aF (by first | rfl | omega | (simp;done) | (simp;omega) | assumption)) (ai (aF (by first | rfl | omega | (simp;done) | (simp;omega) | assumption)) (ai (aF (by first | rfl | omega | (simp;done) | (simp;omega) | assumption)) (ai (aF (by first | rfl | omega | (simp;done) | (simp;omega) | assumption)) (ai (aF (by first | rfl | omega | (simp;done) | (simp;omega) | assumption)) (ai (aF (by first | rfl | omega | (simp;done) | (simp;omega) | assumption)) (ai (aF (by first | rfl | omega | (simp;done) | (simp;omega) | assumption)) (ai (aF (by first | rfl | omega | (simp;done) | (simp;omega) | assumption)) (ai (aF (by first | rfl | omega | (simp;done) | (simp;omega) | assumption)) (ai (aF (by first | rfl | omega | (simp;done) | (simp;omega) | assumption)) (ai (aF (by first | rfl | omega | (simp;done) | (simp;omega) | assumption)) (ai (aF (by first | rfl | omega | (simp;done) | (simp;omega) | assumption)) (ai (aF (by first | rfl | omega | (simp;done) | (simp;omega) | assumption)) (ai (aF (by first | rfl | omega | (simp;done) | (simp;omega) | assumption)) (ai (aF (by first | rfl | omega | (simp;done) | (simp;omega) | assumption)) (ai (aF (by first | rfl | omega | (simp;done) | (simp;omega) | assumption)) (ai (aF (by first | rfl | omega | (simp;done) | (simp;omega) | assumption)) (ai (aF (by first | rfl | omega | (simp;done) | (simp;omega) | assumption)) (ai (aF (by first | rfl | omega | (simp;done) | (simp;omega) | assumption)) (ai (aF (by first | rfl | omega | (simp;done) | (simp;omega) | assumption)) (ai (aF (by first | rfl | omega | (simp;done) | (simp;omega) | assumption)) (ai (aF (by first | rfl | omega | (simp;done) | (simp;omega) | assumption)) (ai (aF (by first | rfl | omega | (simp;done) | (simp;omega) | assumption)) (ai (aF (by first | rfl | omega | (simp;done) | (simp;omega) | assumption)) (ai (aF (by first | rfl | omega | (simp;done) | (simp;omega) | assumption)) (ai (aF (by first | rfl | omega | (simp;done) | (simp;omega) | assumption)) (ai (aF (by first | rfl | omega | (simp;done) | (simp;omega) | assumption)) (ai (aF (by first | rfl | omega | (simp;done) | (simp;omega) | assumption)) (ai (aF (by first | rfl | omega | (simp;done) | (simp;omega) | assumption)) (ai (aF (by first | rfl | omega | (simp;done) | (simp;omega) | assumption)) (ai (aF (by first | rfl | omega | (simp;done) | (simp;omega) | assumption)) (ai (aF (by first | rfl | omega | (simp;done) | (simp;omega) | assumption)) (ai (aF (by first | rfl | omega | (simp;done) | (simp;omega) | assumption)) (ai (aF (by first | rfl | omega | (simp;done) | (simp;omega) | assumption)) (ai (aF (by first | rfl | omega | (simp;done) | (simp;omega) | assumption)) (ai (aF (by first | rfl | omega | (simp;done) | (simp;omega) | assumption)) (ai (aF (by first | rfl | omega | (simp;done) | (simp;omega) | assumption)) (ai (aF (by first | rfl | omega | (simp;done) | (simp;omega) | assumption)) (ai (aF (by first | rfl | omega | (simp;done) | (simp;omega) | assumption)) (ai (aF (by first | rfl | omega | (simp;done) | (simp;omega) | assumption)) (ai (aF (by first | rfl | omega | (simp;done) | (simp;omega) | assumption)) (ai (fy (by first | rfl | omega | (simp;done) | (simp;omega) | assumption) (by first | rfl | omega | (simp;done) | (simp;omega) | assumption)) (ai (aF (by first | rfl | omega | (simp;done) | (simp;omega) | assumption)) (ai (aF (by first | rfl | omega | (simp;done) | (simp;omega) | assumption)) (ai (aF (by first | rfl | omega | (simp;done) | (simp;omega) | assumption)) (ai (aF (by first | rfl | omega | (simp;done) | (simp;omega) | assumption)) (ai (aF (by first | rfl | omega | (simp;done) | (simp;omega) | assumption)) (ai (aF (by first | rfl | omega | (simp;done) | (simp;omega) | assumption)) (ai (aF (by first | rfl | omega | (simp;done) | (simp;omega) | assumption)) (ai (aF (by first | rfl | omega | (simp;done) | (simp;omega) | assumption)) (ai (aF (by first | rfl | omega | (simp;done) | (simp;omega) | assumption)) (ai (by repeat' (first | exact Lv.v | exact Lv.sl | exact Lv.fp | exact aq rfl rfl | exact aP rfl | exact Lv.mp | exact Lv.nil | exact Lv.z | exact Lv.dead | refine Lv.agg rfl ?_ | refine Lv.fn rfl ?_ rfl ?_ | refine Lv.tup rfl ?_ | refine Lv.ifc ?_ | exact am | refine ai ?_ ?_)) (ai (aq rfl (by first | rfl | omega | (simp;done) | (simp;omega) | assumption)) (ai (aq rfl (by first | rfl | omega | (simp;done) | (simp;omega) | assumption)) (ai (aF (by first | rfl | omega | (simp;done) | (simp;omega) | assumption)) (ai (po (by first | rfl | omega | (simp;done) | (simp;omega) | assumption)) (ai (by repeat' (first | exact Lv.v | exact Lv.sl | exact Lv.fp | exact aq rfl rfl | exact aP rfl | exact Lv.mp | exact Lv.nil | exact Lv.z | exact Lv.dead | refine Lv.agg rfl ?_ | refine Lv.fn rfl ?_ rfl ?_ | refine Lv.tup rfl ?_ | refine Lv.ifc ?_ | exact am | refine ai ?_ ?_)) (ai (aq rfl (by first | rfl | omega | (simp;done) | (simp;omega) | assumption)) (ai (aF (by first | rfl | omega | (simp;done) | (simp;omega) | assumption)) (ai (aF (by first | rfl | omega | (simp;done) | (simp;omega) | assumption)) (ai (aF (by first | rfl | omega | (simp;done) | (simp;omega) | assumption)) (ai (po (by first | rfl | omega | (simp;done) | (simp;omega) | assumption)) am))))))))))))))))))))))))))))))))))))))))))))))))))))))))))))))))),(kQ rfl rfl rfl (by first | rfl | omega | (simp;done) | (simp;omega) | assumption)),(kQ rfl rfl rfl (by first | rfl | omega | (simp;done) | (simp;omega) | assumption)),(kQ rfl rfl rfl (by first | rfl | omega | (simp;done) | (simp;omega) | assumption)),(rV rfl rfl rfl (by first | rfl | omega | (simp;done) | (simp;omega) | assumption) (by first | rfl | omega | (simp;done) | (simp;omega) | assumption)),trivial⟩
    kernel_rfl) ?_
  · exact ⟨hR,rfl,jm hiv hir he2 hD,⟨Nat.le_refl _,Nat.le_refl _,Nat.le_refl _⟩⟩
  intro z hz
  obtain ⟨k,s⟩:=z
  obtain ⟨hz1,hz2,hz3,hz4⟩:=hz
  simp only at hz1 hz2 hz3 hz4 ⊢
  have hl1:=hz4.st
  have hl2:=hz4.ac
  have hl3:=hz4.ak
  have hcn:=hz3.cn
  refine ay fun K8 hK8=> ?_
  refine ay fun K9 hK9=> ?_
  refine an ?_
  refine aj (au _ bI) ?_
  refine aj (aR _ rfl rfl) ?_
  first
    | refine aj (aA _ aa rfl rfl rfl) ?_
    | refine aj (aC _ aa rfl rfl) ?_
  first
    | refine aj (aK _ aa rfl rfl (rfl:_=some (AV.v (.bool _)))) ?_
    | refine aj (aN _ aa rfl rfl (by first | rfl | exact ax _ _ ab | exact aG _ _ ab | assumption | exact ax _ _ ab) rfl) ?_
  refine aj (jK (r:= !s.fin) _ rfl rfl) ?_
  refine aj (au _ dh) ?_
  refine iY (fun hg42=> ?_) (fun hg42=> ?_)
  · skip
    have hf:s.fin=false:=by simpa using hg42
    refine aL rfl rfl (au _ bI) ?_
    refine aL rfl rfl (aR _ rfl rfl) ?_
    first
      | refine aL rfl rfl (aA _ aa rfl rfl rfl) ?_
      | refine aL rfl rfl (aC _ aa rfl rfl) ?_
    first
      | refine aL rfl rfl (aA _ aa rfl rfl rfl) ?_
      | refine aL rfl rfl (aC _ aa rfl rfl) ?_
    first
      | refine aL rfl rfl (aK _ aa rfl rfl gg) ?_
      | refine aL rfl rfl (aN _ aa rfl rfl (by first | rfl | exact ax _ _ ab | exact aG _ _ ab | assumption | exact ax _ _ ab) rfl) ?_
    refine aL rfl rfl (bo (r:=decide ((s.steps:Int) < 500)) _ _ rfl rfl rfl) ?_
    refine aj (bB _ _ _ rfl dh) ?_
    refine ap (hK9 _ ?_)
    clear hK9;try clear K9
    refine bZ rfl (fun hc49=> ?_) (fun hc49=> ?_)
    · skip
      obtain ⟨k,rfl⟩: ∃ q,k=q+1:=⟨k - 1,by omega⟩
      obtain ⟨hp,hd⟩:=hz3.go hf
      obtain ⟨⟨o,n⟩,hx⟩: ∃ x,M.cx.code[s.pc]? =some x:=⟨_,List.getElem?_eq_getElem hp⟩
      obtain ⟨g1,g2,_⟩:=hK.good s.pc ⟨o,n⟩ hx
      rw [Nat.zero_add] at g2
      have g2:o.pops≤D s.pc:=g2
      have hgx:M.cx.code.getD s.pc { op:= .stop }=⟨o,n⟩:=by rw [List.getD_eq_getElem?_getD,hx];rfl
      have hst:di M.cx s=bv M.cx ⟨o,n⟩ { s with pc:=s.pc+1,steps:=s.steps+1,cov:=s.cov++[s.pc] }:=by unfold di;rw [hgx]
      have hat:=iQ hK hz3 hf
      have hsz:=kh (K:=M.cx) hz4
      have hss:=(stepM_steps (K:=M.cx) (s:=s)).1
      rw [dX,if_neg (by rw [hf];decide)] at hz1
      have hop:=nX M { s with pc:=s.pc+1,steps:=s.steps+1,cov:=s.cov++[s.pc] } ⟨o,n⟩ nv g1 ⟨hz3.iv.vl,hz3.iv.rv,hz3.iv.rs,hz3.iv.ac,hz3.iv.sn,hz3.iv.ar⟩ (show o.pops≤s.stack.length by omega) (by simp only;omega) (by simp only;omega) (by simp only;omega) hn
      have hcov:=mn M.cx ⟨o,n⟩ { s with pc:=s.pc+1,steps:=s.steps+1,cov:=s.cov++[s.pc] }
      rw [hst] at hz1 hat hsz hss
      have hmp:dI (jb s.cov) (s.pc:Int) (.agg #[])=jb (bv M.cx ⟨o,n⟩ { s with pc:=s.pc+1,steps:=s.steps+1,cov:=s.cov++[s.pc] }).cov:=by rw [hcov,lf]
      have hia:=mf M.P.c s.pc hp
      rw [show kS M.P.c s.pc=⟨o,n⟩ from hgx] at hia
      have hn24:=oV o
      have hpcl:s.pc < M.P.c.length:=hp
      generalize bv M.cx ⟨o,n⟩ { s with pc:=s.pc+1,steps:=s.steps+1,cov:=s.cov++[s.pc] }=E at hz1 hat hsz hss hop hcov hmp
      refine bw (hK8 _ ?_)
      clear hK8;try clear K8
      refine cw ?_
      refine ay fun K10 hK10=> ?_
      refine an ?_
      refine aj (au _ (rfl:_=AV.mp _)) ?_
      refine aj (au _ bI) ?_
      refine aj (aR _ rfl rfl) ?_
      first
        | refine aj (aA _ aa rfl rfl rfl) ?_
        | refine aj (aC _ aa rfl rfl) ?_
      first
        | refine aj (aK _ aa rfl rfl gg) ?_
        | refine aj (aN _ aa rfl rfl (by first | rfl | exact ax _ _ ab | exact aG _ _ ab | assumption | exact ax _ _ ab) rfl) ?_
      refine aj (bf _ aa rfl (by exact (rfl:_=some []))) ?_
      refine aj (mA _ _ _ Try.underlying72 Try.underlying3 rfl rfl rfl rfl rfl (mX _ _) hmp rfl) ?_
      refine ap (hK10 _ ?_)
      clear hK10;try clear K10
      refine ay fun K11 hK11=> ?_
      refine bP (σ':=bC 108 [(4,_),(8,_),(9,_),(10,_),(11,_)] [((4,0),_),((8,0),_),((10,0),_),((25,0),_),((22,0),_),((60,0),_),((61,0),_),((36,0),_)] [(60,0),(61,0)] []) (by
        refine Le.mkJ [] [] rfl ?_ ?_ trivial trivial ?_
        · exact ⟨(iP rfl),(iP rfl),(iP rfl),(iP rfl),(iM rfl),trivial⟩
        · exact ⟨(bn rfl rfl rfl),(bn rfl rfl rfl),(bn rfl rfl rfl),(bn rfl rfl rfl),(bn rfl rfl rfl),(bn rfl rfl rfl),(bn rfl rfl rfl),(bn rfl rfl rfl),trivial⟩
        kernel_rfl) ?_
      refine de 9 [56,57,58,59,60,61,62,63,12] [(12,0)] ae ae rfl (aQ rfl) (rfl:_=[_,_,_,_,_,_,_,_,_]) (rfl:_=[_]) ?_
      first
        | refine az (_,[]) (fun τ=> aA _ aa rfl rfl rfl) ?_
        | refine az (_,[]) (fun τ=> aC _ aa rfl rfl) ?_
      refine aE (rfl:_=[_]) ?_
      first
        | refine az (_,[]) (fun τ=> aK _ aa rfl rfl et) ?_
        | refine az (_,[]) (fun τ=> aN _ aa rfl rfl (by first | rfl | exact ax _ _ ab | exact aG _ _ ab | assumption | exact ax _ _ ab) rfl) ?_
      refine aE (rfl:_=[_,_]) ?_
      refine az (_,[]) (fun τ=> au _ bI) ?_
      refine aE (rfl:_=[_,_,_]) ?_
      refine az (_,[]) (fun τ=> aR _ rfl rfl) ?_
      refine aE (rfl:_=[_,_,_,_]) ?_
      first
        | refine az (_,[]) (fun τ=> aA _ aa rfl rfl rfl) ?_
        | refine az (_,[]) (fun τ=> aC _ aa rfl rfl) ?_
      refine aE (rfl:_=[_,_,_,_,_]) ?_
      first
        | refine az (_,[]) (fun τ=> aK _ aa rfl rfl gg) ?_
        | refine az (_,[]) (fun τ=> aN _ aa rfl rfl (by first | rfl | exact ax _ _ ab | exact aG _ _ ab | assumption | exact ax _ _ ab) rfl) ?_
      refine aE (rfl:_=[_,_,_,_,_,_]) ?_
      first
        | refine az (_,[]) (fun τ=> cV _ _ aa rfl rfl _ rfl ab (by first | assumption | decide | (simp only [bk,cu,cg,bk,kp,iF];omega) | (simp;done) | (simp;omega) | (simp [ce,iz];omega)) (by first | exact Nat.mul_one _ | rfl | omega)) ?_
        | refine az (_,[]) (fun τ=> cV _ _ aa rfl rfl (Int.toNat _) (Int.toNat_of_nonneg ab).symm ab (by first | assumption | decide | (simp only [bk,cu,cg,bk,kp,iF];omega) | (simp;done) | (simp;omega) | (simp [ce,iz];omega)) (by first | exact Nat.mul_one _ | rfl | omega)) ?_
      refine aE (rfl:_=[_,_,_,_,_,_,_]) ?_
      refine az (_,[]) (fun τ=> bg _ aa rfl (by exact hia) rfl) ?_
      refine aE (rfl:_=[_,_,_,_,_,_,_,_]) ?_
      refine az (_,[((12,0),_)]) (fun τ=> bb (12,0) aa rfl rfl) ?_
      refine aE (rfl:_=[_,_,_,_,_,_,_,_,_]) ?_
      refine cf ⟨rfl,?_⟩
      refine aj (aT _ _ aa rfl rfl rfl rfl (Nat.le_of_ble_eq_true rfl) rfl) ?_
      refine ap (hK11 _ ?_)
      clear hK11;try clear K11
      refine ay fun K12 hK12=> ?_
      refine an ?_
      refine aj (au _ bI) ?_
      refine aj (aR _ rfl rfl) ?_
      first
        | refine aj (aA _ aa rfl rfl rfl) ?_
        | refine aj (aC _ aa rfl rfl) ?_
      first
        | refine aj (aK _ aa rfl rfl gg) ?_
        | refine aj (aN _ aa rfl rfl (by first | rfl | exact ax _ _ ab | exact aG _ _ ab | assumption | exact ax _ _ ab) rfl) ?_
      refine aj (bA (r:=((s.pc+1:Nat):Int)) _ _ rfl rfl ((dH ab).trans ab)) ?_
      refine aj (aR _ rfl rfl) ?_
      first
        | refine aj (aA _ aa rfl rfl rfl) ?_
        | refine aj (aC _ aa rfl rfl) ?_
      refine aj (aT _ _ aa rfl rfl rfl rfl (Nat.le_of_ble_eq_true rfl) rfl) ?_
      refine ap (hK12 _ ?_)
      clear hK12;try clear K12
      refine ay fun K13 hK13=> ?_
      refine bP (σ':=bC 108 [(4,_),(8,_),(9,_),(10,_),(11,_),(12,_)] [((4,0),_),((8,0),_),((10,0),_),((25,0),_),((22,0),_),((60,0),_),((61,0),_),((36,0),_),((12,0),_)] [(60,0),(61,0)] []) (by
        refine Le.mkJ [] [] rfl ?_ ?_ trivial trivial ?_
        · exact ⟨(iP rfl),(iP rfl),(iP rfl),(iP rfl),(iM rfl),(iP rfl),trivial⟩
        · exact ⟨(bn rfl rfl rfl),(bn rfl rfl rfl),(bn rfl rfl rfl),(bn rfl rfl rfl),(bn rfl rfl rfl),(bn rfl rfl rfl),(bn rfl rfl rfl),(bn rfl rfl rfl),(bn rfl rfl rfl),trivial⟩
        kernel_rfl) ?_
      refine an ?_
      refine aj (au _ bI) ?_
      refine aj (aR _ rfl rfl) ?_
      first
        | refine aj (aA _ aa rfl rfl rfl) ?_
        | refine aj (aC _ aa rfl rfl) ?_
      first
        | refine aj (aA _ aa rfl rfl rfl) ?_
        | refine aj (aC _ aa rfl rfl) ?_
      first
        | refine aj (aK _ aa rfl rfl gg) ?_
        | refine aj (aN _ aa rfl rfl (by first | rfl | exact ax _ _ ab | exact aG _ _ ab | assumption | exact ax _ _ ab) rfl) ?_
      refine aj (bA (r:=((s.steps+1:Nat):Int)) _ _ rfl rfl ((dH ab).trans ab)) ?_
      refine aj (aR _ rfl rfl) ?_
      first
        | refine aj (aA _ aa rfl rfl rfl) ?_
        | refine aj (aC _ aa rfl rfl) ?_
      first
        | refine aj (aA _ aa rfl rfl rfl) ?_
        | refine aj (aC _ aa rfl rfl) ?_
      refine aj (aT _ _ aa rfl rfl rfl rfl (Nat.le_of_ble_eq_true rfl) rfl) ?_
      refine ap (hK13 _ ?_)
      clear hK13;try clear K13
      refine bP (σ':=bC 108 [(4,_),(8,_),(9,_),(10,_),(11,_),(12,_)] [((4,0),_),((8,0),_),((10,0),_),((25,0),_),((22,0),_),((60,0),_),((61,0),_),((36,0),_),((12,0),_)] [(60,0),(61,0)] []) (by
        refine Le.mkJ [] [] rfl ?_ ?_ trivial trivial ?_
        · exact ⟨(iP rfl),(iP rfl),(iP rfl),(iP rfl),(iM rfl),(iP rfl),trivial⟩
        · exact ⟨(bn rfl rfl rfl),(bn rfl rfl rfl),(bn rfl rfl rfl),(bn rfl rfl rfl),(bn rfl rfl rfl),(bn rfl rfl rfl),(bn rfl rfl rfl),(bn rfl rfl rfl),(bn rfl rfl rfl),trivial⟩
        kernel_rfl) ?_
      refine de 7 [80,81,82,83,84,85,86] [] ae ae rfl (aQ rfl) (rfl:_=[_,_,_,_,_,_,_]) (rfl:_=[_]) ?_
      first
        | refine az (_,[]) (fun τ=> aA _ aa rfl rfl rfl) ?_
        | refine az (_,[]) (fun τ=> aC _ aa rfl rfl) ?_
      refine aE (rfl:_=[_]) ?_
      first
        | refine az (_,[]) (fun τ=> aK _ aa rfl rfl gg) ?_
        | refine az (_,[]) (fun τ=> aN _ aa rfl rfl (by first | rfl | exact ax _ _ ab | exact aG _ _ ab | assumption | exact ax _ _ ab) rfl) ?_
      refine aE (rfl:_=[_,_]) ?_
      refine az (_,[]) (fun τ=> em _ _ aa rfl rfl rfl o.num rfl ab (by exact (Nat.zero_add _).trans (Nat.mul_one _))) ?_
      refine aE (rfl:_=[_,_,_]) ?_
      refine az (_,[]) (fun τ=> aK _ aa rfl rfl (by exact nl o)) ?_
      refine aE (rfl:_=[_,_,_,_]) ?_
      refine az (_,[]) (fun τ=> au _ bI) ?_
      refine aE (rfl:_=[_,_,_,_,_]) ?_
      first
        | refine az (_,[]) (fun τ=> aA _ aa rfl rfl rfl) ?_
        | refine az (_,[]) (fun τ=> aC _ aa rfl rfl) ?_
      refine aE (rfl:_=[_,_,_,_,_,_]) ?_
      first
        | refine az (_,[]) (fun τ=> aK _ aa rfl rfl gg) ?_
        | refine az (_,[]) (fun τ=> aN _ aa rfl rfl (by first | rfl | exact ax _ _ ab | exact aG _ _ ab | assumption | exact ax _ _ ab) rfl) ?_
      refine aE (rfl:_=[_,_,_,_,_,_,_]) ?_
      refine cf ⟨rfl,?_⟩
      refine bj ((Le.incT (87,0) rfl).trans (Le.incT (87,1) rfl)) ?_
      refine aj (jC rfl aa [((0,9),(25,0)),((1,9),(22,0)),((2,9),(60,0)),((3,9),(61,0)),((2,8),(87,0)),((3,8),(87,1))] ?_ (hop) ⟨⟨rfl,⟨_,rfl, .box ag (ai .sl (ai .v (ai .v (ai .v (ai .v (ai .v (ai .v (ai .v (ai .v (ai .v (ai .v (ai .v (ai .v (ai .v (ai .v (ai .v (ai .v (ai .v (ai .v (ai .v (ai .v (ai .v (ai .v (ai .v (ai .v (ai .v (ai .v (ai .v (ai .v (ai .v (ai .v (ai .v (ai .v (ai .v (ai .v (ai .v (ai .v (ai .v (ai .v (ai .v (ai .v (ai .v (ai .v (ai .sl (ai .v (ai .v (ai .v (ai .v (ai .v (ai .v (ai .v (ai .v (ai .v (ai (.fn rfl am rfl am) (ai (aq (id:=(1,9)) (id':=(22,0)) rfl rfl) (ai (aq (id:=(2,9)) (id':=(60,0)) rfl rfl) (ai .v (ai .v (ai .v (ai (aq (id:=(3,9)) (id':=(61,0)) rfl rfl) (ai .v (ai .v (ai .v (ai .v am))))))))))))))))))))))))))))))))))))))))))))))))))))))))))))))))⟩,rfl⟩,⟨rfl,⟨_,rfl, .rowE rfl⟩,rfl⟩,⟨rfl,⟨_,rfl, .rowE rfl⟩,rfl⟩,⟨rfl,⟨_,rfl, .rowE rfl⟩,rfl⟩,trivial⟩ ⟨rfl,rfl,rfl,rfl,trivial⟩ ⟨rfl,rfl,rfl,rfl,trivial⟩ rfl (by clear hS hg hia hop;cases o <;> kernel_rfl) ae) ?_
      · exact aB (aP rfl) (aB .v (lJ o))
      refine ap ?_
      refine ⟨(k,E),?_,?_,?_⟩
      · exact ⟨hz1,by simp only;omega,hat,hsz⟩
      · skip
        refine Le.mkJ [((60,0),(87,0)),((61,0),(87,1))] [] rfl ?_ ?_ trivial trivial ?_
        · exact ⟨(aP (id:=(4,0)) rfl),(aP (id:=(8,0)) rfl),(aP (id:=(25,0)) rfl),(aP (id:=(10,0)) rfl),(by repeat' (first | exact Lv.v | exact Lv.sl | exact Lv.fp | exact aq (id:=(4,0)) rfl rfl | exact aP (id:=(4,0)) rfl | exact aq (id:=(8,0)) rfl rfl | exact aP (id:=(8,0)) rfl | exact aq (id:=(10,0)) rfl rfl | exact aP (id:=(10,0)) rfl | exact aq (id:=(25,0)) rfl rfl | exact aP (id:=(25,0)) rfl | exact aq (id:=(22,0)) rfl rfl | exact aP (id:=(22,0)) rfl | exact aq (id:=(36,0)) rfl rfl | exact aP (id:=(36,0)) rfl | exact aq (id:=(12,0)) rfl rfl | exact aP (id:=(12,0)) rfl | exact aq (id:=(60,0)) rfl rfl | exact aP (id:=(60,0)) rfl | exact aq (id:=(61,0)) rfl rfl | exact aP (id:=(61,0)) rfl | exact aq rfl rfl | exact aP rfl | exact Lv.mp | exact Lv.nil | exact Lv.z | exact Lv.dead | refine Lv.agg rfl ?_ | refine Lv.fn rfl ?_ rfl ?_ | refine Lv.tup rfl ?_ | refine Lv.ifc ?_ | exact am | refine ai ?_ ?_)),trivial⟩
        · exact ⟨(mq rfl rfl rfl rfl (by repeat' (first | exact Lv.v | exact Lv.sl | exact Lv.fp | exact aq (id:=(4,0)) rfl rfl | exact aP (id:=(4,0)) rfl | exact aq (id:=(8,0)) rfl rfl | exact aP (id:=(8,0)) rfl | exact aq (id:=(10,0)) rfl rfl | exact aP (id:=(10,0)) rfl | exact aq (id:=(25,0)) rfl rfl | exact aP (id:=(25,0)) rfl | exact aq (id:=(22,0)) rfl rfl | exact aP (id:=(22,0)) rfl | exact aq (id:=(36,0)) rfl rfl | exact aP (id:=(36,0)) rfl | exact aq (id:=(12,0)) rfl rfl | exact aP (id:=(12,0)) rfl | exact aq (id:=(60,0)) rfl rfl | exact aP (id:=(60,0)) rfl | exact aq (id:=(61,0)) rfl rfl | exact aP (id:=(61,0)) rfl | exact aq rfl rfl | exact aP rfl | exact Lv.mp | exact Lv.nil | exact Lv.z | exact Lv.dead | refine Lv.agg rfl ?_ | refine Lv.fn rfl ?_ rfl ?_ | refine Lv.tup rfl ?_ | refine Lv.ifc ?_ | exact am | refine ai ?_ ?_))),(mq rfl rfl rfl rfl (by repeat' (first | exact Lv.v | exact Lv.sl | exact Lv.fp | exact aq (id:=(4,0)) rfl rfl | exact aP (id:=(4,0)) rfl | exact aq (id:=(8,0)) rfl rfl | exact aP (id:=(8,0)) rfl | exact aq (id:=(10,0)) rfl rfl | exact aP (id:=(10,0)) rfl | exact aq (id:=(25,0)) rfl rfl | exact aP (id:=(25,0)) rfl | exact aq (id:=(22,0)) rfl rfl | exact aP (id:=(22,0)) rfl | exact aq (id:=(36,0)) rfl rfl | exact aP (id:=(36,0)) rfl | exact aq (id:=(12,0)) rfl rfl | exact aP (id:=(12,0)) rfl | exact aq (id:=(60,0)) rfl rfl | exact aP (id:=(60,0)) rfl | exact aq (id:=(61,0)) rfl rfl | exact aP (id:=(61,0)) rfl | exact aq rfl rfl | exact aP rfl | exact Lv.mp | exact Lv.nil | exact Lv.z | exact Lv.dead | refine Lv.agg rfl ?_ | refine Lv.fn rfl ?_ rfl ?_ | refine Lv.tup rfl ?_ | refine Lv.ifc ?_ | exact am | refine ai ?_ ?_))),(mq rfl rfl rfl rfl (by repeat' (first | exact Lv.v | exact Lv.sl | exact Lv.fp | exact aq (id:=(4,0)) rfl rfl | exact aP (id:=(4,0)) rfl | exact aq (id:=(8,0)) rfl rfl | exact aP (id:=(8,0)) rfl | exact aq (id:=(10,0)) rfl rfl | exact aP (id:=(10,0)) rfl | exact aq (id:=(25,0)) rfl rfl | exact aP (id:=(25,0)) rfl | exact aq (id:=(22,0)) rfl rfl | exact aP (id:=(22,0)) rfl | exact aq (id:=(36,0)) rfl rfl | exact aP (id:=(36,0)) rfl | exact aq (id:=(12,0)) rfl rfl | exact aP (id:=(12,0)) rfl | exact aq (id:=(60,0)) rfl rfl | exact aP (id:=(60,0)) rfl | exact aq (id:=(61,0)) rfl rfl | exact aP (id:=(61,0)) rfl | exact aq rfl rfl | exact aP rfl | exact Lv.mp | exact Lv.nil | exact Lv.z | exact Lv.dead | refine Lv.agg rfl ?_ | refine Lv.fn rfl ?_ rfl ?_ | refine Lv.tup rfl ?_ | refine Lv.ifc ?_ | exact am | refine ai ?_ ?_))),(mq rfl rfl rfl rfl (ai (fy (by first | rfl | omega | (simp;done) | (simp;omega) | assumption) (by first | rfl | omega | (simp;done) | (simp;omega) | assumption)) (ai (aF (by first | rfl | omega | (simp;done) | (simp;omega) | assumption)) (ai (aF (by first | rfl | omega | (simp;done) | (simp;omega) | assumption)) (ai (aF (by first | rfl | omega | (simp;done) | (simp;omega) | assumption)) (ai (aF (by first | rfl | omega | (simp;done) | (simp;omega) | assumption)) (ai (aF (by first | rfl | omega | (simp;done) | (simp;omega) | assumption)) (ai (aF (by first | rfl | omega | (simp;done) | (simp;omega) | assumption)) (ai (aF (by first | rfl | omega | (simp;done) | (simp;omega) | assumption)) (ai (aF (by first | rfl | omega | (simp;done) | (simp;omega) | assumption)) (ai (aF (by first | rfl | omega | (simp;done) | (simp;omega) | assumption)) (ai (aF (by first | rfl | omega | (simp;done) | (simp;omega) | assumption)) (ai (aF (by first | rfl | omega | (simp;done) | (simp;omega) | assumption)) (ai (aF (by first | rfl | omega | (simp;done) | (simp;omega) | assumption)) (ai (aF (by first | rfl | omega | (simp;done) | (simp;omega) | assumption)) (ai (aF (by first | rfl | omega | (simp;done) | (simp;omega) | assumption)) (ai (aF (by first | rfl | omega | (simp;done) | (simp;omega) | assumption)) (ai (aF (by first | rfl | omega | (simp;done) | (simp;omega) | assumption)) (ai (aF (by first | rfl | omega | (simp;done) | (simp;omega) | assumption)) (ai (aF (by first | rfl | omega | (simp;done) | (simp;omega) | assumption)) (ai (aF (by first | rfl | omega | (simp;done) | (simp;omega) | assumption)) (ai (aF (by first | rfl | omega | (simp;done) | (simp;omega) | assumption)) (ai (aF (by first | rfl | omega | (simp;done) | (simp;omega) | assumption)) (ai (aF (by first | rfl | omega | (simp;done) | (simp;omega) | assumption)) (ai (aF (by first | rfl | omega | (simp;done) | (simp;omega) | assumption)) (ai (aF (by first | rfl | omega | (simp;done) | (simp;omega) | assumption)) (ai (aF (by first | rfl | omega | (simp;done) | (simp;omega) | assumption)) (ai (aF (by first | rfl | omega | (simp;done) | (simp;omega) | assumption)) (ai (aF (by first | rfl | omega | (simp;done) | (simp;omega) | assumption)) (ai (aF (by first | rfl | omega | (simp;done) | (simp;omega) | assumption)) (ai (aF (by first | rfl | omega | (simp;done) | (simp;omega) | assumption)) (ai (aF (by first | rfl | omega | (simp;done) | (simp;omega) | assumption)) (ai (aF (by first | rfl | omega | (simp;done) | (simp;omega) | assumption)) (ai (aF (by first | rfl | omega | (simp;done) | (simp;omega) | assumption)) (ai (aF (by first | rfl | omega | (simp;done) | (simp;omega) | assumption)) (ai (aF (by first | rfl | omega | (simp;done) | (simp;omega) | assumption)) (ai (aF (by first | rfl | omega | (simp;done) | (simp;omega) | assumption)) (ai (aF (by first | rfl | omega | (simp;done) | (simp;omega) | assumption)) (ai (aF (by first | rfl | omega | (simp;done) | (simp;omega) | assumption)) (ai (aF (by first | rfl | omega | (simp;done) | (simp;omega) | assumption)) (ai (aF (by first | rfl | omega | (simp;done) | (simp;omega) | assumption)) (ai (aF (by first | rfl | omega | (simp;done) | (simp;omega) | assumption)) (ai (aF (by first | rfl | omega | (simp;done) | (simp;omega) | assumption)) (ai (aF (by first | rfl | omega | (simp;done) | (simp;omega) | assumption)) (ai (fy (by first | rfl | omega | (simp;done) | (simp;omega) | assumption) (by first | rfl | omega | (simp;done) | (simp;omega) | assumption)) (ai (aF (by first | rfl | omega | (simp;done) | (simp;omega) | assumption)) (ai (aF (by first | rfl | omega | (simp;done) | (simp;omega) | assumption)) (ai (aF (by first | rfl | omega | (simp;done) | (simp;omega) | assumption)) (ai (aF (by first | rfl | omega | (simp;done) | (simp;omega) | assumption)) (ai (aF (by first | rfl | omega | (simp;done) | (simp;omega) | assumption)) (ai (aF (by first | rfl | omega | (simp;done) | (simp;omega) | assumption)) (ai (aF (by first | rfl | omega | (simp;done) | (simp;omega) | assumption)) (ai (aF (by first | rfl | omega | (simp;done) | (simp;omega) | assumption)) (ai (aF (by first | rfl | omega | (simp;done) | (simp;omega) | assumption)) (ai (by repeat' (first | exact Lv.v | exact Lv.sl | exact Lv.fp | exact aq (id:=(4,0)) rfl rfl | exact aP (id:=(4,0)) rfl | exact aq (id:=(8,0)) rfl rfl | exact aP (id:=(8,0)) rfl | exact aq (id:=(10,0)) rfl rfl | exact aP (id:=(10,0)) rfl | exact aq (id:=(25,0)) rfl rfl | exact aP (id:=(25,0)) rfl | exact aq (id:=(22,0)) rfl rfl | exact aP (id:=(22,0)) rfl | exact aq (id:=(36,0)) rfl rfl | exact aP (id:=(36,0)) rfl | exact aq (id:=(12,0)) rfl rfl | exact aP (id:=(12,0)) rfl | exact aq (id:=(60,0)) rfl rfl | exact aP (id:=(60,0)) rfl | exact aq (id:=(61,0)) rfl rfl | exact aP (id:=(61,0)) rfl | exact aq rfl rfl | exact aP rfl | exact Lv.mp | exact Lv.nil | exact Lv.z | exact Lv.dead | refine Lv.agg rfl ?_ | refine Lv.fn rfl ?_ rfl ?_ | refine Lv.tup rfl ?_ | refine Lv.ifc ?_ | exact am | refine ai ?_ ?_)) (ai (aq rfl (by first | rfl | omega | (simp;done) | (simp;omega) | assumption)) (ai (aq rfl (by first | rfl | omega | (simp;done) | (simp;omega) | assumption)) (ai (aF (by first | rfl | omega | (simp;done) | (simp;omega) | assumption)) (ai (po (by first | rfl | omega | (simp;done) | (simp;omega) | assumption)) (ai (by repeat' (first | exact Lv.v | exact Lv.sl | exact Lv.fp | exact aq (id:=(4,0)) rfl rfl | exact aP (id:=(4,0)) rfl | exact aq (id:=(8,0)) rfl rfl | exact aP (id:=(8,0)) rfl | exact aq (id:=(10,0)) rfl rfl | exact aP (id:=(10,0)) rfl | exact aq (id:=(25,0)) rfl rfl | exact aP (id:=(25,0)) rfl | exact aq (id:=(22,0)) rfl rfl | exact aP (id:=(22,0)) rfl | exact aq (id:=(36,0)) rfl rfl | exact aP (id:=(36,0)) rfl | exact aq (id:=(12,0)) rfl rfl | exact aP (id:=(12,0)) rfl | exact aq (id:=(60,0)) rfl rfl | exact aP (id:=(60,0)) rfl | exact aq (id:=(61,0)) rfl rfl | exact aP (id:=(61,0)) rfl | exact aq rfl rfl | exact aP rfl | exact Lv.mp | exact Lv.nil | exact Lv.z | exact Lv.dead | refine Lv.agg rfl ?_ | refine Lv.fn rfl ?_ rfl ?_ | refine Lv.tup rfl ?_ | refine Lv.ifc ?_ | exact am | refine ai ?_ ?_)) (ai (aq rfl (by first | rfl | omega | (simp;done) | (simp;omega) | assumption)) (ai (aF (by first | rfl | omega | (simp;done) | (simp;omega) | assumption)) (ai (aF (by first | rfl | omega | (simp;done) | (simp;omega) | assumption)) (ai (aF (by first | rfl | omega | (simp;done) | (simp;omega) | assumption)) (ai (po (by first | rfl | omega | (simp;done) | (simp;omega) | assumption)) am))))))))))))))))))))))))))))))))))))))))))))))))))))))))))))))))),(kQ rfl rfl rfl (by first | rfl | omega | (simp;done) | (simp;omega) | assumption)),(kQ rfl rfl rfl (by first | rfl | omega | (simp;done) | (simp;omega) | assumption)),(kQ rfl rfl rfl (by first | rfl | omega | (simp;done) | (simp;omega) | assumption)),(rV rfl rfl rfl (by first | rfl | omega | (simp;done) | (simp;omega) | assumption) (by first | rfl | omega | (simp;done) | (simp;omega) | assumption)),trivial⟩
        kernel_rfl
      simp only;omega
    obtain rfl:k=0:=by omega
    obtain rfl:R=s:=hz1
    refine eP ?_
    refine id (hK7 _ ?_)
    clear hK7;try clear K7
    refine ay fun K14 hK14=> ?_
    refine an ?_
    refine aj (au _ bI) ?_
    refine aj (au _ bI) ?_
    refine aj (aR _ rfl rfl) ?_
    first
      | refine aj (aA _ aa rfl rfl rfl) ?_
      | refine aj (aC _ aa rfl rfl) ?_
    first
      | refine aj (aK _ aa rfl rfl (rfl:_=some (AV.v (.bool _)))) ?_
      | refine aj (aN _ aa rfl rfl (by first | rfl | exact ax _ _ ab | exact aG _ _ ab | assumption | exact ax _ _ ab) rfl) ?_
    refine aj (jK (r:= !R.fin) _ rfl rfl) ?_
    refine aj (aR _ rfl rfl) ?_
    first
      | refine aj (aA _ aa rfl rfl rfl) ?_
      | refine aj (aC _ aa rfl rfl) ?_
    first
      | refine aj (aA _ aa rfl rfl rfl) ?_
      | refine aj (aC _ aa rfl rfl) ?_
    refine aj (aT _ _ aa rfl rfl rfl rfl (Nat.le_of_ble_eq_true rfl) rfl) ?_
    refine ap (hK14 _ ?_)
    clear hK14;try clear K14
    refine ay fun K15 hK15=> ?_
    refine bP (σ':=bC 108 [(8,_),(9,_),(11,_)] [((8,0),_),((25,0),_),((22,0),_),((60,0),_),((61,0),_),((36,0),_)] [(60,0),(61,0)] []) (by
      refine Le.mkJ [] [] rfl ?_ ?_ trivial trivial ?_
      · exact ⟨(iP rfl),(iP rfl),(iM rfl),trivial⟩
      · exact ⟨(bn rfl rfl rfl),(bn rfl rfl rfl),(bn rfl rfl rfl),(bn rfl rfl rfl),(bn rfl rfl rfl),(bn rfl rfl rfl),trivial⟩
      kernel_rfl) ?_
    refine an ?_
    refine aj (au _ bI) ?_
    refine aj (au _ (rfl:_=AV.mp _)) ?_
    refine aj (dW aa [((0,9),(36,0)),((1,8),(99,0))] ?_ (gM _ _) ⟨⟨rfl,⟨_,rfl, .mp⟩,rfl⟩,trivial⟩ ⟨rfl,rfl,trivial⟩ ⟨rfl,rfl,trivial⟩ rfl rfl ae ae) ?_
    · exact aB (lQ rfl) aD
    refine aj (dW aa [((0,9),(36,0)),((1,9),(99,0))] ?_ (hS (jb R.cov) (by have:=kq R.cov;omega) (iC _) (lb _) (me _ fun i hi=> Nat.le_trans (Nat.le_of_lt (hz3.cl i hi)) hc)) ⟨⟨rfl,⟨_,rfl, .mp⟩,rfl⟩,⟨rfl,⟨_,rfl, .box ag (ai (lQ (id:=(0,9)) (id':=(36,0)) rfl) am)⟩,rfl⟩,trivial⟩ ⟨rfl,rfl,trivial⟩ ⟨rfl,rfl,trivial⟩ rfl rfl ae ae) ?_
    · repeat' (first | exact aD | refine aB ?_ ?_ | exact Lv.v | exact aF (by assumption) | exact aF ab | exact Lv.sl | exact Lv.fp | exact Lv.nil | exact aq rfl rfl | exact aP rfl | refine Lv.agg rfl ?_ | refine Lv.fn rfl ?_ rfl ?_ | refine Lv.ifc ?_ | exact am | refine ai ?_ ?_)
    refine aj (aR _ rfl rfl) ?_
    first
      | refine aj (aA _ aa rfl rfl rfl) ?_
      | refine aj (aC _ aa rfl rfl) ?_
    first
      | refine aj (aA _ aa rfl rfl rfl) ?_
      | refine aj (aC _ aa rfl rfl) ?_
    refine aj (aT _ _ aa rfl rfl rfl rfl (Nat.le_of_ble_eq_true rfl) rfl) ?_
    refine ap (hK15 _ ?_)
    clear hK15;try clear K15
    refine ay fun K16 hK16=> ?_
    refine an ?_
    refine aj (au _ bI) ?_
    refine aj (aR _ rfl rfl) ?_
    first
      | refine aj (aA _ aa rfl rfl rfl) ?_
      | refine aj (aC _ aa rfl rfl) ?_
    first
      | refine aj (bl _ aa rfl rfl rfl rfl) ?_
      | refine aj (bm _ aa rfl rfl (by first | rfl | assumption) rfl) ?_
      | refine aj (bg _ aa rfl (by first | rfl | assumption) rfl) ?_
    refine aj (aT _ _ aa rfl rfl rfl rfl (Nat.le_of_ble_eq_true rfl) rfl) ?_
    refine ap (hK16 _ ?_)
    clear hK16;try clear K16
    refine br ?_
    exact dk (.inr rfl) rfl (.cellA aa rfl rfl rfl) (Le.outI [((2,8),(60,0))] [(22,0)] (.agg rfl (ai (lc rfl rfl (by simp) rfl) (ai (aq rfl rfl) (ai .v (ai .v (ai .sl am)))))) rfl rfl rfl ⟨rfl,trivial⟩ ⟨⟨rfl,⟨_,rfl, .rowE rfl⟩,rfl⟩,trivial⟩ trivial rfl)
  have hf:s.fin=true:=by simpa using hg42
  obtain rfl:R=s:=hz1.trans (mG hf k)
  refine bz rfl rfl ah ?_
  refine bz rfl rfl ah ?_
  refine bz rfl rfl ah ?_
  refine bz rfl rfl ah ?_
  refine bz rfl rfl ah ?_
  refine bz rfl rfl ah ?_
  refine aj (bB _ _ _ rfl dh) ?_
  refine ap (hK9 _ ?_)
  clear hK9;try clear K9
  refine eE rfl rfl ?_
  refine eP ?_
  refine id (hK7 _ ?_)
  clear hK7;try clear K7
  refine ay fun K17 hK17=> ?_
  refine an ?_
  refine aj (au _ bI) ?_
  refine aj (au _ bI) ?_
  refine aj (aR _ rfl rfl) ?_
  first
    | refine aj (aA _ aa rfl rfl rfl) ?_
    | refine aj (aC _ aa rfl rfl) ?_
  first
    | refine aj (aK _ aa rfl rfl (rfl:_=some (AV.v (.bool _)))) ?_
    | refine aj (aN _ aa rfl rfl (by first | rfl | exact ax _ _ ab | exact aG _ _ ab | assumption | exact ax _ _ ab) rfl) ?_
  refine aj (jK (r:= !R.fin) _ rfl rfl) ?_
  refine aj (aR _ rfl rfl) ?_
  first
    | refine aj (aA _ aa rfl rfl rfl) ?_
    | refine aj (aC _ aa rfl rfl) ?_
  first
    | refine aj (aA _ aa rfl rfl rfl) ?_
    | refine aj (aC _ aa rfl rfl) ?_
  refine aj (aT _ _ aa rfl rfl rfl rfl (Nat.le_of_ble_eq_true rfl) rfl) ?_
  refine ap (hK17 _ ?_)
  clear hK17;try clear K17
  refine ay fun K18 hK18=> ?_
  refine bP (σ':=bC 108 [(8,_),(9,_),(11,_)] [((8,0),_),((25,0),_),((22,0),_),((60,0),_),((61,0),_),((36,0),_)] [(60,0),(61,0)] []) (by
    refine Le.mkJ [] [] rfl ?_ ?_ trivial trivial ?_
    · exact ⟨(iP rfl),(iP rfl),(iM rfl),trivial⟩
    · exact ⟨(bn rfl rfl rfl),(bn rfl rfl rfl),(bn rfl rfl rfl),(bn rfl rfl rfl),(bn rfl rfl rfl),(bn rfl rfl rfl),trivial⟩
    kernel_rfl) ?_
  refine an ?_
  refine aj (au _ bI) ?_
  refine aj (au _ (rfl:_=AV.mp _)) ?_
  refine aj (dW aa [((0,9),(36,0)),((1,8),(99,0))] ?_ (gM _ _) ⟨⟨rfl,⟨_,rfl, .mp⟩,rfl⟩,trivial⟩ ⟨rfl,rfl,trivial⟩ ⟨rfl,rfl,trivial⟩ rfl rfl ae ae) ?_
  · exact aB (lQ rfl) aD
  refine aj (dW aa [((0,9),(36,0)),((1,9),(99,0))] ?_ (hS (jb R.cov) (by have:=kq R.cov;omega) (iC _) (lb _) (me _ fun i hi=> Nat.le_trans (Nat.le_of_lt (hz3.cl i hi)) hc)) ⟨⟨rfl,⟨_,rfl, .mp⟩,rfl⟩,⟨rfl,⟨_,rfl, .box ag (ai (lQ (id:=(0,9)) (id':=(36,0)) rfl) am)⟩,rfl⟩,trivial⟩ ⟨rfl,rfl,trivial⟩ ⟨rfl,rfl,trivial⟩ rfl rfl ae ae) ?_
  · repeat' (first | exact aD | refine aB ?_ ?_ | exact Lv.v | exact aF (by assumption) | exact aF ab | exact Lv.sl | exact Lv.fp | exact Lv.nil | exact aq rfl rfl | exact aP rfl | refine Lv.agg rfl ?_ | refine Lv.fn rfl ?_ rfl ?_ | refine Lv.ifc ?_ | exact am | refine ai ?_ ?_)
  refine aj (aR _ rfl rfl) ?_
  first
    | refine aj (aA _ aa rfl rfl rfl) ?_
    | refine aj (aC _ aa rfl rfl) ?_
  first
    | refine aj (aA _ aa rfl rfl rfl) ?_
    | refine aj (aC _ aa rfl rfl) ?_
  refine aj (aT _ _ aa rfl rfl rfl rfl (Nat.le_of_ble_eq_true rfl) rfl) ?_
  refine ap (hK18 _ ?_)
  clear hK18;try clear K18
  refine ay fun K19 hK19=> ?_
  refine an ?_
  refine aj (au _ bI) ?_
  refine aj (aR _ rfl rfl) ?_
  first
    | refine aj (aA _ aa rfl rfl rfl) ?_
    | refine aj (aC _ aa rfl rfl) ?_
  first
    | refine aj (bl _ aa rfl rfl rfl rfl) ?_
    | refine aj (bm _ aa rfl rfl (by first | rfl | assumption) rfl) ?_
    | refine aj (bg _ aa rfl (by first | rfl | assumption) rfl) ?_
  refine aj (aT _ _ aa rfl rfl rfl rfl (Nat.le_of_ble_eq_true rfl) rfl) ?_
  refine ap (hK19 _ ?_)
  clear hK19;try clear K19
  refine br ?_
  exact dk (.inr rfl) rfl (.cellA aa rfl rfl rfl) (Le.outI [((2,8),(60,0))] [(22,0)] (.agg rfl (ai (lc rfl rfl (by simp) rfl) (ai (aq rfl rfl) (ai .v (ai .v (ai .sl am)))))) rfl rfl rfl ⟨rfl,trivial⟩ ⟨⟨rfl,⟨_,rfl, .rowE rfl⟩,rfl⟩,trivial⟩ trivial rfl)

abbrev nG:Prop:= ∀ (M:List (Int×Value)) (g b:Nat) (w:World),M.length≤1000000→(M.map (·.1)).Nodup→(∀ p∈M,0≤p.1∧p.1≤1000000)→g < w.heap.size→w.cell? ⟨g,0,none⟩=some (.map (some b))→w.heap[b]? =some (.map (bM M).toArray M.length)→
  Calls Try.prog 28 #[.func (.func 65) #[] #[.pointer (some ⟨g,0,none⟩)]] w fun e w'=> ∃ (v:Value) (ss:List Int),e= .returned v∧ss.Perm (M.map (·.1))∧
    w'.ownsRow w.heap.size 3 1 v ss.length ((ss.mergeSort (fun x y=> decide (x≤y))).map fun x=> Value.int .i64 x)∧Below w.heap.size w w'
theorem ld {l m:List Int} (h:l.Perm m):l.mergeSort (fun x y=> decide (x≤y))=m.mergeSort (fun x y=> decide (x≤y)):=by
  have tr: ∀ a b c:Int,decide (a≤b)=true→decide (b≤c)=true→decide (a≤c)=true:=fun a b c h1 h2=> by
    simp only [decide_eq_true_eq] at*;omega
  have tt: ∀ a b:Int,(decide (a≤b) || decide (b≤a))=true:=fun a b=> by simp only [Bool.or_eq_true,decide_eq_true_eq];omega
  have p1:=List.pairwise_mergeSort (le:=fun x y:Int=> decide (x≤y)) tr tt l
  have p2:=List.pairwise_mergeSort (le:=fun x y:Int=> decide (x≤y)) tr tt m
  exact ((List.mergeSort_perm l _).trans (h.trans (List.mergeSort_perm m _).symm)).eq_of_pairwise (le:=fun x y:Int=> decide (x≤y)=true) (fun a b _ _ h1 h2=> by simp only [decide_eq_true_eq] at h1 h2;omega) p1 p2
theorem ll (hC:nG):lR:=by
  intro M hlen hval hnd hrg K ι S vs w hw0 hrd R
  obtain ⟨B1,g1,b1,b2,b3,b4⟩:=R.ob (1,9) (.box 72 [.mp (0,9)]) rfl
  obtain ⟨B0,g0,c1,c2,c3⟩:=R.ob (0,9) (.mp (bM M) M.length) rfl
  have hnt:vs.size=1:=R.nt
  have hf:Rep ι S w (.fn (.func 65) [] [.ptr (1,9) 0]) (vs.getD 0 undef):=R.fr 0 (by show 0 < 1;omega)
  have hvs:vs= #[.func (.func 65) #[] #[.pointer (some ⟨g1,0,none⟩)]]:=by
    generalize hx:vs.getD 0 undef=x at hf
    have hvx:vs= #[x]:=by
      apply Array.ext
      · rw [hnt];rfl
      intro i h1 h2
      have:i=0:=by omega
      subst this
      simp only [Array.getD_eq_getD_getElem?,Array.getElem?_eq_getElem h1,Option.getD_some] at hx
      rw [hx];rfl
    rw [hvx]
    cases hf with
    | fn a1 a2 a3 a4=>
    rename_i us ws
    obtain rfl:us= #[]:=Array.size_eq_zero_iff.1 (by simpa using a1)
    have h0:=a4 0 (.ptr (1,9) 0) rfl
    have hws:ws.size=1:=a2
    generalize hy:ws.getD 0 undef=y at h0
    have hwy:ws= #[y]:=by
      apply Array.ext
      · rw [hws];rfl
      intro i h1 h2
      have:i=0:=by omega
      subst this
      simp only [Array.getD_eq_getD_getElem?,Array.getElem?_eq_getElem h1,Option.getD_some] at hy
      rw [hy];rfl
    rw [hwy]
    cases h0 with
    | ptr h _=>
    obtain ⟨g',hg',rfl⟩:=h B1 b1
    rw [b2] at hg'
    obtain rfl:=Option.some.inj hg'
    rfl
  have hbox: ∃ cur e,w.heap[g1]? =some (.cells cur e (0,0))∧cur[0]? =some (.map (some g0)):=by
    rcases b4 with ⟨d1,_⟩ | ⟨g,cur,d1,d2,d3,d4,d5⟩
    · rw [b2] at d1;cases d1
    rw [b2] at d1
    obtain rfl:=Option.some.inj d1
    obtain ⟨u,u1,u2,u3⟩:=d5 0 (by simp)
    have:=u3 (.mp (0,9)) rfl
    cases this with
    | mp h _=>
    obtain ⟨g',hg',rfl⟩:=h B0 c1
    rw [c2] at hg'
    obtain rfl:=Option.some.inj hg'
    exact ⟨cur,_,d2,u1⟩
  obtain ⟨cur1,e1,hh1,hc1⟩:=hbox
  have hlt:g1 < w.heap.size:=(Array.getElem?_eq_some_iff.1 hh1).1
  subst hvs
  refine (hC M g1 g0 w hlen hnd hrg hlt (bS hh1 hc1) c3).mono ?_
  rintro e w' ⟨v,ss,rfl,hp,hrow,hbl⟩
  have hsrt:ss.mergeSort (fun x y=> decide (x≤y))=fO M:=ld hp
  have hsl:ss.length=(fO M).length:=by rw [← hsrt,List.length_mergeSort]
  rw [hsrt,hsl] at hrow
  have fin: ∀ (S':Nat→Prop),(∀ g,S g→S' g)→(∀ g,S' g→S g∨w.heap.size≤g)→(∀ g,S' g→g < w'.heap.size)→Rd S' w' (.sl (fO M).length (ce (fO M))) v→ ∃ v2 ι' S',Ending.returned v=Ending.returned v2∧RelI K ι' S' (aS (.sl (fO M).length (ce (fO M))) [((0,9), .mp (bM M) M.length),((1,9), .box 72 [.mp (0,9)])] [(0,9),(1,9)] [(0,9),(1,9)]) ⟨#[v2],[]⟩ w':=by
    intro S' g1 g2 g3 hrd
    have R3:=R.gen (ι':=ι) (S':=S') (w':=w') (ob':=(aZ [.fn (.func 65) [] [.ptr (1,9) 0]] [((0,9), .mp (bM M) M.length),((1,9), .box 72 [.mp (0,9)])]).ob) (inc':=(aZ [.fn (.func 65) [] [.ptr (1,9) 0]] [((0,9), .mp (bM M) M.length),((1,9), .box 72 [.mp (0,9)])]).inc) (fun _=> False) (.of_below hbl) (fun _ _=> rfl) (fun _ _=> rfl) (fun _ _=> rfl) (fun _ h=> h) g1
      (fun g h=> by rcases g2 g h with h | h; · exact .inl h
                    exact .inr (.inl h)) g3
      (fun _ _ h=> h.elim) (fun _ _ h=> h.elim) (fun _ _ h=> h.elim) (fun _ _ _ _ _ h=> h.elim) (fun _ _ _ h=> h.elim) (fun _ _ _ h=> h.elim)
    refine ⟨v,ι,S',rfl,R3.keeps,R3.S0,R3.Slt,rfl,R3.df,fun t ht=> ?_,fun t id hh=> ?_,R3.clo,R3.ob,R3.dom,R3.inj,R3.sep,R3.pin,R3.pf⟩
    · obtain rfl:t=0:=by have:t < 1:=ht;omega
      exact .sl hrd
    cases t with
    | zero=> exact absurd hh ik
    | succ t=> exact absurd hh (fun h=> by cases h)
  rcases hrow.2 with ⟨hv,hz⟩ | ⟨g,cap,cur,hv,hbase,hg,r1,r2,r3,r4⟩
  · subst hv
    have hn:fO M=[]:=List.eq_nil_of_length_eq_zero hz
    refine fin S (fun _ h=> h) (fun _ h=> .inl h) (fun g h=> Nat.lt_of_lt_of_le (R.Slt g h) hbl.size) ?_
    rw [hn]
    exact .sl0 (Nat.le_refl _) (by unfold maxLen;omega) fun _=> ⟨rfl,rfl⟩
  subst hv
  refine fin (fun k=> S k∨k=g) (fun _ h=> .inl h) (fun k h=> ?_) (fun k h=> ?_) ?_
  · rcases h with h | h
    · exact .inl h
    exact .inr (by rw [h];exact hbase)
  · rcases h with h | h
    · exact Nat.lt_of_lt_of_le (R.Slt k h) hbl.size
    rw [h];exact (Array.getElem?_eq_some_iff.1 hg).1
  have key: ∀ (j:Nat) (p:PV),(ce (fO M))[j]? =some p→ ∃ x:Int,p= .v (.int .i64 x)∧cur[j]? =some (.int .i64 x):=by
    intro j p hj
    rw [ce,List.getElem?_map] at hj
    obtain ⟨x,hx,rfl⟩:=Option.map_eq_some_iff.1 hj
    refine ⟨x,rfl,?_⟩
    have h5:(cur.toList.take ((fO M).length*1))[j]? =some (.int .i64 x):=by rw [r4,List.getElem?_map,hx];rfl
    rw [List.getElem?_take] at h5
    split at h5
    · simpa using h5
    cases h5
  refine Rd.sl (o:=0) (fun j=> cur.getD j undef) r1 r2 (.mk (.inr rfl) hg) (fun j p hj=> ?_) (fun j p hj=> ?_)
  · obtain ⟨x,_,hu⟩:=key j p hj
    simp only [Nat.zero_add,Array.getD_eq_getD_getElem?,hu,Option.getD_some]
    exact bS hg hu
  obtain ⟨x,rfl,hu⟩:=key j p hj
  simp only [Array.getD_eq_getD_getElem?,hu,Option.getD_some]
  exact .v rfl
end Go.Proofs.Ytmjnackchaahbaa
