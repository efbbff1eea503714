/- part 13 -/
import Derived.Shelf.SlIterI.Nil
import Derived.Shelf.SortM.Plain
import Derived.Shelf.SortM.SortNone
import Derived.Ground.GgzProg
import Derived.Ground.SlgmProg
import Derived.Test.YtmjnackchaahbaaGreatNvZ12
set_option linter.unusedSimpArgs false
set_option linter.unusedVariables false
set_option maxHeartbeats 2000000
namespace Go.Proofs.YtmjnackchaahbaaGreat
open Go.RowKit

theorem CV {x y:Int} (hx:Rg x) (hy:Rg y): -9223372036854775808≤x*y∧x*y≤9223372036854775807:=by
 unfold Rg at hx hy
 have h1:(x*y).natAbs≤2147483647*2147483647:=by
  rw [Int.natAbs_mul]
  exact Nat.mul_le_mul ab ab
 omega
theorem yi {x y:Int} (hx:Rg x): -2147483647≤x.tdiv y∧x.tdiv y≤2147483647:=by
 unfold Rg at hx
 have h1:(x.tdiv y).natAbs≤x.natAbs:=by
  rw [Int.natAbs_tdiv]
  exact Nat.div_le_self _ _
 omega
section
variable (M:Mk) (s:Ms) (dr se:Int)
theorem AX (n:Int) (hs:s.stack.length≤90000) (h0:0 < s.stack.length) (hk:max 1 (min (s.top 0) 4)=1):
  Spec Tryz.prog 134 (aL [.ptr (0,9) 0, .v (.int .i64 n)] (mN M s (s.asked.length:Int) se)) (aO (.tup []) (mn M { s with stack:=s.pop 1++[0] } (s.asked.length:Int) se (2,8) (3,8) (5,8)) [(0,9),(1,9),(2,8),(3,8),(4,9),(5,8),(6,9)] [(0,9),(1,9),(4,9),(6,9)]):=by
 rw [show (0:Int)=kR 0 from ah]
 refine Spec.ofNI Tryz.func134 rfl Tryz.ntmps134 rfl ?_
 refine aD (dW rfl (dW rfl (bA ((Le.incT (6,1) rfl).trans (Le.incT (6,0) rfl)) ?_)))
 refine aj (aV aa [((3,8),(6,0)),((5,8),(6,1))] ar (Jf M s se ab h0 hk) ob tr tr rfl ae ae) ?_
 refine bA (Le.incT (7,0) rfl) ?_
 refine aj (aV aa [((3,9),(6,0)),((5,9),(6,1)),((3,8),(7,0))] ar (eh M { s with stack:=s.pop 1 } (s.asked.length:Int) se 0 (by have:=bD s 1;simp only;omega)) ob tr tr rfl ae ae) ?_
 exact ay (mR [((2,8),(2,9)),((3,8),(7,0)),((5,8),(6,1))])
theorem Cb (n:Int) (hs:s.stack.length≤90000) (h0:0 < s.stack.length) (hq:s.asked.length≤80000) (hn:CU M) {k:Int} (hk:max 1 (min (s.top 0) 4)=k) (hk1:k≠1):
  Spec Tryz.prog 134 (aL [.ptr (0,9) 0, .v (.int .i64 n)] (mN M s (s.asked.length:Int) se)) (aO (.tup []) (mn M { s with stack:=s.pop 1++[el M.ans s.asked.length k],asked:=s.asked++[k] } ((s.asked++[k]).length:Int) se (2,8) (3,8) (5,8)) [(0,9),(1,9),(2,8),(3,8),(4,9),(5,8),(6,9)] [(0,9),(1,9),(4,9),(6,9)]):=by
 have ha:el M.ans s.asked.length k=kR (el M.ans s.asked.length k):=by
  have h1:=Int.emod_nonneg (M.ans.getD s.asked.length 0) (show k≠0 by omega)
  have h2:=Int.emod_lt_of_pos (M.ans.getD s.asked.length 0) (show 0 < k by omega)
  unfold el kR;omega
 rw [ha]
 refine Spec.ofNI Tryz.func134 rfl Tryz.ntmps134 rfl ?_
 refine aD (dW rfl (dW rfl (bA ((Le.incT (6,1) rfl).trans (Le.incT (6,0) rfl)) ?_)))
 refine aj (aV aa [((3,8),(6,0)),((5,8),(6,1))] ar (In M s se ab h0 ab hn hk hk1) ob tr tr rfl ae ae) ?_
 refine bA (Le.incT (7,0) rfl) ?_
 refine aj (aV aa [((3,9),(6,0)),((5,9),(6,1)),((3,8),(7,0))] ar (eh M { s with stack:=s.pop 1,asked:=s.asked++[k] } ((s.asked++[k]).length:Int) se (el M.ans s.asked.length k) (by have:=bD s 1;simp only;omega)) ob tr tr rfl ae ae) ?_
 exact ay (mR [((2,8),(2,9)),((3,8),(7,0)),((5,8),(6,1))])
end
theorem Kh {y x:Int} (hy:Rg y) (hx:Rg x):Spec Tryz.prog 137 (aI [.v (.int .i64 y), .v (.int .i64 x)] []) (aA (.v (.int .i64 (y+x))) []):=by
 refine Spec.ofN Tryz.func137 rfl Tryz.ntmps137 rfl ?_
 refine go 6 ?_
 refine aj (eI (r:=y+x) _ _ rfl rfl (bQ (by unfold Rg at hy hx;omega))) ?_
 exact cp rfl (am (au (eb rfl rfl)))
theorem Kt {y x:Int} (hy:Rg y) (hx:Rg x):Spec Tryz.prog 138 (aI [.v (.int .i64 y), .v (.int .i64 x)] []) (aA (.v (.int .i64 (y - x))) []):=by
 refine Spec.ofN Tryz.func138 rfl Tryz.ntmps138 rfl ?_
 refine go 6 ?_
 refine aj (bp (r:=y - x) _ _ rfl rfl (bQ (by unfold Rg at hy hx;omega))) ?_
 exact cp rfl (am (au (eb rfl rfl)))
theorem Kq {y x:Int} (hy:Rg y) (hx:Rg x):Spec Tryz.prog 139 (aI [.v (.int .i64 y), .v (.int .i64 x)] []) (aA (.v (.int .i64 (y*x))) []):=by
 refine Spec.ofN Tryz.func139 rfl Tryz.ntmps139 rfl ?_
 refine go 6 ?_
 refine aj (wY (r:=y*x) _ _ rfl rfl (bQ (CV hy hx))) ?_
 exact cp rfl (am (au (eb rfl rfl)))
theorem Jz {y x:Int} (hy:Rg y):Spec Tryz.prog 140 (aI [.v (.int .i64 y), .v (.int .i64 x)] []) (aA (.v (.int .i64 (if x=0 then 0 else y.tdiv x))) []):=by
 have hd:=yi (y:=x) hy
 by_cases h0:x=0
 ·rw [if_pos h0]
  refine Spec.ofN Tryz.func140 rfl Tryz.ntmps140 rfl ?_
  refine go 6 ?_
  refine aj (bb _ _ rfl rfl rfl) (am (fX rfl (decide_eq_true h0) ?_))
  exact aG (cp rfl (am (au (eb rfl rfl))))
 rw [if_neg h0]
 refine Spec.ofN Tryz.func140 rfl Tryz.ntmps140 rfl ?_
 refine go 6 ?_
 refine aj (bb _ _ rfl rfl rfl) (am (cP rfl (decide_eq_false h0) ?_))
 refine cO (aG (bV rfl (bV rfl (aj (dP (r:=y.tdiv x) _ _ rfl rfl h0 (bQ ab)) ?_))))
 exact cp rfl (am (au (eb rfl rfl)))
theorem NS (y x:Int):Spec Tryz.prog 143 (aI [.v (.int .i64 y), .v (.int .i64 x)] []) (aA (.v (.bool (decide (y < x)))) []):=by
 refine Spec.ofN Tryz.func143 rfl Tryz.ntmps143 rfl ?_
 refine go 9 ?_
 exact au (eb rfl rfl)
theorem NW (y x:Int):Spec Tryz.prog 144 (aI [.v (.int .i64 y), .v (.int .i64 x)] []) (aA (.v (.bool (decide (y≤x)))) []):=by
 refine Spec.ofN Tryz.func144 rfl Tryz.ntmps144 rfl ?_
 refine go 9 ?_
 exact au (eb rfl rfl)
theorem NP (y x:Int):Spec Tryz.prog 145 (aI [.v (.int .i64 y), .v (.int .i64 x)] []) (aA (.v (.bool (decide (y=x)))) []):=by
 refine Spec.ofN Tryz.func145 rfl Tryz.ntmps145 rfl ?_
 refine go 6 ?_
 exact aj (bb _ _ rfl rfl rfl) (gn rfl (am (au (eb rfl rfl))))
theorem Ca {f:FuncId} [bU Tryz.prog f] {y x:Int} {b:Bool} (hg:Spec Tryz.prog f (aI [.v (.int .i64 y), .v (.int .i64 x)] []) (aA (.v (.bool b)) [])):Spec Tryz.prog 190 (aI [.v (.int .i64 y), .v (.int .i64 x), .fp 0 [.fn (.func f) [] []]] []) (aA (.v (.int .i64 (flag b))) []):=by
 cases b
 ·refine Spec.ofN Tryz.func190 rfl Tryz.ntmps190 rfl ?_
  refine aG (cp rfl (am (aE (aG (aj (bl _ aa rfl ag rfl) ?_)))))
  refine bV rfl (bV rfl (aj (lL rfl aa al (hg) rfl rfl) ?_))
  refine go 6 ?_
  exact au (eb rfl rfl)
 refine Spec.ofN Tryz.func190 rfl Tryz.ntmps190 rfl ?_
 refine aG (cp rfl (am (aE (aG (aj (bl _ aa rfl ag rfl) ?_)))))
 refine bV rfl (bV rfl (aj (lL rfl aa al (hg) rfl rfl) ?_))
 refine go 5 ?_
 exact au (eb rfl rfl)
theorem mW (g:FuncId):Spec Tryz.prog 136 (aI [.fn (.func g) [] []] []) (aA (.fn (.func 189) [] [.fp 0 [.fn (.func g) [] []]]) []):=by
 refine Spec.ofN Tryz.func136 rfl Tryz.ntmps136 rfl ?_
 refine go 5 ?_
 refine aj (lf _ _ (rfl:_=[]) (rfl:_=[AV.ptr _ _])) ?_
 refine go 2 ?_
 exact au (cq (.inr rfl) rfl (.tmp IQ) (Le.out [] [(1,0)] (.fn rfl aK rfl (ai (Lv.frzP rfl rfl rfl) aK)) rfl rfl rfl tr trivial))
theorem zt (g:FuncId) (f:FuncId):Spec Tryz.prog 136 (aI [.fn (.func g) [] [.fp 0 [.fn (.func f) [] []]]] []) (aA (.fn (.func 189) [] [.fp 0 [.fn (.func g) [] [.ptr 0 [.fn (.func f) [] []]]]]) []):=by
 refine Spec.ofN Tryz.func136 rfl Tryz.ntmps136 rfl ?_
 refine go 5 ?_
 refine aj (lf _ _ (rfl:_=[]) (rfl:_=[AV.ptr _ _])) ?_
 refine go 2 ?_
 exact au (cq (.inr rfl) rfl (.tmp IQ) (Le.out [] [(1,0)] (.fn rfl aK rfl (ai (Lv.frzP rfl rfl rfl) aK)) rfl rfl rfl tr trivial))
theorem pZ (f:FuncId):Spec Tryz.prog 142 (aI [.fn (.func f) [] []] []) (aA (.fn (.func 189) [] [.fp 0 [.fn (.func 190) [] [.ptr 0 [.fn (.func f) [] []]]]]) []):=by
 have hb:=zt 190 f
 refine Spec.ofN Tryz.func142 rfl Tryz.ntmps142 rfl ?_
 refine go 4 ?_
 refine aE ?_
 refine aB (Le.frzPt 1 rfl rfl rfl rfl) ?_
 refine aD (aj (lf _ _ (rfl:_=[]) (rfl:_=[AV.fp _ _])) ?_)
 refine aj (ap aa al (hb) rfl rfl) ?_
 refine go 2 ?_
 exact au (cq (.inr rfl) rfl (.tmp IQ) (Le.out [] [] (.fn rfl aK rfl lz) rfl rfl rfl trivial trivial))
end Go.Proofs.YtmjnackchaahbaaGreat

set_option maxHeartbeats 2000000
namespace Go.Proofs.YtmjnackchaahbaaGreat
open Go.RowKit

def Ll:Opc→FuncId
 | .push=> 127
 | .var=> 128
 | .setVar=> 130
 | .name=> 133
 | .draw=> 134
 | .add=> 189
 | .sub=> 189
 | .mul=> 189
 | .div=> 189
 | .neg=> 141
 | .lt=> 189
 | .le=> 189
 | .eq=> 189
 | .not=> 146
 | .jump=> 147
 | .unl=> 148
 | .send=> 149
 | .timer=> 150
 | .cancel=> 151
 | .sync=> 152
 | .reply=> 153
 | .fail=> 154
 | .stop=> 155
def Li:Opc→List PV
 | .push=> []
 | .var=> []
 | .setVar=> []
 | .name=> []
 | .draw=> []
 | .add=> [.ptr 0 [.fn (.func 137) [] []]]
 | .sub=> [.ptr 0 [.fn (.func 138) [] []]]
 | .mul=> [.ptr 0 [.fn (.func 139) [] []]]
 | .div=> [.ptr 0 [.fn (.func 140) [] []]]
 | .neg=> []
 | .lt=> [.ptr 0 [.fn (.func 190) [] [.ptr 0 [.fn (.func 143) [] []]]]]
 | .le=> [.ptr 0 [.fn (.func 190) [] [.ptr 0 [.fn (.func 144) [] []]]]]
 | .eq=> [.ptr 0 [.fn (.func 190) [] [.ptr 0 [.fn (.func 145) [] []]]]]
 | .not=> []
 | .jump=> []
 | .unl=> []
 | .send=> []
 | .timer=> []
 | .cancel=> []
 | .sync=> []
 | .reply=> []
 | .fail=> []
 | .stop=> []
abbrev Ke:List AV:=[.v .nilFunc, .fn (.func 127) [] [], .fn (.func 128) [] [], .fn (.func 130) [] [], .fn (.func 133) [] [], .fn (.func 134) [] [], .fn (.func 189) [] [.fp 0 [.fn (.func 137) [] []]], .fn (.func 189) [] [.fp 0 [.fn (.func 138) [] []]], .fn (.func 189) [] [.fp 0 [.fn (.func 139) [] []]], .fn (.func 189) [] [.fp 0 [.fn (.func 140) [] []]], .fn (.func 141) [] [], .fn (.func 189) [] [.fp 0 [.fn (.func 190) [] [.ptr 0 [.fn (.func 143) [] []]]]], .fn (.func 189) [] [.fp 0 [.fn (.func 190) [] [.ptr 0 [.fn (.func 144) [] []]]]], .fn (.func 189) [] [.fp 0 [.fn (.func 190) [] [.ptr 0 [.fn (.func 145) [] []]]]], .fn (.func 146) [] [], .fn (.func 147) [] [], .fn (.func 148) [] [], .fn (.func 149) [] [], .fn (.func 150) [] [], .fn (.func 151) [] [], .fn (.func 152) [] [], .fn (.func 153) [] [], .fn (.func 154) [] [], .fn (.func 155) [] []]
theorem Ha (o:Opc):Ke[o.num]? =some (.fn (.func (Ll o)) [] (PV.ups (Li o))):=by cases o <;> rfl
instance LA (o:Opc):bU Tryz.prog (Ll o):=by cases o <;> (unfold Ll;infer_instance)
theorem AW:Spec Tryz.prog 93 (aI [] []) (aA (.agg Ke) []):=by
 refine Spec.ofN Tryz.func93 rfl Tryz.ntmps93 rfl ?_
 refine go 4 ?_
 refine aj (ap aa al (mW 137) rfl rfl) ?_
 refine aj (ap aa al (mW 138) rfl rfl) ?_
 refine aj (ap aa al (mW 139) rfl rfl) ?_
 refine aj (ap aa al (mW 140) rfl rfl) ?_
 refine aj (ap aa al (pZ 143) rfl rfl) ?_
 refine aj (ap aa al (pZ 144) rfl rfl) ?_
 refine aj (ap aa al (pZ 145) rfl rfl) ?_
 refine aj (gl _ aa rfl (by exact (rfl:_=some [_,_,_,_,_,_,_,_,_,_,_,_,_,_,_,_,_,_,_,_,_,_,_,_]))) ?_
 exact JB rfl rfl rfl rfl rfl rfl (am (au (uo [])))
theorem fj (l:List Ac) (a:Ac):bL (l++[a])=if a.k=3 then bL l+1 else bL l:=by
 unfold bL
 rw [List.countP_append,List.countP_singleton]
 by_cases h:a.k=3 <;> simp [h]
theorem qD (b:Bool):kR (flag b)=flag b:=by cases b <;> decide
theorem HN (M:Mk) (s:Ms) (x:et) (nv:Nat) (hx:cK nv x) (hv:IV M.cx nv s) (hp:x.op.pops≤s.stack.length) (hs:s.stack.length≤80000) (ha:s.acts.length≤80000) (hq:s.asked.length≤80000) (hn:CU M):
  Spec Tryz.prog (Ll x.op) (aL ([.ptr (0,9) 0, .v (.int .i64 x.n)]++PV.ups (Li x.op)) (mN M s (s.asked.length:Int) (bL s.acts:Int))) (aO (.tup []) (mn M (bS M.cx x s) ((bS M.cx x s).asked.length:Int) (bL (bS M.cx x s).acts:Int) (2,8) (3,8) (5,8)) [(0,9),(1,9),(2,8),(3,8),(4,9),(5,8),(6,9)] [(0,9),(1,9),(4,9),(6,9)]):=by
 have rs0:=sY hv.rs 0
 have rs1:=sY hv.rs 1
 have hvl:=hv.vl
 have hsn:=hv.sn
 have hnat: ∀ n:Int,0≤n→ ∃ k:Nat,n=k:=fun n h=> ⟨n.toNat,by omega⟩
 obtain ⟨o,n⟩:=x
 have hpp:o.pops≤s.stack.length:=hp
 cases o
 case push=> exact Fv M s _ _ n ab
 case var=>
  obtain ⟨k,rfl⟩:=hnat n hx.1
  have hk:(k:Int) < nv:=hx.2
  exact Gx M s _ _ k ab ab
 case setVar=>
  obtain ⟨k,rfl⟩:=hnat n hx.1
  have hk:(k:Int) < nv:=hx.2
  by_cases hd:k < M.P.d
  ·have h:=Da M s (s.asked.length:Int) (bL s.acts:Int) k ab ab ab hpp hd
   have e:bS M.cx ⟨.setVar,(k:Int)⟩ s={ s with vars:=s.vars.set k (s.top 0),stack:=s.pop 1,acts:=s.acts++[{ k:=1,a:=k,b:=s.top 0 }] }:=by
    simp only [bS,Int.toNat_natCast]
    rw [if_pos (show (k:Int) < ((M.P.d:Nat):Int) by omega)]
   rw [e]
   rw [show bL (s.acts++[{ k:=1,a:=k,b:=s.top 0 }])=bL s.acts from fj _ _]
   exact h
  have h:=Et M s (s.asked.length:Int) (bL s.acts:Int) k ab ab hpp ab
  have e:bS M.cx ⟨.setVar,(k:Int)⟩ s={ s with vars:=s.vars.set k (s.top 0),stack:=s.pop 1 }:=by
   simp only [bS,Int.toNat_natCast]
   rw [if_neg (show ¬ (k:Int) < ((M.P.d:Nat):Int) by omega)]
  rw [e]
  exact h
 case name=>
  obtain ⟨k,rfl⟩:=hnat n hx.1
  have hk:(k:Int) < 9:=hx.2
  exact BM M s _ _ k ab ab
 case draw=>
  by_cases hk:max 1 (min (s.top 0) 4)=1
  ·have h:=AX M s (bL s.acts:Int) n ab hpp hk
   have e:bS M.cx ⟨.draw,n⟩ s={ s with stack:=s.pop 1++[0] }:=if_pos hk
   rw [e];exact h
  have h:=Cb M s (bL s.acts:Int) n ab hpp hq hn rfl hk
  have e:bS M.cx ⟨.draw,n⟩ s={ s with stack:=s.pop 1++[el M.ans s.asked.length (max 1 (min (s.top 0) 4))],asked:=s.asked++[max 1 (min (s.top 0) 4)] }:=if_neg hk
  rw [e];exact h
 case add=> exact sx M s _ _ n ab hpp (Kh rs1 rs0)
 case sub=> exact sx M s _ _ n ab hpp (Kt rs1 rs0)
 case mul=> exact sx M s _ _ n ab hpp (Kq rs1 rs0)
 case div=>
  have h:=sx M s (s.asked.length:Int) (bL s.acts:Int) n ab hpp (Jz (x:=s.top 0) rs1)
  have e:bS M.cx ⟨.div,n⟩ s={ s with stack:=s.pop 2++[kR (if s.top 0=0 then 0 else (s.top 1).tdiv (s.top 0))] }:=by
   show { s with stack:=s.pop 2++[if s.top 0=0 then 0 else kR ((s.top 1).tdiv (s.top 0))] }=_
   split <;> rfl
  rw [e];exact h
 case neg=> exact GW M s _ _ n ab hpp rs0
 case not=>
  by_cases h0:s.top 0=0
  ·have h:=Fb M s (s.asked.length:Int) (bL s.acts:Int) n ab hpp h0
   have e:bS M.cx ⟨.not,n⟩ s={ s with stack:=s.pop 1++[1] }:=by simp only [bS,h0,decide_true];rfl
   rw [e];exact h
  have h:=FH M s (s.asked.length:Int) (bL s.acts:Int) n ab hpp h0
  have e:bS M.cx ⟨.not,n⟩ s={ s with stack:=s.pop 1++[0] }:=by simp only [bS,h0,decide_false];rfl
  rw [e];exact h
 case jump=>
  obtain ⟨k,rfl⟩:=hnat n hx
  exact EC M s _ _ k
 case unl=>
  obtain ⟨k,rfl⟩:=hnat n hx
  by_cases h0:s.top 0=0
  ·have h:=EL M s (s.asked.length:Int) (bL s.acts:Int) k ab hpp h0
   have e:bS M.cx ⟨.unl,(k:Int)⟩ s={ s with stack:=s.pop 1,pc:=k }:=by simp only [bS,Int.toNat_natCast];rw [if_pos h0]
   rw [e];exact h
  have h:=FX M s (s.asked.length:Int) (bL s.acts:Int) k ab hpp h0
  have e:bS M.cx ⟨.unl,(k:Int)⟩ s={ s with stack:=s.pop 1 }:=by simp only [bS,Int.toNat_natCast];rw [if_neg h0]
  rw [e];exact h
 case send=>
  by_cases hc:0≤s.top 2∧s.top 2 < M.cx.names.getD 1 0∧bL s.acts < 20
  ·have h:=GZ M s (s.asked.length:Int) (bL s.acts:Int) n ab ab hpp ab hc.1 hc.2.1 ab
   have e:bS M.cx ⟨.send,n⟩ s={ s with stack:=s.pop 3,acts:=s.acts++[{ k:=3,a:=s.top 2,b:=n,c:=s.top 1,d:=s.top 0 }] }:=by simp only [bS];rw [if_pos hc]
   rw [e]
   rw [show bL (s.acts++[{ k:=3,a:=s.top 2,b:=n,c:=s.top 1,d:=s.top 0 }])=bL s.acts+1 from fj _ _]
   exact h
  have e:bS M.cx ⟨.send,n⟩ s={ s with stack:=s.pop 3 }:=by simp only [bS];rw [if_neg hc]
  rw [e]
  by_cases h1:0≤s.top 2
  ·by_cases h2:s.top 2 < M.nm 1
   ·exact CR M s (s.asked.length:Int) (bL s.acts:Int) n ab ab hpp ab h1 h2 (by
     have: ¬ bL s.acts < 20:=fun h=> hc ⟨h1,h2,h⟩
     omega)
   exact DV M s (s.asked.length:Int) (bL s.acts:Int) n ab ab hpp ab h1 ab
  exact Az M s (s.asked.length:Int) (bL s.acts:Int) n ab ab hpp ab ab
 case timer=>
  have h:=CQ M s (s.asked.length:Int) (bL s.acts:Int) n ab
  have e:bL (bS M.cx ⟨.timer,n⟩ s).acts=bL s.acts:=fj _ _
  rw [e];exact h
 case cancel=>
  have h:=zx M s (s.asked.length:Int) (bL s.acts:Int) n ab
  have e:bL (bS M.cx ⟨.cancel,n⟩ s).acts=bL s.acts:=fj _ _
  rw [e];exact h
 case sync=>
  have h:=FP M s (s.asked.length:Int) (bL s.acts:Int) n ab
  have e:bL (bS M.cx ⟨.sync,n⟩ s).acts=bL s.acts:=fj _ _
  rw [e];exact h
 case reply=>
  have h:=Ei M s (s.asked.length:Int) (bL s.acts:Int) n ab ab hpp
  have e:bL (bS M.cx ⟨.reply,n⟩ s).acts=bL s.acts:=fj _ _
  rw [e];exact h
 case fail=>
  have h:=Bu M s (s.asked.length:Int) (bL s.acts:Int) n ab ab hpp
  have e:bL (bS M.cx ⟨.fail,n⟩ s).acts=bL s.acts:=fj _ _
  rw [e];exact h
 case stop=> exact GE M s _ _ n
 case lt=>
  have h:=wM M s (s.asked.length:Int) (bL s.acts:Int) n ab hpp (Ca (NS (s.top 1) (s.top 0)))
  rw [qD] at h
  exact h
 case le=>
  have h:=wM M s (s.asked.length:Int) (bL s.acts:Int) n ab hpp (Ca (NW (s.top 1) (s.top 0)))
  rw [qD] at h
  exact h
 case eq=>
  have h:=wM M s (s.asked.length:Int) (bL s.acts:Int) n ab hpp (Ca (NP (s.top 1) (s.top 0)))
  rw [qD] at h
  exact h
end Go.Proofs.YtmjnackchaahbaaGreat

set_option maxHeartbeats 2000000
namespace Go.Proofs.YtmjnackchaahbaaGreat
open Go.RowKit

theorem uZ (l:List Int) (h0:0 < l.length) (h1:l.length≤1000000):
  Spec Tryz.prog 92 (aI [.sl l.length (ba l)] []) (aA (.ref (0,8) 0 l.length) [((0,8), .row 3 1 (ba l))]):=by
 refine Spec.ofN Tryz.func92 rfl Tryz.ntmps92 rfl ?_
 refine aG (aj (aX _ ea) (am (aE (aG (gT rfl (aj (tF _ _ Tryz.underlying22 (.inl ⟨_,rfl⟩) h0 rfl) ?_))))))
 refine am (cP rfl rfl (cO (aG (aj (tL _ aa rfl) (gT rfl (aj (xx (7,0) _ _ aa rfl h0 (.sl (by simp)) ab rfl) ?_))))))
 exact dZ rfl (am (au (lQ [((0,8),(7,0))])))
theorem va {P:Program} {fn:Func} {σ σ1 σ':St} {e:Exit} (h:Le σ1 σ) (q:kO P fn σ' e σ1):kO P fn σ' e σ:=⟨q.1,fun K ι S a w R=> let ⟨ι1,S1,R1⟩:=h K ι S a w R;q.2 K ι1 S1 a w R1⟩
theorem tX:Spec Tryz.prog 92 (aI [.sl 0 (ba [])] []) (aA (.ref (0,8) 0 0) [((0,8), .row 3 1 (ba []))]):=by
 refine Spec.ofN Tryz.func92 rfl Tryz.ntmps92 rfl ?_
 refine aG (aj (aX _ ea) (am (aE (aG (gT rfl (Ds (sR _ _ Tryz.underlying22 rfl rfl) ?_))))))
 rintro _ ⟨b4,rfl⟩
 refine am (ax rfl (fun hc4=> ?_) (fun hc4=> ?_))
 ·exact aG (aj (aX _ ea) (am (au (va (Le.nilS 2 (60,0) 3 1 rfl rfl) (lQ [((0,8),(60,0))])))))
 refine cO (aG (aj (gp (5,0) _ _ aa rfl ag (by (simp <;> rfl)) ah rfl rfl) ?_))
 refine gT rfl (aj (bG (7,0) _ _ aa rfl rfl rfl (.sl rfl) ab rfl rfl rfl) ?_)
 exact dZ rfl (am (au (lQ [((0,8),(7,0))])))
theorem mB (l:List Int) (h1:l.length≤1000000):
  Spec Tryz.prog 92 (aI [.sl l.length (ba l)] []) (aA (.ref (0,8) 0 l.length) [((0,8), .row 3 1 (ba l))]):=by
 by_cases h0:0 < l.length
 ·exact uZ l h0 h1
 obtain rfl:l=[]:=List.eq_nil_of_length_eq_zero ab
 exact tX
def kQ (l:List Nat):List (Int×Value):=l.foldl (fun M (i:Nat)=> jn M (i:Int) (.agg #[])) []
theorem CB (l:List Nat) (i:Nat):kQ (l++[i])=jn (kQ l) (i:Int) (.agg #[]):=by simp [kQ,List.foldl_append]
theorem BV {M:List (Int×Value)} {n:Int} {u:Value} (h:oL M n=some u):(n,u)∈M:=by
 unfold oL at h
 cases hf:nw n M 0 with
 | none=> rw [hf] at h;cases h
 | some p=>
  obtain ⟨i,v⟩:=p
  rw [hf] at h
  obtain rfl:v=u:=Option.some.inj h
  obtain ⟨q,_,hq⟩:=sG hf
  exact List.mem_of_getElem? hq
theorem vD {M:List (Int×Value)} {n:Int} {u:Value} {p:Int×Value} (h:p∈jn M n u):p∈M∨p=(n,u):=by
 unfold jn at h
 split at h
 ·exact .inl h
 rcases List.mem_append.1 h with h | h
 ·exact .inl h
 exact .inr (List.mem_singleton.1 h)
theorem ug: ∀ (l:List Nat) (M:List (Int×Value)),(∀ p∈M,p.2= .agg #[])→ ∀ p∈l.foldl (fun M (i:Nat)=> jn M (i:Int) (.agg #[])) M,p.2= .agg #[]
 | [],_,h=> h
 | i::l,M,h=> ug l _ fun p hp=> by
  rcases vD hp with hp | rfl
  ·exact h p hp
  rfl
theorem tH (l:List Nat): ∀ p∈kQ l,p.2= .agg #[]:=ug l [] fun p hp=> by cases hp
theorem GJ {M:List (Int×Value)} {n:Int} (h:oL M n=none):n∉M.map (·.1):=by
 intro hm
 obtain ⟨p,hp,he⟩:=List.mem_map.1 hm
 unfold oL at h
 cases hf:nw n M 0 with
 | some q=> rw [hf] at h;cases h
 | none=>
  clear h hm
  have: ∀ (M:List (Int×Value)) (i:Nat),nw n M i=none→ ∀ p∈M,p.1≠n:=by
   intro M
   induction M with
   | nil=> intro i _ p hp;cases hp
   | cons a l ih=>
    intro i h p hp
    unfold nw at h
    split at h
    ·cases h
    rename_i hne
    rcases List.mem_cons.1 hp with rfl | hp
    ·exact fun e=> hne e.symm
    exact ih _ h p hp
  exact this M 0 hf p hp he
theorem GK {M:List (Int×Value)} {n:Int} {u:Value} (h:(M.map (·.1)).Nodup):((jn M n u).map (·.1)).Nodup:=by
 unfold jn
 cases hg:oL M n with
 | some v=> exact h
 | none=>
  simp only [Option.isSome_none,Bool.false_eq_true,if_false,List.map_append,List.map_cons,List.map_nil]
  exact List.nodup_append.2 ⟨h,by simp,fun a ha b hb e=> GJ hg (by rw [List.mem_singleton.1 hb] at e;exact e ▸ ha)⟩
theorem yj: ∀ (l:List Nat) (M:List (Int×Value)),(M.map (·.1)).Nodup→((l.foldl (fun M (i:Nat)=> jn M (i:Int) (.agg #[])) M).map (·.1)).Nodup
 | [],_,h=> h
 | _::l,_,h=> yj l _ (GK h)
theorem Ek (l:List Nat):((kQ l).map (·.1)).Nodup:=yj l [] List.nodup_nil
theorem xy {N:Int}: ∀ (l:List Nat) (M:List (Int×Value)),(∀ i∈l,(i:Int)≤N)→(∀ p∈M,0≤p.1∧p.1≤N)→ ∀ p∈l.foldl (fun M (i:Nat)=> jn M (i:Int) (.agg #[])) M,0≤p.1∧p.1≤N
 | [],_,_,h=> h
 | i::l,M,hl,h=> xy l _ (fun j hj=> hl j (List.mem_cons_of_mem _ hj)) fun p hp=> by
  rcases vD hp with hp | rfl
  ·exact h p hp
  exact ⟨by simp only;omega,hl i List.mem_cons_self⟩
theorem Dd (l:List Nat) (h: ∀ i∈l,i≤1000000): ∀ p∈kQ l,0≤p.1∧p.1≤1000000:=xy l [] (fun i hi=> by have:=h i hi;omega) fun p hp=> by cases hp
theorem GB (l:List Nat) (n:Int): ∀ u,oL (kQ l) n=some u→u= .agg #[]:=fun u h=> tH l _ (BV h)
structure Sz (s:Ms):Prop where
 st:s.stack.length≤s.steps
 ac:s.acts.length≤s.steps
 ak:s.asked.length≤s.steps
theorem Fu (K:Cx) (x:et) (s:Ms):(bS K x s).stack.length≤s.stack.length+1∧(bS K x s).acts.length≤s.acts.length+1∧(bS K x s).asked.length≤s.asked.length+1∧(bS K x s).steps=s.steps:=by
 have hp:=bD s
 unfold bS
 cases x.op <;> simp only [List.length_append,List.length_cons,List.length_nil,hp]
 case setVar=> split <;> simp <;> omega
 case draw=> split <;> simp [hp] <;> omega
 case send=> split <;> simp <;> omega
 all_goals (refine ⟨?_,?_,?_,?_⟩ <;> first | trivial | omega)
theorem pu {K:Cx} {s:Ms} (h:Sz s):Sz (gu K s):=by
 obtain ⟨h1,h2,h3,h4⟩:=Fu K (K.code.getD s.pc { op:= .stop }) { s with pc:=s.pc+1,steps:=s.steps+1,cov:=s.cov++[s.pc] }
 have:=h.st;have:=h.ac;have:=h.ak
 exact ⟨by unfold gu;rw [h4];simp only at h1 ⊢;omega,by unfold gu;rw [h4];simp only at h2 ⊢;omega,by unfold gu;rw [h4];simp only at h3 ⊢;omega⟩
theorem Cc {ρ:az→az} {σ:St} {F:az→Bool} {id id':az} (h:ρ id=id'):Lv ρ σ F (.mp id) (.mp id'):=by subst h;exact .mp
def fz (M:List (Int×Value)):List Int:=(M.map (·.1)).mergeSort (fun x y=> decide (x≤y))
theorem sa (es:List MapEntry) (c:Nat):Spec Tryz.prog 95 (aL [.mp (0,9)] [((0,9), .mp es c)]) (aO (.fn (.func 158) [] [.ptr (1,8) 0]) [((0,9), .mp es c),((1,8), .box 175 [.mp (0,9)])] [(0,9)] [(0,9)]):=by
 refine Spec.ofNI Tryz.func95 rfl Tryz.ntmps95 rfl ?_
 refine go 5 ?_
 refine aj (lf _ _ (rfl:_=[]) (rfl:_=[AV.ptr _ _])) ?_
 refine go 2 ?_
 exact au (cq (.inr rfl) rfl (.tmp IQ) (Le.outI [((1,8),(1,0))] [] (.fn rfl aK rfl lz) rfl rfl rfl trivial ⟨⟨rfl,⟨_,rfl, .mp⟩,rfl⟩,⟨rfl,⟨_,rfl, .box rfl (ai (Cc rfl) aK)⟩,rfl⟩,trivial⟩ tr rfl))
theorem DX {σ:St} {rn:List (az×az)} (o:Opc):fS σ rn (PV.ups (Li o)) (PV.ups (Li o)):=by
 cases o <;> first | exact dc | exact cC .fp dc
theorem HP (o:Opc):o.num < 24:=by cases o <;> decide
theorem Dq (M:List (Int×Value)) (n:Int) (u:Value):(jn M n u).length≤M.length+1:=by unfold jn;split <;> simp
theorem uR: ∀ (l:List Nat) (M:List (Int×Value)),(l.foldl (fun M (i:Nat)=> jn M (i:Int) (.agg #[])) M).length≤M.length+l.length
 | [],M=> Nat.le_refl _
 | i::l,M=> by have:=uR l (jn M i (.agg #[]));have:=Dq M i (.agg #[]);simp only [List.foldl_cons,List.length_cons];omega
theorem yq (l:List Nat):(kQ l).length≤l.length:=by have:=uR l [];simpa [kQ] using this
theorem AO (K:Cx) (x:et) (s:Ms):(bS K x s).cov=s.cov:=by
 unfold bS
 cases x.op <;> simp only
 all_goals (split <;> rfl)
theorem yc {K:Cx} {s:Ms} (h:s.fin=true): ∀ k,jf K k s=s
 | 0=> rfl
 | k+1=> by rw [jf,if_pos h]
abbrev JN (M:Mk) (l:List Int) (ak:az):List (az×Cells):=EO M.t (M.t.np+l.length) (Ff M.t M.ans l) ak
abbrev Bc:Prop:= ∀ (M:List (Int×Value)),M.length≤1000000→(∀ p∈M,p.2= .agg #[])→(M.map (·.1)).Nodup→(∀ p∈M,0≤p.1∧p.1≤1000000)→Spec Tryz.prog 94 (aL [.fn (.func 158) [] [.ptr (1,9) 0]] [((0,9), .mp (em M) M.length),((1,9), .box 175 [.mp (0,9)])]) (aO (.sl (fz M).length (ba (fz M))) [((0,9), .mp (em M) M.length),((1,9), .box 175 [.mp (0,9)])] [(0,9),(1,9)] [(0,9),(1,9)])
set_option maxHeartbeats 1000000 in
theorem As (M:Mk) (hS:Bc) (D:Nat→Nat) (nv:Nat) (hK:PG M.cx D nv) (h:Nat) (hh:h < 40) (e0:Nat) (he:M.P.e h=(e0:Int)) (he2:e0 < M.P.c.length) (hD:D e0=0) (hiv:M.iv.length=nv) (hir: ∀ v∈M.iv,Rg v) (hc:M.P.c.length≤1000000) (hn:CU M) (R:Ms) (hR:R=jf M.cx 500 (cQ M.iv e0)):
  Spec Tryz.prog 59 (aL [fY M.P, .v (.int .i64 (h:Int)), .agg [.sl M.iv.length (ba M.iv), .v (.int .i64 (M.nm 0)), .v (.int .i64 (M.nm 1)), .v (.int .i64 (M.nm 2)), .v (.int .i64 (M.nm 3)), .v (.int .i64 (M.nm 4)), .v (.int .i64 (M.nm 5)), .v (.int .i64 (M.nm 6)), .v (.int .i64 (M.nm 7)), .v (.int .i64 (M.nm 8))],zX (6,9)] (JN M [] (5,9))) (aO (.agg [.sl R.vars.length (ba R.vars), .ref (2,8) 0 R.acts.length, .v (.int .i64 (R.steps:Int)), .v (.bool (!R.fin)), .sl (fz (kQ R.cov)).length (ba (fz (kQ R.cov)))]) (((2,8), .row 57 5 (pt R.acts))::JN M R.asked (5,8)) [(2,8),(4,9),(5,8),(6,9)] [(4,9),(6,9)]):=by
 have hnv:=hK.nv
 have hcl:=mB M.iv ab
 have hg:=nh M.P.c.length (inl M.P.c) M.P.e (M.P.d:Int) (M.P.v:Int) h hh
 rw [he] at hg
 refine Spec.ofNI Tryz.func59 rfl Tryz.ntmps59 rfl ?_
 refine go 5 ?_
 refine aE (dA 11 [(22,0)] ?_)
 refine go 10 ?_
 refine aC (_,[]) (fun τ=> bO _ _ aa rfl rfl rfl h rfl ab (by exact congrArg (fun z=> 0+1+z) (Nat.mul_one h))) ?_
 refine go 1 ?_
 refine aC (_,[]) (fun τ=> bK _ aa rfl rfl (by exact (congrArg (fun z=> (Bx M.P.c.length (inl M.P.c) M.P.e (M.P.d:Int) (M.P.v:Int))[z]?) ab).trans hg)) ?_
 refine go 5 ?_
 refine aC (_,[((22,0),_)]) (fun τ=> (bu aa [((0,8),(22,0))] ar (hcl.toI) trivial tr tr rfl rfl ae ae)) ?_
 refine go 1 ?_
 refine aC (_,[]) (fun τ=> gl _ aa rfl (by exact (rfl:_=some [AV.ref (22,0) 0 M.iv.length,AV.v (.slice none 0 0),AV.v (.int .i64 0),AV.v (.bool false),AV.v (.slice none 0 0)]))) ?_
 refine go 1 ?_
 refine ci ⟨rfl,?_⟩
 refine aj (gl _ aa rfl (by exact (rfl:_=some [_,_,_,_,_,_,_,_,_,_,_,_,_,_,_,_,_,_,_,_,_,_,_,_,_,_,_,_,_,_,_,_,_,_,_,_,_,_,_,_,_,_,_,_,_,_,_,_,_,_,_,_,_,_,_,_,_,_,_,_,_,_,_,_]))) ?_
 refine aj (dX (25,0) _ rfl rfl) (Jo rfl (am (aE (aE ?_))))
 refine aB (σ':=an 108 [(4,_),(8,_),(9,_)] [((4,9),_),((5,9),_),((6,9),_),((4,0),_),((8,0),_),((22,0),_),((25,0),_)] [(4,9),(5,9),(6,9)] [(4,9),(6,9)]) kp ?_
 refine go 7 ?_
 refine cP rfl (decide_eq_false ab) ?_
 refine cO (aG (aj (ap aa (by repeat' (exact bR)) (AW) rfl rfl) ?_))
 refine go 4 ?_
 refine aj (IT (36,0) rfl) (go 2 ?_)
 refine aF fun K7 hK7=> ?_
 refine aH ?_
 refine aB (Le.incT (60,0) rfl) ?_
 refine aB (Le.incT (61,0) rfl) ?_
 refine aB (Le.nilB (25,0) 55 (60,0) 57 5 rfl rfl rfl) ?_
 refine aB (Le.nilB (25,0) 59 (61,0) 3 1 rfl rfl rfl) ?_
 refine aS (α:=Nat×Ms) (fun z=> R=jf M.cx z.1 z.2∧z.1+z.2.steps=500∧At M.cx D nv z.2∧Sz z.2) 108 [(4,_),(8,_),(9,_),(10,_),(11,_)] [((4,0),_),((8,0),_),((10,0),_),((6,9),_)] (fun z=> []) (fun z=> [((25,0), .box 171 [.sl M.P.c.length (inl M.P.c), .v (.int .i64 (M.P.e 0)), .v (.int .i64 (M.P.e 1)), .v (.int .i64 (M.P.e 2)), .v (.int .i64 (M.P.e 3)), .v (.int .i64 (M.P.e 4)), .v (.int .i64 (M.P.e 5)), .v (.int .i64 (M.P.e 6)), .v (.int .i64 (M.P.e 7)), .v (.int .i64 (M.P.e 8)), .v (.int .i64 (M.P.e 9)), .v (.int .i64 (M.P.e 10)), .v (.int .i64 (M.P.e 11)), .v (.int .i64 (M.P.e 12)), .v (.int .i64 (M.P.e 13)), .v (.int .i64 (M.P.e 14)), .v (.int .i64 (M.P.e 15)), .v (.int .i64 (M.P.e 16)), .v (.int .i64 (M.P.e 17)), .v (.int .i64 (M.P.e 18)), .v (.int .i64 (M.P.e 19)), .v (.int .i64 (M.P.e 20)), .v (.int .i64 (M.P.e 21)), .v (.int .i64 (M.P.e 22)), .v (.int .i64 (M.P.e 23)), .v (.int .i64 (M.P.e 24)), .v (.int .i64 (M.P.e 25)), .v (.int .i64 (M.P.e 26)), .v (.int .i64 (M.P.e 27)), .v (.int .i64 (M.P.e 28)), .v (.int .i64 (M.P.e 29)), .v (.int .i64 (M.P.e 30)), .v (.int .i64 (M.P.e 31)), .v (.int .i64 (M.P.e 32)), .v (.int .i64 (M.P.e 33)), .v (.int .i64 (M.P.e 34)), .v (.int .i64 (M.P.e 35)), .v (.int .i64 (M.P.e 36)), .v (.int .i64 (M.P.e 37)), .v (.int .i64 (M.P.e 38)), .v (.int .i64 (M.P.e 39)), .v (.int .i64 (M.P.d:Int)), .v (.int .i64 (M.P.v:Int)), .sl M.iv.length (ba M.iv), .v (.int .i64 (M.nm 0)), .v (.int .i64 (M.nm 1)), .v (.int .i64 (M.nm 2)), .v (.int .i64 (M.nm 3)), .v (.int .i64 (M.nm 4)), .v (.int .i64 (M.nm 5)), .v (.int .i64 (M.nm 6)), .v (.int .i64 (M.nm 7)), .v (.int .i64 (M.nm 8)),zX (6,9), .ref (22,0) 0 z.2.vars.length, .ref (60,0) 0 z.2.acts.length, .v (.int .i64 (z.2.steps:Int)), .v (.bool false), .v (.slice none 0 0), .ref (61,0) 0 z.2.stack.length, .v (.int .i64 (z.2.pc:Int)), .v (.int .i64 (z.2.asked.length:Int)), .v (.int .i64 (bL z.2.acts:Int)), .v (.bool z.2.fin)]),((22,0), .row 3 1 (ba z.2.vars)),((60,0), .row 57 5 (pt z.2.acts)),((61,0), .row 3 1 (ba z.2.stack)),((36,0), .mp (em (kQ z.2.cov)) (kQ z.2.cov).length),((4,9), .box 103 [.v (.int .i64 M.t.c1), .v (.int .i64 M.t.c2), .v (.int .i64 M.t.c3), .sl M.t.na M.t.A, .ref (5,9) 0 (M.t.np+z.2.asked.length)]),((5,9), .row 111 7 (Ff M.t M.ans z.2.asked))]) [(4,9),(5,9),(6,9),(60,0),(61,0)] [(4,9),(6,9)] (fun z=> z.1) (500,cQ M.iv e0) ?_ (by
  refine Le.mkJ [] [] rfl ?_ ?_ trivial tr ?_
  ·exact ⟨(iP rfl),(iP rfl),(iP rfl),(iP rfl),(iM rfl),trivial⟩
  ·exact ⟨(bN rfl rfl rfl),(bN rfl rfl rfl),(bN rfl rfl rfl),(bN rfl rfl rfl),(cI rfl rfl rfl rfl (ai (cL ag ag) (eZ (eZ (eZ (eZ (eW (eW (ai (cL ag ag) (rf (rf (eW (ai (by repeat' (first | exact bv rfl | refine Lv.fn rfl ?_ rfl ?_ | exact aK | refine ai ?_ ?_)) (ai (ca rfl ag) (ai (ca rfl ag) (eW (ai (jC ag) (ai (by repeat' (exact Lv.v)) lz)))))))))))))))))),(cD rfl rfl rfl ag),(cD rfl rfl rfl ag),(cD rfl rfl rfl ag),(Pe rfl rfl rfl ag ag),(cI rfl rfl rfl rfl lz),(cD rfl rfl rfl ag),trivial⟩
  kernel_rfl) ?_
 ·exact ⟨hR,rfl,qa hiv hir he2 hD,⟨Nat.le_refl _,Nat.le_refl _,Nat.le_refl _⟩⟩
 intro z hz
 obtain ⟨k,s⟩:=z
 obtain ⟨hz1,hz2,hz3,hz4⟩:=hz
 simp only at hz1 hz2 hz3 hz4 ⊢
 have hl1:=hz4.st
 have hl2:=hz4.ac
 have hl3:=hz4.ak
 have hcn:=hz3.cn
 refine aF fun K8 hK8=> ?_
 refine aF fun K9 hK9=> ?_
 refine go 5 ?_
 refine aj (fI (r:= !s.fin) _ rfl rfl) ?_
 refine FV rfl (cj (fun hg42=> ?_) (fun hg42=> ?_))
 ·have hf:s.fin=false:=by simpa using hg42
  refine go 5 ?_
  refine aZ rfl rfl (cT (r:=decide ((s.steps:Int) < 500)) _ _ rfl rfl rfl) ?_
  refine go 1 ?_
  refine ay (hK9 _ ?_)
  refine ax rfl (fun hc49=> ?_) (fun hc49=> ?_)
  ·obtain ⟨k,rfl⟩: ∃ q,k=q+1:=⟨k - 1,by omega⟩
   obtain ⟨hp,hd⟩:=hz3.go hf
   obtain ⟨⟨o,n⟩,hx⟩: ∃ x,M.cx.code[s.pc]? =some x:=⟨_,List.getElem?_eq_getElem hp⟩
   obtain ⟨g1,g2,_⟩:=hK.good s.pc ⟨o,n⟩ hx
   rw [Nat.zero_add] at g2
   have g2:o.pops≤D s.pc:=g2
   have hgx:M.cx.code.getD s.pc { op:= .stop }=⟨o,n⟩:=by rw [List.getD_eq_getElem?_getD,hx];rfl
   have hst:gu M.cx s=bS M.cx ⟨o,n⟩ { s with pc:=s.pc+1,steps:=s.steps+1,cov:=s.cov++[s.pc] }:=by unfold gu;rw [hgx]
   have hat:=pA hK hz3 hf
   have hsz:=pu (K:=M.cx) hz4
   have hss:=(stepM_steps (K:=M.cx) (s:=s)).1
   rw [jf,if_neg (by rw [hf];decide)] at hz1
   have hop:=HN M { s with pc:=s.pc+1,steps:=s.steps+1,cov:=s.cov++[s.pc] } ⟨o,n⟩ nv g1 ⟨hz3.iv.vl,hz3.iv.rv,hz3.iv.rs,hz3.iv.ac,hz3.iv.sn,hz3.iv.ar⟩ (show o.pops≤s.stack.length by omega) (by simp only;omega) (by simp only;omega) (by simp only;omega) hn
   have hcov:=AO M.cx ⟨o,n⟩ { s with pc:=s.pc+1,steps:=s.steps+1,cov:=s.cov++[s.pc] }
   rw [hst] at hz1 hat hsz hss
   have hmp:jn (kQ s.cov) (s.pc:Int) (.agg #[])=kQ (bS M.cx ⟨o,n⟩ { s with pc:=s.pc+1,steps:=s.steps+1,cov:=s.cov++[s.pc] }).cov:=by rw [hcov,CB]
   have hia:=uj M.P.c s.pc hp
   rw [show cu M.P.c s.pc=⟨o,n⟩ from hgx] at hia
   have hn24:=HP o
   have hpcl:s.pc < M.P.c.length:=hp
   generalize bS M.cx ⟨o,n⟩ { s with pc:=s.pc+1,steps:=s.steps+1,cov:=s.cov++[s.pc] }=E at hz1 hat hsz hss hop hcov hmp
   refine aR (hK8 _ ?_)
   refine go 8 ?_
   refine aj (EN _ _ _ Tryz.underlying175 Tryz.underlying3 rfl rfl rfl rfl rfl (GB _ _) hmp rfl) ?_
   refine am (aE ?_)
   refine aB (σ':=an 108 [(4,_),(8,_),(9,_),(10,_),(11,_)] [((4,0),_),((8,0),_),((10,0),_),((25,0),_),((22,0),_),((60,0),_),((61,0),_),((36,0),_),((6,9),_),((4,9),_),((5,9),_)] [(4,9),(5,9),(6,9),(60,0),(61,0)] [(4,9),(6,9)]) kp ?_
   refine dA 9 [(12,0)] ?_
   refine go 12 ?_
   refine aC (_,[]) (fun τ=> aQ _ _ aa rfl rfl _ rfl ab (by (simp only [aq,aJ,aM,aq,bm,bT];omega)) ag) ?_
   refine go 1 ?_
   refine aC (_,[]) (fun τ=> bs _ aa rfl (by exact hia) rfl) ?_
   refine go 1 ?_
   refine aC (_,[((12,0),_)]) (fun τ=> eB (12,0) aa rfl rfl) ?_
   refine go 9 ?_
   refine aj (eI (r:=((s.pc+1:Nat):Int)) _ _ rfl rfl ((bQ ab).trans ab)) ?_
   refine go 4 ?_
   refine aE ?_
   refine aB (σ':=an 108 [(4,_),(8,_),(9,_),(10,_),(11,_),(12,_)] [((4,0),_),((8,0),_),((10,0),_),((25,0),_),((22,0),_),((60,0),_),((61,0),_),((36,0),_),((12,0),_),((6,9),_),((4,9),_),((5,9),_)] [(4,9),(5,9),(6,9),(60,0),(61,0)] [(4,9),(6,9)]) kp ?_
   refine go 6 ?_
   refine aj (eI (r:=((s.steps+1:Nat):Int)) _ _ rfl rfl ((bQ ab).trans ab)) ?_
   refine go 5 ?_
   refine aB (σ':=an 108 [(4,_),(8,_),(9,_),(10,_),(11,_),(12,_)] [((4,0),_),((8,0),_),((10,0),_),((25,0),_),((22,0),_),((60,0),_),((61,0),_),((36,0),_),((12,0),_),((6,9),_),((4,9),_),((5,9),_)] [(4,9),(5,9),(6,9),(60,0),(61,0)] [(4,9),(6,9)]) kp ?_
   refine dA 7 [] ?_
   refine go 4 ?_
   refine aC (_,[]) (fun τ=> bO _ _ aa rfl rfl rfl o.num rfl ab (by exact (Nat.zero_add _).trans (Nat.mul_one _))) ?_
   refine go 1 ?_
   refine aC (_,[]) (fun τ=> bK _ aa rfl rfl (by exact Ha o)) ?_
   refine go 8 ?_
   refine bA ((Le.incT (87,0) rfl).trans ((Le.incT (87,1) rfl).trans (Le.incT (87,2) rfl))) ?_
   refine aj (kh rfl aa [((0,9),(25,0)),((1,9),(22,0)),((2,9),(60,0)),((3,9),(61,0)),((2,8),(87,0)),((3,8),(87,1)),((5,8),(87,2))] ?_ (hop) ob tr tr rfl (by clear hS hg hia hop;cases o <;> kernel_rfl) ae) ?_
   ·exact cC (bv rfl) (cC .v (DX o))
   refine ay (⟨(k,E),?_,?_,?_⟩)
   ·exact ⟨hz1,by simp only;omega,hat,hsz⟩
   ·refine Le.mkJ [((60,0),(87,0)),((61,0),(87,1)),((5,9),(87,2))] [] rfl ?_ ?_ trivial tr ?_
    ·exact ⟨(bv (id:=(4,0)) rfl),(bv (id:=(8,0)) rfl),(bv (id:=(25,0)) rfl),(bv (id:=(10,0)) rfl),(by repeat' (exact Lv.mp)),trivial⟩
    ·exact ⟨(cI rfl rfl rfl rfl (by repeat' (first | exact Lv.v | exact Lv.sl | exact aK | refine ai ?_ ?_))),(cI rfl rfl rfl rfl (by repeat' (first | exact Lv.v | exact aK | refine ai ?_ ?_))),(cI rfl rfl rfl rfl (by repeat' (first | exact Lv.v | exact Lv.fp | refine Lv.fn rfl ?_ rfl ?_ | exact aK | refine ai ?_ ?_))),(cI rfl rfl rfl rfl (by repeat' (first | exact bv (id:=(4,9)) rfl | refine Lv.fn rfl ?_ rfl ?_ | exact aK | refine ai ?_ ?_))),(cI rfl rfl rfl rfl (ai (cL ag ag) (eZ (eZ (eZ (eZ (eW (eW (ai (cL ag ag) (rf (rf (eW (ai (by repeat' (first | exact bv (id:=(6,9)) rfl | refine Lv.fn rfl ?_ rfl ?_ | exact aK | refine ai ?_ ?_)) (ai (ca rfl ag) (ai (ca rfl ag) (eW (ai (jC ag) (ai (by repeat' (exact Lv.v)) lz)))))))))))))))))),(cD rfl rfl rfl ag),(cD rfl rfl rfl ag),(cD rfl rfl rfl ag),(Pe rfl rfl rfl ag ag),(cI rfl rfl rfl rfl lz),(cD rfl rfl rfl ag),trivial⟩
    kernel_rfl
   simp only;omega
  obtain rfl:k=0:=by omega
  obtain rfl:R=s:=hz1
  refine aW (id (hK7 _ ?_))
  refine go 6 ?_
  refine aj (fI (r:= !R.fin) _ rfl rfl) ?_
  refine go 5 ?_
  refine aE ?_
  refine aB (σ':=an 108 [(8,_),(9,_),(11,_)] [((8,0),_),((25,0),_),((22,0),_),((60,0),_),((61,0),_),((36,0),_),((6,9),_),((4,9),_),((5,9),_)] [(4,9),(5,9),(6,9),(60,0),(61,0)] [(4,9),(6,9)]) kp ?_
  refine go 3 ?_
  refine aj (bu aa [((0,9),(36,0)),((1,8),(99,0))] ?_ (sa _ _) ⟨⟨rfl,⟨_,rfl, .mp⟩,rfl⟩,trivial⟩ tr tr rfl rfl ae ae) ?_
  ·exact cC (Cc rfl) dc
  refine aj (bu aa [((0,9),(36,0)),((1,9),(99,0))] ar (hS (kQ R.cov) (by have:=yq R.cov;omega) (tH _) (Ek _) (Dd _ fun i hi=> Nat.le_trans (Nat.le_of_lt (hz3.cl i hi)) hc)) ⟨⟨rfl,⟨_,rfl, .mp⟩,rfl⟩,⟨rfl,⟨_,rfl, .box ag (ai (Cc (id:=(0,9)) (id':=(36,0)) rfl) aK)⟩,rfl⟩,trivial⟩ tr tr rfl rfl ae ae) ?_
  refine go 12 ?_
  exact au (cq (.inr rfl) rfl (.cellA aa rfl rfl rfl) (Le.outI [((2,8),(60,0)),((5,8),(5,9))] [(22,0)] (.agg rfl (ai (dI rfl rfl (by simp) rfl) lz)) rfl rfl rfl tr ob tr rfl))
 have hf:s.fin=true:=by simpa using hg42
 obtain rfl:R=s:=hz1.trans (yc hf k)
 refine go 7 ?_
 refine ay (hK9 _ ?_)
 refine cP rfl rfl (aW (id (hK7 _ ?_)))
 refine go 6 ?_
 refine aj (fI (r:= !R.fin) _ rfl rfl) ?_
 refine go 5 ?_
 refine aE ?_
 refine aB (σ':=an 108 [(8,_),(9,_),(11,_)] [((8,0),_),((25,0),_),((22,0),_),((60,0),_),((61,0),_),((36,0),_),((6,9),_),((4,9),_),((5,9),_)] [(4,9),(5,9),(6,9),(60,0),(61,0)] [(4,9),(6,9)]) kp ?_
 refine go 3 ?_
 refine aj (bu aa [((0,9),(36,0)),((1,8),(99,0))] ?_ (sa _ _) ⟨⟨rfl,⟨_,rfl, .mp⟩,rfl⟩,trivial⟩ tr tr rfl rfl ae ae) ?_
 ·exact cC (Cc rfl) dc
 refine aj (bu aa [((0,9),(36,0)),((1,9),(99,0))] ar (hS (kQ R.cov) (by have:=yq R.cov;omega) (tH _) (Ek _) (Dd _ fun i hi=> Nat.le_trans (Nat.le_of_lt (hz3.cl i hi)) hc)) ⟨⟨rfl,⟨_,rfl, .mp⟩,rfl⟩,⟨rfl,⟨_,rfl, .box ag (ai (Cc (id:=(0,9)) (id':=(36,0)) rfl) aK)⟩,rfl⟩,trivial⟩ tr tr rfl rfl ae ae) ?_
 refine go 12 ?_
 exact au (cq (.inr rfl) rfl (.cellA aa rfl rfl rfl) (Le.outI [((2,8),(60,0)),((5,8),(5,9))] [(22,0)] (.agg rfl (ai (dI rfl rfl (by simp) rfl) lz)) rfl rfl rfl tr ob tr rfl))
end Go.Proofs.YtmjnackchaahbaaGreat

set_option maxHeartbeats 2000000
namespace Go.Proofs.YtmjnackchaahbaaGreat
open Go.RowKit

abbrev Hi:Prop:= ∀ (M:List (Int×Value)) (g b:Nat) (w:World),M.length≤1000000→(M.map (·.1)).Nodup→(∀ p∈M,0≤p.1∧p.1≤1000000)→g < w.heap.size→w.cell? ⟨g,0,none⟩=some (.map (some b))→w.heap[b]? =some (.map (em M).toArray M.length)→
  Calls Tryz.prog 94 #[.func (.func 158) #[] #[.pointer (some ⟨g,0,none⟩)]] w fun e w'=> ∃ (v:Value) (ss:List Int),e= .returned v∧ss.Perm (M.map (·.1))∧
    w'.ownsRow w.heap.size 3 1 v ss.length ((ss.mergeSort (fun x y=> decide (x≤y))).map fun x=> Value.int .i64 x)∧Below w.heap.size w w'
theorem Eg {l m:List Int} (h:l.Perm m):l.mergeSort (fun x y=> decide (x≤y))=m.mergeSort (fun x y=> decide (x≤y)):=by
  have tr: ∀ a b c:Int,decide (a≤b)=true→decide (b≤c)=true→decide (a≤c)=true:=fun a b c h1 h2=> by
    simp only [decide_eq_true_eq] at*;omega
  have tt: ∀ a b:Int,(decide (a≤b) || decide (b≤a))=true:=fun a b=> by simp only [Bool.or_eq_true,decide_eq_true_eq];omega
  have p1:=List.pairwise_mergeSort (le:=fun x y:Int=> decide (x≤y)) tr tt l
  have p2:=List.pairwise_mergeSort (le:=fun x y:Int=> decide (x≤y)) tr tt m
  exact ((List.mergeSort_perm l _).trans (h.trans (List.mergeSort_perm m _).symm)).eq_of_pairwise (le:=fun x y:Int=> decide (x≤y)=true) (fun a b _ _ h1 h2=> by simp only [decide_eq_true_eq] at h1 h2;omega) p1 p2
theorem BA (hC:Hi):Bc:=by
  intro M hlen hval hnd hrg K ι S vs w hw0 hrd R
  obtain ⟨B1,g1,b1,b2,b3,b4⟩:=R.ob (1,9) (.box 175 [.mp (0,9)]) rfl
  obtain ⟨B0,g0,c1,c2,c3⟩:=R.ob (0,9) (.mp (em M) M.length) rfl
  have hnt:vs.size=1:=R.nt
  have hf:Rep ι S w (.fn (.func 158) [] [.ptr (1,9) 0]) (vs.getD 0 undef):=R.fr 0 (by show 0 < 1;omega)
  have hvs:vs= #[.func (.func 158) #[] #[.pointer (some ⟨g1,0,none⟩)]]:=by
    generalize hx:vs.getD 0 undef=x at hf
    have hvx:vs= #[x]:=by
      apply Array.ext
      · rw [hnt];rfl
      intro i h1 h2
      have:i=0:=by omega
      subst this
      simp only [Array.getD_eq_getD_getElem?,Array.getElem?_eq_getElem h1,Option.getD_some] at hx
      rw [hx];rfl
    rw [hvx]
    cases hf with
    | fn a1 a2 a3 a4=>
    rename_i us ws
    obtain rfl:us= #[]:=Array.size_eq_zero_iff.1 (by simpa using a1)
    have h0:=a4 0 (.ptr (1,9) 0) rfl
    have hws:ws.size=1:=a2
    generalize hy:ws.getD 0 undef=y at h0
    have hwy:ws= #[y]:=by
      apply Array.ext
      · rw [hws];rfl
      intro i h1 h2
      have:i=0:=by omega
      subst this
      simp only [Array.getD_eq_getD_getElem?,Array.getElem?_eq_getElem h1,Option.getD_some] at hy
      rw [hy];rfl
    rw [hwy]
    cases h0 with
    | ptr h _=>
    obtain ⟨g',hg',rfl⟩:=h B1 b1
    rw [b2] at hg'
    obtain rfl:=Option.some.inj hg'
    rfl
  have hbox: ∃ cur e,w.heap[g1]? =some (.cells cur e (0,0))∧cur[0]? =some (.map (some g0)):=by
    rcases b4 with ⟨d1,_⟩ | ⟨g,cur,d1,d2,d3,d4,d5⟩
    · rw [b2] at d1;cases d1
    rw [b2] at d1
    obtain rfl:=Option.some.inj d1
    obtain ⟨u,u1,u2,u3⟩:=d5 0 (by simp)
    have:=u3 (.mp (0,9)) rfl
    cases this with
    | mp h _=>
    obtain ⟨g',hg',rfl⟩:=h B0 c1
    rw [c2] at hg'
    obtain rfl:=Option.some.inj hg'
    exact ⟨cur,_,d2,u1⟩
  obtain ⟨cur1,e1,hh1,hc1⟩:=hbox
  have hlt:g1 < w.heap.size:=(Array.getElem?_eq_some_iff.1 hh1).1
  subst hvs
  refine (hC M g1 g0 w hlen hnd hrg hlt (ef hh1 hc1) c3).mono ?_
  rintro e w' ⟨v,ss,rfl,hp,hrow,hbl⟩
  have hsrt:ss.mergeSort (fun x y=> decide (x≤y))=fz M:=Eg hp
  have hsl:ss.length=(fz M).length:=by rw [← hsrt,List.length_mergeSort]
  rw [hsrt,hsl] at hrow
  have fin: ∀ (S':Nat→Prop),(∀ g,S g→S' g)→(∀ g,S' g→S g∨w.heap.size≤g)→(∀ g,S' g→g < w'.heap.size)→Rd S' w' (.sl (fz M).length (ba (fz M))) v→ ∃ v2 ι' S',Ending.returned v=Ending.returned v2∧RelI K ι' S' (aO (.sl (fz M).length (ba (fz M))) [((0,9), .mp (em M) M.length),((1,9), .box 175 [.mp (0,9)])] [(0,9),(1,9)] [(0,9),(1,9)]) ⟨#[v2],[]⟩ w':=by
    intro S' g1 g2 g3 hrd
    have R3:=R.gen (ι':=ι) (S':=S') (w':=w') (ob':=(aL [.fn (.func 158) [] [.ptr (1,9) 0]] [((0,9), .mp (em M) M.length),((1,9), .box 175 [.mp (0,9)])]).ob) (inc':=(aL [.fn (.func 158) [] [.ptr (1,9) 0]] [((0,9), .mp (em M) M.length),((1,9), .box 175 [.mp (0,9)])]).inc) (fun _=> False) (.of_below hbl) (fun _ _=> rfl) (fun _ _=> rfl) (fun _ _=> rfl) (fun _ h=> h) g1
      (fun g h=> by rcases g2 g h with h | h; · exact .inl h
                    exact .inr (.inl h)) g3
      (fun _ _ h=> h.elim) (fun _ _ h=> h.elim) (fun _ _ h=> h.elim) (fun _ _ _ _ _ h=> h.elim) (fun _ _ _ h=> h.elim) (fun _ _ _ h=> h.elim)
    refine ⟨v,ι,S',rfl,R3.keeps,R3.S0,R3.Slt,rfl,R3.df,fun t ht=> ?_,fun t id hh=> ?_,R3.clo,R3.ob,R3.dom,R3.inj,R3.sep,R3.pin,R3.pf⟩
    · obtain rfl:t=0:=by have:t < 1:=ht;omega
      exact .sl hrd
    cases t with
    | zero=> exact absurd hh nU
    | succ t=> exact absurd hh (fun h=> by cases h)
  rcases hrow.2 with ⟨hv,hz⟩ | ⟨g,cap,cur,hv,hbase,hg,r1,r2,r3,r4⟩
  · subst hv
    have hn:fz M=[]:=List.eq_nil_of_length_eq_zero hz
    refine fin S (fun _ h=> h) (fun _ h=> .inl h) (fun g h=> Nat.lt_of_lt_of_le (R.Slt g h) hbl.size) ?_
    rw [hn]
    exact .sl0 (Nat.le_refl _) (by unfold maxLen;omega) fun _=> ⟨rfl,rfl⟩
  subst hv
  refine fin (fun k=> S k∨k=g) (fun _ h=> .inl h) (fun k h=> ?_) (fun k h=> ?_) ?_
  · rcases h with h | h
    · exact .inl h
    exact .inr (by rw [h];exact hbase)
  · rcases h with h | h
    · exact Nat.lt_of_lt_of_le (R.Slt k h) hbl.size
    rw [h];exact (Array.getElem?_eq_some_iff.1 hg).1
  have key: ∀ (j:Nat) (p:PV),(ba (fz M))[j]? =some p→ ∃ x:Int,p= .v (.int .i64 x)∧cur[j]? =some (.int .i64 x):=by
    intro j p hj
    rw [ba,List.getElem?_map] at hj
    obtain ⟨x,hx,rfl⟩:=Option.map_eq_some_iff.1 hj
    refine ⟨x,rfl,?_⟩
    have h5:(cur.toList.take ((fz M).length*1))[j]? =some (.int .i64 x):=by rw [r4,List.getElem?_map,hx];rfl
    rw [List.getElem?_take] at h5
    split at h5
    · simpa using h5
    cases h5
  refine Rd.sl (o:=0) (fun j=> cur.getD j undef) r1 r2 (.mk (.inr rfl) hg) (fun j p hj=> ?_) (fun j p hj=> ?_)
  · obtain ⟨x,_,hu⟩:=key j p hj
    simp only [Nat.zero_add,Array.getD_eq_getD_getElem?,hu,Option.getD_some]
    exact ef hg hu
  obtain ⟨x,rfl,hu⟩:=key j p hj
  simp only [Array.getD_eq_getD_getElem?,hu,Option.getD_some]
  exact .v rfl
end Go.Proofs.YtmjnackchaahbaaGreat

set_option maxHeartbeats 2000000
namespace Go.Proofs.YtmjnackchaahbaaGreat
open Go.RowKit Go.Maps Go.Sort Go.Shelf

def oT:Go.Shelf.Ren:=⟨fun | 7=> 95 | 10=> 158 | n=> n,fun | 23=> 175 | 26=> 3 | 3=> 176 | 28=> 179 | 0=> 0 | 27=> 178 | 33=> 216 | 4=> 4 | n=> n,fun | n=> n⟩
theorem FY:Go.Proofs.SlLaysZI.n7 Tryz.prog oT:=
  { mixed:=by kernel_rfl,
    f7:=⟨Tryz.f95.name,by decide,Tryz.func95.trans (congrArg some ae)⟩,
    f10:=⟨Tryz.f158.name,by decide,Tryz.func158.trans (congrArg some ae)⟩,
    t0:=Tryz.underlying0,
    a0:=Tryz.isAgg0,
    z0:=Tryz.sizeOf0,
    v0:=Tryz.zeroValue0,
    t4:=Tryz.underlying4,
    a4:=Tryz.isAgg4,
    z4:=Tryz.sizeOf4,
    v4:=Tryz.zeroValue4,
    t23:=Tryz.underlying175,
    a23:=Tryz.isAgg175,
    z23:=Tryz.sizeOf175,
    v23:=Tryz.zeroValue175,
    t26:=Tryz.underlying3,
    a26:=Tryz.isAgg3,
    z26:=Tryz.sizeOf3,
    v26:=Tryz.zeroValue3,
    t27:=Tryz.underlying178,
    a27:=Tryz.isAgg178,
    z27:=Tryz.sizeOf178,
    v27:=Tryz.zeroValue178,
    t28:=Tryz.underlying179,
    a28:=Tryz.isAgg179,
    z28:=Tryz.sizeOf179,
    v28:=Tryz.zeroValue179,
    t33:=Tryz.underlying216,
    a33:=Tryz.isAgg216,
    z33:=Tryz.sizeOf216,
    v33:=Tryz.zeroValue216 }
def mj:Go.Shelf.Ren:=⟨fun | 6=> 94 | 8=> 156 | 9=> 157 | 11=> 191 | 13=> 193 | 12=> 192 | 23=> 219 | 24=> 220 | 14=> 211 | 15=> 212 | 16=> 213 | 17=> 214 | 18=> 215 | 19=> 216 | 20=> 207 | 21=> 217 | 22=> 218 | 25=> 230 | 26=> 231 | 27=> 232 | 28=> 233 | 29=> 234 | 30=> 228 | 31=> 239 | n=> n,fun | 26=> 3 | 28=> 179 | 24=> 22 | 0=> 0 | 3=> 3 | 37=> 243 | 48=> 260 | 50=> 262 | 4=> 4 | 40=> 254 | 39=> 253 | 45=> 193 | 5=> 5 | 9=> 9 | 51=> 265 | 55=> 269 | 57=> 272 | 58=> 273 | 33=> 216 | n=> n,fun | n=> n⟩
theorem ze:Go.Proofs.SlLaysZI.n6 Tryz.prog mj:=
  { mixed:=by kernel_rfl,
    f6:=⟨Tryz.f94.name,by decide,Tryz.func94.trans (congrArg some ae)⟩,
    f8:=⟨Tryz.f156.name,by decide,Tryz.func156.trans (congrArg some ae)⟩,
    f11:=⟨Tryz.f191.name,by decide,Tryz.func191.trans (congrArg some ae)⟩,
    t0:=Tryz.underlying0,
    a0:=Tryz.isAgg0,
    z0:=Tryz.sizeOf0,
    v0:=Tryz.zeroValue0,
    t24:=Tryz.underlying22,
    a24:=Tryz.isAgg22,
    z24:=Tryz.sizeOf22,
    v24:=Tryz.zeroValue22,
    t26:=Tryz.underlying3,
    a26:=Tryz.isAgg3,
    z26:=Tryz.sizeOf3,
    v26:=Tryz.zeroValue3,
    t28:=Tryz.underlying179,
    a28:=Tryz.isAgg179,
    z28:=Tryz.sizeOf179,
    v28:=Tryz.zeroValue179,
    i26:=by kernel_rfl }
def uU:Go.Shelf.Ren:=⟨fun | 5=> 157 | 8=> 193 | 7=> 192 | 19=> 219 | 20=> 220 | 10=> 211 | 11=> 212 | 12=> 213 | 13=> 214 | 14=> 215 | 15=> 216 | 16=> 207 | 17=> 217 | 18=> 218 | 30=> 230 | 31=> 231 | 32=> 232 | 33=> 233 | 34=> 234 | 35=> 228 | 40=> 239 | n=> n,fun | 23=> 22 | 25=> 3 | 3=> 3 | 32=> 243 | 22=> 22 | 0=> 0 | 44=> 260 | 46=> 262 | 4=> 4 | 36=> 254 | 35=> 253 | 41=> 193 | 5=> 5 | 9=> 9 | 53=> 265 | 57=> 269 | 63=> 272 | 64=> 273 | n=> n,fun | n=> n⟩
theorem xu:Go.Proofs.SlLaysM.n5 Tryz.prog uU:=
  { mixed:=by kernel_rfl,
    f5:=⟨Tryz.f157.name,by decide,Tryz.func157.trans (congrArg some ae)⟩,
    f7:=⟨Tryz.f192.name,by decide,Tryz.func192.trans (congrArg some ae)⟩,
    f8:=Tryz.func193.trans (congrArg some ae),
    f10:=⟨Tryz.f211.name,by decide,Tryz.func211.trans (congrArg some ae)⟩,
    f11:=⟨Tryz.f212.name,by decide,Tryz.func212.trans (congrArg some ae)⟩,
    f12:=⟨Tryz.f213.name,by decide,Tryz.func213.trans (congrArg some ae)⟩,
    f13:=⟨Tryz.f214.name,by decide,Tryz.func214.trans (congrArg some ae)⟩,
    f14:=⟨Tryz.f215.name,by decide,Tryz.func215.trans (congrArg some ae)⟩,
    f15:=⟨Tryz.f216.name,by decide,Tryz.func216.trans (congrArg some ae)⟩,
    f16:=⟨Tryz.f207.name,by decide,Tryz.func207.trans (congrArg some ae)⟩,
    f17:=⟨Tryz.f217.name,by decide,Tryz.func217.trans (congrArg some ae)⟩,
    f18:=⟨Tryz.f218.name,by decide,Tryz.func218.trans (congrArg some ae)⟩,
    f19:=Tryz.func219.trans (congrArg some ae),
    f20:=Tryz.func220.trans (congrArg some ae),
    f30:=⟨Tryz.f230.name,by decide,Tryz.func230.trans (congrArg some ae)⟩,
    f31:=Tryz.func231.trans (congrArg some ae),
    f32:=Tryz.func232.trans (congrArg some ae),
    f33:=⟨Tryz.f233.name,by decide,Tryz.func233.trans (congrArg some ae)⟩,
    f34:=⟨Tryz.f234.name,by decide,Tryz.func234.trans (congrArg some ae)⟩,
    f35:=⟨Tryz.f228.name,by decide,Tryz.func228.trans (congrArg some ae)⟩,
    f40:=⟨Tryz.f239.name,by decide,Tryz.func239.trans (congrArg some ae)⟩,
    t0:=Tryz.underlying0,
    a0:=Tryz.isAgg0,
    z0:=Tryz.sizeOf0,
    v0:=Tryz.zeroValue0,
    t3:=Tryz.underlying3,
    a3:=Tryz.isAgg3,
    z3:=Tryz.sizeOf3,
    v3:=Tryz.zeroValue3,
    t4:=Tryz.underlying4,
    a4:=Tryz.isAgg4,
    z4:=Tryz.sizeOf4,
    v4:=Tryz.zeroValue4,
    t5:=Tryz.underlying5,
    a5:=Tryz.isAgg5,
    z5:=Tryz.sizeOf5,
    v5:=Tryz.zeroValue5,
    t9:=Tryz.underlying9,
    a9:=Tryz.isAgg9,
    z9:=Tryz.sizeOf9,
    v9:=Tryz.zeroValue9,
    t22:=Tryz.underlying22,
    a22:=Tryz.isAgg22,
    z22:=Tryz.sizeOf22,
    v22:=Tryz.zeroValue22,
    t23:=Tryz.underlying22,
    a23:=Tryz.isAgg22,
    z23:=Tryz.sizeOf22,
    v23:=Tryz.zeroValue22,
    t25:=Tryz.underlying3,
    a25:=Tryz.isAgg3,
    z25:=Tryz.sizeOf3,
    v25:=Tryz.zeroValue3,
    t32:=Tryz.underlying243,
    a32:=Tryz.isAgg243,
    z32:=Tryz.sizeOf243,
    v32:=Tryz.zeroValue243,
    t35:=Tryz.underlying253,
    a35:=Tryz.isAgg253,
    z35:=Tryz.sizeOf253,
    v35:=Tryz.zeroValue253,
    t36:=Tryz.underlying254,
    a36:=Tryz.isAgg254,
    z36:=Tryz.sizeOf254,
    v36:=Tryz.zeroValue254,
    t41:=Tryz.underlying193,
    a41:=Tryz.isAgg193,
    z41:=Tryz.sizeOf193,
    v41:=Tryz.zeroValue193,
    t44:=Tryz.underlying260,
    a44:=Tryz.isAgg260,
    z44:=Tryz.sizeOf260,
    v44:=Tryz.zeroValue260,
    t46:=Tryz.underlying262,
    a46:=Tryz.isAgg262,
    z46:=Tryz.sizeOf262,
    v46:=Tryz.zeroValue262,
    t53:=Tryz.underlying265,
    a53:=Tryz.isAgg265,
    z53:=Tryz.sizeOf265,
    v53:=Tryz.zeroValue265,
    t57:=Tryz.underlying269,
    a57:=Tryz.isAgg269,
    z57:=Tryz.sizeOf269,
    v57:=Tryz.zeroValue269,
    t63:=Tryz.underlying272,
    a63:=Tryz.isAgg272,
    z63:=Tryz.sizeOf272,
    v63:=Tryz.zeroValue272,
    t64:=Tryz.underlying273,
    a64:=Tryz.isAgg273,
    z64:=Tryz.sizeOf273,
    v64:=Tryz.zeroValue273 }
theorem HB (m:Nat):AnyZI.SortsIn Tryz.prog mj Fence.wide m:=
  ⟨fun blk off cap ss W hH hblk hsz=> callsIn_wide.2 (AnyM.slices_Sort_int xu blk off cap ss W hH hblk hsz),
   fun p cap W=> callsIn_wide.2 (AnyM.slices_Sort_int_none xu p cap W)⟩
abbrev Ju:Value→Option (DataW Unit×List MemPlace):=fun _=> some (.nil,[])
theorem BY (M:List (Int×Value)):(em M).map (fun x=> x.key)=M.map fun p=> Value.int .i64 p.1:=by
  apply List.ext_getElem?
  intro j
  rw [List.getElem?_map,jT,List.getElem?_map]
  cases M[j]? <;> rfl
theorem sg (M:List (Int×Value)):(em M).map (fun x=> x.born)=List.range M.length:=by
  apply List.ext_getElem?
  intro j
  rw [List.getElem?_map,jT]
  by_cases h:j < M.length
  · rw [List.getElem?_eq_getElem h,List.getElem?_range h];rfl
  rw [List.getElem?_eq_none ab,List.getElem?_eq_none (by simp;omega)];rfl
theorem BC {M:List (Int×Value)} {x:MapEntry} (h:x∈em M): ∃ p∈M,x.key= .int .i64 p.1:=by
  obtain ⟨j,hj⟩:=List.getElem?_of_mem h
  rw [jT] at hj
  obtain ⟨p,hp,rfl⟩:=Option.map_eq_some_iff.1 hj
  exact ⟨p,List.mem_of_getElem? hp,rfl⟩
theorem IO {a:Int} (h:0≤a∧a≤1000000):(Lit.int .i64 a).wf=true:=by
  have h1:IntKind.i64.min= -9223372036854775808:=by decide
  have h2:IntKind.i64.max=9223372036854775807:=by decide
  simp only [Lit.wf,h1,h2,Bool.and_eq_true,decide_eq_true_eq]
  omega
theorem ES {P:Program} {a:Int} (hk:P.underlying 3=some (.int .i64)) (h:0≤a∧a≤1000000):keyOf P 3 (.int .i64 a)=some (.int .i64 a):=keyOf_int_mk hk (IO h)
theorem KJ:Hi:=by
  intro M g b w hlen hnd hrg hlt hcell hb
  have hk3:Tryz.prog.underlying 3=some (.int .i64):=Tryz.underlying3
  have hlen2:(em M).length=M.length:=Bp M
  have hrd: ∀ x∈em M,∃ p∈M,Go.WideElems.rd Tryz.prog 3 Ju x=some (.int .i64 p.1, .nil)∧x.key= .int .i64 p.1:=by
    intro x hx
    obtain ⟨p,hp,hkx⟩:=BC hx
    refine ⟨p,hp,?_,hkx⟩
    have:=Go.WideElems.rd_mk (P:=Tryz.prog) (k:=3) (R:=Ju) (val:=x.val) (born:=x.born) (ES hk3 (hrg p hp)) (yv:=(.nil,[])) rfl
    rw [← hkx] at this
    exact this
  obtain ⟨E,hE⟩: ∃ E,E=((em M).map (Go.WideElems.rg Tryz.prog 3 Ju)).foldr DataW.insert []:=⟨_,rfl⟩
  have hperm:E.Perm ((em M).map (Go.WideElems.rg Tryz.prog 3 Ju)):=by rw [hE];exact Go.WideShapes.sorted_perm _
  have hkeys:((em M).map (Go.WideElems.rg Tryz.prog 3 Ju)).map (fun p=> Go.intOf p.1)=M.map (·.1):=by
    apply List.ext_getElem?
    intro j
    rw [List.getElem?_map,List.getElem?_map,List.getElem?_map]
    cases hj:(em M)[j]? with
    | none=>
      rw [jT] at hj
      have:=Option.map_eq_none_iff.1 hj
      rw [this];rfl
    | some x=>
      obtain ⟨q,_,h1,h2⟩:=hrd x (List.mem_of_getElem? hj)
      rw [jT] at hj
      obtain ⟨p,hp,rfl⟩:=Option.map_eq_some_iff.1 hj
      rw [hp]
      simp only [Option.map_some,Go.WideElems.rg_of h1,Go.intOf]
      have h2:Value.int .i64 p.1=Value.int .i64 q.1:=h2
      have h3:p.1=q.1:=by injection h2
      rw [h3]
  have hown:w.ownsMap Tryz.prog 3 Ju b M.length (.map E):=by
    refine ⟨(em M).toArray,M.length,hb,⟨by simp only [List.size_toArray];rw [hlen2];unfold maxLen;omega,⟨?_,?_,?_⟩,fun x hx=> ?_⟩,by simp only [List.size_toArray];omega,by rw [hE]⟩
    · intro x hx
      have h1:x.born∈(em M).map (fun x=> x.born):=List.mem_map_of_mem (by simpa using hx)
      rw [sg] at h1
      simpa using h1
    · show ((em M).map (fun x=> x.born)).Nodup
      rw [sg];exact List.nodup_range
    · show ((em M).map (fun x=> x.key)).Nodup
      rw [BY]
      have:(M.map fun p=> Value.int .i64 p.1)=(M.map (·.1)).map (fun n=> Value.int .i64 n):=by rw [List.map_map];rfl
      rw [this]
      exact hnd.map (fun n=> Value.int .i64 n) fun a b h e=> h (by cases e;rfl)
    obtain ⟨p,_,h1,_⟩:=hrd x (by simpa using hx)
    exact ⟨_,h1⟩
  have hsz:Maps.size (.map E:DataW Unit)=M.length:=by
    show E.length=_
    rw [hperm.length_eq,List.length_map,hlen2]
  have hseq:SeqGives Fence.wide 2 Tryz.prog 158 #[.pointer (some ⟨g,0,none⟩)] encZ (fun ss=> ss.Perm (intKeys (.map E:DataW Unit))) (Maps.size (.map E:DataW Unit)) w:=
    AnyZI.keys_gives (ρ:=oT) { FY with } Fence.wide 2 trivial rfl ab g b M.length (.map E) w hlt hcell hown
  have cS:=AnyZI.sorted_in ze Fence.wide 5 trivial trivial trivial trivial rfl ab (HB _) (enters_of Tryz.func157 ae rfl) 158 #[.pointer (some ⟨g,0,none⟩)] trivial (enters_of Tryz.func158 ae rfl) _ _ (by rw [hsz];unfold maxLen;omega) (by rw [hsz];omega) _ hseq
  change CallsIn _ _ Tryz.prog 94 _ _ _ at cS
  refine ((callsIn_wide (n:=5)).1 cS).mono ?_
  rintro e w' ⟨v,ss,rfl,hS,hrow,_,hbl⟩
  refine ⟨v,ss,rfl,?_,hrow,hbl⟩
  have h1:ss.Perm (E.map fun p=> Go.intOf p.1):=hS
  have h2:=hperm.map (fun p=> Go.intOf p.1)
  rw [hkeys] at h2
  exact h1.trans h2
theorem Kp:Bc:=BA KJ
end Go.Proofs.YtmjnackchaahbaaGreat

set_option maxHeartbeats 2000000
namespace Go.Proofs.YtmjnackchaahbaaGreat
open Go.RowKit

def rS (L:List Int) (i:Nat) (m:Int):Int:=if i < L.length then du (L.getD i 0) m else 0
theorem sF (L:List Int) (i:Nat) {m:Int} (hm:1≤m):0≤rS L i m:=by
 unfold rS;split
 ·exact iC _ _ ab
 omega
theorem tQ (L:List Int) (i:Nat) {m:Int} (hm:1≤m):rS L i m < m:=by
 unfold rS;split
 ·exact jU _ _ ab
 omega
theorem qx {L:List Int} (h:GL L) (i:Nat) (hi:i≤2000000) (m:Int) (hm:1≤m∧m≤1000):
  Spec Tryz.prog 58 (aI [.sl L.length (ba L), .v (.int .i64 (i:Int)), .v (.int .i64 m)] []) (aA (.v (.int .i64 (rS L i m))) []):=by
 have hn:=h.n
 by_cases hk:i < L.length
 ·have hr:=h.r (L.getD i 0) (by rw [List.getD_eq_getElem?_getD,List.getElem?_eq_getElem hk];exact List.getElem_mem hk)
  have ha:=jv (L.getD i 0) m ab ab hr.1 hr.2
  rw [show rS L i m=du (L.getD i 0) m from if_pos hk]
  refine Spec.ofN Tryz.func58 rfl Tryz.ntmps58 rfl ?_
  refine go 6 ?_
  refine aj (cT (r:=false) _ _ rfl rfl (decide_eq_false ab)) ?_
  refine go 4 ?_
  refine aZ rfl rfl (eg (r:=false) _ _ rfl rfl (decide_eq_false ab)) ?_
  refine go 7 ?_
  refine aj (aQ _ _ aa rfl rfl _ rfl ab (by (simp only [aq,aJ,aM,aq,bT,bm];omega)) (by exact Nat.mul_one _)) ?_
  refine aj (bl _ aa rfl (by exact cw _ _ ab) rfl) ?_
  refine bV rfl (aj (ap aa al (ha) rfl rfl) ?_)
  exact cp rfl (am (au (eb rfl rfl)))
 rw [show rS L i m=0 from if_neg hk]
 refine Spec.ofN Tryz.func58 rfl Tryz.ntmps58 rfl ?_
 refine go 6 ?_
 refine aj (cT (r:=false) _ _ rfl rfl (decide_eq_false ab)) ?_
 refine go 4 ?_
 refine aZ rfl rfl (eg (r:=true) _ _ rfl rfl (decide_eq_true ab)) ?_
 refine go 6 ?_
 exact au (eb rfl rfl)
def KX (b:List Int) (k:Nat):Int:=if k=0 then rS b 0 9 % (1+rS b 1 3) else if k=1 then 1+rS b 1 3 else rS b k 9
def zm (b:List Int) (q k:Nat):Int:=if k < q then rS b k 9 else 0
abbrev L9 (e:Nat→Int):List AV:=[.v (.int .i64 (e 0)), .v (.int .i64 (e 1)), .v (.int .i64 (e 2)), .v (.int .i64 (e 3)), .v (.int .i64 (e 4)), .v (.int .i64 (e 5)), .v (.int .i64 (e 6)), .v (.int .i64 (e 7)), .v (.int .i64 (e 8))]
theorem Jl (e:Nat→Int) (h:Nat) (hh:h < 9) (x:Int):eO (L9 e) h [.v (.int .i64 x)]=L9 (kB e h x):=by
 rcases h with _ | _ | _ | _ | _ | _ | _ | _ | _ | h
 all_goals first | rfl | omega
theorem EI (b:List Int) (q:Nat):kB (zm b q) q (rS b q 9)=zm b (q+1):=by
 funext k
 unfold kB zm
 by_cases h1:k=q
 ·rw [if_pos h1,if_pos ab,h1]
 rw [if_neg h1]
 by_cases h2:k < q
 ·rw [if_pos h2,if_pos ab]
 rw [if_neg h2,if_neg ab]
theorem vY (b:List Int) (G:GL b):
  Spec Tryz.prog 23 (aI [.sl b.length (ba b)] []) (aA (.agg (L9 (KX b))) []):=by
 have h1:=qx G 1 ab 3 ab
 have hlo:=sF b 1 (m:=3) ab
 have hhi:=tQ b 1 (m:=3) ab
 have hlo0:=sF b 0 (m:=9) ab
 have hhi0:=tQ b 0 (m:=9) ab
 refine Spec.ofN Tryz.func23 rfl Tryz.ntmps23 rfl ?_
 refine go 6 ?_
 refine aF fun K3 hK3=> ?_
 refine aG (cp rfl (am (aH ?_)))
 refine aS (α:=Nat) (fun q=> q≤9) 25 [(0,_),(2,_),(3,_)] [((2,0),_)] (fun q=> [(4, .v (.int .i64 (q:Int)))]) (fun q=> [((3,0), .box 30 [.v (.int .i64 (zm b q 0)), .v (.int .i64 (zm b q 1)), .v (.int .i64 (zm b q 2)), .v (.int .i64 (zm b q 3)), .v (.int .i64 (zm b q 4)), .v (.int .i64 (zm b q 5)), .v (.int .i64 (zm b q 6)), .v (.int .i64 (zm b q 7)), .v (.int .i64 (zm b q 8))])]) [] [] (fun q=> 9 - q) 0 ?_ (kj [0,1] [] []) ?_
 ·omega
 intro q hq
 refine aF fun K5 hK5=> ?_
 refine go 4 ?_
 refine ax rfl (fun hc6=> ?_) (fun hc6=> ?_)
 ·have hq9:=qx G q ab 9 ab
  refine aR (hK5 _ ?_)
  refine go 6 ?_
  refine aj (ap aa al (hq9) rfl rfl) ?_
  refine aj (bO _ _ aa rfl rfl rfl q rfl ab (by exact (Nat.zero_add _).trans (Nat.mul_one _))) ?_
  refine aj (dE _ _ aa rfl rfl rfl rfl (show q+1≤9 by omega) ((Jl (zm b q) q ab _).trans (by rw [EI]))) ?_
  refine go 5 ?_
  refine ay (⟨q+1,?_,?_,?_⟩)
  ·omega
  ·exact kj [0,1] [] []
  omega
 obtain rfl:q=9:=by omega
 refine aW (id (hK3 _ ?_))
 refine aG (gT rfl (aj (ap aa al (h1) rfl rfl) ?_))
 refine aj (eI (r:=1+rS b 1 3) _ _ rfl rfl (bQ ab)) ?_
 refine aj (bO _ _ aa rfl rfl rfl 1 rfl ab (by exact (Nat.zero_add _).trans (Nat.mul_one _))) ?_
 refine go 3 ?_
 refine aj (bO _ _ aa rfl rfl rfl 0 rfl ab (by exact (Nat.zero_add _).trans (Nat.mul_one _))) ?_
 refine Pp rfl rfl rfl (aj (bO _ _ aa rfl rfl rfl 1 rfl ab (by exact (Nat.zero_add _).trans (Nat.mul_one _))) ?_)
 refine Pp rfl rfl rfl (aj (de (r:=rS b 0 9 % (1+rS b 1 3)) _ _ rfl rfl ab (Int.tmod_eq_emod_of_nonneg hlo0)) ?_)
 refine aj (bO _ _ aa rfl rfl rfl 0 rfl ab (by exact (Nat.zero_add _).trans (Nat.mul_one _))) ?_
 refine go 6 ?_
 exact au (uo [])
theorem Ix (b:List Int) (k:Nat):Rg (KX b k):=by
 have h1:=sF b 1 (m:=3) ab
 have h2:=tQ b 1 (m:=3) ab
 have h3:=sF b k (m:=9) ab
 have h4:=tQ b k (m:=9) ab
 unfold KX Rg
 split
 ·have h5:=Int.emod_nonneg (rS b 0 9) (show 1+rS b 1 3≠0 by omega)
  have h6:=Int.emod_lt_of_pos (rS b 0 9) (show 0 < 1+rS b 1 3 by omega)
  omega
 split <;> omega
end Go.Proofs.YtmjnackchaahbaaGreat

set_option maxHeartbeats 2000000
namespace Go.Proofs.YtmjnackchaahbaaGreat
open Go.RowKit

abbrev PA (a:Na):List AV:=[.v (.int .i64 (if a.crash=true then 1 else 0)), .v (.int .i64 (a.h:Int)), .v (.int .i64 (a.names.getD 0 0)), .v (.int .i64 (a.names.getD 1 0)), .v (.int .i64 (a.names.getD 2 0)), .v (.int .i64 (a.names.getD 3 0)), .v (.int .i64 (a.names.getD 4 0)), .v (.int .i64 (a.names.getD 5 0)), .v (.int .i64 (a.names.getD 6 0)), .v (.int .i64 (a.names.getD 7 0)), .v (.int .i64 (a.names.getD 8 0)), .v (.int .i64 a.wait), .v (.int .i64 a.tick), .sl a.draws.length (ba a.draws), .sl a.keeps.length (ba a.keeps)]
abbrev vz (a:Na):AV:= .agg (PA a)
def FW (a:Na):List PV:=[.v (.int .i64 (if a.crash=true then 1 else 0)), .v (.int .i64 (a.h:Int)), .v (.int .i64 (a.names.getD 0 0)), .v (.int .i64 (a.names.getD 1 0)), .v (.int .i64 (a.names.getD 2 0)), .v (.int .i64 (a.names.getD 3 0)), .v (.int .i64 (a.names.getD 4 0)), .v (.int .i64 (a.names.getD 5 0)), .v (.int .i64 (a.names.getD 6 0)), .v (.int .i64 (a.names.getD 7 0)), .v (.int .i64 (a.names.getD 8 0)), .v (.int .i64 a.wait), .v (.int .i64 a.tick), .sl a.draws.length (ba a.draws), .sl a.keeps.length (ba a.keeps)]
def DZ (l:List Na):List PV:=l.flatMap FW
def Kb:Na:=⟨false,0,[],0,0,[],[]⟩
theorem eU (l:List Na):(DZ l).length=l.length*15:=gB FW 15 (fun _=> rfl) l
theorem By (l:List Na) (k:Nat) (h:k < l.length):PV.ups (((DZ l).drop (k*15)).take 15)=PA (l.getD k Kb):=by
 have e:l.getD k Kb=l[k]:=by rw [List.getD_eq_getElem?_getD,List.getElem?_eq_getElem h];rfl
 rw [e,show ((DZ l).drop (k*15)).take 15=FW l[k] from ml FW 15 (fun _=> rfl) l k h];rfl
theorem Dv (l:List Na) (x:Na):DZ l++FW x=DZ (l++[x]):=jy FW l x
theorem MK {ρ:az→az} {σ:St} {F:az→Bool} {id:az} {e:TypeId} {n m:Nat} {l r:List An} (hid:σ.ob id= .obj (.row e 6 (nD l))) (hF:F id=true) (hm:n=m) (hl:l=r) (hn:m=r.length):Lv ρ σ F (.sl m (nD r)) (.ref id 0 n):=by
 subst hm;subst hl
 exact dI hid hF (by rw [cX,hn]) rfl
theorem sk (p l:List An) (x:An):nD (p++l)++Ew x=nD (p++(l++[x])):=by rw [DW,List.append_assoc]
theorem ir (c1 c2 c3:Int) (a:Na) (h1:a.draws.length≤1000) (h2:a.keeps.length≤1000):
  Spec Tryz.prog 78 (aI [vz a, .agg [.v (.int .i64 c1), .v (.int .i64 c2), .v (.int .i64 c3)]] []) (aA (.sl (eD c1 c2 c3 a.tick a.draws a.keeps).length (nD (eD c1 c2 c3 a.tick a.draws a.keeps))) []):=by
 refine Spec.ofN Tryz.func78 rfl Tryz.ntmps78 rfl ?_
 refine go 3 ?_
 refine aj (aX _ ea) (go 7 ?_)
 refine aj (gp (13,0) _ _ aa rfl ag (by (simp <;> rfl)) ah rfl rfl) ?_
 refine dZ rfl (am (aF fun K3 hK3=> ?_))
 refine aG (cp rfl (am (aH ?_)))
 refine aS (α:=Nat) (fun j=> j≤a.draws.length) 53 [(2,_),(3,_)] [((2,0),_),((3,0),_)] (fun j=> [(5, .ref (13,0) 0 (1+j)),(6, .v (.int .i64 (j:Int)))]) (fun j=> [((13,0), .row 196 6 (nD ([⟨c1,c2,c3,2,0,a.tick⟩]++gM c1 c2 c3 1 (a.draws.take j))))]) [] [] (fun j=> a.draws.length - j) 0 ?_ (kj [0,0,2] [] []) ?_
 ·omega
 intro j hj
 refine aF fun K5 hK5=> ?_
 refine go 7 ?_
 refine ax rfl (fun hc18=> ?_) (fun hc18=> ?_)
 ·have q1:=oG c1 c2 c3 1 a.draws (j:=j) ab
  have q2:=sk [⟨c1,c2,c3,2,0,a.tick⟩] (gM c1 c2 c3 1 (a.draws.take j)) ⟨c1,c2,c3,1,(j:Int),a.draws.getD j 0⟩
  rw [← q1] at q2
  have q3:(1+j)*6=(nD ([⟨c1,c2,c3,2,0,a.tick⟩]++gM c1 c2 c3 1 (a.draws.take j))).length:=by rw [cX,List.length_append,ic,List.length_take,Nat.min_eq_left ab];rfl
  refine aR (hK5 _ ?_)
  refine aE (aH ?_)
  refine aB (σ':=an 53 [(2,_),(3,_),(5,_),(6,_)] [((2,0),_),((3,0),_),((13,0),_)] [] []) kp ?_
  refine dA 12 [(13,0),(32,0)] ?_
  refine go 14 ?_
  refine aC (_,[]) (fun τ=> aQ _ _ aa rfl rfl _ rfl ab (by (simp only [aq,aJ,aM,aq,cX,ic];omega)) (by exact Nat.mul_one _)) ?_
  refine go 1 ?_
  refine aC (_,[]) (fun τ=> bl _ aa rfl (by exact cw _ _ ab) rfl) ?_
  refine go 5 ?_
  refine aC (_,[((13,0), .gone),((32,0),_)]) (fun τ=> qR (32,0) _ _ aa rfl rfl q3 (.sl rfl) ab rfl rfl rfl (by exact q2) rfl) ?_
  refine go 8 ?_
  refine ay (⟨j+1,?_,?_,?_⟩)
  ·omega
  ·refine Le.mkJ [((13,0),(32,0))] [] rfl ?_ ?_ trivial trivial ?_
   ·exact ⟨(bv (id:=(2,0)) rfl),(bv (id:=(3,0)) rfl),(ca rfl ag),(aN ag),trivial⟩
   ·exact ⟨(cI rfl rfl rfl rfl (by repeat' (first | exact Lv.v | exact Lv.sl | exact aK | refine ai ?_ ?_))),(cI rfl rfl rfl rfl (by repeat' (first | exact Lv.v | exact aK | refine ai ?_ ?_))),(cD rfl rfl rfl ag),trivial⟩
   kernel_rfl
  omega
 obtain rfl:j=a.draws.length:=by omega
 have e0:a.draws.take a.draws.length=a.draws:=List.take_length
 refine aW (id (hK3 _ ?_))
 refine aF fun K8 hK8=> ?_
 refine aG (cp rfl (am (aH ?_)))
 refine aS (α:=Nat) (fun i=> i≤a.keeps.length) 53 [(2,_),(3,_)] [((2,0),_),((3,0),_)] (fun i=> [(5, .ref (13,0) 0 (1+a.draws.length+i)),(7, .v (.int .i64 (i:Int)))]) (fun i=> [((13,0), .row 196 6 (nD ([⟨c1,c2,c3,2,0,a.tick⟩]++gM c1 c2 c3 1 a.draws++gM c1 c2 c3 3 (a.keeps.take i))))]) [] [] (fun i=> a.keeps.length - i) 0 ?_ (by
  refine Le.mkJ [] [] rfl ?_ ?_ trivial trivial ?_
  ·exact ⟨(iP rfl),(iP rfl),(ca rfl ag),(aN ag),trivial⟩
  ·exact ⟨(bN rfl rfl rfl),(bN rfl rfl rfl),(cD rfl rfl rfl (by (rw [e0];simp [gM]))),trivial⟩
  kernel_rfl) ?_
 ·omega
 intro i hi
 refine aF fun K10 hK10=> ?_
 refine go 7 ?_
 refine ax rfl (fun hc37=> ?_) (fun hc37=> ?_)
 ·have q1:=oG c1 c2 c3 3 a.keeps (j:=i) ab
  have q2:=sk ([⟨c1,c2,c3,2,0,a.tick⟩]++gM c1 c2 c3 1 a.draws) (gM c1 c2 c3 3 (a.keeps.take i)) ⟨c1,c2,c3,3,(i:Int),a.keeps.getD i 0⟩
  rw [← q1] at q2
  have q3:(1+a.draws.length+i)*6=(nD ([⟨c1,c2,c3,2,0,a.tick⟩]++gM c1 c2 c3 1 a.draws++gM c1 c2 c3 3 (a.keeps.take i))).length:=by rw [cX,List.length_append,List.length_append,ic,ic,List.length_take,Nat.min_eq_left ab];rfl
  refine aR (hK10 _ ?_)
  refine aE (aH ?_)
  refine aB (σ':=an 53 [(2,_),(3,_),(5,_),(7,_)] [((2,0),_),((3,0),_),((13,0),_)] [] []) kp ?_
  refine dA 12 [(13,0),(51,0)] ?_
  refine go 14 ?_
  refine aC (_,[]) (fun τ=> aQ _ _ aa rfl rfl _ rfl ab (by (simp only [aq,aJ,aM,aq,cX,ic];omega)) (by exact Nat.mul_one _)) ?_
  refine go 1 ?_
  refine aC (_,[]) (fun τ=> bl _ aa rfl (by exact cw _ _ ab) rfl) ?_
  refine go 5 ?_
  refine aC (_,[((13,0), .gone),((51,0),_)]) (fun τ=> qR (51,0) _ _ aa rfl rfl q3 (.sl rfl) ab rfl rfl rfl (by exact q2) rfl) ?_
  refine go 8 ?_
  refine ay (⟨i+1,?_,?_,?_⟩)
  ·omega
  ·refine Le.mkJ [((13,0),(51,0))] [] rfl ?_ ?_ trivial trivial ?_
   ·exact ⟨(bv (id:=(2,0)) rfl),(bv (id:=(3,0)) rfl),(ca rfl ag),(aN ag),trivial⟩
   ·exact ⟨(cI rfl rfl rfl rfl (by repeat' (first | exact Lv.v | exact Lv.sl | exact aK | refine ai ?_ ?_))),(cI rfl rfl rfl rfl (by repeat' (first | exact Lv.v | exact aK | refine ai ?_ ?_))),(cD rfl rfl rfl ag),trivial⟩
   kernel_rfl
  omega
 obtain rfl:i=a.keeps.length:=by omega
 have e1:a.keeps.take a.keeps.length=a.keeps:=List.take_length
 have e2:=jG c1 c2 c3 a.tick a.draws a.keeps
 refine aW (id (hK8 _ ?_))
 exact aG (ij rfl (dZ rfl (am (au (cq (.inr rfl) rfl (.tmp mP) (Le.out [] [(13,0)] (MK rfl rfl e2.symm (by rw [e1];rfl) rfl) rfl rfl rfl tr trivial))))))

section
variable {io:az} {Φ:Slot→Prop} {P:Program} {σ:St} {all:List Oper} {W:List Nat} {I:List az} {Kont:List Res→Prop} {os:List Oper} {rs:List Res} {d:Option Tmp} {op:Op} {ty:TypeId} {p:String} {af:List Edge}
theorem jj (r:Res)
  (hs: ∀ τ:St,Φ (τ.ob io)→Stp P d op ty (ei σ W I (r.2.map (·.1)) all rs (Edge.ons af) τ) (r.app d (ei σ W I (r.2.map (·.1)) all rs (Edge.ons af) τ))) (h:AnyOpsX io Φ P all W I σ Kont os (rs++[r])):AnyOpsX io Φ P all W I σ Kont (⟨d,op,ty,p,af.toArray,none⟩::os) rs:=
 ⟨r, .plain rfl fun τ hτ=> hs τ hτ _ rfl rfl rfl,h⟩
theorem AG (h:Kont rs):AnyOpsX io Φ P all W I σ Kont [] rs:=h
theorem iH {rs':List Res} (h:rs=rs') (hh:AnyOpsX io Φ P all W I σ Kont os rs'):AnyOpsX io Φ P all W I σ Kont os rs:=h ▸ hh
end
theorem Gf (io:az) (Φ:Slot→Prop) {rb:Bool} {P:Program} {Q:Exit→St→Prop} {σ:St} {id:Nat} {l hd tl:List Oper} (n:Nat) (W:List Nat) (I:List az) (hm:P.follows .mixedOrders=true) (hB:kG l.toArray n=true) (hW:(l.take n).filterMap (·.dst)=W)
  (e1:l.take n=hd) (e2:l.drop n=tl) (h0:Φ (σ.ob io)) (h:AnyOpsX io Φ P hd W I σ (fun rs=> ((gh rs=I∧chainB hd rs=true∧uH rs=true)∧ ∀ r∈rs,∀ c,(io,c)∈r.2→Φ c)∧DL rb P l.toArray Q tl (dh hd rs (fun _=> true) 0 σ)) hd []):D rb P (.region id l.toArray true) Q σ:=by
 subst e1;subst e2
 exact CM io Φ n W I hm hB hW h0 h
theorem Le.incA {σ:St} (id:az):Le (σ.setInc id true) σ:=by
 intro K ι S a w R
 refine ⟨ι,S,R.keeps,R.S0,R.Slt,R.nt,R.df,R.fr,R.cl,R.clo,R.ob,R.dom,R.inj,fun i B g h1 h2=> ?_,R.pin,R.pf⟩
 obtain ⟨h3,h4,h5⟩:=R.sep i B g h1 h2
 refine ⟨h3,h4,fun h6=> h5 ?_⟩
 have h7:(bif gq i id then true else σ.inc i)=false:=h6
 cases hb:gq i id with
 | true=> rw [hb] at h7;cases h7
 | false=> rw [hb] at h7;exact h7
theorem gP {rb:Bool} {P:Program} {Q:Exit→St→Prop} {σ:St} {x y:Code} {α:Type} (J:α→Prop) (n:Nat) (sl:List (Nat×AV)) (os:List (az×Cells)) (sv:α→List (Nat×AV)) (ov:α→List (az×Cells)) (I Pn:List az)
  (hs:qC (aU []) σ (fun i=> cr i []) sl) (ho:dK (aU []) σ (fun i=> cr i []) I os)
  (hx:D rb P x (jP (fun σ'=> ∃ z,J z∧Le (an n (sl++sv z) (os++ov z) I Pn) σ') Q) σ)
  (hy: ∀ z,J z→D rb P y Q (an n (sl++sv z) (os++ov z) I Pn)):D rb P (.seq x y) Q σ:=by
 refine aF fun K hK=> BF hx fun e σ' h=> ?_
 cases e with
 | normal=> obtain ⟨z,hz,hle⟩:=h;exact hK σ' (aB hle (hy z hz))
 | _=> exact h
end Go.Proofs.YtmjnackchaahbaaGreat

set_option maxHeartbeats 2000000
namespace Go.Proofs.YtmjnackchaahbaaGreat
open Go.RowKit

theorem rm {n m:Int} (h0:0≤n) (h1:n < 100000000) (hm:0 < m):IntKind.i64.wrap (n.tdiv m)=n / m:=by
 rw [Int.tdiv_eq_ediv_of_nonneg h0]
 have a1:=Int.ediv_nonneg h0 (show 0≤m by omega)
 have a2:=Int.ediv_le_self m h0
 exact bQ ab
theorem vX {n m k:Int} (h0:0≤n) (hm:0 < m):(n / m).tmod k=n / m % k:=Int.tmod_eq_emod_of_nonneg (Int.ediv_nonneg h0 (show 0≤m by omega))
def hdN:List Nat:=[1,1,10,11,12,2,3,10,0,39]
def hdI:List Int:=[1,1,10,11,12,2,3,10,0,39]
theorem KH (k:Nat) (h:k < 10):hdI.getD k 0=((hdN.getD k 0:Nat):Int):=by
 rcases (show k=0∨k=1∨k=2∨k=3∨k=4∨k=5∨k=6∨k=7∨k=8∨k=9 by omega) with rfl | rfl | rfl | rfl | rfl | rfl | rfl | rfl | rfl | rfl <;> rfl
theorem Ku (k:Nat):hdN.getD k 0 < 40:=by
 by_cases h:k < 10
 ·rcases (show k=0∨k=1∨k=2∨k=3∨k=4∨k=5∨k=6∨k=7∨k=8∨k=9 by omega) with rfl | rfl | rfl | rfl | rfl | rfl | rfl | rfl | rfl | rfl <;> decide
 rw [List.getD_eq_getElem?_getD,List.getElem?_eq_none (by show 10≤k;omega)];decide
abbrev zN (n:Int):List Int:=[0,0,0,n / 960 % 3,n / 5 % 4,n / 9 % 3,n / 10 % 4 - 1,n / 3 % 5,n / 21 % 2]
abbrev Ie (n:Int):List Int:=[n,n / 7,n / 11,n / 13,n / 17,n / 19]
abbrev Am (n:Int):List Int:=(List.range 9).map (KX (Ie n))
def gZ (n:Int):Na:=⟨decide (n / 160 % 6=5),hdN.getD (n % 10).toNat 0,if n / 960 % 2=0 then zN n else Am n,n / 10 % 4 - 1,n / 40 % 4,[n / 1000 % 4,n / 4000 % 4,n / 16000 % 4],[n / 2 % 2,n / 4 % 2,n / 8 % 2,n / 16 % 2]⟩
theorem Iw (n:Int) {b:Bool} {L:List Int} (hb:decide (n / 160 % 6=5)=b) (hL:(if n / 960 % 2=0 then zN n else Am n)=L):gZ n=⟨b,hdN.getD (n % 10).toNat 0,L,n / 10 % 4 - 1,n / 40 % 4,[n / 1000 % 4,n / 4000 % 4,n / 16000 % 4],[n / 2 % 2,n / 4 % 2,n / 8 % 2,n / 16 % 2]⟩:=by subst hb;subst hL;rfl
theorem BL {n:Int} (h0:0≤n):FL (gZ n)∧(gZ n).draws.length=3∧(gZ n).keeps.length=4∧(∀ x∈(gZ n).draws,0≤x)∧(∀ x∈(gZ n).keeps,0≤x)∧(gZ n).names.length=9:=by
 refine ⟨⟨Ku _,fun i=> ?_,?_,?_⟩,rfl,rfl,fun x hx=> ?_,fun x hx=> ?_,?_⟩
 ·show Rg ((if n / 960 % 2=0 then zN n else Am n).getD i 0)
  split
  ·refine nj (fun v hv=> ?_) i
   simp only [List.mem_cons,List.not_mem_nil,or_false] at hv
   unfold Rg
   rcases hv with rfl | rfl | rfl | rfl | rfl | rfl | rfl | rfl | rfl <;> omega
  exact nj (fun x hx=> by obtain ⟨j,_,rfl⟩:=List.mem_map.1 hx;exact Ix _ j) i
 ·show -1≤n / 10 % 4 - 1∧n / 10 % 4 - 1≤2;omega
 ·show 0≤n / 40 % 4∧n / 40 % 4≤3;omega
 ·simp only [gZ,List.mem_cons,List.not_mem_nil,or_false] at hx
  rcases hx with rfl | rfl | rfl <;> omega
 ·simp only [gZ,List.mem_cons,List.not_mem_nil,or_false] at hx
  rcases hx with rfl | rfl | rfl | rfl <;> omega
 show (if n / 960 % 2=0 then zN n else Am n).length=9
 split
 ·rfl
 simp
def iL (l:List Int):List Na:=l.map fun x=> gZ (du x 100000000)
theorem wq (l:List Int) {k:Nat} (h:k < l.length):iL (l.take (k+1))=iL (l.take k)++[gZ (du (l.getD k 0) 100000000)]:=by
 unfold iL
 rw [List.take_add_one,List.getElem?_eq_getElem h,List.map_append,List.getD_eq_getElem?_getD,List.getElem?_eq_getElem h];rfl
theorem lU (l:List Int):(iL l).length=l.length:=List.length_map _
theorem Ko {ρ:az→az} {σ:St} {F:az→Bool} {id:az} {e:TypeId} {n m:Nat} {l r:List Na} (hid:σ.ob id= .obj (.row e 15 (DZ l))) (hF:F id=true) (hm:n=m) (hl:l=r) (hn:m=r.length):Lv ρ σ F (.sl m (DZ r)) (.ref id 0 n):=by
 subst hm;subst hl
 exact dI hid hF (by rw [eU,hn]) rfl
set_option maxHeartbeats 2000000 in
theorem zR (l:List Int) (hl:l.length≤4611686018427387904) (hr: ∀ x∈l, -9223372036854775808≤x∧x≤9223372036854775807):
  Spec Tryz.prog 40 (aI [.sl l.length (ba l)] []) (aA (.sl (iL (l.take 10)).length (DZ (iL (l.take 10)))) []):=by
 refine Spec.ofN Tryz.func40 rfl Tryz.ntmps40 rfl ?_
 refine aG (aj (aX _ ea) (am (aG (aj (aX _ ea) (am (aF fun K3 hK3=> ?_))))))
 refine aG (cp rfl (am (aH ?_)))
 refine aB (Le.nilS 3 (60,0) 87 15 rfl rfl) ?_
 refine aS (α:=Nat) (fun i=> i≤l.length∧i≤10) 107 [(0,_)] [] (fun i=> [(3, .ref (60,0) 0 i),(4, .v (.int .i64 (i:Int)))]) (fun i=> [((60,0), .row 87 15 (DZ (iL (l.take i))))]) [] [] (fun i=> 10 - i) 0 ?_ (kj [2] [] []) ?_
 ·exact ⟨Nat.zero_le _,Nat.zero_le _⟩
 intro i hi
 refine aF fun K5 hK5=> ?_
 refine aF fun K6 hK6=> ?_
 refine go 6 ?_
 refine cj (fun hg11=> ?_) (fun hg11=> ?_)
 ·refine go 1 ?_
  refine aZ rfl rfl (cT (r:=decide ((i:Int) < 10)) _ _ rfl rfl rfl) ?_
  refine go 1 ?_
  refine ay (hK6 _ ?_)
  refine ax rfl (fun hc14=> ?_) (fun hc14=> ?_)
  ·have hm:l.getD i 0∈l:=by rw [List.getD_eq_getElem?_getD,List.getElem?_eq_getElem ab];exact List.getElem_mem _
   have hx:=hr _ hm
   have ha:=jv (l.getD i 0) 100000000 ab ab hx.1 hx.2
   have h0:=iC (l.getD i 0) 100000000 ab
   have h1:=jU (l.getD i 0) 100000000 ab
   have q1:=wq l (k:=i) ab
   have q3:i*15=(DZ (iL (l.take i))).length:=by rw [eU,lU,List.length_take,Nat.min_eq_left ab]
   have q2:=Dv (iL (l.take i)) (gZ (du (l.getD i 0) 100000000))
   rw [← q1] at q2
   generalize du (l.getD i 0) 100000000=n at ha h0 h1 q2
   have hq:=KH (n % 10).toNat ab
   have hgt:=cw hdI (n % 10).toNat (by show _ < 10;omega)
   rw [hq] at hgt
   have hdl: ∀ {m:Int},0 < m→0≤n / m∧n / m≤n:=fun hm=> ⟨Int.ediv_nonneg h0 ab,Int.ediv_le_self _ h0⟩
   have hnm:=vY (Ie n) ⟨(show 6≤4611686018427387904 by omega),fun x hx=> by
    simp only [List.mem_cons,List.not_mem_nil,or_false] at hx
    have b1:=hdl (m:=7) ab
    have b2:=hdl (m:=11) ab
    have b3:=hdl (m:=13) ab
    have b4:=hdl (m:=17) ab
    have b5:=hdl (m:=19) ab
    rcases hx with rfl | rfl | rfl | rfl | rfl | rfl <;> omega⟩
   refine aR (hK5 _ ?_)
   refine aE (aH (aG (gT rfl (bV rfl (aj (aQ _ _ aa rfl rfl _ rfl ab (by (simp only [aq,aJ,aM,aq,eU];omega)) (by exact Nat.mul_one _)) ?_)))))
   refine aj (bl _ aa rfl (by exact cw _ _ ab) rfl) ?_
   refine aj (ap aa al (ha) rfl rfl) ?_
   refine cp rfl (am (aG (aj (gK _ _ aa rfl ag (by simp <;> rfl) ah (by exact (rfl:_=some (ba hdI)))) ?_)))
   refine bV rfl (aj (de (r:=n % 10) _ _ rfl rfl ab (Int.tmod_eq_emod_of_nonneg h0)) ?_)
   refine aj (aQ _ _ aa rfl rfl (n % 10).toNat (Int.toNat_of_nonneg ab).symm ab (by exact Nat.zero_lt_succ _) (Nat.mul_one _)) ?_
   refine aj (bl _ aa rfl (by exact hgt) rfl) ?_
   refine bV rfl (aj (dP (r:=n / 10) _ _ rfl rfl ab (rm h0 h1 ab)) ?_)
   refine aj (de (r:=n / 10 % 4) _ _ rfl rfl ab (vX h0 ab)) ?_
   refine aj (bp (r:=n / 10 % 4 - 1) _ _ rfl rfl (bQ ab)) ?_
   refine bV rfl (aj (dP (r:=n / 40) _ _ rfl rfl ab (rm h0 h1 ab)) ?_)
   refine aj (de (r:=n / 40 % 4) _ _ rfl rfl ab (vX h0 ab)) ?_
   refine go 4 ?_
   refine gP (α:=Unit) (fun u=> True) 107 [(0,_),(3,_),(4,_),(5,_),(6,_)] [((60,0),_)] (fun u=> []) (fun u=> [((6,0), .box 87 [.v (.int .i64 (if decide (n / 160 % 6=5)=true then 1 else 0)), .v (.int .i64 ((hdN.getD (n % 10).toNat 0:Nat):Int)), .v (.int .i64 0), .v (.int .i64 0), .v (.int .i64 0), .v (.int .i64 0), .v (.int .i64 0), .v (.int .i64 0), .v (.int .i64 0), .v (.int .i64 0), .v (.int .i64 0), .v (.int .i64 (n / 10 % 4 - 1)), .v (.int .i64 (n / 40 % 4)), .v (.slice none 0 0), .v (.slice none 0 0)])]) [] []
    (by exact ⟨(iS rfl),(iR rfl),(iV rfl),(iV rfl),(iP rfl),trivial⟩)
    (by exact ⟨(bN rfl rfl rfl),trivial⟩) ?_ ?_
   ·refine aE ?_
    refine aB (σ':=an 107 [(0,_),(3,_),(4,_),(5,_),(6,_)] [((60,0),_),((6,0),_)] [] []) kp ?_
    refine aD (bV rfl (aj (dP (r:=n / 160) _ _ rfl rfl ab (rm h0 h1 ab)) ?_))
    refine aj (de (r:=n / 160 % 6) _ _ rfl rfl ab (vX h0 ab)) ?_
    refine aj (bb (r:=decide (n / 160 % 6=5)) _ _ rfl rfl (by rw [Bool.eq_iff_iff];simp)) ?_
    refine am (ax rfl (fun hc38=> ?_) (fun hc38=> ?_))
    ·refine go 3 ?_
     refine ay (⟨(),?_,?_⟩)
     ·trivial
     refine Le.mkJ [] [] rfl ?_ ?_ trivial trivial ?_
     ·exact ⟨(iS rfl),(iR rfl),(iV rfl),(iV rfl),(iP rfl),trivial⟩
     ·exact ⟨(bN rfl rfl rfl),(cI rfl rfl rfl rfl (ai (aN (by ((rw [decide_eq_true hc38];rfl)))) (eZ (eW (eW (ai (by repeat' (exact Lv.v)) (ai (by repeat' (exact Lv.v)) aK))))))),trivial⟩
     kernel_rfl
    refine aR (⟨(),?_,?_⟩)
    ·trivial
    refine Le.mkJ [] [] rfl ?_ ?_ trivial trivial ?_
    ·exact ⟨(iS rfl),(iR rfl),(iV rfl),(iV rfl),(iP rfl),trivial⟩
    ·exact ⟨(bN rfl rfl rfl),(cI rfl rfl rfl rfl (ai (aN (by ((rw [decide_eq_false hc38];rfl)))) (eZ (eW (eW (ai (by repeat' (exact Lv.v)) (ai (by repeat' (exact Lv.v)) aK))))))),trivial⟩
    kernel_rfl
   intro u hu
   refine aG (bV rfl (bV rfl (aj (dP (r:=n / 7) _ _ rfl rfl ab (rm h0 h1 ab)) ?_)))
   refine bV rfl (aj (dP (r:=n / 11) _ _ rfl rfl ab (rm h0 h1 ab)) ?_)
   refine bV rfl (aj (dP (r:=n / 13) _ _ rfl rfl ab (rm h0 h1 ab)) ?_)
   refine bV rfl (aj (dP (r:=n / 17) _ _ rfl rfl ab (rm h0 h1 ab)) ?_)
   refine bV rfl (aj (dP (r:=n / 19) _ _ rfl rfl ab (rm h0 h1 ab)) ?_)
   refine aj (gK _ _ aa rfl ag (by simp <;> rfl) ah (by exact (rfl:_=some (ba (Ie n))))) ?_
   refine aj (ap aa al (hnm) rfl rfl) ?_
   refine go 3 ?_
   refine gP (α:=List Int) (fun L=> (if n / 960 % 2=0 then zN n else Am n)=L) 107 [(0,_),(3,_),(4,_),(5,_),(6,_)] [((60,0),_)] (fun L=> []) (fun L=> [((6,0), .box 87 [.v (.int .i64 (if decide (n / 160 % 6=5)=true then 1 else 0)), .v (.int .i64 ((hdN.getD (n % 10).toNat 0:Nat):Int)), .v (.int .i64 ((L).getD 0 0)), .v (.int .i64 ((L).getD 1 0)), .v (.int .i64 ((L).getD 2 0)), .v (.int .i64 ((L).getD 3 0)), .v (.int .i64 ((L).getD 4 0)), .v (.int .i64 ((L).getD 5 0)), .v (.int .i64 ((L).getD 6 0)), .v (.int .i64 ((L).getD 7 0)), .v (.int .i64 ((L).getD 8 0)), .v (.int .i64 (n / 10 % 4 - 1)), .v (.int .i64 (n / 40 % 4)), .v (.slice none 0 0), .v (.slice none 0 0)])]) [] []
    (by exact ⟨(iS rfl),(iR rfl),(iV rfl),(iV rfl),(iP rfl),trivial⟩)
    (by exact ⟨(bN rfl rfl rfl),trivial⟩) ?_ ?_
   ·refine aE ?_
    refine aB (σ':=an 107 [(0,_),(3,_),(4,_),(5,_),(6,_)] [((60,0),_),((6,0),_)] [] []) kp ?_
    refine aD (bV rfl (aj (dP (r:=n / 960) _ _ rfl rfl ab (rm h0 h1 ab)) ?_))
    refine aj (de (r:=n / 960 % 2) _ _ rfl rfl ab (vX h0 ab)) ?_
    refine aj (bb (r:=decide (n / 960 % 2=0)) _ _ rfl rfl (by rw [Bool.eq_iff_iff];simp)) ?_
    refine am (ax rfl (fun hc57=> ?_) (fun hc57=> ?_))
    ·refine aD (bV rfl (aj (dP (r:=n / 960) _ _ rfl rfl ab (rm h0 h1 ab)) ?_))
     refine aj (de (r:=n / 960 % 3) _ _ rfl rfl ab (vX h0 ab)) ?_
     refine bV rfl (aj (dP (r:=n / 5) _ _ rfl rfl ab (rm h0 h1 ab)) ?_)
     refine aj (de (r:=n / 5 % 4) _ _ rfl rfl ab (vX h0 ab)) ?_
     refine bV rfl (aj (dP (r:=n / 9) _ _ rfl rfl ab (rm h0 h1 ab)) ?_)
     refine aj (de (r:=n / 9 % 3) _ _ rfl rfl ab (vX h0 ab)) ?_
     refine go 3 ?_
     refine aj (dP (r:=n / 3) _ _ rfl rfl ab (rm h0 h1 ab)) ?_
     refine aj (de (r:=n / 3 % 5) _ _ rfl rfl ab (vX h0 ab)) ?_
     refine bV rfl (aj (dP (r:=n / 21) _ _ rfl rfl ab (rm h0 h1 ab)) ?_)
     refine aj (de (r:=n / 21 % 2) _ _ rfl rfl ab (vX h0 ab)) ?_
     refine go 3 ?_
     refine ay (⟨zN n,?_,?_⟩)
     ·exact if_pos hc57
     refine Le.mkJ [] [] rfl ?_ ?_ trivial trivial ?_
     ·exact ⟨(iS rfl),(iR rfl),(iV rfl),(iV rfl),(iP rfl),trivial⟩
     ·exact ⟨(bN rfl rfl rfl),(cI rfl rfl rfl rfl (eZ (eW (eW (eW (ai (by repeat' (exact Lv.v)) (ai (by repeat' (exact Lv.v)) aK))))))),trivial⟩
     kernel_rfl
    refine aR (⟨Am n,?_,?_⟩)
    ·exact if_neg hc57
    refine Le.mkJ [] [] rfl ?_ ?_ trivial trivial ?_
    ·exact ⟨(iS rfl),(iR rfl),(iV rfl),(iV rfl),(iP rfl),trivial⟩
    ·exact ⟨(bN rfl rfl rfl),(cI rfl rfl rfl rfl (eZ (eW (eW (eW (ai (by repeat' (exact Lv.v)) (ai (by repeat' (exact Lv.v)) aK))))))),trivial⟩
    kernel_rfl
   intro L hL
   have he:=Iw n rfl hL
   refine aG (bV rfl (aj (dP (r:=n / 1000) _ _ rfl rfl ab (rm h0 h1 ab)) ?_))
   refine aj (de (r:=n / 1000 % 4) _ _ rfl rfl ab (vX h0 ab)) ?_
   refine bV rfl (aj (dP (r:=n / 4000) _ _ rfl rfl ab (rm h0 h1 ab)) ?_)
   refine aj (de (r:=n / 4000 % 4) _ _ rfl rfl ab (vX h0 ab)) ?_
   refine bV rfl (aj (dP (r:=n / 16000) _ _ rfl rfl ab (rm h0 h1 ab)) ?_)
   refine aj (de (r:=n / 16000 % 4) _ _ rfl rfl ab (vX h0 ab)) ?_
   refine aj (gK _ _ aa rfl ag (by simp <;> rfl) ah (by exact (rfl:_=some (ba [n / 1000 % 4,n / 4000 % 4,n / 16000 % 4])))) ?_
   refine go 5 ?_
   refine aj (dP (r:=n / 2) _ _ rfl rfl ab (rm h0 h1 ab)) ?_
   refine aj (de (r:=n / 2 % 2) _ _ rfl rfl ab (vX h0 ab)) ?_
   refine bV rfl (aj (dP (r:=n / 4) _ _ rfl rfl ab (rm h0 h1 ab)) ?_)
   refine aj (de (r:=n / 4 % 2) _ _ rfl rfl ab (vX h0 ab)) ?_
   refine bV rfl (aj (dP (r:=n / 8) _ _ rfl rfl ab (rm h0 h1 ab)) ?_)
   refine aj (de (r:=n / 8 % 2) _ _ rfl rfl ab (vX h0 ab)) ?_
   refine bV rfl (aj (dP (r:=n / 16) _ _ rfl rfl ab (rm h0 h1 ab)) ?_)
   refine aj (de (r:=n / 16 % 2) _ _ rfl rfl ab (vX h0 ab)) ?_
   refine aj (gK _ _ aa rfl ag (by simp <;> rfl) ah (by exact (rfl:_=some (ba [n / 2 % 2,n / 4 % 2,n / 8 % 2,n / 16 % 2])))) ?_
   refine go 3 ?_
   refine aB (σ':=an 107 [(0,_),(3,_),(4,_),(6,_)] [((60,0),_),((6,0),_)] [] []) kp ?_
   refine go 3 ?_
   refine aj (gK (xs:=FW (gZ n)) _ _ aa rfl ag (by simp <;> rfl) ah (by rw [he];rfl)) ?_
   refine aj (bG (105,0) _ _ aa rfl rfl q3 (.sl rfl) ab rfl q2 rfl) ?_
   refine go 6 ?_
   refine ay (⟨i+1,?_,?_,?_⟩)
   ·exact ⟨by omega,by omega⟩
   ·refine Le.mkJ [((60,0),(105,0))] [] rfl ?_ ?_ trivial trivial ?_
    ·exact ⟨(by repeat' (exact Lv.sl)),(ca rfl ag),(aN ag),trivial⟩
    ·exact ⟨(cD rfl rfl rfl ag),trivial⟩
    kernel_rfl
   omega
  refine aW (id (hK3 _ ?_))
  exact aG (ij rfl (dZ rfl (am (au (cq (.inr rfl) rfl (.tmp mP) (Le.out [] [(60,0)] (Ko rfl rfl (by rw [lU,List.length_take];omega) (by congr 1;(have:i=10:=ab;rw [this])) rfl) rfl rfl rfl tr trivial))))))
 refine go 3 ?_
 refine ay (hK6 _ ?_)
 refine cP rfl rfl (aW (id (hK3 _ ?_)))
 exact aG (ij rfl (dZ rfl (am (au (cq (.inr rfl) rfl (.tmp mP) (Le.out [] [(60,0)] (Ko rfl rfl (by rw [lU,List.length_take];omega) (by congr 1;(rw [List.take_of_length_le ab,List.take_of_length_le ab])) rfl) rfl rfl rfl tr trivial))))))
end Go.Proofs.YtmjnackchaahbaaGreat
