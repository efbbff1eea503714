/- part 16 -/
import Derived.Test.YtmjnackchaahbaaGreatVhZ15
set_option linter.unusedSimpArgs false
set_option linter.unusedVariables false
set_option maxHeartbeats 2000000
namespace Go.Proofs.YtmjnackchaahbaaGreat
open Go.RowKit

theorem vZ (w:World) (a b c d e:Int):(Op.equal 57 (.agg #[.int .i64 a, .int .i64 b, .int .i64 c, .int .i64 d, .int .i64 e]) (.agg #[.int .i64 a, .int .i64 b, .int .i64 c, .int .i64 d, .int .i64 e])).run Tryz.prog w= .ok true w:=by
 have he:Tryz.prog.underlying 3=some (.int .i64):=Tryz.underlying3
 have hp: ∀ (cs:Array Value) (j:Nat) (v:Value),cs[j]? =some v→(part 3 cs j).run Tryz.prog w= .ok v w:=by
  intro cs j v hv
  simp [part,isAgg,run_underlying he,hv]
 have e1: ∀ a:Int,(Op.equalIn 9999 3 (.int .i64 a) (.int .i64 a)).run Tryz.prog w= .ok true w:=fun a=> by
  rw [run_equalIn_int w 9998 3 .i64 .i64 a a he];simp
 have h0:=hp #[.int .i64 a, .int .i64 b, .int .i64 c, .int .i64 d, .int .i64 e] 0 (.int .i64 a) rfl
 have h1:=hp #[.int .i64 a, .int .i64 b, .int .i64 c, .int .i64 d, .int .i64 e] 1 (.int .i64 b) rfl
 have h2:=hp #[.int .i64 a, .int .i64 b, .int .i64 c, .int .i64 d, .int .i64 e] 2 (.int .i64 c) rfl
 have h3:=hp #[.int .i64 a, .int .i64 b, .int .i64 c, .int .i64 d, .int .i64 e] 3 (.int .i64 d) rfl
 have h4:=hp #[.int .i64 a, .int .i64 b, .int .i64 c, .int .i64 d, .int .i64 e] 4 (.int .i64 e) rfl
 show (Op.equalIn (9999+1) 57 _ _).run Tryz.prog w=_
 rw [Op.equalIn]
 simp only [Sem.run_bind,run_underlying Tryz.underlying57,Result.andThen_ok]
 simp [Op.eqFields,h0,h1,h2,h3,h4,e1]
section
variable {σ:St} {dd:Option Tmp} {ty:TypeId}
theorem zL {t':TypeId} (x y:Operand) {a b c d e:Int} (hx:σ.eval x= .agg [.v (.int .i64 a), .v (.int .i64 b), .v (.int .i64 c), .v (.int .i64 d), .v (.int .i64 e)]) (hy:σ.eval y= .agg [.v (.int .i64 a), .v (.int .i64 b), .v (.int .i64 c), .v (.int .i64 d), .v (.int .i64 e)]):Stp Tryz.prog dd (.binOp .neq 57 x y t') ty σ (σ.put dd (.v (.bool false))):=by
 refine Dw [.int .i64 a, .int .i64 b, .int .i64 c, .int .i64 d, .int .i64 e] [.int .i64 a, .int .i64 b, .int .i64 c, .int .i64 d, .int .i64 e] hx hy fun o ρ w ho hx hy=> ?_
 have:=vZ w a b c d e
 have hg:Tryz.prog.eqGuardType Tryz.prog.depth 57=false:=by kernel_rfl
 simp [execOp,ho,hx,hy,eqGuard,binOp,hg,this,Sem.run]
end
theorem lg (l:List Ac) (h1:l.length≤1000000):Spec Tryz.prog 34 (aQ [.sl l.length (xw l), .sl l.length (xw l)] []) (aG (.v (.bool true)) []):=by
 refine Spec.ofN Tryz.func34 rfl Tryz.ntmps34 rfl ?_
 refine go 9 ?_
 refine ai (dv (r:=false) _ _ rfl rfl (by simp)) ?_
 refine aj (cd rfl rfl (cX (ax fun K4 hK4=> ?_)))
 refine aH (bF rfl (aj (aN ?_)))
 refine aX (α:=Nat) (fun k=> k≤l.length) 26 [(0,_),(1,_)] [] (fun k=> [(5, .v (.int .i64 (k:Int)))]) (fun k=> []) [] [] (fun k=> l.length - k) 0 ?_ (kj [] [] []) ?_
 ·omega
 intro k hk
 refine ax fun K6 hK6=> ?_
 refine go 6 ?_
 refine aD rfl (fun hc14=> ?_) (fun hc14=> ?_)
 ·have hia:=BD l k ab
  refine aU (hK6 _ ?_)
  refine aA (aN (aA ?_))
  refine az (σ':=ap 26 [(0,_),(1,_),(5,_)] [] [] []) kp ?_
  refine dA 9 [] ?_
  refine go 4 ?_
  refine aJ (_,[]) (fun τ=> aL _ _ aa rfl rfl _ rfl ab (by (simp only [aM,aW,aV,aM,iy,bo];omega)) ag) ?_
  refine go 1 ?_
  refine aJ (_,[]) (fun τ=> bu _ aa rfl (by exact hia) rfl) ?_
  refine go 5 ?_
  refine aJ (_,[]) (fun τ=> aL _ _ aa rfl rfl _ rfl ab (by (simp only [aM,aW,aV,aM,iy,bo];omega)) ag) ?_
  refine go 1 ?_
  refine aJ (_,[]) (fun τ=> bu _ aa rfl (by exact hia) rfl) ?_
  refine go 1 ?_
  refine aJ (_,[]) (fun τ=> zL _ _ rfl rfl) ?_
  refine go 9 ?_
  refine am (⟨k+1,?_,?_,?_⟩)
  ·omega
  ·exact kj [] [] []
  omega
 refine bm (id (hK4 _ ?_))
 refine aH (gP rfl (aj (aq (kV rfl rfl ?_))))
 rfl
end Go.Proofs.YtmjnackchaahbaaGreat

set_option maxHeartbeats 2000000
namespace Go.Proofs.YtmjnackchaahbaaGreat
open Go.RowKit

theorem jM (xs:List Int) (h:xs.length≤1000000):Spec Tryz.prog 30 (aQ [.sl xs.length (cB xs), .sl xs.length (cB xs)] []) (aG (.v (.bool true)) []):=by
 have:=yJ xs.length xs.length xs xs rfl rfl ab ab
 rw [decide_eq_true rfl] at this;exact this
def zW (n:Int):Int:=([n % 9 - 4,n, -n,2147483647, -2147483647,1,0]:List Int).getD (n % 7).toNat 0
def fI (a:List Int) (n:Nat):List Int:=(List.range n).map fun i=> zW (ct a i)
theorem uP (a:List Int) (n:Nat):fI a (n+1)=fI a n++[zW (ct a n)]:=by simp [fI,List.range_succ]
theorem nu (a:List Int) (n:Nat):(fI a n).length=n:=by simp [fI]
theorem Aw (n:Int) (h0:0≤n):(cB [n % 9 - 4,n, -n,2147483647, -2147483647,1,0])[(n % 7).toNat]? =some (.v (.int .i64 (zW n))):=cU _ _ (by simp;omega)
end Go.Proofs.YtmjnackchaahbaaGreat

set_option maxHeartbeats 2000000
namespace Go.Proofs.YtmjnackchaahbaaGreat
open Go.RowKit

theorem xQ (P:Pg) (a:List Int) (G:GL a) (hd:P.d+P.v≤1000):
  Spec Tryz.prog 22 (aQ [FH P, .sl a.length (cB a)] []) (aG (.sl (fI a (P.d+P.v)).length (cB (fI a (P.d+P.v)))) []):=by
 have hpk:=fun i hi=> pE G i hi
 refine Spec.ofN Tryz.func22 rfl Tryz.ntmps22 rfl ?_
 refine aH (ai (ed (2,0) _ rfl rfl) (ai (bg _ fg) (aj (aH (ai (pN (5,0) _ 3 1 rfl rfl) ?_)))))
 refine aj (ax fun K3 hK3=> ?_)
 refine aH (bF rfl (aj (aN ?_)))
 refine aX (α:=Nat) (fun q=> q≤P.d+P.v) 35 [(1,_),(2,_)] [((2,0),_)] (fun q=> [(6, .v (.int .i64 (q:Int))),(5, .ref (5,0) 0 (fI a q).length)]) (fun q=> [((5,0), .row 3 1 (cB (fI a q)))]) [] [] (fun q=> P.d+P.v - q) 0 ?_ (kj [0,2] [] []) ?_
 ·omega
 intro q hq
 have hq0:=hpk q ab
 have hlo:=uN a q
 have hhi:=uJ a q
 have hvl:=nu a q
 have hs:=uP a q
 have hl1:(fI a (q+1)).length=(fI a q).length+1:=by rw [hs];simp
 have hvg:=Aw (ct a q) hlo
 generalize ct a q=x at hq0 hlo hhi hs hvg
 refine ax fun K5 hK5=> ?_
 refine go 6 ?_
 refine ai (dL (r:=((P.d+P.v:Nat):Int)) _ _ rfl rfl ((bT ab).trans ab)) ?_
 refine ai (dg _ _ rfl rfl rfl) (aj (aD rfl (fun hc14=> ?_) (fun hc14=> ?_)))
 ·refine aU (hK5 _ ?_)
  refine aA (aN (aH (jV rfl (bE rfl (ai (au aa al (hq0) rfl rfl) ?_)))))
  refine go 5 ?_
  refine ai (cA (r:=x % 9) _ _ rfl rfl ab (Int.tmod_eq_emod_of_nonneg ab)) ?_
  refine ai (bB (r:=x % 9 - 4) _ _ rfl rfl (bT ab)) ?_
  refine bE rfl (bE rfl (ai (vF (r:= -x) _ rfl (bT ab)) ?_))
  refine go 2 ?_
  refine ai (cA (r:=(((x % 7).toNat:Nat):Int)) _ _ rfl rfl ab ((Int.tmod_eq_emod_of_nonneg ab).trans ab)) ?_
  refine ai (aL _ _ aa rfl rfl _ rfl ab (by (simp;done)) (by exact Nat.mul_one _)) ?_
  refine ai (bh _ aa rfl (by exact hvg) rfl) ?_
  refine go 1 ?_
  refine ai (cG (33,0) _ _ aa rfl rfl (by simp) (.sl rfl) ab rfl ((mN _ _).trans (congrArg cB hs.symm)) hl1.symm) ?_
  refine gF rfl (qz ?_)
  refine az (σ':=ap 35 [(1,_),(2,_),(5,_),(6,_)] [((2,0),_),((33,0),_)] [] []) kp ?_
  refine go 4 ?_
  refine am (⟨q+1,?_,?_,?_⟩)
  ·omega
  ·refine Le.mkJ [((5,0),(33,0))] [] rfl ?_ ?_ trivial trivial ?_
   ·exact ⟨(by repeat' (exact Lv.sl)),(di (id:=(2,0)) rfl),(eN ag),(eH rfl ag),trivial⟩
   ·exact ⟨(iq rfl rfl rfl rfl (by repeat' (first | exact Lv.v | exact Lv.sl | exact bz | refine aB ?_ ?_))),(im rfl rfl rfl ag),trivial⟩
   kernel_rfl
  omega
 obtain rfl:q=P.d+P.v:=by omega
 refine bm (id (hK3 _ ?_))
 exact aH (sR rfl (gF rfl (aj (aq (dm (.inr rfl) rfl (.tmp qj) (Le.out [] [(5,0)] (iO rfl rfl (by simp) rfl) rfl rfl rfl tr trivial))))))
def qq (L:List Int) (i:Nat) (m:Int):Int:=if i < L.length then gZ (L.getD i 0) m else 0
theorem su (L:List Int) (i:Nat) {m:Int} (hm:1≤m):0≤qq L i m:=by
 unfold qq;split
 ·exact nb _ _ ab
 omega
theorem rY (L:List Int) (i:Nat) {m:Int} (hm:1≤m):qq L i m < m:=by
 unfold qq;split
 ·exact nA _ _ ab
 omega
theorem pz {L:List Int} (h:GL L) (i:Nat) (hi:i≤2000000) (m:Int) (hm:1≤m∧m≤1000):
  Spec Tryz.prog 58 (aQ [.sl L.length (cB L), .v (.int .i64 (i:Int)), .v (.int .i64 m)] []) (aG (.v (.int .i64 (qq L i m))) []):=by
 have hn:=h.n
 by_cases hk:i < L.length
 ·have hr:=h.r (L.getD i 0) (by rw [List.getD_eq_getElem?_getD,List.getElem?_eq_getElem hk];exact List.getElem_mem hk)
  have ha:=iG (L.getD i 0) m ab ab hr.1 hr.2
  rw [show qq L i m=gZ (L.getD i 0) m from if_pos hk]
  refine Spec.ofN Tryz.func58 rfl Tryz.ntmps58 rfl ?_
  refine go 6 ?_
  refine ai (dg (r:=false) _ _ rfl rfl (decide_eq_false ab)) ?_
  refine go 4 ?_
  refine aZ rfl rfl (cf (r:=false) _ _ rfl rfl (decide_eq_false ab)) ?_
  refine go 7 ?_
  refine ai (aL _ _ aa rfl rfl _ rfl ab (by (simp only [aM,aW,aV,aM,iy,bo];omega)) (by exact Nat.mul_one _)) ?_
  refine ai (bh _ aa rfl (by exact cU _ _ ab) rfl) ?_
  refine bE rfl (ai (au aa al (ha) rfl rfl) ?_)
  exact bF rfl (aj (aq (eu rfl rfl)))
 rw [show qq L i m=0 from if_neg hk]
 refine Spec.ofN Tryz.func58 rfl Tryz.ntmps58 rfl ?_
 refine go 6 ?_
 refine ai (dg (r:=false) _ _ rfl rfl (decide_eq_false ab)) ?_
 refine go 4 ?_
 refine aZ rfl rfl (cf (r:=true) _ _ rfl rfl (decide_eq_true ab)) ?_
 refine go 6 ?_
 exact aq (eu rfl rfl)
def wm (b:List Int) (k:Nat):Int:=if k=0 then qq b 0 9 % (1+qq b 1 3) else if k=1 then 1+qq b 1 3 else qq b k 9
def xq (b:List Int) (q k:Nat):Int:=if k < q then qq b k 9 else 0
abbrev L9 (e:Nat→Int):List AV:=[.v (.int .i64 (e 0)), .v (.int .i64 (e 1)), .v (.int .i64 (e 2)), .v (.int .i64 (e 3)), .v (.int .i64 (e 4)), .v (.int .i64 (e 5)), .v (.int .i64 (e 6)), .v (.int .i64 (e 7)), .v (.int .i64 (e 8))]
theorem Gq (e:Nat→Int) (h:Nat) (hh:h < 9) (x:Int):ez (L9 e) h [.v (.int .i64 x)]=L9 (pS e h x):=by
 rcases h with _ | _ | _ | _ | _ | _ | _ | _ | _ | h
 all_goals first | rfl | omega
theorem Dq (b:List Int) (q:Nat):pS (xq b q) q (qq b q 9)=xq b (q+1):=by
 funext k
 unfold pS xq
 by_cases h1:k=q
 ·rw [if_pos h1,if_pos ab,h1]
 rw [if_neg h1]
 by_cases h2:k < q
 ·rw [if_pos h2,if_pos ab]
 rw [if_neg h2,if_neg ab]
theorem vN (b:List Int) (G:GL b):
  Spec Tryz.prog 23 (aQ [.sl b.length (cB b)] []) (aG (.agg (L9 (wm b))) []):=by
 have h1:=pz G 1 ab 3 ab
 have hlo:=su b 1 (m:=3) ab
 have hhi:=rY b 1 (m:=3) ab
 have hlo0:=su b 0 (m:=9) ab
 have hhi0:=rY b 0 (m:=9) ab
 refine Spec.ofN Tryz.func23 rfl Tryz.ntmps23 rfl ?_
 refine go 6 ?_
 refine ax fun K3 hK3=> ?_
 refine aH (bF rfl (aj (aN ?_)))
 refine aX (α:=Nat) (fun q=> q≤9) 25 [(0,_),(2,_),(3,_)] [((2,0),_)] (fun q=> [(4, .v (.int .i64 (q:Int)))]) (fun q=> [((3,0), .box 30 [.v (.int .i64 (xq b q 0)), .v (.int .i64 (xq b q 1)), .v (.int .i64 (xq b q 2)), .v (.int .i64 (xq b q 3)), .v (.int .i64 (xq b q 4)), .v (.int .i64 (xq b q 5)), .v (.int .i64 (xq b q 6)), .v (.int .i64 (xq b q 7)), .v (.int .i64 (xq b q 8))])]) [] [] (fun q=> 9 - q) 0 ?_ (kj [0,1] [] []) ?_
 ·omega
 intro q hq
 refine ax fun K5 hK5=> ?_
 refine go 4 ?_
 refine aD rfl (fun hc6=> ?_) (fun hc6=> ?_)
 ·have hq9:=pz G q ab 9 ab
  refine aU (hK5 _ ?_)
  refine go 6 ?_
  refine ai (au aa al (hq9) rfl rfl) ?_
  refine ai (dC _ _ aa rfl rfl rfl q rfl ab (by exact (Nat.zero_add _).trans (Nat.mul_one _))) ?_
  refine ai (fU _ _ aa rfl rfl rfl rfl (show q+1≤9 by omega) ((Gq (xq b q) q ab _).trans (by rw [Dq]))) ?_
  refine go 5 ?_
  refine am (⟨q+1,?_,?_,?_⟩)
  ·omega
  ·exact kj [0,1] [] []
  omega
 obtain rfl:q=9:=by omega
 refine bm (id (hK3 _ ?_))
 refine aH (jV rfl (ai (au aa al (h1) rfl rfl) ?_))
 refine ai (dL (r:=1+qq b 1 3) _ _ rfl rfl (bT ab)) ?_
 refine ai (dC _ _ aa rfl rfl rfl 1 rfl ab (by exact (Nat.zero_add _).trans (Nat.mul_one _))) ?_
 refine go 3 ?_
 refine ai (dC _ _ aa rfl rfl rfl 0 rfl ab (by exact (Nat.zero_add _).trans (Nat.mul_one _))) ?_
 refine LO rfl rfl rfl (ai (dC _ _ aa rfl rfl rfl 1 rfl ab (by exact (Nat.zero_add _).trans (Nat.mul_one _))) ?_)
 refine LO rfl rfl rfl (ai (cA (r:=qq b 0 9 % (1+qq b 1 3)) _ _ rfl rfl ab (Int.tmod_eq_emod_of_nonneg hlo0)) ?_)
 refine ai (dC _ _ aa rfl rfl rfl 0 rfl ab (by exact (Nat.zero_add _).trans (Nat.mul_one _))) ?_
 refine go 6 ?_
 exact aq (NJ [])
end Go.Proofs.YtmjnackchaahbaaGreat

set_option maxHeartbeats 2000000
namespace Go.Proofs.YtmjnackchaahbaaGreat
open Go.RowKit

theorem FS (b:List Int) (k:Nat):Rg (wm b k):=by
 have h1:=su b 1 (m:=3) ab
 have h2:=rY b 1 (m:=3) ab
 have h3:=su b k (m:=9) ab
 have h4:=rY b k (m:=9) ab
 unfold wm Rg
 split
 ·have h5:=Int.emod_nonneg (qq b 0 9) (show 1+qq b 1 3≠0 by omega)
  have h6:=Int.emod_lt_of_pos (qq b 0 9) (show 0 < 1+qq b 1 3 by omega)
  omega
 split <;> omega
theorem CJ {n:Int} (h0:0≤n) (h1:n < 1000000):Rg (zW n):=by
 unfold zW
 refine og (fun x hx=> ?_) _
 simp only [List.mem_cons,List.not_mem_nil,or_false] at hx
 unfold Rg
 rcases hx with rfl | rfl | rfl | rfl | rfl | rfl | rfl <;> omega
theorem BM (a:List Int) (n:Nat): ∀ x∈fI a n,Rg x:=fun x hx=> by
 obtain ⟨i,_,rfl⟩:=List.mem_map.1 hx
 exact CJ (uN a i) (uJ a i)
theorem Be (b:List Int): ∀ i,Rg (((List.range 9).map (wm b)).getD i 0):=fun i=> og (fun x hx=> by
 obtain ⟨j,_,rfl⟩:=List.mem_map.1 hx
 exact FS b j) i
structure Hn (M:Mk) (D:Nat→Nat) (nv:Nat):Prop where
 pg:PG M.cx D nv
 iv:M.iv.length=nv
 ir: ∀ v∈M.iv,Rg v
 nv:0 < nv
 ent: ∀ h,h < 40→M.P.e h < 0∨ ∃ e0:Nat,M.P.e h=(e0:Int)∧e0 < M.P.c.length∧D e0=0
 c:M.P.c.length≤1000000
end Go.Proofs.YtmjnackchaahbaaGreat

set_option maxHeartbeats 2000000
namespace Go.Proofs.YtmjnackchaahbaaGreat
open Go.RowKit

set_option maxHeartbeats 1000000 in
theorem xD (M:Mk) (h:Nat) (hh:h < 40) (he:M.P.e h < 0) (h0:0 < M.iv.length) (h1:M.iv.length≤1000):
  Spec Tryz.prog 24 (aQ [FH M.P, .v (.int .i64 (h:Int)), .sl M.iv.length (cB M.iv), .agg [.v (.int .i64 (M.nm 0)), .v (.int .i64 (M.nm 1)), .v (.int .i64 (M.nm 2)), .v (.int .i64 (M.nm 3)), .v (.int .i64 (M.nm 4)), .v (.int .i64 (M.nm 5)), .v (.int .i64 (M.nm 6)), .v (.int .i64 (M.nm 7)), .v (.int .i64 (M.nm 8))], .sl M.ans.length (cB M.ans)] []) (aG (.tup [.agg [.sl M.iv.length (cB M.iv), .sl 0 [], .v (.int .i64 0), .v (.bool false), .sl 0 []], .sl 0 [], .v (.bool true)]) []):=by
 have hv:=vp M h hh he h0 h1
 refine Spec.ofN Tryz.func24 rfl Tryz.ntmps24 rfl ?_
 refine go 4 ?_
 refine ai (bg _ fg) (go 8 ?_)
 refine aA ?_
 refine az (Le.nilB (17,0) 1 (62,0) 3 1 rfl rfl rfl) ?_
 refine go 7 ?_
 refine ai (gD _ _ (rfl:_=[AV.ptr _ _]) (rfl:_=[])) ?_
 refine ai (db aa [((4,9),(17,0)),((5,9),(62,0)),((5,8),(25,1))] ar (hv) ob tr tr rfl rfl ae ae) ?_
 refine go 3 ?_
 refine aA ?_
 refine az (σ':=ap 35 [(10,_),(13,_),(14,_)] [((10,0),_),((17,0),_),((25,1),_),((14,0),_)] [] []) kp ?_
 refine kT 12 [26,27,28,29,30,31,32,33,34,11,12] [(10,0)] ae ae rfl (rfl:_=[_,_,_,_,_,_,_,_,_,_,_,_]) (rfl:_=[]) ?_
 refine aS (_,[]) (fun τ=> fB _ aa rfl rfl rfl rfl) ?_
 refine aT (rfl:_=[_]) ?_
 refine aS (_,[]) (fun τ=> br _ oz) ?_
 refine aT (rfl:_=[_,_]) ?_
 refine aS (_,[]) (fun τ=> jz _ rfl rfl) ?_
 refine aT (rfl:_=[_,_,_]) ?_
 refine aS (_,[]) (fun τ=> et _ aa rfl rfl rfl) ?_
 refine aT (rfl:_=[_,_,_,_]) ?_
 refine aS (_,[]) (fun τ=> bM _ aa rfl rfl yk) ?_
 refine aT (rfl:_=[_,_,_,_,_]) ?_
 refine aS (_,[]) (fun τ=> br _ oz) ?_
 refine aT (rfl:_=[_,_,_,_,_,_]) ?_
 refine aS (_,[]) (fun τ=> jz _ rfl rfl) ?_
 refine aT (rfl:_=[_,_,_,_,_,_,_]) ?_
 refine aS (_,[]) (fun τ=> et _ aa rfl rfl rfl) ?_
 refine aT (rfl:_=[_,_,_,_,_,_,_,_]) ?_
 refine aS (_,[]) (fun τ=> bM _ aa rfl rfl qk) ?_
 refine aT (rfl:_=[_,_,_,_,_,_,_,_,_]) ?_
 refine aS (_,[((10,0),_)]) (fun τ=> fU _ _ aa rfl rfl rfl rfl (Nat.le_of_ble_eq_true rfl) rfl) ?_
 refine aT (rfl:_=[_,_,_,_,_,_,_,_,_,_]) ?_
 refine aS (_,[]) (fun τ=> bg _ qj) ?_
 refine aT (rfl:_=[_,_,_,_,_,_,_,_,_,_,_]) ?_
 refine aS (_,[]) (fun τ=> bg _ rD) ?_
 refine aT (rfl:_=[_,_,_,_,_,_,_,_,_,_,_,_]) ?_
 refine jj ⟨⟨rfl,by kernel_rfl,by kernel_rfl⟩,?_⟩
 exact aj (aq (Dm (.inr rfl) rfl (.cellA aa rfl rfl rfl) (.tmp qj) (.tmp iH) (Le.out [] [(25,1)] (.tup rfl (aB (.agg rfl lz) (aB (iO rfl rfl rfl rfl) lz))) rfl rfl rfl tr trivial)))
end Go.Proofs.YtmjnackchaahbaaGreat

set_option maxHeartbeats 2000000
namespace Go.Proofs.YtmjnackchaahbaaGreat
open Go.RowKit

def sT (M:Mk) (h:Nat):Ms:=if M.P.e h < 0 then { vars:=M.iv,pc:=0,fin:=true } else fi M.cx 500 (cw M.iv (M.P.e h).toNat)
theorem sK {M:Mk} {h:Nat} (he:M.P.e h < 0):sT M h={ vars:=M.iv,pc:=0,fin:=true }:=if_pos he
theorem lU {M:Mk} {h e0:Nat} (he:M.P.e h=(e0:Int)):sT M h=fi M.cx 500 (cw M.iv e0):=by
 unfold sT;rw [if_neg ab,he];rfl
abbrev FF (M:Mk) (h:Nat):List AV:=[FH M.P, .v (.int .i64 (h:Int)), .sl M.iv.length (cB M.iv), .agg [.v (.int .i64 (M.nm 0)), .v (.int .i64 (M.nm 1)), .v (.int .i64 (M.nm 2)), .v (.int .i64 (M.nm 3)), .v (.int .i64 (M.nm 4)), .v (.int .i64 (M.nm 5)), .v (.int .i64 (M.nm 6)), .v (.int .i64 (M.nm 7)), .v (.int .i64 (M.nm 8))], .sl M.ans.length (cB M.ans)]
abbrev Fp (s:Ms):AV:= .tup [.agg [.sl s.vars.length (cB s.vars), .sl s.acts.length (xw s.acts), .v (.int .i64 (s.steps:Int)), .v (.bool (!s.fin)), .sl (lb s.cov).length (cB (lb s.cov))], .sl s.asked.length (cB s.asked), .v (.bool true)]
theorem mX {M:Mk} {D:Nat→Nat} {nv:Nat} (K:Hn M D nv) (hn:M.ans.length≤4611686018427387904) (h:Nat) (hh:h < 40):
  Spec Tryz.prog 24 (aQ (FF M h) []) (aG (Fp (sT M h)) []):=by
 have hnv:=K.pg.nv
 have h0:0 < M.iv.length:=by rw [K.iv];exact K.nv
 have h1:M.iv.length≤1000:=by rw [K.iv];omega
 rcases K.ent h hh with he | ⟨e0,he,he2,hD⟩
 ·rw [sK he];exact xD M h hh he h0 h1
 rw [lU he]
 have hr:=tx M D nv K.pg h hh e0 he he2 hD K.iv K.ir K.nv K.c hn _ rfl
 rw [← Hx] at hr
 exact hr
theorem Bu {l:List Int} {x y:Int}:y∈jY l x↔y∈l∨y=x:=by
 by_cases hx:x∈l
 ·have e:jY l x=l:=by unfold jY;rw [if_pos hx]
  rw [e]
  exact ⟨.inl,fun h=> h.elim id fun e=> e ▸ hx⟩
 rw [(qt hx).mem_iff,List.mem_append,List.mem_singleton]
theorem tW: ∀ (l:List Nat) (m:List Int) (y:Int),y∈l.foldl (fun m (i:Nat)=> jY m (i:Int)) m↔y∈m∨ ∃ i∈l,y=(i:Int)
 | [],m,y=> by simp
 | i::l,m,y=> by
  rw [List.foldl_cons,tW l,Bu]
  constructor
  ·rintro ((h | h) | ⟨j,hj,h⟩)
   ·exact .inl h
   ·exact .inr ⟨i,List.mem_cons_self,h⟩
   exact .inr ⟨j,List.mem_cons_of_mem _ hj,h⟩
  rintro (h | ⟨j,hj,h⟩)
  ·exact .inl (.inl h)
  rcases List.mem_cons.1 hj with rfl | hj
  ·exact .inl (.inr h)
  exact .inr ⟨j,hj,h⟩
theorem mem_covS {l:List Nat} {y:Int}:y∈lb l↔ ∃ i∈l,y=(i:Int):=by
 unfold lb;rw [tW];simp
theorem EL {K:Cx} (k:Nat) {s:Ms} (h:s.fin=false):fi K (k+1) s=fi K k (eO K s):=by rw [fi,if_neg (by rw [h];decide)]
structure IT (M:Mk) (nv h:Nat) (s:Ms):Prop where
 vl:s.vars.length=nv
 rv: ∀ v∈s.vars,Rg v
 ac: ∀ a∈s.acts,BJ M.cx nv a
 sn:bU s.acts≤20
 ar: ∀ k∈s.asked,2≤k∧k≤4
 al:s.acts.length≤500
 kl:s.asked.length≤500
 wr:s.vars.take M.P.d=BQ (M.iv.take M.P.d) s.acts
 st:s.steps≤500
 sf:s.fin=false→s.steps=500
 cl:(lb s.cov).length≤s.steps
 no:M.P.e h < 0→s={ vars:=M.iv,pc:=0,fin:=true }
 srt:(lb s.cov).Pairwise (· < ·)
 rg: ∀ i∈lb s.cov,∃ j:Nat,i=(j:Int)∧j < M.P.c.length
 en:0≤M.P.e h→M.P.e h∈lb s.cov
 fn:0≤M.P.e h→s.fin=true→ ∃ j:Nat,(j:Int)∈lb s.cov∧ ∃ x,M.P.c[j]? =some x∧x.op= .stop
theorem GK {M:Mk} {D:Nat→Nat} {nv:Nat} (K:Hn M D nv) (h:Nat) (hh:h < 40):IT M nv h (sT M h):=by
 rcases K.ent h hh with he | ⟨e0,he,he2,hD⟩
 ·rw [sK he]
  refine ⟨K.iv,K.ir,fun a ha=> absurd ha (List.not_mem_nil),Nat.zero_le _,fun k hk=> absurd hk (List.not_mem_nil),Nat.zero_le _,Nat.zero_le _,rfl,Nat.zero_le _,(fun h=> nomatch h),Nat.le_refl _,fun _=> rfl, .nil,fun i hi=> absurd hi (List.not_mem_nil),fun h=> ?_,fun h=> ?_⟩
  ·omega
  omega
 rw [lU he]
 have hat0:=py (K:=M.cx) (D:=D) K.iv K.ir he2 hD
 have hat:=FO K.pg hat0 500
 have hst:=qO (K:=M.cx) 500 (cw M.iv e0)
 have hsz:Sz (fi M.cx 500 (cw M.iv e0)):=lS (I:=Sz) (fun s hs _=> wv hs) 500 _ ⟨Nat.le_refl _,Nat.le_refl _,Nat.le_refl _⟩
 have hwr:=Dl K.pg hat0 500
 obtain ⟨cl,hcl⟩: ∃ l,(fi M.cx 500 (cw M.iv e0)).cov=e0::l:=by
  obtain ⟨l,hl⟩:=wj (K:=M.cx) 499 (eO M.cx (cw M.iv e0))
  rw [stepM_steps.2] at hl
  have e:=EL (K:=M.cx) 499 (s:=cw M.iv e0) rfl
  exact ⟨l,(congrArg Ms.cov e).trans hl⟩
 generalize fi M.cx 500 (cw M.iv e0)=s at*
 have hs5:s.steps≤500:=by simpa [cw] using hst.1
 have h2:=hsz.ac
 have h3:=hsz.ak
 have h5:=zx s.cov
 have h6:=hat.cn
 refine ⟨hat.iv.vl,hat.iv.rv,hat.iv.ac,hat.iv.sn,hat.iv.ar,by omega,by omega,hwr,hs5,fun hf=> ?_,by omega,fun h=> by omega,?_,fun i hi=> ?_,fun _=> ?_,fun _ hf=> ?_⟩
 ·have:=hst.2 hf;simpa [cw] using this
 ·exact pj _ _ .nil
 ·obtain ⟨j,hj,rfl⟩:=mem_covS.1 hi
  exact ⟨j,rfl,hat.cl j hj⟩
 ·rw [he];exact mem_covS.2 ⟨e0,by rw [hcl];exact List.mem_cons_self,rfl⟩
 obtain ⟨i,hi,x,hx,ho⟩:=hat.fn hf
 exact ⟨i,mem_covS.2 ⟨i,hi,rfl⟩,x,hx,ho⟩
end Go.Proofs.YtmjnackchaahbaaGreat

set_option maxHeartbeats 2000000
namespace Go.Proofs.YtmjnackchaahbaaGreat
open Go.RowKit

abbrev FD (l:List Int):Prop:=l.length≤4611686018427387904∧ ∀ x∈l, -9223372036854775808≤x∧x≤9223372036854775807
end Go.Proofs.YtmjnackchaahbaaGreat

set_option maxHeartbeats 2000000
namespace Go.Proofs.YtmjnackchaahbaaGreat
open Go.RowKit

def mL:Mk:=⟨⟨aO onsL 0,bi onsL,0,1⟩,[0],[0,1,0,0,0,0,0,0,0],[]⟩
def rL:Ms:=fi mL.cx 500 (cw [0] 0)
theorem Cq:rL.vars=[3]:=by kernel_rfl
theorem DO:rL.acts=[{ k:=3,a:=0,b:=3,c:=3,d:=1 }]:=by kernel_rfl
theorem Gx:rL.fin=true:=by kernel_rfl
theorem Az:0 < rL.steps:=of_decide_eq_true ae
theorem HP:PG mL.cx (lx onsL) 1:=Fm ab usrcL.ok (fun i=> og (fun x hx=> by
 have hx:x∈[(0:Int),1,0,0,0,0,0,0,0]:=hx
 simp only [List.mem_cons,List.not_mem_nil,or_false] at hx
 unfold Rg;omega) i)
theorem Gf:mL.P.e 0=((0:Nat):Int):=by kernel_rfl
theorem Ht:0 < mL.P.c.length:=of_decide_eq_true ae
theorem FZ:lx onsL 0=0:=by kernel_rfl
set_option maxHeartbeats 1000000 in
theorem lw:Spec Tryz.prog 27 (aQ [] []) (aG (.v (.bool true)) []):=by
 have hb:=vI usrcL
 rw [Ck,if_pos (xJ srcOkL)] at hb
 have hb:Spec Tryz.prog 64 (aQ [.v (bt GZ)] []) (aG (.tup [FH mL.P, .v (.int .i64 0)]) []):=hb
 have hrun:=tx mL (lx onsL) 1 HP 0 ab 0 Gf Ht FZ rfl (fun x hx=> by rw [List.mem_singleton.1 hx];unfold Rg;omega) ab usrcL.c (by show 0≤_;omega) rL rfl
 rw [Cq,DO,Gx] at hrun
 have hn:=Az
 have hrun:Spec Tryz.prog 24 (aQ [FH mL.P, .v (.int .i64 0), .sl 1 (cB [0]), .agg [.v (.int .i64 0), .v (.int .i64 1), .v (.int .i64 0), .v (.int .i64 0), .v (.int .i64 0), .v (.int .i64 0), .v (.int .i64 0), .v (.int .i64 0), .v (.int .i64 0)], .sl 0 []] []) (aG (.tup [.agg [.sl 1 (cB [3]), .sl 1 (xw [{ k:=3,a:=0,b:=3,c:=3,d:=1 }]), .v (.int .i64 (rL.steps:Int)), .v (.bool false), .sl (jA (ow rL.cov)).length (cB (jA (ow rL.cov)))], .sl rL.asked.length (cB rL.asked), .v (.bool true)]) []):=hrun
 generalize rL.steps=n at hn hrun
 generalize jA (ow rL.cov)=cv at hrun
 generalize rL.asked=ak at hrun
 generalize mL.P=P at hb hrun
 refine Spec.ofN Tryz.func27 rfl Tryz.ntmps27 rfl ?_
 refine aH (gP rfl (aj (aH (ai (au aa al (hb) rfl rfl) ?_))))
 refine go 11 ?_
 refine ai (dC _ _ aa rfl rfl rfl 1 rfl ab (by exact (Nat.zero_add _).trans (Nat.mul_one _))) ?_
 refine go 6 ?_
 refine ai (au aa al (hrun) rfl rfl) ?_
 refine go 9 ?_
 refine aA ?_
 refine az (σ':=ap 48 [(2,_),(4,_),(6,_)] [((4,0),_)] [] []) kp ?_
 refine go 10 ?_
 refine aZ rfl rfl (au aa al (jM [3] ah) rfl rfl) ?_
 refine go 6 ?_
 refine aZ rfl rfl (au aa al (lg [{ k:=3,a:=0,b:=3,c:=3,d:=1 }] ah) rfl rfl) ?_
 refine go 9 ?_
 refine aZ rfl rfl (du (r:=true) _ _ rfl rfl (decide_eq_true ab)) ?_
 refine go 3 ?_
 refine aq (kV rfl rfl ?_)
 rfl
end Go.Proofs.YtmjnackchaahbaaGreat

set_option maxHeartbeats 2000000
namespace Go.Proofs.YtmjnackchaahbaaGreat
open Go.RowKit

theorem wi (a:List Int):(aO (qf a) 0).length≤48040:=oI (ct (a.take 70)) (Nat.le_refl 12010) 4 0 0 0
def uM (ons:List (Nat×Bk)) (v r:List Int):Mk:=⟨⟨aO ons 0,bi ons,2,2⟩,fI v 4,(List.range 9).map (wm v),r.take 20⟩
theorem yO {ons:List (Nat×Bk)} (U:UOk dG vG ons) (v r:List Int):Hn (uM ons v r) (lx ons) 4:=
 ⟨Fm ab U.ok (Be v),nu _ _,BM _ _,by omega,fun h hh=> by
  rcases oR ons h with h1 | ⟨e0,_,h1,h2,h3⟩
  ·exact .inl (by show (mD (iX ons 0)).getD h (-1) < 0;omega)
  exact .inr ⟨e0,h1,h2,h3⟩,U.c⟩
theorem DM {A B:List (Nat×Bk)} {p:Nat×Bk} (U:UOk dG vG (A++p::B)) (hB: ∀ b∈B,b.1≠p.1) (v r:List Int):sT (uM (A++p::B) v r) p.1=uD (aO A 0).length (sT (uM [p] v r) p.1):=by
 have hp:=U.h p (by simp)
 have h1:(uM (A++p::B) v r).P.e p.1=((aO A 0).length:Int):=rB (A:=A) hp fun b hb=> ⟨U.h b (by simp [hb]),hB b hb⟩
 have h2:(uM [p] v r).P.e p.1=((0:Nat):Int):=jZ hp
 have K:=yO U.one v r
 rw [lU h1,lU h2]
 have hs:(cw (uM (A++p::B) v r).iv (aO A 0).length)=uD (aO A 0).length (cw (uM [p] v r).iv 0):=by
  show cw (fI v 4) _=uD _ (cw (fI v 4) 0)
  simp [uD,cw]
 rw [hs]
 have hD0:lx [p] 0=0:=by
  have:=U.one.ent p.1 (by rw [jZ hp];omega) (by rw [jZ hp];have:=kD (p:=p);omega)
  rwa [jZ hp] at this
 exact yU (K:=(uM [p] v r).cx) (K':=(uM (A++p::B) v r).cx) rfl rfl rfl K.pg (fun i x hx=> uz (A:=A) (B:=B) (p:=p) hx) 500 _ (py K.iv K.ir (kD (p:=p)) hD0)
abbrev OU (v:List Int):AV:= .agg [.v (.int .i64 (((List.range 9).map (wm v)).getD 0 0)), .v (.int .i64 (((List.range 9).map (wm v)).getD 1 0)), .v (.int .i64 (((List.range 9).map (wm v)).getD 2 0)), .v (.int .i64 (((List.range 9).map (wm v)).getD 3 0)), .v (.int .i64 (((List.range 9).map (wm v)).getD 4 0)), .v (.int .i64 (((List.range 9).map (wm v)).getD 5 0)), .v (.int .i64 (((List.range 9).map (wm v)).getD 6 0)), .v (.int .i64 (((List.range 9).map (wm v)).getD 7 0)), .v (.int .i64 (((List.range 9).map (wm v)).getD 8 0))]
set_option maxHeartbeats 1000000 in
theorem Ha (p v r:List Int) (hp:FD p) (w:Int) (b:Bool) (hcc:Spec Tryz.prog 37 (aQ [DG dG vG (kv dG vG (qf p))] []) (aG (Cg dG vG (qf p) b) [])) (hb:b=false):
  Spec Tryz.prog 10 (aQ [.sl p.length (cB p), .sl v.length (cB v), .sl r.length (cB r), .v (.int .i64 w)] []) (aG (.v (.bool true)) []):=by
 have h1:=iQ p hp.1 hp.2
 obtain ⟨H,hH⟩: ∃ H,H=kv dG vG (qf p):=⟨_,rfl⟩
 rw [← hH] at h1 hcc
 rw [Cg,if_neg (by rw [hb];exact Bool.false_ne_true)] at hcc
 have he:zw (qf p)=2∨zw (qf p)=13:=by unfold zw;split <;> simp
 generalize zw (qf p)=E at he hcc
 refine Spec.ofN Tryz.func10 rfl Tryz.ntmps10 rfl ?_
 refine aH (gP rfl (aj (aH (jV rfl (ai (au aa al (h1) rfl rfl) ?_)))))
 refine go 5 ?_
 refine ai (au aa al (hcc) rfl rfl) ?_
 refine go 10 ?_
 refine ai (dv (r:=true) _ _ rfl rfl (bne_iff_ne.2 ab)) ?_
 refine go 8 ?_
 refine aA ?_
 refine az (σ':=ap 195 [] [] [] []) kp ?_
 refine an (ai (au aa (by repeat' (exact cL)) (lw) rfl rfl) ?_)
 exact gP rfl (aj (aq (eu rfl rfl)))
set_option maxHeartbeats 1000000 in
theorem Cz (p v r:List Int) (hp:FD p) (w:Int) (b:Bool) (hcc:Spec Tryz.prog 37 (aQ [DG dG vG (kv dG vG (qf p))] []) (aG (Cg dG vG (qf p) b) [])) (hb:b=true) (h0:qf p=[]):
  Spec Tryz.prog 10 (aQ [.sl p.length (cB p), .sl v.length (cB v), .sl r.length (cB r), .v (.int .i64 w)] []) (aG (.v (.bool true)) []):=by
 have h1:=iQ p hp.1 hp.2
 rw [h0] at h1 hcc
 rw [Cg,if_pos hb] at hcc
 refine Spec.ofN Tryz.func10 rfl Tryz.ntmps10 rfl ?_
 refine aH (gP rfl (aj (aH (jV rfl (ai (au aa al (h1) rfl rfl) ?_)))))
 refine go 5 ?_
 refine ai (au aa al (hcc) rfl rfl) ?_
 refine go 19 ?_
 refine aA ?_
 refine az (σ':=ap 195 [] [] [] []) kp ?_
 refine an (ai (au aa (by repeat' (exact cL)) (lw) rfl rfl) ?_)
 exact gP rfl (aj (aq (eu rfl rfl)))
set_option maxHeartbeats 4000000 in
theorem Cn (p v r:List Int) (hp:FD p) (hv:FD v) (hr:FD r) (w:Int) (hw: -9223372036854775808≤w∧w≤9223372036854775807) (hok:CmpOk (qf p)) (h0:0 < (qf p).length):
  Spec Tryz.prog 10 (aQ [.sl p.length (cB p), .sl v.length (cB v), .sl r.length (cB r), .v (.int .i64 w)] []) (aG (.v (.bool true)) []):=by
 have h1:=iQ p hp.1 hp.2
 have U:=vk p
 have hl8:=wi p
 have hpw:=Gm p
 generalize qf p=ons at h1 U hl8 hpw hok h0
 have hUn:=U.n
 have hcc:=gf dG vG ons U ab true ⟨fun _=> hok,fun _=> rfl⟩
 rw [Cg,if_pos rfl] at hcc
 have hcl:0 < (aO ons 0).length:=by
  cases ons with
  | nil=> simp at h0
  | cons q l=> simp [aO];omega
 have hvf:=nI dG vG ons U hok hcl
 -- the one that is kept
 have ha:=iG w (ons.length:Int) ab ab hw.1 hw.2
 have ha1:=nb w (ons.length:Int) ab
 have ha2:=nA w (ons.length:Int) ab
 obtain ⟨k,hk⟩:=Int.eq_ofNat_of_zero_le ha1
 rw [hk] at ha ha2
 have hk2:k < ons.length:=by omega
 obtain ⟨A,q,B,rfl,hA⟩: ∃ A q B,ons=A++q::B∧A.length=k:=⟨ons.take k,ons[k],ons.drop (k+1),by rw [List.getElem_cons_drop,List.take_append_drop],by rw [List.length_take];omega⟩
 have hne: ∀ j (hj:j < (A++q::B).length),j≠k→((A++q::B)[j]).1≠q.1:=fun j hj hjk=> by
  have hkq:(A++q::B)[k]=q:=by subst hA;simp
  have:=fun i j h1 h2 h3=> (List.pairwise_iff_getElem.1 hpw) i j h1 h2 h3
  rcases Nat.lt_or_gt_of_ne hjk with h3 | h3
  ·have:=this j k hj hk2 h3;rw [hkq] at this;omega
  have:=this k j hk2 hj h3;rw [hkq] at this;omega
 have hB: ∀ b∈B,b.1≠q.1:=fun b hb=> by
  have:=(List.pairwise_cons.1 (List.pairwise_append.1 hpw).2.1).1 b hb;omega
 have hp4:=U.h q (by simp)
 have hok1:=hok.one U hB
 have hcc1:=gf dG vG [q] U.one (by have:=sD (A:=A) (B:=B) (p:=q);omega) true ⟨fun _=> hok1,fun _=> rfl⟩
 rw [Cg,if_pos rfl] at hcc1
 have hvf1:=nI dG vG [q] U.one hok1 kD
 -- the runs
 have K:=yO U v r
 have K1:=yO U.one v r
 have hans:(r.take 20).length≤4611686018427387904:=by rw [List.length_take];omega
 have hrA:=mX K hans q.1 hp4
 have hrB:=mX K1 hans q.1 hp4
 have ho:=GK K1 q.1 hp4
 rw [DM U hB v r] at hrA
 have hrN: ∀ j (hj:j < (A++q::B).length),j≠k→Spec Tryz.prog 24 (aQ (FF (uM [q] v r) ((A++q::B)[j]).1) []) (aG (Fp { vars:=fI v 4,pc:=0,fin:=true }) []):=fun j hj hjk=> by
  have h4:=U.h _ (List.getElem_mem hj)
  have:=mX K1 hans _ h4
  rwa [sK (show (uM [q] v r).P.e _ < 0 by show bi [q] _ < 0;rw [qQ hp4 (hne j hj hjk)];omega)] at this
 have hvs:Spec Tryz.prog 22 (aQ [GA dG vG (A++q::B), .sl v.length (cB v)] []) (aG (.sl (fI v 4).length (cB (fI v 4))) []):=xQ ⟨aO (A++q::B) 0,bi (A++q::B),2,2⟩ v ⟨hv.1,hv.2⟩ (by show 2+2≤1000;omega)
 have hnm:Spec Tryz.prog 23 (aQ [.sl v.length (cB v)] []) (aG (OU v) []):=vN v ⟨hv.1,hv.2⟩
 have hin:=qL r hr.1 20 ab
 have s1:=ho.vl
 have s2:=ho.al
 have s3:=ho.kl
 generalize hR:sT (uM [q] v r) q.1=R at hrA hrB s1 s2 s3
 have hsv:=jM R.vars ab
 have hsa:=lg R.acts ab
 have hsk:=jM R.asked ab
 have hiv:=jM (fI v 4) (by rw [nu];omega)
 obtain ⟨H,hH⟩: ∃ H,H=kv dG vG (A++q::B):=⟨_,rfl⟩
 have hHl:H.length=(A++q::B).length:=by rw [hH,List.length_map]
 have hHk: ∀ j (h:j < (A++q::B).length),jW H j=(((A++q::B)[j]).1,ip (dG++vG) ((A++q::B)[j]).2):=fun j h=> by rw [hH];exact sJ _ _ j h
 have hkq:(A++q::B)[k]=q:=by subst hA;simp
 have hHq:=hHk k hk2
 rw [hkq] at hHq
 have hall:=wJ H k ab
 rw [hHq] at hall
 have hg0: ∀ j,j < (A++q::B).length→(jr H)[j*5]? =some (.v (.int .i64 ((jW H j).1:Int))):=fun j hj=> gY H j ab
 have hgk:=hg0 k hk2
 rw [hHq] at hgk
 have hgj: ∀ j (hj:j < (A++q::B).length),(jr H)[j*5]? =some (.v (.int .i64 (((A++q::B)[j]).1:Int))):=fun j hj=> by rw [hg0 j hj,hHk j hj]
 have hbl:(A++q::B).length≤1000:=hUn
 rw [← hH] at h1 hcc
 rw [← hHl] at ha
 obtain ⟨pA,hpA⟩: ∃ pA,pA=GA dG vG (A++q::B):=⟨_,rfl⟩
 clear ho hR K K1 hne hB hok hok1 hcl U hpw ha1 hk hH hHk hHq hg0 hpA hkq
 refine Spec.ofN Tryz.func10 rfl Tryz.ntmps10 rfl ?_
 refine ax fun K1 hK1=> ?_
 refine an (gP rfl (am (hK1 _ ?_)))
 refine aH (jV rfl (ai (au aa al (h1) rfl rfl) ?_))
 refine go 5 ?_
 refine ai (au aa al (hcc) rfl rfl) ?_
 refine go 15 ?_
 refine aZ rfl rfl (ca (r:=false) _ _ rfl rfl (beq_eq_false_iff_ne.2 ab)) ?_
 refine go 4 ?_
 refine aA ?_
 refine az (σ':=ap 195 [(1,_),(2,_),(3,_),(9,_),(10,_)] [((9,0),_),((10,0),_)] [] []) kp ?_
 refine go 5 ?_
 refine ai (au aa al (ha) rfl rfl) ?_
 refine go 11 ?_
 refine ai (aL _ _ aa rfl rfl k rfl ab (by rw [ba];omega) rfl) ?_
 refine ai (bu _ aa rfl (by exact hall) rfl) ?_
 refine go 4 ?_
 refine aA ?_
 refine az (σ':=ap 195 [(1,_),(2,_),(9,_),(10,_),(12,_),(13,_)] [((9,0),_),((10,0),_),((13,0),_)] [] []) kp ?_
 refine go 2 ?_
 refine ai (au aa al (hcc1) rfl rfl) ?_
 refine go 13 ?_
 refine aZ rfl rfl (au aa al (hvf) rfl rfl) ?_
 refine go 4 ?_
 refine aZ rfl rfl (au aa al (hvf1) rfl rfl) ?_
 refine go 5 ?_
 refine aA ?_
 refine az (σ':=ap 195 [(1,_),(2,_),(9,_),(10,_),(12,_),(14,_)] [((9,0),_),((10,0),_),((14,0),_)] [] []) kp ?_
 refine go 3 ?_
 refine ai (au aa al (hvs) rfl rfl) ?_
 refine FQ rfl (aj (aH (jV rfl (ai (au aa al (hnm) rfl rfl) ?_))))
 refine go 5 ?_
 refine ai (au aa al (hin) rfl rfl) ?_
 refine FQ rfl (aj (aA ?_))
 refine az (σ':=ap 195 [(9,_),(10,_),(12,_),(14,_),(16,_),(17,_),(18,_)] [((9,0),_),((10,0),_),((14,0),_),((17,0),_)] [] []) kp ?_
 refine kT 19 [83,84,85,86,87,88,89,90,91,92,93,82,94,95,96,19,20,21] [(19,0),(19,0)] ae ae rfl (rfl:_=[_,_,_,_,_,_,_,_,_,_,_,_,_,_,_,_,_,_,_]) (rfl:_=[]) ?_
 refine aS (_,[]) (fun τ=> fB _ aa rfl rfl rfl rfl) ?_
 refine aT (rfl:_=[_]) ?_
 refine aS (_,[]) (fun τ=> et _ aa rfl rfl rfl) ?_
 refine aT (rfl:_=[_,_]) ?_
 refine aS (_,[]) (fun τ=> bM _ aa rfl rfl nn) ?_
 refine aT (rfl:_=[_,_,_]) ?_
 refine aS (_,[]) (fun τ=> br _ nV) ?_
 refine aT (rfl:_=[_,_,_,_]) ?_
 refine aS (_,[]) (fun τ=> aL _ _ aa rfl rfl k rfl ab (by rw [ba];omega) rfl) ?_
 refine aT (rfl:_=[_,_,_,_,_]) ?_
 refine aS (_,[]) (fun τ=> dI _ aa rfl rfl) ?_
 refine aT (rfl:_=[_,_,_,_,_,_]) ?_
 refine aS (_,[]) (fun τ=> bh _ aa rfl (by exact hgk) rfl) ?_
 refine aT (rfl:_=[_,_,_,_,_,_,_]) ?_
 refine aS (_,[]) (fun τ=> br _ qd) ?_
 refine aT (rfl:_=[_,_,_,_,_,_,_,_]) ?_
 refine aS (_,[]) (fun τ=> fB _ aa rfl rfl rfl rfl) ?_
 refine aT (rfl:_=[_,_,_,_,_,_,_,_,_]) ?_
 refine aS (_,[]) (fun τ=> br _ qd) ?_
 refine aT (rfl:_=[_,_,_,_,_,_,_,_,_,_]) ?_
 refine aS (_,[]) (fun τ=> (au aa al (hrA) rfl rfl)) ?_
 refine aT (rfl:_=[_,_,_,_,_,_,_,_,_,_,_]) ?_
 refine aS (_,[]) (fun τ=> br _ Hj) ?_
 refine aT (rfl:_=[_,_,_,_,_,_,_,_,_,_,_,_]) ?_
 refine aS (_,[]) (fun τ=> cR _ rfl uV) ?_
 refine aT (rfl:_=[_,_,_,_,_,_,_,_,_,_,_,_,_]) ?_
 refine aS (_,[]) (fun τ=> cR _ rfl nn) ?_
 refine aT (rfl:_=[_,_,_,_,_,_,_,_,_,_,_,_,_,_]) ?_
 refine aS (_,[]) (fun τ=> cR _ rfl qk) ?_
 refine aT (rfl:_=[_,_,_,_,_,_,_,_,_,_,_,_,_,_,_]) ?_
 refine aS (_,[((19,0),_)]) (fun τ=> eX (19,0) aa rfl rfl) ?_
 refine aT (rfl:_=[_,_,_,_,_,_,_,_,_,_,_,_,_,_,_,_]) ?_
 refine aS (_,[((19,0),_)]) (fun τ=> fU _ _ aa rfl rfl rfl rfl (Nat.le_of_ble_eq_true rfl) rfl) ?_
 refine aT (rfl:_=[_,_,_,_,_,_,_,_,_,_,_,_,_,_,_,_,_]) ?_
 refine aS (_,[]) (fun τ=> bg _ qd) ?_
 refine aT (rfl:_=[_,_,_,_,_,_,_,_,_,_,_,_,_,_,_,_,_,_]) ?_
 refine aS (_,[]) (fun τ=> bg _ rD) ?_
 refine aT (rfl:_=[_,_,_,_,_,_,_,_,_,_,_,_,_,_,_,_,_,_,_]) ?_
 refine jj ⟨⟨rfl,by kernel_rfl,by kernel_rfl⟩,?_⟩
 refine aj (aA ?_)
 refine az (σ':=ap 195 [(9,_),(12,_),(14,_),(16,_),(17,_),(18,_),(19,_),(20,_)] [((9,0),_),((14,0),_),((17,0),_),((19,0),_)] [] []) kp ?_
 refine kT 19 [98,99,100,101,102,103,104,105,106,107,108,97,109,110,111,22,23,24] [(22,0),(22,0)] ae ae rfl (rfl:_=[_,_,_,_,_,_,_,_,_,_,_,_,_,_,_,_,_,_,_]) (rfl:_=[]) ?_
 refine aS (_,[]) (fun τ=> fB _ aa rfl rfl rfl rfl) ?_
 refine aT (rfl:_=[_]) ?_
 refine aS (_,[]) (fun τ=> et _ aa rfl rfl rfl) ?_
 refine aT (rfl:_=[_,_]) ?_
 refine aS (_,[]) (fun τ=> bM _ aa rfl rfl nn) ?_
 refine aT (rfl:_=[_,_,_]) ?_
 refine aS (_,[]) (fun τ=> br _ nV) ?_
 refine aT (rfl:_=[_,_,_,_]) ?_
 refine aS (_,[]) (fun τ=> aL _ _ aa rfl rfl k rfl ab (by rw [ba];omega) rfl) ?_
 refine aT (rfl:_=[_,_,_,_,_]) ?_
 refine aS (_,[]) (fun τ=> dI _ aa rfl rfl) ?_
 refine aT (rfl:_=[_,_,_,_,_,_]) ?_
 refine aS (_,[]) (fun τ=> bh _ aa rfl (by exact hgk) rfl) ?_
 refine aT (rfl:_=[_,_,_,_,_,_,_]) ?_
 refine aS (_,[]) (fun τ=> br _ qd) ?_
 refine aT (rfl:_=[_,_,_,_,_,_,_,_]) ?_
 refine aS (_,[]) (fun τ=> fB _ aa rfl rfl rfl rfl) ?_
 refine aT (rfl:_=[_,_,_,_,_,_,_,_,_]) ?_
 refine aS (_,[]) (fun τ=> br _ qd) ?_
 refine aT (rfl:_=[_,_,_,_,_,_,_,_,_,_]) ?_
 refine aS (_,[]) (fun τ=> (au aa al (hrB) rfl rfl)) ?_
 refine aT (rfl:_=[_,_,_,_,_,_,_,_,_,_,_]) ?_
 refine aS (_,[]) (fun τ=> br _ Hj) ?_
 refine aT (rfl:_=[_,_,_,_,_,_,_,_,_,_,_,_]) ?_
 refine aS (_,[]) (fun τ=> cR _ rfl uV) ?_
 refine aT (rfl:_=[_,_,_,_,_,_,_,_,_,_,_,_,_]) ?_
 refine aS (_,[]) (fun τ=> cR _ rfl nn) ?_
 refine aT (rfl:_=[_,_,_,_,_,_,_,_,_,_,_,_,_,_]) ?_
 refine aS (_,[]) (fun τ=> cR _ rfl qk) ?_
 refine aT (rfl:_=[_,_,_,_,_,_,_,_,_,_,_,_,_,_,_]) ?_
 refine aS (_,[((22,0),_)]) (fun τ=> eX (22,0) aa rfl rfl) ?_
 refine aT (rfl:_=[_,_,_,_,_,_,_,_,_,_,_,_,_,_,_,_]) ?_
 refine aS (_,[((22,0),_)]) (fun τ=> fU _ _ aa rfl rfl rfl rfl (Nat.le_of_ble_eq_true rfl) rfl) ?_
 refine aT (rfl:_=[_,_,_,_,_,_,_,_,_,_,_,_,_,_,_,_,_]) ?_
 refine aS (_,[]) (fun τ=> bg _ qd) ?_
 refine aT (rfl:_=[_,_,_,_,_,_,_,_,_,_,_,_,_,_,_,_,_,_]) ?_
 refine aS (_,[]) (fun τ=> bg _ rD) ?_
 refine aT (rfl:_=[_,_,_,_,_,_,_,_,_,_,_,_,_,_,_,_,_,_,_]) ?_
 refine jj ⟨⟨rfl,by kernel_rfl,by kernel_rfl⟩,?_⟩
 refine aj (aA (aA ?_))
 refine az (σ':=ap 195 [(9,_),(12,_),(14,_),(16,_),(17,_),(18,_),(19,_),(20,_),(22,_),(23,_)] [((9,0),_),((14,0),_),((17,0),_),((19,0),_),((22,0),_)] [] []) kp ?_
 refine go 5 ?_
 refine ai (au aa al (hsv) rfl rfl) ?_
 refine go 6 ?_
 refine aZ rfl rfl (au aa al (hsa) rfl rfl) ?_
 refine go 7 ?_
 refine aZ rfl rfl (dv (r:=false) _ _ rfl rfl (bne_self_eq_false _)) ?_
 refine go 6 ?_
 refine aZ rfl rfl (FT (r:=false) _ _ rfl rfl Tryz.underlying4 (bne_self_eq_false _)) ?_
 refine go 4 ?_
 refine aZ rfl rfl (au aa al (hsk) rfl rfl) ?_
 refine go 5 ?_
 refine ax fun K19 hK19=> ?_
 refine aA ?_
 refine az (σ':=ap 195 [(9,_),(12,_),(14,_),(16,_),(17,_),(18,_)] [((9,0),_),((14,0),_),((17,0),_)] [] []) kp ?_
 refine an (bF rfl (aj (aN ?_)))
 refine aX (α:=Nat) (fun i=> i≤H.length) 195 [(9,_),(12,_),(14,_),(16,_),(17,_),(18,_)] [((9,0),_),((14,0),_),((17,0),_)] (fun i=> [(25, .v (.int .i64 (i:Int)))]) (fun i=> []) [] [] (fun i=> H.length - i) 0 ?_ (kj [0,0,0] [] []) ?_
 ·omega
 intro i hi
 refine ax fun K21 hK21=> ?_
 refine go 7 ?_
 refine aD rfl (fun hc150=> ?_) (fun hc150=> ?_)
 ·have hi:i < (A++q::B).length:=by omega
  have hgi:=hgj i hi
  refine aU (hK21 _ ?_)
  refine aA (aN (aA ?_))
  rcases (Decidable.em (i=k)) with he | he
  ·refine az (σ':=ap 195 [(9,_),(12,_),(14,_),(16,_),(17,_),(18,_),(25,_)] [((9,0),_),((14,0),_),((17,0),_)] [] []) kp ?_
   refine kT 19 [154,155,156,157,158,159,160,161,162,163,164,153,165,166,167,26,27,28] [(26,0),(26,0)] ae ae rfl (rfl:_=[_,_,_,_,_,_,_,_,_,_,_,_,_,_,_,_,_,_,_]) (rfl:_=[]) ?_
   refine aS (_,[]) (fun τ=> fB _ aa rfl rfl rfl rfl) ?_
   refine aT (rfl:_=[_]) ?_
   refine aS (_,[]) (fun τ=> et _ aa rfl rfl rfl) ?_
   refine aT (rfl:_=[_,_]) ?_
   refine aS (_,[]) (fun τ=> bM _ aa rfl rfl nn) ?_
   refine aT (rfl:_=[_,_,_]) ?_
   refine aS (_,[]) (fun τ=> br _ nV) ?_
   refine aT (rfl:_=[_,_,_,_]) ?_
   refine aS (_,[]) (fun τ=> aL _ _ aa rfl rfl i rfl ab (by rw [ba];omega) rfl) ?_
   refine aT (rfl:_=[_,_,_,_,_]) ?_
   refine aS (_,[]) (fun τ=> dI _ aa rfl rfl) ?_
   refine aT (rfl:_=[_,_,_,_,_,_]) ?_
   refine aS (_,[]) (fun τ=> bh _ aa rfl (by rw [he];exact hgk) rfl) ?_
   refine aT (rfl:_=[_,_,_,_,_,_,_]) ?_
   refine aS (_,[]) (fun τ=> br _ qd) ?_
   refine aT (rfl:_=[_,_,_,_,_,_,_,_]) ?_
   refine aS (_,[]) (fun τ=> fB _ aa rfl rfl rfl rfl) ?_
   refine aT (rfl:_=[_,_,_,_,_,_,_,_,_]) ?_
   refine aS (_,[]) (fun τ=> br _ qd) ?_
   refine aT (rfl:_=[_,_,_,_,_,_,_,_,_,_]) ?_
   refine aS (_,[]) (fun τ=> (au aa al (hrB) rfl rfl)) ?_
   refine aT (rfl:_=[_,_,_,_,_,_,_,_,_,_,_]) ?_
   refine aS (_,[]) (fun τ=> br _ Hj) ?_
   refine aT (rfl:_=[_,_,_,_,_,_,_,_,_,_,_,_]) ?_
   refine aS (_,[]) (fun τ=> cR _ rfl uV) ?_
   refine aT (rfl:_=[_,_,_,_,_,_,_,_,_,_,_,_,_]) ?_
   refine aS (_,[]) (fun τ=> cR _ rfl nn) ?_
   refine aT (rfl:_=[_,_,_,_,_,_,_,_,_,_,_,_,_,_]) ?_
   refine aS (_,[]) (fun τ=> cR _ rfl qk) ?_
   refine aT (rfl:_=[_,_,_,_,_,_,_,_,_,_,_,_,_,_,_]) ?_
   refine aS (_,[((26,0),_)]) (fun τ=> eX (26,0) aa rfl rfl) ?_
   refine aT (rfl:_=[_,_,_,_,_,_,_,_,_,_,_,_,_,_,_,_]) ?_
   refine aS (_,[((26,0),_)]) (fun τ=> fU _ _ aa rfl rfl rfl rfl (Nat.le_of_ble_eq_true rfl) rfl) ?_
   refine aT (rfl:_=[_,_,_,_,_,_,_,_,_,_,_,_,_,_,_,_,_]) ?_
   refine aS (_,[]) (fun τ=> bg _ qd) ?_
   refine aT (rfl:_=[_,_,_,_,_,_,_,_,_,_,_,_,_,_,_,_,_,_]) ?_
   refine aS (_,[]) (fun τ=> bg _ rD) ?_
   refine aT (rfl:_=[_,_,_,_,_,_,_,_,_,_,_,_,_,_,_,_,_,_,_]) ?_
   refine jj ⟨⟨rfl,by kernel_rfl,by kernel_rfl⟩,?_⟩
   refine aj (aA ?_)
   refine az (σ':=ap 195 [(9,_),(12,_),(14,_),(16,_),(17,_),(18,_),(25,_),(26,_),(27,_)] [((9,0),_),((14,0),_),((17,0),_),((26,0),_)] [] []) kp ?_
   refine an (bE rfl (bE rfl (ai (dv (r:=false) _ _ rfl rfl (by rw [he];exact bne_self_eq_false _)) ?_)))
   refine go 26 ?_
   refine az (σ':=ap 195 [(9,_),(12,_),(14,_),(16,_),(17,_),(18,_),(25,_)] [((9,0),_),((14,0),_),((17,0),_)] [] []) kp ?_
   refine go 4 ?_
   refine am (⟨i+1,?_,?_,?_⟩)
   ·omega
   ·exact kj [0,0,0] [] []
   omega
  refine az (σ':=ap 195 [(9,_),(12,_),(14,_),(16,_),(17,_),(18,_),(25,_)] [((9,0),_),((14,0),_),((17,0),_)] [] []) kp ?_
  refine kT 19 [154,155,156,157,158,159,160,161,162,163,164,153,165,166,167,26,27,28] [(26,0),(26,0)] ae ae rfl (rfl:_=[_,_,_,_,_,_,_,_,_,_,_,_,_,_,_,_,_,_,_]) (rfl:_=[]) ?_
  refine aS (_,[]) (fun τ=> fB _ aa rfl rfl rfl rfl) ?_
  refine aT (rfl:_=[_]) ?_
  refine aS (_,[]) (fun τ=> et _ aa rfl rfl rfl) ?_
  refine aT (rfl:_=[_,_]) ?_
  refine aS (_,[]) (fun τ=> bM _ aa rfl rfl nn) ?_
  refine aT (rfl:_=[_,_,_]) ?_
  refine aS (_,[]) (fun τ=> br _ nV) ?_
  refine aT (rfl:_=[_,_,_,_]) ?_
  refine aS (_,[]) (fun τ=> aL _ _ aa rfl rfl i rfl ab (by rw [ba];omega) rfl) ?_
  refine aT (rfl:_=[_,_,_,_,_]) ?_
  refine aS (_,[]) (fun τ=> dI _ aa rfl rfl) ?_
  refine aT (rfl:_=[_,_,_,_,_,_]) ?_
  refine aS (_,[]) (fun τ=> bh _ aa rfl (by exact hgi) rfl) ?_
  refine aT (rfl:_=[_,_,_,_,_,_,_]) ?_
  refine aS (_,[]) (fun τ=> br _ qd) ?_
  refine aT (rfl:_=[_,_,_,_,_,_,_,_]) ?_
  refine aS (_,[]) (fun τ=> fB _ aa rfl rfl rfl rfl) ?_
  refine aT (rfl:_=[_,_,_,_,_,_,_,_,_]) ?_
  refine aS (_,[]) (fun τ=> br _ qd) ?_
  refine aT (rfl:_=[_,_,_,_,_,_,_,_,_,_]) ?_
  refine aS (_,[]) (fun τ=> (au aa al (hrN i hi he) rfl rfl)) ?_
  refine aT (rfl:_=[_,_,_,_,_,_,_,_,_,_,_]) ?_
  refine aS (_,[]) (fun τ=> br _ Hj) ?_
  refine aT (rfl:_=[_,_,_,_,_,_,_,_,_,_,_,_]) ?_
  refine aS (_,[]) (fun τ=> cR _ rfl uV) ?_
  refine aT (rfl:_=[_,_,_,_,_,_,_,_,_,_,_,_,_]) ?_
  refine aS (_,[]) (fun τ=> cR _ rfl nn) ?_
  refine aT (rfl:_=[_,_,_,_,_,_,_,_,_,_,_,_,_,_]) ?_
  refine aS (_,[]) (fun τ=> cR _ rfl qk) ?_
  refine aT (rfl:_=[_,_,_,_,_,_,_,_,_,_,_,_,_,_,_]) ?_
  refine aS (_,[((26,0),_)]) (fun τ=> eX (26,0) aa rfl rfl) ?_
  refine aT (rfl:_=[_,_,_,_,_,_,_,_,_,_,_,_,_,_,_,_]) ?_
  refine aS (_,[((26,0),_)]) (fun τ=> fU _ _ aa rfl rfl rfl rfl (Nat.le_of_ble_eq_true rfl) rfl) ?_
  refine aT (rfl:_=[_,_,_,_,_,_,_,_,_,_,_,_,_,_,_,_,_]) ?_
  refine aS (_,[]) (fun τ=> bg _ qd) ?_
  refine aT (rfl:_=[_,_,_,_,_,_,_,_,_,_,_,_,_,_,_,_,_,_]) ?_
  refine aS (_,[]) (fun τ=> bg _ rD) ?_
  refine aT (rfl:_=[_,_,_,_,_,_,_,_,_,_,_,_,_,_,_,_,_,_,_]) ?_
  refine jj ⟨⟨rfl,by kernel_rfl,by kernel_rfl⟩,?_⟩
  refine aj (aA ?_)
  refine az (σ':=ap 195 [(9,_),(12,_),(14,_),(16,_),(17,_),(18,_),(25,_),(26,_),(27,_)] [((9,0),_),((14,0),_),((17,0),_),((26,0),_)] [] []) kp ?_
  refine an (bE rfl (bE rfl (ai (dv (r:=true) _ _ rfl rfl (bne_iff_ne.2 ab)) ?_)))
  refine go 4 ?_
  refine aZ rfl rfl (au aa al (hiv) rfl rfl) ?_
  refine go 21 ?_
  refine az (σ':=ap 195 [(9,_),(12,_),(14,_),(16,_),(17,_),(18,_),(25,_)] [((9,0),_),((14,0),_),((17,0),_)] [] []) kp ?_
  refine go 4 ?_
  refine am (⟨i+1,?_,?_,?_⟩)
  ·omega
  ·exact kj [0,0,0] [] []
  omega
 refine bm (id (hK19 _ ?_))
 refine aH (ai (au aa (by repeat' (exact cL)) (lw) rfl rfl) ?_)
 exact gP rfl (aj (aq (eu rfl rfl)))
theorem nY (p v r:List Int) (hp:FD p) (hv:FD v) (hr:FD r) (w:Int) (hw: -9223372036854775808≤w∧w≤9223372036854775807):
  Spec Tryz.prog 10 (aQ [.sl p.length (cB p), .sl v.length (cB v), .sl r.length (cB r), .v (.int .i64 w)] []) (aG (.v (.bool true)) []):=by
 have hl8:=wi p
 rcases Classical.em (CmpOk (qf p)) with h | h
 ·by_cases h0:qf p=[]
  ·exact Cz p v r hp w true (gf dG vG _ (vk p) ab true ⟨fun _=> h,fun _=> rfl⟩) rfl h0
  exact Cn p v r hp hv hr w hw h (List.length_pos_iff.2 h0)
 exact Ha p v r hp w false (gf dG vG _ (vk p) ab false ⟨fun e=> absurd e Bool.false_ne_true,fun e=> absurd e h⟩) rfl
theorem oJ (n0:Nat) (p:List Int) (h0:p.length=n0) (g0:n0≤4611686018427387904) (r0:Rng p) (n1:Nat) (v:List Int) (h1:v.length=n1) (g1:n1≤4611686018427387904) (r1:Rng v)
  (n2:Nat) (b:List Int) (h2:b.length=n2) (g2:n2≤4611686018427387904) (r2:Rng b) (w:Int) (hw: -9223372036854775808≤w∧w≤9223372036854775807):
  Spec Tryz.prog 10 (aQ [.sl n0 (cB p), .sl n1 (cB v), .sl n2 (cB b), .v (.int .i64 w)] []) (aG (.v (.bool true)) []):=by
 subst h0;subst h1;subst h2
 exact nY p v b ⟨g0,r0⟩ ⟨g1,r1⟩ ⟨g2,r2⟩ w hw
end Go.Proofs.YtmjnackchaahbaaGreat
