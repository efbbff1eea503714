/- Part 16 of the texts that the walk leans on: the machine, the walks, the plain laws. -/
import Derived.Test.YtmjnackchaahbaaGreatVtZ15
set_option linter.unusedSimpArgs false
set_option linter.unusedVariables false
namespace Go.Proofs.YtmjnackchaahbaaGreat
open Go.RowKit

set_option maxHeartbeats 1000000 in
theorem rT (M:Mk) (h:Nat) (hh:h < 40) (he:M.P.e h < 0) (h0:0 < M.iv.length) (h1:M.iv.length≤1000):
  Spec Tryz.prog 59 (aY [zO M.P, .v (.int .i64 (h:Int)), .agg [.sl M.iv.length (dS M.iv), .v (.int .i64 (M.nm 0)), .v (.int .i64 (M.nm 1)), .v (.int .i64 (M.nm 2)), .v (.int .i64 (M.nm 3)), .v (.int .i64 (M.nm 4)), .v (.int .i64 (M.nm 5)), .v (.int .i64 (M.nm 6)), .v (.int .i64 (M.nm 7)), .v (.int .i64 (M.nm 8))],Ap (4,9)] (xq M.ans [] (5,9))) (be (.agg [.sl M.iv.length (dS M.iv), .sl 0 [], .v (.int .i64 0), .v (.bool false), .sl 0 []]) (xq M.ans [] (5,8)) [(4,9),(5,8)] [(4,9)]):=by
 have hcl:=mP M.iv ab ab
 have hg:=pD M.P.c.length (inl M.P.c) M.P.e (M.P.d:Int) (M.P.v:Int) h hh
 refine Spec.ofNI Tryz.func59 rfl Tryz.ntmps59 rfl ?_
 refine am (aj (bg (4,0) _ rfl rfl) (aj (bg (6,0) _ rfl rfl) (aj (aR (8,0) aa rfl rfl) (ai (aq (bT 11 [13,14,15,16,17,18,19,20,21,22,23] [(22,0)] ae ae rfl (aM rfl) (rfl:_=[_,_,_,_,_,_,_,_,_,_,_]) (rfl:_=[_,_,_]) ?_))))))
 refine ap (_,[]) (fun τ=> aX _ aa rfl rfl rfl rfl) ?_
 refine fO rfl ?_
 refine ap (_,[]) (fun τ=> aX _ aa rfl rfl rfl rfl) ?_
 refine fR rfl ?_
 refine ap (_,[]) (fun τ=> aH _ (rfl:_=AV.fn _ _ _)) ?_
 refine fT rfl ?_
 refine ap (_,[]) (fun τ=> aH _ (rfl:_=AV.v (.int _ _))) ?_
 refine fP rfl ?_
 refine ap (_,[]) (fun τ=> aD _ aa rfl rfl rfl) ?_
 refine gb rfl ?_
 refine ap (_,[]) (fun τ=> em _ _ aa rfl rfl rfl h rfl ab (by exact congrArg (fun z=> 0+1+z) (Nat.mul_one h))) ?_
 refine gC rfl ?_
 refine ap (_,[]) (fun τ=> aG _ aa rfl rfl (by exact (congrArg (fun z=> (yG M.P.c.length (inl M.P.c) M.P.e (M.P.d:Int) (M.P.v:Int))[z]?) ab).trans hg)) ?_
 refine iy rfl ?_
 refine ap (_,[]) (fun τ=> aD _ aa rfl rfl rfl) ?_
 refine jy rfl ?_
 refine ap (_,[]) (fun τ=> aG _ aa rfl rfl (rfl:_=some (AV.sl _ _))) ?_
 refine jr rfl ?_
 refine ap (_,[((22,0),_)]) (fun τ=> (eb aa [((0,8),(22,0))] ar (hcl.toI) trivial tr tr rfl rfl ae ae)) ?_
 refine fq rfl ?_
 refine ap (_,[]) (fun τ=> aF _ aa rfl (by exact (rfl:_=some [AV.ref (22,0) 0 M.iv.length,AV.v (.slice none 0 0),AV.v (.int .i64 0),AV.v (.bool false),AV.v (.slice none 0 0)]))) ?_
 refine fv rfl (bw ⟨rfl,?_⟩)
 refine aj (aF _ aa rfl (by exact (rfl:_=some [_,_,_,_,_,_,_,_,_,_,_,_,_,_,_,_,_,_,_,_,_,_,_,_,_,_,_,_,_,_,_,_,_,_,_,_,_,_,_,_,_,_,_,_,_,_,_,_,_,_,_,_,_,_,_,_,_,_,_,_,_,_,_,_]))) ?_
 refine aj (bg (25,0) _ rfl rfl) (CX rfl (ai (aq (aq ?_))))
 refine aQ (σ':=aA 108 [(4,_),(8,_),(9,_)] [((4,9),_),((5,9),_),((4,0),_),((8,0),_),((22,0),_),((25,0),_)] [(4,9),(5,9)] [(4,9)]) kp ?_
 refine an (bN rfl (aj (aJ _ rfl rfl) (bu rfl rfl rfl (cw rfl rfl rfl (aj (bo (r:=true) _ _ rfl rfl (decide_eq_true he)) ?_)))))
 exact ai (bR rfl rfl (am (bN rfl (aj (aJ _ rfl rfl) (bu rfl rfl rfl (aj (aX _ aa rfl rfl rfl rfl) (cF rfl rfl rfl rfl rfl rfl (ai (aE (aW (.inr rfl) rfl (.cellA aa rfl rfl rfl) (Le.outI [((5,8),(5,9))] [(22,0)] (.agg rfl (aB (iL rfl rfl (by simp) rfl) lz)) rfl rfl rfl tr ob tr rfl)))))))))))
set_option maxHeartbeats 1000000 in
theorem qy (M:Mk) (D:Nat→Nat) (nv:Nat) (hK:PG M.cx D nv) (h:Nat) (hh:h < 40) (e0:Nat) (he:M.P.e h=(e0:Int)) (he2:e0 < M.P.c.length) (hD:D e0=0) (hiv:M.iv.length=nv) (hir: ∀ v∈M.iv,Rg v) (h0:0 < nv) (hc:M.P.c.length≤1000000) (hn:M.ans.length≤4611686018427387904) (R:Ms) (hR:R=kB M.cx 500 (el M.iv e0)):
  Spec Tryz.prog 24 (bf [zO M.P, .v (.int .i64 (h:Int)), .sl M.iv.length (dS M.iv), .agg [.v (.int .i64 (M.nm 0)), .v (.int .i64 (M.nm 1)), .v (.int .i64 (M.nm 2)), .v (.int .i64 (M.nm 3)), .v (.int .i64 (M.nm 4)), .v (.int .i64 (M.nm 5)), .v (.int .i64 (M.nm 6)), .v (.int .i64 (M.nm 7)), .v (.int .i64 (M.nm 8))], .sl M.ans.length (dS M.ans)] []) (aL (.tup [.agg [.sl R.vars.length (dS R.vars), .sl R.acts.length (sI R.acts), .v (.int .i64 (R.steps:Int)), .v (.bool (!R.fin)), .sl (ia (mm R.cov)).length (dS (ia (mm R.cov)))], .sl R.asked.length (dS R.asked), .v (.bool true)]) []):=by
 have hv:=tq M Co D nv hK h hh e0 he he2 hD hiv hir h0 hc hn R hR
 refine Spec.ofN Tryz.func24 rfl Tryz.ntmps24 rfl ?_
 refine am (aj (bg (5,0) _ rfl rfl) (aj (bg (8,0) _ rfl rfl) (aj (aR (10,0) aa rfl rfl) (aj (bB _ (rfl:_=AV.v (.slice _ _ _))) (ce rfl (ai (am (eT rfl (aj (aF _ aa rfl (by exact (rfl:_=some [_,_,_]))) ?_)))))))))
 refine aj (bg (17,0) _ rfl rfl) (CX rfl (ai (aq ?_)))
 refine aQ (Le.nilB (17,0) 1 (62,0) 3 1 rfl rfl rfl) ?_
 refine an (aj (aX _ aa rfl rfl rfl rfl) (aV rfl (eT rfl (aj (aX _ aa rfl rfl rfl rfl) (aj (aF _ aa rfl (by exact (rfl:_=some [_,_,_,_,_,_,_,_,_,_]))) ?_)))))
 refine bN rfl (aj (ol _ _ (rfl:_=[_]) (rfl:_=[])) ?_)
 refine aj (eb aa [((4,9),(17,0)),((5,9),(62,0)),((2,8),(25,0)),((5,8),(25,1))] ar (hv) ob tr tr rfl rfl ae ae) ?_
 refine aj (aR (14,0) aa rfl rfl) (cF rfl rfl rfl rfl rfl rfl (ai (aq ?_)))
 refine aQ (σ':=aA 35 [(10,_),(13,_),(14,_)] [((10,0),_),((17,0),_),((25,0),_),((25,1),_),((14,0),_)] [] []) kp ?_
 refine pE 12 [26,27,28,29,30,31,32,33,34,11,12] [(10,0)] ae ae rfl (rfl:_=[_,_,_,_,_,_,_,_,_,_,_,_]) (rfl:_=[]) ?_
 refine cr (_,[]) (fun τ=> aX _ aa rfl rfl rfl rfl) ?_
 refine ct (rfl:_=[_]) ?_
 refine cr (_,[]) (fun τ=> aH _ (rfl:_=AV.ptr _ _)) ?_
 refine ct (rfl:_=[_,_]) ?_
 refine cr (_,[]) (fun τ=> aJ _ rfl rfl) ?_
 refine ct (rfl:_=[_,_,_]) ?_
 refine cr (_,[]) (fun τ=> aD _ aa rfl rfl rfl) ?_
 refine ct (rfl:_=[_,_,_,_]) ?_
 refine cr (_,[]) (fun τ=> aG _ aa rfl rfl (rfl:_=some (AV.ref _ _ _))) ?_
 refine ct (rfl:_=[_,_,_,_,_]) ?_
 refine cr (_,[]) (fun τ=> aH _ (rfl:_=AV.ptr _ _)) ?_
 refine ct (rfl:_=[_,_,_,_,_,_]) ?_
 refine cr (_,[]) (fun τ=> aJ _ rfl rfl) ?_
 refine ct (rfl:_=[_,_,_,_,_,_,_]) ?_
 refine cr (_,[]) (fun τ=> aD _ aa rfl rfl rfl) ?_
 refine ct (rfl:_=[_,_,_,_,_,_,_,_]) ?_
 refine cr (_,[]) (fun τ=> aG _ aa rfl rfl (rfl:_=some (AV.v (.bool _)))) ?_
 refine ct (rfl:_=[_,_,_,_,_,_,_,_,_]) ?_
 refine cr (_,[((10,0),_)]) (fun τ=> iX _ _ aa rfl rfl rfl rfl (Nat.le_of_ble_eq_true rfl) rfl) ?_
 refine ct (rfl:_=[_,_,_,_,_,_,_,_,_,_]) ?_
 refine cr (_,[]) (fun τ=> bB _ (rfl:_=AV.ref _ _ _)) ?_
 refine ct (rfl:_=[_,_,_,_,_,_,_,_,_,_,_]) ?_
 refine cr (_,[]) (fun τ=> bB _ (rfl:_=AV.v (.bool _))) ?_
 refine ct (rfl:_=[_,_,_,_,_,_,_,_,_,_,_,_]) ?_
 refine mF ⟨⟨rfl,by kernel_rfl,by kernel_rfl⟩,?_⟩
 exact ai (aE (yT (.inr rfl) rfl (.cellA aa rfl rfl rfl) (.tmp (rfl:_=AV.ref _ _ _)) (.tmp (rfl:_=AV.v _)) (Le.out [] [(25,0),(25,1)] (.tup rfl (aB (.agg rfl (aB .sl (aB (iL rfl rfl (fk _).symm rfl) lz))) (aB (iL rfl rfl (by simp) rfl) lz))) rfl rfl rfl tr trivial)))

theorem re (w:World) (a b c d e:Int):(Op.equal 57 (.agg #[.int .i64 a, .int .i64 b, .int .i64 c, .int .i64 d, .int .i64 e]) (.agg #[.int .i64 a, .int .i64 b, .int .i64 c, .int .i64 d, .int .i64 e])).run Tryz.prog w= .ok true w:=by
 have he:Tryz.prog.underlying 3=some (.int .i64):=Tryz.underlying3
 have hp: ∀ (cs:Array Value) (j:Nat) (v:Value),cs[j]? =some v→(part 3 cs j).run Tryz.prog w= .ok v w:=by
  intro cs j v hv
  simp [part,isAgg,run_underlying he,hv]
 have e1: ∀ a:Int,(Op.equalIn 9999 3 (.int .i64 a) (.int .i64 a)).run Tryz.prog w= .ok true w:=fun a=> by
  rw [run_equalIn_int w 9998 3 .i64 .i64 a a he];simp
 have h0:=hp #[.int .i64 a, .int .i64 b, .int .i64 c, .int .i64 d, .int .i64 e] 0 (.int .i64 a) rfl
 have h1:=hp #[.int .i64 a, .int .i64 b, .int .i64 c, .int .i64 d, .int .i64 e] 1 (.int .i64 b) rfl
 have h2:=hp #[.int .i64 a, .int .i64 b, .int .i64 c, .int .i64 d, .int .i64 e] 2 (.int .i64 c) rfl
 have h3:=hp #[.int .i64 a, .int .i64 b, .int .i64 c, .int .i64 d, .int .i64 e] 3 (.int .i64 d) rfl
 have h4:=hp #[.int .i64 a, .int .i64 b, .int .i64 c, .int .i64 d, .int .i64 e] 4 (.int .i64 e) rfl
 show (Op.equalIn (9999+1) 57 _ _).run Tryz.prog w=_
 rw [Op.equalIn]
 simp only [Sem.run_bind,run_underlying Tryz.underlying57,Result.andThen_ok]
 simp [Op.eqFields,h0,h1,h2,h3,h4,e1]
section
variable {σ:St} {dd:Option Tmp} {ty:TypeId}
theorem vy {t':TypeId} (x y:Operand) {a b c d e:Int} (hx:σ.eval x= .agg [.v (.int .i64 a), .v (.int .i64 b), .v (.int .i64 c), .v (.int .i64 d), .v (.int .i64 e)]) (hy:σ.eval y= .agg [.v (.int .i64 a), .v (.int .i64 b), .v (.int .i64 c), .v (.int .i64 d), .v (.int .i64 e)]):Stp Tryz.prog dd (.binOp .neq 57 x y t') ty σ (σ.put dd (.v (.bool false))):=by
 refine yo [.int .i64 a, .int .i64 b, .int .i64 c, .int .i64 d, .int .i64 e] [.int .i64 a, .int .i64 b, .int .i64 c, .int .i64 d, .int .i64 e] hx hy fun o ρ w ho hx hy=> ?_
 have:=re w a b c d e
 have hg:Tryz.prog.eqGuardType Tryz.prog.depth 57=false:=by kernel_rfl
 simp [execOp,ho,hx,hy,eqGuard,binOp,hg,this,Sem.run]
end
theorem nS (l:List Ac) (h1:l.length≤1000000):Spec Tryz.prog 34 (bf [.sl l.length (sI l), .sl l.length (sI l)] []) (aL (.v (.bool true)) []):=by
 refine Spec.ofN Tryz.func34 rfl Tryz.ntmps34 rfl ?_
 refine am (ce rfl (ai (aq (am (eT rfl (aj (bD _ aa rfl) (eT rfl (aj (bD _ aa rfl) (aj (bY (r:=false) _ _ rfl rfl (by simp)) ?_)))))))))
 refine ai (aS rfl rfl (aO (aT fun K4 hK4=> ?_)))
 refine am (bc rfl (ai (au ?_)))
 refine bv (α:=Nat) (fun k=> k≤l.length) 26 [(0,_),(1,_)] [] (fun k=> [(5, .v (.int .i64 (k:Int)))]) (fun k=> []) [] [] (fun k=> l.length - k) 0 ?_ (by
  refine Le.mkJ [] [] rfl ?_ ?_ trivial trivial ?_
  ·exact ⟨(iS rfl),(iS rfl),(cd ag),trivial⟩
  ·exact trivial
  ·kernel_rfl) ?_
 ·omega
 intro k hk
 refine aT fun K6 hK6=> ?_
 refine am (aV rfl (eT rfl (aj (bD _ aa rfl) (aj (bo _ _ rfl rfl rfl) (ai (aP rfl (fun hc14=> ?_) (fun hc14=> ?_)))))))
 ·skip
  have hia:=uW l k ab
  refine bA (hK6 _ ?_)
  clear hK6;try clear K6
  refine aq (au (aq ?_))
  refine aQ (σ':=aA 26 [(0,_),(1,_),(5,_)] [] [] []) kp ?_
  refine bT 9 [17,18,19,20,21,22,23,24,25] [] ae ae rfl (aM rfl) (rfl:_=[_,_,_,_,_,_,_,_,_]) (rfl:_=[]) ?_
  refine ap (_,[]) (fun τ=> aH _ (rfl:_=AV.sl _ _)) ?_
  refine fO rfl ?_
  refine ap (_,[]) (fun τ=> aH _ (rfl:_=AV.v (.int _ _))) ?_
  refine fR rfl ?_
  refine ap (_,[]) (fun τ=> bl _ _ aa rfl rfl _ rfl ab (by (simp only [aU,bj,bh,aU,fk,bF];omega)) ag) ?_
  refine fT rfl ?_
  refine ap (_,[]) (fun τ=> bZ _ aa rfl (by exact hia) rfl) ?_
  refine fP rfl ?_
  refine ap (_,[]) (fun τ=> aH _ (rfl:_=AV.sl _ _)) ?_
  refine gb rfl ?_
  refine ap (_,[]) (fun τ=> aH _ (rfl:_=AV.v (.int _ _))) ?_
  refine gC rfl ?_
  refine ap (_,[]) (fun τ=> bl _ _ aa rfl rfl _ rfl ab (by (simp only [aU,bj,bh,aU,fk,bF];omega)) ag) ?_
  refine iy rfl ?_
  refine ap (_,[]) (fun τ=> bZ _ aa rfl (by exact hia) rfl) ?_
  refine jy rfl ?_
  refine ap (_,[]) (fun τ=> vy _ _ rfl rfl) ?_
  refine jr rfl (bw ⟨rfl,?_⟩)
  refine ai (aS rfl rfl (cf (an (aV rfl (aj (aZ _ _ rfl rfl (bJ ab)) ?_)))))
  refine bc rfl (aI (⟨k+1,?_,?_,?_⟩))
  ·omega
  ·skip
   refine Le.mkJ [] [] rfl ?_ ?_ trivial trivial ?_
   ·exact ⟨(iS rfl),(iS rfl),(cd ag),trivial⟩
   ·exact trivial
   ·kernel_rfl
  ·omega
 ·skip
  refine bI (id (hK4 _ ?_))
  clear hK4;try clear K4
  refine am (ce rfl (ai (aE (aW (.inr rfl) rfl (.tmp (rfl:_=AV.v (.bool _))) (Le.out [] [] (gy ?_) rfl rfl rfl trivial trivial)))))
  rfl

theorem nF (xs:List Int) (h:xs.length≤1000000):Spec Tryz.prog 30 (bf [.sl xs.length (dS xs), .sl xs.length (dS xs)] []) (aL (.v (.bool true)) []):=by
 have:=tB xs.length xs.length xs xs rfl rfl ab ab
 rw [decide_eq_true rfl] at this;exact this

def od (L:List Int) (i:Nat) (m:Int):Int:=if i < L.length then fh (L.getD i 0) m else 0
theorem pj (L:List Int) (i:Nat) {m:Int} (hm:1≤m):0≤od L i m:=by
 unfold od;split
 ·exact jN _ _ ab
 ·omega
theorem py (L:List Int) (i:Nat) {m:Int} (hm:1≤m):od L i m < m:=by
 unfold od;split
 ·exact jM _ _ ab
 ·omega
theorem mM {L:List Int} (h:GL L) (i:Nat) (hi:i≤2000000) (m:Int) (hm:1≤m∧m≤1000):
  Spec Tryz.prog 58 (bf [.sl L.length (dS L), .v (.int .i64 (i:Int)), .v (.int .i64 m)] []) (aL (.v (.int .i64 (od L i m))) []):=by
 have hn:=h.n
 by_cases hk:i < L.length
 ·have hr:=h.r (L.getD i 0) (by rw [List.getD_eq_getElem?_getD,List.getElem?_eq_getElem hk];exact List.getElem_mem hk)
  have ha:=iY (L.getD i 0) m ab ab hr.1 hr.2
  rw [show od L i m=fh (L.getD i 0) m from if_pos hk]
  refine Spec.ofN Tryz.func58 rfl Tryz.ntmps58 rfl ?_
  refine am (bc rfl (ai (aq (am (aV rfl (aj (bo (r:=false) _ _ rfl rfl (decide_eq_false ab)) ?_))))))
  refine cE rfl (ax rfl rfl (aH _ (rfl:_=AV.v (.int _ _))) (ax rfl rfl (aH _ (rfl:_=AV.sl _ _)) (ax rfl rfl (bD _ aa rfl) (ax rfl rfl (fj (r:=false) _ _ rfl rfl (decide_eq_false ab)) ?_))))
  refine aj (az _ _ _ rfl (rfl:_=AV.v (.bool _))) (ai (aS rfl rfl (aO (am (eT rfl (aV rfl (aj (bl _ _ aa rfl rfl _ rfl ab (by (simp only [aU,bj,bh,aU,fk,bF];omega)) (by exact Nat.mul_one _)) ?_)))))))
  refine aj (bU _ aa rfl (by exact dz _ _ ab) rfl) ?_
  refine aV rfl (aj (aC aa al (ha) rfl rfl) ?_)
  exact bc rfl (ai (aE (aW (.inr rfl) rfl (.tmp (rfl:_=AV.v _)) (Le.out [] [] .v rfl rfl rfl trivial trivial))))
 ·rw [show od L i m=0 from if_neg hk]
  refine Spec.ofN Tryz.func58 rfl Tryz.ntmps58 rfl ?_
  refine am (bc rfl (ai (aq (am (aV rfl (aj (bo (r:=false) _ _ rfl rfl (decide_eq_false ab)) ?_))))))
  refine cE rfl (ax rfl rfl (aH _ (rfl:_=AV.v (.int _ _))) (ax rfl rfl (aH _ (rfl:_=AV.sl _ _)) (ax rfl rfl (bD _ aa rfl) (ax rfl rfl (fj (r:=true) _ _ rfl rfl (decide_eq_true ab)) ?_))))
  exact aj (az _ _ _ rfl (rfl:_=AV.v (.bool _))) (ai (bR rfl rfl (am (bc rfl (ai (aE (aW (.inr rfl) rfl (.tmp (rfl:_=AV.v _)) (Le.out [] [] .v rfl rfl rfl trivial trivial))))))))
def AW (b:List Int) (k:Nat):Int:=if k=0 then od b 0 9 % (1+od b 1 3) else if k=1 then 1+od b 1 3 else od b k 9
def tL (b:List Int) (q k:Nat):Int:=if k < q then od b k 9 else 0
abbrev L9 (e:Nat→Int):List AV:=[.v (.int .i64 (e 0)), .v (.int .i64 (e 1)), .v (.int .i64 (e 2)), .v (.int .i64 (e 3)), .v (.int .i64 (e 4)), .v (.int .i64 (e 5)), .v (.int .i64 (e 6)), .v (.int .i64 (e 7)), .v (.int .i64 (e 8))]
theorem Bj (e:Nat→Int) (h:Nat) (hh:h < 9) (x:Int):eH (L9 e) h [.v (.int .i64 x)]=L9 (nQ e h x):=by
 rcases h with _ | _ | _ | _ | _ | _ | _ | _ | _ | h
 all_goals first | rfl | omega
theorem yF (b:List Int) (q:Nat):nQ (tL b q) q (od b q 9)=tL b (q+1):=by
 funext k
 unfold nQ tL
 by_cases h1:k=q
 ·rw [if_pos h1,if_pos ab,h1]
 ·rw [if_neg h1]
  by_cases h2:k < q
  ·rw [if_pos h2,if_pos ab]
  ·rw [if_neg h2,if_neg ab]
theorem ry (b:List Int) (G:GL b):
  Spec Tryz.prog 23 (bf [.sl b.length (dS b)] []) (aL (.agg (L9 (AW b))) []):=by
 have h1:=mM G 1 ab 3 ab
 have hlo:=pj b 1 (m:=3) ab
 have hhi:=py b 1 (m:=3) ab
 have hlo0:=pj b 0 (m:=9) ab
 have hhi0:=py b 0 (m:=9) ab
 refine Spec.ofN Tryz.func23 rfl Tryz.ntmps23 rfl ?_
 refine am (aj (aR (2,0) aa rfl rfl) (ai (am (aj (aR (3,0) aa rfl rfl) (ai (aT fun K3 hK3=> ?_))))))
 refine am (bc rfl (ai (au ?_)))
 refine bv (α:=Nat) (fun q=> q≤9) 25 [(0,_),(2,_),(3,_)] [((2,0),_)] (fun q=> [(4, .v (.int .i64 (q:Int)))]) (fun q=> [((3,0), .box 30 [.v (.int .i64 (tL b q 0)), .v (.int .i64 (tL b q 1)), .v (.int .i64 (tL b q 2)), .v (.int .i64 (tL b q 3)), .v (.int .i64 (tL b q 4)), .v (.int .i64 (tL b q 5)), .v (.int .i64 (tL b q 6)), .v (.int .i64 (tL b q 7)), .v (.int .i64 (tL b q 8))])]) [] [] (fun q=> 9 - q) 0 ?_ (by
  refine Le.mkJ [] [] rfl ?_ ?_ trivial trivial ?_
  ·exact ⟨(iS rfl),(iP rfl),(iP rfl),(cd ag),trivial⟩
  ·exact ⟨(cH rfl rfl rfl),(gz rfl rfl rfl rfl lz),trivial⟩
  ·kernel_rfl) ?_
 ·omega
 intro q hq
 refine aT fun K5 hK5=> ?_
 refine am (aV rfl (aj (bo _ _ rfl rfl rfl) (ai (aP rfl (fun hc6=> ?_) (fun hc6=> ?_)))))
 ·skip
  have hq9:=mM G q ab 9 ab
  refine bA (hK5 _ ?_)
  clear hK5;try clear K5
  refine aq (au (an (aV rfl (eT rfl (aV rfl (aj (aC aa al (hq9) rfl rfl) ?_))))))
  refine aj (em _ _ aa rfl rfl rfl q rfl ab (by exact (Nat.zero_add _).trans (Nat.mul_one _))) ?_
  refine aj (iX _ _ aa rfl rfl rfl rfl (show q+1≤9 by omega) ((Bj (tL b q) q ab _).trans (by rw [yF]))) ?_
  refine gq (an (aV rfl (aj (aZ _ _ rfl rfl (bJ ab)) ?_)))
  refine bc rfl (aI (⟨q+1,?_,?_,?_⟩))
  ·omega
  ·skip
   refine Le.mkJ [] [] rfl ?_ ?_ trivial trivial ?_
   ·exact ⟨(iS rfl),(iP rfl),(iP rfl),(cd ag),trivial⟩
   ·exact ⟨(cH rfl rfl rfl),(gz rfl rfl rfl rfl lz),trivial⟩
   ·kernel_rfl
  ·omega
 ·skip
  obtain rfl:q=9:=by omega
  refine bI (id (hK3 _ ?_))
  clear hK3;try clear K3
  refine am (eT rfl (aj (aC aa al (h1) rfl rfl) ?_))
  refine aj (aZ (r:=1+od b 1 3) _ _ rfl rfl (bJ ab)) ?_
  refine aj (em _ _ aa rfl rfl rfl 1 rfl ab (by exact (Nat.zero_add _).trans (Nat.mul_one _))) ?_
  refine cF rfl rfl rfl rfl rfl rfl (ai (am (aj (em _ _ aa rfl rfl rfl 0 rfl ab (by exact (Nat.zero_add _).trans (Nat.mul_one _))) ?_)))
  refine cw rfl rfl rfl (aj (em _ _ aa rfl rfl rfl 1 rfl ab (by exact (Nat.zero_add _).trans (Nat.mul_one _))) ?_)
  refine cw rfl rfl rfl (aj (kq (r:=od b 0 9 % (1+od b 1 3)) _ _ rfl rfl ab (Int.tmod_eq_emod_of_nonneg hlo0)) ?_)
  refine aj (em _ _ aa rfl rfl rfl 0 rfl ab (by exact (Nat.zero_add _).trans (Nat.mul_one _))) ?_
  exact cF rfl rfl rfl rfl rfl rfl (ai (am (aj (aX _ aa rfl rfl rfl rfl) (cF rfl rfl rfl rfl rfl rfl (ai (aE (aW (.inr rfl) rfl (.cellA aa rfl rfl rfl) (Le.out [] [] (.agg rfl lz) rfl rfl rfl trivial trivial))))))))

theorem AS (b:List Int) (k:Nat):Rg (AW b k):=by
 have h1:=pj b 1 (m:=3) ab
 have h2:=py b 1 (m:=3) ab
 have h3:=pj b k (m:=9) ab
 have h4:=py b k (m:=9) ab
 unfold AW Rg
 split
 ·have h5:=Int.emod_nonneg (od b 0 9) (show 1+od b 1 3≠0 by omega)
  have h6:=Int.emod_lt_of_pos (od b 0 9) (show 0 < 1+od b 1 3 by omega)
  omega
 ·split <;> omega
theorem uL (b:List Int): ∀ i,Rg (((List.range 9).map (AW b)).getD i 0):=fun i=> mC (fun x hx=> by
 obtain ⟨j,_,rfl⟩:=List.mem_map.1 hx
 exact AS b j) i
structure Da (M:Mk) (D:Nat→Nat) (nv:Nat):Prop where
 pg:PG M.cx D nv
 iv:M.iv.length=nv
 ir: ∀ v∈M.iv,Rg v
 nv:0 < nv
 ent: ∀ h,h < 40→M.P.e h < 0∨ ∃ e0:Nat,M.P.e h=(e0:Int)∧e0 < M.P.c.length∧D e0=0
 c:M.P.c.length≤1000000

set_option maxHeartbeats 1000000 in
theorem uz (M:Mk) (h:Nat) (hh:h < 40) (he:M.P.e h < 0) (h0:0 < M.iv.length) (h1:M.iv.length≤1000):
  Spec Tryz.prog 24 (bf [zO M.P, .v (.int .i64 (h:Int)), .sl M.iv.length (dS M.iv), .agg [.v (.int .i64 (M.nm 0)), .v (.int .i64 (M.nm 1)), .v (.int .i64 (M.nm 2)), .v (.int .i64 (M.nm 3)), .v (.int .i64 (M.nm 4)), .v (.int .i64 (M.nm 5)), .v (.int .i64 (M.nm 6)), .v (.int .i64 (M.nm 7)), .v (.int .i64 (M.nm 8))], .sl M.ans.length (dS M.ans)] []) (aL (.tup [.agg [.sl M.iv.length (dS M.iv), .sl 0 [], .v (.int .i64 0), .v (.bool false), .sl 0 []], .sl 0 [], .v (.bool true)]) []):=by
 have hv:=rT M h hh he h0 h1
 refine Spec.ofN Tryz.func24 rfl Tryz.ntmps24 rfl ?_
 refine am (aj (bg (5,0) _ rfl rfl) (aj (bg (8,0) _ rfl rfl) (aj (aR (10,0) aa rfl rfl) (aj (bB _ (rfl:_=AV.v (.slice _ _ _))) (ce rfl (ai (am (eT rfl (aj (aF _ aa rfl (by exact (rfl:_=some [_,_,_]))) ?_)))))))))
 refine aj (bg (17,0) _ rfl rfl) (CX rfl (ai (aq ?_)))
 refine aQ (Le.nilB (17,0) 1 (62,0) 3 1 rfl rfl rfl) ?_
 refine an (aj (aX _ aa rfl rfl rfl rfl) (aV rfl (eT rfl (aj (aX _ aa rfl rfl rfl rfl) (aj (aF _ aa rfl (by exact (rfl:_=some [_,_,_,_,_,_,_,_,_,_]))) ?_)))))
 refine bN rfl (aj (ol _ _ (rfl:_=[_]) (rfl:_=[])) ?_)
 refine aj (eb aa [((4,9),(17,0)),((5,9),(62,0)),((5,8),(25,1))] ar (hv) ob tr tr rfl rfl ae ae) ?_
 refine aj (aR (14,0) aa rfl rfl) (cF rfl rfl rfl rfl rfl rfl (ai (aq ?_)))
 refine aQ (σ':=aA 35 [(10,_),(13,_),(14,_)] [((10,0),_),((17,0),_),((25,1),_),((14,0),_)] [] []) kp ?_
 refine pE 12 [26,27,28,29,30,31,32,33,34,11,12] [(10,0)] ae ae rfl (rfl:_=[_,_,_,_,_,_,_,_,_,_,_,_]) (rfl:_=[]) ?_
 refine cr (_,[]) (fun τ=> aX _ aa rfl rfl rfl rfl) ?_
 refine ct (rfl:_=[_]) ?_
 refine cr (_,[]) (fun τ=> aH _ (rfl:_=AV.ptr _ _)) ?_
 refine ct (rfl:_=[_,_]) ?_
 refine cr (_,[]) (fun τ=> aJ _ rfl rfl) ?_
 refine ct (rfl:_=[_,_,_]) ?_
 refine cr (_,[]) (fun τ=> aD _ aa rfl rfl rfl) ?_
 refine ct (rfl:_=[_,_,_,_]) ?_
 refine cr (_,[]) (fun τ=> aG _ aa rfl rfl (rfl:_=some (AV.ref _ _ _))) ?_
 refine ct (rfl:_=[_,_,_,_,_]) ?_
 refine cr (_,[]) (fun τ=> aH _ (rfl:_=AV.ptr _ _)) ?_
 refine ct (rfl:_=[_,_,_,_,_,_]) ?_
 refine cr (_,[]) (fun τ=> aJ _ rfl rfl) ?_
 refine ct (rfl:_=[_,_,_,_,_,_,_]) ?_
 refine cr (_,[]) (fun τ=> aD _ aa rfl rfl rfl) ?_
 refine ct (rfl:_=[_,_,_,_,_,_,_,_]) ?_
 refine cr (_,[]) (fun τ=> aG _ aa rfl rfl (rfl:_=some (AV.v (.bool _)))) ?_
 refine ct (rfl:_=[_,_,_,_,_,_,_,_,_]) ?_
 refine cr (_,[((10,0),_)]) (fun τ=> iX _ _ aa rfl rfl rfl rfl (Nat.le_of_ble_eq_true rfl) rfl) ?_
 refine ct (rfl:_=[_,_,_,_,_,_,_,_,_,_]) ?_
 refine cr (_,[]) (fun τ=> bB _ (rfl:_=AV.ref _ _ _)) ?_
 refine ct (rfl:_=[_,_,_,_,_,_,_,_,_,_,_]) ?_
 refine cr (_,[]) (fun τ=> bB _ (rfl:_=AV.v (.bool _))) ?_
 refine ct (rfl:_=[_,_,_,_,_,_,_,_,_,_,_,_]) ?_
 refine mF ⟨⟨rfl,by kernel_rfl,by kernel_rfl⟩,?_⟩
 exact ai (aE (yT (.inr rfl) rfl (.cellA aa rfl rfl rfl) (.tmp (rfl:_=AV.ref _ _ _)) (.tmp (rfl:_=AV.v _)) (Le.out [] [(25,1)] (.tup rfl (aB (.agg rfl lz) (aB (iL rfl rfl rfl rfl) lz))) rfl rfl rfl tr trivial)))

def ua (M:Mk) (h:Nat):Ms:=if M.P.e h < 0 then { vars:=M.iv,pc:=0,fin:=true } else kB M.cx 500 (el M.iv (M.P.e h).toNat)
theorem zM {M:Mk} {h:Nat} (he:M.P.e h < 0):ua M h={ vars:=M.iv,pc:=0,fin:=true }:=if_pos he
theorem qz {M:Mk} {h e0:Nat} (he:M.P.e h=(e0:Int)):ua M h=kB M.cx 500 (el M.iv e0):=by
  unfold ua;rw [if_neg ab,he];rfl
abbrev CO (M:Mk) (h:Nat):List AV:=[zO M.P, .v (.int .i64 (h:Int)), .sl M.iv.length (dS M.iv), .agg [.v (.int .i64 (M.nm 0)), .v (.int .i64 (M.nm 1)), .v (.int .i64 (M.nm 2)), .v (.int .i64 (M.nm 3)), .v (.int .i64 (M.nm 4)), .v (.int .i64 (M.nm 5)), .v (.int .i64 (M.nm 6)), .v (.int .i64 (M.nm 7)), .v (.int .i64 (M.nm 8))], .sl M.ans.length (dS M.ans)]
abbrev zS (s:Ms):AV:= .tup [.agg [.sl s.vars.length (dS s.vars), .sl s.acts.length (sI s.acts), .v (.int .i64 (s.steps:Int)), .v (.bool (!s.fin)), .sl (rN s.cov).length (dS (rN s.cov))], .sl s.asked.length (dS s.asked), .v (.bool true)]
theorem ts {M:Mk} {D:Nat→Nat} {nv:Nat} (K:Da M D nv) (hn:M.ans.length≤4611686018427387904) (h:Nat) (hh:h < 40):
    Spec Tryz.prog 24 (bf (CO M h) []) (aL (zS (ua M h)) []):=by
  have hnv:=K.pg.nv
  have h0:0 < M.iv.length:=by rw [K.iv];exact K.nv
  have h1:M.iv.length≤1000:=by rw [K.iv];omega
  rcases K.ent h hh with he | ⟨e0,he,he2,hD⟩
  · rw [zM he];exact uz M h hh he h0 h1
  · rw [qz he]
    have hr:=qy M D nv K.pg h hh e0 he he2 hD K.iv K.ir K.nv K.c hn _ rfl
    rw [← Ar] at hr
    exact hr
theorem kQ {K:Cx} (k:Nat) {s:Ms} (h:s.fin=false):kB K (k+1) s=kB K k (eh K s):=by rw [kB,if_neg (by rw [h];decide)]

def mL:Mk:=⟨⟨bQ onsL 0,bV onsL,0,1⟩,[0],[0,1,0,0,0,0,0,0,0],[]⟩
def rL:Ms:=kB mL.cx 500 (el [0] 0)
theorem zw:rL.vars=[3]:=by kernel_rfl
theorem zE:rL.acts=[{ k:=3,a:=0,b:=3,c:=3,d:=1 }]:=by kernel_rfl
theorem BQ:rL.fin=true:=by kernel_rfl
theorem wz:0 < rL.steps:=of_decide_eq_true ae
theorem CS:PG mL.cx (qb onsL) 1:=CR ab usrcL.ok (fun i=> mC (fun x hx=> by
 have hx:x∈[(0:Int),1,0,0,0,0,0,0,0]:=hx
 simp only [List.mem_cons,List.not_mem_nil,or_false] at hx
 unfold Rg;omega) i)
theorem AR:mL.P.e 0=((0:Nat):Int):=by kernel_rfl
theorem Bq:0 < mL.P.c.length:=of_decide_eq_true ae
theorem Bf:qb onsL 0=0:=by kernel_rfl
set_option maxHeartbeats 1000000 in
theorem rB:Spec Tryz.prog 27 (bf [] []) (aL (.v (.bool true)) []):=by
 have hb:=rp usrcL
 rw [xu,if_pos (ux srcOkL)] at hb
 have hb:Spec Tryz.prog 64 (bf [.v (bt AJ)] []) (aL (.tup [zO mL.P, .v (.int .i64 0)]) []):=hb
 have hrun:=qy mL (qb onsL) 1 CS 0 ab 0 AR Bq Bf rfl (fun x hx=> by rw [List.mem_singleton.1 hx];unfold Rg;omega) ab usrcL.c (by show 0≤_;omega) rL rfl
 rw [zw,zE,BQ] at hrun
 have hn:=wz
 have hrun:Spec Tryz.prog 24 (bf [zO mL.P, .v (.int .i64 0), .sl 1 (dS [0]), .agg [.v (.int .i64 0), .v (.int .i64 1), .v (.int .i64 0), .v (.int .i64 0), .v (.int .i64 0), .v (.int .i64 0), .v (.int .i64 0), .v (.int .i64 0), .v (.int .i64 0)], .sl 0 []] []) (aL (.tup [.agg [.sl 1 (dS [3]), .sl 1 (sI [{ k:=3,a:=0,b:=3,c:=3,d:=1 }]), .v (.int .i64 (rL.steps:Int)), .v (.bool false), .sl (ia (mm rL.cov)).length (dS (ia (mm rL.cov)))], .sl rL.asked.length (dS rL.asked), .v (.bool true)]) []):=hrun
 generalize rL.steps=n at hn hrun
 generalize ia (mm rL.cov)=cv at hrun
 generalize rL.asked=ak at hrun
 generalize mL.P=P at hb hrun
 refine Spec.ofN Tryz.func27 rfl Tryz.ntmps27 rfl ?_
 refine am (ce rfl (ai (am (aj (aC aa al (hb) rfl rfl) ?_))))
 refine aj (aH _ (rfl:_=AV.tup _)) (aj (dl _ rfl (rfl:_=some (AV.agg _))) (aj (dl _ rfl (rfl:_=some (AV.v (.int _ _)))) (aj (aR (1,0) aa rfl rfl) (cF rfl rfl rfl rfl rfl rfl (bc rfl (ai (am (aj (aR (3,0) aa rfl rfl) (ai (am ?_))))))))))
 refine aj (em _ _ aa rfl rfl rfl 1 rfl ab (by exact (Nat.zero_add _).trans (Nat.mul_one _))) ?_
 refine cF rfl rfl rfl rfl rfl rfl (ai (am (aj (aX _ aa rfl rfl rfl rfl) (aj (bi _ _ aa rfl ag (by (simp <;> rfl)) ah rfl) ?_))))
 refine aj (aX _ aa rfl rfl rfl rfl) (aj (aC aa al (hrun) rfl rfl) ?_)
 refine aj (aH _ (rfl:_=AV.tup _)) (aj (dl _ rfl (rfl:_=some (AV.agg _))) (aj (dl _ rfl (rfl:_=some (AV.sl _ _))) (aj (dl _ rfl (rfl:_=some (AV.v (.bool _)))) (aj (aR (4,0) aa rfl rfl) (cF rfl rfl rfl rfl rfl rfl (jS rfl (ce rfl (ai (aq ?_)))))))))
 refine aQ (σ':=aA 48 [(2,_),(4,_),(6,_)] [((4,0),_)] [] []) kp ?_
 refine an (aV rfl (jv rfl rfl rfl (cE rfl (ax rfl rfl (aH _ (rfl:_=AV.v (.bool _))) (aj (az _ _ _ rfl (rfl:_=AV.v (.bool _))) (cE rfl (ax rfl rfl (aD _ aa rfl rfl rfl) (ax rfl rfl (aG _ aa rfl rfl (rfl:_=some (AV.sl _ _))) (ax rfl rfl (bi _ _ aa rfl ag (by (simp <;> rfl)) ah rfl) ?_)))))))))
 refine ax rfl rfl (aC aa al (nF [3] ah) rfl rfl) ?_
 refine aj (az _ _ _ rfl (rfl:_=AV.v (.bool _))) (cE rfl (ax rfl rfl (aD _ aa rfl rfl rfl) (ax rfl rfl (aG _ aa rfl rfl (rfl:_=some (AV.sl _ _))) (ax rfl rfl (aF _ aa rfl (by exact (rfl:_=some [_,_,_,_,_]))) ?_))))
 refine ax rfl rfl (bi _ _ aa rfl ag (by (simp <;> rfl)) ah rfl) ?_
 refine ax rfl rfl (aC aa al (nS [{ k:=3,a:=0,b:=3,c:=3,d:=1 }] ah) rfl rfl) ?_
 refine aj (az _ _ _ rfl (rfl:_=AV.v (.bool _))) (cE rfl (ax rfl rfl (aD _ aa rfl rfl rfl) (ax rfl rfl (aG _ aa rfl rfl (rfl:_=some (AV.v (.bool _)))) (ax rfl rfl (cL (r:=true) _ rfl rfl) (aj (az _ _ _ rfl (rfl:_=AV.v (.bool _))) (cE rfl (ax rfl rfl (aD _ aa rfl rfl rfl) (ax rfl rfl (aG _ aa rfl rfl (rfl:_=some (AV.v (.int _ _)))) (ax rfl rfl (gj (r:=true) _ _ rfl rfl (decide_eq_true ab)) ?_)))))))))
 refine aj (az _ _ _ rfl (rfl:_=AV.v (.bool _))) (ce rfl (ai (aE (aW (.inr rfl) rfl (.tmp (rfl:_=AV.v (.bool _))) (Le.out [] [] (gy ?_) rfl rfl rfl trivial trivial)))))
 rfl

def Ci (X Y:Int) (o:Opc):List dY:=[⟨.push,X⟩,⟨.push,Y⟩,⟨o,0⟩,⟨.setVar,0⟩,⟨.stop,0⟩]
def Cc (i:Nat):Nat:=[0,1,2,1,0].getD i 0
abbrev ml (o:Opc):Prop:=o= .add∨o= .sub∨o= .mul∨o= .div∨o= .lt∨o= .le∨o= .eq
theorem Cv {X Y:Int} (hX:Rg X) (hY:Rg Y) {o:Opc} (ho:ml o) {names ans:List Int} (hm: ∀ i,Rg (names.getD i 0)):PG ⟨Ci X Y o,1,names,ans⟩ Cc 1:=by
 refine ⟨fun i x hx=> ?_,by omega,hm⟩
 unfold Ci at hx ⊢
 rw [Nat.zero_add]
 rcases i with _ | _ | _ | _ | _ | i
 all_goals first | (simp at hx;done) | (simp only [List.getElem?_cons_zero,List.getElem?_cons_succ,Option.some.injEq] at hx;subst hx)
 case succ.succ.zero=>
  rcases ho with rfl | rfl | rfl | rfl | rfl | rfl | rfl
  all_goals refine ⟨?_,?_,fun j hj=> ?_⟩
  all_goals first | (simp [cJ];done) | (simp [Opc.pops,Cc];done) | (simp [db] at hj;subst hj;simp [Cc,Opc.pops,Opc.puts];done)
 all_goals refine ⟨?_,?_,fun j hj=> ?_⟩
 all_goals first | exact hX | exact hY | (simp [cJ];done) | (simp [Opc.pops,Cc];done) | (simp [db] at hj;done) | (simp [db] at hj;subst hj;simp [Cc,Opc.pops,Opc.puts];done)
theorem AQ {X Y:Int} (hX:Rg X) (hY:Rg Y) {o:Opc} (ho:ml o) (names ans:List Int):(kB ⟨Ci X Y o,1,names,ans⟩ 500 (el [0] 0)).vars=[iH o X Y]:=by
 obtain ⟨K,hK⟩: ∃ K:Cx,K=⟨Ci X Y o,1,names,ans⟩:=⟨_,rfl⟩
 have e: ∀ s1 s2 s3 s4 s5:Ms,s1=eh K (el [0] 0)→s1.fin=false→s2=eh K s1→s2.fin=false→s3=eh K s2→s3.fin=false→s4=eh K s3→s4.fin=false→s5=eh K s4→s5.fin=true→kB K 500 (el [0] 0)=s5:=by
  intro s1 s2 s3 s4 s5 a1 b1 a2 b2 a3 b3 a4 b4 a5 b5
  rw [show (500:Nat)=495+1+1+1+1+1 from rfl,kQ _ rfl,← a1,kQ _ b1,← a2,kQ _ b2,← a3,kQ _ b3,← a4,kQ _ b4,← a5,sa b5]
 rw [← hK,e _ _ _ _ _ rfl (by subst hK;rfl) rfl (by subst hK;rfl) rfl (by subst hK;rcases ho with rfl | rfl | rfl | rfl | rfl | rfl | rfl <;> rfl) rfl (by subst hK;rcases ho with rfl | rfl | rfl | rfl | rfl | rfl | rfl <;> rfl) rfl (by subst hK;rcases ho with rfl | rfl | rfl | rfl | rfl | rfl | rfl <;> rfl)]
 have h:(eh K (eh K (eh K (eh K (eh K (el [0] 0)))))).vars=[iH o (jK X) (jK Y)]:=by
  subst hK
  rcases ho with rfl | rfl | rfl | rfl | rfl | rfl | rfl <;> rfl
 rw [h,vF hX,vF hY]
abbrev LL (X Y:Int) (o:Opc):Pg:=⟨Ci X Y o,eB 40,1,0⟩
def EB (X Y:Int) (o:Opc):Mk:=⟨LL X Y o,[0],(List.range 9).map (AW []),[]⟩
theorem BA {X Y:Int} (hX:Rg X) (hY:Rg Y) {o:Opc} (ho:ml o):Da (EB X Y o) Cc 1:=by
 refine ⟨Cv hX hY ho (uL []),rfl,fun v hv=> ?_,by omega,fun h hh=> ?_,?_⟩
 ·have:v=0:=List.mem_singleton.1 hv
  rw [this];exact nH
 ·by_cases h0:h=0
  ·subst h0;exact .inr ⟨0,rfl,by show 0 < 5;omega,rfl⟩
  ·exact .inl (by show eB 40 h < 0;unfold eB;rw [if_pos ab];omega)
 ·show 5≤1000000;omega
theorem Df {X Y:Int} (hX:Rg X) (hY:Rg Y) {o:Opc} (ho:ml o): ∃ (acs:List Ac) (n:Int) (sp:Bool) (cv ak:List Int),
  Spec Tryz.prog 24 (bf [zO (LL X Y o), .v (.int .i64 0), .sl 1 (dS [0]), .agg (L9 (AW [])), .sl 0 []] []) (aL (.tup [.agg [.sl 1 (dS [iH o X Y]), .sl acs.length (sI acs), .v (.int .i64 n), .v (.bool sp), .sl cv.length (dS cv)], .sl ak.length (dS ak), .v (.bool true)]) []):=by
 have h:=ts (BA hX hY ho) (by show 0≤_;omega) 0 ab
 have hv:(ua (EB X Y o) 0).vars=[iH o X Y]:=by
  rw [qz (M:=EB X Y o) (e0:=0) rfl];exact AQ hX hY ho _ _
 generalize ua (EB X Y o) 0=s at h hv
 unfold zS at h
 rw [hv] at h
 exact ⟨_,_,_,_,_,h⟩
theorem mY (n:Int) (h: -9223372036854775808≤n∧n≤9223372036854775807):Spec Tryz.prog 28 (bf [.v (.int .i64 n), .v (.int .i64 2147483647)] []) (aL (.v (.int .i64 (fh n 4294967295 - 2147483647))) []):=by
 have h1:=iY n 4294967295 ab ab h.1 h.2
 have h2:=jN n 4294967295 ab
 have h3:=jM n 4294967295 ab
 refine Spec.ofN Tryz.func28 rfl Tryz.ntmps28 rfl ?_
 refine am (bc rfl (ai (am (aV rfl (aV rfl (aj (pz (r:=4294967294) _ _ rfl rfl rfl) ?_))))))
 refine aj (aZ (r:=4294967295) _ _ rfl rfl rfl) ?_
 refine aj (aC aa al (h1) rfl rfl) ?_
 refine aV rfl (aj (gK _ _ rfl rfl (bJ ab)) ?_)
 exact bc rfl (ai (aE (aW (.inr rfl) rfl (.tmp (rfl:_=AV.v _)) (Le.out [] [] .v rfl rfl rfl trivial trivial))))
theorem sy {x:Int} (h:Rg x) {m:Int} (hm:0 < m):Rg (x.tmod m):=by
 unfold Rg at h ⊢
 rcases Int.le_total 0 x with h0 | h0
 ·have h1:=Int.tmod_eq_emod_of_nonneg (b:=m) h0
  have h2:=Int.emod_nonneg x (show m≠0 by omega)
  have h3:x % m≤x:=by have:=Int.mul_ediv_add_emod x m;have:=Int.mul_nonneg (show 0≤m by omega) (Int.ediv_nonneg h0 (show 0≤m by omega));omega
  omega
 ·have h1:=Int.tmod_eq_emod_of_nonneg (a:= -x) (b:=m) ab
  have h2:=Int.emod_nonneg (-x) (show m≠0 by omega)
  have h3: -x % m≤ -x:=by have:=Int.mul_ediv_add_emod (-x) m;have:=Int.mul_nonneg (show 0≤m by omega) (Int.ediv_nonneg (show 0≤ -x by omega) (show 0≤m by omega));omega
  rw [Int.neg_tmod] at h1
  omega
def Ad (x y:Int):List Int:=[x,y,x,x,x,0,x.tmod 1000,y.tmod 10,2147483647,y,x, -2147483647]
theorem uV {x y:Int} (hx:Rg x) (hy:Rg y) (i:Nat):Rg ((Ad x y).getD i 0):=mC (fun v hv=> by
 unfold Ad at hv
 simp only [List.mem_cons,List.not_mem_nil,or_false] at hv
 rcases hv with rfl | rfl | rfl | rfl | rfl | rfl | rfl | rfl | rfl | rfl | rfl | rfl
 all_goals first | exact hx | exact hy | exact nH | exact sy hx ab | exact sy hy ab | (unfold Rg;omega)) i
def arO:List Int:=[6,7,8,9,11,12,13]
theorem AE (k:Nat) (h:k < 7): ∃ o:Opc,arO.getD k 0=(o.num:Int)∧ml o:=by
 rcases (show k=0∨k=1∨k=2∨k=3∨k=4∨k=5∨k=6 by omega) with rfl | rfl | rfl | rfl | rfl | rfl | rfl
 ·exact ⟨.add,rfl,by simp [ml]⟩
 ·exact ⟨.sub,rfl,by simp [ml]⟩
 ·exact ⟨.mul,rfl,by simp [ml]⟩
 ·exact ⟨.div,rfl,by simp [ml]⟩
 ·exact ⟨.lt,rfl,by simp [ml]⟩
 ·exact ⟨.le,rfl,by simp [ml]⟩
 ·exact ⟨.eq,rfl,by simp [ml]⟩
set_option maxHeartbeats 1000000 in
theorem oN (a b:Int) (ha: -9223372036854775808≤a∧a≤9223372036854775807) (hb: -9223372036854775808≤b∧b≤9223372036854775807):
  Spec Tryz.prog 4 (bf [.v (.int .i64 a), .v (.int .i64 b)] []) (aL (.v (.bool true)) []):=by
 have ba:=mY a ha
 have bb:=mY b hb
 have hx:Rg (fh a 4294967295 - 2147483647):=by
  have h2:=jN a 4294967295 ab
  have h3:=jM a 4294967295 ab
  unfold Rg;omega
 have hy:Rg (fh b 4294967295 - 2147483647):=by
  have h2:=jN b 4294967295 ab
  have h3:=jM b 4294967295 ab
  unfold Rg;omega
 generalize fh a 4294967295 - 2147483647=x at ba hx
 generalize fh b 4294967295 - 2147483647=y at bb hy
 have hl:(Ad x y).length=12:=rfl
 have hol:arO.length=7:=rfl
 have hN:=ry [] ⟨Nat.zero_le _,fun x hx=> by cases hx⟩
 have hN:Spec Tryz.prog 23 (bf [.sl 0 []] []) (aL (.agg (L9 (AW []))) []):=hN
 have hB:=tN 1 0
 refine Spec.ofN Tryz.func4 rfl Tryz.ntmps4 rfl ?_
 refine am (ce rfl (ai (am (aV rfl (aj (aC aa al (ba) rfl rfl) ?_)))))
 refine bc rfl (ai (am (aV rfl (aj (aC aa al (bb) rfl rfl) ?_))))
 refine bc rfl (ai (am (aj (bi _ _ aa rfl ag (by simp <;> rfl) ah (by exact (rfl:_=some (dS arO)))) ?_)))
 refine jS rfl (ai (am (aV rfl (aV rfl (aj (aF _ aa rfl (by exact (rfl:_=some [_,_]))) ?_)))))
 refine aV rfl (aV rfl (aj (aF _ aa rfl (by exact (rfl:_=some [_,_]))) ?_))
 refine aV rfl (aj (aF _ aa rfl (by exact (rfl:_=some [_,_]))) ?_)
 refine aV rfl (aj (kq (r:=x.tmod 1000) _ _ rfl rfl ab rfl) ?_)
 refine aV rfl (aj (kq (r:=y.tmod 10) _ _ rfl rfl ab rfl) ?_)
 refine aj (aF _ aa rfl (by exact (rfl:_=some [_,_]))) ?_
 refine aV rfl (aj (aF _ aa rfl (by exact (rfl:_=some [_,_]))) ?_)
 refine aV rfl (aj (aF _ aa rfl (by exact (rfl:_=some [_,_]))) ?_)
 refine aj (bi _ _ aa rfl ag (by simp <;> rfl) ah (by exact (rfl:_=some (dS (Ad x y))))) ?_
 refine jS rfl (ai (aT fun K6 hK6=> ?_))
 refine aq ?_
 refine aQ (σ':=aA 101 [(7,_),(8,_)] [] [] []) kp ?_
 refine an (bc rfl (ai (au ?_)))
 refine bv (α:=Nat) (fun i=> i≤6) 101 [(7,_),(8,_)] [] (fun i=> [(9, .v (.int .i64 (i:Int)))]) (fun i=> []) [] [] (fun i=> 6 - i) 0 ?_ (by
  refine Le.mkJ [] [] rfl ?_ ?_ trivial trivial ?_
  ·exact ⟨(iS rfl),(iS rfl),(cd ag),trivial⟩
  ·exact trivial
  ·kernel_rfl) ?_
 ·omega
 intro i hi
 refine aT fun K8 hK8=> ?_
 refine am (aV rfl (eT rfl (aj (bD _ aa rfl) (aj (bo _ _ rfl rfl rfl) (ai (aP rfl (fun hc41=> ?_) (fun hc41=> ?_)))))))
 ·skip
  refine bA (hK8 _ ?_)
  clear hK8;try clear K8
  refine aT fun K10 hK10=> ?_
  refine au (am (bc rfl (ai (au ?_))))
  refine bv (α:=Nat) (fun k=> k≤7) 101 [(7,_),(8,_),(9,_)] [] (fun k=> [(10, .v (.int .i64 (k:Int)))]) (fun k=> []) [] [] (fun k=> 7 - k) 0 ?_ (by
   refine Le.mkJ [] [] rfl ?_ ?_ trivial trivial ?_
   ·exact ⟨(iS rfl),(iS rfl),(iV rfl),(cd ag),trivial⟩
   ·exact trivial
   ·kernel_rfl) ?_
  ·omega
  intro k hk
  refine aT fun K12 hK12=> ?_
  refine am (aV rfl (eT rfl (aj (bD _ aa rfl) (aj (bo _ _ rfl rfl rfl) (ai (aP rfl (fun hc47=> ?_) (fun hc47=> ?_)))))))
  ·skip
   obtain ⟨o,ho,hao⟩:=AE k ab
   have q1:=dz (Ad x y) (i*2) ab
   have q2:=dz (Ad x y) (i*2+1) ab
   have q3:=dz arO k ab
   rw [ho] at q3
   have rX:=uV hx hy (i*2)
   have rY:=uV hx hy (i*2+1)
   generalize (Ad x y).getD (i*2) 0=X at q1 rX
   generalize (Ad x y).getD (i*2+1) 0=Y at q2 rY
   obtain ⟨acs,n,sp,cv,ak,hrun⟩:=Df rX rY hao
   have hap:=qU rX rY hao
   refine bA (hK12 _ ?_)
   clear hK12;try clear K12
   refine aq (au (am (aj (aC aa al (hB) rfl rfl) ?_)))
   refine aj (aR (11,0) aa rfl rfl) (cF rfl rfl rfl rfl rfl rfl (ai (aq ?_)))
   refine aQ (σ':=aA 101 [(7,_),(8,_),(9,_),(10,_),(11,_)] [((11,0),_)] [] []) kp ?_
   refine bT 21 [51,52,53,54,55,56,57,58,59,60,61,62,63,64,65,66,67,68,69,70,71] [] ae ae rfl (aM rfl) (rfl:_=[_,_,_,_,_,_,_,_,_,_,_,_,_,_,_,_,_,_,_,_,_]) (rfl:_=[_]) ?_
   refine ap (_,[]) (fun τ=> aH _ (rfl:_=AV.sl _ _)) ?_
   refine fO rfl ?_
   refine ap (_,[]) (fun τ=> aH _ (rfl:_=AV.v (.int _ _))) ?_
   refine fR rfl ?_
   refine ap (_,[]) (fun τ=> bl _ _ aa rfl rfl _ rfl ab (by (simp only [aU,bj,bh,aU,fk,bF];omega)) ag) ?_
   refine fT rfl ?_
   refine ap (_,[]) (fun τ=> mx _ _ aa rfl rfl 0 rfl ab (Nat.add_zero _)) ?_
   refine fP rfl ?_
   refine ap (_,[]) (fun τ=> bU _ aa rfl (by exact q1) rfl) ?_
   refine gb rfl ?_
   refine ap (_,[]) (fun τ=> aF _ aa rfl (by exact (rfl:_=some [_,_]))) ?_
   refine gC rfl ?_
   refine ap (_,[]) (fun τ=> aH _ (rfl:_=AV.sl _ _)) ?_
   refine iy rfl ?_
   refine ap (_,[]) (fun τ=> aH _ (rfl:_=AV.v (.int _ _))) ?_
   refine jy rfl ?_
   refine ap (_,[]) (fun τ=> bl _ _ aa rfl rfl _ rfl ab (by (simp only [aU,bj,bh,aU,fk,bF];omega)) ag) ?_
   refine jr rfl ?_
   refine ap (_,[]) (fun τ=> mx _ _ aa rfl rfl 1 rfl ab rfl) ?_
   refine fq rfl ?_
   refine ap (_,[]) (fun τ=> bU _ aa rfl (by exact q2) rfl) ?_
   refine fv rfl ?_
   refine ap (_,[]) (fun τ=> aF _ aa rfl (by exact (rfl:_=some [_,_]))) ?_
   refine jf rfl ?_
   refine ap (_,[]) (fun τ=> aH _ (rfl:_=AV.sl _ _)) ?_
   refine jR rfl ?_
   refine ap (_,[]) (fun τ=> aH _ (rfl:_=AV.v (.int _ _))) ?_
   refine mh rfl ?_
   refine ap (_,[]) (fun τ=> bl _ _ aa rfl rfl k rfl ab (by rw [aU];omega) (Nat.mul_one _)) ?_
   refine qp rfl ?_
   refine ap (_,[]) (fun τ=> bU _ aa rfl (by exact q3) rfl) ?_
   refine qC rfl ?_
   refine ap (_,[]) (fun τ=> aF _ aa rfl (by exact (rfl:_=some [_,_]))) ?_
   refine rH rfl ?_
   refine ap (_,[]) (fun τ=> aF _ aa rfl (by exact (rfl:_=some [_,_]))) ?_
   refine rA rfl ?_
   refine ap (_,[]) (fun τ=> aF _ aa rfl (by exact (rfl:_=some [_,_]))) ?_
   refine ru rfl ?_
   refine ap (_,[]) (fun τ=> bi _ _ aa rfl ag (by simp <;> rfl) ah (by exact (rfl:_=some (inl (Ci X Y o))))) ?_
   refine tV rfl ?_
   refine ap (_,[]) (fun τ=> aD _ aa rfl rfl rfl) ?_
   refine vj rfl (bw ⟨rfl,?_⟩)
   refine cF rfl rfl rfl rfl rfl rfl (ai (aq ?_))
   refine aQ (σ':=aA 101 [(7,_),(8,_),(9,_),(10,_),(11,_)] [((11,0),_)] [] []) kp ?_
   refine pE 12 [73,74,75,76,72,77,78,79,12,13,14] [(12,0),(12,0)] ae ae rfl (rfl:_=[_,_,_,_,_,_,_,_,_,_,_,_]) (rfl:_=[]) ?_
   refine cr (_,[]) (fun τ=> aX _ aa rfl rfl rfl rfl) ?_
   refine ct (rfl:_=[_]) ?_
   refine cr (_,[]) (fun τ=> bi _ _ aa rfl ag (by simp <;> rfl) ah (by exact (rfl:_=some (dS [0])))) ?_
   refine ct (rfl:_=[_,_]) ?_
   refine cr (_,[]) (fun τ=> (aC aa al (hN) rfl rfl)) ?_
   refine ct (rfl:_=[_,_,_]) ?_
   refine cr (_,[]) (fun τ=> (aC aa al (hrun) rfl rfl)) ?_
   refine ct (rfl:_=[_,_,_,_]) ?_
   refine cr (_,[]) (fun τ=> aH _ (rfl:_=AV.tup _)) ?_
   refine ct (rfl:_=[_,_,_,_,_]) ?_
   refine cr (_,[]) (fun τ=> dl _ rfl (rfl:_=some (AV.agg _))) ?_
   refine ct (rfl:_=[_,_,_,_,_,_]) ?_
   refine cr (_,[]) (fun τ=> dl _ rfl (rfl:_=some (AV.sl _ _))) ?_
   refine ct (rfl:_=[_,_,_,_,_,_,_]) ?_
   refine cr (_,[]) (fun τ=> dl _ rfl (rfl:_=some (AV.v (.bool _)))) ?_
   refine ct (rfl:_=[_,_,_,_,_,_,_,_]) ?_
   refine cr (_,[((12,0),_)]) (fun τ=> aR (12,0) aa rfl rfl) ?_
   refine ct (rfl:_=[_,_,_,_,_,_,_,_,_]) ?_
   refine cr (_,[((12,0),_)]) (fun τ=> iX _ _ aa rfl rfl rfl rfl (Nat.le_of_ble_eq_true rfl) rfl) ?_
   refine ct (rfl:_=[_,_,_,_,_,_,_,_,_,_]) ?_
   refine cr (_,[]) (fun τ=> bB _ (rfl:_=AV.sl _ _)) ?_
   refine ct (rfl:_=[_,_,_,_,_,_,_,_,_,_,_]) ?_
   refine cr (_,[]) (fun τ=> bB _ (rfl:_=AV.v (.bool _))) ?_
   refine ct (rfl:_=[_,_,_,_,_,_,_,_,_,_,_,_]) ?_
   refine mF ⟨⟨rfl,by kernel_rfl,by kernel_rfl⟩,?_⟩
   refine ai (aq ?_)
   refine aQ (σ':=aA 101 [(7,_),(8,_),(9,_),(10,_),(12,_)] [((12,0),_)] [] []) kp ?_
   refine bT 20 [80,81,82,83,84,85,86,87,88,89,90,91,92,93,94,95,96,97,98,99] [] ae ae rfl (aM rfl) (rfl:_=[_,_,_,_,_,_,_,_,_,_,_,_,_,_,_,_,_,_,_,_]) (rfl:_=[]) ?_
   refine ap (_,[]) (fun τ=> aD _ aa rfl rfl rfl) ?_
   refine fO rfl ?_
   refine ap (_,[]) (fun τ=> aG _ aa rfl rfl (rfl:_=some (AV.sl _ _))) ?_
   refine fR rfl ?_
   refine ap (_,[]) (fun τ=> aH _ (rfl:_=AV.sl _ _)) ?_
   refine fT rfl ?_
   refine ap (_,[]) (fun τ=> aH _ (rfl:_=AV.v (.int _ _))) ?_
   refine fP rfl ?_
   refine ap (_,[]) (fun τ=> bl _ _ aa rfl rfl k rfl ab (by rw [aU];omega) (Nat.mul_one _)) ?_
   refine gb rfl ?_
   refine ap (_,[]) (fun τ=> bU _ aa rfl (by exact q3) rfl) ?_
   refine gC rfl ?_
   refine ap (_,[]) (fun τ=> aH _ (rfl:_=AV.sl _ _)) ?_
   refine iy rfl ?_
   refine ap (_,[]) (fun τ=> aH _ (rfl:_=AV.v (.int _ _))) ?_
   refine jy rfl ?_
   refine ap (_,[]) (fun τ=> bl _ _ aa rfl rfl _ rfl ab (by (simp only [aU,bj,bh,aU,fk,bF];omega)) ag) ?_
   refine jr rfl ?_
   refine ap (_,[]) (fun τ=> mx _ _ aa rfl rfl 0 rfl ab (Nat.add_zero _)) ?_
   refine fq rfl ?_
   refine ap (_,[]) (fun τ=> bU _ aa rfl (by exact q1) rfl) ?_
   refine fv rfl ?_
   refine ap (_,[]) (fun τ=> aH _ (rfl:_=AV.sl _ _)) ?_
   refine jf rfl ?_
   refine ap (_,[]) (fun τ=> aH _ (rfl:_=AV.v (.int _ _))) ?_
   refine jR rfl ?_
   refine ap (_,[]) (fun τ=> bl _ _ aa rfl rfl _ rfl ab (by (simp only [aU,bj,bh,aU,fk,bF];omega)) ag) ?_
   refine mh rfl ?_
   refine ap (_,[]) (fun τ=> mx _ _ aa rfl rfl 1 rfl ab rfl) ?_
   refine qp rfl ?_
   refine ap (_,[]) (fun τ=> bU _ aa rfl (by exact q2) rfl) ?_
   refine qC rfl ?_
   refine ap (_,[]) (fun τ=> (aC aa al (hap) rfl rfl)) ?_
   refine rH rfl ?_
   refine ap (_,[]) (fun τ=> bi _ _ aa rfl ag (by simp <;> rfl) ah (by exact (rfl:_=some (dS [iH o X Y])))) ?_
   refine rA rfl ?_
   refine ap (_,[]) (fun τ=> (aC aa al (nF [iH o X Y] (by simp)) rfl rfl)) ?_
   refine ru rfl ?_
   refine ap (_,[]) (fun τ=> cL (r:=false) _ rfl rfl) ?_
   refine tV rfl (bw ⟨rfl,?_⟩)
   refine ai (aS rfl rfl (cf ?_))
   refine aQ (σ':=aA 101 [(7,_),(8,_),(9,_),(10,_)] [] [] []) kp ?_
   refine an (aV rfl (aj (aZ _ _ rfl rfl (bJ ab)) ?_))
   refine bc rfl (aI (⟨k+1,?_,?_,?_⟩))
   ·omega
   ·skip
    refine Le.mkJ [] [] rfl ?_ ?_ trivial trivial ?_
    ·exact ⟨(iS rfl),(iS rfl),(iV rfl),(cd ag),trivial⟩
    ·exact trivial
    ·kernel_rfl
   ·omega
  ·skip
   refine bI (id (hK10 _ ?_))
   clear hK10;try clear K10
   refine an (aV rfl (aj (aZ _ _ rfl rfl (bJ ab)) ?_))
   refine bc rfl (aI (⟨i+1,?_,?_,?_⟩))
   ·omega
   ·skip
    refine Le.mkJ [] [] rfl ?_ ?_ trivial trivial ?_
    ·exact ⟨(iS rfl),(iS rfl),(cd ag),trivial⟩
    ·exact trivial
    ·kernel_rfl
   ·omega
 ·skip
  refine bI (id (hK6 _ ?_))
  clear hK6;try clear K6
  refine am (aj (aC aa (by repeat' (exact eP)) (rB) rfl rfl) ?_)
  exact ce rfl (ai (aE (aW (.inr rfl) rfl (.tmp (rfl:_=AV.v _)) (Le.out [] [] .v rfl rfl rfl trivial trivial))))

theorem qM (a b:Int) (ha: -9223372036854775808≤a∧a≤9223372036854775807) (hb: -9223372036854775808≤b∧b≤9223372036854775807):
    Spec Tryz.prog 4 (bf [.v (.int .i64 a), .v (.int .i64 b)] []) (aL (.v (.bool true)) []):=oN a b ha hb
end Go.Proofs.YtmjnackchaahbaaGreat
