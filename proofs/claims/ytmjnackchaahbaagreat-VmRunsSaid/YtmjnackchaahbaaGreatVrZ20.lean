/- Part 20 of the texts that the walk leans on: the machine, the walks, the plain laws. -/
import Derived.Test.YtmjnackchaahbaaGreatVrZ19
set_option linter.unusedSimpArgs false
set_option linter.unusedVariables false
namespace Go.Proofs.YtmjnackchaahbaaGreat
open Go.RowKit

theorem vX {l:List Int} {x:Int} (h:x∉l):(ks l x).Perm (l++[x]):=by
 unfold ks
 rw [if_neg h]
 have e:=List.takeWhile_append_dropWhile (p:=fun y=> decide (y < x)) (l:=l)
 conv=> rhs;rw [← e]
 rw [List.append_assoc,List.append_assoc]
 exact List.Perm.append_left _ List.perm_append_comm
theorem tW {p:Int→Bool}: ∀ {l:List Int} {y:Int},y∈l.takeWhile p→p y=true
 | a::l,y,h=> by
  rw [List.takeWhile_cons] at h
  split at h
  ·rename_i ha
   rcases List.mem_cons.1 h with rfl | h
   ·exact ha
   ·exact tW h
  ·cases h
theorem xv {l:List Int} {x:Int} (h:l.Pairwise (· < ·)):(ks l x).Pairwise (· < ·):=by
 unfold ks
 split
 ·exact h
 ·rename_i hx
  have e:=List.takeWhile_append_dropWhile (p:=fun y=> decide (y < x)) (l:=l)
  have h':=h
  rw [← e] at h'
  obtain ⟨h1,h2,h3⟩:=List.pairwise_append.1 h'
  have ht: ∀ y∈l.takeWhile (fun y=> decide (y < x)),y < x:=fun y hy=> by
   have:=tW hy
   simpa using this
  have hd: ∀ y∈l.dropWhile (fun y=> decide (y < x)),x < y:=by
   intro y hy
   have hyl:y∈l:=by rw [← e];exact List.mem_append_right _ hy
   have hne:y≠x:=fun e=> hx (e ▸ hyl)
   cases hdw:l.dropWhile (fun y=> decide (y < x)) with
   | nil=> rw [hdw] at hy;cases hy
   | cons a t=>
    have ha: ¬ a < x:=by
     have:=List.head_dropWhile_not (p:=fun y=> decide (y < x)) (l:=l) (by rw [hdw];simp)
     simp only [hdw,List.head_cons] at this
     simpa using this
    rw [hdw] at hy h2
    rcases List.mem_cons.1 hy with rfl | hy
    ·omega
    ·have:=List.rel_of_pairwise_cons h2 hy;omega
  refine List.pairwise_append.2 ⟨List.pairwise_append.2 ⟨h1,by simp,fun a ha b hb=> ?_⟩,h2,fun a ha b hb=> ?_⟩
  ·rw [List.mem_singleton.1 hb];exact ht a ha
  ·rcases List.mem_append.1 ha with ha | ha
   ·exact h3 a ha b hb
   ·rw [List.mem_singleton.1 ha];exact hd b hb
theorem pH: ∀ (l:List Nat) (m:List Int) (M:List (Int×Value)),m.Perm (M.map (·.1))→(l.foldl (fun m (i:Nat)=> ks m (i:Int)) m).Perm ((l.foldl (fun M (i:Nat)=> gj M (i:Int) (.agg #[])) M).map (·.1))
 | [],_,_,h=> h
 | i::l,m,M,h=> pH l _ _ (by
  show (ks m (i:Int)).Perm ((gj M (i:Int) (.agg #[])).map (·.1))
  cases hg:lX M (i:Int) with
  | none=>
   have hn:(i:Int)∉m:=fun hm=> uh hg (h.mem_iff.1 hm)
   have e:gj M (i:Int) (.agg #[])=M++[((i:Int), .agg #[])]:=by unfold gj;rw [hg];rfl
   rw [e,List.map_append]
   exact (vX hn).trans (h.append_right _)
  | some u=>
   have hm:(i:Int)∈m:=h.mem_iff.2 (List.mem_map.2 ⟨_,sw hg,rfl⟩)
   have e:gj M (i:Int) (.agg #[])=M:=by unfold gj;rw [hg];rfl
   rw [e]
   unfold ks
   rw [if_pos hm];exact h)
theorem rR: ∀ (l:List Nat) (m:List Int),m.Pairwise (· < ·)→(l.foldl (fun m (i:Nat)=> ks m (i:Int)) m).Pairwise (· < ·)
 | [],_,h=> h
 | _::l,_,h=> rR l _ (xv h)
theorem Dq (l:List Nat):kO l=ju (nx l):=by
 have hp:(kO l).Perm ((nx l).map (·.1)):=pH l [] [] (.refl _)
 have hs:(kO l).Pairwise (· < ·):=rR l [] .nil
 have h1:=rz hp
 have h2:(kO l).mergeSort (fun x y=> decide (x≤y))=kO l:=List.mergeSort_of_pairwise (hs.imp fun h=> by simp only [decide_eq_true_eq];omega)
 rw [← h2,h1];rfl

set_option maxHeartbeats 1000000 in
theorem tf (M:Mk) (h:Nat) (hh:h < 40) (he:M.P.e h < 0) (h0:0 < M.iv.length) (h1:M.iv.length≤1000):
  Spec Tryz.prog 59 (bh [sQ M.P, .v (.int .i64 (h:Int)), .agg [.sl M.iv.length (cu M.iv), .v (.int .i64 (M.nm 0)), .v (.int .i64 (M.nm 1)), .v (.int .i64 (M.nm 2)), .v (.int .i64 (M.nm 3)), .v (.int .i64 (M.nm 4)), .v (.int .i64 (M.nm 5)), .v (.int .i64 (M.nm 6)), .v (.int .i64 (M.nm 7)), .v (.int .i64 (M.nm 8))],CD (4,9)] (zj M.ans [] (5,9))) (bl (.agg [.sl M.iv.length (cu M.iv), .sl 0 [], .v (.int .i64 0), .v (.bool false), .sl 0 []]) (zj M.ans [] (5,8)) [(4,9),(5,8)] [(4,9)]):=by
 have hcl:=nK M.iv ab ab
 have hg:=lS M.P.c.length (inl M.P.c) M.P.e (M.P.d:Int) (M.P.v:Int) h hh
 refine Spec.ofNI Tryz.func59 rfl Tryz.ntmps59 rfl ?_
 refine am (ai (bm (4,0) _ rfl rfl) (ai (bm (6,0) _ rfl rfl) (ai (az (8,0) aa rfl rfl) (aj (aq (bu 11 [13,14,15,16,17,18,19,20,21,22,23] [(22,0)] ae ae rfl (aK rfl) (rfl:_=[_,_,_,_,_,_,_,_,_,_,_]) (rfl:_=[_,_,_]) ?_))))))
 refine ap (_,[]) (fun τ=> aR _ aa rfl rfl rfl rfl) ?_
 refine el rfl ?_
 refine ap (_,[]) (fun τ=> aR _ aa rfl rfl rfl rfl) ?_
 refine eo rfl ?_
 refine ap (_,[]) (fun τ=> aC _ (rfl:_=AV.fn _ _ _)) ?_
 refine ep rfl ?_
 refine ap (_,[]) (fun τ=> aC _ (rfl:_=AV.v (.int _ _))) ?_
 refine ew rfl ?_
 refine ap (_,[]) (fun τ=> aI _ aa rfl rfl rfl) ?_
 refine eF rfl ?_
 refine ap (_,[]) (fun τ=> ek _ _ aa rfl rfl rfl h rfl ab (by exact congrArg (fun z=> 0+1+z) (Nat.mul_one h))) ?_
 refine eV rfl ?_
 refine ap (_,[]) (fun τ=> aM _ aa rfl rfl (by exact (congrArg (fun z=> (xx M.P.c.length (inl M.P.c) M.P.e (M.P.d:Int) (M.P.v:Int))[z]?) ab).trans hg)) ?_
 refine fF rfl ?_
 refine ap (_,[]) (fun τ=> aI _ aa rfl rfl rfl) ?_
 refine iu rfl ?_
 refine ap (_,[]) (fun τ=> aM _ aa rfl rfl (rfl:_=some (AV.sl _ _))) ?_
 refine ig rfl ?_
 refine ap (_,[((22,0),_)]) (fun τ=> (eC aa [((0,8),(22,0))] ar (hcl.toI) trivial tr tr rfl rfl ae ae)) ?_
 refine eO rfl ?_
 refine ap (_,[]) (fun τ=> aB _ aa rfl (by exact (rfl:_=some [AV.ref (22,0) 0 M.iv.length,AV.v (.slice none 0 0),AV.v (.int .i64 0),AV.v (.bool false),AV.v (.slice none 0 0)]))) ?_
 refine fc rfl (bg ⟨rfl,?_⟩)
 refine ai (aB _ aa rfl (by exact (rfl:_=some [_,_,_,_,_,_,_,_,_,_,_,_,_,_,_,_,_,_,_,_,_,_,_,_,_,_,_,_,_,_,_,_,_,_,_,_,_,_,_,_,_,_,_,_,_,_,_,_,_,_,_,_,_,_,_,_,_,_,_,_,_,_,_,_]))) ?_
 refine ai (bm (25,0) _ rfl rfl) (DQ rfl (aj (aq (aq ?_))))
 refine aN (σ':=aA 108 [(4,_),(8,_),(9,_)] [((4,9),_),((5,9),_),((4,0),_),((8,0),_),((22,0),_),((25,0),_)] [(4,9),(5,9)] [(4,9)]) kp ?_
 refine an (bn rfl (ai (aV _ rfl rfl) (bz rfl rfl rfl (cI rfl rfl rfl (ai (bp (r:=true) _ _ rfl rfl (decide_eq_true he)) ?_)))))
 exact aj (bC rfl rfl (am (bn rfl (ai (aV _ rfl rfl) (bz rfl rfl rfl (ai (aR _ aa rfl rfl rfl rfl) (bO rfl rfl rfl rfl rfl rfl (aj (aE (aX (.inr rfl) rfl (.cellA aa rfl rfl rfl) (Le.outI [((5,8),(5,9))] [(22,0)] (.agg rfl (aD (fY rfl rfl (by simp) rfl) lz)) rfl rfl rfl tr ob tr rfl)))))))))))
theorem tQ (M:Mk) (h:Nat) (hh:h < 40) (he:M.P.e h < 0) (h0:0 < M.iv.length) (h1:M.iv.length≤1000):
  Spec Tryz.prog 26 (bj [sQ M.P, .v (.int .i64 (h:Int)), .sl M.iv.length (cu M.iv), .agg [.v (.int .i64 (M.nm 0)), .v (.int .i64 (M.nm 1)), .v (.int .i64 (M.nm 2)), .v (.int .i64 (M.nm 3)), .v (.int .i64 (M.nm 4)), .v (.int .i64 (M.nm 5)), .v (.int .i64 (M.nm 6)), .v (.int .i64 (M.nm 7)), .v (.int .i64 (M.nm 8))], .sl M.ans.length (cu M.ans)] []) (aT (.agg [.sl M.iv.length (cu M.iv), .sl 0 [], .v (.int .i64 0), .v (.bool false), .sl 0 [], .sl 0 []]) []):=by
 have hg:=lS M.P.c.length (inl M.P.c) M.P.e (M.P.d:Int) (M.P.v:Int) h hh
 refine Spec.ofN Tryz.func26 rfl Tryz.ntmps26 rfl ?_
 refine am (ai (bm (5,0) _ rfl rfl) (ai (bm (8,0) _ rfl rfl) (ai (az (10,0) aa rfl rfl) (aj (am (ai (tc _ aa rfl) (ef rfl (ai (qs (20,0) _ _ aa rfl h0 (.sl (by simp)) ab rfl) ?_))))))))
 refine ai (aB _ aa rfl (by exact (rfl:_=some [_,_,_,_,_,_]))) ?_
 refine ai (az (11,0) aa rfl rfl) (bO rfl rfl rfl rfl rfl rfl (aj (am (aP rfl (bz rfl rfl rfl (ai (ek _ _ aa rfl rfl rfl h rfl ab (by exact congrArg (fun z=> 0+1+z) (Nat.mul_one h))) ?_))))))
 refine ai (aM _ aa rfl rfl (by exact (congrArg (fun z=> (xx M.P.c.length (inl M.P.c) M.P.e (M.P.d:Int) (M.P.v:Int))[z]?) ab).trans hg)) ?_
 refine ba rfl (aj (aq (am (aP rfl (ai (bp (r:=true) _ _ rfl rfl (decide_eq_true he)) ?_)))))
 refine aj (bC rfl rfl (aq ?_))
 refine aN (σ':=aA 330 [(10,_),(11,_)] [((10,0),_),((20,0),_),((11,0),_)] [] []) kp ?_
 exact an (ai (aR _ aa rfl rfl rfl rfl) (bO rfl rfl rfl rfl rfl rfl (aj (aE (aX (.inr rfl) rfl (.cellA aa rfl rfl rfl) (Le.out [] [(20,0)] (.agg rfl (aD (fY rfl rfl (by simp) rfl) lz)) rfl rfl rfl tr trivial))))))
set_option maxHeartbeats 1000000 in
theorem sy (M:Mk) (D:Nat→Nat) (nv:Nat) (hK:PG M.cx D nv) (h:Nat) (hh:h < 40) (e0:Nat) (he:M.P.e h=(e0:Int)) (he2:e0 < M.P.c.length) (hD:D e0=0) (hiv:M.iv.length=nv) (hir: ∀ v∈M.iv,Rg v) (h0:0 < nv) (hc:M.P.c.length≤1000000) (hn:M.ans.length≤4611686018427387904) (R:Ms) (hR:R=jf M.cx 500 (fj M.iv e0)):
  Spec Tryz.prog 24 (bj [sQ M.P, .v (.int .i64 (h:Int)), .sl M.iv.length (cu M.iv), .agg [.v (.int .i64 (M.nm 0)), .v (.int .i64 (M.nm 1)), .v (.int .i64 (M.nm 2)), .v (.int .i64 (M.nm 3)), .v (.int .i64 (M.nm 4)), .v (.int .i64 (M.nm 5)), .v (.int .i64 (M.nm 6)), .v (.int .i64 (M.nm 7)), .v (.int .i64 (M.nm 8))], .sl M.ans.length (cu M.ans)] []) (aT (.tup [.agg [.sl R.vars.length (cu R.vars), .sl R.acts.length (oU R.acts), .v (.int .i64 (R.steps:Int)), .v (.bool (!R.fin)), .sl (ju (nx R.cov)).length (cu (ju (nx R.cov)))], .sl R.asked.length (cu R.asked), .v (.bool true)]) []):=by
 have hv:=vO M Fi D nv hK h hh e0 he he2 hD hiv hir h0 hc hn R hR
 refine Spec.ofN Tryz.func24 rfl Tryz.ntmps24 rfl ?_
 refine am (ai (bm (5,0) _ rfl rfl) (ai (bm (8,0) _ rfl rfl) (ai (az (10,0) aa rfl rfl) (ai (bJ _ (rfl:_=AV.v (.slice _ _ _))) (ci rfl (aj (am (ef rfl (ai (aB _ aa rfl (by exact (rfl:_=some [_,_,_]))) ?_)))))))))
 refine ai (bm (17,0) _ rfl rfl) (DQ rfl (aj (aq ?_)))
 refine aN (Le.nilB (17,0) 1 (62,0) 3 1 rfl rfl rfl) ?_
 refine an (ai (aR _ aa rfl rfl rfl rfl) (aP rfl (ef rfl (ai (aR _ aa rfl rfl rfl rfl) (ai (aB _ aa rfl (by exact (rfl:_=some [_,_,_,_,_,_,_,_,_,_]))) ?_)))))
 refine bn rfl (ai (pR _ _ (rfl:_=[_]) (rfl:_=[])) ?_)
 refine ai (eC aa [((4,9),(17,0)),((5,9),(62,0)),((2,8),(25,0)),((5,8),(25,1))] ar (hv) ob tr tr rfl rfl ae ae) ?_
 refine ai (az (14,0) aa rfl rfl) (bO rfl rfl rfl rfl rfl rfl (aj (aq ?_)))
 refine aN (σ':=aA 35 [(10,_),(13,_),(14,_)] [((10,0),_),((17,0),_),((25,0),_),((25,1),_),((14,0),_)] [] []) kp ?_
 refine tS 12 [26,27,28,29,30,31,32,33,34,11,12] [(10,0)] ae ae rfl (rfl:_=[_,_,_,_,_,_,_,_,_,_,_,_]) (rfl:_=[]) ?_
 refine dM (_,[]) (fun τ=> aR _ aa rfl rfl rfl rfl) ?_
 refine dN (rfl:_=[_]) ?_
 refine dM (_,[]) (fun τ=> aC _ (rfl:_=AV.ptr _ _)) ?_
 refine dN (rfl:_=[_,_]) ?_
 refine dM (_,[]) (fun τ=> aV _ rfl rfl) ?_
 refine dN (rfl:_=[_,_,_]) ?_
 refine dM (_,[]) (fun τ=> aI _ aa rfl rfl rfl) ?_
 refine dN (rfl:_=[_,_,_,_]) ?_
 refine dM (_,[]) (fun τ=> aM _ aa rfl rfl (rfl:_=some (AV.ref _ _ _))) ?_
 refine dN (rfl:_=[_,_,_,_,_]) ?_
 refine dM (_,[]) (fun τ=> aC _ (rfl:_=AV.ptr _ _)) ?_
 refine dN (rfl:_=[_,_,_,_,_,_]) ?_
 refine dM (_,[]) (fun τ=> aV _ rfl rfl) ?_
 refine dN (rfl:_=[_,_,_,_,_,_,_]) ?_
 refine dM (_,[]) (fun τ=> aI _ aa rfl rfl rfl) ?_
 refine dN (rfl:_=[_,_,_,_,_,_,_,_]) ?_
 refine dM (_,[]) (fun τ=> aM _ aa rfl rfl (rfl:_=some (AV.v (.bool _)))) ?_
 refine dN (rfl:_=[_,_,_,_,_,_,_,_,_]) ?_
 refine dM (_,[((10,0),_)]) (fun τ=> lm _ _ aa rfl rfl rfl rfl (Nat.le_of_ble_eq_true rfl) rfl) ?_
 refine dN (rfl:_=[_,_,_,_,_,_,_,_,_,_]) ?_
 refine dM (_,[]) (fun τ=> bJ _ (rfl:_=AV.ref _ _ _)) ?_
 refine dN (rfl:_=[_,_,_,_,_,_,_,_,_,_,_]) ?_
 refine dM (_,[]) (fun τ=> bJ _ (rfl:_=AV.v (.bool _))) ?_
 refine dN (rfl:_=[_,_,_,_,_,_,_,_,_,_,_,_]) ?_
 refine rM ⟨⟨rfl,by kernel_rfl,by kernel_rfl⟩,?_⟩
 exact aj (aE (zq (.inr rfl) rfl (.cellA aa rfl rfl rfl) (.tmp (rfl:_=AV.ref _ _ _)) (.tmp (rfl:_=AV.v _)) (Le.out [] [(25,0),(25,1)] (.tup rfl (aD (.agg rfl (aD .sl (aD (fY rfl rfl (dm _).symm rfl) lz))) (aD (fY rfl rfl (by simp) rfl) lz))) rfl rfl rfl tr trivial)))

theorem tq (w:World) (a b c d e:Int):(Op.equal 57 (.agg #[.int .i64 a, .int .i64 b, .int .i64 c, .int .i64 d, .int .i64 e]) (.agg #[.int .i64 a, .int .i64 b, .int .i64 c, .int .i64 d, .int .i64 e])).run Tryz.prog w= .ok true w:=by
 have he:Tryz.prog.underlying 3=some (.int .i64):=Tryz.underlying3
 have hp: ∀ (cs:Array Value) (j:Nat) (v:Value),cs[j]? =some v→(part 3 cs j).run Tryz.prog w= .ok v w:=by
  intro cs j v hv
  simp [part,isAgg,run_underlying he,hv]
 have e1: ∀ a:Int,(Op.equalIn 9999 3 (.int .i64 a) (.int .i64 a)).run Tryz.prog w= .ok true w:=fun a=> by
  rw [run_equalIn_int w 9998 3 .i64 .i64 a a he];simp
 have h0:=hp #[.int .i64 a, .int .i64 b, .int .i64 c, .int .i64 d, .int .i64 e] 0 (.int .i64 a) rfl
 have h1:=hp #[.int .i64 a, .int .i64 b, .int .i64 c, .int .i64 d, .int .i64 e] 1 (.int .i64 b) rfl
 have h2:=hp #[.int .i64 a, .int .i64 b, .int .i64 c, .int .i64 d, .int .i64 e] 2 (.int .i64 c) rfl
 have h3:=hp #[.int .i64 a, .int .i64 b, .int .i64 c, .int .i64 d, .int .i64 e] 3 (.int .i64 d) rfl
 have h4:=hp #[.int .i64 a, .int .i64 b, .int .i64 c, .int .i64 d, .int .i64 e] 4 (.int .i64 e) rfl
 show (Op.equalIn (9999+1) 57 _ _).run Tryz.prog w=_
 rw [Op.equalIn]
 simp only [Sem.run_bind,run_underlying Tryz.underlying57,Result.andThen_ok]
 simp [Op.eqFields,h0,h1,h2,h3,h4,e1]
section
variable {σ:St} {dd:Option Tmp} {ty:TypeId}
theorem ye {t':TypeId} (x y:Operand) {a b c d e:Int} (hx:σ.eval x= .agg [.v (.int .i64 a), .v (.int .i64 b), .v (.int .i64 c), .v (.int .i64 d), .v (.int .i64 e)]) (hy:σ.eval y= .agg [.v (.int .i64 a), .v (.int .i64 b), .v (.int .i64 c), .v (.int .i64 d), .v (.int .i64 e)]):Stp Tryz.prog dd (.binOp .neq 57 x y t') ty σ (σ.put dd (.v (.bool false))):=by
 refine zw [.int .i64 a, .int .i64 b, .int .i64 c, .int .i64 d, .int .i64 e] [.int .i64 a, .int .i64 b, .int .i64 c, .int .i64 d, .int .i64 e] hx hy fun o ρ w ho hx hy=> ?_
 have:=tq w a b c d e
 have hg:Tryz.prog.eqGuardType Tryz.prog.depth 57=false:=by kernel_rfl
 simp [execOp,ho,hx,hy,eqGuard,binOp,hg,this,Sem.run]
end
theorem kV (l:List Ac) (h1:l.length≤1000000):Spec Tryz.prog 34 (bj [.sl l.length (oU l), .sl l.length (oU l)] []) (aT (.v (.bool true)) []):=by
 refine Spec.ofN Tryz.func34 rfl Tryz.ntmps34 rfl ?_
 refine am (ci rfl (aj (aq (am (ef rfl (ai (bI _ aa rfl) (ef rfl (ai (bI _ aa rfl) (ai (cg (r:=false) _ _ rfl rfl (by simp)) ?_)))))))))
 refine aj (aS rfl rfl (aL (aH fun K4 hK4=> ?_)))
 refine am (ba rfl (aj (au ?_)))
 refine bD (α:=Nat) (fun k=> k≤l.length) 26 [(0,_),(1,_)] [] (fun k=> [(5, .v (.int .i64 (k:Int)))]) (fun k=> []) [] [] (fun k=> l.length - k) 0 ?_ (by
  refine Le.mkJ [] [] rfl ?_ ?_ trivial trivial ?_
  ·exact ⟨(iS rfl),(iS rfl),(bY ag),trivial⟩
  ·exact trivial
  ·kernel_rfl) ?_
 ·omega
 intro k hk
 refine aH fun K6 hK6=> ?_
 refine am (aP rfl (ef rfl (ai (bI _ aa rfl) (ai (bp _ _ rfl rfl rfl) (aj (aO rfl (fun hc14=> ?_) (fun hc14=> ?_)))))))
 ·skip
  have hia:=wE l k ab
  refine bB (hK6 _ ?_)
  clear hK6;try clear K6
  refine aq (au (aq ?_))
  refine aN (σ':=aA 26 [(0,_),(1,_),(5,_)] [] [] []) kp ?_
  refine bu 9 [17,18,19,20,21,22,23,24,25] [] ae ae rfl (aK rfl) (rfl:_=[_,_,_,_,_,_,_,_,_]) (rfl:_=[]) ?_
  refine ap (_,[]) (fun τ=> aC _ (rfl:_=AV.sl _ _)) ?_
  refine el rfl ?_
  refine ap (_,[]) (fun τ=> aC _ (rfl:_=AV.v (.int _ _))) ?_
  refine eo rfl ?_
  refine ap (_,[]) (fun τ=> bi _ _ aa rfl rfl _ rfl ab (by (simp only [aZ,bq,bo,aZ,dm,bN];omega)) ag) ?_
  refine ep rfl ?_
  refine ap (_,[]) (fun τ=> cp _ aa rfl (by exact hia) rfl) ?_
  refine ew rfl ?_
  refine ap (_,[]) (fun τ=> aC _ (rfl:_=AV.sl _ _)) ?_
  refine eF rfl ?_
  refine ap (_,[]) (fun τ=> aC _ (rfl:_=AV.v (.int _ _))) ?_
  refine eV rfl ?_
  refine ap (_,[]) (fun τ=> bi _ _ aa rfl rfl _ rfl ab (by (simp only [aZ,bq,bo,aZ,dm,bN];omega)) ag) ?_
  refine fF rfl ?_
  refine ap (_,[]) (fun τ=> cp _ aa rfl (by exact hia) rfl) ?_
  refine iu rfl ?_
  refine ap (_,[]) (fun τ=> ye _ _ rfl rfl) ?_
  refine ig rfl (bg ⟨rfl,?_⟩)
  refine aj (aS rfl rfl (cf (an (aP rfl (ai (bc _ _ rfl rfl (be ab)) ?_)))))
  refine ba rfl (ax (⟨k+1,?_,?_,?_⟩))
  ·omega
  ·skip
   refine Le.mkJ [] [] rfl ?_ ?_ trivial trivial ?_
   ·exact ⟨(iS rfl),(iS rfl),(bY ag),trivial⟩
   ·exact trivial
   ·kernel_rfl
  ·omega
 ·skip
  refine bK (id (hK4 _ ?_))
  clear hK4;try clear K4
  refine am (ci rfl (aj (aE (aX (.inr rfl) rfl (.tmp (rfl:_=AV.v (.bool _))) (Le.out [] [] (hG ?_) rfl rfl rfl trivial trivial)))))
  rfl

theorem jC (xs:List Int) (h:xs.length≤1000000):Spec Tryz.prog 30 (bj [.sl xs.length (cu xs), .sl xs.length (cu xs)] []) (aT (.v (.bool true)) []):=by
 have:=vn xs.length xs.length xs xs rfl rfl ab ab
 rw [decide_eq_true rfl] at this;exact this
theorem tx (v:List Int) (a:List Ac) (n:Int) (b:Bool) (c k:List Int) (h1:v.length≤1000000) (h2:a.length≤1000000) (h3:c.length≤1000000) (h4:k.length≤1000000):
  Spec Tryz.prog 25 (bj [.agg [.sl v.length (cu v), .sl a.length (oU a), .v (.int .i64 n), .v (.bool b), .sl c.length (cu c)], .sl k.length (cu k), .agg [.sl v.length (cu v), .sl a.length (oU a), .v (.int .i64 n), .v (.bool b), .sl c.length (cu c), .sl k.length (cu k)]] []) (aT (.v (.bool true)) []):=by
 refine Spec.ofN Tryz.func25 rfl Tryz.ntmps25 rfl ?_
 refine am (ai (bm (3,0) _ rfl rfl) (ai (bm (5,0) _ rfl rfl) (ci rfl (aj (am (bz rfl rfl rfl (fA rfl rfl rfl (bz rfl rfl rfl (fA rfl rfl rfl (ai (aF aa al (jC v h1) rfl rfl) ?_))))))))))
 refine cM rfl (ay rfl rfl (aI _ aa rfl rfl rfl) (ay rfl rfl (aM _ aa rfl rfl (rfl:_=some (AV.sl _ _))) (ay rfl rfl (aI _ aa rfl rfl rfl) (ay rfl rfl (aM _ aa rfl rfl (rfl:_=some (AV.sl _ _))) (ay rfl rfl (aF aa al (kV a h2) rfl rfl) ?_)))))
 refine ai (aG _ _ _ rfl (rfl:_=AV.v (.bool _))) (cM rfl (ay rfl rfl (aI _ aa rfl rfl rfl) (ay rfl rfl (aM _ aa rfl rfl (rfl:_=some (AV.v (.int _ _)))) (ay rfl rfl (aI _ aa rfl rfl rfl) (ay rfl rfl (aM _ aa rfl rfl (rfl:_=some (AV.v (.int _ _)))) (ay rfl rfl (br (r:=true) _ _ rfl rfl (by simp)) ?_))))))
 refine ai (aG _ _ _ rfl (rfl:_=AV.v (.bool _))) (cM rfl (ay rfl rfl (aI _ aa rfl rfl rfl) (ay rfl rfl (aM _ aa rfl rfl (rfl:_=some (AV.v (.bool _)))) (ay rfl rfl (aI _ aa rfl rfl rfl) (ay rfl rfl (aM _ aa rfl rfl (rfl:_=some (AV.v (.bool _)))) (ay rfl rfl (CF (r:=true) _ _ rfl rfl Tryz.underlying4 (by simp)) ?_))))))
 refine ai (aG _ _ _ rfl (rfl:_=AV.v (.bool _))) (cM rfl (ay rfl rfl (aI _ aa rfl rfl rfl) (ay rfl rfl (aM _ aa rfl rfl (rfl:_=some (AV.sl _ _))) (ay rfl rfl (aI _ aa rfl rfl rfl) (ay rfl rfl (aM _ aa rfl rfl (rfl:_=some (AV.sl _ _))) (ay rfl rfl (aF aa al (jC c h3) rfl rfl) ?_))))))
 refine ai (aG _ _ _ rfl (rfl:_=AV.v (.bool _))) (cM rfl (ay rfl rfl (aC _ (rfl:_=AV.sl _ _)) (ay rfl rfl (aI _ aa rfl rfl rfl) (ay rfl rfl (aM _ aa rfl rfl (rfl:_=some (AV.sl _ _))) (ay rfl rfl (aF aa al (jC k h4) rfl rfl) ?_)))))
 refine ai (aG _ _ _ rfl (rfl:_=AV.v (.bool _))) (ci rfl (aj (aE (aX (.inr rfl) rfl (.tmp (rfl:_=AV.v (.bool _))) (Le.out [] [] (hG ?_) rfl rfl rfl trivial trivial)))))
 rfl
def wy (n:Int):Int:=([n % 9 - 4,n, -n,2147483647, -2147483647,1,0]:List Int).getD (n % 7).toNat 0
def gW (a:List Int) (n:Nat):List Int:=(List.range n).map fun i=> wy (dg a i)
theorem sV (a:List Int) (n:Nat):gW a (n+1)=gW a n++[wy (dg a n)]:=by simp [gW,List.range_succ]
theorem kI (a:List Int) (n:Nat):(gW a n).length=n:=by simp [gW]
theorem xn (n:Int) (h0:0≤n):(cu [n % 9 - 4,n, -n,2147483647, -2147483647,1,0])[(n % 7).toNat]? =some (.v (.int .i64 (wy n))):=dl _ _ (by simp;omega)

theorem uW (P:Pg) (a:List Int) (G:GL a) (hd:P.d+P.v≤1000):
  Spec Tryz.prog 22 (bj [sQ P, .sl a.length (cu a)] []) (aT (.sl (gW a (P.d+P.v)).length (cu (gW a (P.d+P.v)))) []):=by
 have hpk:=fun i hi=> oq G i hi
 refine Spec.ofN Tryz.func22 rfl Tryz.ntmps22 rfl ?_
 refine am (ai (bm (2,0) _ rfl rfl) (ai (bJ _ (rfl:_=AV.v (.slice _ _ _))) (aj (am (ai (mP (5,0) _ 3 1 rfl rfl) ?_)))))
 refine aj (aH fun K3 hK3=> ?_)
 refine am (ba rfl (aj (au ?_)))
 refine bD (α:=Nat) (fun q=> q≤P.d+P.v) 35 [(1,_),(2,_)] [((2,0),_)] (fun q=> [(6, .v (.int .i64 (q:Int))),(5, .ref (5,0) 0 (gW a q).length)]) (fun q=> [((5,0), .row 3 1 (cu (gW a q)))]) [] [] (fun q=> P.d+P.v - q) 0 ?_ (by
  refine Le.mkJ [] [] rfl ?_ ?_ trivial trivial ?_
  ·exact ⟨(iS rfl),(iP rfl),(bY ag),(cq rfl ag),trivial⟩
  ·exact ⟨(ce rfl rfl rfl),(cw rfl rfl rfl ag),trivial⟩
  ·kernel_rfl) ?_
 ·omega
 intro q hq
 have hq0:=hpk q ab
 have hlo:=td a q
 have hhi:=tw a q
 have hvl:=kI a q
 have hs:=sV a q
 have hl1:(gW a (q+1)).length=(gW a q).length+1:=by rw [hs];simp
 have hvg:=xn (dg a q) hlo
 generalize dg a q=x at hq0 hlo hhi hs hvg
 refine aH fun K5 hK5=> ?_
 refine am (aP rfl (bz rfl rfl rfl (cI rfl rfl rfl (bz rfl rfl rfl (cI rfl rfl rfl (ai (bc (r:=((P.d+P.v:Nat):Int)) _ _ rfl rfl ((be ab).trans ab)) ?_))))))
 refine ai (bp _ _ rfl rfl rfl) (aj (aO rfl (fun hc14=> ?_) (fun hc14=> ?_)))
 ·skip
  refine bB (hK5 _ ?_)
  clear hK5;try clear K5
  refine aq (au (am (ef rfl (aP rfl (ai (aF aa al (hq0) rfl rfl) ?_)))))
  refine ba rfl (aj (an (ei rfl (aP rfl (ai (cZ (r:=x % 9) _ _ rfl rfl ab (Int.tmod_eq_emod_of_nonneg ab)) ?_)))))
  refine ai (bk (r:=x % 9 - 4) _ _ rfl rfl (be ab)) ?_
  refine aP rfl (aP rfl (ai (qK (r:= -x) _ rfl (be ab)) ?_))
  refine ai (aU _ _ aa rfl ag (by (simp <;> rfl)) ah rfl) ?_
  refine aP rfl (ai (cZ (r:=(((x % 7).toNat:Nat):Int)) _ _ rfl rfl ab ((Int.tmod_eq_emod_of_nonneg ab).trans ab)) ?_)
  refine ai (bi _ _ aa rfl rfl _ rfl ab (by (simp;done)) (by exact Nat.mul_one _)) ?_
  refine ai (bH _ aa rfl (by exact hvg) rfl) ?_
  refine ai (aU _ _ aa rfl ag (by (simp <;> rfl)) ah rfl) ?_
  refine ai (cE (33,0) _ _ aa rfl rfl (by simp) (.sl rfl) ab rfl ((fm _ _).trans (congrArg cu hs.symm)) hl1.symm) ?_
  refine dY rfl (ga ?_)
  refine aN (σ':=aA 35 [(1,_),(2,_),(5,_),(6,_)] [((2,0),_),((33,0),_)] [] []) kp ?_
  refine an (aP rfl (ai (bc _ _ rfl rfl (be ab)) ?_))
  refine ba rfl (ax (⟨q+1,?_,?_,?_⟩))
  ·omega
  ·skip
   refine Le.mkJ [((5,0),(33,0))] [] rfl ?_ ?_ trivial trivial ?_
   ·exact ⟨(by repeat' (exact Lv.sl)),(cr (id:=(2,0)) rfl),(bY ag),(cq rfl ag),trivial⟩
   ·exact ⟨(di rfl rfl rfl rfl (by repeat' (first | exact Lv.v | exact Lv.sl | exact bf | refine aD ?_ ?_))),(cw rfl rfl rfl ag),trivial⟩
   ·kernel_rfl
  ·omega
 ·skip
  obtain rfl:q=P.d+P.v:=by omega
  refine bK (id (hK3 _ ?_))
  clear hK3;try clear K3
  exact am (ei rfl (dY rfl (aj (aE (aX (.inr rfl) rfl (.tmp (rfl:_=AV.ref _ _ _)) (Le.out [] [(5,0)] (fY rfl rfl (by simp) rfl) rfl rfl rfl tr trivial))))))
def pw (L:List Int) (i:Nat) (m:Int):Int:=if i < L.length then ij (L.getD i 0) m else 0
theorem qt (L:List Int) (i:Nat) {m:Int} (hm:1≤m):0≤pw L i m:=by
 unfold pw;split
 ·exact py _ _ ab
 ·omega
theorem qq (L:List Int) (i:Nat) {m:Int} (hm:1≤m):pw L i m < m:=by
 unfold pw;split
 ·exact pj _ _ ab
 ·omega
theorem oE {L:List Int} (h:GL L) (i:Nat) (hi:i≤2000000) (m:Int) (hm:1≤m∧m≤1000):
  Spec Tryz.prog 58 (bj [.sl L.length (cu L), .v (.int .i64 (i:Int)), .v (.int .i64 m)] []) (aT (.v (.int .i64 (pw L i m))) []):=by
 have hn:=h.n
 by_cases hk:i < L.length
 ·have hr:=h.r (L.getD i 0) (by rw [List.getD_eq_getElem?_getD,List.getElem?_eq_getElem hk];exact List.getElem_mem hk)
  have ha:=kv (L.getD i 0) m ab ab hr.1 hr.2
  rw [show pw L i m=ij (L.getD i 0) m from if_pos hk]
  refine Spec.ofN Tryz.func58 rfl Tryz.ntmps58 rfl ?_
  refine am (ba rfl (aj (aq (am (aP rfl (ai (bp (r:=false) _ _ rfl rfl (decide_eq_false ab)) ?_))))))
  refine cM rfl (ay rfl rfl (aC _ (rfl:_=AV.v (.int _ _))) (ay rfl rfl (aC _ (rfl:_=AV.sl _ _)) (ay rfl rfl (bI _ aa rfl) (ay rfl rfl (eH (r:=false) _ _ rfl rfl (decide_eq_false ab)) ?_))))
  refine ai (aG _ _ _ rfl (rfl:_=AV.v (.bool _))) (aj (aS rfl rfl (aL (am (ef rfl (aP rfl (ai (bi _ _ aa rfl rfl _ rfl ab (by (simp only [aZ,bq,bo,aZ,dm,bN];omega)) (by exact Nat.mul_one _)) ?_)))))))
  refine ai (bH _ aa rfl (by exact dl _ _ ab) rfl) ?_
  refine aP rfl (ai (aF aa al (ha) rfl rfl) ?_)
  exact ba rfl (aj (aE (aX (.inr rfl) rfl (.tmp (rfl:_=AV.v _)) (Le.out [] [] .v rfl rfl rfl trivial trivial))))
 ·rw [show pw L i m=0 from if_neg hk]
  refine Spec.ofN Tryz.func58 rfl Tryz.ntmps58 rfl ?_
  refine am (ba rfl (aj (aq (am (aP rfl (ai (bp (r:=false) _ _ rfl rfl (decide_eq_false ab)) ?_))))))
  refine cM rfl (ay rfl rfl (aC _ (rfl:_=AV.v (.int _ _))) (ay rfl rfl (aC _ (rfl:_=AV.sl _ _)) (ay rfl rfl (bI _ aa rfl) (ay rfl rfl (eH (r:=true) _ _ rfl rfl (decide_eq_true ab)) ?_))))
  exact ai (aG _ _ _ rfl (rfl:_=AV.v (.bool _))) (aj (bC rfl rfl (am (ba rfl (aj (aE (aX (.inr rfl) rfl (.tmp (rfl:_=AV.v _)) (Le.out [] [] .v rfl rfl rfl trivial trivial))))))))
def CH (b:List Int) (k:Nat):Int:=if k=0 then pw b 0 9 % (1+pw b 1 3) else if k=1 then 1+pw b 1 3 else pw b k 9
def wn (b:List Int) (q k:Nat):Int:=if k < q then pw b k 9 else 0
abbrev L9 (e:Nat→Int):List AV:=[.v (.int .i64 (e 0)), .v (.int .i64 (e 1)), .v (.int .i64 (e 2)), .v (.int .i64 (e 3)), .v (.int .i64 (e 4)), .v (.int .i64 (e 5)), .v (.int .i64 (e 6)), .v (.int .i64 (e 7)), .v (.int .i64 (e 8))]
theorem Cn (e:Nat→Int) (h:Nat) (hh:h < 9) (x:Int):fC (L9 e) h [.v (.int .i64 x)]=L9 (oZ e h x):=by
 rcases h with _ | _ | _ | _ | _ | _ | _ | _ | _ | h
 all_goals first | rfl | omega
theorem AO (b:List Int) (q:Nat):oZ (wn b q) q (pw b q 9)=wn b (q+1):=by
 funext k
 unfold oZ wn
 by_cases h1:k=q
 ·rw [if_pos h1,if_pos ab,h1]
 ·rw [if_neg h1]
  by_cases h2:k < q
  ·rw [if_pos h2,if_pos ab]
  ·rw [if_neg h2,if_neg ab]
theorem tM (b:List Int) (G:GL b):
  Spec Tryz.prog 23 (bj [.sl b.length (cu b)] []) (aT (.agg (L9 (CH b))) []):=by
 have h1:=oE G 1 ab 3 ab
 have hlo:=qt b 1 (m:=3) ab
 have hhi:=qq b 1 (m:=3) ab
 have hlo0:=qt b 0 (m:=9) ab
 have hhi0:=qq b 0 (m:=9) ab
 refine Spec.ofN Tryz.func23 rfl Tryz.ntmps23 rfl ?_
 refine am (ai (az (2,0) aa rfl rfl) (aj (am (ai (az (3,0) aa rfl rfl) (aj (aH fun K3 hK3=> ?_))))))
 refine am (ba rfl (aj (au ?_)))
 refine bD (α:=Nat) (fun q=> q≤9) 25 [(0,_),(2,_),(3,_)] [((2,0),_)] (fun q=> [(4, .v (.int .i64 (q:Int)))]) (fun q=> [((3,0), .box 30 [.v (.int .i64 (wn b q 0)), .v (.int .i64 (wn b q 1)), .v (.int .i64 (wn b q 2)), .v (.int .i64 (wn b q 3)), .v (.int .i64 (wn b q 4)), .v (.int .i64 (wn b q 5)), .v (.int .i64 (wn b q 6)), .v (.int .i64 (wn b q 7)), .v (.int .i64 (wn b q 8))])]) [] [] (fun q=> 9 - q) 0 ?_ (by
  refine Le.mkJ [] [] rfl ?_ ?_ trivial trivial ?_
  ·exact ⟨(iS rfl),(iP rfl),(iP rfl),(bY ag),trivial⟩
  ·exact ⟨(ce rfl rfl rfl),(di rfl rfl rfl rfl lz),trivial⟩
  ·kernel_rfl) ?_
 ·omega
 intro q hq
 refine aH fun K5 hK5=> ?_
 refine am (aP rfl (ai (bp _ _ rfl rfl rfl) (aj (aO rfl (fun hc6=> ?_) (fun hc6=> ?_)))))
 ·skip
  have hq9:=oE G q ab 9 ab
  refine bB (hK5 _ ?_)
  clear hK5;try clear K5
  refine aq (au (an (aP rfl (ef rfl (aP rfl (ai (aF aa al (hq9) rfl rfl) ?_))))))
  refine ai (ek _ _ aa rfl rfl rfl q rfl ab (by exact (Nat.zero_add _).trans (Nat.mul_one _))) ?_
  refine ai (lm _ _ aa rfl rfl rfl rfl (show q+1≤9 by omega) ((Cn (wn b q) q ab _).trans (by rw [AO]))) ?_
  refine ga (an (aP rfl (ai (bc _ _ rfl rfl (be ab)) ?_)))
  refine ba rfl (ax (⟨q+1,?_,?_,?_⟩))
  ·omega
  ·skip
   refine Le.mkJ [] [] rfl ?_ ?_ trivial trivial ?_
   ·exact ⟨(iS rfl),(iP rfl),(iP rfl),(bY ag),trivial⟩
   ·exact ⟨(ce rfl rfl rfl),(di rfl rfl rfl rfl lz),trivial⟩
   ·kernel_rfl
  ·omega
 ·skip
  obtain rfl:q=9:=by omega
  refine bK (id (hK3 _ ?_))
  clear hK3;try clear K3
  refine am (ef rfl (ai (aF aa al (h1) rfl rfl) ?_))
  refine ai (bc (r:=1+pw b 1 3) _ _ rfl rfl (be ab)) ?_
  refine ai (ek _ _ aa rfl rfl rfl 1 rfl ab (by exact (Nat.zero_add _).trans (Nat.mul_one _))) ?_
  refine bO rfl rfl rfl rfl rfl rfl (aj (am (ai (ek _ _ aa rfl rfl rfl 0 rfl ab (by exact (Nat.zero_add _).trans (Nat.mul_one _))) ?_)))
  refine cI rfl rfl rfl (ai (ek _ _ aa rfl rfl rfl 1 rfl ab (by exact (Nat.zero_add _).trans (Nat.mul_one _))) ?_)
  refine cI rfl rfl rfl (ai (cZ (r:=pw b 0 9 % (1+pw b 1 3)) _ _ rfl rfl ab (Int.tmod_eq_emod_of_nonneg hlo0)) ?_)
  refine ai (ek _ _ aa rfl rfl rfl 0 rfl ab (by exact (Nat.zero_add _).trans (Nat.mul_one _))) ?_
  exact bO rfl rfl rfl rfl rfl rfl (aj (am (ai (aR _ aa rfl rfl rfl rfl) (bO rfl rfl rfl rfl rfl rfl (aj (aE (aX (.inr rfl) rfl (.cellA aa rfl rfl rfl) (Le.out [] [] (.agg rfl lz) rfl rfl rfl trivial trivial))))))))

def BN (p v b r:List Int):Mk:=⟨hZ p,gW v ((hZ p).d+(hZ p).v),(List.range 9).map (CH b),r.take 30⟩
theorem DP (b:List Int) (k:Nat):Rg (CH b k):=by
 have h1:=qt b 1 (m:=3) ab
 have h2:=qq b 1 (m:=3) ab
 have h3:=qt b k (m:=9) ab
 have h4:=qq b k (m:=9) ab
 unfold CH Rg
 split
 ·have h5:=Int.emod_nonneg (pw b 0 9) (show 1+pw b 1 3≠0 by omega)
  have h6:=Int.emod_lt_of_pos (pw b 0 9) (show 0 < 1+pw b 1 3 by omega)
  omega
 ·split <;> omega
theorem AU {n:Int} (h0:0≤n) (h1:n < 1000000):Rg (wy n):=by
 unfold wy
 refine lZ (fun x hx=> ?_) _
 simp only [List.mem_cons,List.not_mem_nil,or_false] at hx
 unfold Rg
 rcases hx with rfl | rfl | rfl | rfl | rfl | rfl | rfl <;> omega
theorem ry (a:List Int) (n:Nat): ∀ x∈gW a n,Rg x:=fun x hx=> by
 obtain ⟨i,_,rfl⟩:=List.mem_map.1 hx
 exact AU (td a i) (tw a i)
theorem rW (b:List Int): ∀ i,Rg (((List.range 9).map (CH b)).getD i 0):=fun i=> lZ (fun x hx=> by
 obtain ⟨j,_,rfl⟩:=List.mem_map.1 hx
 exact DP b j) i
structure ED (M:Mk) (D:Nat→Nat) (nv:Nat):Prop where
 pg:PG M.cx D nv
 iv:M.iv.length=nv
 ir: ∀ v∈M.iv,Rg v
 nv:0 < nv
 ent: ∀ h,h < 40→M.P.e h < 0∨ ∃ e0:Nat,M.P.e h=(e0:Int)∧e0 < M.P.c.length∧D e0=0
 c:M.P.c.length≤1000000
theorem yI (p v b r:List Int): ∃ D nv,ED (BN p v b r) D nv:=by
 by_cases hc:ip (pB p)=true
 ·have e:hZ p=⟨bU (pB p) 0,cd (pB p),2,2⟩:=if_pos hc
  have U:=wZ p
  refine ⟨qX (pB p),4,?_,?_,ry _ _,by omega,fun h hh=> ?_,?_⟩
  ·show PG ⟨(hZ p).c,(hZ p).d,(List.range 9).map (CH b),r.take 30⟩ _ _
   rw [e]
   exact Cb ab U.ok (rW b)
  ·show (gW v ((hZ p).d+(hZ p).v)).length=4
   rw [kI,e];rfl
  ·show (hZ p).e h < 0∨ ∃ e0:Nat,(hZ p).e h=(e0:Int)∧e0 < (hZ p).c.length∧_
   rw [e]
   rcases tj (pB p) h with h1 | ⟨e0,_,h1,h2,h3⟩
   ·exact .inl (by show (mt (jn (pB p) 0)).getD h (-1) < 0;omega)
   ·exact .inr ⟨e0,h1,h2,h3⟩
  ·show (hZ p).c.length≤1000000
   rw [e];exact U.c
 ·have e:hZ p=uG 3 0:=if_neg hc
  refine ⟨ro,1,?_,?_,ry _ _,by omega,fun h hh=> ?_,?_⟩
  ·show PG ⟨(hZ p).c,(hZ p).d,(List.range 9).map (CH b),r.take 30⟩ _ _
   rw [e]
   exact Av (by unfold Rg;omega) (by unfold Rg;omega) (rW b)
  ·show (gW v ((hZ p).d+(hZ p).v)).length=1
   rw [kI,e];rfl
  ·show (hZ p).e h < 0∨ ∃ e0:Nat,(hZ p).e h=(e0:Int)∧e0 < (hZ p).c.length∧_
   rw [e]
   by_cases h0:h=0
   ·subst h0
    exact .inr ⟨0,rfl,by show 0 < (re 3 0).length;decide,rfl⟩
   ·exact .inl (by show eB 40 h < 0;unfold eB;rw [if_pos ab];omega)
  ·show (hZ p).c.length≤1000000
   rw [e];show (re 3 0).length≤1000000;decide

set_option maxHeartbeats 1000000 in
theorem vW (M:Mk) (h:Nat) (hh:h < 40) (he:M.P.e h < 0) (h0:0 < M.iv.length) (h1:M.iv.length≤1000):
  Spec Tryz.prog 24 (bj [sQ M.P, .v (.int .i64 (h:Int)), .sl M.iv.length (cu M.iv), .agg [.v (.int .i64 (M.nm 0)), .v (.int .i64 (M.nm 1)), .v (.int .i64 (M.nm 2)), .v (.int .i64 (M.nm 3)), .v (.int .i64 (M.nm 4)), .v (.int .i64 (M.nm 5)), .v (.int .i64 (M.nm 6)), .v (.int .i64 (M.nm 7)), .v (.int .i64 (M.nm 8))], .sl M.ans.length (cu M.ans)] []) (aT (.tup [.agg [.sl M.iv.length (cu M.iv), .sl 0 [], .v (.int .i64 0), .v (.bool false), .sl 0 []], .sl 0 [], .v (.bool true)]) []):=by
 have hv:=tf M h hh he h0 h1
 refine Spec.ofN Tryz.func24 rfl Tryz.ntmps24 rfl ?_
 refine am (ai (bm (5,0) _ rfl rfl) (ai (bm (8,0) _ rfl rfl) (ai (az (10,0) aa rfl rfl) (ai (bJ _ (rfl:_=AV.v (.slice _ _ _))) (ci rfl (aj (am (ef rfl (ai (aB _ aa rfl (by exact (rfl:_=some [_,_,_]))) ?_)))))))))
 refine ai (bm (17,0) _ rfl rfl) (DQ rfl (aj (aq ?_)))
 refine aN (Le.nilB (17,0) 1 (62,0) 3 1 rfl rfl rfl) ?_
 refine an (ai (aR _ aa rfl rfl rfl rfl) (aP rfl (ef rfl (ai (aR _ aa rfl rfl rfl rfl) (ai (aB _ aa rfl (by exact (rfl:_=some [_,_,_,_,_,_,_,_,_,_]))) ?_)))))
 refine bn rfl (ai (pR _ _ (rfl:_=[_]) (rfl:_=[])) ?_)
 refine ai (eC aa [((4,9),(17,0)),((5,9),(62,0)),((5,8),(25,1))] ar (hv) ob tr tr rfl rfl ae ae) ?_
 refine ai (az (14,0) aa rfl rfl) (bO rfl rfl rfl rfl rfl rfl (aj (aq ?_)))
 refine aN (σ':=aA 35 [(10,_),(13,_),(14,_)] [((10,0),_),((17,0),_),((25,1),_),((14,0),_)] [] []) kp ?_
 refine tS 12 [26,27,28,29,30,31,32,33,34,11,12] [(10,0)] ae ae rfl (rfl:_=[_,_,_,_,_,_,_,_,_,_,_,_]) (rfl:_=[]) ?_
 refine dM (_,[]) (fun τ=> aR _ aa rfl rfl rfl rfl) ?_
 refine dN (rfl:_=[_]) ?_
 refine dM (_,[]) (fun τ=> aC _ (rfl:_=AV.ptr _ _)) ?_
 refine dN (rfl:_=[_,_]) ?_
 refine dM (_,[]) (fun τ=> aV _ rfl rfl) ?_
 refine dN (rfl:_=[_,_,_]) ?_
 refine dM (_,[]) (fun τ=> aI _ aa rfl rfl rfl) ?_
 refine dN (rfl:_=[_,_,_,_]) ?_
 refine dM (_,[]) (fun τ=> aM _ aa rfl rfl (rfl:_=some (AV.ref _ _ _))) ?_
 refine dN (rfl:_=[_,_,_,_,_]) ?_
 refine dM (_,[]) (fun τ=> aC _ (rfl:_=AV.ptr _ _)) ?_
 refine dN (rfl:_=[_,_,_,_,_,_]) ?_
 refine dM (_,[]) (fun τ=> aV _ rfl rfl) ?_
 refine dN (rfl:_=[_,_,_,_,_,_,_]) ?_
 refine dM (_,[]) (fun τ=> aI _ aa rfl rfl rfl) ?_
 refine dN (rfl:_=[_,_,_,_,_,_,_,_]) ?_
 refine dM (_,[]) (fun τ=> aM _ aa rfl rfl (rfl:_=some (AV.v (.bool _)))) ?_
 refine dN (rfl:_=[_,_,_,_,_,_,_,_,_]) ?_
 refine dM (_,[((10,0),_)]) (fun τ=> lm _ _ aa rfl rfl rfl rfl (Nat.le_of_ble_eq_true rfl) rfl) ?_
 refine dN (rfl:_=[_,_,_,_,_,_,_,_,_,_]) ?_
 refine dM (_,[]) (fun τ=> bJ _ (rfl:_=AV.ref _ _ _)) ?_
 refine dN (rfl:_=[_,_,_,_,_,_,_,_,_,_,_]) ?_
 refine dM (_,[]) (fun τ=> bJ _ (rfl:_=AV.v (.bool _))) ?_
 refine dN (rfl:_=[_,_,_,_,_,_,_,_,_,_,_,_]) ?_
 refine rM ⟨⟨rfl,by kernel_rfl,by kernel_rfl⟩,?_⟩
 exact aj (aE (zq (.inr rfl) rfl (.cellA aa rfl rfl rfl) (.tmp (rfl:_=AV.ref _ _ _)) (.tmp (rfl:_=AV.v _)) (Le.out [] [(25,1)] (.tup rfl (aD (.agg rfl lz) (aD (fY rfl rfl rfl rfl) lz))) rfl rfl rfl tr trivial)))
theorem vV {M:Mk} {D:Nat→Nat} {nv:Nat} (K:ED M D nv) (hn:M.ans.length≤4611686018427387904) (h:Nat) (hh:h < 40): ∃ (vs:List Int) (acs:List Ac) (n:Int) (sp:Bool) (cv ak:List Int),vs.length≤1000000∧acs.length≤1000000∧cv.length≤1000000∧ak.length≤1000000∧
  Spec Tryz.prog 24 (bj [sQ M.P, .v (.int .i64 (h:Int)), .sl M.iv.length (cu M.iv), .agg [.v (.int .i64 (M.nm 0)), .v (.int .i64 (M.nm 1)), .v (.int .i64 (M.nm 2)), .v (.int .i64 (M.nm 3)), .v (.int .i64 (M.nm 4)), .v (.int .i64 (M.nm 5)), .v (.int .i64 (M.nm 6)), .v (.int .i64 (M.nm 7)), .v (.int .i64 (M.nm 8))], .sl M.ans.length (cu M.ans)] []) (aT (.tup [.agg [.sl vs.length (cu vs), .sl acs.length (oU acs), .v (.int .i64 n), .v (.bool sp), .sl cv.length (cu cv)], .sl ak.length (cu ak), .v (.bool true)]) [])∧
  Spec Tryz.prog 26 (bj [sQ M.P, .v (.int .i64 (h:Int)), .sl M.iv.length (cu M.iv), .agg [.v (.int .i64 (M.nm 0)), .v (.int .i64 (M.nm 1)), .v (.int .i64 (M.nm 2)), .v (.int .i64 (M.nm 3)), .v (.int .i64 (M.nm 4)), .v (.int .i64 (M.nm 5)), .v (.int .i64 (M.nm 6)), .v (.int .i64 (M.nm 7)), .v (.int .i64 (M.nm 8))], .sl M.ans.length (cu M.ans)] []) (aT (.agg [.sl vs.length (cu vs), .sl acs.length (oU acs), .v (.int .i64 n), .v (.bool sp), .sl cv.length (cu cv), .sl ak.length (cu ak)]) []):=by
 have hnv:=K.pg.nv
 have h0:0 < M.iv.length:=by rw [K.iv];exact K.nv
 have h1:M.iv.length≤16:=by rw [K.iv];exact hnv
 rcases K.ent h hh with he | ⟨e0,he,he2,hD⟩
 ·exact ⟨M.iv,[],0,false,[],[],by omega,Nat.zero_le _,Nat.zero_le _,Nat.zero_le _,vW M h hh he h0 ab,tQ M h hh he h0 ab⟩
 ·obtain ⟨R,hR⟩: ∃ R,R=jf M.cx 500 (fj M.iv e0):=⟨_,rfl⟩
  have hat:=CP K.pg (nU (e:=e0) K.iv K.ir he2 hD) 500
  have hst:=(pW (K:=M.cx) 500 (fj M.iv e0)).1
  have hsz:Sz (jf M.cx 500 (fj M.iv e0)):=nX (I:=Sz) (fun s hs _=> qb hs) 500 _ ⟨Nat.le_refl _,Nat.le_refl _,Nat.le_refl _⟩
  rw [← hR] at hat hst hsz
  have hs5:R.steps≤500:=by simpa [fj] using hst
  have h2:=hsz.ac
  have h3:=hsz.ak
  have h4:=hat.iv.vl
  have h5:=sj R.cov
  have h6:=hat.cn
  have hr:=sy M D nv K.pg h hh e0 he he2 hD K.iv K.ir K.nv K.c hn R hR
  rw [← Dq] at hr
  exact ⟨R.vars,R.acts,R.steps, !R.fin,kO R.cov,R.asked,by omega,by omega,by omega,by omega,hr,wk M D nv K.pg h hh e0 he he2 hD K.iv K.ir K.nv K.c hn R hR⟩

abbrev BP (l:List Int):Prop:=l.length≤4611686018427387904∧ ∀ x∈l, -9223372036854775808≤x∧x≤9223372036854775807
set_option maxHeartbeats 1000000 in
theorem si (p v b r:List Int) (hp:BP p) (hv:BP v) (hb:BP b) (hr:BP r) (hL:Spec Tryz.prog 27 (bj [] []) (aT (.v (.bool true)) [])):
  Spec Tryz.prog 3 (bj [.sl p.length (cu p), .sl v.length (cu v), .sl b.length (cu b), .sl r.length (cu r)] []) (aT (.v (.bool true)) []):=by
 obtain ⟨D,nv,K⟩:=yI p v b r
 obtain ⟨M,hM⟩: ∃ M,M=BN p v b r:=⟨_,rfl⟩
 rw [← hM] at K
 have hnv:=K.pg.nv
 have hans:M.ans.length≤4611686018427387904:=by rw [hM];show (r.take 30).length≤_;rw [List.length_take];omega
 have h1:Spec Tryz.prog 20 (bj [.sl p.length (cu p)] []) (aT (sQ M.P) []):=by rw [hM];exact vt p hp.1 hp.2
 have h2:Spec Tryz.prog 21 (bj [.sl r.length (cu r), .v (.int .i64 ((30:Nat):Int))] []) (aT (.sl M.ans.length (cu M.ans)) []):=by rw [hM];exact pE r hr.1 30 ab
 have hiv:M.iv=gW v (M.P.d+M.P.v):=by rw [hM];rfl
 have hdv:M.P.d+M.P.v=nv:=by have:=K.iv;rw [hiv,kI] at this;exact this
 have h3:Spec Tryz.prog 22 (bj [sQ M.P, .sl v.length (cu v)] []) (aT (.sl M.iv.length (cu M.iv)) []):=by rw [hiv];exact uW M.P v ⟨hv.1,hv.2⟩ ab
 have h4:Spec Tryz.prog 23 (bj [.sl b.length (cu b)] []) (aT (.agg [.v (.int .i64 (M.nm 0)), .v (.int .i64 (M.nm 1)), .v (.int .i64 (M.nm 2)), .v (.int .i64 (M.nm 3)), .v (.int .i64 (M.nm 4)), .v (.int .i64 (M.nm 5)), .v (.int .i64 (M.nm 6)), .v (.int .i64 (M.nm 7)), .v (.int .i64 (M.nm 8))]) []):=by rw [hM];exact tM b ⟨hb.1,hb.2⟩
 have hB:=fun h hh=> vV K hans h hh
 clear hM hiv
 refine Spec.ofN Tryz.func3 rfl Tryz.ntmps3 rfl ?_
 refine am (ci rfl (aj (am (ef rfl (ai (aF aa al (h1) rfl rfl) ?_)))))
 refine ai (az (9,0) aa rfl rfl) (bO rfl rfl rfl rfl rfl rfl (aj (am (ef rfl (ai (aF aa al (h2) rfl rfl) ?_)))))
 refine ke rfl (aj (am (ai (aR _ aa rfl rfl rfl rfl) (ef rfl (ai (aF aa al (h3) rfl rfl) ?_)))))
 refine ke rfl (aj (am (ef rfl (ai (aF aa al (h4) rfl rfl) ?_))))
 refine ai (az (12,0) aa rfl rfl) (bO rfl rfl rfl rfl rfl rfl (aj (aH fun K6 hK6=> ?_)))
 refine aq ?_
 refine aN (σ':=aA 55 [(9,_),(10,_),(11,_),(12,_)] [((9,0),_),((12,0),_)] [] []) kp ?_
 refine an (ba rfl (aj (au ?_)))
 refine bD (α:=Nat) (fun k=> k≤40) 55 [(9,_),(10,_),(11,_),(12,_)] [((9,0),_),((12,0),_)] (fun k=> [(13, .v (.int .i64 (k:Int)))]) (fun k=> []) [] [] (fun k=> 40 - k) 0 ?_ (by
  refine Le.mkJ [] [] rfl ?_ ?_ trivial trivial ?_
  ·exact ⟨(iP rfl),(iS rfl),(iS rfl),(iP rfl),(bY ag),trivial⟩
  ·exact ⟨(ce rfl rfl rfl),(ce rfl rfl rfl),trivial⟩
  ·kernel_rfl) ?_
 ·omega
 intro k hk
 refine aH fun K8 hK8=> ?_
 refine am (aP rfl (ai (bp _ _ rfl rfl rfl) (aj (aO rfl (fun hc27=> ?_) (fun hc27=> ?_)))))
 ·skip
  obtain ⟨vs,acs,n,sp,cv,ak,b1,b2,b3,b4,hx,hy⟩:=hB k ab
  have hs:=tx vs acs n sp cv ak b1 b2 b3 b4
  refine bB (hK8 _ ?_)
  clear hK8;try clear K8
  refine aq (au (am (ai (aR _ aa rfl rfl rfl rfl) (aP rfl (ef rfl (ai (aR _ aa rfl rfl rfl rfl) (ef rfl (ai (aF aa al (hx) rfl rfl) ?_))))))))
  refine ai (aC _ (rfl:_=AV.tup _)) (ai (dk _ rfl (rfl:_=some (AV.agg _))) (ai (dk _ rfl (rfl:_=some (AV.sl _ _))) (ai (dk _ rfl (rfl:_=some (AV.v (.bool _)))) (ai (az (14,0) aa rfl rfl) (bO rfl rfl rfl rfl rfl rfl (ke rfl (ci rfl (aj (aq ?_)))))))))
  refine aN (σ':=aA 55 [(9,_),(10,_),(11,_),(12,_),(13,_),(14,_),(15,_),(16,_)] [((9,0),_),((12,0),_),((14,0),_)] [] []) kp ?_
  refine bu 14 [40,41,42,43,44,45,46,47,48,49,50,51,52,53] [] ae ae rfl (aK rfl) (rfl:_=[_,_,_,_,_,_,_,_,_,_,_,_,_,_]) (rfl:_=[]) ?_
  refine ap (_,[]) (fun τ=> aC _ (rfl:_=AV.v (.bool _))) ?_
  refine el rfl ?_
  refine ap (_,[]) (fun τ=> da (r:=false) _ rfl rfl) ?_
  refine eo rfl ?_
  refine ap (_,[]) (fun τ=> aC _ (rfl:_=AV.v (.bool _))) ?_
  refine ep rfl ?_
  refine bQ (_,[]) rfl (fun τ=> rfl) (fun τ=> aR _ aa rfl rfl rfl rfl) ?_
  refine ew rfl ?_
  refine bQ (_,[]) rfl (fun τ=> rfl) (fun τ=> aC _ (rfl:_=AV.sl _ _)) ?_
  refine eF rfl ?_
  refine bQ (_,[]) rfl (fun τ=> rfl) (fun τ=> aR _ aa rfl rfl rfl rfl) ?_
  refine eV rfl ?_
  refine bQ (_,[]) rfl (fun τ=> rfl) (fun τ=> aC _ (rfl:_=AV.v (.int _ _))) ?_
  refine fF rfl ?_
  refine bQ (_,[]) rfl (fun τ=> rfl) (fun τ=> aC _ (rfl:_=AV.sl _ _)) ?_
  refine iu rfl ?_
  refine bQ (_,[]) rfl (fun τ=> rfl) (fun τ=> aR _ aa rfl rfl rfl rfl) ?_
  refine ig rfl ?_
  refine bQ (_,[]) rfl (fun τ=> rfl) (fun τ=> aC _ (rfl:_=AV.sl _ _)) ?_
  refine eO rfl ?_
  refine bQ (_,[]) rfl (fun τ=> rfl) (fun τ=> (aF aa al (hy) rfl rfl)) ?_
  refine fc rfl ?_
  refine bQ (_,[]) rfl (fun τ=> rfl) (fun τ=> (aF aa al (hs) rfl rfl)) ?_
  refine gU rfl ?_
  refine bQ (_,[]) rfl (fun τ=> rfl) (fun τ=> da (r:=false) _ rfl rfl) ?_
  refine gY rfl ?_
  refine ap (_,[]) (fun τ=> aG _ _ _ rfl (rfl:_=AV.v (.bool _))) ?_
  refine jm rfl (bg ⟨rfl,?_⟩)
  refine aj (aS rfl rfl (cf (an (aP rfl (ai (bc _ _ rfl rfl (be ab)) ?_)))))
  refine ba rfl (ax (⟨k+1,?_,?_,?_⟩))
  ·omega
  ·skip
   refine Le.mkJ [] [] rfl ?_ ?_ trivial trivial ?_
   ·exact ⟨(iP rfl),(iS rfl),(iS rfl),(iP rfl),(bY ag),trivial⟩
   ·exact ⟨(ce rfl rfl rfl),(ce rfl rfl rfl),trivial⟩
   ·kernel_rfl
  ·omega
 ·skip
  refine bK (id (hK6 _ ?_))
  clear hK6;try clear K6
  refine am (ai (aF aa (by repeat' (exact dR)) (hL) rfl rfl) ?_)
  exact ci rfl (aj (aE (aX (.inr rfl) rfl (.tmp (rfl:_=AV.v _)) (Le.out [] [] .v rfl rfl rfl trivial trivial))))

def mL:Mk:=⟨⟨bU onsL 0,cd onsL,0,1⟩,[0],[0,1,0,0,0,0,0,0,0],[]⟩
def rL:Ms:=jf mL.cx 500 (fj [0] 0)
theorem AP:rL.vars=[3]:=by kernel_rfl
theorem zH:rL.acts=[{ k:=3,a:=0,b:=3,c:=3,d:=1 }]:=by kernel_rfl
theorem DJ:rL.fin=true:=by kernel_rfl
theorem yr:0 < rL.steps:=of_decide_eq_true ae
theorem Fu:PG mL.cx (qX onsL) 1:=Cb ab usrcL.ok (fun i=> lZ (fun x hx=> by
 have hx:x∈[(0:Int),1,0,0,0,0,0,0,0]:=hx
 simp only [List.mem_cons,List.not_mem_nil,or_false] at hx
 unfold Rg;omega) i)
theorem CY:mL.P.e 0=((0:Nat):Int):=by kernel_rfl
theorem Df:0 < mL.P.c.length:=of_decide_eq_true ae
theorem CC:qX onsL 0=0:=by kernel_rfl
set_option maxHeartbeats 1000000 in
theorem ta:Spec Tryz.prog 27 (bj [] []) (aT (.v (.bool true)) []):=by
 have hb:=tI usrcL
 rw [wt,if_pos (uJ srcOkL)] at hb
 have hb:Spec Tryz.prog 64 (bj [.v (bt Co)] []) (aT (.tup [sQ mL.P, .v (.int .i64 0)]) []):=hb
 have hrun:=sy mL (qX onsL) 1 Fu 0 ab 0 CY Df CC rfl (fun x hx=> by rw [List.mem_singleton.1 hx];unfold Rg;omega) ab usrcL.c (by show 0≤_;omega) rL rfl
 rw [AP,zH,DJ] at hrun
 have hn:=yr
 have hrun:Spec Tryz.prog 24 (bj [sQ mL.P, .v (.int .i64 0), .sl 1 (cu [0]), .agg [.v (.int .i64 0), .v (.int .i64 1), .v (.int .i64 0), .v (.int .i64 0), .v (.int .i64 0), .v (.int .i64 0), .v (.int .i64 0), .v (.int .i64 0), .v (.int .i64 0)], .sl 0 []] []) (aT (.tup [.agg [.sl 1 (cu [3]), .sl 1 (oU [{ k:=3,a:=0,b:=3,c:=3,d:=1 }]), .v (.int .i64 (rL.steps:Int)), .v (.bool false), .sl (ju (nx rL.cov)).length (cu (ju (nx rL.cov)))], .sl rL.asked.length (cu rL.asked), .v (.bool true)]) []):=hrun
 generalize rL.steps=n at hn hrun
 generalize ju (nx rL.cov)=cv at hrun
 generalize rL.asked=ak at hrun
 generalize mL.P=P at hb hrun
 refine Spec.ofN Tryz.func27 rfl Tryz.ntmps27 rfl ?_
 refine am (ci rfl (aj (am (ai (aF aa al (hb) rfl rfl) ?_))))
 refine ai (aC _ (rfl:_=AV.tup _)) (ai (dk _ rfl (rfl:_=some (AV.agg _))) (ai (dk _ rfl (rfl:_=some (AV.v (.int _ _)))) (ai (az (1,0) aa rfl rfl) (bO rfl rfl rfl rfl rfl rfl (ba rfl (aj (am (ai (az (3,0) aa rfl rfl) (aj (am ?_))))))))))
 refine ai (ek _ _ aa rfl rfl rfl 1 rfl ab (by exact (Nat.zero_add _).trans (Nat.mul_one _))) ?_
 refine bO rfl rfl rfl rfl rfl rfl (aj (am (ai (aR _ aa rfl rfl rfl rfl) (ai (aU _ _ aa rfl ag (by (simp <;> rfl)) ah rfl) ?_))))
 refine ai (aR _ aa rfl rfl rfl rfl) (ai (aF aa al (hrun) rfl rfl) ?_)
 refine ai (aC _ (rfl:_=AV.tup _)) (ai (dk _ rfl (rfl:_=some (AV.agg _))) (ai (dk _ rfl (rfl:_=some (AV.sl _ _))) (ai (dk _ rfl (rfl:_=some (AV.v (.bool _)))) (ai (az (4,0) aa rfl rfl) (bO rfl rfl rfl rfl rfl rfl (ke rfl (ci rfl (aj (aq ?_)))))))))
 refine aN (σ':=aA 48 [(2,_),(4,_),(6,_)] [((4,0),_)] [] []) kp ?_
 refine an (aP rfl (jq rfl rfl rfl (cM rfl (ay rfl rfl (aC _ (rfl:_=AV.v (.bool _))) (ai (aG _ _ _ rfl (rfl:_=AV.v (.bool _))) (cM rfl (ay rfl rfl (aI _ aa rfl rfl rfl) (ay rfl rfl (aM _ aa rfl rfl (rfl:_=some (AV.sl _ _))) (ay rfl rfl (aU _ _ aa rfl ag (by (simp <;> rfl)) ah rfl) ?_)))))))))
 refine ay rfl rfl (aF aa al (jC [3] ah) rfl rfl) ?_
 refine ai (aG _ _ _ rfl (rfl:_=AV.v (.bool _))) (cM rfl (ay rfl rfl (aI _ aa rfl rfl rfl) (ay rfl rfl (aM _ aa rfl rfl (rfl:_=some (AV.sl _ _))) (ay rfl rfl (aB _ aa rfl (by exact (rfl:_=some [_,_,_,_,_]))) ?_))))
 refine ay rfl rfl (aU _ _ aa rfl ag (by (simp <;> rfl)) ah rfl) ?_
 refine ay rfl rfl (aF aa al (kV [{ k:=3,a:=0,b:=3,c:=3,d:=1 }] ah) rfl rfl) ?_
 refine ai (aG _ _ _ rfl (rfl:_=AV.v (.bool _))) (cM rfl (ay rfl rfl (aI _ aa rfl rfl rfl) (ay rfl rfl (aM _ aa rfl rfl (rfl:_=some (AV.v (.bool _)))) (ay rfl rfl (da (r:=true) _ rfl rfl) (ai (aG _ _ _ rfl (rfl:_=AV.v (.bool _))) (cM rfl (ay rfl rfl (aI _ aa rfl rfl rfl) (ay rfl rfl (aM _ aa rfl rfl (rfl:_=some (AV.v (.int _ _)))) (ay rfl rfl (dB (r:=true) _ _ rfl rfl (decide_eq_true ab)) ?_)))))))))
 refine ai (aG _ _ _ rfl (rfl:_=AV.v (.bool _))) (ci rfl (aj (aE (aX (.inr rfl) rfl (.tmp (rfl:_=AV.v (.bool _))) (Le.out [] [] (hG ?_) rfl rfl rfl trivial trivial)))))
 rfl
theorem rK (p v b r:List Int) (hp:BP p) (hv:BP v) (hb:BP b) (hr:BP r):
  Spec Tryz.prog 3 (bj [.sl p.length (cu p), .sl v.length (cu v), .sl b.length (cu b), .sl r.length (cu r)] []) (aT (.v (.bool true)) []):=si p v b r hp hv hb hr ta

theorem sX (n0:Nat) (p:List Int) (h0:p.length=n0) (g0:n0≤4611686018427387904) (r0:Rng p) (n1:Nat) (v:List Int) (h1:v.length=n1) (g1:n1≤4611686018427387904) (r1:Rng v)
  (n2:Nat) (b:List Int) (h2:b.length=n2) (g2:n2≤4611686018427387904) (r2:Rng b) (n3:Nat) (r:List Int) (h3:r.length=n3) (g3:n3≤4611686018427387904) (r3:Rng r):
  Spec Tryz.prog 3 (bj [.sl n0 (cu p), .sl n1 (cu v), .sl n2 (cu b), .sl n3 (cu r)] []) (aT (.v (.bool true)) []):=by
 subst h0;subst h1;subst h2;subst h3
 exact rK p v b r ⟨g0,r0⟩ ⟨g1,r1⟩ ⟨g2,r2⟩ ⟨g3,r3⟩
end Go.Proofs.YtmjnackchaahbaaGreat
