/- Part 17 of the texts that the walk leans on: the machine, the walks, the plain laws. -/
import Derived.Test.YtmjnackchaahbaaGreatVoZ16
set_option linter.unusedSimpArgs false
set_option linter.unusedVariables false
namespace Go.Proofs.YtmjnackchaahbaaGreat
open Go.RowKit

section
variable (M:Mk) (s:Ms) (dr se:Int)
theorem BO (n:Int) (hs:s.stack.length≤90000):
  Spec Tryz.prog 127 (bc [.ptr (0,9) 0, .v (.int .i64 n)] (kZ M s dr se)) (bj (.tup []) (kL M { s with stack:=s.stack++[mo n] } dr se (2,8) (3,8) (5,8)) [(0,9),(1,9),(2,8),(3,8),(4,9),(5,8)] [(0,9),(1,9),(4,9)]):=by
 refine Spec.ofNI Tryz.func127 rfl Tryz.ntmps127 rfl ?_
 refine an (bh rfl (aS rfl (cD (Le.incT (6,0) rfl) ?_)))
 refine ai (bp aa [((3,8),(6,0))] ar (ea M s dr se n ab) ob tr tr rfl ae ae) ?_
 exact az (eQ (.inl rfl) rfl (Le.outI [((2,8),(2,9)),((3,8),(6,0)),((5,8),(5,9))] [] (.tup rfl bn) rfl rfl rfl trivial ob tr rfl))
theorem AF (k:Nat) (hk:k < s.vars.length) (hs:s.stack.length≤90000):
  Spec Tryz.prog 128 (bc [.ptr (0,9) 0, .v (.int .i64 (k:Int))] (kZ M s dr se)) (bj (.tup []) (kL M { s with stack:=s.stack++[mo (s.vars.getD k 0)] } dr se (2,8) (3,8) (5,8)) [(0,9),(1,9),(2,8),(3,8),(4,9),(5,8)] [(0,9),(1,9),(4,9)]):=by
 refine Spec.ofNI Tryz.func128 rfl Tryz.ntmps128 rfl ?_
 refine an (bh rfl (bh rfl (ai (aN _ rfl rfl) (bv rfl rfl rfl (bv rfl rfl rfl (ai (aL _ aa rfl rfl (rfl:_=some (AV.ref _ _ _))) (aS rfl (ai (gi _ _ aa rfl rfl rfl _ rfl ab (by exact (Nat.zero_add _).trans (Nat.mul_one _))) ?_))))))))
 refine ai (lc _ aa rfl rfl (by exact dY _ _ ab) rfl) ?_
 refine cD (Le.incT (13,0) rfl) ?_
 refine ai (bp aa [((3,8),(13,0))] ar (ea M s dr se (s.vars.getD k 0) ab) ob tr tr rfl ae ae) ?_
 exact az (eQ (.inl rfl) rfl (Le.outI [((2,8),(2,9)),((3,8),(13,0)),((5,8),(5,9))] [] (.tup rfl bn) rfl rfl rfl trivial ob tr rfl))
theorem yn (n:Int) (ha:s.acts.length≤90000):
  Spec Tryz.prog 150 (bc [.ptr (0,9) 0, .v (.int .i64 n)] (kZ M s dr se)) (bj (.tup []) (kL M { s with acts:=s.acts++[{ k:=4,a:=n }] } dr se (2,8) (3,8) (5,8)) [(0,9),(1,9),(2,8),(3,8),(4,9),(5,8)] [(0,9),(1,9),(4,9)]):=by
 refine Spec.ofNI Tryz.func150 rfl Tryz.ntmps150 rfl ?_
 refine an (bh rfl (aS rfl (cD (Le.incT (6,0) rfl) ?_)))
 refine ai (bp aa [((2,8),(6,0))] ar (fC M s dr se 4 n 0 0 0 ab) ob tr tr rfl ae ae) ?_
 exact az (eQ (.inl rfl) rfl (Le.outI [((2,8),(6,0)),((3,8),(3,9)),((5,8),(5,9))] [] (.tup rfl bn) rfl rfl rfl trivial ob tr rfl))
theorem vU (n:Int) (ha:s.acts.length≤90000):
  Spec Tryz.prog 151 (bc [.ptr (0,9) 0, .v (.int .i64 n)] (kZ M s dr se)) (bj (.tup []) (kL M { s with acts:=s.acts++[{ k:=5,a:=n }] } dr se (2,8) (3,8) (5,8)) [(0,9),(1,9),(2,8),(3,8),(4,9),(5,8)] [(0,9),(1,9),(4,9)]):=by
 refine Spec.ofNI Tryz.func151 rfl Tryz.ntmps151 rfl ?_
 refine an (bh rfl (aS rfl (cD (Le.incT (6,0) rfl) ?_)))
 refine ai (bp aa [((2,8),(6,0))] ar (fC M s dr se 5 n 0 0 0 ab) ob tr tr rfl ae ae) ?_
 exact az (eQ (.inl rfl) rfl (Le.outI [((2,8),(6,0)),((3,8),(3,9)),((5,8),(5,9))] [] (.tup rfl bn) rfl rfl rfl trivial ob tr rfl))
theorem BC (n:Int) (ha:s.acts.length≤90000):
  Spec Tryz.prog 152 (bc [.ptr (0,9) 0, .v (.int .i64 n)] (kZ M s dr se)) (bj (.tup []) (kL M { s with acts:=s.acts++[{ k:=2 }] } dr se (2,8) (3,8) (5,8)) [(0,9),(1,9),(2,8),(3,8),(4,9),(5,8)] [(0,9),(1,9),(4,9)]):=by
 refine Spec.ofNI Tryz.func152 rfl Tryz.ntmps152 rfl ?_
 refine an (bh rfl (cD (Le.incT (5,0) rfl) ?_))
 refine ai (bp aa [((2,8),(5,0))] ar (fC M s dr se 2 0 0 0 0 ab) ob tr tr rfl ae ae) ?_
 exact az (eQ (.inl rfl) rfl (Le.outI [((2,8),(5,0)),((3,8),(3,9)),((5,8),(5,9))] [] (.tup rfl bn) rfl rfl rfl trivial ob tr rfl))
theorem AY (n:Int):
  Spec Tryz.prog 155 (bc [.ptr (0,9) 0, .v (.int .i64 n)] (kZ M s dr se)) (bj (.tup []) (kL M { s with fin:=true } dr se (2,8) (3,8) (5,8)) [(0,9),(1,9),(2,8),(3,8),(4,9),(5,8)] [(0,9),(1,9),(4,9)]):=by
 refine Spec.ofNI Tryz.func155 rfl Tryz.ntmps155 rfl ?_
 exact an (bh rfl (ai (aN _ rfl rfl) (bv rfl rfl rfl (bL rfl rfl rfl rfl rfl rfl (az (eQ (.inl rfl) rfl (Le.outI [((2,8),(2,9)),((3,8),(3,9)),((5,8),(5,9))] [] (.tup rfl bn) rfl rfl rfl trivial ob tr rfl)))))))
theorem AD (n:Nat):
  Spec Tryz.prog 147 (bc [.ptr (0,9) 0, .v (.int .i64 (n:Int))] (kZ M s dr se)) (bj (.tup []) (kL M { s with pc:=n } dr se (2,8) (3,8) (5,8)) [(0,9),(1,9),(2,8),(3,8),(4,9),(5,8)] [(0,9),(1,9),(4,9)]):=by
 refine Spec.ofNI Tryz.func147 rfl Tryz.ntmps147 rfl ?_
 exact an (bh rfl (aS rfl (ai (aN _ rfl rfl) (bv rfl rfl rfl (bL rfl rfl rfl rfl rfl rfl (az (eQ (.inl rfl) rfl (Le.outI [((2,8),(2,9)),((3,8),(3,9)),((5,8),(5,9))] [] (.tup rfl bn) rfl rfl rfl trivial ob tr rfl))))))))
theorem zE (n:Int) (hs:s.stack.length≤90000) (h0:0 < s.stack.length) (hr:Rg (s.top 0)):
  Spec Tryz.prog 141 (bc [.ptr (0,9) 0, .v (.int .i64 n)] (kZ M s dr se)) (bj (.tup []) (kL M { s with stack:=s.pop 1++[mo (-(s.top 0))] } dr se (2,8) (3,8) (5,8)) [(0,9),(1,9),(2,8),(3,8),(4,9),(5,8)] [(0,9),(1,9),(4,9)]):=by
 unfold Rg at hr
 refine Spec.ofNI Tryz.func141 rfl Tryz.ntmps141 rfl ?_
 refine an (bh rfl (bh rfl (cD (Le.incT (6,0) rfl) ?_)))
 refine ai (bp aa [((3,8),(6,0))] ar (bY M s dr se ab h0) ob tr tr rfl ae ae) ?_
 refine ai (sO (r:= -(s.top 0)) _ rfl (br ab)) ?_
 refine cD (Le.incT (8,0) rfl) ?_
 refine ai (bp aa [((3,9),(6,0)),((3,8),(8,0))] ar (ea M { s with stack:=s.pop 1 } dr se (-(s.top 0)) (by have:=ct s 1;simp only;omega)) ob tr tr rfl ae ae) ?_
 exact az (eQ (.inl rfl) rfl (Le.outI [((2,8),(2,9)),((3,8),(8,0)),((5,8),(5,9))] [] (.tup rfl bn) rfl rfl rfl trivial ob tr rfl))
theorem ze (n:Int) (hs:s.stack.length≤90000) (ha:s.acts.length≤90000) (h0:0 < s.stack.length):
  Spec Tryz.prog 154 (bc [.ptr (0,9) 0, .v (.int .i64 n)] (kZ M s dr se)) (bj (.tup []) (kL M { s with stack:=s.pop 1,acts:=s.acts++[{ k:=7,a:=s.top 0 }] } dr se (2,8) (3,8) (5,8)) [(0,9),(1,9),(2,8),(3,8),(4,9),(5,8)] [(0,9),(1,9),(4,9)]):=by
 refine Spec.ofNI Tryz.func154 rfl Tryz.ntmps154 rfl ?_
 refine an (bh rfl (bh rfl (cD (Le.incT (6,0) rfl) ?_)))
 refine ai (bp aa [((3,8),(6,0))] ar (bY M s dr se ab h0) ob tr tr rfl ae ae) ?_
 refine cD (Le.incT (7,0) rfl) ?_
 refine ai (bp aa [((3,9),(6,0)),((2,8),(7,0))] ar (fC M { s with stack:=s.pop 1 } dr se 7 (s.top 0) 0 0 0 (by simp only;omega)) ob tr tr rfl ae ae) ?_
 exact az (eQ (.inl rfl) rfl (Le.outI [((2,8),(7,0)),((3,8),(6,0)),((5,8),(5,9))] [] (.tup rfl bn) rfl rfl rfl trivial ob tr rfl))
end

section
variable (M:Mk) (s:Ms) (dr se:Int)
theorem xe (k:Nat) (hk:k < s.vars.length) (hs:s.stack.length≤90000) (ha:s.acts.length≤90000) (h0:0 < s.stack.length) (hd:k < M.P.d):
  Spec Tryz.prog 130 (bc [.ptr (0,9) 0, .v (.int .i64 (k:Int))] (kZ M s dr se)) (bj (.tup []) (kL M { s with vars:=s.vars.set k (s.top 0),stack:=s.pop 1,acts:=s.acts++[{ k:=1,a:=k,b:=s.top 0 }] } dr se (2,8) (3,8) (5,8)) [(0,9),(1,9),(2,8),(3,8),(4,9),(5,8)] [(0,9),(1,9),(4,9)]):=by
 have hl:(s.vars.set k (s.top 0)).length=s.vars.length:=List.length_set
 have hg:=dY (s.vars.set k (s.top 0)) k (by rw [hl];exact hk)
 rw [List.getD_eq_getElem?_getD,List.getElem?_set_self hk] at hg
 refine Spec.ofNI Tryz.func130 rfl Tryz.ntmps130 rfl ?_
 refine aq ?_
 refine aO (Le.incT (11,0) rfl) ?_
 refine uv (0,9) (fun c=> ∃ xs,c=Slot.obj (.box 171 xs)∧xs[54]? =some (.ref (1,9) 0 s.vars.length)) 8 [4,5,6,7,8,9,10,11] [(0,9),(1,9),(2,9),(11,0),(4,9),(5,9),(3,9)] ae ae rfl (aK rfl) (rfl:_=[_,_,_,_,_,_,_,_]) (rfl:_=[_,_]) (⟨_,rfl,rfl⟩) ?_
 refine fe (_,[]) (fun τ hτ=> aE _ (rfl:_=AV.ptr _ _)) ?_
 refine ff (rfl:_=[_]) ?_
 refine fe (_,[]) (fun τ hτ=> aN _ rfl (by exact hτ.choose_spec.1)) ?_
 refine ff (rfl:_=[_,_]) ?_
 refine fe (_,[]) (fun τ hτ=> aI _ aa rfl (by exact hτ.choose_spec.1) rfl) ?_
 refine ff (rfl:_=[_,_,_]) ?_
 refine fe (_,[]) (fun τ hτ=> aI _ aa rfl (by exact hτ.choose_spec.1) rfl) ?_
 refine ff (rfl:_=[_,_,_,_]) ?_
 refine fe (_,[]) (fun τ hτ=> aL _ aa rfl (by exact hτ.choose_spec.1) (by exact hτ.choose_spec.2)) ?_
 refine ff (rfl:_=[_,_,_,_,_]) ?_
 refine fe (_,[]) (fun τ hτ=> aE _ (rfl:_=AV.v (.int _ _))) ?_
 refine ff (rfl:_=[_,_,_,_,_,_]) ?_
 refine fe (_,[]) (fun τ hτ=> aE _ (rfl:_=AV.ptr _ _)) ?_
 refine ff (rfl:_=[_,_,_,_,_,_,_]) ?_
 refine fe (_,[((0,9),_),((1,9),_),((2,9),_),((11,0),_),((4,9),_),((5,9),_),((3,9), .gone)]) (fun τ hτ=> (bp aa [((3,8),(11,0))] ar (bY M s dr se ab h0) ob tr tr rfl ae ae)) ?_
 refine ff (rfl:_=[_,_,_,_,_,_,_,_]) ?_
 refine sr ⟨⟨rfl,(by intro r hr c hc;simp only [List.mem_cons,List.not_mem_nil,or_false] at hr;rcases hr with rfl | rfl | rfl | rfl | rfl | rfl | rfl | rfl <;> simp at hc;subst hc;exact ⟨_,rfl,rfl⟩)⟩,?_⟩
 refine ai (gi _ _ aa rfl rfl rfl _ rfl ab (by exact (Nat.zero_add _).trans (Nat.mul_one _))) ?_
 refine ai (mq _ _ aa rfl rfl rfl rfl rfl (by rw [ba];exact hk) (kr s.vars k (s.top 0) hk)) ?_
 refine aj (am (aS rfl (bh rfl (ai (aN _ rfl rfl) (bv rfl rfl rfl (bv rfl rfl rfl (cG rfl rfl rfl (ai (bq _ _ rfl rfl rfl) (aj (bF rfl (decide_eq_true ab) ?_))))))))))
 refine aO (σ':=aB 31 [(0,_),(1,_)] [((0,9),_),((1,9),_),((2,9),_),((4,9),_),((5,9),_),((11,0),_)] [(0,9),(1,9),(2,9),(4,9),(5,9),(11,0)] [(0,9),(1,9),(4,9)]) kp ?_
 refine an (bh rfl (aS rfl (bh rfl (ai (aN _ rfl rfl) (bv rfl rfl rfl (bv rfl rfl rfl (ai (aL _ aa rfl rfl (rfl:_=some (AV.ref _ _ _))) (aS rfl (ai (gi _ _ aa rfl rfl rfl _ rfl ab (by exact (Nat.zero_add _).trans (Nat.mul_one _))) ?_)))))))))
 refine ai (lc _ aa rfl rfl (by exact hg) rfl) ?_
 refine cD (Le.incT (30,0) rfl) ?_
 refine ai (bp aa [((3,9),(11,0)),((2,8),(30,0))] ar (fC M { s with vars:=s.vars.set k (s.top 0),stack:=s.pop 1 } dr se 1 (k:Int) (s.top 0) 0 0 (by simp only;omega)) ⟨⟨rfl,⟨_,rfl, .box ag (aC .sl (wv (wv (wv (wv (aC .v (aC .v (aC .sl (Em (Em (aC .v (aC (.fn rfl lz rfl bn) (aC (cX (id:=(1,9)) (id':=(1,9)) rfl hl) lz)))))))))))))⟩,rfl⟩,⟨rfl,⟨_,rfl, .rowE rfl⟩,rfl⟩,⟨rfl,⟨_,rfl, .rowE rfl⟩,rfl⟩,⟨rfl,⟨_,rfl, .rowE rfl⟩,rfl⟩,⟨rfl,⟨_,rfl, .box ag lz⟩,rfl⟩,⟨rfl,⟨_,rfl, .rowE rfl⟩,rfl⟩,trivial⟩ tr tr rfl ae ae) ?_
 exact az (eQ (.inl rfl) rfl (Le.outI [((2,8),(30,0)),((3,8),(11,0)),((5,8),(5,9))] [] (.tup rfl bn) rfl rfl rfl trivial ob tr rfl))
theorem wA (k:Nat) (hk:k < s.vars.length) (hs:s.stack.length≤90000) (h0:0 < s.stack.length) (hd:M.P.d≤k):
  Spec Tryz.prog 130 (bc [.ptr (0,9) 0, .v (.int .i64 (k:Int))] (kZ M s dr se)) (bj (.tup []) (kL M { s with vars:=s.vars.set k (s.top 0),stack:=s.pop 1 } dr se (2,8) (3,8) (5,8)) [(0,9),(1,9),(2,8),(3,8),(4,9),(5,8)] [(0,9),(1,9),(4,9)]):=by
 have hl:(s.vars.set k (s.top 0)).length=s.vars.length:=List.length_set
 have hg:=dY (s.vars.set k (s.top 0)) k (by rw [hl];exact hk)
 rw [List.getD_eq_getElem?_getD,List.getElem?_set_self hk] at hg
 refine Spec.ofNI Tryz.func130 rfl Tryz.ntmps130 rfl ?_
 refine aq ?_
 refine aO (Le.incT (11,0) rfl) ?_
 refine uv (0,9) (fun c=> ∃ xs,c=Slot.obj (.box 171 xs)∧xs[54]? =some (.ref (1,9) 0 s.vars.length)) 8 [4,5,6,7,8,9,10,11] [(0,9),(1,9),(2,9),(11,0),(4,9),(5,9),(3,9)] ae ae rfl (aK rfl) (rfl:_=[_,_,_,_,_,_,_,_]) (rfl:_=[_,_]) (⟨_,rfl,rfl⟩) ?_
 refine fe (_,[]) (fun τ hτ=> aE _ (rfl:_=AV.ptr _ _)) ?_
 refine ff (rfl:_=[_]) ?_
 refine fe (_,[]) (fun τ hτ=> aN _ rfl (by exact hτ.choose_spec.1)) ?_
 refine ff (rfl:_=[_,_]) ?_
 refine fe (_,[]) (fun τ hτ=> aI _ aa rfl (by exact hτ.choose_spec.1) rfl) ?_
 refine ff (rfl:_=[_,_,_]) ?_
 refine fe (_,[]) (fun τ hτ=> aI _ aa rfl (by exact hτ.choose_spec.1) rfl) ?_
 refine ff (rfl:_=[_,_,_,_]) ?_
 refine fe (_,[]) (fun τ hτ=> aL _ aa rfl (by exact hτ.choose_spec.1) (by exact hτ.choose_spec.2)) ?_
 refine ff (rfl:_=[_,_,_,_,_]) ?_
 refine fe (_,[]) (fun τ hτ=> aE _ (rfl:_=AV.v (.int _ _))) ?_
 refine ff (rfl:_=[_,_,_,_,_,_]) ?_
 refine fe (_,[]) (fun τ hτ=> aE _ (rfl:_=AV.ptr _ _)) ?_
 refine ff (rfl:_=[_,_,_,_,_,_,_]) ?_
 refine fe (_,[((0,9),_),((1,9),_),((2,9),_),((11,0),_),((4,9),_),((5,9),_),((3,9), .gone)]) (fun τ hτ=> (bp aa [((3,8),(11,0))] ar (bY M s dr se ab h0) ob tr tr rfl ae ae)) ?_
 refine ff (rfl:_=[_,_,_,_,_,_,_,_]) ?_
 refine sr ⟨⟨rfl,(by intro r hr c hc;simp only [List.mem_cons,List.not_mem_nil,or_false] at hr;rcases hr with rfl | rfl | rfl | rfl | rfl | rfl | rfl | rfl <;> simp at hc;subst hc;exact ⟨_,rfl,rfl⟩)⟩,?_⟩
 refine ai (gi _ _ aa rfl rfl rfl _ rfl ab (by exact (Nat.zero_add _).trans (Nat.mul_one _))) ?_
 refine ai (mq _ _ aa rfl rfl rfl rfl rfl (by rw [ba];exact hk) (kr s.vars k (s.top 0) hk)) ?_
 refine aj (am (aS rfl (bh rfl (ai (aN _ rfl rfl) (bv rfl rfl rfl (bv rfl rfl rfl (cG rfl rfl rfl (ai (bq _ _ rfl rfl rfl) (aj (aR rfl (decide_eq_false ab) ?_))))))))))
 exact bz (eQ (.inl rfl) rfl (Le.outI [((2,8),(2,9)),((3,8),(11,0)),((5,8),(5,9))] [] (.tup rfl bn) rfl rfl rfl trivial ⟨⟨rfl,⟨_,rfl, .box rfl (aC .sl (wv (wv (wv (wv (aC .v (aC .v (aC .sl (Em (Em (aC .v (aC (.fn rfl lz rfl bn) (aC (cX rfl hl) lz)))))))))))))⟩,rfl⟩,⟨rfl,⟨_,rfl, .rowE rfl⟩,rfl⟩,⟨rfl,⟨_,rfl, .rowE rfl⟩,rfl⟩,⟨rfl,⟨_,rfl, .rowE rfl⟩,rfl⟩,⟨rfl,⟨_,rfl, .box rfl lz⟩,rfl⟩,⟨rfl,⟨_,rfl, .rowE rfl⟩,rfl⟩,trivial⟩ tr rfl))
end

section
variable (M:Mk) (s:Ms) (dr se:Int)
theorem DF (ac st:aF) (k:Nat) (hk:k < 9):(Kq M s dr se ac st)[44+k]? =some (.v (.int .i64 (M.nm k))):=by
 rcases k with _ | _ | _ | _ | _ | _ | _ | _ | _ | k
 all_goals first | rfl | omega
theorem eS (j k:Nat) (h:j+k < s.stack.length):({ s with stack:=s.pop k }:Ms).top j=s.top (j+k):=by
 unfold Ms.top Ms.pop
 simp only [List.length_take]
 rw [List.getD_eq_getElem?_getD,List.getD_eq_getElem?_getD,List.getElem?_take_of_lt ab]
 congr 2;omega
theorem eR (j k:Nat):({ s with stack:=s.pop k }:Ms).pop j=s.pop (j+k):=by
 unfold Ms.pop
 simp only [List.length_take,List.take_take]
 congr 1;omega
theorem yg (k:Nat) (hk:k < 9) (hs:s.stack.length≤90000):
  Spec Tryz.prog 133 (bc [.ptr (0,9) 0, .v (.int .i64 (k:Int))] (kZ M s dr se)) (bj (.tup []) (kL M { s with stack:=s.stack++[mo (M.nm k)] } dr se (2,8) (3,8) (5,8)) [(0,9),(1,9),(2,8),(3,8),(4,9),(5,8)] [(0,9),(1,9),(4,9)]):=by
 refine Spec.ofNI Tryz.func133 rfl Tryz.ntmps133 rfl ?_
 refine an (bh rfl (bh rfl (aS rfl (ai (aN _ rfl rfl) (bv rfl rfl rfl (bv rfl rfl rfl (ai (eg _ _ aa rfl rfl rfl k rfl ab (by exact congrArg (fun z=> 0+43+1+z) (Nat.mul_one k))) ?_)))))))
 refine ai (aL _ aa rfl rfl (by exact (congrArg (fun z=> (Kq M s dr se (2,9) (3,9))[z]?) ab).trans (DF M s dr se (2,9) (3,9) k hk))) ?_
 refine cD (Le.incT (12,0) rfl) ?_
 refine ai (bp aa [((3,8),(12,0))] ar (ea M s dr se (M.nm k) ab) ob tr tr rfl ae ae) ?_
 exact az (eQ (.inl rfl) rfl (Le.outI [((2,8),(2,9)),((3,8),(12,0)),((5,8),(5,9))] [] (.tup rfl bn) rfl rfl rfl trivial ob tr rfl))
theorem AE (n:Nat) (hs:s.stack.length≤90000) (h0:0 < s.stack.length) (hc:s.top 0=0):
  Spec Tryz.prog 148 (bc [.ptr (0,9) 0, .v (.int .i64 (n:Int))] (kZ M s dr se)) (bj (.tup []) (kL M { s with stack:=s.pop 1,pc:=n } dr se (2,8) (3,8) (5,8)) [(0,9),(1,9),(2,8),(3,8),(4,9),(5,8)] [(0,9),(1,9),(4,9)]):=by
 refine Spec.ofNI Tryz.func148 rfl Tryz.ntmps148 rfl ?_
 refine am (bh rfl (cD (Le.incT (5,0) rfl) ?_))
 refine ai (bp aa [((3,8),(5,0))] ar (bY M s dr se ab h0) ob tr tr rfl ae ae) ?_
 refine ai (bT _ _ rfl rfl rfl) (aj (bF rfl (decide_eq_true hc) ?_))
 exact an (bh rfl (aS rfl (ai (aN _ rfl rfl) (bv rfl rfl rfl (bL rfl rfl rfl rfl rfl rfl (az (eQ (.inl rfl) rfl (Le.outI [((2,8),(2,9)),((3,8),(5,0)),((5,8),(5,9))] [] (.tup rfl bn) rfl rfl rfl trivial ob tr rfl))))))))
theorem AR (n:Int) (hs:s.stack.length≤90000) (h0:0 < s.stack.length) (hc:s.top 0=0):
  Spec Tryz.prog 146 (bc [.ptr (0,9) 0, .v (.int .i64 n)] (kZ M s dr se)) (bj (.tup []) (kL M { s with stack:=s.pop 1++[1] } dr se (2,8) (3,8) (5,8)) [(0,9),(1,9),(2,8),(3,8),(4,9),(5,8)] [(0,9),(1,9),(4,9)]):=by
 rw [show (1:Int)=mo 1 from ah]
 refine Spec.ofNI Tryz.func146 rfl Tryz.ntmps146 rfl ?_
 refine am (bh rfl (cD (Le.incT (5,0) rfl) ?_))
 refine ai (bp aa [((3,8),(5,0))] ar (bY M s dr se ab h0) ob tr tr rfl ae ae) ?_
 refine ai (bT _ _ rfl rfl rfl) (aj (bF rfl (decide_eq_true hc) ?_))
 refine an (bh rfl (cD (Le.incT (8,0) rfl) ?_))
 refine ai (bp aa [((3,9),(5,0)),((3,8),(8,0))] ar (ea M { s with stack:=s.pop 1 } dr se 1 (by have:=ct s 1;simp only;omega)) ob tr tr rfl ae ae) ?_
 exact az (eQ (.inl rfl) rfl (Le.outI [((2,8),(2,9)),((3,8),(8,0)),((5,8),(5,9))] [] (.tup rfl bn) rfl rfl rfl trivial ob tr rfl))
theorem Aa (n:Nat) (hs:s.stack.length≤90000) (h0:0 < s.stack.length) (hc:s.top 0≠0):
  Spec Tryz.prog 148 (bc [.ptr (0,9) 0, .v (.int .i64 (n:Int))] (kZ M s dr se)) (bj (.tup []) (kL M { s with stack:=s.pop 1 } dr se (2,8) (3,8) (5,8)) [(0,9),(1,9),(2,8),(3,8),(4,9),(5,8)] [(0,9),(1,9),(4,9)]):=by
 refine Spec.ofNI Tryz.func148 rfl Tryz.ntmps148 rfl ?_
 refine am (bh rfl (cD (Le.incT (5,0) rfl) ?_))
 refine ai (bp aa [((3,8),(5,0))] ar (bY M s dr se ab h0) ob tr tr rfl ae ae) ?_
 refine ai (bT _ _ rfl rfl rfl) (aj (aR rfl (decide_eq_false hc) ?_))
 exact bz (eQ (.inl rfl) rfl (Le.outI [((2,8),(2,9)),((3,8),(5,0)),((5,8),(5,9))] [] (.tup rfl bn) rfl rfl rfl trivial ob tr rfl))
theorem zV (n:Int) (hs:s.stack.length≤90000) (h0:0 < s.stack.length) (hc:s.top 0≠0):
  Spec Tryz.prog 146 (bc [.ptr (0,9) 0, .v (.int .i64 n)] (kZ M s dr se)) (bj (.tup []) (kL M { s with stack:=s.pop 1++[0] } dr se (2,8) (3,8) (5,8)) [(0,9),(1,9),(2,8),(3,8),(4,9),(5,8)] [(0,9),(1,9),(4,9)]):=by
 rw [show (0:Int)=mo 0 from ah]
 refine Spec.ofNI Tryz.func146 rfl Tryz.ntmps146 rfl ?_
 refine am (bh rfl (cD (Le.incT (5,0) rfl) ?_))
 refine ai (bp aa [((3,8),(5,0))] ar (bY M s dr se ab h0) ob tr tr rfl ae ae) ?_
 refine ai (bT _ _ rfl rfl rfl) (aj (aR rfl (decide_eq_false hc) ?_))
 refine an (bh rfl (cD (Le.incT (10,0) rfl) ?_))
 refine ai (bp aa [((3,9),(5,0)),((3,8),(10,0))] ar (ea M { s with stack:=s.pop 1 } dr se 0 (by have:=ct s 1;simp only;omega)) ob tr tr rfl ae ae) ?_
 exact az (eQ (.inl rfl) rfl (Le.outI [((2,8),(2,9)),((3,8),(10,0)),((5,8),(5,9))] [] (.tup rfl bn) rfl rfl rfl trivial ob tr rfl))
theorem zj (n:Int) (hs:s.stack.length≤90000) (ha:s.acts.length≤90000) (h2:2≤s.stack.length):
  Spec Tryz.prog 153 (bc [.ptr (0,9) 0, .v (.int .i64 n)] (kZ M s dr se)) (bj (.tup []) (kL M { s with stack:=s.pop 2,acts:=s.acts++[{ k:=6,a:=s.top 1,b:=s.top 0 }] } dr se (2,8) (3,8) (5,8)) [(0,9),(1,9),(2,8),(3,8),(4,9),(5,8)] [(0,9),(1,9),(4,9)]):=by
 have h2x:=bY M { s with stack:=s.pop 1 } dr se (by have:=ct s 1;simp only;omega) (by have:=ct s 1;simp only;omega)
 rw [eS s 0 1 ab,eR] at h2x
 refine Spec.ofNI Tryz.func153 rfl Tryz.ntmps153 rfl ?_
 refine am (bh rfl (cD (Le.incT (6,0) rfl) ?_))
 refine ai (bp aa [((3,8),(6,0))] ar (bY M s dr se ab ab) ob tr tr rfl ae ae) ?_
 refine aZ rfl (aj (an (bh rfl (bh rfl (cD (Le.incT (9,0) rfl) ?_)))))
 refine ai (bp aa [((3,9),(6,0)),((3,8),(9,0))] ar (h2x) ob tr tr rfl ae ae) ?_
 refine aS rfl (cD (Le.incT (11,0) rfl) ?_)
 refine ai (bp aa [((3,9),(9,0)),((2,8),(11,0))] ar (fC M { s with stack:=s.pop 2 } dr se 6 (s.top 1) (s.top 0) 0 0 (by simp only;omega)) ob tr tr rfl ae ae) ?_
 exact az (eQ (.inl rfl) rfl (Le.outI [((2,8),(11,0)),((3,8),(9,0)),((5,8),(5,9))] [] (.tup rfl bn) rfl rfl rfl trivial ob tr rfl))
end

section
variable (M:Mk) (s:Ms) (dr se:Int)
theorem Ab (n:Int) (hs:s.stack.length≤90000) (ha:s.acts.length≤90000) (h0:3≤s.stack.length) (hse: -100≤se) (h1:0≤s.top 2) (h2:s.top 2 < M.nm 1) (h3:se < 20):
  Spec Tryz.prog 149 (bc [.ptr (0,9) 0, .v (.int .i64 n)] (kZ M s dr se)) (bj (.tup []) (kL M { s with stack:=s.pop 3,acts:=s.acts++[{ k:=3,a:=s.top 2,b:=n,c:=s.top 1,d:=s.top 0 }] } dr (se+1) (2,8) (3,8) (5,8)) [(0,9),(1,9),(2,8),(3,8),(4,9),(5,8)] [(0,9),(1,9),(4,9)]):=by
 have h2x:=bY M { s with stack:=s.pop 1 } dr se (by have:=ct s 1;simp only;omega) (by have:=ct s 1;simp only;omega)
 rw [eS s 0 1 ab,eR,Nat.zero_add] at h2x
 have h3x:=bY M { s with stack:=s.pop 2 } dr se (by have:=ct s 2;simp only;omega) (by have:=ct s 2;simp only;omega)
 rw [eS s 0 2 ab,eR,Nat.zero_add] at h3x
 refine Spec.ofNI Tryz.func149 rfl Tryz.ntmps149 rfl ?_
 refine am (bh rfl (cD (Le.incT (8,0) rfl) ?_))
 refine ai (bp aa [((3,8),(8,0))] ar (bY M s dr se ab ab) ob tr tr rfl ae ae) ?_
 refine bh rfl (cD (Le.incT (10,0) rfl) ?_)
 refine ai (bp aa [((3,9),(8,0)),((3,8),(10,0))] ar (h2x) ob tr tr rfl ae ae) ?_
 refine bh rfl (cD (Le.incT (12,0) rfl) ?_)
 refine ai (bp aa [((3,9),(10,0)),((3,8),(12,0))] ar (h3x) ob tr tr rfl ae ae) ?_
 refine aZ rfl (aZ rfl (aZ rfl (aj (am (aS rfl (ai (fc (r:=true) _ _ rfl rfl (decide_eq_true ab)) ?_))))))
 refine cP rfl (aA rfl rfl (aE _ (rfl:_=AV.v (.int _ _))) (aA rfl rfl (aE _ (rfl:_=AV.ptr _ _)) (aA rfl rfl (aN _ rfl rfl) (aA rfl rfl (aI _ aa rfl rfl rfl) (aA rfl rfl (aI _ aa rfl rfl rfl) (aA rfl rfl (eg _ _ aa rfl rfl rfl 1 rfl ab ag) ?_))))))
 refine aA rfl rfl (aL _ aa rfl rfl (rfl:_=some (AV.v (.int _ _)))) (aA rfl rfl (bq (r:=true) _ _ rfl rfl (decide_eq_true ab)) ?_)
 refine ai (aH _ _ _ rfl (rfl:_=AV.v (.bool _))) (cP rfl (aA rfl rfl (aE _ (rfl:_=AV.ptr _ _)) (aA rfl rfl (aN _ rfl rfl) (aA rfl rfl (aI _ aa rfl rfl rfl) (aA rfl rfl (aL _ aa rfl rfl (rfl:_=some (AV.v (.int _ _)))) (aA rfl rfl (bq (r:=true) _ _ rfl rfl (decide_eq_true ab)) ?_))))))
 refine ai (aH _ _ _ rfl (rfl:_=AV.v (.bool _))) (aj (bF rfl rfl (aq ?_)))
 refine aO (σ':=aB 45 [(0,_),(1,_),(4,_),(5,_),(6,_)] [((0,9),_),((1,9),_),((2,9),_),((4,9),_),((5,9),_),((12,0),_)] [(0,9),(1,9),(2,9),(4,9),(5,9),(12,0)] [(0,9),(1,9),(4,9)]) kp ?_
 refine an (bh rfl (ai (aN _ rfl rfl) (bv rfl rfl rfl (cG rfl rfl rfl (ai (be (r:=se+1) _ _ rfl rfl (br ab)) ?_)))))
 refine ai (aN _ rfl rfl) (bv rfl rfl rfl (bL rfl rfl rfl rfl rfl rfl (aj (an (bh rfl (aS rfl (aS rfl (aS rfl (aS rfl (cD (Le.incT (44,0) rfl) ?_))))))))))
 refine ai (bp aa [((3,9),(12,0)),((2,8),(44,0))] ar (fC M { s with stack:=s.pop 3 } dr (se+1) 3 (s.top 2) n (s.top 1) (s.top 0) (by simp only;omega)) ob tr tr rfl ae ae) ?_
 exact az (eQ (.inl rfl) rfl (Le.outI [((2,8),(44,0)),((3,8),(12,0)),((5,8),(5,9))] [] (.tup rfl bn) rfl rfl rfl trivial ob tr rfl))
theorem xp (n:Int) (hs:s.stack.length≤90000) (ha:s.acts.length≤90000) (h0:3≤s.stack.length) (hse: -100≤se) (h1:s.top 2 < 0):
  Spec Tryz.prog 149 (bc [.ptr (0,9) 0, .v (.int .i64 n)] (kZ M s dr se)) (bj (.tup []) (kL M { s with stack:=s.pop 3 } dr se (2,8) (3,8) (5,8)) [(0,9),(1,9),(2,8),(3,8),(4,9),(5,8)] [(0,9),(1,9),(4,9)]):=by
 have h2x:=bY M { s with stack:=s.pop 1 } dr se (by have:=ct s 1;simp only;omega) (by have:=ct s 1;simp only;omega)
 rw [eS s 0 1 ab,eR,Nat.zero_add] at h2x
 have h3x:=bY M { s with stack:=s.pop 2 } dr se (by have:=ct s 2;simp only;omega) (by have:=ct s 2;simp only;omega)
 rw [eS s 0 2 ab,eR,Nat.zero_add] at h3x
 refine Spec.ofNI Tryz.func149 rfl Tryz.ntmps149 rfl ?_
 refine am (bh rfl (cD (Le.incT (8,0) rfl) ?_))
 refine ai (bp aa [((3,8),(8,0))] ar (bY M s dr se ab ab) ob tr tr rfl ae ae) ?_
 refine bh rfl (cD (Le.incT (10,0) rfl) ?_)
 refine ai (bp aa [((3,9),(8,0)),((3,8),(10,0))] ar (h2x) ob tr tr rfl ae ae) ?_
 refine bh rfl (cD (Le.incT (12,0) rfl) ?_)
 refine ai (bp aa [((3,9),(10,0)),((3,8),(12,0))] ar (h3x) ob tr tr rfl ae ae) ?_
 refine aZ rfl (aZ rfl (aZ rfl (aj (am (aS rfl (ai (fc (r:=false) _ _ rfl rfl (decide_eq_false ab)) ?_))))))
 refine cP rfl (aU rfl rfl ah ?_)
 refine aU rfl rfl ah ?_
 refine aU rfl rfl ah ?_
 refine aU rfl rfl ah ?_
 refine aU rfl rfl ah ?_
 refine aU rfl rfl ah ?_
 refine aU rfl rfl ah ?_
 refine aU rfl rfl ah ?_
 refine ai (aH _ _ _ rfl (rfl:_=AV.v (.bool _))) (cP rfl (aU rfl rfl ah ?_))
 refine aU rfl rfl ah ?_
 refine aU rfl rfl ah ?_
 refine aU rfl rfl ah ?_
 refine aU rfl rfl ah ?_
 exact ai (aH _ _ _ rfl (rfl:_=AV.v (.bool _))) (aj (aR rfl rfl (bz (eQ (.inl rfl) rfl (Le.outI [((2,8),(2,9)),((3,8),(12,0)),((5,8),(5,9))] [] (.tup rfl bn) rfl rfl rfl trivial ob tr rfl)))))
theorem wN (n:Int) (hs:s.stack.length≤90000) (ha:s.acts.length≤90000) (h0:3≤s.stack.length) (hse: -100≤se) (h1:0≤s.top 2) (h2:M.nm 1≤s.top 2):
  Spec Tryz.prog 149 (bc [.ptr (0,9) 0, .v (.int .i64 n)] (kZ M s dr se)) (bj (.tup []) (kL M { s with stack:=s.pop 3 } dr se (2,8) (3,8) (5,8)) [(0,9),(1,9),(2,8),(3,8),(4,9),(5,8)] [(0,9),(1,9),(4,9)]):=by
 have h2x:=bY M { s with stack:=s.pop 1 } dr se (by have:=ct s 1;simp only;omega) (by have:=ct s 1;simp only;omega)
 rw [eS s 0 1 ab,eR,Nat.zero_add] at h2x
 have h3x:=bY M { s with stack:=s.pop 2 } dr se (by have:=ct s 2;simp only;omega) (by have:=ct s 2;simp only;omega)
 rw [eS s 0 2 ab,eR,Nat.zero_add] at h3x
 refine Spec.ofNI Tryz.func149 rfl Tryz.ntmps149 rfl ?_
 refine am (bh rfl (cD (Le.incT (8,0) rfl) ?_))
 refine ai (bp aa [((3,8),(8,0))] ar (bY M s dr se ab ab) ob tr tr rfl ae ae) ?_
 refine bh rfl (cD (Le.incT (10,0) rfl) ?_)
 refine ai (bp aa [((3,9),(8,0)),((3,8),(10,0))] ar (h2x) ob tr tr rfl ae ae) ?_
 refine bh rfl (cD (Le.incT (12,0) rfl) ?_)
 refine ai (bp aa [((3,9),(10,0)),((3,8),(12,0))] ar (h3x) ob tr tr rfl ae ae) ?_
 refine aZ rfl (aZ rfl (aZ rfl (aj (am (aS rfl (ai (fc (r:=true) _ _ rfl rfl (decide_eq_true ab)) ?_))))))
 refine cP rfl (aA rfl rfl (aE _ (rfl:_=AV.v (.int _ _))) (aA rfl rfl (aE _ (rfl:_=AV.ptr _ _)) (aA rfl rfl (aN _ rfl rfl) (aA rfl rfl (aI _ aa rfl rfl rfl) (aA rfl rfl (aI _ aa rfl rfl rfl) (aA rfl rfl (eg _ _ aa rfl rfl rfl 1 rfl ab ag) ?_))))))
 refine aA rfl rfl (aL _ aa rfl rfl (rfl:_=some (AV.v (.int _ _)))) (aA rfl rfl (bq (r:=false) _ _ rfl rfl (decide_eq_false ab)) ?_)
 refine ai (aH _ _ _ rfl (rfl:_=AV.v (.bool _))) (cP rfl (aU rfl rfl ah ?_))
 refine aU rfl rfl ah ?_
 refine aU rfl rfl ah ?_
 refine aU rfl rfl ah ?_
 refine aU rfl rfl ah ?_
 exact ai (aH _ _ _ rfl (rfl:_=AV.v (.bool _))) (aj (aR rfl rfl (bz (eQ (.inl rfl) rfl (Le.outI [((2,8),(2,9)),((3,8),(12,0)),((5,8),(5,9))] [] (.tup rfl bn) rfl rfl rfl trivial ob tr rfl)))))
theorem xG (n:Int) (hs:s.stack.length≤90000) (ha:s.acts.length≤90000) (h0:3≤s.stack.length) (hse: -100≤se) (h1:0≤s.top 2) (h2:s.top 2 < M.nm 1) (h3:20≤se):
  Spec Tryz.prog 149 (bc [.ptr (0,9) 0, .v (.int .i64 n)] (kZ M s dr se)) (bj (.tup []) (kL M { s with stack:=s.pop 3 } dr se (2,8) (3,8) (5,8)) [(0,9),(1,9),(2,8),(3,8),(4,9),(5,8)] [(0,9),(1,9),(4,9)]):=by
 have h2x:=bY M { s with stack:=s.pop 1 } dr se (by have:=ct s 1;simp only;omega) (by have:=ct s 1;simp only;omega)
 rw [eS s 0 1 ab,eR,Nat.zero_add] at h2x
 have h3x:=bY M { s with stack:=s.pop 2 } dr se (by have:=ct s 2;simp only;omega) (by have:=ct s 2;simp only;omega)
 rw [eS s 0 2 ab,eR,Nat.zero_add] at h3x
 refine Spec.ofNI Tryz.func149 rfl Tryz.ntmps149 rfl ?_
 refine am (bh rfl (cD (Le.incT (8,0) rfl) ?_))
 refine ai (bp aa [((3,8),(8,0))] ar (bY M s dr se ab ab) ob tr tr rfl ae ae) ?_
 refine bh rfl (cD (Le.incT (10,0) rfl) ?_)
 refine ai (bp aa [((3,9),(8,0)),((3,8),(10,0))] ar (h2x) ob tr tr rfl ae ae) ?_
 refine bh rfl (cD (Le.incT (12,0) rfl) ?_)
 refine ai (bp aa [((3,9),(10,0)),((3,8),(12,0))] ar (h3x) ob tr tr rfl ae ae) ?_
 refine aZ rfl (aZ rfl (aZ rfl (aj (am (aS rfl (ai (fc (r:=true) _ _ rfl rfl (decide_eq_true ab)) ?_))))))
 refine cP rfl (aA rfl rfl (aE _ (rfl:_=AV.v (.int _ _))) (aA rfl rfl (aE _ (rfl:_=AV.ptr _ _)) (aA rfl rfl (aN _ rfl rfl) (aA rfl rfl (aI _ aa rfl rfl rfl) (aA rfl rfl (aI _ aa rfl rfl rfl) (aA rfl rfl (eg _ _ aa rfl rfl rfl 1 rfl ab ag) ?_))))))
 refine aA rfl rfl (aL _ aa rfl rfl (rfl:_=some (AV.v (.int _ _)))) (aA rfl rfl (bq (r:=true) _ _ rfl rfl (decide_eq_true ab)) ?_)
 refine ai (aH _ _ _ rfl (rfl:_=AV.v (.bool _))) (cP rfl (aA rfl rfl (aE _ (rfl:_=AV.ptr _ _)) (aA rfl rfl (aN _ rfl rfl) (aA rfl rfl (aI _ aa rfl rfl rfl) (aA rfl rfl (aL _ aa rfl rfl (rfl:_=some (AV.v (.int _ _)))) (aA rfl rfl (bq (r:=false) _ _ rfl rfl (decide_eq_false ab)) ?_))))))
 exact ai (aH _ _ _ rfl (rfl:_=AV.v (.bool _))) (aj (aR rfl rfl (bz (eQ (.inl rfl) rfl (Le.outI [((2,8),(2,9)),((3,8),(12,0)),((5,8),(5,9))] [] (.tup rfl bn) rfl rfl rfl trivial ob tr rfl)))))
abbrev uB (ans asked:List Int) (ak:aF):List (aF×Cells):=[((4,9), .box 129 [.sl ans.length (cR ans), .ref ak 0 asked.length, .v (.bool true)]),(ak, .row 3 1 (cR asked))]
theorem DM (ans asked:List Int) (k:Int) (hl:asked.length≤90000) (hi:asked.length < ans.length) (hn:ans.length≤4611686018427387904):
  Spec Tryz.prog 60 (bc [.ptr (4,9) 0, .v (.int .i64 (asked.length:Int)), .v (.int .i64 k)] (uB ans asked (5,9))) (bj (.v (.int .i64 (ans.getD asked.length 0))) (uB ans (asked++[k]) (5,8)) [(4,9),(5,8)] [(4,9)]):=by
 have hl1:(asked++[k]).length=asked.length+1:=by simp
 refine Spec.ofNI Tryz.func60 rfl Tryz.ntmps60 rfl ?_
 refine am (aZ rfl (aj (aq (am (aS rfl (bh rfl (ai (aN _ rfl rfl) (bv rfl rfl rfl (ai (aL _ aa rfl rfl (rfl:_=some (AV.ref _ _ _))) (ai (dv _ aa rfl rfl) ?_))))))))))
 refine ai (cb (r:=false) _ _ rfl rfl (by simp)) ?_
 refine aj (aR rfl rfl (aJ (am (bh rfl (bh rfl (ai (aN _ rfl rfl) (bv rfl rfl rfl (ai (aL _ aa rfl rfl (rfl:_=some (AV.ref _ _ _))) (aS rfl (ai (aX _ _ aa rfl ag (by (simp <;> rfl)) ah rfl) ?_))))))))))
 refine cD (Le.incT (24,0) rfl) ?_
 refine ai (nF (b:=true) (24,0) _ _ aa rfl rfl (by simp) (.sl rfl) ab rfl rfl rfl (lB _ k) hl1.symm) ?_
 refine ai (aN _ rfl rfl) (bv rfl rfl rfl (bL rfl rfl rfl rfl rfl rfl (aj (aq (aq ?_)))))
 refine aO (σ':=aB 45 [(0,_),(1,_)] [((4,9),_),((24,0),_)] [(4,9),(24,0)] [(4,9)]) kp ?_
 refine an (aS rfl (ai (bq (r:=false) _ _ rfl rfl (decide_eq_false ab)) ?_))
 refine cP rfl (aA rfl rfl (aE _ (rfl:_=AV.v (.int _ _))) (aA rfl rfl (aE _ (rfl:_=AV.ptr _ _)) (aA rfl rfl (aN _ rfl rfl) (aA rfl rfl (aI _ aa rfl rfl rfl) (aA rfl rfl (aL _ aa rfl rfl (rfl:_=some (AV.sl _ _))) (aA rfl rfl (bH _ aa rfl) (aA rfl rfl (fc (r:=false) _ _ rfl rfl (decide_eq_false ab)) ?_)))))))
 refine ai (aH _ _ _ rfl (rfl:_=AV.v (.bool _))) (aj (aR rfl rfl (aJ (am (bh rfl (ai (aN _ rfl rfl) (bv rfl rfl rfl (fG rfl rfl rfl (aS rfl (ai (bg _ _ aa rfl rfl _ rfl ab (by (simp only [ba,bo,bm,ba,bQ,gN];omega)) (by exact Nat.mul_one _)) ?_))))))))))
 refine ai (bG _ aa rfl (by exact dY _ _ ab) rfl) ?_
 exact aZ rfl (aj (aD (aY (.inr rfl) rfl (.tmp (rfl:_=AV.v _)) (Le.outI [((5,8),(24,0))] [] .v rfl rfl rfl trivial ob tr rfl))))
theorem zR (ans asked:List Int) (k:Int) (hl:asked.length≤90000) (hi:ans.length≤asked.length) (hn:ans.length≤4611686018427387904):
  Spec Tryz.prog 60 (bc [.ptr (4,9) 0, .v (.int .i64 (asked.length:Int)), .v (.int .i64 k)] (uB ans asked (5,9))) (bj (.v (.int .i64 (0))) (uB ans (asked++[k]) (5,8)) [(4,9),(5,8)] [(4,9)]):=by
 have hl1:(asked++[k]).length=asked.length+1:=by simp
 refine Spec.ofNI Tryz.func60 rfl Tryz.ntmps60 rfl ?_
 refine am (aZ rfl (aj (aq (am (aS rfl (bh rfl (ai (aN _ rfl rfl) (bv rfl rfl rfl (ai (aL _ aa rfl rfl (rfl:_=some (AV.ref _ _ _))) (ai (dv _ aa rfl rfl) ?_))))))))))
 refine ai (cb (r:=false) _ _ rfl rfl (by simp)) ?_
 refine aj (aR rfl rfl (aJ (am (bh rfl (bh rfl (ai (aN _ rfl rfl) (bv rfl rfl rfl (ai (aL _ aa rfl rfl (rfl:_=some (AV.ref _ _ _))) (aS rfl (ai (aX _ _ aa rfl ag (by (simp <;> rfl)) ah rfl) ?_))))))))))
 refine cD (Le.incT (24,0) rfl) ?_
 refine ai (nF (b:=true) (24,0) _ _ aa rfl rfl (by simp) (.sl rfl) ab rfl rfl rfl (lB _ k) hl1.symm) ?_
 refine ai (aN _ rfl rfl) (bv rfl rfl rfl (bL rfl rfl rfl rfl rfl rfl (aj (aq (aq ?_)))))
 refine aO (σ':=aB 45 [(0,_),(1,_)] [((4,9),_),((24,0),_)] [(4,9),(24,0)] [(4,9)]) kp ?_
 refine an (aS rfl (ai (bq (r:=false) _ _ rfl rfl (decide_eq_false ab)) ?_))
 refine cP rfl (aA rfl rfl (aE _ (rfl:_=AV.v (.int _ _))) (aA rfl rfl (aE _ (rfl:_=AV.ptr _ _)) (aA rfl rfl (aN _ rfl rfl) (aA rfl rfl (aI _ aa rfl rfl rfl) (aA rfl rfl (aL _ aa rfl rfl (rfl:_=some (AV.sl _ _))) (aA rfl rfl (bH _ aa rfl) (aA rfl rfl (fc (r:=true) _ _ rfl rfl (decide_eq_true ab)) ?_)))))))
 exact ai (aH _ _ _ rfl (rfl:_=AV.v (.bool _))) (aj (bF rfl rfl (am (aZ rfl (aj (aD (aY (.inr rfl) rfl (.tmp (rfl:_=AV.v _)) (Le.outI [((5,8),(24,0))] [] .v rfl rfl rfl trivial ob tr rfl))))))))
theorem xA (ans asked:List Int) (k:Int) (hl:asked.length≤90000) (hn:ans.length≤4611686018427387904):
  Spec Tryz.prog 60 (bc [.ptr (4,9) 0, .v (.int .i64 (asked.length:Int)), .v (.int .i64 k)] (uB ans asked (5,9))) (bj (.v (.int .i64 (ans.getD asked.length 0))) (uB ans (asked++[k]) (5,8)) [(4,9),(5,8)] [(4,9)]):=by
 by_cases hi:asked.length < ans.length
 ·exact DM ans asked k hl hi hn
 ·have h:=zR ans asked k hl ab hn
  rw [List.getD_eq_getElem?_getD,List.getElem?_eq_none ab];exact h
end

theorem FY (v k:Int) (hk:1≤k): -k < v.tmod k∧v.tmod k < k∧(v.tmod k+k).tmod k=v % k:=by
 have h1:v.tmod k < k:=Int.tmod_lt_of_pos v ab
 have h2: -k < v.tmod k:=by
  have:=Int.tmod_lt_of_pos (-v) (show 0 < k by omega)
  rw [Int.neg_tmod] at this;omega
 refine ⟨h2,h1,?_⟩
 rw [Int.tmod_eq_emod_of_nonneg ab,Int.add_emod_right,Int.tmod_def,Int.sub_mul_emod_self_left]
section
variable (M:Mk) (s:Ms) (dr se:Int)
theorem Cw (hs:s.stack.length≤90000) (h0:0 < s.stack.length) (hk:max 1 (min (s.top 0) 4)=1):
  Spec Tryz.prog 135 (bc [.ptr (0,9) 0] (kZ M s (s.asked.length:Int) se)) (bj (.v (.int .i64 0)) (kL M { s with stack:=s.pop 1 } (s.asked.length:Int) se (2,9) (3,8) (5,8)) [(0,9),(1,9),(2,9),(3,8),(4,9),(5,8)] [(0,9),(1,9),(2,9),(4,9)]):=by
 have hc:=lf (s.top 0) 1 4
 rw [hk] at hc
 refine Spec.ofNI Tryz.func135 rfl Tryz.ntmps135 rfl ?_
 refine am (aZ rfl (aj (am (bh rfl (cD (Le.incT (6,0) rfl) ?_)))))
 refine ai (bp aa [((3,8),(6,0))] ar (bY M s (s.asked.length:Int) se ab h0) ob tr tr rfl ae ae) ?_
 refine ai (aM aa al (hc) rfl rfl) ?_
 refine aZ rfl (aj (aq (am (aS rfl (iY rfl rfl rfl (aj (bF rfl rfl (am (aZ rfl (aj ?_))))))))))
 exact aD (aY (.inr rfl) rfl (.tmp (rfl:_=AV.v _)) (Le.outI [((3,8),(6,0)),((5,8),(5,9))] [] .v rfl rfl rfl trivial ob tr rfl))
theorem Dr (hs:s.stack.length≤90000) (h0:0 < s.stack.length) (hq:s.asked.length≤90000) (hn:M.ans.length≤4611686018427387904) {k:Int} (hk:max 1 (min (s.top 0) 4)=k) (hk1:k≠1):
  Spec Tryz.prog 135 (bc [.ptr (0,9) 0] (kZ M s (s.asked.length:Int) se)) (bj (.v (.int .i64 (my M.ans s.asked.length k))) (kL M { s with stack:=s.pop 1,asked:=s.asked++[k] } ((s.asked++[k]).length:Int) se (2,9) (3,8) (5,8)) [(0,9),(1,9),(2,9),(3,8),(4,9),(5,8)] [(0,9),(1,9),(2,9),(4,9)]):=by
 have hk2:1≤k∧k≤4:=by omega
 have hc:=lf (s.top 0) 1 4
 rw [hk] at hc
 have hask:=xA M.ans s.asked k hq hn
 have htm:=FY (M.ans.getD s.asked.length 0) k hk2.1
 refine Spec.ofNI Tryz.func135 rfl Tryz.ntmps135 rfl ?_
 refine am (aZ rfl (aj (am (bh rfl (cD (Le.incT (6,0) rfl) ?_)))))
 refine ai (bp aa [((3,8),(6,0))] ar (bY M s (s.asked.length:Int) se ab h0) ob tr tr rfl ae ae) ?_
 refine ai (aM aa al (hc) rfl rfl) ?_
 refine aZ rfl (aj (aq (am (aS rfl (eJ rfl rfl (beq_eq_false_iff_ne.2 hk1) ?_)))))
 refine aj (aR rfl rfl (aJ (aG fun K5 hK5=> ?_)))
 refine aO (Le.incT (19,0) rfl) ?_
 refine bE 13 [10,11,12,13,14,15,16,17,18,19,20,21,4] [(4,9),(19,0),(5,9)] ae ae rfl (aK rfl) (rfl:_=[_,_,_,_,_,_,_,_,_,_,_,_,_]) (rfl:_=[]) ?_
 refine ap (_,[]) (fun τ=> aE _ (rfl:_=AV.ptr _ _)) ?_
 refine eE rfl ?_
 refine ap (_,[]) (fun τ=> aN _ rfl rfl) ?_
 refine eF rfl ?_
 refine ap (_,[]) (fun τ=> aI _ aa rfl rfl rfl) ?_
 refine eD rfl ?_
 refine ap (_,[]) (fun τ=> aL _ aa rfl rfl (rfl:_=some (AV.fn _ _ _))) ?_
 refine eI rfl ?_
 refine ap (_,[]) (fun τ=> aE _ (rfl:_=AV.ptr _ _)) ?_
 refine eU rfl ?_
 refine ap (_,[]) (fun τ=> aN _ rfl rfl) ?_
 refine fh rfl ?_
 refine ap (_,[]) (fun τ=> aI _ aa rfl rfl rfl) ?_
 refine fZ rfl ?_
 refine ap (_,[]) (fun τ=> aL _ aa rfl rfl (rfl:_=some (AV.v (.int _ _)))) ?_
 refine jz rfl ?_
 refine ap (_,[]) (fun τ=> aE _ (rfl:_=AV.v (.int _ _))) ?_
 refine jC rfl ?_
 refine ap (_,[((4,9),_),((19,0),_),((5,9), .gone)]) (fun τ=> (kR rfl aa [((5,8),(19,0))] ar (hask) ob tr tr rfl ae ae)) ?_
 refine fK rfl ?_
 refine ap (_,[]) (fun τ=> aE _ (rfl:_=AV.v (.int _ _))) ?_
 refine gl rfl ?_
 refine ap (_,[]) (fun τ=> db _ _ rfl rfl ab rfl) ?_
 refine kP rfl ?_
 refine ap (_,[]) (fun τ=> bA _ (rfl:_=AV.v (.int _ _))) ?_
 refine lQ rfl (bi ⟨rfl,?_⟩)
 refine az (hK5 _ ?_)
 clear hK5;try clear K5
 refine aq ?_
 refine aO (σ':=aB 34 [(0,_),(3,_),(4,_)] [((0,9),_),((1,9),_),((2,9),_),((4,9),_),((6,0),_),((19,0),_)] [(0,9),(1,9),(2,9),(4,9),(6,0),(19,0)] [(0,9),(1,9),(2,9),(4,9)]) kp ?_
 refine an (bh rfl (ai (aN _ rfl rfl) (bv rfl rfl rfl (cG rfl rfl rfl (ai (be (r:=((s.asked++[k]).length:Int)) _ _ rfl rfl ((br ab).trans (by simp))) ?_)))))
 refine ai (aN _ rfl rfl) (bv rfl rfl rfl (bL rfl rfl rfl rfl rfl rfl (aj (am (aS rfl (aS rfl (ai (be (r:=(M.ans.getD s.asked.length 0).tmod k+k) _ _ rfl rfl (br ab)) ?_)))))))
 refine aS rfl (ai (db (r:=my M.ans s.asked.length k) _ _ rfl rfl ab htm.2.2) ?_)
 exact aZ rfl (aj (aD (aY (.inr rfl) rfl (.tmp (rfl:_=AV.v _)) (Le.outI [((3,8),(6,0)),((5,8),(19,0))] [] .v rfl rfl rfl trivial ob tr rfl))))
theorem pX (n:Int) (hs:s.stack.length≤90000) (h2:2≤s.stack.length) {g:FuncId} [ca Tryz.prog g] {r:Int} (hg:Spec Tryz.prog g (bk ([.v (.int .i64 (s.top 1)), .v (.int .i64 (s.top 0))]++[]) []) (aW (.v (.int .i64 r)) [])):
  Spec Tryz.prog 189 (bc [.ptr (0,9) 0, .v (.int .i64 n), .fp 0 [.fn (.func g) [] []]] (kZ M s dr se)) (bj (.tup []) (kL M { s with stack:=s.pop 2++[mo r] } dr se (2,8) (3,8) (5,8)) [(0,9),(1,9),(2,8),(3,8),(4,9),(5,8)] [(0,9),(1,9),(4,9)]):=by
 have h2x:=bY M { s with stack:=s.pop 1 } dr se (by have:=ct s 1;simp only;omega) (by have:=ct s 1;simp only;omega)
 rw [eS s 0 1 ab,eR,Nat.zero_add] at h2x
 refine Spec.ofNI Tryz.func189 rfl Tryz.ntmps189 rfl ?_
 refine am (bh rfl (cD (Le.incT (7,0) rfl) ?_))
 refine ai (bp aa [((3,8),(7,0))] ar (bY M s dr se ab ab) ob tr tr rfl ae ae) ?_
 refine aZ rfl (aj ?_)
 refine aO (Le.incT (11,0) rfl) ?_
 refine bE 6 [8,9,10,11,12,13] [(0,9),(1,9),(2,9),(11,0),(4,9),(5,9),(7,0)] ae ae rfl (aK rfl) (rfl:_=[_,_,_,_,_,_]) (rfl:_=[_]) ?_
 refine ap (_,[]) (fun τ=> aE _ (rfl:_=AV.ptr _ _)) ?_
 refine eE rfl ?_
 refine ap (_,[]) (fun τ=> bG _ aa rfl ag rfl) ?_
 refine eF rfl ?_
 refine ap (_,[]) (fun τ=> aE _ (rfl:_=AV.ptr _ _)) ?_
 refine eD rfl ?_
 refine ap (_,[((0,9),_),((1,9),_),((2,9),_),((11,0),_),((4,9),_),((5,9),_),((7,0), .gone)]) (fun τ=> (bp aa [((3,9),(7,0)),((3,8),(11,0))] ar (h2x) ob tr tr rfl ae ae)) ?_
 refine eI rfl ?_
 refine ap (_,[]) (fun τ=> aE _ (rfl:_=AV.v (.int _ _))) ?_
 refine eU rfl ?_
 refine ap (_,[]) (fun τ=> (kk rfl aa al (hg) rfl rfl)) ?_
 refine fh rfl (bi ⟨rfl,?_⟩)
 refine cD (Le.incT (14,0) rfl) ?_
 refine ai (bp aa [((3,9),(11,0)),((3,8),(14,0))] ar (ea M { s with stack:=s.pop 2 } dr se r (by have:=ct s 2;simp only;omega)) ob tr tr rfl ae ae) ?_
 exact az (eQ (.inl rfl) rfl (Le.outI [((2,8),(2,9)),((3,8),(14,0)),((5,8),(5,9))] [] (.tup rfl bn) rfl rfl rfl trivial ob tr rfl))
theorem sP (n:Int) (hs:s.stack.length≤90000) (h2:2≤s.stack.length) {g:FuncId} [ca Tryz.prog g] {f:FuncId} {r:Int} (hg:Spec Tryz.prog g (bk ([.v (.int .i64 (s.top 1)), .v (.int .i64 (s.top 0))]++[.fp 0 [.fn (.func f) [] []]]) []) (aW (.v (.int .i64 r)) [])):
  Spec Tryz.prog 189 (bc [.ptr (0,9) 0, .v (.int .i64 n), .fp 0 [.fn (.func g) [] [.ptr 0 [.fn (.func f) [] []]]]] (kZ M s dr se)) (bj (.tup []) (kL M { s with stack:=s.pop 2++[mo r] } dr se (2,8) (3,8) (5,8)) [(0,9),(1,9),(2,8),(3,8),(4,9),(5,8)] [(0,9),(1,9),(4,9)]):=by
 have h2x:=bY M { s with stack:=s.pop 1 } dr se (by have:=ct s 1;simp only;omega) (by have:=ct s 1;simp only;omega)
 rw [eS s 0 1 ab,eR,Nat.zero_add] at h2x
 refine Spec.ofNI Tryz.func189 rfl Tryz.ntmps189 rfl ?_
 refine am (bh rfl (cD (Le.incT (7,0) rfl) ?_))
 refine ai (bp aa [((3,8),(7,0))] ar (bY M s dr se ab ab) ob tr tr rfl ae ae) ?_
 refine aZ rfl (aj ?_)
 refine aO (Le.incT (11,0) rfl) ?_
 refine bE 6 [8,9,10,11,12,13] [(0,9),(1,9),(2,9),(11,0),(4,9),(5,9),(7,0)] ae ae rfl (aK rfl) (rfl:_=[_,_,_,_,_,_]) (rfl:_=[_]) ?_
 refine ap (_,[]) (fun τ=> aE _ (rfl:_=AV.ptr _ _)) ?_
 refine eE rfl ?_
 refine ap (_,[]) (fun τ=> bG _ aa rfl ag rfl) ?_
 refine eF rfl ?_
 refine ap (_,[]) (fun τ=> aE _ (rfl:_=AV.ptr _ _)) ?_
 refine eD rfl ?_
 refine ap (_,[((0,9),_),((1,9),_),((2,9),_),((11,0),_),((4,9),_),((5,9),_),((7,0), .gone)]) (fun τ=> (bp aa [((3,9),(7,0)),((3,8),(11,0))] ar (h2x) ob tr tr rfl ae ae)) ?_
 refine eI rfl ?_
 refine ap (_,[]) (fun τ=> aE _ (rfl:_=AV.v (.int _ _))) ?_
 refine eU rfl ?_
 refine ap (_,[]) (fun τ=> (kk rfl aa al (hg) rfl rfl)) ?_
 refine fh rfl (bi ⟨rfl,?_⟩)
 refine cD (Le.incT (14,0) rfl) ?_
 refine ai (bp aa [((3,9),(11,0)),((3,8),(14,0))] ar (ea M { s with stack:=s.pop 2 } dr se r (by have:=ct s 2;simp only;omega)) ob tr tr rfl ae ae) ?_
 exact az (eQ (.inl rfl) rfl (Le.outI [((2,8),(2,9)),((3,8),(14,0)),((5,8),(5,9))] [] (.tup rfl bn) rfl rfl rfl trivial ob tr rfl))
end

theorem CG {x y:Int} (hx:Rg x) (hy:Rg y): -9223372036854775808≤x*y∧x*y≤9223372036854775807:=by
 unfold Rg at hx hy
 have h1:(x*y).natAbs≤2147483647*2147483647:=by
  rw [Int.natAbs_mul]
  exact Nat.mul_le_mul ab ab
 omega
theorem Bs {x y:Int} (hx:Rg x): -2147483647≤x.tdiv y∧x.tdiv y≤2147483647:=by
 unfold Rg at hx
 have h1:(x.tdiv y).natAbs≤x.natAbs:=by
  rw [Int.natAbs_tdiv]
  exact Nat.div_le_self _ _
 omega
section
variable (M:Mk) (s:Ms) (dr se:Int)
theorem yC (n:Int) (hs:s.stack.length≤90000) (h0:0 < s.stack.length) (hk:max 1 (min (s.top 0) 4)=1):
  Spec Tryz.prog 134 (bc [.ptr (0,9) 0, .v (.int .i64 n)] (kZ M s (s.asked.length:Int) se)) (bj (.tup []) (kL M { s with stack:=s.pop 1++[0] } (s.asked.length:Int) se (2,8) (3,8) (5,8)) [(0,9),(1,9),(2,8),(3,8),(4,9),(5,8)] [(0,9),(1,9),(4,9)]):=by
 rw [show (0:Int)=mo 0 from ah]
 refine Spec.ofNI Tryz.func134 rfl Tryz.ntmps134 rfl ?_
 refine an (bh rfl (bh rfl (cD ((Le.incT (6,1) rfl).trans (Le.incT (6,0) rfl)) ?_)))
 refine ai (bp aa [((3,8),(6,0)),((5,8),(6,1))] ar (Cw M s se ab h0 hk) ob tr tr rfl ae ae) ?_
 refine cD (Le.incT (7,0) rfl) ?_
 refine ai (bp aa [((3,9),(6,0)),((5,9),(6,1)),((3,8),(7,0))] ar (ea M { s with stack:=s.pop 1 } (s.asked.length:Int) se 0 (by have:=ct s 1;simp only;omega)) ob tr tr rfl ae ae) ?_
 exact az (eQ (.inl rfl) rfl (Le.outI [((2,8),(2,9)),((3,8),(7,0)),((5,8),(6,1))] [] (.tup rfl bn) rfl rfl rfl trivial ob tr rfl))
theorem yJ (n:Int) (hs:s.stack.length≤90000) (h0:0 < s.stack.length) (hq:s.asked.length≤80000) (hn:M.ans.length≤4611686018427387904) {k:Int} (hk:max 1 (min (s.top 0) 4)=k) (hk1:k≠1):
  Spec Tryz.prog 134 (bc [.ptr (0,9) 0, .v (.int .i64 n)] (kZ M s (s.asked.length:Int) se)) (bj (.tup []) (kL M { s with stack:=s.pop 1++[my M.ans s.asked.length k],asked:=s.asked++[k] } ((s.asked++[k]).length:Int) se (2,8) (3,8) (5,8)) [(0,9),(1,9),(2,8),(3,8),(4,9),(5,8)] [(0,9),(1,9),(4,9)]):=by
 have ha:my M.ans s.asked.length k=mo (my M.ans s.asked.length k):=by
  have h1:=Int.emod_nonneg (M.ans.getD s.asked.length 0) (show k≠0 by omega)
  have h2:=Int.emod_lt_of_pos (M.ans.getD s.asked.length 0) (show 0 < k by omega)
  unfold my mo;omega
 rw [ha]
 refine Spec.ofNI Tryz.func134 rfl Tryz.ntmps134 rfl ?_
 refine an (bh rfl (bh rfl (cD ((Le.incT (6,1) rfl).trans (Le.incT (6,0) rfl)) ?_)))
 refine ai (bp aa [((3,8),(6,0)),((5,8),(6,1))] ar (Dr M s se ab h0 ab hn hk hk1) ob tr tr rfl ae ae) ?_
 refine cD (Le.incT (7,0) rfl) ?_
 refine ai (bp aa [((3,9),(6,0)),((5,9),(6,1)),((3,8),(7,0))] ar (ea M { s with stack:=s.pop 1,asked:=s.asked++[k] } ((s.asked++[k]).length:Int) se (my M.ans s.asked.length k) (by have:=ct s 1;simp only;omega)) ob tr tr rfl ae ae) ?_
 exact az (eQ (.inl rfl) rfl (Le.outI [((2,8),(2,9)),((3,8),(7,0)),((5,8),(6,1))] [] (.tup rfl bn) rfl rfl rfl trivial ob tr rfl))
end
theorem Fb {y x:Int} (hy:Rg y) (hx:Rg x):Spec Tryz.prog 137 (bk [.v (.int .i64 y), .v (.int .i64 x)] []) (aW (.v (.int .i64 (y+x))) []):=by
 refine Spec.ofN Tryz.func137 rfl Tryz.ntmps137 rfl ?_
 refine am (aZ rfl (aj (am (aS rfl (aS rfl (ai (be (r:=y+x) _ _ rfl rfl (br (by unfold Rg at hy hx;omega))) ?_))))))
 exact aZ rfl (aj (aD (aY (.inr rfl) rfl (.tmp (rfl:_=AV.v _)) (Le.out [] [] .v rfl rfl rfl trivial trivial))))
theorem ED {y x:Int} (hy:Rg y) (hx:Rg x):Spec Tryz.prog 138 (bk [.v (.int .i64 y), .v (.int .i64 x)] []) (aW (.v (.int .i64 (y - x))) []):=by
 refine Spec.ofN Tryz.func138 rfl Tryz.ntmps138 rfl ?_
 refine am (aZ rfl (aj (am (aS rfl (aS rfl (ai (ce (r:=y - x) _ _ rfl rfl (br (by unfold Rg at hy hx;omega))) ?_))))))
 exact aZ rfl (aj (aD (aY (.inr rfl) rfl (.tmp (rfl:_=AV.v _)) (Le.out [] [] .v rfl rfl rfl trivial trivial))))
theorem Fe {y x:Int} (hy:Rg y) (hx:Rg x):Spec Tryz.prog 139 (bk [.v (.int .i64 y), .v (.int .i64 x)] []) (aW (.v (.int .i64 (y*x))) []):=by
 refine Spec.ofN Tryz.func139 rfl Tryz.ntmps139 rfl ?_
 refine am (aZ rfl (aj (am (aS rfl (aS rfl (ai (xf (r:=y*x) _ _ rfl rfl (br (CG hy hx))) ?_))))))
 exact aZ rfl (aj (aD (aY (.inr rfl) rfl (.tmp (rfl:_=AV.v _)) (Le.out [] [] .v rfl rfl rfl trivial trivial))))
theorem Et {y x:Int} (hy:Rg y):Spec Tryz.prog 140 (bk [.v (.int .i64 y), .v (.int .i64 x)] []) (aW (.v (.int .i64 (if x=0 then 0 else y.tdiv x))) []):=by
 have hd:=Bs (y:=x) hy
 by_cases h0:x=0
 ·rw [if_pos h0]
  refine Spec.ofN Tryz.func140 rfl Tryz.ntmps140 rfl ?_
  refine am (aZ rfl (aj (aq (am (aS rfl (ai (bT _ _ rfl rfl rfl) (aj (bF rfl (decide_eq_true h0) ?_))))))))
  exact am (aZ rfl (aj (aD (aY (.inr rfl) rfl (.tmp (rfl:_=AV.v _)) (Le.out [] [] .v rfl rfl rfl trivial trivial)))))
 ·rw [if_neg h0]
  refine Spec.ofN Tryz.func140 rfl Tryz.ntmps140 rfl ?_
  refine am (aZ rfl (aj (aq (am (aS rfl (ai (bT _ _ rfl rfl rfl) (aj (aR rfl (decide_eq_false h0) ?_))))))))
  refine aJ (am (aS rfl (aS rfl (ai (Cs (r:=y.tdiv x) _ _ rfl rfl h0 (br ab)) ?_))))
  exact aZ rfl (aj (aD (aY (.inr rfl) rfl (.tmp (rfl:_=AV.v _)) (Le.out [] [] .v rfl rfl rfl trivial trivial))))
theorem KE (y x:Int):Spec Tryz.prog 143 (bk [.v (.int .i64 y), .v (.int .i64 x)] []) (aW (.v (.bool (decide (y < x)))) []):=by
 refine Spec.ofN Tryz.func143 rfl Tryz.ntmps143 rfl ?_
 exact am (cw rfl (aj (am (aS rfl (aS rfl (ai (bq _ _ rfl rfl rfl) (cw rfl (aj (aD (aY (.inr rfl) rfl (.tmp (rfl:_=AV.v _)) (Le.out [] [] .v rfl rfl rfl trivial trivial)))))))))))
theorem Kc (y x:Int):Spec Tryz.prog 144 (bk [.v (.int .i64 y), .v (.int .i64 x)] []) (aW (.v (.bool (decide (y≤x)))) []):=by
 refine Spec.ofN Tryz.func144 rfl Tryz.ntmps144 rfl ?_
 exact am (cw rfl (aj (am (aS rfl (aS rfl (ai (bM _ _ rfl rfl rfl) (cw rfl (aj (aD (aY (.inr rfl) rfl (.tmp (rfl:_=AV.v _)) (Le.out [] [] .v rfl rfl rfl trivial trivial)))))))))))
theorem Ka (y x:Int):Spec Tryz.prog 145 (bk [.v (.int .i64 y), .v (.int .i64 x)] []) (aW (.v (.bool (decide (y=x)))) []):=by
 refine Spec.ofN Tryz.func145 rfl Tryz.ntmps145 rfl ?_
 exact am (cw rfl (aj (am (aS rfl (aS rfl (ai (bT _ _ rfl rfl rfl) (cw rfl (aj (aD (aY (.inr rfl) rfl (.tmp (rfl:_=AV.v _)) (Le.out [] [] .v rfl rfl rfl trivial trivial)))))))))))
theorem yd {f:FuncId} [ca Tryz.prog f] {y x:Int} {b:Bool} (hg:Spec Tryz.prog f (bk [.v (.int .i64 y), .v (.int .i64 x)] []) (aW (.v (.bool b)) [])):Spec Tryz.prog 190 (bk [.v (.int .i64 y), .v (.int .i64 x), .fp 0 [.fn (.func f) [] []]] []) (aW (.v (.int .i64 (flag b))) []):=by
 cases b
 ·skip
  refine Spec.ofN Tryz.func190 rfl Tryz.ntmps190 rfl ?_
  refine am (aZ rfl (aj (aq (am (ai (bG _ aa rfl ag rfl) ?_)))))
  refine aS rfl (aS rfl (ai (kk rfl aa al (hg) rfl rfl) ?_))
  exact aj (aR rfl rfl (aJ (am (aZ rfl (aj (aD (aY (.inr rfl) rfl (.tmp (rfl:_=AV.v _)) (Le.out [] [] .v rfl rfl rfl trivial trivial))))))))
 ·skip
  refine Spec.ofN Tryz.func190 rfl Tryz.ntmps190 rfl ?_
  refine am (aZ rfl (aj (aq (am (ai (bG _ aa rfl ag rfl) ?_)))))
  refine aS rfl (aS rfl (ai (kk rfl aa al (hg) rfl rfl) ?_))
  exact aj (bF rfl rfl (am (aZ rfl (aj (aD (aY (.inr rfl) rfl (.tmp (rfl:_=AV.v _)) (Le.out [] [] .v rfl rfl rfl trivial trivial)))))))
theorem lM (g:FuncId):Spec Tryz.prog 136 (bk [.fn (.func g) [] []] []) (aW (.fn (.func 189) [] [.fp 0 [.fn (.func g) [] []]]) []):=by
 refine Spec.ofN Tryz.func136 rfl Tryz.ntmps136 rfl ?_
 refine am (ai (bf (1,0) _ rfl rfl) (ai (bA _ (rfl:_=AV.v _)) (aj (am (ai (mQ _ _ (rfl:_=[]) (rfl:_=[_])) ?_)))))
 exact ai (bA _ (rfl:_=AV.fn _ _ _)) (aj (aD (aY (.inr rfl) rfl (.tmp (rfl:_=AV.fn _ _ _)) (Le.out [] [(1,0)] (.fn rfl bn rfl (aC (Lv.frzP rfl rfl rfl) bn)) rfl rfl rfl tr trivial))))
theorem vW (g:FuncId) (f:FuncId):Spec Tryz.prog 136 (bk [.fn (.func g) [] [.fp 0 [.fn (.func f) [] []]]] []) (aW (.fn (.func 189) [] [.fp 0 [.fn (.func g) [] [.ptr 0 [.fn (.func f) [] []]]]]) []):=by
 refine Spec.ofN Tryz.func136 rfl Tryz.ntmps136 rfl ?_
 refine am (ai (bf (1,0) _ rfl rfl) (ai (bA _ (rfl:_=AV.v _)) (aj (am (ai (mQ _ _ (rfl:_=[]) (rfl:_=[_])) ?_)))))
 exact ai (bA _ (rfl:_=AV.fn _ _ _)) (aj (aD (aY (.inr rfl) rfl (.tmp (rfl:_=AV.fn _ _ _)) (Le.out [] [(1,0)] (.fn rfl bn rfl (aC (Lv.frzP rfl rfl rfl) bn)) rfl rfl rfl tr trivial))))
theorem oH (f:FuncId):Spec Tryz.prog 142 (bk [.fn (.func f) [] []] []) (aW (.fn (.func 189) [] [.fp 0 [.fn (.func 190) [] [.ptr 0 [.fn (.func f) [] []]]]]) []):=by
 have hb:=vW 190 f
 refine Spec.ofN Tryz.func142 rfl Tryz.ntmps142 rfl ?_
 refine am (ai (bf (1,0) _ rfl rfl) (ai (bA _ (rfl:_=AV.v _)) (aj (aq ?_))))
 refine aO (Le.frzPt 1 rfl rfl rfl rfl) ?_
 refine an (ai (mQ _ _ (rfl:_=[]) (rfl:_=[_])) ?_)
 refine ai (aM aa al (hb) rfl rfl) ?_
 exact ai (bA _ (rfl:_=AV.fn _ _ _)) (aj (aD (aY (.inr rfl) rfl (.tmp (rfl:_=AV.fn _ _ _)) (Le.out [] [] (.fn rfl bn rfl lz) rfl rfl rfl trivial trivial))))

def Gn:Opc→FuncId
 | .push=> 127
 | .var=> 128
 | .setVar=> 130
 | .name=> 133
 | .draw=> 134
 | .add=> 189
 | .sub=> 189
 | .mul=> 189
 | .div=> 189
 | .neg=> 141
 | .lt=> 189
 | .le=> 189
 | .eq=> 189
 | .not=> 146
 | .jump=> 147
 | .unl=> 148
 | .send=> 149
 | .timer=> 150
 | .cancel=> 151
 | .sync=> 152
 | .reply=> 153
 | .fail=> 154
 | .stop=> 155
def HO:Opc→List PV
 | .push=> []
 | .var=> []
 | .setVar=> []
 | .name=> []
 | .draw=> []
 | .add=> [.ptr 0 [.fn (.func 137) [] []]]
 | .sub=> [.ptr 0 [.fn (.func 138) [] []]]
 | .mul=> [.ptr 0 [.fn (.func 139) [] []]]
 | .div=> [.ptr 0 [.fn (.func 140) [] []]]
 | .neg=> []
 | .lt=> [.ptr 0 [.fn (.func 190) [] [.ptr 0 [.fn (.func 143) [] []]]]]
 | .le=> [.ptr 0 [.fn (.func 190) [] [.ptr 0 [.fn (.func 144) [] []]]]]
 | .eq=> [.ptr 0 [.fn (.func 190) [] [.ptr 0 [.fn (.func 145) [] []]]]]
 | .not=> []
 | .jump=> []
 | .unl=> []
 | .send=> []
 | .timer=> []
 | .cancel=> []
 | .sync=> []
 | .reply=> []
 | .fail=> []
 | .stop=> []
abbrev EA:List AV:=[.v .nilFunc, .fn (.func 127) [] [], .fn (.func 128) [] [], .fn (.func 130) [] [], .fn (.func 133) [] [], .fn (.func 134) [] [], .fn (.func 189) [] [.fp 0 [.fn (.func 137) [] []]], .fn (.func 189) [] [.fp 0 [.fn (.func 138) [] []]], .fn (.func 189) [] [.fp 0 [.fn (.func 139) [] []]], .fn (.func 189) [] [.fp 0 [.fn (.func 140) [] []]], .fn (.func 141) [] [], .fn (.func 189) [] [.fp 0 [.fn (.func 190) [] [.ptr 0 [.fn (.func 143) [] []]]]], .fn (.func 189) [] [.fp 0 [.fn (.func 190) [] [.ptr 0 [.fn (.func 144) [] []]]]], .fn (.func 189) [] [.fp 0 [.fn (.func 190) [] [.ptr 0 [.fn (.func 145) [] []]]]], .fn (.func 146) [] [], .fn (.func 147) [] [], .fn (.func 148) [] [], .fn (.func 149) [] [], .fn (.func 150) [] [], .fn (.func 151) [] [], .fn (.func 152) [] [], .fn (.func 153) [] [], .fn (.func 154) [] [], .fn (.func 155) [] []]
theorem tX (o:Opc):EA[o.num]? =some (.fn (.func (Gn o)) [] (PV.ups (HO o))):=by cases o <;> rfl
instance Jb (o:Opc):ca Tryz.prog (Gn o):=by cases o <;> (unfold Gn;infer_instance)
theorem rZ:Spec Tryz.prog 93 (bk [] []) (aW (.agg EA) []):=by
 refine Spec.ofN Tryz.func93 rfl Tryz.ntmps93 rfl ?_
 refine am (ai (ax (0,0) aa rfl rfl) (aj (am (ai (aM aa al (lM 137) rfl rfl) ?_))))
 refine ai (aM aa al (lM 138) rfl rfl) ?_
 refine ai (aM aa al (lM 139) rfl rfl) ?_
 refine ai (aM aa al (lM 140) rfl rfl) ?_
 refine ai (aM aa al (oH 143) rfl rfl) ?_
 refine ai (aM aa al (oH 144) rfl rfl) ?_
 refine ai (aM aa al (oH 145) rfl rfl) ?_
 refine ai (ay _ aa rfl (by exact (rfl:_=some [_,_,_,_,_,_,_,_,_,_,_,_,_,_,_,_,_,_,_,_,_,_,_,_]))) ?_
 exact bL rfl rfl rfl rfl rfl rfl (aj (aD (aY (.inr rfl) rfl (.cellA aa rfl rfl rfl) (Le.out [] [] (.agg rfl lz) rfl rfl rfl trivial trivial))))
theorem fB (l:List Ac) (a:Ac):cu (l++[a])=if a.k=3 then cu l+1 else cu l:=by
 unfold cu
 rw [List.countP_append,List.countP_singleton]
 by_cases h:a.k=3 <;> simp [h]
theorem nB (b:Bool):mo (flag b)=flag b:=by cases b <;> decide
theorem xR (M:Mk) (s:Ms) (x:eu) (nv:Nat) (hx:dc nv x) (hv:IV M.cx nv s) (hp:x.op.pops≤s.stack.length) (hs:s.stack.length≤80000) (ha:s.acts.length≤80000) (hq:s.asked.length≤80000) (hn:M.ans.length≤4611686018427387904):
  Spec Tryz.prog (Gn x.op) (bc ([.ptr (0,9) 0, .v (.int .i64 x.n)]++PV.ups (HO x.op)) (kZ M s (s.asked.length:Int) (cu s.acts:Int))) (bj (.tup []) (kL M (dy M.cx x s) ((dy M.cx x s).asked.length:Int) (cu (dy M.cx x s).acts:Int) (2,8) (3,8) (5,8)) [(0,9),(1,9),(2,8),(3,8),(4,9),(5,8)] [(0,9),(1,9),(4,9)]):=by
 have rs0:=tx hv.rs 0
 have rs1:=tx hv.rs 1
 have hvl:=hv.vl
 have hsn:=hv.sn
 have hnat: ∀ n:Int,0≤n→ ∃ k:Nat,n=k:=fun n h=> ⟨n.toNat,by omega⟩
 obtain ⟨o,n⟩:=x
 have hpp:o.pops≤s.stack.length:=hp
 cases o
 case push=> exact BO M s _ _ n ab
 case var=>
  obtain ⟨k,rfl⟩:=hnat n hx.1
  have hk:(k:Int) < nv:=hx.2
  exact AF M s _ _ k ab ab
 case setVar=>
  obtain ⟨k,rfl⟩:=hnat n hx.1
  have hk:(k:Int) < nv:=hx.2
  by_cases hd:k < M.P.d
  ·have h:=xe M s (s.asked.length:Int) (cu s.acts:Int) k ab ab ab hpp hd
   have e:dy M.cx ⟨.setVar,(k:Int)⟩ s={ s with vars:=s.vars.set k (s.top 0),stack:=s.pop 1,acts:=s.acts++[{ k:=1,a:=k,b:=s.top 0 }] }:=by
    simp only [dy,Int.toNat_natCast]
    rw [if_pos (show (k:Int) < ((M.P.d:Nat):Int) by omega)]
   rw [e]
   rw [show cu (s.acts++[{ k:=1,a:=k,b:=s.top 0 }])=cu s.acts from fB _ _]
   exact h
  ·have h:=wA M s (s.asked.length:Int) (cu s.acts:Int) k ab ab hpp ab
   have e:dy M.cx ⟨.setVar,(k:Int)⟩ s={ s with vars:=s.vars.set k (s.top 0),stack:=s.pop 1 }:=by
    simp only [dy,Int.toNat_natCast]
    rw [if_neg (show ¬ (k:Int) < ((M.P.d:Nat):Int) by omega)]
   rw [e]
   exact h
 case name=>
  obtain ⟨k,rfl⟩:=hnat n hx.1
  have hk:(k:Int) < 9:=hx.2
  exact yg M s _ _ k ab ab
 case draw=>
  by_cases hk:max 1 (min (s.top 0) 4)=1
  ·have h:=yC M s (cu s.acts:Int) n ab hpp hk
   have e:dy M.cx ⟨.draw,n⟩ s={ s with stack:=s.pop 1++[0] }:=if_pos hk
   rw [e];exact h
  ·have h:=yJ M s (cu s.acts:Int) n ab hpp hq hn rfl hk
   have e:dy M.cx ⟨.draw,n⟩ s={ s with stack:=s.pop 1++[my M.ans s.asked.length (max 1 (min (s.top 0) 4))],asked:=s.asked++[max 1 (min (s.top 0) 4)] }:=if_neg hk
   rw [e];exact h
 case add=> exact pX M s _ _ n ab hpp (Fb rs1 rs0)
 case sub=> exact pX M s _ _ n ab hpp (ED rs1 rs0)
 case mul=> exact pX M s _ _ n ab hpp (Fe rs1 rs0)
 case div=>
  have h:=pX M s (s.asked.length:Int) (cu s.acts:Int) n ab hpp (Et (x:=s.top 0) rs1)
  have e:dy M.cx ⟨.div,n⟩ s={ s with stack:=s.pop 2++[mo (if s.top 0=0 then 0 else (s.top 1).tdiv (s.top 0))] }:=by
   show { s with stack:=s.pop 2++[if s.top 0=0 then 0 else mo ((s.top 1).tdiv (s.top 0))] }=_
   split <;> rfl
  rw [e];exact h
 case neg=> exact zE M s _ _ n ab hpp rs0
 case not=>
  by_cases h0:s.top 0=0
  ·have h:=AR M s (s.asked.length:Int) (cu s.acts:Int) n ab hpp h0
   have e:dy M.cx ⟨.not,n⟩ s={ s with stack:=s.pop 1++[1] }:=by simp only [dy,h0,decide_true];rfl
   rw [e];exact h
  ·have h:=zV M s (s.asked.length:Int) (cu s.acts:Int) n ab hpp h0
   have e:dy M.cx ⟨.not,n⟩ s={ s with stack:=s.pop 1++[0] }:=by simp only [dy,h0,decide_false];rfl
   rw [e];exact h
 case jump=>
  obtain ⟨k,rfl⟩:=hnat n hx
  exact AD M s _ _ k
 case unl=>
  obtain ⟨k,rfl⟩:=hnat n hx
  by_cases h0:s.top 0=0
  ·have h:=AE M s (s.asked.length:Int) (cu s.acts:Int) k ab hpp h0
   have e:dy M.cx ⟨.unl,(k:Int)⟩ s={ s with stack:=s.pop 1,pc:=k }:=by simp only [dy,Int.toNat_natCast];rw [if_pos h0]
   rw [e];exact h
  ·have h:=Aa M s (s.asked.length:Int) (cu s.acts:Int) k ab hpp h0
   have e:dy M.cx ⟨.unl,(k:Int)⟩ s={ s with stack:=s.pop 1 }:=by simp only [dy,Int.toNat_natCast];rw [if_neg h0]
   rw [e];exact h
 case send=>
  by_cases hc:0≤s.top 2∧s.top 2 < M.cx.names.getD 1 0∧cu s.acts < 20
  ·have h:=Ab M s (s.asked.length:Int) (cu s.acts:Int) n ab ab hpp ab hc.1 hc.2.1 ab
   have e:dy M.cx ⟨.send,n⟩ s={ s with stack:=s.pop 3,acts:=s.acts++[{ k:=3,a:=s.top 2,b:=n,c:=s.top 1,d:=s.top 0 }] }:=by simp only [dy];rw [if_pos hc]
   rw [e]
   rw [show cu (s.acts++[{ k:=3,a:=s.top 2,b:=n,c:=s.top 1,d:=s.top 0 }])=cu s.acts+1 from fB _ _]
   exact h
  ·have e:dy M.cx ⟨.send,n⟩ s={ s with stack:=s.pop 3 }:=by simp only [dy];rw [if_neg hc]
   rw [e]
   by_cases h1:0≤s.top 2
   ·by_cases h2:s.top 2 < M.nm 1
    ·exact xG M s (s.asked.length:Int) (cu s.acts:Int) n ab ab hpp ab h1 h2 (by
      have: ¬ cu s.acts < 20:=fun h=> hc ⟨h1,h2,h⟩
      omega)
    ·exact wN M s (s.asked.length:Int) (cu s.acts:Int) n ab ab hpp ab h1 ab
   ·exact xp M s (s.asked.length:Int) (cu s.acts:Int) n ab ab hpp ab ab
 case timer=>
  have h:=yn M s (s.asked.length:Int) (cu s.acts:Int) n ab
  have e:cu (dy M.cx ⟨.timer,n⟩ s).acts=cu s.acts:=fB _ _
  rw [e];exact h
 case cancel=>
  have h:=vU M s (s.asked.length:Int) (cu s.acts:Int) n ab
  have e:cu (dy M.cx ⟨.cancel,n⟩ s).acts=cu s.acts:=fB _ _
  rw [e];exact h
 case sync=>
  have h:=BC M s (s.asked.length:Int) (cu s.acts:Int) n ab
  have e:cu (dy M.cx ⟨.sync,n⟩ s).acts=cu s.acts:=fB _ _
  rw [e];exact h
 case reply=>
  have h:=zj M s (s.asked.length:Int) (cu s.acts:Int) n ab ab hpp
  have e:cu (dy M.cx ⟨.reply,n⟩ s).acts=cu s.acts:=fB _ _
  rw [e];exact h
 case fail=>
  have h:=ze M s (s.asked.length:Int) (cu s.acts:Int) n ab ab hpp
  have e:cu (dy M.cx ⟨.fail,n⟩ s).acts=cu s.acts:=fB _ _
  rw [e];exact h
 case stop=> exact AY M s _ _ n
 case lt=>
  have h:=sP M s (s.asked.length:Int) (cu s.acts:Int) n ab hpp (yd (KE (s.top 1) (s.top 0)))
  rw [nB] at h
  exact h
 case le=>
  have h:=sP M s (s.asked.length:Int) (cu s.acts:Int) n ab hpp (yd (Kc (s.top 1) (s.top 0)))
  rw [nB] at h
  exact h
 case eq=>
  have h:=sP M s (s.asked.length:Int) (cu s.acts:Int) n ab hpp (yd (Ka (s.top 1) (s.top 0)))
  rw [nB] at h
  exact h

theorem jq (l:List Int) (h0:0 < l.length) (h1:l.length≤1000000):
  Spec Tryz.prog 92 (bk [.sl l.length (cR l)] []) (aW (.ref (0,8) 0 l.length) [((0,8), .row 3 1 (cR l))]):=by
 refine Spec.ofN Tryz.func92 rfl Tryz.ntmps92 rfl ?_
 refine am (ai (bA _ (rfl:_=AV.v (.slice _ _ _))) (aj (aq (am (ez rfl (ai (Bp _ _ Tryz.underlying22 (.inl ⟨_,rfl⟩) h0 rfl) ?_))))))
 refine aj (aR rfl rfl (aJ (am (ai (xo _ aa rfl) (ez rfl (ai (AS (7,0) _ _ aa rfl h0 (.sl (by simp)) ab rfl) ?_))))))
 exact fb rfl (aj (aD (aY (.inr rfl) rfl (.tmp (rfl:_=AV.ref _ _ _)) (Le.out [((0,8),(7,0))] [] (cX rfl rfl) rfl rfl rfl trivial ob))))
def kf (l:List Nat):List (Int×Value):=l.foldl (fun M (i:Nat)=> fU M (i:Int) (.agg #[])) []
theorem rN (l:List Nat) (i:Nat):kf (l++[i])=fU (kf l) (i:Int) (.agg #[]):=by simp [kf,List.foldl_append]
theorem sy {M:List (Int×Value)} {n:Int} {u:Value} (h:lC M n=some u):(n,u)∈M:=by
 unfold lC at h
 cases hf:lx n M 0 with
 | none=> rw [hf] at h;cases h
 | some p=>
  obtain ⟨i,v⟩:=p
  rw [hf] at h
  obtain rfl:v=u:=Option.some.inj h
  obtain ⟨q,_,hq⟩:=qz hf
  exact List.mem_of_getElem? hq
theorem rT {M:List (Int×Value)} {n:Int} {u:Value} {p:Int×Value} (h:p∈fU M n u):p∈M∨p=(n,u):=by
 unfold fU at h
 split at h
 ·exact .inl h
 ·rcases List.mem_append.1 h with h | h
  ·exact .inl h
  ·exact .inr (List.mem_singleton.1 h)
theorem rR: ∀ (l:List Nat) (M:List (Int×Value)),(∀ p∈M,p.2= .agg #[])→ ∀ p∈l.foldl (fun M (i:Nat)=> fU M (i:Int) (.agg #[])) M,p.2= .agg #[]
 | [],_,h=> h
 | i::l,M,h=> rR l _ fun p hp=> by
  rcases rT hp with hp | rfl
  ·exact h p hp
  ·rfl
theorem lI (l:List Nat): ∀ p∈kf l,p.2= .agg #[]:=rR l [] fun p hp=> by cases hp
theorem tI {M:List (Int×Value)} {n:Int} (h:lC M n=none):n∉M.map (·.1):=by
 intro hm
 obtain ⟨p,hp,he⟩:=List.mem_map.1 hm
 unfold lC at h
 cases hf:lx n M 0 with
 | some q=> rw [hf] at h;cases h
 | none=>
  clear h hm
  have: ∀ (M:List (Int×Value)) (i:Nat),lx n M i=none→ ∀ p∈M,p.1≠n:=by
   intro M
   induction M with
   | nil=> intro i _ p hp;cases hp
   | cons a l ih=>
    intro i h p hp
    unfold lx at h
    split at h
    ·cases h
    ·rename_i hne
     rcases List.mem_cons.1 hp with rfl | hp
     ·exact fun e=> hne e.symm
     ·exact ih _ h p hp
  exact this M 0 hf p hp he
theorem BH {M:List (Int×Value)} {n:Int} {u:Value} (h:(M.map (·.1)).Nodup):((fU M n u).map (·.1)).Nodup:=by
 unfold fU
 cases hg:lC M n with
 | some v=> exact h
 | none=>
  simp only [Option.isSome_none,Bool.false_eq_true,if_false,List.map_append,List.map_cons,List.map_nil]
  exact List.nodup_append.2 ⟨h,by simp,fun a ha b hb e=> tI hg (by rw [List.mem_singleton.1 hb] at e;exact e ▸ ha)⟩
theorem um: ∀ (l:List Nat) (M:List (Int×Value)),(M.map (·.1)).Nodup→((l.foldl (fun M (i:Nat)=> fU M (i:Int) (.agg #[])) M).map (·.1)).Nodup
 | [],_,h=> h
 | _::l,_,h=> um l _ (BH h)
theorem qw (l:List Nat):((kf l).map (·.1)).Nodup:=um l [] List.nodup_nil
theorem ut {N:Int}: ∀ (l:List Nat) (M:List (Int×Value)),(∀ i∈l,(i:Int)≤N)→(∀ p∈M,0≤p.1∧p.1≤N)→ ∀ p∈l.foldl (fun M (i:Nat)=> fU M (i:Int) (.agg #[])) M,0≤p.1∧p.1≤N
 | [],_,_,h=> h
 | i::l,M,hl,h=> ut l _ (fun j hj=> hl j (List.mem_cons_of_mem _ hj)) fun p hp=> by
  rcases rT hp with hp | rfl
  ·exact h p hp
  ·exact ⟨by simp only;omega,hl i List.mem_cons_self⟩
theorem qr (l:List Nat) (h: ∀ i∈l,i≤1000000): ∀ p∈kf l,0≤p.1∧p.1≤1000000:=ut l [] (fun i hi=> by have:=h i hi;omega) fun p hp=> by cases hp
theorem uo (l:List Nat) (n:Int): ∀ u,lC (kf l) n=some u→u= .agg #[]:=fun u h=> lI l _ (sy h)
structure Sz (s:Ms):Prop where
 st:s.stack.length≤s.steps
 ac:s.acts.length≤s.steps
 ak:s.asked.length≤s.steps
theorem BF (K:Cx) (x:eu) (s:Ms):(dy K x s).stack.length≤s.stack.length+1∧(dy K x s).acts.length≤s.acts.length+1∧(dy K x s).asked.length≤s.asked.length+1∧(dy K x s).steps=s.steps:=by
 have hp:=ct s
 unfold dy
 cases x.op <;> simp only [List.length_append,List.length_cons,List.length_nil,hp]
 case setVar=> split <;> simp <;> omega
 case draw=> split <;> simp [hp] <;> omega
 case send=> split <;> simp <;> omega
 all_goals (refine ⟨?_,?_,?_,?_⟩ <;> first | trivial | omega)
theorem tV {K:Cx} {s:Ms} (h:Sz s):Sz (gI K s):=by
 obtain ⟨h1,h2,h3,h4⟩:=BF K (K.code.getD s.pc { op:= .stop }) { s with pc:=s.pc+1,steps:=s.steps+1,cov:=s.cov++[s.pc] }
 have:=h.st;have:=h.ac;have:=h.ak
 exact ⟨by unfold gI;rw [h4];simp only at h1 ⊢;omega,by unfold gI;rw [h4];simp only at h2 ⊢;omega,by unfold gI;rw [h4];simp only at h3 ⊢;omega⟩
theorem qx {ρ:aF→aF} {σ:St} {F:aF→Bool} {id id':aF} (h:ρ id=id'):Lv ρ σ F (.mp id) (.mp id'):=by subst h;exact .mp
def gK (M:List (Int×Value)):List Int:=(M.map (·.1)).mergeSort (fun x y=> decide (x≤y))
theorem kj (es:List MapEntry) (c:Nat):Spec Tryz.prog 95 (bc [.mp (0,9)] [((0,9), .mp es c)]) (bj (.fn (.func 158) [] [.ptr (1,8) 0]) [((0,9), .mp es c),((1,8), .box 175 [.mp (0,9)])] [(0,9)] [(0,9)]):=by
 refine Spec.ofNI Tryz.func95 rfl Tryz.ntmps95 rfl ?_
 refine am (ai (bf (1,0) _ rfl rfl) (ai (bA _ (rfl:_=AV.v _)) (aj (am (ai (mQ _ _ (rfl:_=[]) (rfl:_=[_])) ?_)))))
 exact ai (bA _ (rfl:_=AV.fn _ _ _)) (aj (aD (aY (.inr rfl) rfl (.tmp (rfl:_=AV.fn _ _ _)) (Le.outI [((1,8),(1,0))] [] (.fn rfl bn rfl lz) rfl rfl rfl trivial ⟨⟨rfl,⟨_,rfl, .mp⟩,rfl⟩,⟨rfl,⟨_,rfl, .box rfl (aC (qx rfl) bn)⟩,rfl⟩,trivial⟩ tr rfl))))
theorem si {σ:St} {rn:List (aF×aF)} (o:Opc):fL σ rn (PV.ups (HO o)) (PV.ups (HO o)):=by
 cases o <;> first | exact cW | exact cq .fp cW
theorem yw (o:Opc):o.num < 24:=by cases o <;> decide
theorem xQ (M:List (Int×Value)) (n:Int) (u:Value):(fU M n u).length≤M.length+1:=by unfold fU;split <;> simp
theorem rV: ∀ (l:List Nat) (M:List (Int×Value)),(l.foldl (fun M (i:Nat)=> fU M (i:Int) (.agg #[])) M).length≤M.length+l.length
 | [],M=> Nat.le_refl _
 | i::l,M=> by have:=rV l (fU M i (.agg #[]));have:=xQ M i (.agg #[]);simp only [List.foldl_cons,List.length_cons];omega
theorem ng (l:List Nat):(kf l).length≤l.length:=by have:=rV l [];simpa [kf] using this
theorem rf (K:Cx) (x:eu) (s:Ms):(dy K x s).cov=s.cov:=by
 unfold dy
 cases x.op <;> simp only
 all_goals (split <;> rfl)
theorem tP {K:Cx} {s:Ms} (h:s.fin=true): ∀ k,jy K k s=s
 | 0=> rfl
 | k+1=> by rw [jy,if_pos h]
abbrev uz:Prop:= ∀ (M:List (Int×Value)),M.length≤1000000→(∀ p∈M,p.2= .agg #[])→(M.map (·.1)).Nodup→(∀ p∈M,0≤p.1∧p.1≤1000000)→Spec Tryz.prog 94 (bc [.fn (.func 158) [] [.ptr (1,9) 0]] [((0,9), .mp (eb M) M.length),((1,9), .box 175 [.mp (0,9)])]) (bj (.sl (gK M).length (cR (gK M))) [((0,9), .mp (eb M) M.length),((1,9), .box 175 [.mp (0,9)])] [(0,9),(1,9)] [(0,9),(1,9)])
set_option maxHeartbeats 1000000 in
theorem uE (M:Mk) (hS:uz) (D:Nat→Nat) (nv:Nat) (hK:PG M.cx D nv) (h:Nat) (hh:h < 40) (e0:Nat) (he:M.P.e h=(e0:Int)) (he2:e0 < M.P.c.length) (hD:D e0=0) (hiv:M.iv.length=nv) (hir: ∀ v∈M.iv,Rg v) (h0:0 < nv) (hc:M.P.c.length≤1000000) (hn:M.ans.length≤4611686018427387904) (R:Ms) (hR:R=jy M.cx 500 (eP M.iv e0)):
  Spec Tryz.prog 59 (bc [rz M.P, .v (.int .i64 (h:Int)), .agg [.sl M.iv.length (cR M.iv), .v (.int .i64 (M.nm 0)), .v (.int .i64 (M.nm 1)), .v (.int .i64 (M.nm 2)), .v (.int .i64 (M.nm 3)), .v (.int .i64 (M.nm 4)), .v (.int .i64 (M.nm 5)), .v (.int .i64 (M.nm 6)), .v (.int .i64 (M.nm 7)), .v (.int .i64 (M.nm 8))],xD (4,9)] (uB M.ans [] (5,9))) (bj (.agg [.sl R.vars.length (cR R.vars), .ref (2,8) 0 R.acts.length, .v (.int .i64 (R.steps:Int)), .v (.bool (!R.fin)), .sl (gK (kf R.cov)).length (cR (gK (kf R.cov)))]) (((2,8), .row 57 5 (qI R.acts))::uB M.ans R.asked (5,8)) [(2,8),(4,9),(5,8)] [(4,9)]):=by
 have hnv:=hK.nv
 have hcl:=jq M.iv ab ab
 have hg:=mf M.P.c.length (inl M.P.c) M.P.e (M.P.d:Int) (M.P.v:Int) h hh
 rw [he] at hg
 refine Spec.ofNI Tryz.func59 rfl Tryz.ntmps59 rfl ?_
 refine am (ai (bf (4,0) _ rfl rfl) (ai (bf (6,0) _ rfl rfl) (ai (ax (8,0) aa rfl rfl) (aj (aq (bE 11 [13,14,15,16,17,18,19,20,21,22,23] [(22,0)] ae ae rfl (aK rfl) (rfl:_=[_,_,_,_,_,_,_,_,_,_,_]) (rfl:_=[_,_,_]) ?_))))))
 refine ap (_,[]) (fun τ=> aP _ aa rfl rfl rfl rfl) ?_
 refine eE rfl ?_
 refine ap (_,[]) (fun τ=> aP _ aa rfl rfl rfl rfl) ?_
 refine eF rfl ?_
 refine ap (_,[]) (fun τ=> aE _ (rfl:_=AV.fn _ _ _)) ?_
 refine eD rfl ?_
 refine ap (_,[]) (fun τ=> aE _ (rfl:_=AV.v (.int _ _))) ?_
 refine eI rfl ?_
 refine ap (_,[]) (fun τ=> aI _ aa rfl rfl rfl) ?_
 refine eU rfl ?_
 refine ap (_,[]) (fun τ=> eg _ _ aa rfl rfl rfl h rfl ab (by exact congrArg (fun z=> 0+1+z) (Nat.mul_one h))) ?_
 refine fh rfl ?_
 refine ap (_,[]) (fun τ=> aL _ aa rfl rfl (by exact (congrArg (fun z=> (yf M.P.c.length (inl M.P.c) M.P.e (M.P.d:Int) (M.P.v:Int))[z]?) ab).trans hg)) ?_
 refine fZ rfl ?_
 refine ap (_,[]) (fun τ=> aI _ aa rfl rfl rfl) ?_
 refine jz rfl ?_
 refine ap (_,[]) (fun τ=> aL _ aa rfl rfl (rfl:_=some (AV.sl _ _))) ?_
 refine jC rfl ?_
 refine ap (_,[((22,0),_)]) (fun τ=> (cQ aa [((0,8),(22,0))] ar (hcl.toI) trivial tr tr rfl rfl ae ae)) ?_
 refine fK rfl ?_
 refine ap (_,[]) (fun τ=> ay _ aa rfl (by exact (rfl:_=some [AV.ref (22,0) 0 M.iv.length,AV.v (.slice none 0 0),AV.v (.int .i64 0),AV.v (.bool false),AV.v (.slice none 0 0)]))) ?_
 refine gl rfl (bi ⟨rfl,?_⟩)
 refine ai (ay _ aa rfl (by exact (rfl:_=some [_,_,_,_,_,_,_,_,_,_,_,_,_,_,_,_,_,_,_,_,_,_,_,_,_,_,_,_,_,_,_,_,_,_,_,_,_,_,_,_,_,_,_,_,_,_,_,_,_,_,_,_,_,_,_,_,_,_,_,_,_,_,_,_]))) ?_
 refine ai (bf (25,0) _ rfl rfl) (zm rfl (aj (aq (aq ?_))))
 refine aO (σ':=aB 108 [(4,_),(8,_),(9,_)] [((4,9),_),((5,9),_),((4,0),_),((8,0),_),((22,0),_),((25,0),_)] [(4,9),(5,9)] [(4,9)]) kp ?_
 refine an (bh rfl (ai (aN _ rfl rfl) (bv rfl rfl rfl (cG rfl rfl rfl (ai (bq _ _ rfl rfl rfl) (aj (aR rfl (decide_eq_false ab) ?_)))))))
 refine aJ (am (ai (aM aa (by repeat' (exact dE)) (rZ) rfl rfl) ?_))
 refine ai (ax (10,0) aa rfl rfl) (bL rfl rfl rfl rfl rfl rfl (aj (am (ai (zc (36,0) rfl) (ai (bA _ (rfl:_=AV.mp _)) (aj (aG fun K7 hK7=> ?_)))))))
 refine au ?_
 refine aO (Le.incT (60,0) rfl) ?_
 refine aO (Le.incT (61,0) rfl) ?_
 refine aO (Le.nilB (25,0) 55 (60,0) 57 5 rfl rfl rfl) ?_
 refine aO (Le.nilB (25,0) 59 (61,0) 3 1 rfl rfl rfl) ?_
 refine bB (α:=Nat×Ms) (fun z=> R=jy M.cx z.1 z.2∧z.1+z.2.steps=500∧At M.cx D nv z.2∧Sz z.2) 108 [(4,_),(8,_),(9,_),(10,_),(11,_)] [((4,0),_),((8,0),_),((10,0),_)] (fun z=> []) (fun z=> [((25,0), .box 171 [.sl M.P.c.length (inl M.P.c), .v (.int .i64 (M.P.e 0)), .v (.int .i64 (M.P.e 1)), .v (.int .i64 (M.P.e 2)), .v (.int .i64 (M.P.e 3)), .v (.int .i64 (M.P.e 4)), .v (.int .i64 (M.P.e 5)), .v (.int .i64 (M.P.e 6)), .v (.int .i64 (M.P.e 7)), .v (.int .i64 (M.P.e 8)), .v (.int .i64 (M.P.e 9)), .v (.int .i64 (M.P.e 10)), .v (.int .i64 (M.P.e 11)), .v (.int .i64 (M.P.e 12)), .v (.int .i64 (M.P.e 13)), .v (.int .i64 (M.P.e 14)), .v (.int .i64 (M.P.e 15)), .v (.int .i64 (M.P.e 16)), .v (.int .i64 (M.P.e 17)), .v (.int .i64 (M.P.e 18)), .v (.int .i64 (M.P.e 19)), .v (.int .i64 (M.P.e 20)), .v (.int .i64 (M.P.e 21)), .v (.int .i64 (M.P.e 22)), .v (.int .i64 (M.P.e 23)), .v (.int .i64 (M.P.e 24)), .v (.int .i64 (M.P.e 25)), .v (.int .i64 (M.P.e 26)), .v (.int .i64 (M.P.e 27)), .v (.int .i64 (M.P.e 28)), .v (.int .i64 (M.P.e 29)), .v (.int .i64 (M.P.e 30)), .v (.int .i64 (M.P.e 31)), .v (.int .i64 (M.P.e 32)), .v (.int .i64 (M.P.e 33)), .v (.int .i64 (M.P.e 34)), .v (.int .i64 (M.P.e 35)), .v (.int .i64 (M.P.e 36)), .v (.int .i64 (M.P.e 37)), .v (.int .i64 (M.P.e 38)), .v (.int .i64 (M.P.e 39)), .v (.int .i64 (M.P.d:Int)), .v (.int .i64 (M.P.v:Int)), .sl M.iv.length (cR M.iv), .v (.int .i64 (M.nm 0)), .v (.int .i64 (M.nm 1)), .v (.int .i64 (M.nm 2)), .v (.int .i64 (M.nm 3)), .v (.int .i64 (M.nm 4)), .v (.int .i64 (M.nm 5)), .v (.int .i64 (M.nm 6)), .v (.int .i64 (M.nm 7)), .v (.int .i64 (M.nm 8)), .fn (.func 60) [.ptr (4,9) 0] [], .ref (22,0) 0 z.2.vars.length, .ref (60,0) 0 z.2.acts.length, .v (.int .i64 (z.2.steps:Int)), .v (.bool false), .v (.slice none 0 0), .ref (61,0) 0 z.2.stack.length, .v (.int .i64 (z.2.pc:Int)), .v (.int .i64 (z.2.asked.length:Int)), .v (.int .i64 (cu z.2.acts:Int)), .v (.bool z.2.fin)]),((22,0), .row 3 1 (cR z.2.vars)),((60,0), .row 57 5 (qI z.2.acts)),((61,0), .row 3 1 (cR z.2.stack)),((36,0), .mp (eb (kf z.2.cov)) (kf z.2.cov).length),((4,9), .box 129 [.sl M.ans.length (cR M.ans), .ref (5,9) 0 z.2.asked.length, .v (.bool true)]),((5,9), .row 3 1 (cR z.2.asked))]) [(4,9),(5,9),(60,0),(61,0)] [(4,9)] (fun z=> z.1) (500,eP M.iv e0) ?_ (by
  refine Le.mkJ [] [] rfl ?_ ?_ trivial tr ?_
  ·exact ⟨(iP rfl),(iP rfl),(iP rfl),(iP rfl),(iM rfl),trivial⟩
  ·exact ⟨(cI rfl rfl rfl),(cI rfl rfl rfl),(cI rfl rfl rfl),(fg rfl rfl rfl rfl (aC (gP ag ag) (kC (kC (kC (kC (kX (kX (aC (gP ag ag) (rh (rh (kX (aC (by repeat' (first | exact dD rfl | refine Lv.fn rfl ?_ rfl ?_ | exact bn | refine aC ?_ ?_)) (aC (cX rfl ag) (aC (cX rfl ag) (kX (aC (gR ag) (aC (by repeat' (exact Lv.v)) lz)))))))))))))))))),(fJ rfl rfl rfl ag),(fJ rfl rfl rfl ag),(fJ rfl rfl rfl ag),(IQ rfl rfl rfl ag ag),(fg rfl rfl rfl rfl lz),(fJ rfl rfl rfl ag),trivial⟩
  ·kernel_rfl) ?_
 ·exact ⟨hR,rfl,oC hiv hir he2 hD,⟨Nat.le_refl _,Nat.le_refl _,Nat.le_refl _⟩⟩
 intro z hz
 obtain ⟨k,s⟩:=z
 obtain ⟨hz1,hz2,hz3,hz4⟩:=hz
 simp only at hz1 hz2 hz3 hz4 ⊢
 have hl1:=hz4.st
 have hl2:=hz4.ac
 have hl3:=hz4.ak
 have hcn:=hz3.cn
 refine aG fun K8 hK8=> ?_
 refine aG fun K9 hK9=> ?_
 refine an (bh rfl (ai (aN _ rfl rfl) (bv rfl rfl rfl (Ek rfl rfl rfl (ai (cT (r:= !s.fin) _ rfl rfl) ?_)))))
 refine cP rfl (dH (fun hg42=> ?_) (fun hg42=> ?_))
 ·skip
  have hf:s.fin=false:=by simpa using hg42
  refine aA rfl rfl (aE _ (rfl:_=AV.ptr _ _)) (aA rfl rfl (aN _ rfl rfl) (aA rfl rfl (aI _ aa rfl rfl rfl) (aA rfl rfl (aI _ aa rfl rfl rfl) (aA rfl rfl (aL _ aa rfl rfl (rfl:_=some (AV.v (.int _ _)))) (aA rfl rfl (bq (r:=decide ((s.steps:Int) < 500)) _ _ rfl rfl rfl) ?_)))))
  refine ai (aH _ _ _ rfl (rfl:_=AV.v (.bool _))) (az (hK9 _ ?_))
  clear hK9;try clear K9
  refine aV rfl (fun hc49=> ?_) (fun hc49=> ?_)
  ·skip
   obtain ⟨k,rfl⟩: ∃ q,k=q+1:=⟨k - 1,by omega⟩
   obtain ⟨hp,hd⟩:=hz3.go hf
   obtain ⟨⟨o,n⟩,hx⟩: ∃ x,M.cx.code[s.pc]? =some x:=⟨_,List.getElem?_eq_getElem hp⟩
   obtain ⟨g1,g2,_⟩:=hK.good s.pc ⟨o,n⟩ hx
   rw [Nat.zero_add] at g2
   have g2:o.pops≤D s.pc:=g2
   have hgx:M.cx.code.getD s.pc { op:= .stop }=⟨o,n⟩:=by rw [List.getD_eq_getElem?_getD,hx];rfl
   have hst:gI M.cx s=dy M.cx ⟨o,n⟩ { s with pc:=s.pc+1,steps:=s.steps+1,cov:=s.cov++[s.pc] }:=by unfold gI;rw [hgx]
   have hat:=pS hK hz3 hf
   have hsz:=tV (K:=M.cx) hz4
   have hss:=(jR (K:=M.cx) (s:=s)).1
   rw [jy,if_neg (by rw [hf];decide)] at hz1
   have hop:=xR M { s with pc:=s.pc+1,steps:=s.steps+1,cov:=s.cov++[s.pc] } ⟨o,n⟩ nv g1 ⟨hz3.iv.vl,hz3.iv.rv,hz3.iv.rs,hz3.iv.ac,hz3.iv.sn,hz3.iv.ar⟩ (show o.pops≤s.stack.length by omega) (by simp only;omega) (by simp only;omega) (by simp only;omega) hn
   have hcov:=rf M.cx ⟨o,n⟩ { s with pc:=s.pc+1,steps:=s.steps+1,cov:=s.cov++[s.pc] }
   rw [hst] at hz1 hat hsz hss
   have hmp:fU (kf s.cov) (s.pc:Int) (.agg #[])=kf (dy M.cx ⟨o,n⟩ { s with pc:=s.pc+1,steps:=s.steps+1,cov:=s.cov++[s.pc] }).cov:=by rw [hcov,rN]
   have hia:=sA M.P.c s.pc hp
   rw [show cL M.P.c s.pc=⟨o,n⟩ from hgx] at hia
   have hn24:=yw o
   have hpcl:s.pc < M.P.c.length:=hp
   generalize dy M.cx ⟨o,n⟩ { s with pc:=s.pc+1,steps:=s.steps+1,cov:=s.cov++[s.pc] }=E at hz1 hat hsz hss hop hcov hmp
   refine bz (hK8 _ ?_)
   clear hK8;try clear K8
   refine au (am (ai (aE _ (rfl:_=AV.mp _)) (bh rfl (ai (aN _ rfl rfl) (bv rfl rfl rfl (cG rfl rfl rfl (ai (ay _ aa rfl (by exact (rfl:_=some []))) ?_)))))))
   refine ai (tL _ _ _ Tryz.underlying175 Tryz.underlying3 rfl rfl rfl rfl rfl (uo _ _) hmp rfl) ?_
   refine aj (aq ?_)
   refine aO (σ':=aB 108 [(4,_),(8,_),(9,_),(10,_),(11,_)] [((4,0),_),((8,0),_),((10,0),_),((25,0),_),((22,0),_),((60,0),_),((61,0),_),((36,0),_),((4,9),_),((5,9),_)] [(4,9),(5,9),(60,0),(61,0)] [(4,9)]) kp ?_
   refine bE 9 [56,57,58,59,60,61,62,63,12] [(12,0)] ae ae rfl (aK rfl) (rfl:_=[_,_,_,_,_,_,_,_,_]) (rfl:_=[_]) ?_
   refine ap (_,[]) (fun τ=> aI _ aa rfl rfl rfl) ?_
   refine eE rfl ?_
   refine ap (_,[]) (fun τ=> aL _ aa rfl rfl (rfl:_=some (AV.sl _ _))) ?_
   refine eF rfl ?_
   refine ap (_,[]) (fun τ=> aE _ (rfl:_=AV.ptr _ _)) ?_
   refine eD rfl ?_
   refine ap (_,[]) (fun τ=> aN _ rfl rfl) ?_
   refine eI rfl ?_
   refine ap (_,[]) (fun τ=> aI _ aa rfl rfl rfl) ?_
   refine eU rfl ?_
   refine ap (_,[]) (fun τ=> aL _ aa rfl rfl (rfl:_=some (AV.v (.int _ _)))) ?_
   refine fh rfl ?_
   refine ap (_,[]) (fun τ=> bg _ _ aa rfl rfl _ rfl ab (by (simp only [ba,bo,bm,ba,bQ,gN];omega)) ag) ?_
   refine fZ rfl ?_
   refine ap (_,[]) (fun τ=> cj _ aa rfl (by exact hia) rfl) ?_
   refine jz rfl ?_
   refine ap (_,[((12,0),_)]) (fun τ=> ax (12,0) aa rfl rfl) ?_
   refine jC rfl (bi ⟨rfl,?_⟩)
   refine bL rfl rfl rfl rfl rfl rfl (aj (am (bh rfl (ai (aN _ rfl rfl) (bv rfl rfl rfl (cG rfl rfl rfl (ai (be (r:=((s.pc+1:Nat):Int)) _ _ rfl rfl ((br ab).trans ab)) ?_)))))))
   refine ai (aN _ rfl rfl) (bv rfl rfl rfl (bL rfl rfl rfl rfl rfl rfl (aj (aq ?_))))
   refine aO (σ':=aB 108 [(4,_),(8,_),(9,_),(10,_),(11,_),(12,_)] [((4,0),_),((8,0),_),((10,0),_),((25,0),_),((22,0),_),((60,0),_),((61,0),_),((36,0),_),((4,9),_),((5,9),_),((12,0),_)] [(4,9),(5,9),(60,0),(61,0)] [(4,9)]) kp ?_
   refine an (bh rfl (ai (aN _ rfl rfl) (bv rfl rfl rfl (bv rfl rfl rfl (cG rfl rfl rfl (ai (be (r:=((s.steps+1:Nat):Int)) _ _ rfl rfl ((br ab).trans ab)) ?_))))))
   refine ai (aN _ rfl rfl) (bv rfl rfl rfl (bv rfl rfl rfl (bL rfl rfl rfl rfl rfl rfl (aj ?_))))
   refine aO (σ':=aB 108 [(4,_),(8,_),(9,_),(10,_),(11,_),(12,_)] [((4,0),_),((8,0),_),((10,0),_),((25,0),_),((22,0),_),((60,0),_),((61,0),_),((36,0),_),((4,9),_),((5,9),_),((12,0),_)] [(4,9),(5,9),(60,0),(61,0)] [(4,9)]) kp ?_
   refine bE 7 [80,81,82,83,84,85,86] [] ae ae rfl (aK rfl) (rfl:_=[_,_,_,_,_,_,_]) (rfl:_=[_]) ?_
   refine ap (_,[]) (fun τ=> aI _ aa rfl rfl rfl) ?_
   refine eE rfl ?_
   refine ap (_,[]) (fun τ=> aL _ aa rfl rfl (rfl:_=some (AV.v (.int _ _)))) ?_
   refine eF rfl ?_
   refine ap (_,[]) (fun τ=> eg _ _ aa rfl rfl rfl o.num rfl ab (by exact (Nat.zero_add _).trans (Nat.mul_one _))) ?_
   refine eD rfl ?_
   refine ap (_,[]) (fun τ=> aL _ aa rfl rfl (by exact tX o)) ?_
   refine eI rfl ?_
   refine ap (_,[]) (fun τ=> aE _ (rfl:_=AV.ptr _ _)) ?_
   refine eU rfl ?_
   refine ap (_,[]) (fun τ=> aI _ aa rfl rfl rfl) ?_
   refine fh rfl ?_
   refine ap (_,[]) (fun τ=> aL _ aa rfl rfl (rfl:_=some (AV.v (.int _ _)))) ?_
   refine fZ rfl (bi ⟨rfl,?_⟩)
   refine cD ((Le.incT (87,0) rfl).trans ((Le.incT (87,1) rfl).trans (Le.incT (87,2) rfl))) ?_
   refine ai (kR rfl aa [((0,9),(25,0)),((1,9),(22,0)),((2,9),(60,0)),((3,9),(61,0)),((2,8),(87,0)),((3,8),(87,1)),((5,8),(87,2))] ?_ (hop) ob tr tr rfl (by clear hS hg hia hop;cases o <;> kernel_rfl) ae) ?_
   ·exact cq (dD rfl) (cq .v (si o))
   refine az (⟨(k,E),?_,?_,?_⟩)
   ·exact ⟨hz1,by simp only;omega,hat,hsz⟩
   ·skip
    refine Le.mkJ [((60,0),(87,0)),((61,0),(87,1)),((5,9),(87,2))] [] rfl ?_ ?_ trivial tr ?_
    ·exact ⟨(dD (id:=(4,0)) rfl),(dD (id:=(8,0)) rfl),(dD (id:=(25,0)) rfl),(dD (id:=(10,0)) rfl),(by repeat' (exact Lv.mp)),trivial⟩
    ·exact ⟨(fg rfl rfl rfl rfl (by repeat' (first | exact Lv.v | exact Lv.sl | exact bn | refine aC ?_ ?_))),(fg rfl rfl rfl rfl (by repeat' (first | exact Lv.v | exact bn | refine aC ?_ ?_))),(fg rfl rfl rfl rfl (by repeat' (first | exact Lv.v | exact Lv.fp | refine Lv.fn rfl ?_ rfl ?_ | exact bn | refine aC ?_ ?_))),(fg rfl rfl rfl rfl (aC (gP ag ag) (kC (kC (kC (kC (kX (kX (aC (gP ag ag) (rh (rh (kX (aC (by repeat' (first | exact dD (id:=(4,9)) rfl | refine Lv.fn rfl ?_ rfl ?_ | exact bn | refine aC ?_ ?_)) (aC (cX rfl ag) (aC (cX rfl ag) (kX (aC (gR ag) (aC (by repeat' (exact Lv.v)) lz)))))))))))))))))),(fJ rfl rfl rfl ag),(fJ rfl rfl rfl ag),(fJ rfl rfl rfl ag),(IQ rfl rfl rfl ag ag),(fg rfl rfl rfl rfl lz),(fJ rfl rfl rfl ag),trivial⟩
    ·kernel_rfl
   ·simp only;omega
  ·skip
   obtain rfl:k=0:=by omega
   obtain rfl:R=s:=hz1
   refine bK (id (hK7 _ ?_))
   clear hK7;try clear K7
   refine am (bh rfl (bh rfl (ai (aN _ rfl rfl) (bv rfl rfl rfl (Ek rfl rfl rfl (ai (cT (r:= !R.fin) _ rfl rfl) ?_))))))
   refine ai (aN _ rfl rfl) (bv rfl rfl rfl (bv rfl rfl rfl (bL rfl rfl rfl rfl rfl rfl (aj (aq ?_)))))
   refine aO (σ':=aB 108 [(8,_),(9,_),(11,_)] [((8,0),_),((25,0),_),((22,0),_),((60,0),_),((61,0),_),((36,0),_),((4,9),_),((5,9),_)] [(4,9),(5,9),(60,0),(61,0)] [(4,9)]) kp ?_
   refine an (bh rfl (ai (aE _ (rfl:_=AV.mp _)) (ai (cQ aa [((0,9),(36,0)),((1,8),(99,0))] ?_ (kj _ _) ⟨⟨rfl,⟨_,rfl, .mp⟩,rfl⟩,trivial⟩ tr tr rfl rfl ae ae) ?_)))
   ·exact cq (qx rfl) cW
   refine ai (cQ aa [((0,9),(36,0)),((1,9),(99,0))] ar (hS (kf R.cov) (by have:=ng R.cov;omega) (lI _) (qw _) (qr _ fun i hi=> Nat.le_trans (Nat.le_of_lt (hz3.cl i hi)) hc)) ⟨⟨rfl,⟨_,rfl, .mp⟩,rfl⟩,⟨rfl,⟨_,rfl, .box ag (aC (qx (id:=(0,9)) (id':=(36,0)) rfl) bn)⟩,rfl⟩,trivial⟩ tr tr rfl rfl ae ae) ?_
   refine ai (aN _ rfl rfl) (bv rfl rfl rfl (bv rfl rfl rfl (bL rfl rfl rfl rfl rfl rfl (aj (am (bh rfl (ai (aN _ rfl rfl) (bv rfl rfl rfl (ai (aP _ aa rfl rfl rfl rfl) (bL rfl rfl rfl rfl rfl rfl ?_))))))))))
   exact aj (aD (aY (.inr rfl) rfl (.cellA aa rfl rfl rfl) (Le.outI [((2,8),(60,0)),((5,8),(5,9))] [(22,0)] (.agg rfl (aC (gQ rfl rfl (by simp) rfl) lz)) rfl rfl rfl tr ob tr rfl)))
 ·skip
  have hf:s.fin=true:=by simpa using hg42
  obtain rfl:R=s:=hz1.trans (tP hf k)
  refine aU rfl rfl ah ?_
  refine aU rfl rfl ah ?_
  refine aU rfl rfl ah ?_
  refine aU rfl rfl ah ?_
  refine aU rfl rfl ah ?_
  refine aU rfl rfl ah ?_
  refine ai (aH _ _ _ rfl (rfl:_=AV.v (.bool _))) (az (hK9 _ ?_))
  clear hK9;try clear K9
  refine aR rfl rfl (bK (id (hK7 _ ?_)))
  clear hK7;try clear K7
  refine am (bh rfl (bh rfl (ai (aN _ rfl rfl) (bv rfl rfl rfl (Ek rfl rfl rfl (ai (cT (r:= !R.fin) _ rfl rfl) ?_))))))
  refine ai (aN _ rfl rfl) (bv rfl rfl rfl (bv rfl rfl rfl (bL rfl rfl rfl rfl rfl rfl (aj (aq ?_)))))
  refine aO (σ':=aB 108 [(8,_),(9,_),(11,_)] [((8,0),_),((25,0),_),((22,0),_),((60,0),_),((61,0),_),((36,0),_),((4,9),_),((5,9),_)] [(4,9),(5,9),(60,0),(61,0)] [(4,9)]) kp ?_
  refine an (bh rfl (ai (aE _ (rfl:_=AV.mp _)) (ai (cQ aa [((0,9),(36,0)),((1,8),(99,0))] ?_ (kj _ _) ⟨⟨rfl,⟨_,rfl, .mp⟩,rfl⟩,trivial⟩ tr tr rfl rfl ae ae) ?_)))
  ·exact cq (qx rfl) cW
  refine ai (cQ aa [((0,9),(36,0)),((1,9),(99,0))] ar (hS (kf R.cov) (by have:=ng R.cov;omega) (lI _) (qw _) (qr _ fun i hi=> Nat.le_trans (Nat.le_of_lt (hz3.cl i hi)) hc)) ⟨⟨rfl,⟨_,rfl, .mp⟩,rfl⟩,⟨rfl,⟨_,rfl, .box ag (aC (qx (id:=(0,9)) (id':=(36,0)) rfl) bn)⟩,rfl⟩,trivial⟩ tr tr rfl rfl ae ae) ?_
  refine ai (aN _ rfl rfl) (bv rfl rfl rfl (bv rfl rfl rfl (bL rfl rfl rfl rfl rfl rfl (aj (am (bh rfl (ai (aN _ rfl rfl) (bv rfl rfl rfl (ai (aP _ aa rfl rfl rfl rfl) (bL rfl rfl rfl rfl rfl rfl ?_))))))))))
  exact aj (aD (aY (.inr rfl) rfl (.cellA aa rfl rfl rfl) (Le.outI [((2,8),(60,0)),((5,8),(5,9))] [(22,0)] (.agg rfl (aC (gQ rfl rfl (by simp) rfl) lz)) rfl rfl rfl tr ob tr rfl)))

abbrev Cc:Prop:= ∀ (M:List (Int×Value)) (g b:Nat) (w:World),M.length≤1000000→(M.map (·.1)).Nodup→(∀ p∈M,0≤p.1∧p.1≤1000000)→g < w.heap.size→w.cell? ⟨g,0,none⟩=some (.map (some b))→w.heap[b]? =some (.map (eb M).toArray M.length)→
  Calls Tryz.prog 94 #[.func (.func 158) #[] #[.pointer (some ⟨g,0,none⟩)]] w fun e w'=> ∃ (v:Value) (ss:List Int),e= .returned v∧ss.Perm (M.map (·.1))∧
    w'.ownsRow w.heap.size 3 1 v ss.length ((ss.mergeSort (fun x y=> decide (x≤y))).map fun x=> Value.int .i64 x)∧Below w.heap.size w w'
theorem qS {l m:List Int} (h:l.Perm m):l.mergeSort (fun x y=> decide (x≤y))=m.mergeSort (fun x y=> decide (x≤y)):=by
  have tr: ∀ a b c:Int,decide (a≤b)=true→decide (b≤c)=true→decide (a≤c)=true:=fun a b c h1 h2=> by
    simp only [decide_eq_true_eq] at*;omega
  have tt: ∀ a b:Int,(decide (a≤b) || decide (b≤a))=true:=fun a b=> by simp only [Bool.or_eq_true,decide_eq_true_eq];omega
  have p1:=List.pairwise_mergeSort (le:=fun x y:Int=> decide (x≤y)) tr tt l
  have p2:=List.pairwise_mergeSort (le:=fun x y:Int=> decide (x≤y)) tr tt m
  exact ((List.mergeSort_perm l _).trans (h.trans (List.mergeSort_perm m _).symm)).eq_of_pairwise (le:=fun x y:Int=> decide (x≤y)=true) (fun a b _ _ h1 h2=> by simp only [decide_eq_true_eq] at h1 h2;omega) p1 p2
theorem yK (hC:Cc):uz:=by
  intro M hlen hval hnd hrg K ι S vs w hw0 hrd R
  obtain ⟨B1,g1,b1,b2,b3,b4⟩:=R.ob (1,9) (.box 175 [.mp (0,9)]) rfl
  obtain ⟨B0,g0,c1,c2,c3⟩:=R.ob (0,9) (.mp (eb M) M.length) rfl
  have hnt:vs.size=1:=R.nt
  have hf:Rep ι S w (.fn (.func 158) [] [.ptr (1,9) 0]) (vs.getD 0 undef):=R.fr 0 (by show 0 < 1;omega)
  have hvs:vs= #[.func (.func 158) #[] #[.pointer (some ⟨g1,0,none⟩)]]:=by
    generalize hx:vs.getD 0 undef=x at hf
    have hvx:vs= #[x]:=by
      apply Array.ext
      · rw [hnt];rfl
      · intro i h1 h2
        have:i=0:=by omega
        subst this
        simp only [Array.getD_eq_getD_getElem?,Array.getElem?_eq_getElem h1,Option.getD_some] at hx
        rw [hx];rfl
    rw [hvx]
    cases hf with
    | fn a1 a2 a3 a4=>
    rename_i us ws
    obtain rfl:us= #[]:=Array.size_eq_zero_iff.1 (by simpa using a1)
    have h0:=a4 0 (.ptr (1,9) 0) rfl
    have hws:ws.size=1:=a2
    generalize hy:ws.getD 0 undef=y at h0
    have hwy:ws= #[y]:=by
      apply Array.ext
      · rw [hws];rfl
      · intro i h1 h2
        have:i=0:=by omega
        subst this
        simp only [Array.getD_eq_getD_getElem?,Array.getElem?_eq_getElem h1,Option.getD_some] at hy
        rw [hy];rfl
    rw [hwy]
    cases h0 with
    | ptr h _=>
    obtain ⟨g',hg',rfl⟩:=h B1 b1
    rw [b2] at hg'
    obtain rfl:=Option.some.inj hg'
    rfl
  have hbox: ∃ cur e,w.heap[g1]? =some (.cells cur e (0,0))∧cur[0]? =some (.map (some g0)):=by
    rcases b4 with ⟨d1,_⟩ | ⟨g,cur,d1,d2,d3,d4,d5⟩
    · rw [b2] at d1;cases d1
    · rw [b2] at d1
      obtain rfl:=Option.some.inj d1
      obtain ⟨u,u1,u2,u3⟩:=d5 0 (by simp)
      have:=u3 (.mp (0,9)) rfl
      cases this with
      | mp h _=>
      obtain ⟨g',hg',rfl⟩:=h B0 c1
      rw [c2] at hg'
      obtain rfl:=Option.some.inj hg'
      exact ⟨cur,_,d2,u1⟩
  obtain ⟨cur1,e1,hh1,hc1⟩:=hbox
  have hlt:g1 < w.heap.size:=(Array.getElem?_eq_some_iff.1 hh1).1
  subst hvs
  refine (hC M g1 g0 w hlen hnd hrg hlt (ec hh1 hc1) c3).mono ?_
  rintro e w' ⟨v,ss,rfl,hp,hrow,hbl⟩
  have hsrt:ss.mergeSort (fun x y=> decide (x≤y))=gK M:=qS hp
  have hsl:ss.length=(gK M).length:=by rw [← hsrt,List.length_mergeSort]
  rw [hsrt,hsl] at hrow
  have fin: ∀ (S':Nat→Prop),(∀ g,S g→S' g)→(∀ g,S' g→S g∨w.heap.size≤g)→(∀ g,S' g→g < w'.heap.size)→Rd S' w' (.sl (gK M).length (cR (gK M))) v→ ∃ v2 ι' S',Ending.returned v=Ending.returned v2∧RelI K ι' S' (bj (.sl (gK M).length (cR (gK M))) [((0,9), .mp (eb M) M.length),((1,9), .box 175 [.mp (0,9)])] [(0,9),(1,9)] [(0,9),(1,9)]) ⟨#[v2],[]⟩ w':=by
    intro S' g1 g2 g3 hrd
    have R3:=R.gen (ι':=ι) (S':=S') (w':=w') (ob':=(bc [.fn (.func 158) [] [.ptr (1,9) 0]] [((0,9), .mp (eb M) M.length),((1,9), .box 175 [.mp (0,9)])]).ob) (inc':=(bc [.fn (.func 158) [] [.ptr (1,9) 0]] [((0,9), .mp (eb M) M.length),((1,9), .box 175 [.mp (0,9)])]).inc) (fun _=> False) (.of_below hbl) (fun _ _=> rfl) (fun _ _=> rfl) (fun _ _=> rfl) (fun _ h=> h) g1
      (fun g h=> by rcases g2 g h with h | h; · exact .inl h
                    · exact .inr (.inl h)) g3
      (fun _ _ h=> h.elim) (fun _ _ h=> h.elim) (fun _ _ h=> h.elim) (fun _ _ _ _ _ h=> h.elim) (fun _ _ _ h=> h.elim) (fun _ _ _ h=> h.elim)
    refine ⟨v,ι,S',rfl,R3.keeps,R3.S0,R3.Slt,rfl,R3.df,fun t ht=> ?_,fun t id hh=> ?_,R3.clo,R3.ob,R3.dom,R3.inj,R3.sep,R3.pin,R3.pf⟩
    · obtain rfl:t=0:=by have:t < 1:=ht;omega
      exact .sl hrd
    · cases t with
      | zero=> exact absurd hh mC
      | succ t=> exact absurd hh (fun h=> by cases h)
  rcases hrow.2 with ⟨hv,hz⟩ | ⟨g,cap,cur,hv,hbase,hg,r1,r2,r3,r4⟩
  · subst hv
    have hn:gK M=[]:=List.eq_nil_of_length_eq_zero hz
    refine fin S (fun _ h=> h) (fun _ h=> .inl h) (fun g h=> Nat.lt_of_lt_of_le (R.Slt g h) hbl.size) ?_
    rw [hn]
    exact .sl0 (Nat.le_refl _) (by unfold maxLen;omega) fun _=> ⟨rfl,rfl⟩
  · subst hv
    refine fin (fun k=> S k∨k=g) (fun _ h=> .inl h) (fun k h=> ?_) (fun k h=> ?_) ?_
    · rcases h with h | h
      · exact .inl h
      · exact .inr (by rw [h];exact hbase)
    · rcases h with h | h
      · exact Nat.lt_of_lt_of_le (R.Slt k h) hbl.size
      · rw [h];exact (Array.getElem?_eq_some_iff.1 hg).1
    · have key: ∀ (j:Nat) (p:PV),(cR (gK M))[j]? =some p→ ∃ x:Int,p= .v (.int .i64 x)∧cur[j]? =some (.int .i64 x):=by
        intro j p hj
        rw [cR,List.getElem?_map] at hj
        obtain ⟨x,hx,rfl⟩:=Option.map_eq_some_iff.1 hj
        refine ⟨x,rfl,?_⟩
        have h5:(cur.toList.take ((gK M).length*1))[j]? =some (.int .i64 x):=by rw [r4,List.getElem?_map,hx];rfl
        rw [List.getElem?_take] at h5
        split at h5
        · simpa using h5
        · cases h5
      refine Rd.sl (o:=0) (fun j=> cur.getD j undef) r1 r2 (.mk (.inr rfl) hg) (fun j p hj=> ?_) (fun j p hj=> ?_)
      · obtain ⟨x,_,hu⟩:=key j p hj
        simp only [Nat.zero_add,Array.getD_eq_getD_getElem?,hu,Option.getD_some]
        exact ec hg hu
      · obtain ⟨x,rfl,hu⟩:=key j p hj
        simp only [Array.getD_eq_getD_getElem?,hu,Option.getD_some]
        exact .v rfl
end Go.Proofs.YtmjnackchaahbaaGreat
