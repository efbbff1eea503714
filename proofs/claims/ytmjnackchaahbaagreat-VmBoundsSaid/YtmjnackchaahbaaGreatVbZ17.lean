/- Part 17 of the texts that the walk leans on: the machine, the walks, the plain laws. -/
import Derived.Test.YtmjnackchaahbaaGreatVbZ16
set_option linter.unusedSimpArgs false
set_option linter.unusedVariables false
namespace Go.Proofs.YtmjnackchaahbaaGreat
open Go.RowKit

section
variable (M:Mk) (s:Ms) (dr se:Int)
theorem Al (n:Int) (hs:s.stack.length≤90000):
  Spec Tryz.prog 127 (be [.ptr (0,9) 0, .v (.int .i64 n)] (kL M s dr se)) (bg (.tup []) (kA M { s with stack:=s.stack++[mj n] } dr se (2,8) (3,8) (5,8)) [(0,9),(1,9),(2,8),(3,8),(4,9),(5,8)] [(0,9),(1,9),(4,9)]):=by
 refine Spec.ofNI Tryz.func127 rfl Tryz.ntmps127 rfl ?_
 refine an (bi rfl (aQ rfl (cD (Le.incT (6,0) rfl) ?_)))
 refine ai (bp aa [((3,8),(6,0))] ar (ea M s dr se n ab) ob tr tr rfl ae ae) ?_
 exact az (eN (.inl rfl) rfl (Le.outI [((2,8),(2,9)),((3,8),(6,0)),((5,8),(5,9))] [] (.tup rfl bu) rfl rfl rfl trivial ob tr rfl))
theorem zV (k:Nat) (hk:k < s.vars.length) (hs:s.stack.length≤90000):
  Spec Tryz.prog 128 (be [.ptr (0,9) 0, .v (.int .i64 (k:Int))] (kL M s dr se)) (bg (.tup []) (kA M { s with stack:=s.stack++[mj (s.vars.getD k 0)] } dr se (2,8) (3,8) (5,8)) [(0,9),(1,9),(2,8),(3,8),(4,9),(5,8)] [(0,9),(1,9),(4,9)]):=by
 refine Spec.ofNI Tryz.func128 rfl Tryz.ntmps128 rfl ?_
 refine an (bi rfl (bi rfl (ai (aS _ rfl rfl) (bA rfl rfl rfl (bA rfl rfl rfl (ai (aK _ aa rfl rfl (rfl:_=some (AV.ref _ _ _))) (aQ rfl (ai (gI _ _ aa rfl rfl rfl _ rfl ab (by exact (Nat.zero_add _).trans (Nat.mul_one _))) ?_))))))))
 refine ai (kM _ aa rfl rfl (by exact dH _ _ ab) rfl) ?_
 refine cD (Le.incT (13,0) rfl) ?_
 refine ai (bp aa [((3,8),(13,0))] ar (ea M s dr se (s.vars.getD k 0) ab) ob tr tr rfl ae ae) ?_
 exact az (eN (.inl rfl) rfl (Le.outI [((2,8),(2,9)),((3,8),(13,0)),((5,8),(5,9))] [] (.tup rfl bu) rfl rfl rfl trivial ob tr rfl))
theorem xa (n:Int) (ha:s.acts.length≤90000):
  Spec Tryz.prog 150 (be [.ptr (0,9) 0, .v (.int .i64 n)] (kL M s dr se)) (bg (.tup []) (kA M { s with acts:=s.acts++[{ k:=4,a:=n }] } dr se (2,8) (3,8) (5,8)) [(0,9),(1,9),(2,8),(3,8),(4,9),(5,8)] [(0,9),(1,9),(4,9)]):=by
 refine Spec.ofNI Tryz.func150 rfl Tryz.ntmps150 rfl ?_
 refine an (bi rfl (aQ rfl (cD (Le.incT (6,0) rfl) ?_)))
 refine ai (bp aa [((2,8),(6,0))] ar (fC M s dr se 4 n 0 0 0 ab) ob tr tr rfl ae ae) ?_
 exact az (eN (.inl rfl) rfl (Le.outI [((2,8),(6,0)),((3,8),(3,9)),((5,8),(5,9))] [] (.tup rfl bu) rfl rfl rfl trivial ob tr rfl))
theorem uQ (n:Int) (ha:s.acts.length≤90000):
  Spec Tryz.prog 151 (be [.ptr (0,9) 0, .v (.int .i64 n)] (kL M s dr se)) (bg (.tup []) (kA M { s with acts:=s.acts++[{ k:=5,a:=n }] } dr se (2,8) (3,8) (5,8)) [(0,9),(1,9),(2,8),(3,8),(4,9),(5,8)] [(0,9),(1,9),(4,9)]):=by
 refine Spec.ofNI Tryz.func151 rfl Tryz.ntmps151 rfl ?_
 refine an (bi rfl (aQ rfl (cD (Le.incT (6,0) rfl) ?_)))
 refine ai (bp aa [((2,8),(6,0))] ar (fC M s dr se 5 n 0 0 0 ab) ob tr tr rfl ae ae) ?_
 exact az (eN (.inl rfl) rfl (Le.outI [((2,8),(6,0)),((3,8),(3,9)),((5,8),(5,9))] [] (.tup rfl bu) rfl rfl rfl trivial ob tr rfl))
theorem Aw (n:Int) (ha:s.acts.length≤90000):
  Spec Tryz.prog 152 (be [.ptr (0,9) 0, .v (.int .i64 n)] (kL M s dr se)) (bg (.tup []) (kA M { s with acts:=s.acts++[{ k:=2 }] } dr se (2,8) (3,8) (5,8)) [(0,9),(1,9),(2,8),(3,8),(4,9),(5,8)] [(0,9),(1,9),(4,9)]):=by
 refine Spec.ofNI Tryz.func152 rfl Tryz.ntmps152 rfl ?_
 refine an (bi rfl (cD (Le.incT (5,0) rfl) ?_))
 refine ai (bp aa [((2,8),(5,0))] ar (fC M s dr se 2 0 0 0 0 ab) ob tr tr rfl ae ae) ?_
 exact az (eN (.inl rfl) rfl (Le.outI [((2,8),(5,0)),((3,8),(3,9)),((5,8),(5,9))] [] (.tup rfl bu) rfl rfl rfl trivial ob tr rfl))
theorem As (n:Int):
  Spec Tryz.prog 155 (be [.ptr (0,9) 0, .v (.int .i64 n)] (kL M s dr se)) (bg (.tup []) (kA M { s with fin:=true } dr se (2,8) (3,8) (5,8)) [(0,9),(1,9),(2,8),(3,8),(4,9),(5,8)] [(0,9),(1,9),(4,9)]):=by
 refine Spec.ofNI Tryz.func155 rfl Tryz.ntmps155 rfl ?_
 exact an (bi rfl (ai (aS _ rfl rfl) (bA rfl rfl rfl (bO rfl rfl rfl rfl rfl rfl (az (eN (.inl rfl) rfl (Le.outI [((2,8),(2,9)),((3,8),(3,9)),((5,8),(5,9))] [] (.tup rfl bu) rfl rfl rfl trivial ob tr rfl)))))))
theorem zW (n:Nat):
  Spec Tryz.prog 147 (be [.ptr (0,9) 0, .v (.int .i64 (n:Int))] (kL M s dr se)) (bg (.tup []) (kA M { s with pc:=n } dr se (2,8) (3,8) (5,8)) [(0,9),(1,9),(2,8),(3,8),(4,9),(5,8)] [(0,9),(1,9),(4,9)]):=by
 refine Spec.ofNI Tryz.func147 rfl Tryz.ntmps147 rfl ?_
 exact an (bi rfl (aQ rfl (ai (aS _ rfl rfl) (bA rfl rfl rfl (bO rfl rfl rfl rfl rfl rfl (az (eN (.inl rfl) rfl (Le.outI [((2,8),(2,9)),((3,8),(3,9)),((5,8),(5,9))] [] (.tup rfl bu) rfl rfl rfl trivial ob tr rfl))))))))
theorem AB (n:Int) (hs:s.stack.length≤90000) (h0:0 < s.stack.length) (hr:Rg (s.top 0)):
  Spec Tryz.prog 141 (be [.ptr (0,9) 0, .v (.int .i64 n)] (kL M s dr se)) (bg (.tup []) (kA M { s with stack:=s.pop 1++[mj (-(s.top 0))] } dr se (2,8) (3,8) (5,8)) [(0,9),(1,9),(2,8),(3,8),(4,9),(5,8)] [(0,9),(1,9),(4,9)]):=by
 unfold Rg at hr
 refine Spec.ofNI Tryz.func141 rfl Tryz.ntmps141 rfl ?_
 refine an (bi rfl (bi rfl (cD (Le.incT (6,0) rfl) ?_)))
 refine ai (bp aa [((3,8),(6,0))] ar (bW M s dr se ab h0) ob tr tr rfl ae ae) ?_
 refine ai (tu (r:= -(s.top 0)) _ rfl (bq ab)) ?_
 refine cD (Le.incT (8,0) rfl) ?_
 refine ai (bp aa [((3,9),(6,0)),((3,8),(8,0))] ar (ea M { s with stack:=s.pop 1 } dr se (-(s.top 0)) (by have:=cr s 1;simp only;omega)) ob tr tr rfl ae ae) ?_
 exact az (eN (.inl rfl) rfl (Le.outI [((2,8),(2,9)),((3,8),(8,0)),((5,8),(5,9))] [] (.tup rfl bu) rfl rfl rfl trivial ob tr rfl))
theorem xv (n:Int) (hs:s.stack.length≤90000) (ha:s.acts.length≤90000) (h0:0 < s.stack.length):
  Spec Tryz.prog 154 (be [.ptr (0,9) 0, .v (.int .i64 n)] (kL M s dr se)) (bg (.tup []) (kA M { s with stack:=s.pop 1,acts:=s.acts++[{ k:=7,a:=s.top 0 }] } dr se (2,8) (3,8) (5,8)) [(0,9),(1,9),(2,8),(3,8),(4,9),(5,8)] [(0,9),(1,9),(4,9)]):=by
 refine Spec.ofNI Tryz.func154 rfl Tryz.ntmps154 rfl ?_
 refine an (bi rfl (bi rfl (cD (Le.incT (6,0) rfl) ?_)))
 refine ai (bp aa [((3,8),(6,0))] ar (bW M s dr se ab h0) ob tr tr rfl ae ae) ?_
 refine cD (Le.incT (7,0) rfl) ?_
 refine ai (bp aa [((3,9),(6,0)),((2,8),(7,0))] ar (fC M { s with stack:=s.pop 1 } dr se 7 (s.top 0) 0 0 0 (by simp only;omega)) ob tr tr rfl ae ae) ?_
 exact az (eN (.inl rfl) rfl (Le.outI [((2,8),(7,0)),((3,8),(6,0)),((5,8),(5,9))] [] (.tup rfl bu) rfl rfl rfl trivial ob tr rfl))
end

section
variable (M:Mk) (s:Ms) (dr se:Int)
theorem xj (k:Nat) (hk:k < s.vars.length) (hs:s.stack.length≤90000) (ha:s.acts.length≤90000) (h0:0 < s.stack.length) (hd:k < M.P.d):
  Spec Tryz.prog 130 (be [.ptr (0,9) 0, .v (.int .i64 (k:Int))] (kL M s dr se)) (bg (.tup []) (kA M { s with vars:=s.vars.set k (s.top 0),stack:=s.pop 1,acts:=s.acts++[{ k:=1,a:=k,b:=s.top 0 }] } dr se (2,8) (3,8) (5,8)) [(0,9),(1,9),(2,8),(3,8),(4,9),(5,8)] [(0,9),(1,9),(4,9)]):=by
 have hl:(s.vars.set k (s.top 0)).length=s.vars.length:=List.length_set
 have hg:=dH (s.vars.set k (s.top 0)) k (by rw [hl];exact hk)
 rw [List.getD_eq_getElem?_getD,List.getElem?_set_self hk] at hg
 refine Spec.ofNI Tryz.func130 rfl Tryz.ntmps130 rfl ?_
 refine ap ?_
 refine aN (Le.incT (11,0) rfl) ?_
 refine uB (0,9) (fun c=> ∃ xs,c=Slot.obj (.box 171 xs)∧xs[54]? =some (.ref (1,9) 0 s.vars.length)) 8 [4,5,6,7,8,9,10,11] [(0,9),(1,9),(2,9),(11,0),(4,9),(5,9),(3,9)] ae ae rfl (aM rfl) (rfl:_=[_,_,_,_,_,_,_,_]) (rfl:_=[_,_]) (⟨_,rfl,rfl⟩) ?_
 refine fg (_,[]) (fun τ hτ=> aE _ (rfl:_=AV.ptr _ _)) ?_
 refine ff (rfl:_=[_]) ?_
 refine fg (_,[]) (fun τ hτ=> aS _ rfl (by exact hτ.choose_spec.1)) ?_
 refine ff (rfl:_=[_,_]) ?_
 refine fg (_,[]) (fun τ hτ=> aH _ aa rfl (by exact hτ.choose_spec.1) rfl) ?_
 refine ff (rfl:_=[_,_,_]) ?_
 refine fg (_,[]) (fun τ hτ=> aH _ aa rfl (by exact hτ.choose_spec.1) rfl) ?_
 refine ff (rfl:_=[_,_,_,_]) ?_
 refine fg (_,[]) (fun τ hτ=> aK _ aa rfl (by exact hτ.choose_spec.1) (by exact hτ.choose_spec.2)) ?_
 refine ff (rfl:_=[_,_,_,_,_]) ?_
 refine fg (_,[]) (fun τ hτ=> aE _ (rfl:_=AV.v (.int _ _))) ?_
 refine ff (rfl:_=[_,_,_,_,_,_]) ?_
 refine fg (_,[]) (fun τ hτ=> aE _ (rfl:_=AV.ptr _ _)) ?_
 refine ff (rfl:_=[_,_,_,_,_,_,_]) ?_
 refine fg (_,[((0,9),_),((1,9),_),((2,9),_),((11,0),_),((4,9),_),((5,9),_),((3,9), .gone)]) (fun τ hτ=> (bp aa [((3,8),(11,0))] ar (bW M s dr se ab h0) ob tr tr rfl ae ae)) ?_
 refine ff (rfl:_=[_,_,_,_,_,_,_,_]) ?_
 refine rK ⟨⟨rfl,(by intro r hr c hc;simp only [List.mem_cons,List.not_mem_nil,or_false] at hr;rcases hr with rfl | rfl | rfl | rfl | rfl | rfl | rfl | rfl <;> simp at hc;subst hc;exact ⟨_,rfl,rfl⟩)⟩,?_⟩
 refine ai (gI _ _ aa rfl rfl rfl _ rfl ab (by exact (Nat.zero_add _).trans (Nat.mul_one _))) ?_
 refine ai (nY _ _ aa rfl rfl rfl rfl rfl (by rw [ba];exact hk) (li s.vars k (s.top 0) hk)) ?_
 refine aj (am (aQ rfl (bi rfl (ai (aS _ rfl rfl) (bA rfl rfl rfl (bA rfl rfl rfl (cC rfl rfl rfl (ai (bo _ _ rfl rfl rfl) (aj (bD rfl (decide_eq_true ab) ?_))))))))))
 refine aN (σ':=aB 31 [(0,_),(1,_)] [((0,9),_),((1,9),_),((2,9),_),((4,9),_),((5,9),_),((11,0),_)] [(0,9),(1,9),(2,9),(4,9),(5,9),(11,0)] [(0,9),(1,9),(4,9)]) kp ?_
 refine an (bi rfl (aQ rfl (bi rfl (ai (aS _ rfl rfl) (bA rfl rfl rfl (bA rfl rfl rfl (ai (aK _ aa rfl rfl (rfl:_=some (AV.ref _ _ _))) (aQ rfl (ai (gI _ _ aa rfl rfl rfl _ rfl ab (by exact (Nat.zero_add _).trans (Nat.mul_one _))) ?_)))))))))
 refine ai (kM _ aa rfl rfl (by exact hg) rfl) ?_
 refine cD (Le.incT (30,0) rfl) ?_
 refine ai (bp aa [((3,9),(11,0)),((2,8),(30,0))] ar (fC M { s with vars:=s.vars.set k (s.top 0),stack:=s.pop 1 } dr se 1 (k:Int) (s.top 0) 0 0 (by simp only;omega)) ⟨⟨rfl,⟨_,rfl, .box ag (aI .sl (wC (wC (wC (wC (aI .v (aI .v (aI .sl (Ey (Ey (aI .v (aI (.fn rfl lz rfl bu) (aI (dh (id:=(1,9)) (id':=(1,9)) rfl hl) lz)))))))))))))⟩,rfl⟩,⟨rfl,⟨_,rfl, .rowE rfl⟩,rfl⟩,⟨rfl,⟨_,rfl, .rowE rfl⟩,rfl⟩,⟨rfl,⟨_,rfl, .rowE rfl⟩,rfl⟩,⟨rfl,⟨_,rfl, .box ag lz⟩,rfl⟩,⟨rfl,⟨_,rfl, .rowE rfl⟩,rfl⟩,trivial⟩ tr tr rfl ae ae) ?_
 exact az (eN (.inl rfl) rfl (Le.outI [((2,8),(30,0)),((3,8),(11,0)),((5,8),(5,9))] [] (.tup rfl bu) rfl rfl rfl trivial ob tr rfl))
theorem yO (k:Nat) (hk:k < s.vars.length) (hs:s.stack.length≤90000) (h0:0 < s.stack.length) (hd:M.P.d≤k):
  Spec Tryz.prog 130 (be [.ptr (0,9) 0, .v (.int .i64 (k:Int))] (kL M s dr se)) (bg (.tup []) (kA M { s with vars:=s.vars.set k (s.top 0),stack:=s.pop 1 } dr se (2,8) (3,8) (5,8)) [(0,9),(1,9),(2,8),(3,8),(4,9),(5,8)] [(0,9),(1,9),(4,9)]):=by
 have hl:(s.vars.set k (s.top 0)).length=s.vars.length:=List.length_set
 have hg:=dH (s.vars.set k (s.top 0)) k (by rw [hl];exact hk)
 rw [List.getD_eq_getElem?_getD,List.getElem?_set_self hk] at hg
 refine Spec.ofNI Tryz.func130 rfl Tryz.ntmps130 rfl ?_
 refine ap ?_
 refine aN (Le.incT (11,0) rfl) ?_
 refine uB (0,9) (fun c=> ∃ xs,c=Slot.obj (.box 171 xs)∧xs[54]? =some (.ref (1,9) 0 s.vars.length)) 8 [4,5,6,7,8,9,10,11] [(0,9),(1,9),(2,9),(11,0),(4,9),(5,9),(3,9)] ae ae rfl (aM rfl) (rfl:_=[_,_,_,_,_,_,_,_]) (rfl:_=[_,_]) (⟨_,rfl,rfl⟩) ?_
 refine fg (_,[]) (fun τ hτ=> aE _ (rfl:_=AV.ptr _ _)) ?_
 refine ff (rfl:_=[_]) ?_
 refine fg (_,[]) (fun τ hτ=> aS _ rfl (by exact hτ.choose_spec.1)) ?_
 refine ff (rfl:_=[_,_]) ?_
 refine fg (_,[]) (fun τ hτ=> aH _ aa rfl (by exact hτ.choose_spec.1) rfl) ?_
 refine ff (rfl:_=[_,_,_]) ?_
 refine fg (_,[]) (fun τ hτ=> aH _ aa rfl (by exact hτ.choose_spec.1) rfl) ?_
 refine ff (rfl:_=[_,_,_,_]) ?_
 refine fg (_,[]) (fun τ hτ=> aK _ aa rfl (by exact hτ.choose_spec.1) (by exact hτ.choose_spec.2)) ?_
 refine ff (rfl:_=[_,_,_,_,_]) ?_
 refine fg (_,[]) (fun τ hτ=> aE _ (rfl:_=AV.v (.int _ _))) ?_
 refine ff (rfl:_=[_,_,_,_,_,_]) ?_
 refine fg (_,[]) (fun τ hτ=> aE _ (rfl:_=AV.ptr _ _)) ?_
 refine ff (rfl:_=[_,_,_,_,_,_,_]) ?_
 refine fg (_,[((0,9),_),((1,9),_),((2,9),_),((11,0),_),((4,9),_),((5,9),_),((3,9), .gone)]) (fun τ hτ=> (bp aa [((3,8),(11,0))] ar (bW M s dr se ab h0) ob tr tr rfl ae ae)) ?_
 refine ff (rfl:_=[_,_,_,_,_,_,_,_]) ?_
 refine rK ⟨⟨rfl,(by intro r hr c hc;simp only [List.mem_cons,List.not_mem_nil,or_false] at hr;rcases hr with rfl | rfl | rfl | rfl | rfl | rfl | rfl | rfl <;> simp at hc;subst hc;exact ⟨_,rfl,rfl⟩)⟩,?_⟩
 refine ai (gI _ _ aa rfl rfl rfl _ rfl ab (by exact (Nat.zero_add _).trans (Nat.mul_one _))) ?_
 refine ai (nY _ _ aa rfl rfl rfl rfl rfl (by rw [ba];exact hk) (li s.vars k (s.top 0) hk)) ?_
 refine aj (am (aQ rfl (bi rfl (ai (aS _ rfl rfl) (bA rfl rfl rfl (bA rfl rfl rfl (cC rfl rfl rfl (ai (bo _ _ rfl rfl rfl) (aj (aP rfl (decide_eq_false ab) ?_))))))))))
 exact bv (eN (.inl rfl) rfl (Le.outI [((2,8),(2,9)),((3,8),(11,0)),((5,8),(5,9))] [] (.tup rfl bu) rfl rfl rfl trivial ⟨⟨rfl,⟨_,rfl, .box rfl (aI .sl (wC (wC (wC (wC (aI .v (aI .v (aI .sl (Ey (Ey (aI .v (aI (.fn rfl lz rfl bu) (aI (dh rfl hl) lz)))))))))))))⟩,rfl⟩,⟨rfl,⟨_,rfl, .rowE rfl⟩,rfl⟩,⟨rfl,⟨_,rfl, .rowE rfl⟩,rfl⟩,⟨rfl,⟨_,rfl, .rowE rfl⟩,rfl⟩,⟨rfl,⟨_,rfl, .box rfl lz⟩,rfl⟩,⟨rfl,⟨_,rfl, .rowE rfl⟩,rfl⟩,trivial⟩ tr rfl))
end

section
variable (M:Mk) (s:Ms) (dr se:Int)
theorem DK (ac st:aG) (k:Nat) (hk:k < 9):(KE M s dr se ac st)[44+k]? =some (.v (.int .i64 (M.nm k))):=by
 rcases k with _ | _ | _ | _ | _ | _ | _ | _ | _ | k
 all_goals first | rfl | omega
theorem eP (j k:Nat) (h:j+k < s.stack.length):({ s with stack:=s.pop k }:Ms).top j=s.top (j+k):=by
 unfold Ms.top Ms.pop
 simp only [List.length_take]
 rw [List.getD_eq_getElem?_getD,List.getD_eq_getElem?_getD,List.getElem?_take_of_lt ab]
 congr 2;omega
theorem eQ (j k:Nat):({ s with stack:=s.pop k }:Ms).pop j=s.pop (j+k):=by
 unfold Ms.pop
 simp only [List.length_take,List.take_take]
 congr 1;omega
theorem yq (k:Nat) (hk:k < 9) (hs:s.stack.length≤90000):
  Spec Tryz.prog 133 (be [.ptr (0,9) 0, .v (.int .i64 (k:Int))] (kL M s dr se)) (bg (.tup []) (kA M { s with stack:=s.stack++[mj (M.nm k)] } dr se (2,8) (3,8) (5,8)) [(0,9),(1,9),(2,8),(3,8),(4,9),(5,8)] [(0,9),(1,9),(4,9)]):=by
 refine Spec.ofNI Tryz.func133 rfl Tryz.ntmps133 rfl ?_
 refine an (bi rfl (bi rfl (aQ rfl (ai (aS _ rfl rfl) (bA rfl rfl rfl (bA rfl rfl rfl (ai (eD _ _ aa rfl rfl rfl k rfl ab (by exact congrArg (fun z=> 0+43+1+z) (Nat.mul_one k))) ?_)))))))
 refine ai (aK _ aa rfl rfl (by exact (congrArg (fun z=> (KE M s dr se (2,9) (3,9))[z]?) ab).trans (DK M s dr se (2,9) (3,9) k hk))) ?_
 refine cD (Le.incT (12,0) rfl) ?_
 refine ai (bp aa [((3,8),(12,0))] ar (ea M s dr se (M.nm k) ab) ob tr tr rfl ae ae) ?_
 exact az (eN (.inl rfl) rfl (Le.outI [((2,8),(2,9)),((3,8),(12,0)),((5,8),(5,9))] [] (.tup rfl bu) rfl rfl rfl trivial ob tr rfl))
theorem Bs (n:Nat) (hs:s.stack.length≤90000) (h0:0 < s.stack.length) (hc:s.top 0=0):
  Spec Tryz.prog 148 (be [.ptr (0,9) 0, .v (.int .i64 (n:Int))] (kL M s dr se)) (bg (.tup []) (kA M { s with stack:=s.pop 1,pc:=n } dr se (2,8) (3,8) (5,8)) [(0,9),(1,9),(2,8),(3,8),(4,9),(5,8)] [(0,9),(1,9),(4,9)]):=by
 refine Spec.ofNI Tryz.func148 rfl Tryz.ntmps148 rfl ?_
 refine am (bi rfl (cD (Le.incT (5,0) rfl) ?_))
 refine ai (bp aa [((3,8),(5,0))] ar (bW M s dr se ab h0) ob tr tr rfl ae ae) ?_
 refine ai (bP _ _ rfl rfl rfl) (aj (bD rfl (decide_eq_true hc) ?_))
 exact an (bi rfl (aQ rfl (ai (aS _ rfl rfl) (bA rfl rfl rfl (bO rfl rfl rfl rfl rfl rfl (az (eN (.inl rfl) rfl (Le.outI [((2,8),(2,9)),((3,8),(5,0)),((5,8),(5,9))] [] (.tup rfl bu) rfl rfl rfl trivial ob tr rfl))))))))
theorem AZ (n:Int) (hs:s.stack.length≤90000) (h0:0 < s.stack.length) (hc:s.top 0=0):
  Spec Tryz.prog 146 (be [.ptr (0,9) 0, .v (.int .i64 n)] (kL M s dr se)) (bg (.tup []) (kA M { s with stack:=s.pop 1++[1] } dr se (2,8) (3,8) (5,8)) [(0,9),(1,9),(2,8),(3,8),(4,9),(5,8)] [(0,9),(1,9),(4,9)]):=by
 rw [show (1:Int)=mj 1 from ah]
 refine Spec.ofNI Tryz.func146 rfl Tryz.ntmps146 rfl ?_
 refine am (bi rfl (cD (Le.incT (5,0) rfl) ?_))
 refine ai (bp aa [((3,8),(5,0))] ar (bW M s dr se ab h0) ob tr tr rfl ae ae) ?_
 refine ai (bP _ _ rfl rfl rfl) (aj (bD rfl (decide_eq_true hc) ?_))
 refine an (bi rfl (cD (Le.incT (8,0) rfl) ?_))
 refine ai (bp aa [((3,9),(5,0)),((3,8),(8,0))] ar (ea M { s with stack:=s.pop 1 } dr se 1 (by have:=cr s 1;simp only;omega)) ob tr tr rfl ae ae) ?_
 exact az (eN (.inl rfl) rfl (Le.outI [((2,8),(2,9)),((3,8),(8,0)),((5,8),(5,9))] [] (.tup rfl bu) rfl rfl rfl trivial ob tr rfl))
theorem BP (n:Nat) (hs:s.stack.length≤90000) (h0:0 < s.stack.length) (hc:s.top 0≠0):
  Spec Tryz.prog 148 (be [.ptr (0,9) 0, .v (.int .i64 (n:Int))] (kL M s dr se)) (bg (.tup []) (kA M { s with stack:=s.pop 1 } dr se (2,8) (3,8) (5,8)) [(0,9),(1,9),(2,8),(3,8),(4,9),(5,8)] [(0,9),(1,9),(4,9)]):=by
 refine Spec.ofNI Tryz.func148 rfl Tryz.ntmps148 rfl ?_
 refine am (bi rfl (cD (Le.incT (5,0) rfl) ?_))
 refine ai (bp aa [((3,8),(5,0))] ar (bW M s dr se ab h0) ob tr tr rfl ae ae) ?_
 refine ai (bP _ _ rfl rfl rfl) (aj (aP rfl (decide_eq_false hc) ?_))
 exact bv (eN (.inl rfl) rfl (Le.outI [((2,8),(2,9)),((3,8),(5,0)),((5,8),(5,9))] [] (.tup rfl bu) rfl rfl rfl trivial ob tr rfl))
theorem Ca (n:Int) (hs:s.stack.length≤90000) (h0:0 < s.stack.length) (hc:s.top 0≠0):
  Spec Tryz.prog 146 (be [.ptr (0,9) 0, .v (.int .i64 n)] (kL M s dr se)) (bg (.tup []) (kA M { s with stack:=s.pop 1++[0] } dr se (2,8) (3,8) (5,8)) [(0,9),(1,9),(2,8),(3,8),(4,9),(5,8)] [(0,9),(1,9),(4,9)]):=by
 rw [show (0:Int)=mj 0 from ah]
 refine Spec.ofNI Tryz.func146 rfl Tryz.ntmps146 rfl ?_
 refine am (bi rfl (cD (Le.incT (5,0) rfl) ?_))
 refine ai (bp aa [((3,8),(5,0))] ar (bW M s dr se ab h0) ob tr tr rfl ae ae) ?_
 refine ai (bP _ _ rfl rfl rfl) (aj (aP rfl (decide_eq_false hc) ?_))
 refine an (bi rfl (cD (Le.incT (10,0) rfl) ?_))
 refine ai (bp aa [((3,9),(5,0)),((3,8),(10,0))] ar (ea M { s with stack:=s.pop 1 } dr se 0 (by have:=cr s 1;simp only;omega)) ob tr tr rfl ae ae) ?_
 exact az (eN (.inl rfl) rfl (Le.outI [((2,8),(2,9)),((3,8),(10,0)),((5,8),(5,9))] [] (.tup rfl bu) rfl rfl rfl trivial ob tr rfl))
theorem wO (n:Int) (hs:s.stack.length≤90000) (ha:s.acts.length≤90000) (h2:2≤s.stack.length):
  Spec Tryz.prog 153 (be [.ptr (0,9) 0, .v (.int .i64 n)] (kL M s dr se)) (bg (.tup []) (kA M { s with stack:=s.pop 2,acts:=s.acts++[{ k:=6,a:=s.top 1,b:=s.top 0 }] } dr se (2,8) (3,8) (5,8)) [(0,9),(1,9),(2,8),(3,8),(4,9),(5,8)] [(0,9),(1,9),(4,9)]):=by
 have h2x:=bW M { s with stack:=s.pop 1 } dr se (by have:=cr s 1;simp only;omega) (by have:=cr s 1;simp only;omega)
 rw [eP s 0 1 ab,eQ] at h2x
 refine Spec.ofNI Tryz.func153 rfl Tryz.ntmps153 rfl ?_
 refine am (bi rfl (cD (Le.incT (6,0) rfl) ?_))
 refine ai (bp aa [((3,8),(6,0))] ar (bW M s dr se ab ab) ob tr tr rfl ae ae) ?_
 refine aZ rfl (aj (an (bi rfl (bi rfl (cD (Le.incT (9,0) rfl) ?_)))))
 refine ai (bp aa [((3,9),(6,0)),((3,8),(9,0))] ar (h2x) ob tr tr rfl ae ae) ?_
 refine aQ rfl (cD (Le.incT (11,0) rfl) ?_)
 refine ai (bp aa [((3,9),(9,0)),((2,8),(11,0))] ar (fC M { s with stack:=s.pop 2 } dr se 6 (s.top 1) (s.top 0) 0 0 (by simp only;omega)) ob tr tr rfl ae ae) ?_
 exact az (eN (.inl rfl) rfl (Le.outI [((2,8),(11,0)),((3,8),(9,0)),((5,8),(5,9))] [] (.tup rfl bu) rfl rfl rfl trivial ob tr rfl))
end

section
variable (M:Mk) (s:Ms) (dr se:Int)
theorem Cf (n:Int) (hs:s.stack.length≤90000) (ha:s.acts.length≤90000) (h0:3≤s.stack.length) (hse: -100≤se) (h1:0≤s.top 2) (h2:s.top 2 < M.nm 1) (h3:se < 20):
  Spec Tryz.prog 149 (be [.ptr (0,9) 0, .v (.int .i64 n)] (kL M s dr se)) (bg (.tup []) (kA M { s with stack:=s.pop 3,acts:=s.acts++[{ k:=3,a:=s.top 2,b:=n,c:=s.top 1,d:=s.top 0 }] } dr (se+1) (2,8) (3,8) (5,8)) [(0,9),(1,9),(2,8),(3,8),(4,9),(5,8)] [(0,9),(1,9),(4,9)]):=by
 have h2x:=bW M { s with stack:=s.pop 1 } dr se (by have:=cr s 1;simp only;omega) (by have:=cr s 1;simp only;omega)
 rw [eP s 0 1 ab,eQ,Nat.zero_add] at h2x
 have h3x:=bW M { s with stack:=s.pop 2 } dr se (by have:=cr s 2;simp only;omega) (by have:=cr s 2;simp only;omega)
 rw [eP s 0 2 ab,eQ,Nat.zero_add] at h3x
 refine Spec.ofNI Tryz.func149 rfl Tryz.ntmps149 rfl ?_
 refine am (bi rfl (cD (Le.incT (8,0) rfl) ?_))
 refine ai (bp aa [((3,8),(8,0))] ar (bW M s dr se ab ab) ob tr tr rfl ae ae) ?_
 refine bi rfl (cD (Le.incT (10,0) rfl) ?_)
 refine ai (bp aa [((3,9),(8,0)),((3,8),(10,0))] ar (h2x) ob tr tr rfl ae ae) ?_
 refine bi rfl (cD (Le.incT (12,0) rfl) ?_)
 refine ai (bp aa [((3,9),(10,0)),((3,8),(12,0))] ar (h3x) ob tr tr rfl ae ae) ?_
 refine aZ rfl (aZ rfl (aZ rfl (aj (am (aQ rfl (ai (eR (r:=true) _ _ rfl rfl (decide_eq_true ab)) ?_))))))
 refine cJ rfl (ax rfl rfl (aE _ (rfl:_=AV.v (.int _ _))) (ax rfl rfl (aE _ (rfl:_=AV.ptr _ _)) (ax rfl rfl (aS _ rfl rfl) (ax rfl rfl (aH _ aa rfl rfl rfl) (ax rfl rfl (aH _ aa rfl rfl rfl) (ax rfl rfl (eD _ _ aa rfl rfl rfl 1 rfl ab ag) ?_))))))
 refine ax rfl rfl (aK _ aa rfl rfl (rfl:_=some (AV.v (.int _ _)))) (ax rfl rfl (bo (r:=true) _ _ rfl rfl (decide_eq_true ab)) ?_)
 refine ai (aD _ _ _ rfl (rfl:_=AV.v (.bool _))) (cJ rfl (ax rfl rfl (aE _ (rfl:_=AV.ptr _ _)) (ax rfl rfl (aS _ rfl rfl) (ax rfl rfl (aH _ aa rfl rfl rfl) (ax rfl rfl (aK _ aa rfl rfl (rfl:_=some (AV.v (.int _ _)))) (ax rfl rfl (bo (r:=true) _ _ rfl rfl (decide_eq_true ab)) ?_))))))
 refine ai (aD _ _ _ rfl (rfl:_=AV.v (.bool _))) (aj (bD rfl rfl (ap ?_)))
 refine aN (σ':=aB 45 [(0,_),(1,_),(4,_),(5,_),(6,_)] [((0,9),_),((1,9),_),((2,9),_),((4,9),_),((5,9),_),((12,0),_)] [(0,9),(1,9),(2,9),(4,9),(5,9),(12,0)] [(0,9),(1,9),(4,9)]) kp ?_
 refine an (bi rfl (ai (aS _ rfl rfl) (bA rfl rfl rfl (cC rfl rfl rfl (ai (bc (r:=se+1) _ _ rfl rfl (bq ab)) ?_)))))
 refine ai (aS _ rfl rfl) (bA rfl rfl rfl (bO rfl rfl rfl rfl rfl rfl (aj (an (bi rfl (aQ rfl (aQ rfl (aQ rfl (aQ rfl (cD (Le.incT (44,0) rfl) ?_))))))))))
 refine ai (bp aa [((3,9),(12,0)),((2,8),(44,0))] ar (fC M { s with stack:=s.pop 3 } dr (se+1) 3 (s.top 2) n (s.top 1) (s.top 0) (by simp only;omega)) ob tr tr rfl ae ae) ?_
 exact az (eN (.inl rfl) rfl (Le.outI [((2,8),(44,0)),((3,8),(12,0)),((5,8),(5,9))] [] (.tup rfl bu) rfl rfl rfl trivial ob tr rfl))
theorem xk (n:Int) (hs:s.stack.length≤90000) (ha:s.acts.length≤90000) (h0:3≤s.stack.length) (hse: -100≤se) (h1:s.top 2 < 0):
  Spec Tryz.prog 149 (be [.ptr (0,9) 0, .v (.int .i64 n)] (kL M s dr se)) (bg (.tup []) (kA M { s with stack:=s.pop 3 } dr se (2,8) (3,8) (5,8)) [(0,9),(1,9),(2,8),(3,8),(4,9),(5,8)] [(0,9),(1,9),(4,9)]):=by
 have h2x:=bW M { s with stack:=s.pop 1 } dr se (by have:=cr s 1;simp only;omega) (by have:=cr s 1;simp only;omega)
 rw [eP s 0 1 ab,eQ,Nat.zero_add] at h2x
 have h3x:=bW M { s with stack:=s.pop 2 } dr se (by have:=cr s 2;simp only;omega) (by have:=cr s 2;simp only;omega)
 rw [eP s 0 2 ab,eQ,Nat.zero_add] at h3x
 refine Spec.ofNI Tryz.func149 rfl Tryz.ntmps149 rfl ?_
 refine am (bi rfl (cD (Le.incT (8,0) rfl) ?_))
 refine ai (bp aa [((3,8),(8,0))] ar (bW M s dr se ab ab) ob tr tr rfl ae ae) ?_
 refine bi rfl (cD (Le.incT (10,0) rfl) ?_)
 refine ai (bp aa [((3,9),(8,0)),((3,8),(10,0))] ar (h2x) ob tr tr rfl ae ae) ?_
 refine bi rfl (cD (Le.incT (12,0) rfl) ?_)
 refine ai (bp aa [((3,9),(10,0)),((3,8),(12,0))] ar (h3x) ob tr tr rfl ae ae) ?_
 refine aZ rfl (aZ rfl (aZ rfl (aj (am (aQ rfl (ai (eR (r:=false) _ _ rfl rfl (decide_eq_false ab)) ?_))))))
 refine cJ rfl (aW rfl rfl ah ?_)
 refine aW rfl rfl ah ?_
 refine aW rfl rfl ah ?_
 refine aW rfl rfl ah ?_
 refine aW rfl rfl ah ?_
 refine aW rfl rfl ah ?_
 refine aW rfl rfl ah ?_
 refine aW rfl rfl ah ?_
 refine ai (aD _ _ _ rfl (rfl:_=AV.v (.bool _))) (cJ rfl (aW rfl rfl ah ?_))
 refine aW rfl rfl ah ?_
 refine aW rfl rfl ah ?_
 refine aW rfl rfl ah ?_
 refine aW rfl rfl ah ?_
 exact ai (aD _ _ _ rfl (rfl:_=AV.v (.bool _))) (aj (aP rfl rfl (bv (eN (.inl rfl) rfl (Le.outI [((2,8),(2,9)),((3,8),(12,0)),((5,8),(5,9))] [] (.tup rfl bu) rfl rfl rfl trivial ob tr rfl)))))
theorem yC (n:Int) (hs:s.stack.length≤90000) (ha:s.acts.length≤90000) (h0:3≤s.stack.length) (hse: -100≤se) (h1:0≤s.top 2) (h2:M.nm 1≤s.top 2):
  Spec Tryz.prog 149 (be [.ptr (0,9) 0, .v (.int .i64 n)] (kL M s dr se)) (bg (.tup []) (kA M { s with stack:=s.pop 3 } dr se (2,8) (3,8) (5,8)) [(0,9),(1,9),(2,8),(3,8),(4,9),(5,8)] [(0,9),(1,9),(4,9)]):=by
 have h2x:=bW M { s with stack:=s.pop 1 } dr se (by have:=cr s 1;simp only;omega) (by have:=cr s 1;simp only;omega)
 rw [eP s 0 1 ab,eQ,Nat.zero_add] at h2x
 have h3x:=bW M { s with stack:=s.pop 2 } dr se (by have:=cr s 2;simp only;omega) (by have:=cr s 2;simp only;omega)
 rw [eP s 0 2 ab,eQ,Nat.zero_add] at h3x
 refine Spec.ofNI Tryz.func149 rfl Tryz.ntmps149 rfl ?_
 refine am (bi rfl (cD (Le.incT (8,0) rfl) ?_))
 refine ai (bp aa [((3,8),(8,0))] ar (bW M s dr se ab ab) ob tr tr rfl ae ae) ?_
 refine bi rfl (cD (Le.incT (10,0) rfl) ?_)
 refine ai (bp aa [((3,9),(8,0)),((3,8),(10,0))] ar (h2x) ob tr tr rfl ae ae) ?_
 refine bi rfl (cD (Le.incT (12,0) rfl) ?_)
 refine ai (bp aa [((3,9),(10,0)),((3,8),(12,0))] ar (h3x) ob tr tr rfl ae ae) ?_
 refine aZ rfl (aZ rfl (aZ rfl (aj (am (aQ rfl (ai (eR (r:=true) _ _ rfl rfl (decide_eq_true ab)) ?_))))))
 refine cJ rfl (ax rfl rfl (aE _ (rfl:_=AV.v (.int _ _))) (ax rfl rfl (aE _ (rfl:_=AV.ptr _ _)) (ax rfl rfl (aS _ rfl rfl) (ax rfl rfl (aH _ aa rfl rfl rfl) (ax rfl rfl (aH _ aa rfl rfl rfl) (ax rfl rfl (eD _ _ aa rfl rfl rfl 1 rfl ab ag) ?_))))))
 refine ax rfl rfl (aK _ aa rfl rfl (rfl:_=some (AV.v (.int _ _)))) (ax rfl rfl (bo (r:=false) _ _ rfl rfl (decide_eq_false ab)) ?_)
 refine ai (aD _ _ _ rfl (rfl:_=AV.v (.bool _))) (cJ rfl (aW rfl rfl ah ?_))
 refine aW rfl rfl ah ?_
 refine aW rfl rfl ah ?_
 refine aW rfl rfl ah ?_
 refine aW rfl rfl ah ?_
 exact ai (aD _ _ _ rfl (rfl:_=AV.v (.bool _))) (aj (aP rfl rfl (bv (eN (.inl rfl) rfl (Le.outI [((2,8),(2,9)),((3,8),(12,0)),((5,8),(5,9))] [] (.tup rfl bu) rfl rfl rfl trivial ob tr rfl)))))
theorem zq (n:Int) (hs:s.stack.length≤90000) (ha:s.acts.length≤90000) (h0:3≤s.stack.length) (hse: -100≤se) (h1:0≤s.top 2) (h2:s.top 2 < M.nm 1) (h3:20≤se):
  Spec Tryz.prog 149 (be [.ptr (0,9) 0, .v (.int .i64 n)] (kL M s dr se)) (bg (.tup []) (kA M { s with stack:=s.pop 3 } dr se (2,8) (3,8) (5,8)) [(0,9),(1,9),(2,8),(3,8),(4,9),(5,8)] [(0,9),(1,9),(4,9)]):=by
 have h2x:=bW M { s with stack:=s.pop 1 } dr se (by have:=cr s 1;simp only;omega) (by have:=cr s 1;simp only;omega)
 rw [eP s 0 1 ab,eQ,Nat.zero_add] at h2x
 have h3x:=bW M { s with stack:=s.pop 2 } dr se (by have:=cr s 2;simp only;omega) (by have:=cr s 2;simp only;omega)
 rw [eP s 0 2 ab,eQ,Nat.zero_add] at h3x
 refine Spec.ofNI Tryz.func149 rfl Tryz.ntmps149 rfl ?_
 refine am (bi rfl (cD (Le.incT (8,0) rfl) ?_))
 refine ai (bp aa [((3,8),(8,0))] ar (bW M s dr se ab ab) ob tr tr rfl ae ae) ?_
 refine bi rfl (cD (Le.incT (10,0) rfl) ?_)
 refine ai (bp aa [((3,9),(8,0)),((3,8),(10,0))] ar (h2x) ob tr tr rfl ae ae) ?_
 refine bi rfl (cD (Le.incT (12,0) rfl) ?_)
 refine ai (bp aa [((3,9),(10,0)),((3,8),(12,0))] ar (h3x) ob tr tr rfl ae ae) ?_
 refine aZ rfl (aZ rfl (aZ rfl (aj (am (aQ rfl (ai (eR (r:=true) _ _ rfl rfl (decide_eq_true ab)) ?_))))))
 refine cJ rfl (ax rfl rfl (aE _ (rfl:_=AV.v (.int _ _))) (ax rfl rfl (aE _ (rfl:_=AV.ptr _ _)) (ax rfl rfl (aS _ rfl rfl) (ax rfl rfl (aH _ aa rfl rfl rfl) (ax rfl rfl (aH _ aa rfl rfl rfl) (ax rfl rfl (eD _ _ aa rfl rfl rfl 1 rfl ab ag) ?_))))))
 refine ax rfl rfl (aK _ aa rfl rfl (rfl:_=some (AV.v (.int _ _)))) (ax rfl rfl (bo (r:=true) _ _ rfl rfl (decide_eq_true ab)) ?_)
 refine ai (aD _ _ _ rfl (rfl:_=AV.v (.bool _))) (cJ rfl (ax rfl rfl (aE _ (rfl:_=AV.ptr _ _)) (ax rfl rfl (aS _ rfl rfl) (ax rfl rfl (aH _ aa rfl rfl rfl) (ax rfl rfl (aK _ aa rfl rfl (rfl:_=some (AV.v (.int _ _)))) (ax rfl rfl (bo (r:=false) _ _ rfl rfl (decide_eq_false ab)) ?_))))))
 exact ai (aD _ _ _ rfl (rfl:_=AV.v (.bool _))) (aj (aP rfl rfl (bv (eN (.inl rfl) rfl (Le.outI [((2,8),(2,9)),((3,8),(12,0)),((5,8),(5,9))] [] (.tup rfl bu) rfl rfl rfl trivial ob tr rfl)))))
abbrev zx (ans asked:List Int) (ak:aG):List (aG×Cells):=[((4,9), .box 129 [.sl ans.length (du ans), .ref ak 0 asked.length, .v (.bool true)]),(ak, .row 3 1 (du asked))]
theorem Ee (ans asked:List Int) (k:Int) (hl:asked.length≤90000) (hi:asked.length < ans.length) (hn:ans.length≤4611686018427387904):
  Spec Tryz.prog 60 (be [.ptr (4,9) 0, .v (.int .i64 (asked.length:Int)), .v (.int .i64 k)] (zx ans asked (5,9))) (bg (.v (.int .i64 (ans.getD asked.length 0))) (zx ans (asked++[k]) (5,8)) [(4,9),(5,8)] [(4,9)]):=by
 have hl1:(asked++[k]).length=asked.length+1:=by simp
 refine Spec.ofNI Tryz.func60 rfl Tryz.ntmps60 rfl ?_
 refine am (aZ rfl (aj (ap (am (aQ rfl (bi rfl (ai (aS _ rfl rfl) (bA rfl rfl rfl (ai (aK _ aa rfl rfl (rfl:_=some (AV.ref _ _ _))) (ai (dA _ aa rfl rfl) ?_))))))))))
 refine ai (ca (r:=false) _ _ rfl rfl (by simp)) ?_
 refine aj (aP rfl rfl (aJ (am (bi rfl (bi rfl (ai (aS _ rfl rfl) (bA rfl rfl rfl (ai (aK _ aa rfl rfl (rfl:_=some (AV.ref _ _ _))) (aQ rfl (ai (aV _ _ aa rfl ag (by (simp <;> rfl)) ah rfl) ?_))))))))))
 refine cD (Le.incT (24,0) rfl) ?_
 refine ai (oI (b:=true) (24,0) _ _ aa rfl rfl (by simp) (.sl rfl) ab rfl rfl rfl (lF _ k) hl1.symm) ?_
 refine ai (aS _ rfl rfl) (bA rfl rfl rfl (bO rfl rfl rfl rfl rfl rfl (aj (ap (ap ?_)))))
 refine aN (σ':=aB 45 [(0,_),(1,_)] [((4,9),_),((24,0),_)] [(4,9),(24,0)] [(4,9)]) kp ?_
 refine an (aQ rfl (ai (bo (r:=false) _ _ rfl rfl (decide_eq_false ab)) ?_))
 refine cJ rfl (ax rfl rfl (aE _ (rfl:_=AV.v (.int _ _))) (ax rfl rfl (aE _ (rfl:_=AV.ptr _ _)) (ax rfl rfl (aS _ rfl rfl) (ax rfl rfl (aH _ aa rfl rfl rfl) (ax rfl rfl (aK _ aa rfl rfl (rfl:_=some (AV.sl _ _))) (ax rfl rfl (bE _ aa rfl) (ax rfl rfl (eR (r:=false) _ _ rfl rfl (decide_eq_false ab)) ?_)))))))
 refine ai (aD _ _ _ rfl (rfl:_=AV.v (.bool _))) (aj (aP rfl rfl (aJ (am (bi rfl (ai (aS _ rfl rfl) (bA rfl rfl rfl (fh rfl rfl rfl (aQ rfl (ai (bf _ _ aa rfl rfl _ rfl ab (by (simp only [ba,bn,bl,ba,bM,gn];omega)) (by exact Nat.mul_one _)) ?_))))))))))
 refine ai (bH _ aa rfl (by exact dH _ _ ab) rfl) ?_
 exact aZ rfl (aj (aC (aY (.inr rfl) rfl (.tmp (rfl:_=AV.v _)) (Le.outI [((5,8),(24,0))] [] .v rfl rfl rfl trivial ob tr rfl))))
theorem Az (ans asked:List Int) (k:Int) (hl:asked.length≤90000) (hi:ans.length≤asked.length) (hn:ans.length≤4611686018427387904):
  Spec Tryz.prog 60 (be [.ptr (4,9) 0, .v (.int .i64 (asked.length:Int)), .v (.int .i64 k)] (zx ans asked (5,9))) (bg (.v (.int .i64 (0))) (zx ans (asked++[k]) (5,8)) [(4,9),(5,8)] [(4,9)]):=by
 have hl1:(asked++[k]).length=asked.length+1:=by simp
 refine Spec.ofNI Tryz.func60 rfl Tryz.ntmps60 rfl ?_
 refine am (aZ rfl (aj (ap (am (aQ rfl (bi rfl (ai (aS _ rfl rfl) (bA rfl rfl rfl (ai (aK _ aa rfl rfl (rfl:_=some (AV.ref _ _ _))) (ai (dA _ aa rfl rfl) ?_))))))))))
 refine ai (ca (r:=false) _ _ rfl rfl (by simp)) ?_
 refine aj (aP rfl rfl (aJ (am (bi rfl (bi rfl (ai (aS _ rfl rfl) (bA rfl rfl rfl (ai (aK _ aa rfl rfl (rfl:_=some (AV.ref _ _ _))) (aQ rfl (ai (aV _ _ aa rfl ag (by (simp <;> rfl)) ah rfl) ?_))))))))))
 refine cD (Le.incT (24,0) rfl) ?_
 refine ai (oI (b:=true) (24,0) _ _ aa rfl rfl (by simp) (.sl rfl) ab rfl rfl rfl (lF _ k) hl1.symm) ?_
 refine ai (aS _ rfl rfl) (bA rfl rfl rfl (bO rfl rfl rfl rfl rfl rfl (aj (ap (ap ?_)))))
 refine aN (σ':=aB 45 [(0,_),(1,_)] [((4,9),_),((24,0),_)] [(4,9),(24,0)] [(4,9)]) kp ?_
 refine an (aQ rfl (ai (bo (r:=false) _ _ rfl rfl (decide_eq_false ab)) ?_))
 refine cJ rfl (ax rfl rfl (aE _ (rfl:_=AV.v (.int _ _))) (ax rfl rfl (aE _ (rfl:_=AV.ptr _ _)) (ax rfl rfl (aS _ rfl rfl) (ax rfl rfl (aH _ aa rfl rfl rfl) (ax rfl rfl (aK _ aa rfl rfl (rfl:_=some (AV.sl _ _))) (ax rfl rfl (bE _ aa rfl) (ax rfl rfl (eR (r:=true) _ _ rfl rfl (decide_eq_true ab)) ?_)))))))
 exact ai (aD _ _ _ rfl (rfl:_=AV.v (.bool _))) (aj (bD rfl rfl (am (aZ rfl (aj (aC (aY (.inr rfl) rfl (.tmp (rfl:_=AV.v _)) (Le.outI [((5,8),(24,0))] [] .v rfl rfl rfl trivial ob tr rfl))))))))
theorem yW (ans asked:List Int) (k:Int) (hl:asked.length≤90000) (hn:ans.length≤4611686018427387904):
  Spec Tryz.prog 60 (be [.ptr (4,9) 0, .v (.int .i64 (asked.length:Int)), .v (.int .i64 k)] (zx ans asked (5,9))) (bg (.v (.int .i64 (ans.getD asked.length 0))) (zx ans (asked++[k]) (5,8)) [(4,9),(5,8)] [(4,9)]):=by
 by_cases hi:asked.length < ans.length
 ·exact Ee ans asked k hl hi hn
 ·have h:=Az ans asked k hl ab hn
  rw [List.getD_eq_getElem?_getD,List.getElem?_eq_none ab];exact h
end

theorem FO (v k:Int) (hk:1≤k): -k < v.tmod k∧v.tmod k < k∧(v.tmod k+k).tmod k=v % k:=by
 have h1:v.tmod k < k:=Int.tmod_lt_of_pos v ab
 have h2: -k < v.tmod k:=by
  have:=Int.tmod_lt_of_pos (-v) (show 0 < k by omega)
  rw [Int.neg_tmod] at this;omega
 refine ⟨h2,h1,?_⟩
 rw [Int.tmod_eq_emod_of_nonneg ab,Int.add_emod_right,Int.tmod_def,Int.sub_mul_emod_self_left]
section
variable (M:Mk) (s:Ms) (dr se:Int)
theorem Ep (hs:s.stack.length≤90000) (h0:0 < s.stack.length) (hk:max 1 (min (s.top 0) 4)=1):
  Spec Tryz.prog 135 (be [.ptr (0,9) 0] (kL M s (s.asked.length:Int) se)) (bg (.v (.int .i64 0)) (kA M { s with stack:=s.pop 1 } (s.asked.length:Int) se (2,9) (3,8) (5,8)) [(0,9),(1,9),(2,9),(3,8),(4,9),(5,8)] [(0,9),(1,9),(2,9),(4,9)]):=by
 have hc:=kX (s.top 0) 1 4
 rw [hk] at hc
 refine Spec.ofNI Tryz.func135 rfl Tryz.ntmps135 rfl ?_
 refine am (aZ rfl (aj (am (bi rfl (cD (Le.incT (6,0) rfl) ?_)))))
 refine ai (bp aa [((3,8),(6,0))] ar (bW M s (s.asked.length:Int) se ab h0) ob tr tr rfl ae ae) ?_
 refine ai (aL aa al (hc) rfl rfl) ?_
 refine aZ rfl (aj (ap (am (aQ rfl (iY rfl rfl rfl (aj (bD rfl rfl (am (aZ rfl (aj ?_))))))))))
 exact aC (aY (.inr rfl) rfl (.tmp (rfl:_=AV.v _)) (Le.outI [((3,8),(6,0)),((5,8),(5,9))] [] .v rfl rfl rfl trivial ob tr rfl))
theorem CX (hs:s.stack.length≤90000) (h0:0 < s.stack.length) (hq:s.asked.length≤90000) (hn:M.ans.length≤4611686018427387904) {k:Int} (hk:max 1 (min (s.top 0) 4)=k) (hk1:k≠1):
  Spec Tryz.prog 135 (be [.ptr (0,9) 0] (kL M s (s.asked.length:Int) se)) (bg (.v (.int .i64 (mi M.ans s.asked.length k))) (kA M { s with stack:=s.pop 1,asked:=s.asked++[k] } ((s.asked++[k]).length:Int) se (2,9) (3,8) (5,8)) [(0,9),(1,9),(2,9),(3,8),(4,9),(5,8)] [(0,9),(1,9),(2,9),(4,9)]):=by
 have hk2:1≤k∧k≤4:=by omega
 have hc:=kX (s.top 0) 1 4
 rw [hk] at hc
 have hask:=yW M.ans s.asked k hq hn
 have htm:=FO (M.ans.getD s.asked.length 0) k hk2.1
 refine Spec.ofNI Tryz.func135 rfl Tryz.ntmps135 rfl ?_
 refine am (aZ rfl (aj (am (bi rfl (cD (Le.incT (6,0) rfl) ?_)))))
 refine ai (bp aa [((3,8),(6,0))] ar (bW M s (s.asked.length:Int) se ab h0) ob tr tr rfl ae ae) ?_
 refine ai (aL aa al (hc) rfl rfl) ?_
 refine aZ rfl (aj (ap (am (aQ rfl (eG rfl rfl (beq_eq_false_iff_ne.2 hk1) ?_)))))
 refine aj (aP rfl rfl (aJ (aF fun K5 hK5=> ?_)))
 refine aN (Le.incT (19,0) rfl) ?_
 refine bF 13 [10,11,12,13,14,15,16,17,18,19,20,21,4] [(4,9),(19,0),(5,9)] ae ae rfl (aM rfl) (rfl:_=[_,_,_,_,_,_,_,_,_,_,_,_,_]) (rfl:_=[]) ?_
 refine aq (_,[]) (fun τ=> aE _ (rfl:_=AV.ptr _ _)) ?_
 refine eJ rfl ?_
 refine aq (_,[]) (fun τ=> aS _ rfl rfl) ?_
 refine eK rfl ?_
 refine aq (_,[]) (fun τ=> aH _ aa rfl rfl rfl) ?_
 refine eH rfl ?_
 refine aq (_,[]) (fun τ=> aK _ aa rfl rfl (rfl:_=some (AV.fn _ _ _))) ?_
 refine eS rfl ?_
 refine aq (_,[]) (fun τ=> aE _ (rfl:_=AV.ptr _ _)) ?_
 refine eZ rfl ?_
 refine aq (_,[]) (fun τ=> aS _ rfl rfl) ?_
 refine fH rfl ?_
 refine aq (_,[]) (fun τ=> aH _ aa rfl rfl rfl) ?_
 refine gF rfl ?_
 refine aq (_,[]) (fun τ=> aK _ aa rfl rfl (rfl:_=some (AV.v (.int _ _)))) ?_
 refine kv rfl ?_
 refine aq (_,[]) (fun τ=> aE _ (rfl:_=AV.v (.int _ _))) ?_
 refine ko rfl ?_
 refine aq (_,[((4,9),_),((19,0),_),((5,9), .gone)]) (fun τ=> (ox rfl aa [((5,8),(19,0))] ar (hask) ob tr tr rfl ae ae)) ?_
 refine gj rfl ?_
 refine aq (_,[]) (fun τ=> aE _ (rfl:_=AV.v (.int _ _))) ?_
 refine gH rfl ?_
 refine aq (_,[]) (fun τ=> cY _ _ rfl rfl ab rfl) ?_
 refine lf rfl ?_
 refine aq (_,[]) (fun τ=> bG _ (rfl:_=AV.v (.int _ _))) ?_
 refine lO rfl (bh ⟨rfl,?_⟩)
 refine az (hK5 _ ?_)
 clear hK5;try clear K5
 refine ap ?_
 refine aN (σ':=aB 34 [(0,_),(3,_),(4,_)] [((0,9),_),((1,9),_),((2,9),_),((4,9),_),((6,0),_),((19,0),_)] [(0,9),(1,9),(2,9),(4,9),(6,0),(19,0)] [(0,9),(1,9),(2,9),(4,9)]) kp ?_
 refine an (bi rfl (ai (aS _ rfl rfl) (bA rfl rfl rfl (cC rfl rfl rfl (ai (bc (r:=((s.asked++[k]).length:Int)) _ _ rfl rfl ((bq ab).trans (by simp))) ?_)))))
 refine ai (aS _ rfl rfl) (bA rfl rfl rfl (bO rfl rfl rfl rfl rfl rfl (aj (am (aQ rfl (aQ rfl (ai (bc (r:=(M.ans.getD s.asked.length 0).tmod k+k) _ _ rfl rfl (bq ab)) ?_)))))))
 refine aQ rfl (ai (cY (r:=mi M.ans s.asked.length k) _ _ rfl rfl ab htm.2.2) ?_)
 exact aZ rfl (aj (aC (aY (.inr rfl) rfl (.tmp (rfl:_=AV.v _)) (Le.outI [((3,8),(6,0)),((5,8),(19,0))] [] .v rfl rfl rfl trivial ob tr rfl))))
theorem qK (n:Int) (hs:s.stack.length≤90000) (h2:2≤s.stack.length) {g:FuncId} [cb Tryz.prog g] {r:Int} (hg:Spec Tryz.prog g (bj ([.v (.int .i64 (s.top 1)), .v (.int .i64 (s.top 0))]++[]) []) (aX (.v (.int .i64 r)) [])):
  Spec Tryz.prog 189 (be [.ptr (0,9) 0, .v (.int .i64 n), .fp 0 [.fn (.func g) [] []]] (kL M s dr se)) (bg (.tup []) (kA M { s with stack:=s.pop 2++[mj r] } dr se (2,8) (3,8) (5,8)) [(0,9),(1,9),(2,8),(3,8),(4,9),(5,8)] [(0,9),(1,9),(4,9)]):=by
 have h2x:=bW M { s with stack:=s.pop 1 } dr se (by have:=cr s 1;simp only;omega) (by have:=cr s 1;simp only;omega)
 rw [eP s 0 1 ab,eQ,Nat.zero_add] at h2x
 refine Spec.ofNI Tryz.func189 rfl Tryz.ntmps189 rfl ?_
 refine am (bi rfl (cD (Le.incT (7,0) rfl) ?_))
 refine ai (bp aa [((3,8),(7,0))] ar (bW M s dr se ab ab) ob tr tr rfl ae ae) ?_
 refine aZ rfl (aj ?_)
 refine aN (Le.incT (11,0) rfl) ?_
 refine bF 6 [8,9,10,11,12,13] [(0,9),(1,9),(2,9),(11,0),(4,9),(5,9),(7,0)] ae ae rfl (aM rfl) (rfl:_=[_,_,_,_,_,_]) (rfl:_=[_]) ?_
 refine aq (_,[]) (fun τ=> aE _ (rfl:_=AV.ptr _ _)) ?_
 refine eJ rfl ?_
 refine aq (_,[]) (fun τ=> bH _ aa rfl ag rfl) ?_
 refine eK rfl ?_
 refine aq (_,[]) (fun τ=> aE _ (rfl:_=AV.ptr _ _)) ?_
 refine eH rfl ?_
 refine aq (_,[((0,9),_),((1,9),_),((2,9),_),((11,0),_),((4,9),_),((5,9),_),((7,0), .gone)]) (fun τ=> (bp aa [((3,9),(7,0)),((3,8),(11,0))] ar (h2x) ob tr tr rfl ae ae)) ?_
 refine eS rfl ?_
 refine aq (_,[]) (fun τ=> aE _ (rfl:_=AV.v (.int _ _))) ?_
 refine eZ rfl ?_
 refine aq (_,[]) (fun τ=> (ks rfl aa al (hg) rfl rfl)) ?_
 refine fH rfl (bh ⟨rfl,?_⟩)
 refine cD (Le.incT (14,0) rfl) ?_
 refine ai (bp aa [((3,9),(11,0)),((3,8),(14,0))] ar (ea M { s with stack:=s.pop 2 } dr se r (by have:=cr s 2;simp only;omega)) ob tr tr rfl ae ae) ?_
 exact az (eN (.inl rfl) rfl (Le.outI [((2,8),(2,9)),((3,8),(14,0)),((5,8),(5,9))] [] (.tup rfl bu) rfl rfl rfl trivial ob tr rfl))
theorem tA (n:Int) (hs:s.stack.length≤90000) (h2:2≤s.stack.length) {g:FuncId} [cb Tryz.prog g] {f:FuncId} {r:Int} (hg:Spec Tryz.prog g (bj ([.v (.int .i64 (s.top 1)), .v (.int .i64 (s.top 0))]++[.fp 0 [.fn (.func f) [] []]]) []) (aX (.v (.int .i64 r)) [])):
  Spec Tryz.prog 189 (be [.ptr (0,9) 0, .v (.int .i64 n), .fp 0 [.fn (.func g) [] [.ptr 0 [.fn (.func f) [] []]]]] (kL M s dr se)) (bg (.tup []) (kA M { s with stack:=s.pop 2++[mj r] } dr se (2,8) (3,8) (5,8)) [(0,9),(1,9),(2,8),(3,8),(4,9),(5,8)] [(0,9),(1,9),(4,9)]):=by
 have h2x:=bW M { s with stack:=s.pop 1 } dr se (by have:=cr s 1;simp only;omega) (by have:=cr s 1;simp only;omega)
 rw [eP s 0 1 ab,eQ,Nat.zero_add] at h2x
 refine Spec.ofNI Tryz.func189 rfl Tryz.ntmps189 rfl ?_
 refine am (bi rfl (cD (Le.incT (7,0) rfl) ?_))
 refine ai (bp aa [((3,8),(7,0))] ar (bW M s dr se ab ab) ob tr tr rfl ae ae) ?_
 refine aZ rfl (aj ?_)
 refine aN (Le.incT (11,0) rfl) ?_
 refine bF 6 [8,9,10,11,12,13] [(0,9),(1,9),(2,9),(11,0),(4,9),(5,9),(7,0)] ae ae rfl (aM rfl) (rfl:_=[_,_,_,_,_,_]) (rfl:_=[_]) ?_
 refine aq (_,[]) (fun τ=> aE _ (rfl:_=AV.ptr _ _)) ?_
 refine eJ rfl ?_
 refine aq (_,[]) (fun τ=> bH _ aa rfl ag rfl) ?_
 refine eK rfl ?_
 refine aq (_,[]) (fun τ=> aE _ (rfl:_=AV.ptr _ _)) ?_
 refine eH rfl ?_
 refine aq (_,[((0,9),_),((1,9),_),((2,9),_),((11,0),_),((4,9),_),((5,9),_),((7,0), .gone)]) (fun τ=> (bp aa [((3,9),(7,0)),((3,8),(11,0))] ar (h2x) ob tr tr rfl ae ae)) ?_
 refine eS rfl ?_
 refine aq (_,[]) (fun τ=> aE _ (rfl:_=AV.v (.int _ _))) ?_
 refine eZ rfl ?_
 refine aq (_,[]) (fun τ=> (ks rfl aa al (hg) rfl rfl)) ?_
 refine fH rfl (bh ⟨rfl,?_⟩)
 refine cD (Le.incT (14,0) rfl) ?_
 refine ai (bp aa [((3,9),(11,0)),((3,8),(14,0))] ar (ea M { s with stack:=s.pop 2 } dr se r (by have:=cr s 2;simp only;omega)) ob tr tr rfl ae ae) ?_
 exact az (eN (.inl rfl) rfl (Le.outI [((2,8),(2,9)),((3,8),(14,0)),((5,8),(5,9))] [] (.tup rfl bu) rfl rfl rfl trivial ob tr rfl))
end

theorem DN {x y:Int} (hx:Rg x) (hy:Rg y): -9223372036854775808≤x*y∧x*y≤9223372036854775807:=by
 unfold Rg at hx hy
 have h1:(x*y).natAbs≤2147483647*2147483647:=by
  rw [Int.natAbs_mul]
  exact Nat.mul_le_mul ab ab
 omega
theorem zT {x y:Int} (hx:Rg x): -2147483647≤x.tdiv y∧x.tdiv y≤2147483647:=by
 unfold Rg at hx
 have h1:(x.tdiv y).natAbs≤x.natAbs:=by
  rw [Int.natAbs_tdiv]
  exact Nat.div_le_self _ _
 omega
section
variable (M:Mk) (s:Ms) (dr se:Int)
theorem yz (n:Int) (hs:s.stack.length≤90000) (h0:0 < s.stack.length) (hk:max 1 (min (s.top 0) 4)=1):
  Spec Tryz.prog 134 (be [.ptr (0,9) 0, .v (.int .i64 n)] (kL M s (s.asked.length:Int) se)) (bg (.tup []) (kA M { s with stack:=s.pop 1++[0] } (s.asked.length:Int) se (2,8) (3,8) (5,8)) [(0,9),(1,9),(2,8),(3,8),(4,9),(5,8)] [(0,9),(1,9),(4,9)]):=by
 rw [show (0:Int)=mj 0 from ah]
 refine Spec.ofNI Tryz.func134 rfl Tryz.ntmps134 rfl ?_
 refine an (bi rfl (bi rfl (cD ((Le.incT (6,1) rfl).trans (Le.incT (6,0) rfl)) ?_)))
 refine ai (bp aa [((3,8),(6,0)),((5,8),(6,1))] ar (Ep M s se ab h0 hk) ob tr tr rfl ae ae) ?_
 refine cD (Le.incT (7,0) rfl) ?_
 refine ai (bp aa [((3,9),(6,0)),((5,9),(6,1)),((3,8),(7,0))] ar (ea M { s with stack:=s.pop 1 } (s.asked.length:Int) se 0 (by have:=cr s 1;simp only;omega)) ob tr tr rfl ae ae) ?_
 exact az (eN (.inl rfl) rfl (Le.outI [((2,8),(2,9)),((3,8),(7,0)),((5,8),(6,1))] [] (.tup rfl bu) rfl rfl rfl trivial ob tr rfl))
theorem zk (n:Int) (hs:s.stack.length≤90000) (h0:0 < s.stack.length) (hq:s.asked.length≤80000) (hn:M.ans.length≤4611686018427387904) {k:Int} (hk:max 1 (min (s.top 0) 4)=k) (hk1:k≠1):
  Spec Tryz.prog 134 (be [.ptr (0,9) 0, .v (.int .i64 n)] (kL M s (s.asked.length:Int) se)) (bg (.tup []) (kA M { s with stack:=s.pop 1++[mi M.ans s.asked.length k],asked:=s.asked++[k] } ((s.asked++[k]).length:Int) se (2,8) (3,8) (5,8)) [(0,9),(1,9),(2,8),(3,8),(4,9),(5,8)] [(0,9),(1,9),(4,9)]):=by
 have ha:mi M.ans s.asked.length k=mj (mi M.ans s.asked.length k):=by
  have h1:=Int.emod_nonneg (M.ans.getD s.asked.length 0) (show k≠0 by omega)
  have h2:=Int.emod_lt_of_pos (M.ans.getD s.asked.length 0) (show 0 < k by omega)
  unfold mi mj;omega
 rw [ha]
 refine Spec.ofNI Tryz.func134 rfl Tryz.ntmps134 rfl ?_
 refine an (bi rfl (bi rfl (cD ((Le.incT (6,1) rfl).trans (Le.incT (6,0) rfl)) ?_)))
 refine ai (bp aa [((3,8),(6,0)),((5,8),(6,1))] ar (CX M s se ab h0 ab hn hk hk1) ob tr tr rfl ae ae) ?_
 refine cD (Le.incT (7,0) rfl) ?_
 refine ai (bp aa [((3,9),(6,0)),((5,9),(6,1)),((3,8),(7,0))] ar (ea M { s with stack:=s.pop 1,asked:=s.asked++[k] } ((s.asked++[k]).length:Int) se (mi M.ans s.asked.length k) (by have:=cr s 1;simp only;omega)) ob tr tr rfl ae ae) ?_
 exact az (eN (.inl rfl) rfl (Le.outI [((2,8),(2,9)),((3,8),(7,0)),((5,8),(6,1))] [] (.tup rfl bu) rfl rfl rfl trivial ob tr rfl))
end
theorem FT {y x:Int} (hy:Rg y) (hx:Rg x):Spec Tryz.prog 137 (bj [.v (.int .i64 y), .v (.int .i64 x)] []) (aX (.v (.int .i64 (y+x))) []):=by
 refine Spec.ofN Tryz.func137 rfl Tryz.ntmps137 rfl ?_
 refine am (aZ rfl (aj (am (aQ rfl (aQ rfl (ai (bc (r:=y+x) _ _ rfl rfl (bq (by unfold Rg at hy hx;omega))) ?_))))))
 exact aZ rfl (aj (aC (aY (.inr rfl) rfl (.tmp (rfl:_=AV.v _)) (Le.out [] [] .v rfl rfl rfl trivial trivial))))
theorem FF {y x:Int} (hy:Rg y) (hx:Rg x):Spec Tryz.prog 138 (bj [.v (.int .i64 y), .v (.int .i64 x)] []) (aX (.v (.int .i64 (y - x))) []):=by
 refine Spec.ofN Tryz.func138 rfl Tryz.ntmps138 rfl ?_
 refine am (aZ rfl (aj (am (aQ rfl (aQ rfl (ai (ce (r:=y - x) _ _ rfl rfl (bq (by unfold Rg at hy hx;omega))) ?_))))))
 exact aZ rfl (aj (aC (aY (.inr rfl) rfl (.tmp (rfl:_=AV.v _)) (Le.out [] [] .v rfl rfl rfl trivial trivial))))
theorem EQ {y x:Int} (hy:Rg y) (hx:Rg x):Spec Tryz.prog 139 (bj [.v (.int .i64 y), .v (.int .i64 x)] []) (aX (.v (.int .i64 (y*x))) []):=by
 refine Spec.ofN Tryz.func139 rfl Tryz.ntmps139 rfl ?_
 refine am (aZ rfl (aj (am (aQ rfl (aQ rfl (ai (xe (r:=y*x) _ _ rfl rfl (bq (DN hy hx))) ?_))))))
 exact aZ rfl (aj (aC (aY (.inr rfl) rfl (.tmp (rfl:_=AV.v _)) (Le.out [] [] .v rfl rfl rfl trivial trivial))))
theorem FB {y x:Int} (hy:Rg y):Spec Tryz.prog 140 (bj [.v (.int .i64 y), .v (.int .i64 x)] []) (aX (.v (.int .i64 (if x=0 then 0 else y.tdiv x))) []):=by
 have hd:=zT (y:=x) hy
 by_cases h0:x=0
 ·rw [if_pos h0]
  refine Spec.ofN Tryz.func140 rfl Tryz.ntmps140 rfl ?_
  refine am (aZ rfl (aj (ap (am (aQ rfl (ai (bP _ _ rfl rfl rfl) (aj (bD rfl (decide_eq_true h0) ?_))))))))
  exact am (aZ rfl (aj (aC (aY (.inr rfl) rfl (.tmp (rfl:_=AV.v _)) (Le.out [] [] .v rfl rfl rfl trivial trivial)))))
 ·rw [if_neg h0]
  refine Spec.ofN Tryz.func140 rfl Tryz.ntmps140 rfl ?_
  refine am (aZ rfl (aj (ap (am (aQ rfl (ai (bP _ _ rfl rfl rfl) (aj (aP rfl (decide_eq_false h0) ?_))))))))
  refine aJ (am (aQ rfl (aQ rfl (ai (Ej (r:=y.tdiv x) _ _ rfl rfl h0 (bq ab)) ?_))))
  exact aZ rfl (aj (aC (aY (.inr rfl) rfl (.tmp (rfl:_=AV.v _)) (Le.out [] [] .v rfl rfl rfl trivial trivial))))
theorem JI (y x:Int):Spec Tryz.prog 143 (bj [.v (.int .i64 y), .v (.int .i64 x)] []) (aX (.v (.bool (decide (y < x)))) []):=by
 refine Spec.ofN Tryz.func143 rfl Tryz.ntmps143 rfl ?_
 exact am (ct rfl (aj (am (aQ rfl (aQ rfl (ai (bo _ _ rfl rfl rfl) (ct rfl (aj (aC (aY (.inr rfl) rfl (.tmp (rfl:_=AV.v _)) (Le.out [] [] .v rfl rfl rfl trivial trivial)))))))))))
theorem LI (y x:Int):Spec Tryz.prog 144 (bj [.v (.int .i64 y), .v (.int .i64 x)] []) (aX (.v (.bool (decide (y≤x)))) []):=by
 refine Spec.ofN Tryz.func144 rfl Tryz.ntmps144 rfl ?_
 exact am (ct rfl (aj (am (aQ rfl (aQ rfl (ai (bL _ _ rfl rfl rfl) (ct rfl (aj (aC (aY (.inr rfl) rfl (.tmp (rfl:_=AV.v _)) (Le.out [] [] .v rfl rfl rfl trivial trivial)))))))))))
theorem JU (y x:Int):Spec Tryz.prog 145 (bj [.v (.int .i64 y), .v (.int .i64 x)] []) (aX (.v (.bool (decide (y=x)))) []):=by
 refine Spec.ofN Tryz.func145 rfl Tryz.ntmps145 rfl ?_
 exact am (ct rfl (aj (am (aQ rfl (aQ rfl (ai (bP _ _ rfl rfl rfl) (ct rfl (aj (aC (aY (.inr rfl) rfl (.tmp (rfl:_=AV.v _)) (Le.out [] [] .v rfl rfl rfl trivial trivial)))))))))))
theorem yZ {f:FuncId} [cb Tryz.prog f] {y x:Int} {b:Bool} (hg:Spec Tryz.prog f (bj [.v (.int .i64 y), .v (.int .i64 x)] []) (aX (.v (.bool b)) [])):Spec Tryz.prog 190 (bj [.v (.int .i64 y), .v (.int .i64 x), .fp 0 [.fn (.func f) [] []]] []) (aX (.v (.int .i64 (flag b))) []):=by
 cases b
 ·skip
  refine Spec.ofN Tryz.func190 rfl Tryz.ntmps190 rfl ?_
  refine am (aZ rfl (aj (ap (am (ai (bH _ aa rfl ag rfl) ?_)))))
  refine aQ rfl (aQ rfl (ai (ks rfl aa al (hg) rfl rfl) ?_))
  exact aj (aP rfl rfl (aJ (am (aZ rfl (aj (aC (aY (.inr rfl) rfl (.tmp (rfl:_=AV.v _)) (Le.out [] [] .v rfl rfl rfl trivial trivial))))))))
 ·skip
  refine Spec.ofN Tryz.func190 rfl Tryz.ntmps190 rfl ?_
  refine am (aZ rfl (aj (ap (am (ai (bH _ aa rfl ag rfl) ?_)))))
  refine aQ rfl (aQ rfl (ai (ks rfl aa al (hg) rfl rfl) ?_))
  exact aj (bD rfl rfl (am (aZ rfl (aj (aC (aY (.inr rfl) rfl (.tmp (rfl:_=AV.v _)) (Le.out [] [] .v rfl rfl rfl trivial trivial)))))))
theorem lK (g:FuncId):Spec Tryz.prog 136 (bj [.fn (.func g) [] []] []) (aX (.fn (.func 189) [] [.fp 0 [.fn (.func g) [] []]]) []):=by
 refine Spec.ofN Tryz.func136 rfl Tryz.ntmps136 rfl ?_
 refine am (ai (bk (1,0) _ rfl rfl) (ai (bG _ (rfl:_=AV.v _)) (aj (am (ai (pd _ _ (rfl:_=[]) (rfl:_=[_])) ?_)))))
 exact ai (bG _ (rfl:_=AV.fn _ _ _)) (aj (aC (aY (.inr rfl) rfl (.tmp (rfl:_=AV.fn _ _ _)) (Le.out [] [(1,0)] (.fn rfl bu rfl (aI (Lv.frzP rfl rfl rfl) bu)) rfl rfl rfl tr trivial))))
theorem wo (g:FuncId) (f:FuncId):Spec Tryz.prog 136 (bj [.fn (.func g) [] [.fp 0 [.fn (.func f) [] []]]] []) (aX (.fn (.func 189) [] [.fp 0 [.fn (.func g) [] [.ptr 0 [.fn (.func f) [] []]]]]) []):=by
 refine Spec.ofN Tryz.func136 rfl Tryz.ntmps136 rfl ?_
 refine am (ai (bk (1,0) _ rfl rfl) (ai (bG _ (rfl:_=AV.v _)) (aj (am (ai (pd _ _ (rfl:_=[]) (rfl:_=[_])) ?_)))))
 exact ai (bG _ (rfl:_=AV.fn _ _ _)) (aj (aC (aY (.inr rfl) rfl (.tmp (rfl:_=AV.fn _ _ _)) (Le.out [] [(1,0)] (.fn rfl bu rfl (aI (Lv.frzP rfl rfl rfl) bu)) rfl rfl rfl tr trivial))))
theorem ns (f:FuncId):Spec Tryz.prog 142 (bj [.fn (.func f) [] []] []) (aX (.fn (.func 189) [] [.fp 0 [.fn (.func 190) [] [.ptr 0 [.fn (.func f) [] []]]]]) []):=by
 have hb:=wo 190 f
 refine Spec.ofN Tryz.func142 rfl Tryz.ntmps142 rfl ?_
 refine am (ai (bk (1,0) _ rfl rfl) (ai (bG _ (rfl:_=AV.v _)) (aj (ap ?_))))
 refine aN (Le.frzPt 1 rfl rfl rfl rfl) ?_
 refine an (ai (pd _ _ (rfl:_=[]) (rfl:_=[_])) ?_)
 refine ai (aL aa al (hb) rfl rfl) ?_
 exact ai (bG _ (rfl:_=AV.fn _ _ _)) (aj (aC (aY (.inr rfl) rfl (.tmp (rfl:_=AV.fn _ _ _)) (Le.out [] [] (.fn rfl bu rfl lz) rfl rfl rfl trivial trivial))))

def IT:Opc→FuncId
 | .push=> 127
 | .var=> 128
 | .setVar=> 130
 | .name=> 133
 | .draw=> 134
 | .add=> 189
 | .sub=> 189
 | .mul=> 189
 | .div=> 189
 | .neg=> 141
 | .lt=> 189
 | .le=> 189
 | .eq=> 189
 | .not=> 146
 | .jump=> 147
 | .unl=> 148
 | .send=> 149
 | .timer=> 150
 | .cancel=> 151
 | .sync=> 152
 | .reply=> 153
 | .fail=> 154
 | .stop=> 155
def Ix:Opc→List PV
 | .push=> []
 | .var=> []
 | .setVar=> []
 | .name=> []
 | .draw=> []
 | .add=> [.ptr 0 [.fn (.func 137) [] []]]
 | .sub=> [.ptr 0 [.fn (.func 138) [] []]]
 | .mul=> [.ptr 0 [.fn (.func 139) [] []]]
 | .div=> [.ptr 0 [.fn (.func 140) [] []]]
 | .neg=> []
 | .lt=> [.ptr 0 [.fn (.func 190) [] [.ptr 0 [.fn (.func 143) [] []]]]]
 | .le=> [.ptr 0 [.fn (.func 190) [] [.ptr 0 [.fn (.func 144) [] []]]]]
 | .eq=> [.ptr 0 [.fn (.func 190) [] [.ptr 0 [.fn (.func 145) [] []]]]]
 | .not=> []
 | .jump=> []
 | .unl=> []
 | .send=> []
 | .timer=> []
 | .cancel=> []
 | .sync=> []
 | .reply=> []
 | .fail=> []
 | .stop=> []
abbrev Gr:List AV:=[.v .nilFunc, .fn (.func 127) [] [], .fn (.func 128) [] [], .fn (.func 130) [] [], .fn (.func 133) [] [], .fn (.func 134) [] [], .fn (.func 189) [] [.fp 0 [.fn (.func 137) [] []]], .fn (.func 189) [] [.fp 0 [.fn (.func 138) [] []]], .fn (.func 189) [] [.fp 0 [.fn (.func 139) [] []]], .fn (.func 189) [] [.fp 0 [.fn (.func 140) [] []]], .fn (.func 141) [] [], .fn (.func 189) [] [.fp 0 [.fn (.func 190) [] [.ptr 0 [.fn (.func 143) [] []]]]], .fn (.func 189) [] [.fp 0 [.fn (.func 190) [] [.ptr 0 [.fn (.func 144) [] []]]]], .fn (.func 189) [] [.fp 0 [.fn (.func 190) [] [.ptr 0 [.fn (.func 145) [] []]]]], .fn (.func 146) [] [], .fn (.func 147) [] [], .fn (.func 148) [] [], .fn (.func 149) [] [], .fn (.func 150) [] [], .fn (.func 151) [] [], .fn (.func 152) [] [], .fn (.func 153) [] [], .fn (.func 154) [] [], .fn (.func 155) [] []]
theorem Ay (o:Opc):Gr[o.num]? =some (.fn (.func (IT o)) [] (PV.ups (Ix o))):=by cases o <;> rfl
instance GM (o:Opc):cb Tryz.prog (IT o):=by cases o <;> (unfold IT;infer_instance)
theorem yH:Spec Tryz.prog 93 (bj [] []) (aX (.agg Gr) []):=by
 refine Spec.ofN Tryz.func93 rfl Tryz.ntmps93 rfl ?_
 refine am (ai (ay (0,0) aa rfl rfl) (aj (am (ai (aL aa al (lK 137) rfl rfl) ?_))))
 refine ai (aL aa al (lK 138) rfl rfl) ?_
 refine ai (aL aa al (lK 139) rfl rfl) ?_
 refine ai (aL aa al (lK 140) rfl rfl) ?_
 refine ai (aL aa al (ns 143) rfl rfl) ?_
 refine ai (aL aa al (ns 144) rfl rfl) ?_
 refine ai (aL aa al (ns 145) rfl rfl) ?_
 refine ai (aA _ aa rfl (by exact (rfl:_=some [_,_,_,_,_,_,_,_,_,_,_,_,_,_,_,_,_,_,_,_,_,_,_,_]))) ?_
 exact bO rfl rfl rfl rfl rfl rfl (aj (aC (aY (.inr rfl) rfl (.cellA aa rfl rfl rfl) (Le.out [] [] (.agg rfl lz) rfl rfl rfl trivial trivial))))
theorem fA (l:List Ac) (a:Ac):cm (l++[a])=if a.k=3 then cm l+1 else cm l:=by
 unfold cm
 rw [List.countP_append,List.countP_singleton]
 by_cases h:a.k=3 <;> simp [h]
theorem nx (b:Bool):mj (flag b)=flag b:=by cases b <;> decide
theorem DD (M:Mk) (s:Ms) (x:eu) (nv:Nat) (hx:cT nv x) (hv:IV M.cx nv s) (hp:x.op.pops≤s.stack.length) (hs:s.stack.length≤80000) (ha:s.acts.length≤80000) (hq:s.asked.length≤80000) (hn:M.ans.length≤4611686018427387904):
  Spec Tryz.prog (IT x.op) (be ([.ptr (0,9) 0, .v (.int .i64 x.n)]++PV.ups (Ix x.op)) (kL M s (s.asked.length:Int) (cm s.acts:Int))) (bg (.tup []) (kA M (dx M.cx x s) ((dx M.cx x s).asked.length:Int) (cm (dx M.cx x s).acts:Int) (2,8) (3,8) (5,8)) [(0,9),(1,9),(2,8),(3,8),(4,9),(5,8)] [(0,9),(1,9),(4,9)]):=by
 have rs0:=tp hv.rs 0
 have rs1:=tp hv.rs 1
 have hvl:=hv.vl
 have hsn:=hv.sn
 have hnat: ∀ n:Int,0≤n→ ∃ k:Nat,n=k:=fun n h=> ⟨n.toNat,by omega⟩
 obtain ⟨o,n⟩:=x
 have hpp:o.pops≤s.stack.length:=hp
 cases o
 case push=> exact Al M s _ _ n ab
 case var=>
  obtain ⟨k,rfl⟩:=hnat n hx.1
  have hk:(k:Int) < nv:=hx.2
  exact zV M s _ _ k ab ab
 case setVar=>
  obtain ⟨k,rfl⟩:=hnat n hx.1
  have hk:(k:Int) < nv:=hx.2
  by_cases hd:k < M.P.d
  ·have h:=xj M s (s.asked.length:Int) (cm s.acts:Int) k ab ab ab hpp hd
   have e:dx M.cx ⟨.setVar,(k:Int)⟩ s={ s with vars:=s.vars.set k (s.top 0),stack:=s.pop 1,acts:=s.acts++[{ k:=1,a:=k,b:=s.top 0 }] }:=by
    simp only [dx,Int.toNat_natCast]
    rw [if_pos (show (k:Int) < ((M.P.d:Nat):Int) by omega)]
   rw [e]
   rw [show cm (s.acts++[{ k:=1,a:=k,b:=s.top 0 }])=cm s.acts from fA _ _]
   exact h
  ·have h:=yO M s (s.asked.length:Int) (cm s.acts:Int) k ab ab hpp ab
   have e:dx M.cx ⟨.setVar,(k:Int)⟩ s={ s with vars:=s.vars.set k (s.top 0),stack:=s.pop 1 }:=by
    simp only [dx,Int.toNat_natCast]
    rw [if_neg (show ¬ (k:Int) < ((M.P.d:Nat):Int) by omega)]
   rw [e]
   exact h
 case name=>
  obtain ⟨k,rfl⟩:=hnat n hx.1
  have hk:(k:Int) < 9:=hx.2
  exact yq M s _ _ k ab ab
 case draw=>
  by_cases hk:max 1 (min (s.top 0) 4)=1
  ·have h:=yz M s (cm s.acts:Int) n ab hpp hk
   have e:dx M.cx ⟨.draw,n⟩ s={ s with stack:=s.pop 1++[0] }:=if_pos hk
   rw [e];exact h
  ·have h:=zk M s (cm s.acts:Int) n ab hpp hq hn rfl hk
   have e:dx M.cx ⟨.draw,n⟩ s={ s with stack:=s.pop 1++[mi M.ans s.asked.length (max 1 (min (s.top 0) 4))],asked:=s.asked++[max 1 (min (s.top 0) 4)] }:=if_neg hk
   rw [e];exact h
 case add=> exact qK M s _ _ n ab hpp (FT rs1 rs0)
 case sub=> exact qK M s _ _ n ab hpp (FF rs1 rs0)
 case mul=> exact qK M s _ _ n ab hpp (EQ rs1 rs0)
 case div=>
  have h:=qK M s (s.asked.length:Int) (cm s.acts:Int) n ab hpp (FB (x:=s.top 0) rs1)
  have e:dx M.cx ⟨.div,n⟩ s={ s with stack:=s.pop 2++[mj (if s.top 0=0 then 0 else (s.top 1).tdiv (s.top 0))] }:=by
   show { s with stack:=s.pop 2++[if s.top 0=0 then 0 else mj ((s.top 1).tdiv (s.top 0))] }=_
   split <;> rfl
  rw [e];exact h
 case neg=> exact AB M s _ _ n ab hpp rs0
 case not=>
  by_cases h0:s.top 0=0
  ·have h:=AZ M s (s.asked.length:Int) (cm s.acts:Int) n ab hpp h0
   have e:dx M.cx ⟨.not,n⟩ s={ s with stack:=s.pop 1++[1] }:=by simp only [dx,h0,decide_true];rfl
   rw [e];exact h
  ·have h:=Ca M s (s.asked.length:Int) (cm s.acts:Int) n ab hpp h0
   have e:dx M.cx ⟨.not,n⟩ s={ s with stack:=s.pop 1++[0] }:=by simp only [dx,h0,decide_false];rfl
   rw [e];exact h
 case jump=>
  obtain ⟨k,rfl⟩:=hnat n hx
  exact zW M s _ _ k
 case unl=>
  obtain ⟨k,rfl⟩:=hnat n hx
  by_cases h0:s.top 0=0
  ·have h:=Bs M s (s.asked.length:Int) (cm s.acts:Int) k ab hpp h0
   have e:dx M.cx ⟨.unl,(k:Int)⟩ s={ s with stack:=s.pop 1,pc:=k }:=by simp only [dx,Int.toNat_natCast];rw [if_pos h0]
   rw [e];exact h
  ·have h:=BP M s (s.asked.length:Int) (cm s.acts:Int) k ab hpp h0
   have e:dx M.cx ⟨.unl,(k:Int)⟩ s={ s with stack:=s.pop 1 }:=by simp only [dx,Int.toNat_natCast];rw [if_neg h0]
   rw [e];exact h
 case send=>
  by_cases hc:0≤s.top 2∧s.top 2 < M.cx.names.getD 1 0∧cm s.acts < 20
  ·have h:=Cf M s (s.asked.length:Int) (cm s.acts:Int) n ab ab hpp ab hc.1 hc.2.1 ab
   have e:dx M.cx ⟨.send,n⟩ s={ s with stack:=s.pop 3,acts:=s.acts++[{ k:=3,a:=s.top 2,b:=n,c:=s.top 1,d:=s.top 0 }] }:=by simp only [dx];rw [if_pos hc]
   rw [e]
   rw [show cm (s.acts++[{ k:=3,a:=s.top 2,b:=n,c:=s.top 1,d:=s.top 0 }])=cm s.acts+1 from fA _ _]
   exact h
  ·have e:dx M.cx ⟨.send,n⟩ s={ s with stack:=s.pop 3 }:=by simp only [dx];rw [if_neg hc]
   rw [e]
   by_cases h1:0≤s.top 2
   ·by_cases h2:s.top 2 < M.nm 1
    ·exact zq M s (s.asked.length:Int) (cm s.acts:Int) n ab ab hpp ab h1 h2 (by
      have: ¬ cm s.acts < 20:=fun h=> hc ⟨h1,h2,h⟩
      omega)
    ·exact yC M s (s.asked.length:Int) (cm s.acts:Int) n ab ab hpp ab h1 ab
   ·exact xk M s (s.asked.length:Int) (cm s.acts:Int) n ab ab hpp ab ab
 case timer=>
  have h:=xa M s (s.asked.length:Int) (cm s.acts:Int) n ab
  have e:cm (dx M.cx ⟨.timer,n⟩ s).acts=cm s.acts:=fA _ _
  rw [e];exact h
 case cancel=>
  have h:=uQ M s (s.asked.length:Int) (cm s.acts:Int) n ab
  have e:cm (dx M.cx ⟨.cancel,n⟩ s).acts=cm s.acts:=fA _ _
  rw [e];exact h
 case sync=>
  have h:=Aw M s (s.asked.length:Int) (cm s.acts:Int) n ab
  have e:cm (dx M.cx ⟨.sync,n⟩ s).acts=cm s.acts:=fA _ _
  rw [e];exact h
 case reply=>
  have h:=wO M s (s.asked.length:Int) (cm s.acts:Int) n ab ab hpp
  have e:cm (dx M.cx ⟨.reply,n⟩ s).acts=cm s.acts:=fA _ _
  rw [e];exact h
 case fail=>
  have h:=xv M s (s.asked.length:Int) (cm s.acts:Int) n ab ab hpp
  have e:cm (dx M.cx ⟨.fail,n⟩ s).acts=cm s.acts:=fA _ _
  rw [e];exact h
 case stop=> exact As M s _ _ n
 case lt=>
  have h:=tA M s (s.asked.length:Int) (cm s.acts:Int) n ab hpp (yZ (JI (s.top 1) (s.top 0)))
  rw [nx] at h
  exact h
 case le=>
  have h:=tA M s (s.asked.length:Int) (cm s.acts:Int) n ab hpp (yZ (LI (s.top 1) (s.top 0)))
  rw [nx] at h
  exact h
 case eq=>
  have h:=tA M s (s.asked.length:Int) (cm s.acts:Int) n ab hpp (yZ (JU (s.top 1) (s.top 0)))
  rw [nx] at h
  exact h

theorem nr (l:List Int) (h0:0 < l.length) (h1:l.length≤1000000):
  Spec Tryz.prog 92 (bj [.sl l.length (du l)] []) (aX (.ref (0,8) 0 l.length) [((0,8), .row 3 1 (du l))]):=by
 refine Spec.ofN Tryz.func92 rfl Tryz.ntmps92 rfl ?_
 refine am (ai (bG _ (rfl:_=AV.v (.slice _ _ _))) (aj (ap (am (eV rfl (ai (AX _ _ Tryz.underlying22 (.inl ⟨_,rfl⟩) h0 rfl) ?_))))))
 refine aj (aP rfl rfl (aJ (am (ai (CE _ aa rfl) (eV rfl (ai (Ax (7,0) _ _ aa rfl h0 (.sl (by simp)) ab rfl) ?_))))))
 exact fa rfl (aj (aC (aY (.inr rfl) rfl (.tmp (rfl:_=AV.ref _ _ _)) (Le.out [((0,8),(7,0))] [] (dh rfl rfl) rfl rfl rfl trivial ob))))
def np (l:List Nat):List (Int×Value):=l.foldl (fun M (i:Nat)=> fU M (i:Int) (.agg #[])) []
theorem xt (l:List Nat) (i:Nat):np (l++[i])=fU (np l) (i:Int) (.agg #[]):=by simp [np,List.foldl_append]
theorem sB {M:List (Int×Value)} {n:Int} {u:Value} (h:lZ M n=some u):(n,u)∈M:=by
 unfold lZ at h
 cases hf:lR n M 0 with
 | none=> rw [hf] at h;cases h
 | some p=>
  obtain ⟨i,v⟩:=p
  rw [hf] at h
  obtain rfl:v=u:=Option.some.inj h
  obtain ⟨q,_,hq⟩:=qD hf
  exact List.mem_of_getElem? hq
theorem rA {M:List (Int×Value)} {n:Int} {u:Value} {p:Int×Value} (h:p∈fU M n u):p∈M∨p=(n,u):=by
 unfold fU at h
 split at h
 ·exact .inl h
 ·rcases List.mem_append.1 h with h | h
  ·exact .inl h
  ·exact .inr (List.mem_singleton.1 h)
theorem rP: ∀ (l:List Nat) (M:List (Int×Value)),(∀ p∈M,p.2= .agg #[])→ ∀ p∈l.foldl (fun M (i:Nat)=> fU M (i:Int) (.agg #[])) M,p.2= .agg #[]
 | [],_,h=> h
 | i::l,M,h=> rP l _ fun p hp=> by
  rcases rA hp with hp | rfl
  ·exact h p hp
  ·rfl
theorem qE (l:List Nat): ∀ p∈np l,p.2= .agg #[]:=rP l [] fun p hp=> by cases hp
theorem ue {M:List (Int×Value)} {n:Int} (h:lZ M n=none):n∉M.map (·.1):=by
 intro hm
 obtain ⟨p,hp,he⟩:=List.mem_map.1 hm
 unfold lZ at h
 cases hf:lR n M 0 with
 | some q=> rw [hf] at h;cases h
 | none=>
  clear h hm
  have: ∀ (M:List (Int×Value)) (i:Nat),lR n M i=none→ ∀ p∈M,p.1≠n:=by
   intro M
   induction M with
   | nil=> intro i _ p hp;cases hp
   | cons a l ih=>
    intro i h p hp
    unfold lR at h
    split at h
    ·cases h
    ·rename_i hne
     rcases List.mem_cons.1 hp with rfl | hp
     ·exact fun e=> hne e.symm
     ·exact ih _ h p hp
  exact this M 0 hf p hp he
theorem zI {M:List (Int×Value)} {n:Int} {u:Value} (h:(M.map (·.1)).Nodup):((fU M n u).map (·.1)).Nodup:=by
 unfold fU
 cases hg:lZ M n with
 | some v=> exact h
 | none=>
  simp only [Option.isSome_none,Bool.false_eq_true,if_false,List.map_append,List.map_cons,List.map_nil]
  exact List.nodup_append.2 ⟨h,by simp,fun a ha b hb e=> ue hg (by rw [List.mem_singleton.1 hb] at e;exact e ▸ ha)⟩
theorem uc: ∀ (l:List Nat) (M:List (Int×Value)),(M.map (·.1)).Nodup→((l.foldl (fun M (i:Nat)=> fU M (i:Int) (.agg #[])) M).map (·.1)).Nodup
 | [],_,h=> h
 | _::l,_,h=> uc l _ (zI h)
theorem zl (l:List Nat):((np l).map (·.1)).Nodup:=uc l [] List.nodup_nil
theorem uz {N:Int}: ∀ (l:List Nat) (M:List (Int×Value)),(∀ i∈l,(i:Int)≤N)→(∀ p∈M,0≤p.1∧p.1≤N)→ ∀ p∈l.foldl (fun M (i:Nat)=> fU M (i:Int) (.agg #[])) M,0≤p.1∧p.1≤N
 | [],_,_,h=> h
 | i::l,M,hl,h=> uz l _ (fun j hj=> hl j (List.mem_cons_of_mem _ hj)) fun p hp=> by
  rcases rA hp with hp | rfl
  ·exact h p hp
  ·exact ⟨by simp only;omega,hl i List.mem_cons_self⟩
theorem zb (l:List Nat) (h: ∀ i∈l,i≤1000000): ∀ p∈np l,0≤p.1∧p.1≤1000000:=uz l [] (fun i hi=> by have:=h i hi;omega) fun p hp=> by cases hp
theorem Ai (l:List Nat) (n:Int): ∀ u,lZ (np l) n=some u→u= .agg #[]:=fun u h=> qE l _ (sB h)
structure Sz (s:Ms):Prop where
 st:s.stack.length≤s.steps
 ac:s.acts.length≤s.steps
 ak:s.asked.length≤s.steps
theorem AE (K:Cx) (x:eu) (s:Ms):(dx K x s).stack.length≤s.stack.length+1∧(dx K x s).acts.length≤s.acts.length+1∧(dx K x s).asked.length≤s.asked.length+1∧(dx K x s).steps=s.steps:=by
 have hp:=cr s
 unfold dx
 cases x.op <;> simp only [List.length_append,List.length_cons,List.length_nil,hp]
 case setVar=> split <;> simp <;> omega
 case draw=> split <;> simp [hp] <;> omega
 case send=> split <;> simp <;> omega
 all_goals (refine ⟨?_,?_,?_,?_⟩ <;> first | trivial | omega)
theorem ul {K:Cx} {s:Ms} (h:Sz s):Sz (fP K s):=by
 obtain ⟨h1,h2,h3,h4⟩:=AE K (K.code.getD s.pc { op:= .stop }) { s with pc:=s.pc+1,steps:=s.steps+1,cov:=s.cov++[s.pc] }
 have:=h.st;have:=h.ac;have:=h.ak
 exact ⟨by unfold fP;rw [h4];simp only at h1 ⊢;omega,by unfold fP;rw [h4];simp only at h2 ⊢;omega,by unfold fP;rw [h4];simp only at h3 ⊢;omega⟩
theorem wS {ρ:aG→aG} {σ:St} {F:aG→Bool} {id id':aG} (h:ρ id=id'):Lv ρ σ F (.mp id) (.mp id'):=by subst h;exact .mp
def jq (M:List (Int×Value)):List Int:=(M.map (·.1)).mergeSort (fun x y=> decide (x≤y))
theorem pw (es:List MapEntry) (c:Nat):Spec Tryz.prog 95 (be [.mp (0,9)] [((0,9), .mp es c)]) (bg (.fn (.func 158) [] [.ptr (1,8) 0]) [((0,9), .mp es c),((1,8), .box 175 [.mp (0,9)])] [(0,9)] [(0,9)]):=by
 refine Spec.ofNI Tryz.func95 rfl Tryz.ntmps95 rfl ?_
 refine am (ai (bk (1,0) _ rfl rfl) (ai (bG _ (rfl:_=AV.v _)) (aj (am (ai (pd _ _ (rfl:_=[]) (rfl:_=[_])) ?_)))))
 exact ai (bG _ (rfl:_=AV.fn _ _ _)) (aj (aC (aY (.inr rfl) rfl (.tmp (rfl:_=AV.fn _ _ _)) (Le.outI [((1,8),(1,0))] [] (.fn rfl bu rfl lz) rfl rfl rfl trivial ⟨⟨rfl,⟨_,rfl, .mp⟩,rfl⟩,⟨rfl,⟨_,rfl, .box rfl (aI (wS rfl) bu)⟩,rfl⟩,trivial⟩ tr rfl))))
theorem xL {σ:St} {rn:List (aG×aG)} (o:Opc):fR σ rn (PV.ups (Ix o)) (PV.ups (Ix o)):=by
 cases o <;> first | exact dt | exact cQ .fp dt
theorem Df (o:Opc):o.num < 24:=by cases o <;> decide
theorem xP (M:List (Int×Value)) (n:Int) (u:Value):(fU M n u).length≤M.length+1:=by unfold fU;split <;> simp
theorem rx: ∀ (l:List Nat) (M:List (Int×Value)),(l.foldl (fun M (i:Nat)=> fU M (i:Int) (.agg #[])) M).length≤M.length+l.length
 | [],M=> Nat.le_refl _
 | i::l,M=> by have:=rx l (fU M i (.agg #[]));have:=xP M i (.agg #[]);simp only [List.foldl_cons,List.length_cons];omega
theorem uk (l:List Nat):(np l).length≤l.length:=by have:=rx l [];simpa [np] using this
theorem zd (K:Cx) (x:eu) (s:Ms):(dx K x s).cov=s.cov:=by
 unfold dx
 cases x.op <;> simp only
 all_goals (split <;> rfl)
theorem Av {K:Cx} {s:Ms} (h:s.fin=true): ∀ k,fV K k s=s
 | 0=> rfl
 | k+1=> by rw [fV,if_pos h]
abbrev wQ:Prop:= ∀ (M:List (Int×Value)),M.length≤1000000→(∀ p∈M,p.2= .agg #[])→(M.map (·.1)).Nodup→(∀ p∈M,0≤p.1∧p.1≤1000000)→Spec Tryz.prog 94 (be [.fn (.func 158) [] [.ptr (1,9) 0]] [((0,9), .mp (eb M) M.length),((1,9), .box 175 [.mp (0,9)])]) (bg (.sl (jq M).length (du (jq M))) [((0,9), .mp (eb M) M.length),((1,9), .box 175 [.mp (0,9)])] [(0,9),(1,9)] [(0,9),(1,9)])
set_option maxHeartbeats 1000000 in
theorem va (M:Mk) (hS:wQ) (D:Nat→Nat) (nv:Nat) (hK:PG M.cx D nv) (h:Nat) (hh:h < 40) (e0:Nat) (he:M.P.e h=(e0:Int)) (he2:e0 < M.P.c.length) (hD:D e0=0) (hiv:M.iv.length=nv) (hir: ∀ v∈M.iv,Rg v) (h0:0 < nv) (hc:M.P.c.length≤1000000) (hn:M.ans.length≤4611686018427387904) (R:Ms) (hR:R=fV M.cx 500 (dC M.iv e0)):
  Spec Tryz.prog 59 (be [xf M.P, .v (.int .i64 (h:Int)), .agg [.sl M.iv.length (du M.iv), .v (.int .i64 (M.nm 0)), .v (.int .i64 (M.nm 1)), .v (.int .i64 (M.nm 2)), .v (.int .i64 (M.nm 3)), .v (.int .i64 (M.nm 4)), .v (.int .i64 (M.nm 5)), .v (.int .i64 (M.nm 6)), .v (.int .i64 (M.nm 7)), .v (.int .i64 (M.nm 8))],DA (4,9)] (zx M.ans [] (5,9))) (bg (.agg [.sl R.vars.length (du R.vars), .ref (2,8) 0 R.acts.length, .v (.int .i64 (R.steps:Int)), .v (.bool (!R.fin)), .sl (jq (np R.cov)).length (du (jq (np R.cov)))]) (((2,8), .row 57 5 (vJ R.acts))::zx M.ans R.asked (5,8)) [(2,8),(4,9),(5,8)] [(4,9)]):=by
 have hnv:=hK.nv
 have hcl:=nr M.iv ab ab
 have hg:=qk M.P.c.length (inl M.P.c) M.P.e (M.P.d:Int) (M.P.v:Int) h hh
 rw [he] at hg
 refine Spec.ofNI Tryz.func59 rfl Tryz.ntmps59 rfl ?_
 refine am (ai (bk (4,0) _ rfl rfl) (ai (bk (6,0) _ rfl rfl) (ai (ay (8,0) aa rfl rfl) (aj (ap (bF 11 [13,14,15,16,17,18,19,20,21,22,23] [(22,0)] ae ae rfl (aM rfl) (rfl:_=[_,_,_,_,_,_,_,_,_,_,_]) (rfl:_=[_,_,_]) ?_))))))
 refine aq (_,[]) (fun τ=> aR _ aa rfl rfl rfl rfl) ?_
 refine eJ rfl ?_
 refine aq (_,[]) (fun τ=> aR _ aa rfl rfl rfl rfl) ?_
 refine eK rfl ?_
 refine aq (_,[]) (fun τ=> aE _ (rfl:_=AV.fn _ _ _)) ?_
 refine eH rfl ?_
 refine aq (_,[]) (fun τ=> aE _ (rfl:_=AV.v (.int _ _))) ?_
 refine eS rfl ?_
 refine aq (_,[]) (fun τ=> aH _ aa rfl rfl rfl) ?_
 refine eZ rfl ?_
 refine aq (_,[]) (fun τ=> eD _ _ aa rfl rfl rfl h rfl ab (by exact congrArg (fun z=> 0+1+z) (Nat.mul_one h))) ?_
 refine fH rfl ?_
 refine aq (_,[]) (fun τ=> aK _ aa rfl rfl (by exact (congrArg (fun z=> (Aa M.P.c.length (inl M.P.c) M.P.e (M.P.d:Int) (M.P.v:Int))[z]?) ab).trans hg)) ?_
 refine gF rfl ?_
 refine aq (_,[]) (fun τ=> aH _ aa rfl rfl rfl) ?_
 refine kv rfl ?_
 refine aq (_,[]) (fun τ=> aK _ aa rfl rfl (rfl:_=some (AV.sl _ _))) ?_
 refine ko rfl ?_
 refine aq (_,[((22,0),_)]) (fun τ=> (ef aa [((0,8),(22,0))] ar (hcl.toI) trivial tr tr rfl rfl ae ae)) ?_
 refine gj rfl ?_
 refine aq (_,[]) (fun τ=> aA _ aa rfl (by exact (rfl:_=some [AV.ref (22,0) 0 M.iv.length,AV.v (.slice none 0 0),AV.v (.int .i64 0),AV.v (.bool false),AV.v (.slice none 0 0)]))) ?_
 refine gH rfl (bh ⟨rfl,?_⟩)
 refine ai (aA _ aa rfl (by exact (rfl:_=some [_,_,_,_,_,_,_,_,_,_,_,_,_,_,_,_,_,_,_,_,_,_,_,_,_,_,_,_,_,_,_,_,_,_,_,_,_,_,_,_,_,_,_,_,_,_,_,_,_,_,_,_,_,_,_,_,_,_,_,_,_,_,_,_]))) ?_
 refine ai (bk (25,0) _ rfl rfl) (ED rfl (aj (ap (ap ?_))))
 refine aN (σ':=aB 108 [(4,_),(8,_),(9,_)] [((4,9),_),((5,9),_),((4,0),_),((8,0),_),((22,0),_),((25,0),_)] [(4,9),(5,9)] [(4,9)]) kp ?_
 refine an (bi rfl (ai (aS _ rfl rfl) (bA rfl rfl rfl (cC rfl rfl rfl (ai (bo _ _ rfl rfl rfl) (aj (aP rfl (decide_eq_false ab) ?_)))))))
 refine aJ (am (ai (aL aa (by repeat' (exact dN)) (yH) rfl rfl) ?_))
 refine ai (ay (10,0) aa rfl rfl) (bO rfl rfl rfl rfl rfl rfl (aj (am (ai (CQ (36,0) rfl) (ai (bG _ (rfl:_=AV.mp _)) (aj (aF fun K7 hK7=> ?_)))))))
 refine au ?_
 refine aN (Le.incT (60,0) rfl) ?_
 refine aN (Le.incT (61,0) rfl) ?_
 refine aN (Le.nilB (25,0) 55 (60,0) 57 5 rfl rfl rfl) ?_
 refine aN (Le.nilB (25,0) 59 (61,0) 3 1 rfl rfl rfl) ?_
 refine bw (α:=Nat×Ms) (fun z=> R=fV M.cx z.1 z.2∧z.1+z.2.steps=500∧At M.cx D nv z.2∧Sz z.2) 108 [(4,_),(8,_),(9,_),(10,_),(11,_)] [((4,0),_),((8,0),_),((10,0),_)] (fun z=> []) (fun z=> [((25,0), .box 171 [.sl M.P.c.length (inl M.P.c), .v (.int .i64 (M.P.e 0)), .v (.int .i64 (M.P.e 1)), .v (.int .i64 (M.P.e 2)), .v (.int .i64 (M.P.e 3)), .v (.int .i64 (M.P.e 4)), .v (.int .i64 (M.P.e 5)), .v (.int .i64 (M.P.e 6)), .v (.int .i64 (M.P.e 7)), .v (.int .i64 (M.P.e 8)), .v (.int .i64 (M.P.e 9)), .v (.int .i64 (M.P.e 10)), .v (.int .i64 (M.P.e 11)), .v (.int .i64 (M.P.e 12)), .v (.int .i64 (M.P.e 13)), .v (.int .i64 (M.P.e 14)), .v (.int .i64 (M.P.e 15)), .v (.int .i64 (M.P.e 16)), .v (.int .i64 (M.P.e 17)), .v (.int .i64 (M.P.e 18)), .v (.int .i64 (M.P.e 19)), .v (.int .i64 (M.P.e 20)), .v (.int .i64 (M.P.e 21)), .v (.int .i64 (M.P.e 22)), .v (.int .i64 (M.P.e 23)), .v (.int .i64 (M.P.e 24)), .v (.int .i64 (M.P.e 25)), .v (.int .i64 (M.P.e 26)), .v (.int .i64 (M.P.e 27)), .v (.int .i64 (M.P.e 28)), .v (.int .i64 (M.P.e 29)), .v (.int .i64 (M.P.e 30)), .v (.int .i64 (M.P.e 31)), .v (.int .i64 (M.P.e 32)), .v (.int .i64 (M.P.e 33)), .v (.int .i64 (M.P.e 34)), .v (.int .i64 (M.P.e 35)), .v (.int .i64 (M.P.e 36)), .v (.int .i64 (M.P.e 37)), .v (.int .i64 (M.P.e 38)), .v (.int .i64 (M.P.e 39)), .v (.int .i64 (M.P.d:Int)), .v (.int .i64 (M.P.v:Int)), .sl M.iv.length (du M.iv), .v (.int .i64 (M.nm 0)), .v (.int .i64 (M.nm 1)), .v (.int .i64 (M.nm 2)), .v (.int .i64 (M.nm 3)), .v (.int .i64 (M.nm 4)), .v (.int .i64 (M.nm 5)), .v (.int .i64 (M.nm 6)), .v (.int .i64 (M.nm 7)), .v (.int .i64 (M.nm 8)), .fn (.func 60) [.ptr (4,9) 0] [], .ref (22,0) 0 z.2.vars.length, .ref (60,0) 0 z.2.acts.length, .v (.int .i64 (z.2.steps:Int)), .v (.bool false), .v (.slice none 0 0), .ref (61,0) 0 z.2.stack.length, .v (.int .i64 (z.2.pc:Int)), .v (.int .i64 (z.2.asked.length:Int)), .v (.int .i64 (cm z.2.acts:Int)), .v (.bool z.2.fin)]),((22,0), .row 3 1 (du z.2.vars)),((60,0), .row 57 5 (vJ z.2.acts)),((61,0), .row 3 1 (du z.2.stack)),((36,0), .mp (eb (np z.2.cov)) (np z.2.cov).length),((4,9), .box 129 [.sl M.ans.length (du M.ans), .ref (5,9) 0 z.2.asked.length, .v (.bool true)]),((5,9), .row 3 1 (du z.2.asked))]) [(4,9),(5,9),(60,0),(61,0)] [(4,9)] (fun z=> z.1) (500,dC M.iv e0) ?_ (by
  refine Le.mkJ [] [] rfl ?_ ?_ trivial tr ?_
  ·exact ⟨(iP rfl),(iP rfl),(iP rfl),(iP rfl),(iM rfl),trivial⟩
  ·exact ⟨(cF rfl rfl rfl),(cF rfl rfl rfl),(cF rfl rfl rfl),(fS rfl rfl rfl rfl (aI (ix ag ag) (sy (sy (sy (sy (nC (nC (aI (ix ag ag) (Bj (Bj (nC (aI (by repeat' (first | exact dW rfl | refine Lv.fn rfl ?_ rfl ?_ | exact bu | refine aI ?_ ?_)) (aI (dh rfl ag) (aI (dh rfl ag) (nC (aI (ic ag) (aI (by repeat' (exact Lv.v)) lz)))))))))))))))))),(gM rfl rfl rfl ag),(gM rfl rfl rfl ag),(gM rfl rfl rfl ag),(Qe rfl rfl rfl ag ag),(fS rfl rfl rfl rfl lz),(gM rfl rfl rfl ag),trivial⟩
  ·kernel_rfl) ?_
 ·exact ⟨hR,rfl,qQ hiv hir he2 hD,⟨Nat.le_refl _,Nat.le_refl _,Nat.le_refl _⟩⟩
 intro z hz
 obtain ⟨k,s⟩:=z
 obtain ⟨hz1,hz2,hz3,hz4⟩:=hz
 simp only at hz1 hz2 hz3 hz4 ⊢
 have hl1:=hz4.st
 have hl2:=hz4.ac
 have hl3:=hz4.ak
 have hcn:=hz3.cn
 refine aF fun K8 hK8=> ?_
 refine aF fun K9 hK9=> ?_
 refine an (bi rfl (ai (aS _ rfl rfl) (bA rfl rfl rfl (Ng rfl rfl rfl (ai (dc (r:= !s.fin) _ rfl rfl) ?_)))))
 refine cJ rfl (dE (fun hg42=> ?_) (fun hg42=> ?_))
 ·skip
  have hf:s.fin=false:=by simpa using hg42
  refine ax rfl rfl (aE _ (rfl:_=AV.ptr _ _)) (ax rfl rfl (aS _ rfl rfl) (ax rfl rfl (aH _ aa rfl rfl rfl) (ax rfl rfl (aH _ aa rfl rfl rfl) (ax rfl rfl (aK _ aa rfl rfl (rfl:_=some (AV.v (.int _ _)))) (ax rfl rfl (bo (r:=decide ((s.steps:Int) < 500)) _ _ rfl rfl rfl) ?_)))))
  refine ai (aD _ _ _ rfl (rfl:_=AV.v (.bool _))) (az (hK9 _ ?_))
  clear hK9;try clear K9
  refine aT rfl (fun hc49=> ?_) (fun hc49=> ?_)
  ·skip
   obtain ⟨k,rfl⟩: ∃ q,k=q+1:=⟨k - 1,by omega⟩
   obtain ⟨hp,hd⟩:=hz3.go hf
   obtain ⟨⟨o,n⟩,hx⟩: ∃ x,M.cx.code[s.pc]? =some x:=⟨_,List.getElem?_eq_getElem hp⟩
   obtain ⟨g1,g2,_⟩:=hK.good s.pc ⟨o,n⟩ hx
   rw [Nat.zero_add] at g2
   have g2:o.pops≤D s.pc:=g2
   have hgx:M.cx.code.getD s.pc { op:= .stop }=⟨o,n⟩:=by rw [List.getD_eq_getElem?_getD,hx];rfl
   have hst:fP M.cx s=dx M.cx ⟨o,n⟩ { s with pc:=s.pc+1,steps:=s.steps+1,cov:=s.cov++[s.pc] }:=by unfold fP;rw [hgx]
   have hat:=qo hK hz3 hf
   have hsz:=ul (K:=M.cx) hz4
   have hss:=(stepM_steps (K:=M.cx) (s:=s)).1
   rw [fV,if_neg (by rw [hf];decide)] at hz1
   have hop:=DD M { s with pc:=s.pc+1,steps:=s.steps+1,cov:=s.cov++[s.pc] } ⟨o,n⟩ nv g1 ⟨hz3.iv.vl,hz3.iv.rv,hz3.iv.rs,hz3.iv.ac,hz3.iv.sn,hz3.iv.ar⟩ (show o.pops≤s.stack.length by omega) (by simp only;omega) (by simp only;omega) (by simp only;omega) hn
   have hcov:=zd M.cx ⟨o,n⟩ { s with pc:=s.pc+1,steps:=s.steps+1,cov:=s.cov++[s.pc] }
   rw [hst] at hz1 hat hsz hss
   have hmp:fU (np s.cov) (s.pc:Int) (.agg #[])=np (dx M.cx ⟨o,n⟩ { s with pc:=s.pc+1,steps:=s.steps+1,cov:=s.cov++[s.pc] }).cov:=by rw [hcov,xt]
   have hia:=yA M.P.c s.pc hp
   rw [show cO M.P.c s.pc=⟨o,n⟩ from hgx] at hia
   have hn24:=Df o
   have hpcl:s.pc < M.P.c.length:=hp
   generalize dx M.cx ⟨o,n⟩ { s with pc:=s.pc+1,steps:=s.steps+1,cov:=s.cov++[s.pc] }=E at hz1 hat hsz hss hop hcov hmp
   refine bv (hK8 _ ?_)
   clear hK8;try clear K8
   refine au (am (ai (aE _ (rfl:_=AV.mp _)) (bi rfl (ai (aS _ rfl rfl) (bA rfl rfl rfl (cC rfl rfl rfl (ai (aA _ aa rfl (by exact (rfl:_=some []))) ?_)))))))
   refine ai (AH _ _ _ Tryz.underlying175 Tryz.underlying3 rfl rfl rfl rfl rfl (Ai _ _) hmp rfl) ?_
   refine aj (ap ?_)
   refine aN (σ':=aB 108 [(4,_),(8,_),(9,_),(10,_),(11,_)] [((4,0),_),((8,0),_),((10,0),_),((25,0),_),((22,0),_),((60,0),_),((61,0),_),((36,0),_),((4,9),_),((5,9),_)] [(4,9),(5,9),(60,0),(61,0)] [(4,9)]) kp ?_
   refine bF 9 [56,57,58,59,60,61,62,63,12] [(12,0)] ae ae rfl (aM rfl) (rfl:_=[_,_,_,_,_,_,_,_,_]) (rfl:_=[_]) ?_
   refine aq (_,[]) (fun τ=> aH _ aa rfl rfl rfl) ?_
   refine eJ rfl ?_
   refine aq (_,[]) (fun τ=> aK _ aa rfl rfl (rfl:_=some (AV.sl _ _))) ?_
   refine eK rfl ?_
   refine aq (_,[]) (fun τ=> aE _ (rfl:_=AV.ptr _ _)) ?_
   refine eH rfl ?_
   refine aq (_,[]) (fun τ=> aS _ rfl rfl) ?_
   refine eS rfl ?_
   refine aq (_,[]) (fun τ=> aH _ aa rfl rfl rfl) ?_
   refine eZ rfl ?_
   refine aq (_,[]) (fun τ=> aK _ aa rfl rfl (rfl:_=some (AV.v (.int _ _)))) ?_
   refine fH rfl ?_
   refine aq (_,[]) (fun τ=> bf _ _ aa rfl rfl _ rfl ab (by (simp only [ba,bn,bl,ba,bM,gn];omega)) ag) ?_
   refine gF rfl ?_
   refine aq (_,[]) (fun τ=> cd _ aa rfl (by exact hia) rfl) ?_
   refine kv rfl ?_
   refine aq (_,[((12,0),_)]) (fun τ=> ay (12,0) aa rfl rfl) ?_
   refine ko rfl (bh ⟨rfl,?_⟩)
   refine bO rfl rfl rfl rfl rfl rfl (aj (am (bi rfl (ai (aS _ rfl rfl) (bA rfl rfl rfl (cC rfl rfl rfl (ai (bc (r:=((s.pc+1:Nat):Int)) _ _ rfl rfl ((bq ab).trans ab)) ?_)))))))
   refine ai (aS _ rfl rfl) (bA rfl rfl rfl (bO rfl rfl rfl rfl rfl rfl (aj (ap ?_))))
   refine aN (σ':=aB 108 [(4,_),(8,_),(9,_),(10,_),(11,_),(12,_)] [((4,0),_),((8,0),_),((10,0),_),((25,0),_),((22,0),_),((60,0),_),((61,0),_),((36,0),_),((4,9),_),((5,9),_),((12,0),_)] [(4,9),(5,9),(60,0),(61,0)] [(4,9)]) kp ?_
   refine an (bi rfl (ai (aS _ rfl rfl) (bA rfl rfl rfl (bA rfl rfl rfl (cC rfl rfl rfl (ai (bc (r:=((s.steps+1:Nat):Int)) _ _ rfl rfl ((bq ab).trans ab)) ?_))))))
   refine ai (aS _ rfl rfl) (bA rfl rfl rfl (bA rfl rfl rfl (bO rfl rfl rfl rfl rfl rfl (aj ?_))))
   refine aN (σ':=aB 108 [(4,_),(8,_),(9,_),(10,_),(11,_),(12,_)] [((4,0),_),((8,0),_),((10,0),_),((25,0),_),((22,0),_),((60,0),_),((61,0),_),((36,0),_),((4,9),_),((5,9),_),((12,0),_)] [(4,9),(5,9),(60,0),(61,0)] [(4,9)]) kp ?_
   refine bF 7 [80,81,82,83,84,85,86] [] ae ae rfl (aM rfl) (rfl:_=[_,_,_,_,_,_,_]) (rfl:_=[_]) ?_
   refine aq (_,[]) (fun τ=> aH _ aa rfl rfl rfl) ?_
   refine eJ rfl ?_
   refine aq (_,[]) (fun τ=> aK _ aa rfl rfl (rfl:_=some (AV.v (.int _ _)))) ?_
   refine eK rfl ?_
   refine aq (_,[]) (fun τ=> eD _ _ aa rfl rfl rfl o.num rfl ab (by exact (Nat.zero_add _).trans (Nat.mul_one _))) ?_
   refine eH rfl ?_
   refine aq (_,[]) (fun τ=> aK _ aa rfl rfl (by exact Ay o)) ?_
   refine eS rfl ?_
   refine aq (_,[]) (fun τ=> aE _ (rfl:_=AV.ptr _ _)) ?_
   refine eZ rfl ?_
   refine aq (_,[]) (fun τ=> aH _ aa rfl rfl rfl) ?_
   refine fH rfl ?_
   refine aq (_,[]) (fun τ=> aK _ aa rfl rfl (rfl:_=some (AV.v (.int _ _)))) ?_
   refine gF rfl (bh ⟨rfl,?_⟩)
   refine cD ((Le.incT (87,0) rfl).trans ((Le.incT (87,1) rfl).trans (Le.incT (87,2) rfl))) ?_
   refine ai (ox rfl aa [((0,9),(25,0)),((1,9),(22,0)),((2,9),(60,0)),((3,9),(61,0)),((2,8),(87,0)),((3,8),(87,1)),((5,8),(87,2))] ?_ (hop) ob tr tr rfl (by clear hS hg hia hop;cases o <;> kernel_rfl) ae) ?_
   ·exact cQ (dW rfl) (cQ .v (xL o))
   refine az (⟨(k,E),?_,?_,?_⟩)
   ·exact ⟨hz1,by simp only;omega,hat,hsz⟩
   ·skip
    refine Le.mkJ [((60,0),(87,0)),((61,0),(87,1)),((5,9),(87,2))] [] rfl ?_ ?_ trivial tr ?_
    ·exact ⟨(dW (id:=(4,0)) rfl),(dW (id:=(8,0)) rfl),(dW (id:=(25,0)) rfl),(dW (id:=(10,0)) rfl),(by repeat' (exact Lv.mp)),trivial⟩
    ·exact ⟨(fS rfl rfl rfl rfl (by repeat' (first | exact Lv.v | exact Lv.sl | exact bu | refine aI ?_ ?_))),(fS rfl rfl rfl rfl (by repeat' (first | exact Lv.v | exact bu | refine aI ?_ ?_))),(fS rfl rfl rfl rfl (by repeat' (first | exact Lv.v | exact Lv.fp | refine Lv.fn rfl ?_ rfl ?_ | exact bu | refine aI ?_ ?_))),(fS rfl rfl rfl rfl (aI (ix ag ag) (sy (sy (sy (sy (nC (nC (aI (ix ag ag) (Bj (Bj (nC (aI (by repeat' (first | exact dW (id:=(4,9)) rfl | refine Lv.fn rfl ?_ rfl ?_ | exact bu | refine aI ?_ ?_)) (aI (dh rfl ag) (aI (dh rfl ag) (nC (aI (ic ag) (aI (by repeat' (exact Lv.v)) lz)))))))))))))))))),(gM rfl rfl rfl ag),(gM rfl rfl rfl ag),(gM rfl rfl rfl ag),(Qe rfl rfl rfl ag ag),(fS rfl rfl rfl rfl lz),(gM rfl rfl rfl ag),trivial⟩
    ·kernel_rfl
   ·simp only;omega
  ·skip
   obtain rfl:k=0:=by omega
   obtain rfl:R=s:=hz1
   refine bK (id (hK7 _ ?_))
   clear hK7;try clear K7
   refine am (bi rfl (bi rfl (ai (aS _ rfl rfl) (bA rfl rfl rfl (Ng rfl rfl rfl (ai (dc (r:= !R.fin) _ rfl rfl) ?_))))))
   refine ai (aS _ rfl rfl) (bA rfl rfl rfl (bA rfl rfl rfl (bO rfl rfl rfl rfl rfl rfl (aj (ap ?_)))))
   refine aN (σ':=aB 108 [(8,_),(9,_),(11,_)] [((8,0),_),((25,0),_),((22,0),_),((60,0),_),((61,0),_),((36,0),_),((4,9),_),((5,9),_)] [(4,9),(5,9),(60,0),(61,0)] [(4,9)]) kp ?_
   refine an (bi rfl (ai (aE _ (rfl:_=AV.mp _)) (ai (ef aa [((0,9),(36,0)),((1,8),(99,0))] ?_ (pw _ _) ⟨⟨rfl,⟨_,rfl, .mp⟩,rfl⟩,trivial⟩ tr tr rfl rfl ae ae) ?_)))
   ·exact cQ (wS rfl) dt
   refine ai (ef aa [((0,9),(36,0)),((1,9),(99,0))] ar (hS (np R.cov) (by have:=uk R.cov;omega) (qE _) (zl _) (zb _ fun i hi=> Nat.le_trans (Nat.le_of_lt (hz3.cl i hi)) hc)) ⟨⟨rfl,⟨_,rfl, .mp⟩,rfl⟩,⟨rfl,⟨_,rfl, .box ag (aI (wS (id:=(0,9)) (id':=(36,0)) rfl) bu)⟩,rfl⟩,trivial⟩ tr tr rfl rfl ae ae) ?_
   refine ai (aS _ rfl rfl) (bA rfl rfl rfl (bA rfl rfl rfl (bO rfl rfl rfl rfl rfl rfl (aj (am (bi rfl (ai (aS _ rfl rfl) (bA rfl rfl rfl (ai (aR _ aa rfl rfl rfl rfl) (bO rfl rfl rfl rfl rfl rfl ?_))))))))))
   exact aj (aC (aY (.inr rfl) rfl (.cellA aa rfl rfl rfl) (Le.outI [((2,8),(60,0)),((5,8),(5,9))] [(22,0)] (.agg rfl (aI (iu rfl rfl (by simp) rfl) lz)) rfl rfl rfl tr ob tr rfl)))
 ·skip
  have hf:s.fin=true:=by simpa using hg42
  obtain rfl:R=s:=hz1.trans (Av hf k)
  refine aW rfl rfl ah ?_
  refine aW rfl rfl ah ?_
  refine aW rfl rfl ah ?_
  refine aW rfl rfl ah ?_
  refine aW rfl rfl ah ?_
  refine aW rfl rfl ah ?_
  refine ai (aD _ _ _ rfl (rfl:_=AV.v (.bool _))) (az (hK9 _ ?_))
  clear hK9;try clear K9
  refine aP rfl rfl (bK (id (hK7 _ ?_)))
  clear hK7;try clear K7
  refine am (bi rfl (bi rfl (ai (aS _ rfl rfl) (bA rfl rfl rfl (Ng rfl rfl rfl (ai (dc (r:= !R.fin) _ rfl rfl) ?_))))))
  refine ai (aS _ rfl rfl) (bA rfl rfl rfl (bA rfl rfl rfl (bO rfl rfl rfl rfl rfl rfl (aj (ap ?_)))))
  refine aN (σ':=aB 108 [(8,_),(9,_),(11,_)] [((8,0),_),((25,0),_),((22,0),_),((60,0),_),((61,0),_),((36,0),_),((4,9),_),((5,9),_)] [(4,9),(5,9),(60,0),(61,0)] [(4,9)]) kp ?_
  refine an (bi rfl (ai (aE _ (rfl:_=AV.mp _)) (ai (ef aa [((0,9),(36,0)),((1,8),(99,0))] ?_ (pw _ _) ⟨⟨rfl,⟨_,rfl, .mp⟩,rfl⟩,trivial⟩ tr tr rfl rfl ae ae) ?_)))
  ·exact cQ (wS rfl) dt
  refine ai (ef aa [((0,9),(36,0)),((1,9),(99,0))] ar (hS (np R.cov) (by have:=uk R.cov;omega) (qE _) (zl _) (zb _ fun i hi=> Nat.le_trans (Nat.le_of_lt (hz3.cl i hi)) hc)) ⟨⟨rfl,⟨_,rfl, .mp⟩,rfl⟩,⟨rfl,⟨_,rfl, .box ag (aI (wS (id:=(0,9)) (id':=(36,0)) rfl) bu)⟩,rfl⟩,trivial⟩ tr tr rfl rfl ae ae) ?_
  refine ai (aS _ rfl rfl) (bA rfl rfl rfl (bA rfl rfl rfl (bO rfl rfl rfl rfl rfl rfl (aj (am (bi rfl (ai (aS _ rfl rfl) (bA rfl rfl rfl (ai (aR _ aa rfl rfl rfl rfl) (bO rfl rfl rfl rfl rfl rfl ?_))))))))))
  exact aj (aC (aY (.inr rfl) rfl (.cellA aa rfl rfl rfl) (Le.outI [((2,8),(60,0)),((5,8),(5,9))] [(22,0)] (.agg rfl (aI (iu rfl rfl (by simp) rfl) lz)) rfl rfl rfl tr ob tr rfl)))

abbrev Ci:Prop:= ∀ (M:List (Int×Value)) (g b:Nat) (w:World),M.length≤1000000→(M.map (·.1)).Nodup→(∀ p∈M,0≤p.1∧p.1≤1000000)→g < w.heap.size→w.cell? ⟨g,0,none⟩=some (.map (some b))→w.heap[b]? =some (.map (eb M).toArray M.length)→
  Calls Tryz.prog 94 #[.func (.func 158) #[] #[.pointer (some ⟨g,0,none⟩)]] w fun e w'=> ∃ (v:Value) (ss:List Int),e= .returned v∧ss.Perm (M.map (·.1))∧
    w'.ownsRow w.heap.size 3 1 v ss.length ((ss.mergeSort (fun x y=> decide (x≤y))).map fun x=> Value.int .i64 x)∧Below w.heap.size w w'
theorem qU {l m:List Int} (h:l.Perm m):l.mergeSort (fun x y=> decide (x≤y))=m.mergeSort (fun x y=> decide (x≤y)):=by
  have tr: ∀ a b c:Int,decide (a≤b)=true→decide (b≤c)=true→decide (a≤c)=true:=fun a b c h1 h2=> by
    simp only [decide_eq_true_eq] at*;omega
  have tt: ∀ a b:Int,(decide (a≤b) || decide (b≤a))=true:=fun a b=> by simp only [Bool.or_eq_true,decide_eq_true_eq];omega
  have p1:=List.pairwise_mergeSort (le:=fun x y:Int=> decide (x≤y)) tr tt l
  have p2:=List.pairwise_mergeSort (le:=fun x y:Int=> decide (x≤y)) tr tt m
  exact ((List.mergeSort_perm l _).trans (h.trans (List.mergeSort_perm m _).symm)).eq_of_pairwise (le:=fun x y:Int=> decide (x≤y)=true) (fun a b _ _ h1 h2=> by simp only [decide_eq_true_eq] at h1 h2;omega) p1 p2
theorem yi (hC:Ci):wQ:=by
  intro M hlen hval hnd hrg K ι S vs w hw0 hrd R
  obtain ⟨B1,g1,b1,b2,b3,b4⟩:=R.ob (1,9) (.box 175 [.mp (0,9)]) rfl
  obtain ⟨B0,g0,c1,c2,c3⟩:=R.ob (0,9) (.mp (eb M) M.length) rfl
  have hnt:vs.size=1:=R.nt
  have hf:Rep ι S w (.fn (.func 158) [] [.ptr (1,9) 0]) (vs.getD 0 undef):=R.fr 0 (by show 0 < 1;omega)
  have hvs:vs= #[.func (.func 158) #[] #[.pointer (some ⟨g1,0,none⟩)]]:=by
    generalize hx:vs.getD 0 undef=x at hf
    have hvx:vs= #[x]:=by
      apply Array.ext
      · rw [hnt];rfl
      · intro i h1 h2
        have:i=0:=by omega
        subst this
        simp only [Array.getD_eq_getD_getElem?,Array.getElem?_eq_getElem h1,Option.getD_some] at hx
        rw [hx];rfl
    rw [hvx]
    cases hf with
    | fn a1 a2 a3 a4=>
    rename_i us ws
    obtain rfl:us= #[]:=Array.size_eq_zero_iff.1 (by simpa using a1)
    have h0:=a4 0 (.ptr (1,9) 0) rfl
    have hws:ws.size=1:=a2
    generalize hy:ws.getD 0 undef=y at h0
    have hwy:ws= #[y]:=by
      apply Array.ext
      · rw [hws];rfl
      · intro i h1 h2
        have:i=0:=by omega
        subst this
        simp only [Array.getD_eq_getD_getElem?,Array.getElem?_eq_getElem h1,Option.getD_some] at hy
        rw [hy];rfl
    rw [hwy]
    cases h0 with
    | ptr h _=>
    obtain ⟨g',hg',rfl⟩:=h B1 b1
    rw [b2] at hg'
    obtain rfl:=Option.some.inj hg'
    rfl
  have hbox: ∃ cur e,w.heap[g1]? =some (.cells cur e (0,0))∧cur[0]? =some (.map (some g0)):=by
    rcases b4 with ⟨d1,_⟩ | ⟨g,cur,d1,d2,d3,d4,d5⟩
    · rw [b2] at d1;cases d1
    · rw [b2] at d1
      obtain rfl:=Option.some.inj d1
      obtain ⟨u,u1,u2,u3⟩:=d5 0 (by simp)
      have:=u3 (.mp (0,9)) rfl
      cases this with
      | mp h _=>
      obtain ⟨g',hg',rfl⟩:=h B0 c1
      rw [c2] at hg'
      obtain rfl:=Option.some.inj hg'
      exact ⟨cur,_,d2,u1⟩
  obtain ⟨cur1,e1,hh1,hc1⟩:=hbox
  have hlt:g1 < w.heap.size:=(Array.getElem?_eq_some_iff.1 hh1).1
  subst hvs
  refine (hC M g1 g0 w hlen hnd hrg hlt (eo hh1 hc1) c3).mono ?_
  rintro e w' ⟨v,ss,rfl,hp,hrow,hbl⟩
  have hsrt:ss.mergeSort (fun x y=> decide (x≤y))=jq M:=qU hp
  have hsl:ss.length=(jq M).length:=by rw [← hsrt,List.length_mergeSort]
  rw [hsrt,hsl] at hrow
  have fin: ∀ (S':Nat→Prop),(∀ g,S g→S' g)→(∀ g,S' g→S g∨w.heap.size≤g)→(∀ g,S' g→g < w'.heap.size)→Rd S' w' (.sl (jq M).length (du (jq M))) v→ ∃ v2 ι' S',Ending.returned v=Ending.returned v2∧RelI K ι' S' (bg (.sl (jq M).length (du (jq M))) [((0,9), .mp (eb M) M.length),((1,9), .box 175 [.mp (0,9)])] [(0,9),(1,9)] [(0,9),(1,9)]) ⟨#[v2],[]⟩ w':=by
    intro S' g1 g2 g3 hrd
    have R3:=R.gen (ι':=ι) (S':=S') (w':=w') (ob':=(be [.fn (.func 158) [] [.ptr (1,9) 0]] [((0,9), .mp (eb M) M.length),((1,9), .box 175 [.mp (0,9)])]).ob) (inc':=(be [.fn (.func 158) [] [.ptr (1,9) 0]] [((0,9), .mp (eb M) M.length),((1,9), .box 175 [.mp (0,9)])]).inc) (fun _=> False) (.of_below hbl) (fun _ _=> rfl) (fun _ _=> rfl) (fun _ _=> rfl) (fun _ h=> h) g1
      (fun g h=> by rcases g2 g h with h | h; · exact .inl h
                    · exact .inr (.inl h)) g3
      (fun _ _ h=> h.elim) (fun _ _ h=> h.elim) (fun _ _ h=> h.elim) (fun _ _ _ _ _ h=> h.elim) (fun _ _ _ h=> h.elim) (fun _ _ _ h=> h.elim)
    refine ⟨v,ι,S',rfl,R3.keeps,R3.S0,R3.Slt,rfl,R3.df,fun t ht=> ?_,fun t id hh=> ?_,R3.clo,R3.ob,R3.dom,R3.inj,R3.sep,R3.pin,R3.pf⟩
    · obtain rfl:t=0:=by have:t < 1:=ht;omega
      exact .sl hrd
    · cases t with
      | zero=> exact absurd hh qg
      | succ t=> exact absurd hh (fun h=> by cases h)
  rcases hrow.2 with ⟨hv,hz⟩ | ⟨g,cap,cur,hv,hbase,hg,r1,r2,r3,r4⟩
  · subst hv
    have hn:jq M=[]:=List.eq_nil_of_length_eq_zero hz
    refine fin S (fun _ h=> h) (fun _ h=> .inl h) (fun g h=> Nat.lt_of_lt_of_le (R.Slt g h) hbl.size) ?_
    rw [hn]
    exact .sl0 (Nat.le_refl _) (by unfold maxLen;omega) fun _=> ⟨rfl,rfl⟩
  · subst hv
    refine fin (fun k=> S k∨k=g) (fun _ h=> .inl h) (fun k h=> ?_) (fun k h=> ?_) ?_
    · rcases h with h | h
      · exact .inl h
      · exact .inr (by rw [h];exact hbase)
    · rcases h with h | h
      · exact Nat.lt_of_lt_of_le (R.Slt k h) hbl.size
      · rw [h];exact (Array.getElem?_eq_some_iff.1 hg).1
    · have key: ∀ (j:Nat) (p:PV),(du (jq M))[j]? =some p→ ∃ x:Int,p= .v (.int .i64 x)∧cur[j]? =some (.int .i64 x):=by
        intro j p hj
        rw [du,List.getElem?_map] at hj
        obtain ⟨x,hx,rfl⟩:=Option.map_eq_some_iff.1 hj
        refine ⟨x,rfl,?_⟩
        have h5:(cur.toList.take ((jq M).length*1))[j]? =some (.int .i64 x):=by rw [r4,List.getElem?_map,hx];rfl
        rw [List.getElem?_take] at h5
        split at h5
        · simpa using h5
        · cases h5
      refine Rd.sl (o:=0) (fun j=> cur.getD j undef) r1 r2 (.mk (.inr rfl) hg) (fun j p hj=> ?_) (fun j p hj=> ?_)
      · obtain ⟨x,_,hu⟩:=key j p hj
        simp only [Nat.zero_add,Array.getD_eq_getD_getElem?,hu,Option.getD_some]
        exact eo hg hu
      · obtain ⟨x,rfl,hu⟩:=key j p hj
        simp only [Array.getD_eq_getD_getElem?,hu,Option.getD_some]
        exact .v rfl
end Go.Proofs.YtmjnackchaahbaaGreat
