/- Part 9 of the texts that the walk leans on: the machine, the walks, the plain laws. -/
import Derived.Test.YtmjnackchaahbaaGreatNkZ8
set_option linter.unusedSimpArgs false
set_option linter.unusedVariables false
namespace Go.Proofs.YtmjnackchaahbaaGreat
open Go.RowKit

theorem cF (l:List Tx) (n:Nat) (hn:l.length=n) (h1:n≤1000) (t:Tx):Spec Tryz.prog 199 (ba [.sl n (fm l), .v (bt t)] []) (aP (.v (.bool (decide (t∈l)))) []):=by
 refine Spec.ofN Tryz.func199 rfl Tryz.ntmps199 rfl ?_
 refine am (cu rfl (aj (aT fun K2 hK2=> ?_)))
 refine am (bg rfl (aj (ay ?_)))
 refine bq (α:=Nat) (fun k=> k≤n∧t∉l.take k) 18 [(0,_),(1,_)] [] (fun k=> [(5, .v (.int .i64 (k:Int)))]) (fun k=> []) [] [] (fun k=> n - k) 0 ?_ (by
  refine Le.mkJ [] [] rfl ?_ ?_ trivial trivial ?_
  ·exact ⟨(iS rfl),(iV rfl),(ci ag),trivial⟩
  ·exact trivial
  kernel_rfl) ?_
 ·exact ⟨Nat.zero_le _,by simp⟩
 intro k hk
 obtain ⟨hk,hnt⟩:=hk
 refine aT fun K4 hK4=> ?_
 refine am (aX rfl (eO rfl (ai (bi _ aa rfl) (ai (bm _ _ rfl rfl rfl) (aj (aR rfl (fun hc9=> ?_) (fun hc9=> ?_)))))))
 ·skip
  refine br (hK4 _ ?_)
  clear hK4;try clear K4
  refine aq (ay (am (eO rfl (aX rfl (ai (bn _ _ aa rfl rfl _ rfl ab (by (simp only [aL,bb,bj,bv,bu];omega)) (by exact Nat.mul_one _)) ?_)))))
  refine ai (bL _ aa rfl (by exact jI _ _ ab) rfl) ?_
  refine ej rfl (ai (aV _ _ Tryz.underlying9 rfl rfl rfl) (aj (aR rfl (fun hc17=> ?_) (fun hc17=> ?_))))
  ·skip
   refine am (cu rfl (aj (aG (rV rfl rfl ?_))))
   exact decide_eq_true (hc17 ▸ kr ab)
  refine cr (an (aX rfl (ai (aZ _ _ rfl rfl (bD ab)) ?_)))
  refine bg rfl (aJ (⟨k+1,?_,?_,?_⟩))
  ·exact ⟨by omega,kU hnt ab hc17⟩
  ·skip
   refine Le.mkJ [] [] rfl ?_ ?_ trivial trivial ?_
   ·exact ⟨(iS rfl),(iV rfl),(ci ag),trivial⟩
   ·exact trivial
   kernel_rfl
  omega
 have hall:t∉l:=by rwa [List.take_of_length_le ab] at hnt
 refine bA (id (hK2 _ ?_))
 clear hK2;try clear K2
 refine am (cu rfl (aj (aG (rV rfl rfl ?_))))
 exact decide_eq_false hall
theorem ms:Spec Tryz.prog 205 (ba [] []) (aP (.sl 9 (fm bltT)) []):=by
 refine Spec.ofN Tryz.func205 rfl Tryz.ntmps205 rfl ?_
 refine am (ai (bp _ fA) (aj (am (ai (bh _ _ aa rfl ag (by (simp <;> rfl)) ah rfl) ?_))))
 exact kB rfl (aj (aG (qd rfl rfl)))
theorem mo (t:Tx):Spec Tryz.prog 225 (ba [.v (bt t)] []) (aP (.v (.bool (vV t))) []):=by
 refine Spec.ofN Tryz.func225 rfl Tryz.ntmps225 rfl ?_
 refine am (cu rfl (aj (am (ai (aH aa (by repeat' (exact cT)) (ms) rfl rfl) ?_))))
 refine ej rfl (ai (aH aa al (cF bltT 9 rfl ab t) rfl rfl) ?_)
 refine cI rfl (dv (fun hg6=> ?_) (fun hg6=> ?_))
 ·skip
  refine aO rfl rfl ah ?_
  refine aO rfl rfl ah ?_
  refine aO rfl rfl ah ?_
  refine ai (aD _ _ _ rfl bT) (cu rfl (aj (aG (rV rfl rfl ?_))))
  unfold vV
  (rw [decide_eq_true hg6];rfl)
 refine au rfl rfl (bh _ _ aa rfl ag (by (simp <;> rfl)) ah rfl) ?_
 refine au rfl rfl (aI _ wZ) (au rfl rfl (aH aa al (cF Nx 19 rfl ab t) rfl rfl) ?_)
 refine ai (aD _ _ _ rfl bT) (cu rfl (aj (aG (rV rfl rfl ?_))))
 unfold vV
 (rw [decide_eq_false hg6];rfl)
theorem ek {T:List Tk} {i:Nat} (h:i < T.length):bI T i < T.length:=by unfold bI;split <;> omega
abbrev ea (T:List Tk) (i:Nat) (N:List Tx):List (aC×Cells):=[((0,9), .box 222 [.sl T.length (sr T), .v (.int .i64 (i:Int)), .v (.int .i64 0), .v (.int .i64 0), .sl N.length (fm N)])]
theorem bP (T:List Tk) (i:Nat) (N:List Tx) (hi:i < T.length):
  Spec Tryz.prog 160 (aY [.ptr (0,9) 0] (ea T i N)) (be (.v (bt (dj T i).t)) (ea T i N) [(0,9)] [(0,9)]):=by
 refine Spec.ofNI Tryz.func160 rfl Tryz.ntmps160 rfl ?_
 refine am (oz rfl (aj (aq (bJ 12 [3,4,5,6,7,8,9,10,11,12,13,2] [] ae ae rfl (aK rfl) (rfl:_=[_,_,_,_,_,_,_,_,_,_,_,_]) (rfl:_=[]) ?_))))
 refine ap (_,[]) (fun τ=> aI _ bX) ?_
 refine fO rfl ?_
 refine ap (_,[]) (fun τ=> aU _ rfl rfl) ?_
 refine fN rfl ?_
 refine ap (_,[]) (fun τ=> aA _ aa rfl rfl rfl) ?_
 refine fP rfl ?_
 refine ap (_,[]) (fun τ=> aF _ aa rfl rfl ed) ?_
 refine fV rfl ?_
 refine ap (_,[]) (fun τ=> aI _ bX) ?_
 refine gm rfl ?_
 refine ap (_,[]) (fun τ=> aU _ rfl rfl) ?_
 refine gY rfl ?_
 refine ap (_,[]) (fun τ=> aA _ aa rfl rfl rfl) ?_
 refine iH rfl ?_
 refine ap (_,[]) (fun τ=> aF _ aa rfl rfl ef) ?_
 refine jU rfl ?_
 refine ap (_,[]) (fun τ=> bn _ _ aa rfl rfl _ rfl ab (by (simp only [aL,bb,bj,bv,bu];omega)) ag) ?_
 refine kA rfl ?_
 refine ap (_,[]) (fun τ=> cX _ aa rfl rfl) ?_
 refine gf rfl ?_
 refine ap (_,[]) (fun τ=> bL _ aa rfl (by exact nB _ _ ab) rfl) ?_
 refine gJ rfl ?_
 refine ap (_,[]) (fun τ=> bp _ wZ) ?_
 refine kS rfl (bo ⟨rfl,?_⟩)
 exact aj (aG (bH (.inr rfl) rfl (.tmp kL) (Le.outI [] [] .v rfl rfl rfl trivial ob tr rfl)))
theorem dW (T:List Tk) (i:Nat) (N:List Tx) (hi:i < T.length):
  Spec Tryz.prog 197 (aY [.ptr (0,9) 0] (ea T i N)) (be (.v (.bool (eK T i))) (ea T i N) [(0,9)] [(0,9)]):=by
 refine Spec.ofNI Tryz.func197 rfl Tryz.ntmps197 rfl ?_
 refine am (cu rfl (aj (aq (bJ 28 [3,4,5,6,7,8,9,10,11,12,13,14,15,16,17,18,19,20,21,22,23,24,25,26,27,28,29,2] [] ae ae rfl (aK rfl) (rfl:_=[_,_,_,_,_,_,_,_,_,_,_,_,_,_,_,_,_,_,_,_,_,_,_,_,_,_,_,_]) (rfl:_=[]) ?_))))
 refine ap (_,[]) (fun τ=> aI _ bX) ?_
 refine fO rfl ?_
 refine ap (_,[]) (fun τ=> aU _ rfl rfl) ?_
 refine fN rfl ?_
 refine ap (_,[]) (fun τ=> aA _ aa rfl rfl rfl) ?_
 refine fP rfl ?_
 refine ap (_,[]) (fun τ=> aF _ aa rfl rfl ed) ?_
 refine fV rfl ?_
 refine ap (_,[]) (fun τ=> aI _ bX) ?_
 refine gm rfl ?_
 refine ap (_,[]) (fun τ=> aU _ rfl rfl) ?_
 refine gY rfl ?_
 refine ap (_,[]) (fun τ=> aA _ aa rfl rfl rfl) ?_
 refine iH rfl ?_
 refine ap (_,[]) (fun τ=> aF _ aa rfl rfl ef) ?_
 refine jU rfl ?_
 refine ap (_,[]) (fun τ=> bn _ _ aa rfl rfl _ rfl ab (by (simp only [aL,bb,bj,bv,bu];omega)) ag) ?_
 refine kA rfl ?_
 refine ap (_,[]) (fun τ=> cX _ aa rfl rfl) ?_
 refine gf rfl ?_
 refine ap (_,[]) (fun τ=> bL _ aa rfl (by exact qf _ _ ab) rfl) ?_
 refine gJ rfl ?_
 refine ap (_,[]) (fun τ=> bC _ _ rfl rfl rfl) ?_
 refine kS rfl ?_
 refine ap (_,[]) (fun τ=> aI _ bT) ?_
 refine ol (fun hg15=> ?_) (fun hg15=> ?_)
 ·skip
  have hr:eK T i= !vV (dj T i).t:=by unfold eK;rw [decide_eq_true ab];rfl
  refine mi rfl ?_
  refine bM (_,[]) rfl (fun τ=> rfl) (fun τ=> aI _ bX) ?_
  refine pj rfl ?_
  refine bM (_,[]) rfl (fun τ=> rfl) (fun τ=> aU _ rfl rfl) ?_
  refine wG rfl ?_
  refine bM (_,[]) rfl (fun τ=> rfl) (fun τ=> aA _ aa rfl rfl rfl) ?_
  refine vQ rfl ?_
  refine bM (_,[]) rfl (fun τ=> rfl) (fun τ=> aF _ aa rfl rfl ed) ?_
  refine yu rfl ?_
  refine bM (_,[]) rfl (fun τ=> rfl) (fun τ=> aI _ bX) ?_
  refine AY rfl ?_
  refine bM (_,[]) rfl (fun τ=> rfl) (fun τ=> aU _ rfl rfl) ?_
  refine BO rfl ?_
  refine bM (_,[]) rfl (fun τ=> rfl) (fun τ=> aA _ aa rfl rfl rfl) ?_
  refine DA rfl ?_
  refine bM (_,[]) rfl (fun τ=> rfl) (fun τ=> aF _ aa rfl rfl ef) ?_
  refine EH rfl ?_
  refine bM (_,[]) rfl (fun τ=> rfl) (fun τ=> bn _ _ aa rfl rfl _ rfl ab (by (simp only [aL,bb,bj,bv,bu];omega)) ag) ?_
  refine Ea rfl ?_
  refine bM (_,[]) rfl (fun τ=> rfl) (fun τ=> cX _ aa rfl rfl) ?_
  refine Fp rfl ?_
  refine bM (_,[]) rfl (fun τ=> rfl) (fun τ=> bL _ aa rfl (by exact nB _ _ ab) rfl) ?_
  refine FQ rfl ?_
  refine bM (_,[]) rfl (fun τ=> rfl) (fun τ=> (aH aa al (mo (dj T i).t) rfl rfl)) ?_
  refine FW rfl ?_
  refine bM (_,[]) rfl (fun τ=> rfl) (fun τ=> cq _ rfl rfl) ?_
  refine FI rfl ?_
  refine ap (_,[]) (fun τ=> aD _ _ _ rfl bT) ?_
  refine Du rfl ?_
  refine ap (_,[]) (fun τ=> bp _ bT) ?_
  refine FB rfl (bo ⟨rfl,?_⟩)
  exact aj (aG (bH (.inr rfl) rfl (.tmp bT) (Le.outI [] [] (nX hr) rfl rfl rfl trivial ob tr rfl)))
 have hr:eK T i=false:=by unfold eK;rw [decide_eq_false ab];rfl
 refine mi rfl ?_
 refine cY rfl (fun τ=> rfl) ah ?_
 refine pj rfl ?_
 refine cY rfl (fun τ=> rfl) ah ?_
 refine wG rfl ?_
 refine cY rfl (fun τ=> rfl) ah ?_
 refine vQ rfl ?_
 refine cY rfl (fun τ=> rfl) ah ?_
 refine yu rfl ?_
 refine cY rfl (fun τ=> rfl) ah ?_
 refine AY rfl ?_
 refine cY rfl (fun τ=> rfl) ah ?_
 refine BO rfl ?_
 refine cY rfl (fun τ=> rfl) ah ?_
 refine DA rfl ?_
 refine cY rfl (fun τ=> rfl) ah ?_
 refine EH rfl ?_
 refine cY rfl (fun τ=> rfl) ah ?_
 refine Ea rfl ?_
 refine cY rfl (fun τ=> rfl) ah ?_
 refine Fp rfl ?_
 refine cY rfl (fun τ=> rfl) ah ?_
 refine FQ rfl ?_
 refine cY rfl (fun τ=> rfl) ah ?_
 refine FW rfl ?_
 refine cY rfl (fun τ=> rfl) ah ?_
 refine FI rfl ?_
 refine ap (_,[]) (fun τ=> aD _ _ _ rfl bT) ?_
 refine Du rfl ?_
 refine ap (_,[]) (fun τ=> bp _ bT) ?_
 refine FB rfl (bo ⟨rfl,?_⟩)
 exact aj (aG (bH (.inr rfl) rfl (.tmp bT) (Le.outI [] [] (nX hr) rfl rfl rfl trivial ob tr rfl)))
theorem cA (T:List Tk) (i:Nat) (N:List Tx) (hi:i < T.length) (hT:T.length≤100000):
  Spec Tryz.prog 196 (aY [.ptr (0,9) 0] (ea T i N)) (be (.tup []) (ea T (bI T i) N) [(0,9)] [(0,9)]):=by
 refine Spec.ofNI Tryz.func196 rfl Tryz.ntmps196 rfl ?_
 refine aq (bJ 11 [2,3,4,5,6,7,8,9,10,11,12] [] ae ae rfl (aK rfl) (rfl:_=[_,_,_,_,_,_,_,_,_,_,_]) (rfl:_=[]) ?_)
 refine ap (_,[]) (fun τ=> aI _ bX) ?_
 refine fO rfl ?_
 refine ap (_,[]) (fun τ=> aU _ rfl rfl) ?_
 refine fN rfl ?_
 refine ap (_,[]) (fun τ=> aA _ aa rfl rfl rfl) ?_
 refine fP rfl ?_
 refine ap (_,[]) (fun τ=> aF _ aa rfl rfl ef) ?_
 refine fV rfl ?_
 refine ap (_,[]) (fun τ=> aZ _ _ rfl rfl (bD ab)) ?_
 refine gm rfl ?_
 refine ap (_,[]) (fun τ=> aI _ bX) ?_
 refine gY rfl ?_
 refine ap (_,[]) (fun τ=> aU _ rfl rfl) ?_
 refine iH rfl ?_
 refine ap (_,[]) (fun τ=> aA _ aa rfl rfl rfl) ?_
 refine jU rfl ?_
 refine ap (_,[]) (fun τ=> aF _ aa rfl rfl ed) ?_
 refine kA rfl ?_
 refine ap (_,[]) (fun τ=> bi _ aa rfl) ?_
 refine gf rfl ?_
 refine ap (_,[]) (fun τ=> bm _ _ rfl rfl rfl) ?_
 refine gJ rfl (bo ⟨rfl,?_⟩)
 refine aj (aR rfl (fun hc12=> ?_) (fun hc12=> ?_))
 ·skip
  have ht:bI T i=i+1:=by unfold bI;rw [if_pos ab]
  refine an (bS rfl (ai (aU _ rfl rfl) (bc rfl rfl rfl (cd rfl rfl rfl (ai (aZ _ _ rfl rfl (bD ab)) ?_)))))
  exact ai (aU _ rfl rfl) (bc rfl rfl rfl (bF rfl rfl rfl rfl rfl rfl (aJ (fy (.inl rfl) rfl (Le.outI [] [] (.tup rfl bf) rfl rfl rfl trivial ⟨⟨rfl,⟨_,rfl, .box rfl (ax .sl (ax (ci (by rw [ht] <;> omega)) lz))⟩,rfl⟩,trivial⟩ tr rfl)))))
 have ht:bI T i=i:=by unfold bI;rw [if_neg ab]
 exact br (fy (.inl rfl) rfl (Le.outI [] [] (.tup rfl bf) rfl rfl rfl trivial ⟨⟨rfl,⟨_,rfl, .box rfl (ax .sl (ax (ci (by rw [ht] <;> omega)) lz))⟩,rfl⟩,trivial⟩ tr rfl))
theorem fS (T:List Tk) (i j:Nat) (N:List Tx) (s:Tx) (hi:i < T.length) (hT:T.length≤100000) (h:gV T s i=some j):
  Spec Tryz.prog 162 (aY [.ptr (0,9) 0, .v (bt s)] (ea T i N)) (be (.tup []) (ea T j N) [(0,9)] [(0,9)]):=by
 have ⟨hs,hj⟩:(dj T i).t=s∧bI T i=j:=by
  unfold gV at h
  split at h
  ·exact ⟨by assumption,Option.some.inj h⟩
  cases h
 subst hs
 subst hj
 refine Spec.ofNI Tryz.func162 rfl Tryz.ntmps162 rfl ?_
 refine aq (am (bS rfl (ai (aU _ rfl rfl) (bc rfl rfl rfl (cd rfl rfl rfl (jY rfl rfl rfl (cI rfl (au rfl rfl (aI _ bX) (au rfl rfl (bs aa _ _ ar (bP T i N hi) tr rfl ae (by simp)) ?_)))))))))
 refine au rfl rfl (aI _ wZ) (au rfl rfl (sJ (r:=false) _ _ Tryz.underlying9 rfl rfl (by exact bne_self_eq_false _)) ?_)
 refine ai (aD _ _ _ rfl bT) (aj (aW rfl rfl (aS (am (bS rfl (ai (aU _ rfl rfl) (bc rfl rfl rfl (cd rfl rfl rfl (jY rfl rfl rfl (aj ?_))))))))))
 refine bK rfl rfl ?_
 refine aM (σ':=aE 28 [(0,_)] [((0,9),_)] [(0,9)] [(0,9)]) kp ?_
 refine an (bS rfl (ai (bU (cA T i N hi hT)) ?_))
 exact aJ (fy (.inl rfl) rfl (Le.outI [] [] (.tup rfl bf) rfl rfl rfl trivial ob tr rfl))
theorem kH {T:List Tk} {s:Tx} {lv i j:Nat} (h:rP T s lv i=some j):lv≤20∧gV T s i=some j:=by
 unfold rP at h
 split at h
 ·cases h
 rename_i hn
 refine ⟨?_,h⟩
 unfold gV at h
 split at h
 ·rename_i ht
  exact Nat.le_of_not_lt fun hl=> hn ⟨ht,hl⟩
 cases h
theorem jH {T:List Tk} {s:Tx} {i j:Nat} (h:gV T s i=some j) (hi:i < T.length):j < T.length:=by
 unfold gV at h
 split at h
 ·rw [← Option.some.inj h];exact ek hi
 cases h
theorem ow (T:List Tk) (i j:Nat) (N:List Tx) (s:Tx) (lv:Nat) (hi:i < T.length) (hT:T.length≤100000) (h:rP T s lv i=some j):
  Spec Tryz.prog 201 (aY [.ptr (0,9) 0, .v (bt s), .v (.int .i64 (lv:Int))] (ea T i N)) (be (.tup []) (ea T j N) [(0,9)] [(0,9)]):=by
 obtain ⟨hl,he⟩:=kH h
 refine Spec.ofNI Tryz.func201 rfl Tryz.ntmps201 rfl ?_
 refine aq (am (bS rfl (ai (aU _ rfl rfl) (bc rfl rfl rfl (cd rfl rfl rfl (jY rfl rfl rfl (cI rfl (au rfl rfl (aI _ bX) (au rfl rfl (bs aa _ _ ar (bP T i N hi) tr rfl ae (by simp)) ?_)))))))))
 refine au rfl rfl (aI _ wZ) (au rfl rfl (aV _ _ Tryz.underlying9 rfl rfl rfl) (ai (aD _ _ _ rfl bT) (cI rfl (dv (fun hg17=> ?_) (fun hg17=> ?_)))))
 ·skip
  refine au rfl rfl (aI _ et) (au rfl rfl (gb (r:=false) _ _ rfl rfl (decide_eq_false ab)) ?_)
  refine ai (aD _ _ _ rfl bT) (aj (aW rfl rfl (aS ?_)))
  refine aM (σ':=aE 30 [(0,_),(1,_)] [((0,9),_)] [(0,9)] [(0,9)]) kp ?_
  refine an (bS rfl (ej rfl (ai (bU (fS T i j N s hi hT he)) ?_)))
  exact aJ (fy (.inl rfl) rfl (Le.outI [] [] (.tup rfl bf) rfl rfl rfl trivial ob tr rfl))
 refine aO rfl rfl ah ?_
 refine aO rfl rfl ah ?_
 refine ai (aD _ _ _ rfl bT) (aj (aW rfl rfl (aS ?_)))
 refine aM (σ':=aE 30 [(0,_),(1,_)] [((0,9),_)] [(0,9)] [(0,9)]) kp ?_
 refine an (bS rfl (ej rfl (ai (bU (fS T i j N s hi hT he)) ?_)))
 exact aJ (fy (.inl rfl) rfl (Le.outI [] [] (.tup rfl bf) rfl rfl rfl trivial ob tr rfl))
theorem lH (T:List Tk) (i:Nat) (N:List Tx) (most:Nat) (hi:i < T.length) (hT:T.length≤100000) (hm:most≤1000) (r:Nat×Nat) (h:pk T most i=some r):
  Spec Tryz.prog 200 (aY [.ptr (0,9) 0, .v (.int .i64 (most:Int))] (ea T i N)) (be (.v (.int .i64 (r.1:Int))) (ea T r.2 N) [(0,9)] [(0,9)]):=by
 have ⟨h1,h2,h3⟩:(dj T i).k=2∧(dj T i).n≤most∧r=((dj T i).n,bI T i):=by
  unfold pk at h
  split at h
  ·rename_i hx;exact ⟨hx.1,hx.2,(Option.some.inj h).symm⟩
  cases h
 subst h3
 refine Spec.ofNI Tryz.func200 rfl Tryz.ntmps200 rfl ?_
 refine am (bg rfl (aj (aq (bJ 11 [6,7,8,9,10,11,12,13,14,15,5] [(5,0)] ae ae rfl (aK rfl) (rfl:_=[_,_,_,_,_,_,_,_,_,_,_]) (rfl:_=[_]) ?_))))
 refine ap (_,[]) (fun τ=> aI _ bX) ?_
 refine fO rfl ?_
 refine ap (_,[]) (fun τ=> aU _ rfl rfl) ?_
 refine fN rfl ?_
 refine ap (_,[]) (fun τ=> aA _ aa rfl rfl rfl) ?_
 refine fP rfl ?_
 refine ap (_,[]) (fun τ=> aF _ aa rfl rfl ed) ?_
 refine fV rfl ?_
 refine ap (_,[]) (fun τ=> aI _ bX) ?_
 refine gm rfl ?_
 refine ap (_,[]) (fun τ=> aU _ rfl rfl) ?_
 refine gY rfl ?_
 refine ap (_,[]) (fun τ=> aA _ aa rfl rfl rfl) ?_
 refine iH rfl ?_
 refine ap (_,[]) (fun τ=> aF _ aa rfl rfl ef) ?_
 refine jU rfl ?_
 refine ap (_,[]) (fun τ=> bn _ _ aa rfl rfl _ rfl ab (by (simp only [aL,bb,bj,bv,bu];omega)) ag) ?_
 refine kA rfl ?_
 refine ap (_,[]) (fun τ=> ca _ aa rfl (by exact nV _ _ hi) rfl) ?_
 refine gf rfl ?_
 refine ap (_,[((5,0),_)]) (fun τ=> aB (5,0) aa rfl rfl) ?_
 refine gJ rfl (bo ⟨rfl,?_⟩)
 refine bF rfl rfl rfl rfl rfl rfl (aj (aq (am (bc rfl rfl rfl (cd rfl rfl rfl (ai (bN _ _ rfl rfl rfl) (aj (aW rfl (by rw [h1];rfl) ?_))))))))
 refine aq ?_
 refine aM (σ':=aE 44 [(0,_),(1,_),(5,_)] [((0,9),_),((5,0),_)] [(0,9)] [(0,9)]) kp ?_
 refine an (bc rfl rfl rfl (cd rfl rfl rfl (aX rfl (ai (gb _ _ rfl rfl rfl) (aj (aW rfl (decide_eq_false ab) ?_))))))
 refine aS (aq (am (bS rfl (ai (aU _ rfl rfl) (bc rfl rfl rfl (cd rfl rfl rfl (ai (bN (r:=false) _ _ rfl rfl rfl) (aj (aW rfl rfl (aS ?_))))))))))
 refine am (bS rfl (ai (bU (cA T i N hi hT)) ?_))
 exact aj (am (bc rfl rfl rfl (cd rfl rfl rfl (bg rfl (aj (aG (bH (.inr rfl) rfl (.tmp kL) (Le.outI [] [] .v rfl rfl rfl trivial ob tr rfl))))))))
abbrev Fo (T:List Tk) (i:Nat) (N:List Tx):List (aC×Cells):=[((0,9), .box 222 [.sl T.length (sr T), .v (.int .i64 (i:Int)), .v (.int .i64 0), .v (.int .i64 0), .ref (1,9) 0 N.length]),((1,9), .row 9 1 (fm N))]
theorem fl (T:List Tk) (i:Nat) (N:List Tx) (hi:i < T.length):
  Spec Tryz.prog 160 (aY [.ptr (0,9) 0] (Fo T i N)) (be (.v (bt (dj T i).t)) (Fo T i N) [(0,9),(1,9)] [(0,9),(1,9)]):=by
 refine Spec.ofNI Tryz.func160 rfl Tryz.ntmps160 rfl ?_
 refine am (oz rfl (aj (aq (bJ 12 [3,4,5,6,7,8,9,10,11,12,13,2] [] ae ae rfl (aK rfl) (rfl:_=[_,_,_,_,_,_,_,_,_,_,_,_]) (rfl:_=[]) ?_))))
 refine ap (_,[]) (fun τ=> aI _ bX) ?_
 refine fO rfl ?_
 refine ap (_,[]) (fun τ=> aU _ rfl rfl) ?_
 refine fN rfl ?_
 refine ap (_,[]) (fun τ=> aA _ aa rfl rfl rfl) ?_
 refine fP rfl ?_
 refine ap (_,[]) (fun τ=> aF _ aa rfl rfl ed) ?_
 refine fV rfl ?_
 refine ap (_,[]) (fun τ=> aI _ bX) ?_
 refine gm rfl ?_
 refine ap (_,[]) (fun τ=> aU _ rfl rfl) ?_
 refine gY rfl ?_
 refine ap (_,[]) (fun τ=> aA _ aa rfl rfl rfl) ?_
 refine iH rfl ?_
 refine ap (_,[]) (fun τ=> aF _ aa rfl rfl ef) ?_
 refine jU rfl ?_
 refine ap (_,[]) (fun τ=> bn _ _ aa rfl rfl _ rfl ab (by (simp only [aL,bb,bj,bv,bu];omega)) ag) ?_
 refine kA rfl ?_
 refine ap (_,[]) (fun τ=> cX _ aa rfl rfl) ?_
 refine gf rfl ?_
 refine ap (_,[]) (fun τ=> bL _ aa rfl (by exact nB _ _ ab) rfl) ?_
 refine gJ rfl ?_
 refine ap (_,[]) (fun τ=> bp _ wZ) ?_
 refine kS rfl (bo ⟨rfl,?_⟩)
 exact aj (aG (bH (.inr rfl) rfl (.tmp kL) (Le.outI [] [] .v rfl rfl rfl trivial ob tr rfl)))
theorem vT (T:List Tk) (i:Nat) (N:List Tx) (hi:i < T.length):
  Spec Tryz.prog 197 (aY [.ptr (0,9) 0] (Fo T i N)) (be (.v (.bool (eK T i))) (Fo T i N) [(0,9),(1,9)] [(0,9),(1,9)]):=by
 refine Spec.ofNI Tryz.func197 rfl Tryz.ntmps197 rfl ?_
 refine am (cu rfl (aj (aq (bJ 28 [3,4,5,6,7,8,9,10,11,12,13,14,15,16,17,18,19,20,21,22,23,24,25,26,27,28,29,2] [] ae ae rfl (aK rfl) (rfl:_=[_,_,_,_,_,_,_,_,_,_,_,_,_,_,_,_,_,_,_,_,_,_,_,_,_,_,_,_]) (rfl:_=[]) ?_))))
 refine ap (_,[]) (fun τ=> aI _ bX) ?_
 refine fO rfl ?_
 refine ap (_,[]) (fun τ=> aU _ rfl rfl) ?_
 refine fN rfl ?_
 refine ap (_,[]) (fun τ=> aA _ aa rfl rfl rfl) ?_
 refine fP rfl ?_
 refine ap (_,[]) (fun τ=> aF _ aa rfl rfl ed) ?_
 refine fV rfl ?_
 refine ap (_,[]) (fun τ=> aI _ bX) ?_
 refine gm rfl ?_
 refine ap (_,[]) (fun τ=> aU _ rfl rfl) ?_
 refine gY rfl ?_
 refine ap (_,[]) (fun τ=> aA _ aa rfl rfl rfl) ?_
 refine iH rfl ?_
 refine ap (_,[]) (fun τ=> aF _ aa rfl rfl ef) ?_
 refine jU rfl ?_
 refine ap (_,[]) (fun τ=> bn _ _ aa rfl rfl _ rfl ab (by (simp only [aL,bb,bj,bv,bu];omega)) ag) ?_
 refine kA rfl ?_
 refine ap (_,[]) (fun τ=> cX _ aa rfl rfl) ?_
 refine gf rfl ?_
 refine ap (_,[]) (fun τ=> bL _ aa rfl (by exact qf _ _ ab) rfl) ?_
 refine gJ rfl ?_
 refine ap (_,[]) (fun τ=> bC _ _ rfl rfl rfl) ?_
 refine kS rfl ?_
 refine ap (_,[]) (fun τ=> aI _ bT) ?_
 refine ol (fun hg15=> ?_) (fun hg15=> ?_)
 ·skip
  have hr:eK T i= !vV (dj T i).t:=by unfold eK;rw [decide_eq_true ab];rfl
  refine mi rfl ?_
  refine bM (_,[]) rfl (fun τ=> rfl) (fun τ=> aI _ bX) ?_
  refine pj rfl ?_
  refine bM (_,[]) rfl (fun τ=> rfl) (fun τ=> aU _ rfl rfl) ?_
  refine wG rfl ?_
  refine bM (_,[]) rfl (fun τ=> rfl) (fun τ=> aA _ aa rfl rfl rfl) ?_
  refine vQ rfl ?_
  refine bM (_,[]) rfl (fun τ=> rfl) (fun τ=> aF _ aa rfl rfl ed) ?_
  refine yu rfl ?_
  refine bM (_,[]) rfl (fun τ=> rfl) (fun τ=> aI _ bX) ?_
  refine AY rfl ?_
  refine bM (_,[]) rfl (fun τ=> rfl) (fun τ=> aU _ rfl rfl) ?_
  refine BO rfl ?_
  refine bM (_,[]) rfl (fun τ=> rfl) (fun τ=> aA _ aa rfl rfl rfl) ?_
  refine DA rfl ?_
  refine bM (_,[]) rfl (fun τ=> rfl) (fun τ=> aF _ aa rfl rfl ef) ?_
  refine EH rfl ?_
  refine bM (_,[]) rfl (fun τ=> rfl) (fun τ=> bn _ _ aa rfl rfl _ rfl ab (by (simp only [aL,bb,bj,bv,bu];omega)) ag) ?_
  refine Ea rfl ?_
  refine bM (_,[]) rfl (fun τ=> rfl) (fun τ=> cX _ aa rfl rfl) ?_
  refine Fp rfl ?_
  refine bM (_,[]) rfl (fun τ=> rfl) (fun τ=> bL _ aa rfl (by exact nB _ _ ab) rfl) ?_
  refine FQ rfl ?_
  refine bM (_,[]) rfl (fun τ=> rfl) (fun τ=> (aH aa al (mo (dj T i).t) rfl rfl)) ?_
  refine FW rfl ?_
  refine bM (_,[]) rfl (fun τ=> rfl) (fun τ=> cq _ rfl rfl) ?_
  refine FI rfl ?_
  refine ap (_,[]) (fun τ=> aD _ _ _ rfl bT) ?_
  refine Du rfl ?_
  refine ap (_,[]) (fun τ=> bp _ bT) ?_
  refine FB rfl (bo ⟨rfl,?_⟩)
  exact aj (aG (bH (.inr rfl) rfl (.tmp bT) (Le.outI [] [] (nX hr) rfl rfl rfl trivial ob tr rfl)))
 have hr:eK T i=false:=by unfold eK;rw [decide_eq_false ab];rfl
 refine mi rfl ?_
 refine cY rfl (fun τ=> rfl) ah ?_
 refine pj rfl ?_
 refine cY rfl (fun τ=> rfl) ah ?_
 refine wG rfl ?_
 refine cY rfl (fun τ=> rfl) ah ?_
 refine vQ rfl ?_
 refine cY rfl (fun τ=> rfl) ah ?_
 refine yu rfl ?_
 refine cY rfl (fun τ=> rfl) ah ?_
 refine AY rfl ?_
 refine cY rfl (fun τ=> rfl) ah ?_
 refine BO rfl ?_
 refine cY rfl (fun τ=> rfl) ah ?_
 refine DA rfl ?_
 refine cY rfl (fun τ=> rfl) ah ?_
 refine EH rfl ?_
 refine cY rfl (fun τ=> rfl) ah ?_
 refine Ea rfl ?_
 refine cY rfl (fun τ=> rfl) ah ?_
 refine Fp rfl ?_
 refine cY rfl (fun τ=> rfl) ah ?_
 refine FQ rfl ?_
 refine cY rfl (fun τ=> rfl) ah ?_
 refine FW rfl ?_
 refine cY rfl (fun τ=> rfl) ah ?_
 refine FI rfl ?_
 refine ap (_,[]) (fun τ=> aD _ _ _ rfl bT) ?_
 refine Du rfl ?_
 refine ap (_,[]) (fun τ=> bp _ bT) ?_
 refine FB rfl (bo ⟨rfl,?_⟩)
 exact aj (aG (bH (.inr rfl) rfl (.tmp bT) (Le.outI [] [] (nX hr) rfl rfl rfl trivial ob tr rfl)))
theorem kP (T:List Tk) (i:Nat) (N:List Tx) (hi:i < T.length) (hT:T.length≤100000):
  Spec Tryz.prog 196 (aY [.ptr (0,9) 0] (Fo T i N)) (be (.tup []) (Fo T (bI T i) N) [(0,9),(1,9)] [(0,9),(1,9)]):=by
 refine Spec.ofNI Tryz.func196 rfl Tryz.ntmps196 rfl ?_
 refine aq (bJ 11 [2,3,4,5,6,7,8,9,10,11,12] [] ae ae rfl (aK rfl) (rfl:_=[_,_,_,_,_,_,_,_,_,_,_]) (rfl:_=[]) ?_)
 refine ap (_,[]) (fun τ=> aI _ bX) ?_
 refine fO rfl ?_
 refine ap (_,[]) (fun τ=> aU _ rfl rfl) ?_
 refine fN rfl ?_
 refine ap (_,[]) (fun τ=> aA _ aa rfl rfl rfl) ?_
 refine fP rfl ?_
 refine ap (_,[]) (fun τ=> aF _ aa rfl rfl ef) ?_
 refine fV rfl ?_
 refine ap (_,[]) (fun τ=> aZ _ _ rfl rfl (bD ab)) ?_
 refine gm rfl ?_
 refine ap (_,[]) (fun τ=> aI _ bX) ?_
 refine gY rfl ?_
 refine ap (_,[]) (fun τ=> aU _ rfl rfl) ?_
 refine iH rfl ?_
 refine ap (_,[]) (fun τ=> aA _ aa rfl rfl rfl) ?_
 refine jU rfl ?_
 refine ap (_,[]) (fun τ=> aF _ aa rfl rfl ed) ?_
 refine kA rfl ?_
 refine ap (_,[]) (fun τ=> bi _ aa rfl) ?_
 refine gf rfl ?_
 refine ap (_,[]) (fun τ=> bm _ _ rfl rfl rfl) ?_
 refine gJ rfl (bo ⟨rfl,?_⟩)
 refine aj (aR rfl (fun hc12=> ?_) (fun hc12=> ?_))
 ·skip
  have ht:bI T i=i+1:=by unfold bI;rw [if_pos ab]
  refine an (bS rfl (ai (aU _ rfl rfl) (bc rfl rfl rfl (cd rfl rfl rfl (ai (aZ _ _ rfl rfl (bD ab)) ?_)))))
  exact ai (aU _ rfl rfl) (bc rfl rfl rfl (bF rfl rfl rfl rfl rfl rfl (aJ (fy (.inl rfl) rfl (Le.outI [] [] (.tup rfl bf) rfl rfl rfl trivial ⟨⟨rfl,⟨_,rfl, .box rfl (ax .sl (ax (ci (by rw [ht] <;> omega)) lz))⟩,rfl⟩,⟨rfl,⟨_,rfl, .rowE rfl⟩,rfl⟩,trivial⟩ tr rfl)))))
 have ht:bI T i=i:=by unfold bI;rw [if_neg ab]
 exact br (fy (.inl rfl) rfl (Le.outI [] [] (.tup rfl bf) rfl rfl rfl trivial ⟨⟨rfl,⟨_,rfl, .box rfl (ax .sl (ax (ci (by rw [ht] <;> omega)) lz))⟩,rfl⟩,⟨rfl,⟨_,rfl, .rowE rfl⟩,rfl⟩,trivial⟩ tr rfl))
theorem ta (T:List Tk) (i j:Nat) (N:List Tx) (s:Tx) (hi:i < T.length) (hT:T.length≤100000) (h:gV T s i=some j):
  Spec Tryz.prog 162 (aY [.ptr (0,9) 0, .v (bt s)] (Fo T i N)) (be (.tup []) (Fo T j N) [(0,9),(1,9)] [(0,9),(1,9)]):=by
 have ⟨hs,hj⟩:(dj T i).t=s∧bI T i=j:=by
  unfold gV at h
  split at h
  ·exact ⟨by assumption,Option.some.inj h⟩
  cases h
 subst hs
 subst hj
 refine Spec.ofNI Tryz.func162 rfl Tryz.ntmps162 rfl ?_
 refine aq (am (bS rfl (ai (aU _ rfl rfl) (bc rfl rfl rfl (cd rfl rfl rfl (jY rfl rfl rfl (cI rfl (au rfl rfl (aI _ bX) (au rfl rfl (bs aa _ _ ar (fl T i N hi) tr rfl ae (by simp)) ?_)))))))))
 refine au rfl rfl (aI _ wZ) (au rfl rfl (sJ (r:=false) _ _ Tryz.underlying9 rfl rfl (by exact bne_self_eq_false _)) ?_)
 refine ai (aD _ _ _ rfl bT) (aj (aW rfl rfl (aS (am (bS rfl (ai (aU _ rfl rfl) (bc rfl rfl rfl (cd rfl rfl rfl (jY rfl rfl rfl (aj ?_))))))))))
 refine bK rfl rfl ?_
 refine aM (σ':=aE 28 [(0,_)] [((0,9),_),((1,9),_)] [(0,9),(1,9)] [(0,9),(1,9)]) kp ?_
 refine an (bS rfl (ai (dZ aa [] ar (kP T i N hi hT) ob tr ae) ?_))
 exact aJ (fy (.inl rfl) rfl (Le.outI [] [] (.tup rfl bf) rfl rfl rfl trivial ob tr rfl))

abbrev pu (d:Nd):AV:= .agg [.v (.int .i64 (d.k:Int)), .v (.int .i64 (d.n:Int)), .v (bt d.s), .sl d.kn d.kids]
abbrev PO (T:List Tk) (N:List Tx) (r:Nd×Nat):St:=be (pu r.1) (ea T r.2 N) [(0,9)] [(0,9)]
structure PE (T:List Tk) (N:List Tx) (f:Nat):Prop where
 expr: ∀ lv pr i r,lv≤20→1≤pr∧pr≤7→i < T.length→gS T f lv pr i=some r→r.2 < T.length∧Spec Tryz.prog 226 (aY [.ptr (0,9) 0, .v (.int .i64 (lv:Int)), .v (.int .i64 (pr:Int))] (ea T i N)) (PO T N r)
 un: ∀ s lv pr i r,lv≤20→1≤pr∧pr≤7→i < T.length→IJ T f s lv pr i=some r→r.2 < T.length∧Spec Tryz.prog 235 (aY [.ptr (0,9) 0, .v (bt s), .v (.int .i64 (lv:Int)), .v (.int .i64 (pr:Int))] (ea T i N)) (PO T N r)
 bin: ∀ lv pr i r,lv≤20→(1≤pr∧pr≤6∧pr≠3)→i < T.length→yJ T f lv pr i=some r→r.2 < T.length∧Spec Tryz.prog 236 (aY [.ptr (0,9) 0, .v (.int .i64 (lv:Int)), .v (.int .i64 (pr:Int))] (ea T i N)) (PO T N r)
 nest: ∀ lv i r,lv≤20→i < T.length→rX T f lv i=some r→r.2 < T.length∧Spec Tryz.prog 240 (aY [.ptr (0,9) 0, .v (.int .i64 (lv:Int))] (ea T i N)) (PO T N r)
 prim: ∀ lv i r,lv≤20→i < T.length→uY T f lv i=some r→r.2 < T.length∧Spec Tryz.prog 237 (aY [.ptr (0,9) 0, .v (.int .i64 (lv:Int))] (ea T i N)) (PO T N r)
section
variable {T:List Tk} {N:List Tx}
theorem yb (f:Nat) (ih:PE T N f) (lv pr i:Nat) (r:Nd×Nat) (hl:lv≤20) (hp:1≤pr∧pr≤7) (hi:i < T.length) (h:gS T (f+1) lv pr i=some r):
  r.2 < T.length∧Spec Tryz.prog 226 (aY [.ptr (0,9) 0, .v (.int .i64 (lv:Int)), .v (.int .i64 (pr:Int))] (ea T i N)) (PO T N r):=by
 unfold gS at h
 by_cases h1:pr=3∧(dj T i).t=[33]
 ·rw [if_pos h1] at h
  obtain ⟨ha,hb⟩:=ih.un _ _ _ _ _ hl ab hi h
  refine ⟨ha,?_⟩
  obtain ⟨rfl,h1⟩:=h1
  refine Spec.ofNI Tryz.func226 rfl Tryz.ntmps226 rfl ?_
  refine am (ai (aB (6,0) aa rfl rfl) (aj (aq (am (bS rfl (ai (aU _ rfl rfl) (bc rfl rfl rfl (cd rfl rfl rfl (ai (bN (r:=false) _ _ rfl rfl rfl) (aj ?_))))))))))
  refine aW rfl rfl (aS (am (bS rfl (ai (bs aa _ _ ar (bP T i N hi) tr rfl ae (by simp)) ?_))))
  refine oz rfl (aj (aq (am (aX rfl (jY rfl rfl rfl (cI rfl (au rfl rfl (aI _ wZ) (au rfl rfl (aV (r:=true) _ _ Tryz.underlying9 rfl rfl (by rw [h1];rfl)) ?_))))))))
  refine ai (aD _ _ _ rfl bT) (aj (bK rfl rfl (aq ?_)))
  refine aM (σ':=aE 50 [(0,_),(1,_),(6,_),(7,_)] [((0,9),_),((6,0),_)] [(0,9)] [(0,9)]) kp ?_
  exact an (bS rfl (ej rfl (aX rfl (ai (bU (hb)) (bF rfl rfl rfl rfl rfl rfl (aj (aG (bH (.inr rfl) rfl (.cellA aa rfl rfl rfl) (Le.outI [] [] (.agg rfl lz) rfl rfl rfl trivial ob tr rfl)))))))))
 rw [if_neg h1] at h
 by_cases h2:pr=3
 ·rw [if_pos h2] at h
  obtain ⟨ha,hb⟩:=ih.bin _ _ _ _ hl ab hi h
  refine ⟨ha,?_⟩
  subst h2
  have h1:(dj T i).t≠[33]:=fun e=> h1 ⟨rfl,e⟩
  refine Spec.ofNI Tryz.func226 rfl Tryz.ntmps226 rfl ?_
  refine am (ai (aB (6,0) aa rfl rfl) (aj (aq (am (bS rfl (ai (aU _ rfl rfl) (bc rfl rfl rfl (cd rfl rfl rfl (ai (bN (r:=false) _ _ rfl rfl rfl) (aj ?_))))))))))
  refine aW rfl rfl (aS (am (bS rfl (ai (bs aa _ _ ar (bP T i N hi) tr rfl ae (by simp)) ?_))))
  refine oz rfl (aj (aq (am (aX rfl (jY rfl rfl rfl (cI rfl (au rfl rfl (aI _ wZ) (au rfl rfl (aV (r:=false) _ _ Tryz.underlying9 rfl rfl (beq_eq_false_iff_ne.2 h1)) ?_))))))))
  refine ai (aD _ _ _ rfl bT) (aj (aW rfl rfl (aS (aq (aq ?_)))))
  refine aM (σ':=aE 50 [(0,_),(1,_),(2,_),(6,_),(7,_)] [((0,9),_),((6,0),_)] [(0,9)] [(0,9)]) kp ?_
  refine an (aX rfl (jY rfl rfl rfl (aj (bK rfl rfl (am (bS rfl (aX rfl (ai (bU (hb)) (bF rfl rfl rfl rfl rfl rfl (aj ?_))))))))))
  exact aG (bH (.inr rfl) rfl (.cellA aa rfl rfl rfl) (Le.outI [] [] (.agg rfl lz) rfl rfl rfl trivial ob tr rfl))
 rw [if_neg h2] at h
 by_cases h3:pr=7∧(dj T i).t=[45]
 ·rw [if_pos h3] at h
  obtain ⟨ha,hb⟩:=ih.un _ _ _ _ _ hl ab hi h
  refine ⟨ha,?_⟩
  obtain ⟨rfl,h3⟩:=h3
  refine Spec.ofNI Tryz.func226 rfl Tryz.ntmps226 rfl ?_
  refine am (ai (aB (6,0) aa rfl rfl) (aj (aq (am (bS rfl (ai (aU _ rfl rfl) (bc rfl rfl rfl (cd rfl rfl rfl (ai (bN (r:=false) _ _ rfl rfl rfl) (aj ?_))))))))))
  refine aW rfl rfl (aS (am (bS rfl (ai (bs aa _ _ ar (bP T i N hi) tr rfl ae (by simp)) ?_))))
  refine oz rfl (aj (aq (am (aX rfl (gR rfl rfl rfl (cI rfl (aO rfl rfl ah ?_)))))))
  refine aO rfl rfl ah ?_
  refine ai (aD _ _ _ rfl bT) (aj (aW rfl rfl (aS (aq (aq ?_)))))
  refine aM (σ':=aE 50 [(0,_),(1,_),(2,_),(6,_),(7,_)] [((0,9),_),((6,0),_)] [(0,9)] [(0,9)]) kp ?_
  refine an (aX rfl (gR rfl rfl rfl (aj (aW rfl rfl (aS (aq (am (aX rfl (jY rfl rfl rfl (cI rfl ?_))))))))))
  refine au rfl rfl (aI _ wZ) (au rfl rfl (aV (r:=true) _ _ Tryz.underlying9 rfl rfl (by rw [h3];rfl)) ?_)
  refine ai (aD _ _ _ rfl bT) (aj (bK rfl rfl (am (bS rfl (ej rfl (aX rfl (ai (bU (hb)) (bF rfl rfl rfl rfl rfl rfl (aj (aG ?_))))))))))
  exact bH (.inr rfl) rfl (.cellA aa rfl rfl rfl) (Le.outI [] [] (.agg rfl lz) rfl rfl rfl trivial ob tr rfl)
 rw [if_neg h3] at h
 by_cases h4:pr=7
 ·rw [if_pos h4] at h
  obtain ⟨ha,hb⟩:=ih.prim _ _ _ hl hi h
  refine ⟨ha,?_⟩
  subst h4
  have h3:(dj T i).t≠[45]:=fun e=> h3 ⟨rfl,e⟩
  refine Spec.ofNI Tryz.func226 rfl Tryz.ntmps226 rfl ?_
  refine am (ai (aB (6,0) aa rfl rfl) (aj (aq (am (bS rfl (ai (aU _ rfl rfl) (bc rfl rfl rfl (cd rfl rfl rfl (ai (bN (r:=false) _ _ rfl rfl rfl) (aj ?_))))))))))
  refine aW rfl rfl (aS (am (bS rfl (ai (bs aa _ _ ar (bP T i N hi) tr rfl ae (by simp)) ?_))))
  refine oz rfl (aj (aq (am (aX rfl (gR rfl rfl rfl (cI rfl (aO rfl rfl ah ?_)))))))
  refine aO rfl rfl ah ?_
  refine ai (aD _ _ _ rfl bT) (aj (aW rfl rfl (aS (aq (aq ?_)))))
  refine aM (σ':=aE 50 [(0,_),(1,_),(2,_),(6,_),(7,_)] [((0,9),_),((6,0),_)] [(0,9)] [(0,9)]) kp ?_
  refine an (aX rfl (gR rfl rfl rfl (aj (aW rfl rfl (aS (aq (am (aX rfl (jY rfl rfl rfl (cI rfl ?_))))))))))
  refine au rfl rfl (aI _ wZ) (au rfl rfl (aV (r:=false) _ _ Tryz.underlying9 rfl rfl (beq_eq_false_iff_ne.2 h3)) ?_)
  refine ai (aD _ _ _ rfl bT) (aj (aW rfl rfl (aS (aq (am (aX rfl (jY rfl rfl rfl (aj (bK rfl rfl (aT fun K13 hK13=> ?_))))))))))
  refine an (bS rfl (aX rfl (ai (bU (hb)) (bF rfl rfl rfl rfl rfl rfl (aJ (hK13 _ ?_))))))
  clear hK13;try clear K13
  exact aG (bH (.inr rfl) rfl (.cellA aa rfl rfl rfl) (Le.outI [] [] (.agg rfl lz) rfl rfl rfl trivial ob tr rfl))
 rw [if_neg h4] at h
 obtain ⟨ha,hb⟩:=ih.bin _ _ _ _ hl ab hi h
 refine ⟨ha,?_⟩
 refine Spec.ofNI Tryz.func226 rfl Tryz.ntmps226 rfl ?_
 refine am (ai (aB (6,0) aa rfl rfl) (aj (aq (am (bS rfl (ai (aU _ rfl rfl) (bc rfl rfl rfl (cd rfl rfl rfl (ai (bN (r:=false) _ _ rfl rfl rfl) (aj ?_))))))))))
 refine aW rfl rfl (aS (am (bS rfl (ai (bs aa _ _ ar (bP T i N hi) tr rfl ae (by simp)) ?_))))
 refine oz rfl (aj (aq (am (aX rfl (gR rfl rfl (beq_eq_false_iff_ne.2 ab) ?_)))))
 refine cI rfl (aO rfl rfl ah ?_)
 refine aO rfl rfl ah ?_
 refine ai (aD _ _ _ rfl bT) (aj (aW rfl rfl (aS (aq (aq ?_)))))
 refine aM (σ':=aE 50 [(0,_),(1,_),(2,_),(6,_),(7,_)] [((0,9),_),((6,0),_)] [(0,9)] [(0,9)]) kp ?_
 refine an (aX rfl (gR rfl rfl (beq_eq_false_iff_ne.2 ab) ?_))
 refine aj (aW rfl rfl (aS (aq (am (aX rfl (gR rfl rfl (beq_eq_false_iff_ne.2 ab) ?_))))))
 refine cI rfl (aO rfl rfl ah ?_)
 refine aO rfl rfl ah ?_
 refine ai (aD _ _ _ rfl bT) (aj (aW rfl rfl (aS (aq (am (aX rfl (gR rfl rfl (beq_eq_false_iff_ne.2 ab) ?_)))))))
 refine aj (aW rfl rfl (aS (aT fun K13 hK13=> ?_)))
 refine an (bS rfl (aX rfl (aX rfl (ai (bU (hb)) (bF rfl rfl rfl rfl rfl rfl (aJ (hK13 _ ?_)))))))
 clear hK13;try clear K13
 exact aG (bH (.inr rfl) rfl (.cellA aa rfl rfl rfl) (Le.outI [] [] (.agg rfl lz) rfl rfl rfl trivial ob tr rfl))
theorem FL (hT:T.length≤100000) (f:Nat) (ih:PE T N f) (s:Tx) (lv pr i:Nat) (r:Nd×Nat) (hl:lv≤20) (hp:1≤pr∧pr≤7) (hi:i < T.length) (h:IJ T (f+1) s lv pr i=some r):
  r.2 < T.length∧Spec Tryz.prog 235 (aY [.ptr (0,9) 0, .v (bt s), .v (.int .i64 (lv:Int)), .v (.int .i64 (pr:Int))] (ea T i N)) (PO T N r):=by
 unfold IJ at h
 simp only [Option.bind_eq_bind,Option.bind_eq_some_iff,Option.pure_def,Option.some.injEq] at h
 obtain ⟨j,hj,⟨d,j2⟩,hd,rfl⟩:=h
 have ho:=kH hj
 have hjl:=jH ho.2 hi
 obtain ⟨ha,hb⟩:=ih.expr _ _ _ _ ho.1 hp hjl hd
 have hopen:=ow T i j N s (lv+1) hi hT hj
 refine ⟨ha,?_⟩
 refine Spec.ofNI Tryz.func235 rfl Tryz.ntmps235 rfl ?_
 refine am (ai (aB (8,0) aa rfl rfl) (aj (am (bS rfl (ej rfl (aX rfl (ai (aZ _ _ rfl rfl (bD ab)) ?_)))))))
 refine ai (bU (hopen)) (aj (aT fun K3 hK3=> ?_))
 refine an (bS rfl (aX rfl (ai (aZ _ _ rfl rfl (bD ab)) ?_)))
 refine aX rfl (ai (bU (hb)) (ai (aB (9,0) aa rfl rfl) (bF rfl rfl rfl rfl rfl rfl (aJ (hK3 _ ?_)))))
 clear hK3;try clear K3
 refine am (ej rfl (ai (az _ aa rfl rfl rfl rfl) (ai (bh _ _ aa rfl ag (by (simp <;> rfl)) ah rfl) ?_)))
 refine ai (aN _ aa rfl (by exact kT)) ?_
 exact bF rfl rfl rfl rfl rfl rfl (aj (aG (bH (.inr rfl) rfl (.cellA aa rfl rfl rfl) (Le.outI [] [] (.agg rfl lz) rfl rfl rfl trivial ob tr rfl))))
theorem xX (hT:T.length≤100000) (f:Nat) (ih:PE T N f) (lv i:Nat) (r:Nd×Nat) (hl:lv≤20) (hi:i < T.length) (h:rX T (f+1) lv i=some r):
  r.2 < T.length∧Spec Tryz.prog 240 (aY [.ptr (0,9) 0, .v (.int .i64 (lv:Int))] (ea T i N)) (PO T N r):=by
 unfold rX at h
 simp only [Option.bind_eq_bind,Option.bind_eq_some_iff,Option.pure_def,Option.some.injEq] at h
 obtain ⟨j,hj,⟨d,j2⟩,hd,j3,hj3,rfl⟩:=h
 have ho:=kH hj
 have hjl:=jH ho.2 hi
 obtain ⟨ha,hb⟩:=ih.expr _ _ _ _ ho.1 ab hjl hd
 have hopen:=ow T i j N [40] (lv+1) hi hT hj
 have hexp:=fS T j2 j3 N [41] ha hT hj3
 refine ⟨jH hj3 ha,?_⟩
 refine Spec.ofNI Tryz.func240 rfl Tryz.ntmps240 rfl ?_
 refine am (ai (aB (4,0) aa rfl rfl) (aj (am (bS rfl (aX rfl (ai (aZ _ _ rfl rfl (bD ab)) ?_))))))
 refine ai (bU (hopen)) (aj (aT fun K3 hK3=> ?_))
 refine an (bS rfl (aX rfl (ai (aZ _ _ rfl rfl (bD ab)) ?_)))
 refine ai (bU (hb)) (ai (aB (5,0) aa rfl rfl) (bF rfl rfl rfl rfl rfl rfl (aJ (hK3 _ ?_))))
 clear hK3;try clear K3
 refine aT fun K4 hK4=> ?_
 refine an (bS rfl (ai (bU (hexp)) (aJ (hK4 _ ?_))))
 clear hK4;try clear K4
 exact am (ai (az _ aa rfl rfl rfl rfl) (bF rfl rfl rfl rfl rfl rfl (aj (aG (bH (.inr rfl) rfl (.cellA aa rfl rfl rfl) (Le.outI [] [] (.agg rfl lz) rfl rfl rfl trivial ob tr rfl))))))
theorem xG (hT:T.length≤100000) (f:Nat) (ih:PE T N f) (lv i:Nat) (r:Nd×Nat) (hl:lv≤20) (hi:i < T.length) (h:uY T (f+1) lv i=some r):
  r.2 < T.length∧Spec Tryz.prog 237 (aY [.ptr (0,9) 0, .v (.int .i64 (lv:Int))] (ea T i N)) (PO T N r):=by
 have htl:=ek hi
 have htake:=cA T i N hi hT
 unfold uY at h
 simp only at h
 by_cases h1:(dj T i).t=[40]
 ·rw [if_pos h1] at h
  obtain ⟨ha,hb⟩:=ih.nest _ _ _ hl hi h
  refine ⟨ha,?_⟩
  refine Spec.ofNI Tryz.func237 rfl Tryz.ntmps237 rfl ?_
  refine am (ai (aB (4,0) aa rfl rfl) (aj (aq (bJ 11 [8,9,10,11,12,13,14,15,16,17,5] [(5,0)] ae ae rfl (aK rfl) (rfl:_=[_,_,_,_,_,_,_,_,_,_,_]) (rfl:_=[_]) ?_))))
  refine ap (_,[]) (fun τ=> aI _ bX) ?_
  refine fO rfl ?_
  refine ap (_,[]) (fun τ=> aU _ rfl rfl) ?_
  refine fN rfl ?_
  refine ap (_,[]) (fun τ=> aA _ aa rfl rfl rfl) ?_
  refine fP rfl ?_
  refine ap (_,[]) (fun τ=> aF _ aa rfl rfl ed) ?_
  refine fV rfl ?_
  refine ap (_,[]) (fun τ=> aI _ bX) ?_
  refine gm rfl ?_
  refine ap (_,[]) (fun τ=> aU _ rfl rfl) ?_
  refine gY rfl ?_
  refine ap (_,[]) (fun τ=> aA _ aa rfl rfl rfl) ?_
  refine iH rfl ?_
  refine ap (_,[]) (fun τ=> aF _ aa rfl rfl ef) ?_
  refine jU rfl ?_
  refine ap (_,[]) (fun τ=> bn _ _ aa rfl rfl _ rfl ab (by (simp only [aL,bb,bj,bv,bu];omega)) ag) ?_
  refine kA rfl ?_
  refine ap (_,[]) (fun τ=> ca _ aa rfl (by exact nV _ _ hi) rfl) ?_
  refine gf rfl ?_
  refine ap (_,[((5,0),_)]) (fun τ=> aB (5,0) aa rfl rfl) ?_
  refine gJ rfl (bo ⟨rfl,?_⟩)
  refine bF rfl rfl rfl rfl rfl rfl (aj (aq (am (bc rfl rfl rfl (ai (aF _ aa rfl rfl fz) (ai (aV (r:=true) _ _ Tryz.underlying9 rfl rfl (by rw [h1];rfl)) ?_))))))
  refine aj (bK rfl rfl (aq ?_))
  refine aM (σ':=aE 72 [(0,_),(1,_),(4,_)] [((0,9),_),((4,0),_)] [(0,9)] [(0,9)]) kp ?_
  exact an (bS rfl (aX rfl (ai (bU (hb)) (bF rfl rfl rfl rfl rfl rfl (aj (aG (bH (.inr rfl) rfl (.cellA aa rfl rfl rfl) (Le.outI [] [] (.agg rfl lz) rfl rfl rfl trivial ob tr rfl))))))))
 rw [if_neg h1] at h
 by_cases h2:(dj T i).t=BC
 ·rw [if_pos h2] at h
  simp only [Option.bind_eq_bind,Option.bind_eq_some_iff,Option.pure_def,Option.some.injEq] at h
  obtain ⟨⟨d,j⟩,hd,rfl⟩:=h
  obtain ⟨ha,hb⟩:=ih.nest _ _ _ hl htl hd
  refine ⟨ha,?_⟩
  refine Spec.ofNI Tryz.func237 rfl Tryz.ntmps237 rfl ?_
  refine am (ai (aB (4,0) aa rfl rfl) (aj (aq (bJ 11 [8,9,10,11,12,13,14,15,16,17,5] [(5,0)] ae ae rfl (aK rfl) (rfl:_=[_,_,_,_,_,_,_,_,_,_,_]) (rfl:_=[_]) ?_))))
  refine ap (_,[]) (fun τ=> aI _ bX) ?_
  refine fO rfl ?_
  refine ap (_,[]) (fun τ=> aU _ rfl rfl) ?_
  refine fN rfl ?_
  refine ap (_,[]) (fun τ=> aA _ aa rfl rfl rfl) ?_
  refine fP rfl ?_
  refine ap (_,[]) (fun τ=> aF _ aa rfl rfl ed) ?_
  refine fV rfl ?_
  refine ap (_,[]) (fun τ=> aI _ bX) ?_
  refine gm rfl ?_
  refine ap (_,[]) (fun τ=> aU _ rfl rfl) ?_
  refine gY rfl ?_
  refine ap (_,[]) (fun τ=> aA _ aa rfl rfl rfl) ?_
  refine iH rfl ?_
  refine ap (_,[]) (fun τ=> aF _ aa rfl rfl ef) ?_
  refine jU rfl ?_
  refine ap (_,[]) (fun τ=> bn _ _ aa rfl rfl _ rfl ab (by (simp only [aL,bb,bj,bv,bu];omega)) ag) ?_
  refine kA rfl ?_
  refine ap (_,[]) (fun τ=> ca _ aa rfl (by exact nV _ _ hi) rfl) ?_
  refine gf rfl ?_
  refine ap (_,[((5,0),_)]) (fun τ=> aB (5,0) aa rfl rfl) ?_
  refine gJ rfl (bo ⟨rfl,?_⟩)
  refine bF rfl rfl rfl rfl rfl rfl (aj (aq (am (bc rfl rfl rfl (ai (aF _ aa rfl rfl fz) (ai (aV (r:=false) _ _ Tryz.underlying9 rfl rfl (beq_eq_false_iff_ne.2 h1)) ?_))))))
  refine aj (aW rfl rfl (aS (aq (aq ?_))))
  refine aM (σ':=aE 72 [(0,_),(1,_),(4,_),(5,_)] [((0,9),_),((4,0),_),((5,0),_)] [(0,9)] [(0,9)]) kp ?_
  refine an (bc rfl rfl rfl (ai (aF _ aa rfl rfl fz) (ai (aV (r:=true) _ _ Tryz.underlying9 rfl rfl (by rw [h2];rfl)) ?_)))
  refine aj (bK rfl rfl (am (bS rfl (ai (bU (htake)) (aj (aT fun K8 hK8=> ?_))))))
  refine an (bS rfl (aX rfl (ai (bU (hb)) (ai (aB (6,0) aa rfl rfl) (bF rfl rfl rfl rfl rfl rfl (aJ (hK8 _ ?_)))))))
  clear hK8;try clear K8
  refine am (ai (az _ aa rfl rfl rfl rfl) (ai (bh _ _ aa rfl ag (by (simp <;> rfl)) ah rfl) ?_))
  refine ai (aN _ aa rfl (by exact kT)) ?_
  exact bF rfl rfl rfl rfl rfl rfl (aj (aG (bH (.inr rfl) rfl (.cellA aa rfl rfl rfl) (Le.outI [] [] (.agg rfl lz) rfl rfl rfl trivial ob tr rfl))))
 rw [if_neg h2] at h
 have hr:r.2=bI T i:=by
  repeat' split at h
  all_goals first | (rw [← Option.some.inj h];done) | cases h
 refine ⟨by rw [hr];exact htl,?_⟩
 refine Spec.ofNI Tryz.func237 rfl Tryz.ntmps237 rfl ?_
 refine am (ai (aB (4,0) aa rfl rfl) (aj (aq (bJ 11 [8,9,10,11,12,13,14,15,16,17,5] [(5,0)] ae ae rfl (aK rfl) (rfl:_=[_,_,_,_,_,_,_,_,_,_,_]) (rfl:_=[_]) ?_))))
 refine ap (_,[]) (fun τ=> aI _ bX) ?_
 refine fO rfl ?_
 refine ap (_,[]) (fun τ=> aU _ rfl rfl) ?_
 refine fN rfl ?_
 refine ap (_,[]) (fun τ=> aA _ aa rfl rfl rfl) ?_
 refine fP rfl ?_
 refine ap (_,[]) (fun τ=> aF _ aa rfl rfl ed) ?_
 refine fV rfl ?_
 refine ap (_,[]) (fun τ=> aI _ bX) ?_
 refine gm rfl ?_
 refine ap (_,[]) (fun τ=> aU _ rfl rfl) ?_
 refine gY rfl ?_
 refine ap (_,[]) (fun τ=> aA _ aa rfl rfl rfl) ?_
 refine iH rfl ?_
 refine ap (_,[]) (fun τ=> aF _ aa rfl rfl ef) ?_
 refine jU rfl ?_
 refine ap (_,[]) (fun τ=> bn _ _ aa rfl rfl _ rfl ab (by (simp only [aL,bb,bj,bv,bu];omega)) ag) ?_
 refine kA rfl ?_
 refine ap (_,[]) (fun τ=> ca _ aa rfl (by exact nV _ _ hi) rfl) ?_
 refine gf rfl ?_
 refine ap (_,[((5,0),_)]) (fun τ=> aB (5,0) aa rfl rfl) ?_
 refine gJ rfl (bo ⟨rfl,?_⟩)
 refine bF rfl rfl rfl rfl rfl rfl (aj (aq (am (bc rfl rfl rfl (ai (aF _ aa rfl rfl fz) (ai (aV (r:=false) _ _ Tryz.underlying9 rfl rfl (beq_eq_false_iff_ne.2 h1)) ?_))))))
 refine aj (aW rfl rfl (aS (aq (aq ?_))))
 refine aM (σ':=aE 72 [(0,_),(1,_),(4,_),(5,_)] [((0,9),_),((4,0),_),((5,0),_)] [(0,9)] [(0,9)]) kp ?_
 refine an (bc rfl rfl rfl (ai (aF _ aa rfl rfl fz) (ai (aV (r:=false) _ _ Tryz.underlying9 rfl rfl (beq_eq_false_iff_ne.2 h2)) ?_)))
 refine aj (aW rfl rfl (aS (am (ai (aN _ aa rfl (by exact kT)) ?_))))
 refine ai (aB (7,0) aa rfl rfl) (bF rfl rfl rfl rfl rfl rfl (aj (aT fun K8 hK8=> ?_)))
 refine am (bc rfl rfl rfl (cd rfl rfl rfl (ai (bC _ _ rfl rfl rfl) (aj (aR rfl (fun hc38=> ?_) (fun hc38=> ?_))))))
 ·skip
  rw [if_pos ab] at h
  obtain rfl:=Option.some.inj h
  refine an (bc rfl rfl rfl (cd rfl rfl rfl (ai (aN _ aa rfl (by exact kT)) ?_)))
  refine bF rfl rfl rfl rfl rfl rfl (aJ (hK8 _ ?_))
  clear hK8;try clear K8
  refine am (bS rfl (ai (bU (htake)) (aj (aq ?_))))
  refine aM (σ':=aE 72 [(4,_),(7,_)] [((4,0),_),((7,0),_),((0,9),_)] [(0,9)] [(0,9)]) kp ?_
  exact an (ai (az _ aa rfl rfl rfl rfl) (bF rfl rfl rfl rfl rfl rfl (aj (aG (bH (.inr rfl) rfl (.cellA aa rfl rfl rfl) (Le.outI [] [] (.agg rfl lz) rfl rfl rfl trivial ob tr rfl))))))
 rw [if_neg ab] at h
 refine am (bc rfl rfl rfl (ai (aF _ aa rfl rfl fz) (ai (aV _ _ Tryz.underlying9 rfl rfl rfl) (aj (aR rfl (fun hc44=> ?_) (fun hc44=> ?_))))))
 ·skip
  rw [if_pos (show (dj T i).t=wk from hc44)] at h
  obtain rfl:=Option.some.inj h
  refine an (ai (aN _ aa rfl (by exact kT)) ?_)
  refine bF rfl rfl rfl rfl rfl rfl (aJ (hK8 _ ?_))
  clear hK8;try clear K8
  refine am (bS rfl (ai (bU (htake)) (aj (aq ?_))))
  refine aM (σ':=aE 72 [(4,_),(7,_)] [((4,0),_),((7,0),_),((0,9),_)] [(0,9)] [(0,9)]) kp ?_
  exact an (ai (az _ aa rfl rfl rfl rfl) (bF rfl rfl rfl rfl rfl rfl (aj (aG (bH (.inr rfl) rfl (.cellA aa rfl rfl rfl) (Le.outI [] [] (.agg rfl lz) rfl rfl rfl trivial ob tr rfl))))))
 rw [if_neg (show ¬ (dj T i).t=wk from hc44)] at h
 refine am (bc rfl rfl rfl (ai (aF _ aa rfl rfl fz) (ai (aV _ _ Tryz.underlying9 rfl rfl rfl) (aj (aR rfl (fun hc48=> ?_) (fun hc48=> ?_))))))
 ·skip
  rw [if_pos (show (dj T i).t=sD from hc48)] at h
  obtain rfl:=Option.some.inj h
  refine aM (σ':=aE 72 [(0,_),(4,_),(7,_)] [((0,9),_),((4,0),_),((7,0),_)] [(0,9)] [(0,9)]) kp ?_
  refine an (ai (aN _ aa rfl (by exact kT)) ?_)
  refine bF rfl rfl rfl rfl rfl rfl (aJ (hK8 _ ?_))
  clear hK8;try clear K8
  exact am (bS rfl (ai (bU (htake)) (aj (am (ai (az _ aa rfl rfl rfl rfl) (bF rfl rfl rfl rfl rfl rfl (aj (aG (bH (.inr rfl) rfl (.cellA aa rfl rfl rfl) (Le.outI [] [] (.agg rfl lz) rfl rfl rfl trivial ob tr rfl))))))))))
 rw [if_neg (show ¬ (dj T i).t=sD from hc48)] at h
 refine aq ?_
 refine aM (σ':=aE 72 [(0,_),(4,_),(5,_),(7,_)] [((0,9),_),((4,0),_),((5,0),_),((7,0),_)] [(0,9)] [(0,9)]) kp ?_
 refine bJ 4 [50,51,52,53] [] ae ae rfl (aK rfl) (rfl:_=[_,_,_,_]) (rfl:_=[]) ?_
 refine ap (_,[]) (fun τ=> (aH aa (by repeat' (exact cT)) (ms) rfl rfl)) ?_
 refine fO rfl ?_
 refine ap (_,[]) (fun τ=> aA _ aa rfl rfl rfl) ?_
 refine fN rfl ?_
 refine ap (_,[]) (fun τ=> aF _ aa rfl rfl fz) ?_
 refine fP rfl ?_
 refine ap (_,[]) (fun τ=> (aH aa al (cF bltT 9 rfl ab (dj T i).t) rfl rfl)) ?_
 refine fV rfl (bo ⟨rfl,?_⟩)
 refine aj (aR rfl (fun hc53=> ?_) (fun hc53=> ?_))
 ·skip
  rw [if_pos hc53] at h
  obtain rfl:=Option.some.inj h
  refine an (bc rfl rfl rfl (ai (aF _ aa rfl rfl fz) (ai (aN _ aa rfl (by exact kT)) ?_)))
  refine bF rfl rfl rfl rfl rfl rfl (aJ (hK8 _ ?_))
  clear hK8;try clear K8
  exact am (bS rfl (ai (bU (htake)) (aj (am (ai (az _ aa rfl rfl rfl rfl) (bF rfl rfl rfl rfl rfl rfl (aj (aG (bH (.inr rfl) rfl (.cellA aa rfl rfl rfl) (Le.outI [] [] (.agg rfl lz) rfl rfl rfl trivial ob tr rfl))))))))))
 rw [if_neg hc53] at h
 refine am (bS rfl (ai (bs aa _ _ ar (dW T i N hi) tr rfl ae (by simp)) ?_))
 refine aj (aR rfl (fun hc58=> ?_) (fun hc58=> ?_))
 ·skip
  rw [if_pos hc58] at h
  obtain rfl:=Option.some.inj h
  refine an (bc rfl rfl rfl (ai (aF _ aa rfl rfl fz) (ai (aN _ aa rfl (by exact kT)) ?_)))
  refine bF rfl rfl rfl rfl rfl rfl (aJ (hK8 _ ?_))
  clear hK8;try clear K8
  exact am (bS rfl (ai (bU (htake)) (aj (am (ai (az _ aa rfl rfl rfl rfl) (bF rfl rfl rfl rfl rfl rfl (aj (aG (bH (.inr rfl) rfl (.cellA aa rfl rfl rfl) (Le.outI [] [] (.agg rfl lz) rfl rfl rfl trivial ob tr rfl))))))))))
 exact absurd h (by rw [if_neg (by simp [hc58])];exact fun e=> by cases e)
theorem ET (pr:Nat) (h:1≤pr∧pr≤6∧pr≠3):([PV.v (.slice none 0 0), .sl 1 (fm [[124,124]]), .sl 1 (fm [[38,38]]), .v (.slice none 0 0), .sl 6 (fm [[60],[60,61],[62],[62,61],[61,61],[33,61]]), .sl 2 (fm [[43],[45]]), .sl 2 (fm [[42],[47]])]:List PV)[pr]? =some (.sl (opsP.getD pr []).length (fm (opsP.getD pr []))):=by
 have:pr=1∨pr=2∨pr=4∨pr=5∨pr=6:=by omega
 rcases this with rfl | rfl | rfl | rfl | rfl <;> rfl
theorem Dt (pr:Nat):(opsP.getD pr []).length≤6:=by
 unfold opsP
 match pr with
 | 0=> decide | 1=> decide | 2=> decide | 3=> decide | 4=> decide | 5=> decide | 6=> decide
 | n+7=> simp
theorem qy {f lv pr:Nat} {d:Nd} {i:Nat} {r:Nd×Nat} (h:mX T f lv pr d i=some r): ∃ g,f=g+1∧((dj T i).t∉opsP.getD pr []∧r=(d,i)∨(dj T i).t∈opsP.getD pr []∧ ∃ e j,gS T g lv (pr+1) (bI T i)=some (e,j)∧
  (pr=4∧r=(nd 18 0 (dj T i).t [d,e],j)∨pr≠4∧mX T g lv pr (nd 18 0 (dj T i).t [d,e]) j=some r)):=by
 cases f with
 | zero=> simp [mX] at h
 | succ g=>
  refine ⟨g,rfl,?_⟩
  unfold mX at h
  split at h
  ·rename_i hm
   simp only [Option.bind_eq_bind,Option.bind_eq_some_iff,Option.pure_def] at h
   obtain ⟨⟨e,j⟩,he,h⟩:=h
   refine .inr ⟨hm,e,j,he,?_⟩
   split at h
   ·rename_i h4;exact .inl ⟨h4,(Option.some.inj h).symm⟩
   rename_i h4;exact .inr ⟨h4,h⟩
  rename_i hm;exact .inl ⟨hm,(Option.some.inj h).symm⟩
theorem Co (hT:T.length≤100000) (f:Nat) (ih: ∀ g,g≤f→PE T N g) (lv pr i:Nat) (r:Nd×Nat) (hl:lv≤20) (hp:1≤pr∧pr≤6∧pr≠3) (hi:i < T.length) (h:yJ T (f+1) lv pr i=some r):
  r.2 < T.length∧Spec Tryz.prog 236 (aY [.ptr (0,9) 0, .v (.int .i64 (lv:Int)), .v (.int .i64 (pr:Int))] (ea T i N)) (PO T N r):=by
 unfold yJ at h
 simp only [Option.bind_eq_bind,Option.bind_eq_some_iff] at h
 obtain ⟨⟨d,j⟩,hd,h⟩:=h
 simp only at h
 obtain ⟨ha,hb⟩:=(ih f (Nat.le_refl _)).expr _ _ _ _ hl ab hi hd
 have hend: ∀ (g:Nat) (d:Nd) (i:Nat),g≤f→i < T.length→mX T g lv pr d i=some r→r.2 < T.length:=by
  intro g
  induction g with
  | zero=> intro d i _ _ h;simp [mX] at h
  | succ g ihg=>
   intro d i hg hi h
   obtain ⟨g',hg',h | ⟨_,e,j,he,h⟩⟩:=qy h
   ·rw [h.2];exact hi
   obtain rfl:g=g':=by omega
   have hj:=((ih g ab).expr _ _ _ _ hl ab (ek hi) he).1
   rcases h with h | h
   ·rw [h.2];exact hj
   exact ihg _ _ ab hj h.2
 refine ⟨hend f d j (Nat.le_refl _) ha h,?_⟩
 have hol:=Dt pr
 refine Spec.ofNI Tryz.func236 rfl Tryz.ntmps236 rfl ?_
 refine am (ai (aB (6,0) aa rfl rfl) (aj (am (ai (bh _ _ aa rfl ag (by (simp <;> rfl)) ah rfl) ?_))))
 refine ai (bh _ _ aa rfl ag (by (simp <;> rfl)) ah rfl) ?_
 refine ai (bh _ _ aa rfl ag (by (simp <;> rfl)) ah rfl) ?_
 refine ai (bh _ _ aa rfl ag (by (simp <;> rfl)) ah rfl) ?_
 refine ai (bh _ _ aa rfl ag (by (simp <;> rfl)) ah rfl) ?_
 refine ai (bh _ _ aa rfl ag (by (simp <;> rfl)) ah rfl) ?_
 refine kB rfl (aj (am (bS rfl (aX rfl (aX rfl (ai (aZ _ _ rfl rfl (bD ab)) ?_))))))
 refine ai (bU (hb)) (ai (aB (8,0) aa rfl rfl) (bF rfl rfl rfl rfl rfl rfl (aj (aT fun K4 hK4=> ?_))))
 refine ay ?_
 refine bq (α:=Nat×Nd×Nat) (fun z=> z.1≤f∧z.2.2 < T.length∧mX T z.1 lv pr z.2.1 z.2.2=some r) 53 [(0,_),(1,_),(2,_),(6,_),(7,_),(8,_)] [((6,0),_)] (fun z=> []) (fun z=> [((0,9), .box 222 [.sl T.length (sr T), .v (.int .i64 (z.2.2:Int)), .v (.int .i64 0), .v (.int .i64 0), .sl N.length (fm N)]),((8,0), .box 71 [.v (.int .i64 (z.2.1.k:Int)), .v (.int .i64 (z.2.1.n:Int)), .v (bt z.2.1.s), .sl z.2.1.kn z.2.1.kids])]) [(0,9)] [(0,9)] (fun z=> z.1) (f,d,j) ?_ (by
  refine Le.mkJ [] [] rfl ?_ ?_ trivial tr ?_
  ·exact ⟨(iP rfl),(iV rfl),(iV rfl),(iP rfl),(iS rfl),(iP rfl),trivial⟩
  ·exact ⟨(cj rfl rfl rfl),(eY rfl rfl rfl rfl lz),(eY rfl rfl rfl rfl (nj (nj (ax (by repeat' (exact Lv.v)) lz)))),trivial⟩
  kernel_rfl) ?_
 ·exact ⟨Nat.le_refl _,ha,h⟩
 intro z hz
 obtain ⟨z1,z2,z3⟩:=z
 obtain ⟨hz1,hz2,hz3⟩:=hz
 obtain ⟨g,rfl,hm⟩:=qy hz3
 simp only at hz1 hz2 hm ⊢
 refine aT fun K5 hK5=> ?_
 refine aq (bJ 14 [22,23,24,25,26,27,28,29,30,31,32,33,34,35] [] ae ae rfl (aK rfl) (rfl:_=[_,_,_,_,_,_,_,_,_,_,_,_,_,_]) (rfl:_=[]) ?_)
 refine ap (_,[]) (fun τ=> aI _ bX) ?_
 refine fO rfl ?_
 refine ap (_,[]) (fun τ=> aU _ rfl rfl) ?_
 refine fN rfl ?_
 refine ap (_,[]) (fun τ=> aA _ aa rfl rfl rfl) ?_
 refine fP rfl ?_
 refine ap (_,[]) (fun τ=> aF _ aa rfl rfl ef) ?_
 refine fV rfl ?_
 refine ap (_,[]) (fun τ=> bC (r:=true) _ _ rfl rfl rfl) ?_
 refine gm rfl ?_
 refine ap (_,[]) (fun τ=> aI _ bT) ?_
 refine gY rfl ?_
 refine bM (_,[]) rfl (fun τ=> rfl) (fun τ=> aI _ mx) ?_
 refine iH rfl ?_
 refine bM (_,[]) rfl (fun τ=> rfl) (fun τ=> aI _ et) ?_
 refine jU rfl ?_
 refine bM (_,[]) rfl (fun τ=> rfl) (fun τ=> bn _ _ aa rfl rfl _ rfl ab ah (by exact Nat.mul_one _)) ?_
 refine kA rfl ?_
 refine bM (_,[]) rfl (fun τ=> rfl) (fun τ=> bL _ aa rfl (by exact ET pr hp) rfl) ?_
 refine gf rfl ?_
 refine bM (_,[]) rfl (fun τ=> rfl) (fun τ=> aI _ bX) ?_
 refine gJ rfl ?_
 refine bM (_,[]) rfl (fun τ=> rfl) (fun τ=> (bs aa _ _ ar (bP T z3 N hz2) tr rfl ae (by simp))) ?_
 refine kS rfl ?_
 refine bM (_,[]) rfl (fun τ=> rfl) (fun τ=> (aH aa al (cF (opsP.getD pr []) _ rfl ab (dj T z3).t) rfl rfl)) ?_
 refine mi rfl ?_
 refine ap (_,[]) (fun τ=> aD _ _ _ rfl bT) ?_
 refine pj rfl (bo ⟨rfl,?_⟩)
 refine aj (aR rfl (fun hc35=> ?_) (fun hc35=> ?_))
 ·skip
  obtain ⟨_,e,je,he,hm⟩:=hm.resolve_left fun x=> x.1 hc35
  obtain ⟨hea,heb⟩:=(ih g ab).expr _ _ _ _ hl ab (ek hz2) he
  refine br (hK5 _ ?_)
  clear hK5;try clear K5
  refine ay (am (bS rfl (ai (bs aa _ _ ar (bP T z3 N hz2) tr rfl ae (by simp)) ?_)))
  refine oz rfl (aj (aq ?_))
  refine aM (σ':=aE 53 [(0,_),(1,_),(2,_),(6,_),(7,_),(8,_),(9,_)] [((6,0),_),((0,9),_),((8,0),_)] [(0,9)] [(0,9)]) kp ?_
  refine an (bS rfl (ai (bU (cA T z3 N hz2 hT)) ?_))
  refine aj (aT fun K9 hK9=> ?_)
  refine an (bS rfl (aX rfl (aX rfl (ai (aZ _ _ rfl rfl (bD ab)) ?_))))
  refine ai (bU (heb)) (ai (aB (10,0) aa rfl rfl) (bF rfl rfl rfl rfl rfl rfl (aJ (hK9 _ ?_))))
  clear hK9;try clear K9
  refine am (ej rfl (ai (az _ aa rfl rfl rfl rfl) (ai (az _ aa rfl rfl rfl rfl) (ai (bh _ _ aa rfl ag (by (simp <;> rfl)) ah rfl) ?_))))
  refine ai (aN _ aa rfl (by exact kT)) ?_
  refine bF rfl rfl rfl rfl rfl rfl (aj (aq ?_))
  refine aM (σ':=aE 53 [(0,_),(1,_),(2,_),(6,_),(7,_),(8,_)] [((6,0),_),((0,9),_),((8,0),_)] [(0,9)] [(0,9)]) kp ?_
  refine an (aX rfl (ai (bC _ _ rfl rfl rfl) (aj (aR rfl (fun hc51=> ?_) (fun hc51=> ?_)))))
  ·skip
   have hr:=(hm.resolve_right fun x=> x.1 ab).2
   subst hr
   refine bA (id (hK4 _ ?_))
   clear hK4;try clear K4
   exact am (ai (az _ aa rfl rfl rfl rfl) (bF rfl rfl rfl rfl rfl rfl (aj (aG (bH (.inr rfl) rfl (.cellA aa rfl rfl rfl) (Le.outI [] [] (.agg rfl lz) rfl rfl rfl trivial ob tr rfl))))))
  have hm:=(hm.resolve_left fun x=> hc51 ab).2
  refine br (⟨(g,nd 18 0 (dj T z3).t [z2,e],je),?_,?_,?_⟩)
  ·exact ⟨by simp only;omega,hea,hm⟩
  ·skip
   refine Le.mkJ [] [] rfl ?_ ?_ trivial tr ?_
   ·exact ⟨(iP rfl),(iV rfl),(iV rfl),(iP rfl),(iS rfl),(iP rfl),trivial⟩
   ·exact ⟨(cj rfl rfl rfl),(eY rfl rfl rfl rfl lz),(eY rfl rfl rfl rfl (nj (nj (ax (by repeat' (exact Lv.v)) lz)))),trivial⟩
   kernel_rfl
  simp only;omega
 have hr:=(hm.resolve_right fun x=> hc35 x.1).2
 subst hr
 refine bA (id (hK4 _ ?_))
 clear hK4;try clear K4
 exact am (ai (az _ aa rfl rfl rfl rfl) (bF rfl rfl rfl rfl rfl rfl (aj (aG (bH (.inr rfl) rfl (.cellA aa rfl rfl rfl) (Le.outI [] [] (.agg rfl lz) rfl rfl rfl trivial ob tr rfl))))))
theorem HT (hT:T.length≤100000): ∀ f g,g≤f→PE T N g:=by
 intro f
 induction f with
 | zero=>
  intro g hg
  obtain rfl:g=0:=by omega
  exact ⟨fun _ _ _ _ _ _ _ h=> by simp [gS] at h,fun _ _ _ _ _ _ _ _ h=> by simp [IJ] at h,fun _ _ _ _ _ _ _ h=> by simp [yJ] at h,fun _ _ _ _ _ h=> by simp [rX] at h,fun _ _ _ _ _ h=> by simp [uY] at h⟩
 | succ f ih=>
  intro g hg
  rcases Nat.lt_or_ge g (f+1) with h | h
  ·exact ih g ab
  obtain rfl:g=f+1:=by omega
  exact ⟨yb f (ih f (Nat.le_refl _)),FL hT f (ih f (Nat.le_refl _)),Co hT f ih,xX hT f (ih f (Nat.le_refl _)),xG hT f (ih f (Nat.le_refl _))⟩
theorem yL (hT:T.length≤100000) {f lv i:Nat} {r:Nd×Nat} (hl:lv≤20) (hi:i < T.length) (h:gS T f lv 1 i=some r):r.2 < T.length∧Spec Tryz.prog 226 (aY [.ptr (0,9) 0, .v (.int .i64 (lv:Int)), .v (.int .i64 1)] (ea T i N)) (PO T N r):=
 (HT hT f f (Nat.le_refl _)).expr lv 1 i r hl ab hi h
end

structure PS (T:List Tk) (N:List Tx) (f:Nat):Prop where
 stm: ∀ lv i r,lv≤20→i < T.length→yz T f lv i=some r→r.2 < T.length∧Spec Tryz.prog 202 (aY [.ptr (0,9) 0, .v (.int .i64 (lv:Int))] (ea T i N)) (PO T N r)
 blk: ∀ lv i r,lv≤21→i < T.length→re T f lv i=some r→r.2 < T.length∧Spec Tryz.prog 164 (aY [.ptr (0,9) 0, .v (.int .i64 (lv:Int))] (ea T i N)) (PO T N r)
def Do:List Tx:=[wo,kI,qg,il,lI,qT,ni,qt,pN]
theorem gj {T:List Tk} {i:Nat} (h:vV (dj T i).t=true):eK T i=false:=by unfold eK;rw [h];simp
section
variable {T:List Tk} {N:List Tx}
theorem zh (hT:T.length≤100000) (lv i:Nat) (hl:lv≤20) (hi:i < T.length) (hn:eK T i=true) {d:Nd} {j1 j2 j3:Nat} (h1:Spec Tryz.prog 162 (aY [.ptr (0,9) 0, .v (bt [61])] (ea T (bI T i) N)) (be (.tup []) (ea T j1 N) [(0,9)] [(0,9)])) (h2:Spec Tryz.prog 226 (aY [.ptr (0,9) 0, .v (.int .i64 (lv:Int)), .v (.int .i64 1)] (ea T j1 N)) (PO T N (d,j2))) (h3:Spec Tryz.prog 162 (aY [.ptr (0,9) 0, .v (bt [59])] (ea T j2 N)) (be (.tup []) (ea T j3 N) [(0,9)] [(0,9)])):
  Spec Tryz.prog 202 (aY [.ptr (0,9) 0, .v (.int .i64 (lv:Int))] (ea T i N)) (PO T N (nd 1 0 (dj T i).t [d],j3)):=by
 refine Spec.ofNI Tryz.func202 rfl Tryz.ntmps202 rfl ?_
 refine am (ai (aB (4,0) aa rfl rfl) (aj (am (bS rfl (ai (bs aa _ _ ar (bP T i N hi) tr rfl ae (by simp)) ?_)))))
 refine oz rfl (aj (am (ai (aN _ aa rfl (by exact kT)) ?_)))
 refine ai (aB (6,0) aa rfl rfl) (bF rfl rfl rfl rfl rfl rfl (aj (aq (am (bS rfl (ai (bs aa _ _ ar (dW T i N hi) tr rfl ae (by simp)) ?_))))))
 refine aj (bK rfl hn (am (bS rfl (ai (bU (cA T i N hi hT)) ?_))))
 refine aj (aT fun K7 hK7=> ?_)
 refine an (bS rfl (ai (bU (h1)) (aJ (hK7 _ ?_))))
 clear hK7;try clear K7
 refine aT fun K8 hK8=> ?_
 refine an (ej rfl (bS rfl (aX rfl (ai (bU (h2)) (ai (bh _ _ aa rfl ag (by (simp <;> rfl)) ah rfl) ?_)))))
 refine ai (aN _ aa rfl (by exact kT)) ?_
 refine bF rfl rfl rfl rfl rfl rfl (aJ (hK8 _ ?_))
 clear hK8;try clear K8
 refine aT fun K9 hK9=> ?_
 refine aM (σ':=aE 145 [(0,_),(4,_),(6,_)] [((0,9),_),((4,0),_),((6,0),_)] [(0,9)] [(0,9)]) kp ?_
 refine an (bS rfl (ai (bU (h3)) (aJ (hK9 _ ?_))))
 clear hK9;try clear K9
 exact am (ai (az _ aa rfl rfl rfl rfl) (bF rfl rfl rfl rfl rfl rfl (aj (aG (bH (.inr rfl) rfl (.cellA aa rfl rfl rfl) (Le.outI [] [] (.agg rfl lz) rfl rfl rfl trivial ob tr rfl))))))
theorem AX (hT:T.length≤100000) (lv i:Nat) (hl:lv≤20) (hi:i < T.length) (ht:(dj T i).t=kI) {c x:Nd} {j1 j2:Nat} (h1:Spec Tryz.prog 226 (aY [.ptr (0,9) 0, .v (.int .i64 (lv:Int)), .v (.int .i64 1)] (ea T (bI T i) N)) (PO T N (c,j1))) (h2:Spec Tryz.prog 164 (aY [.ptr (0,9) 0, .v (.int .i64 ((lv+1:Nat):Int))] (ea T j1 N)) (PO T N (x,j2))):
  Spec Tryz.prog 202 (aY [.ptr (0,9) 0, .v (.int .i64 (lv:Int))] (ea T i N)) (PO T N (nd 3 0 [] [c,x],j2)):=by
 have hnx:=bP T i N hi
 have hn:eK T i=false:=gj (by rw [ht];rfl)
 rw [ht] at hnx
 refine Spec.ofNI Tryz.func202 rfl Tryz.ntmps202 rfl ?_
 refine am (ai (aB (4,0) aa rfl rfl) (aj (am (bS rfl (ai (bs aa _ _ ar (hnx) tr rfl ae (by simp)) ?_)))))
 refine oz rfl (aj (am (ai (aN _ aa rfl (by exact kT)) ?_)))
 refine ai (aB (6,0) aa rfl rfl) (bF rfl rfl rfl rfl rfl rfl (aj (aq (am (bS rfl (ai (bs aa _ _ ar (dW T i N hi) tr rfl ae (by simp)) ?_))))))
 refine aj (aW rfl hn (aS (aq (am (ai (bh _ _ aa rfl ag (by (simp <;> rfl)) ah rfl) ?_)))))
 refine ej rfl (ai (aH aa al (cF Do 9 rfl ab kI) rfl rfl) ?_)
 refine ai (cq (r:=false) _ rfl rfl) (aj (aW rfl rfl (aS (am (bS rfl (ai (bU (cA T i N hi hT)) ?_))))))
 refine aj (aq (aq ?_))
 refine aM (σ':=aE 145 [(0,_),(1,_),(4,_),(5,_),(6,_)] [((0,9),_),((4,0),_),((6,0),_)] [(0,9)] [(0,9)]) kp ?_
 refine an (ej rfl (aj (ay (aq (am (ai (aV (r:=false) _ _ Tryz.underlying9 rfl rfl rfl) (cu rfl (aj (aW rfl rfl (an ?_))))))))))
 refine ai (aV (r:=true) _ _ Tryz.underlying9 rfl rfl rfl) (cu rfl (aj (bK rfl rfl (aT fun K13 hK13=> ?_))))
 refine an (bS rfl (aX rfl (ai (bU (h1)) (ai (aB (7,0) aa rfl rfl) (bF rfl rfl rfl rfl rfl rfl (aJ (hK13 _ ?_)))))))
 clear hK13;try clear K13
 refine aT fun K14 hK14=> ?_
 refine aM (σ':=aE 145 [(0,_),(1,_),(4,_),(5,_),(7,_)] [((0,9),_),((4,0),_),((7,0),_)] [(0,9)] [(0,9)]) kp ?_
 refine bJ 5 [53,54,55,56,57] [(0,9)] ae ae rfl (aK rfl) (rfl:_=[_,_,_,_,_]) (rfl:_=[_,_]) ?_
 refine ap (_,[]) (fun τ=> az _ aa rfl rfl rfl rfl) ?_
 refine fO rfl ?_
 refine ap (_,[]) (fun τ=> aI _ bX) ?_
 refine fN rfl ?_
 refine ap (_,[]) (fun τ=> aI _ et) ?_
 refine fP rfl ?_
 refine ap (_,[]) (fun τ=> aZ _ _ rfl rfl (bD ab)) ?_
 refine fV rfl ?_
 refine ap (_,[((0,9),_)]) (fun τ=> (kb aa ar (h2) ob rfl rfl ae)) ?_
 refine gm rfl (bo ⟨rfl,?_⟩)
 refine ai (bh _ _ aa rfl ag (by (simp <;> rfl)) ah rfl) ?_
 refine kB rfl (aJ (hK14 _ ?_))
 clear hK14;try clear K14
 refine aq (am (ej rfl (ai (aV (r:=true) _ _ Tryz.underlying9 rfl rfl rfl) (aj (bK rfl rfl (am (eO rfl (ai (aN _ aa rfl (by exact kT)) ?_))))))))
 exact bF rfl rfl rfl rfl rfl rfl (aj (aG (bH (.inr rfl) rfl (.cellA aa rfl rfl rfl) (Le.outI [] [] (.agg rfl lz) rfl rfl rfl trivial ob tr rfl))))
theorem JK (hT:T.length≤100000) (lv i:Nat) (hl:lv≤20) (hi:i < T.length) (ht:(dj T i).t=wo) {c x:Nd} {j1 j2:Nat} (h1:Spec Tryz.prog 226 (aY [.ptr (0,9) 0, .v (.int .i64 (lv:Int)), .v (.int .i64 1)] (ea T (bI T i) N)) (PO T N (c,j1))) (h2:Spec Tryz.prog 164 (aY [.ptr (0,9) 0, .v (.int .i64 ((lv+1:Nat):Int))] (ea T j1 N)) (PO T N (x,j2))) (hj:j2 < T.length) (he:(dj T j2).t≠sI):
  Spec Tryz.prog 202 (aY [.ptr (0,9) 0, .v (.int .i64 (lv:Int))] (ea T i N)) (PO T N (nd 2 0 [] [c,x,nd 11 0 [] []],j2)):=by
 have hnx:=bP T i N hi
 have hn:eK T i=false:=gj (by rw [ht];rfl)
 rw [ht] at hnx
 refine Spec.ofNI Tryz.func202 rfl Tryz.ntmps202 rfl ?_
 refine am (ai (aB (4,0) aa rfl rfl) (aj (am (bS rfl (ai (bs aa _ _ ar (hnx) tr rfl ae (by simp)) ?_)))))
 refine oz rfl (aj (am (ai (aN _ aa rfl (by exact kT)) ?_)))
 refine ai (aB (6,0) aa rfl rfl) (bF rfl rfl rfl rfl rfl rfl (aj (aq (am (bS rfl (ai (bs aa _ _ ar (dW T i N hi) tr rfl ae (by simp)) ?_))))))
 refine aj (aW rfl hn (aS (aq (am (ai (bh _ _ aa rfl ag (by (simp <;> rfl)) ah rfl) ?_)))))
 refine ej rfl (ai (aH aa al (cF Do 9 rfl ab wo) rfl rfl) ?_)
 refine ai (cq (r:=false) _ rfl rfl) (aj (aW rfl rfl (aS (am (bS rfl (ai (bU (cA T i N hi hT)) ?_))))))
 refine aj (aq (aq ?_))
 refine aM (σ':=aE 145 [(0,_),(1,_),(4,_),(5,_),(6,_)] [((0,9),_),((4,0),_),((6,0),_)] [(0,9)] [(0,9)]) kp ?_
 refine an (ej rfl (aj (ay (aq (am (ai (aV (r:=true) _ _ Tryz.underlying9 rfl rfl rfl) (cu rfl (aj (bK rfl rfl (aS ?_))))))))))
 refine bK rfl rfl (aT fun K13 hK13=> ?_)
 refine an (bS rfl (aX rfl (ai (bU (h1)) (ai (aB (7,0) aa rfl rfl) (bF rfl rfl rfl rfl rfl rfl (aJ (hK13 _ ?_)))))))
 clear hK13;try clear K13
 refine aT fun K14 hK14=> ?_
 refine aM (σ':=aE 145 [(0,_),(1,_),(4,_),(5,_),(7,_)] [((0,9),_),((4,0),_),((7,0),_)] [(0,9)] [(0,9)]) kp ?_
 refine bJ 5 [53,54,55,56,57] [(0,9)] ae ae rfl (aK rfl) (rfl:_=[_,_,_,_,_]) (rfl:_=[_,_]) ?_
 refine ap (_,[]) (fun τ=> az _ aa rfl rfl rfl rfl) ?_
 refine fO rfl ?_
 refine ap (_,[]) (fun τ=> aI _ bX) ?_
 refine fN rfl ?_
 refine ap (_,[]) (fun τ=> aI _ et) ?_
 refine fP rfl ?_
 refine ap (_,[]) (fun τ=> aZ _ _ rfl rfl (bD ab)) ?_
 refine fV rfl ?_
 refine ap (_,[((0,9),_)]) (fun τ=> (kb aa ar (h2) ob rfl rfl ae)) ?_
 refine gm rfl (bo ⟨rfl,?_⟩)
 refine ai (kh (58,0) _ _ aa rfl ag (by (simp <;> rfl)) ah rfl rfl) ?_
 refine fe rfl (aJ (hK14 _ ?_))
 clear hK14;try clear K14
 refine aq (am (ej rfl (ai (aV (r:=false) _ _ Tryz.underlying9 rfl rfl rfl) (aj (aW rfl rfl (aS (am (ai (aN _ aa rfl (by exact kT)) ?_))))))))
 refine ai (aB (9,0) aa rfl rfl) (bF rfl rfl rfl rfl rfl rfl (aj (aq (am (bS rfl (ai (aU _ rfl rfl) (bc rfl rfl rfl (cd rfl rfl rfl (jY rfl rfl rfl (cI rfl ?_))))))))))
 refine au rfl rfl (aI _ bX) (au rfl rfl (bs aa _ _ ar (bP T j2 N hj) tr rfl ae (by simp)) ?_)
 refine au rfl rfl (aV (r:=false) _ _ Tryz.underlying9 rfl rfl (beq_eq_false_iff_ne.2 he)) ?_
 refine ai (aD _ _ _ rfl bT) (aj (aW rfl rfl (aS (aq ?_))))
 refine aM (σ':=aE 145 [(4,_),(8,_),(9,_)] [((4,0),_),((58,0),_),((9,0),_),((0,9),_)] [(0,9)] [(0,9)]) kp ?_
 refine an (gz rfl (cw (Le.nil0 (9,0) 3 rfl rfl) ?_))
 refine ai (az _ aa rfl rfl rfl rfl) (ai (bh _ _ aa rfl ag (by (simp <;> rfl)) ah rfl) ?_)
 refine ai (dh (83,0) _ _ aa rfl rfl ag (by (refine .sl ?_;(simp [cm];done))) ab rfl (rfl) (rfl)) ?_
 refine ai (aN _ aa rfl (by exact kT)) ?_
 exact bF rfl rfl rfl rfl rfl rfl (aj (aG (bH (.inr rfl) rfl (.cellA aa rfl rfl rfl) (Le.outI [] [(83,0)] (.agg rfl (ax .v (ax .v (ax .v (ax (fj rfl rfl rfl rfl) bf))))) rfl rfl rfl tr ob tr rfl))))
theorem yW (hT:T.length≤100000) (lv i:Nat) (hl:lv≤20) (hi:i < T.length) (ht:(dj T i).t=wo) {c x y:Nd} {j1 j2 j3:Nat} (h1:Spec Tryz.prog 226 (aY [.ptr (0,9) 0, .v (.int .i64 (lv:Int)), .v (.int .i64 1)] (ea T (bI T i) N)) (PO T N (c,j1))) (h2:Spec Tryz.prog 164 (aY [.ptr (0,9) 0, .v (.int .i64 ((lv+1:Nat):Int))] (ea T j1 N)) (PO T N (x,j2))) (hj:j2 < T.length) (he:(dj T j2).t=sI) (h3:Spec Tryz.prog 164 (aY [.ptr (0,9) 0, .v (.int .i64 ((lv+1:Nat):Int))] (ea T (bI T j2) N)) (PO T N (y,j3))):
  Spec Tryz.prog 202 (aY [.ptr (0,9) 0, .v (.int .i64 (lv:Int))] (ea T i N)) (PO T N (nd 2 0 [] [c,x,y],j3)):=by
 have hnx:=bP T i N hi
 have hn:eK T i=false:=gj (by rw [ht];rfl)
 rw [ht] at hnx
 refine Spec.ofNI Tryz.func202 rfl Tryz.ntmps202 rfl ?_
 refine am (ai (aB (4,0) aa rfl rfl) (aj (am (bS rfl (ai (bs aa _ _ ar (hnx) tr rfl ae (by simp)) ?_)))))
 refine oz rfl (aj (am (ai (aN _ aa rfl (by exact kT)) ?_)))
 refine ai (aB (6,0) aa rfl rfl) (bF rfl rfl rfl rfl rfl rfl (aj (aq (am (bS rfl (ai (bs aa _ _ ar (dW T i N hi) tr rfl ae (by simp)) ?_))))))
 refine aj (aW rfl hn (aS (aq (am (ai (bh _ _ aa rfl ag (by (simp <;> rfl)) ah rfl) ?_)))))
 refine ej rfl (ai (aH aa al (cF Do 9 rfl ab wo) rfl rfl) ?_)
 refine ai (cq (r:=false) _ rfl rfl) (aj (aW rfl rfl (aS (am (bS rfl (ai (bU (cA T i N hi hT)) ?_))))))
 refine aj (aq (aq ?_))
 refine aM (σ':=aE 145 [(0,_),(1,_),(4,_),(5,_),(6,_)] [((0,9),_),((4,0),_),((6,0),_)] [(0,9)] [(0,9)]) kp ?_
 refine an (ej rfl (aj (ay (aq (am (ai (aV (r:=true) _ _ Tryz.underlying9 rfl rfl rfl) (cu rfl (aj (bK rfl rfl (aS ?_))))))))))
 refine bK rfl rfl (aT fun K13 hK13=> ?_)
 refine an (bS rfl (aX rfl (ai (bU (h1)) (ai (aB (7,0) aa rfl rfl) (bF rfl rfl rfl rfl rfl rfl (aJ (hK13 _ ?_)))))))
 clear hK13;try clear K13
 refine aT fun K14 hK14=> ?_
 refine aM (σ':=aE 145 [(0,_),(1,_),(4,_),(5,_),(7,_)] [((0,9),_),((4,0),_),((7,0),_)] [(0,9)] [(0,9)]) kp ?_
 refine bJ 5 [53,54,55,56,57] [(0,9)] ae ae rfl (aK rfl) (rfl:_=[_,_,_,_,_]) (rfl:_=[_,_]) ?_
 refine ap (_,[]) (fun τ=> az _ aa rfl rfl rfl rfl) ?_
 refine fO rfl ?_
 refine ap (_,[]) (fun τ=> aI _ bX) ?_
 refine fN rfl ?_
 refine ap (_,[]) (fun τ=> aI _ et) ?_
 refine fP rfl ?_
 refine ap (_,[]) (fun τ=> aZ _ _ rfl rfl (bD ab)) ?_
 refine fV rfl ?_
 refine ap (_,[((0,9),_)]) (fun τ=> (kb aa ar (h2) ob rfl rfl ae)) ?_
 refine gm rfl (bo ⟨rfl,?_⟩)
 refine ai (kh (58,0) _ _ aa rfl ag (by (simp <;> rfl)) ah rfl rfl) ?_
 refine fe rfl (aJ (hK14 _ ?_))
 clear hK14;try clear K14
 refine aq (am (ej rfl (ai (aV (r:=false) _ _ Tryz.underlying9 rfl rfl rfl) (aj (aW rfl rfl (aS (am (ai (aN _ aa rfl (by exact kT)) ?_))))))))
 refine ai (aB (9,0) aa rfl rfl) (bF rfl rfl rfl rfl rfl rfl (aj (aT fun K18 hK18=> ?_)))
 refine am (bS rfl (ai (aU _ rfl rfl) (bc rfl rfl rfl (cd rfl rfl rfl (jY rfl rfl rfl (cI rfl (au rfl rfl (aI _ bX) (au rfl rfl (bs aa _ _ ar (bP T j2 N hj) tr rfl ae (by simp)) ?_))))))))
 refine au rfl rfl (aV (r:=true) _ _ Tryz.underlying9 rfl rfl (beq_iff_eq.2 he)) ?_
 refine ai (aD _ _ _ rfl bT) (aj (bK rfl rfl (aT fun K20 hK20=> ?_)))
 refine aM (σ':=aE 145 [(0,_),(1,_),(4,_),(8,_),(9,_)] [((0,9),_),((4,0),_),((58,0),_),((9,0),_)] [(0,9)] [(0,9)]) kp ?_
 refine an (bS rfl (ai (bU (cA T j2 N hj hT)) ?_))
 refine aJ (hK20 _ ?_)
 clear hK20;try clear K20
 refine an (bS rfl (aX rfl (ai (aZ _ _ rfl rfl (bD ab)) ?_)))
 refine ai (bU (h3)) (bF rfl rfl rfl rfl rfl rfl (aJ (hK18 _ ?_)))
 clear hK18;try clear K18
 refine am (gz rfl (ai (az _ aa rfl rfl rfl rfl) (ai (bh _ _ aa rfl ag (by (simp <;> rfl)) ah rfl) ?_)))
 refine ai (dh (83,0) _ _ aa rfl rfl ag (by (refine .sl ?_;(simp [cm];done))) ab rfl (rfl) (rfl)) ?_
 refine ai (aN _ aa rfl (by exact kT)) ?_
 exact bF rfl rfl rfl rfl rfl rfl (aj (aG (bH (.inr rfl) rfl (.cellA aa rfl rfl rfl) (Le.outI [] [(83,0)] (.agg rfl (ax .v (ax .v (ax .v (ax (fj rfl rfl rfl rfl) bf))))) rfl rfl rfl tr ob tr rfl))))
theorem Gc (hT:T.length≤100000) (lv i:Nat) (hl:lv≤20) (hi:i < T.length) (ht:(dj T i).t=qg) {x y z:Nd} {k j1 j2 j3 j4 j5 j6 j7 j8:Nat} (h1:Spec Tryz.prog 226 (aY [.ptr (0,9) 0, .v (.int .i64 (lv:Int)), .v (.int .i64 1)] (ea T (bI T i) N)) (PO T N (x,j1))) (h2:Spec Tryz.prog 162 (aY [.ptr (0,9) 0, .v (bt [44])] (ea T j1 N)) (be (.tup []) (ea T j2 N) [(0,9)] [(0,9)])) (h3:Spec Tryz.prog 200 (aY [.ptr (0,9) 0, .v (.int .i64 29)] (ea T j2 N)) (be (.v (.int .i64 (k:Int))) (ea T j3 N) [(0,9)] [(0,9)])) (h4:Spec Tryz.prog 162 (aY [.ptr (0,9) 0, .v (bt [44])] (ea T j3 N)) (be (.tup []) (ea T j4 N) [(0,9)] [(0,9)])) (h5:Spec Tryz.prog 226 (aY [.ptr (0,9) 0, .v (.int .i64 (lv:Int)), .v (.int .i64 1)] (ea T j4 N)) (PO T N (y,j5))) (h6:Spec Tryz.prog 162 (aY [.ptr (0,9) 0, .v (bt [44])] (ea T j5 N)) (be (.tup []) (ea T j6 N) [(0,9)] [(0,9)])) (h7:Spec Tryz.prog 226 (aY [.ptr (0,9) 0, .v (.int .i64 (lv:Int)), .v (.int .i64 1)] (ea T j6 N)) (PO T N (z,j7))) (h8:Spec Tryz.prog 162 (aY [.ptr (0,9) 0, .v (bt [59])] (ea T j7 N)) (be (.tup []) (ea T j8 N) [(0,9)] [(0,9)])):
  Spec Tryz.prog 202 (aY [.ptr (0,9) 0, .v (.int .i64 (lv:Int))] (ea T i N)) (PO T N (nd 4 k [] [x,y,z],j8)):=by
 have hnx:=bP T i N hi
 have hn:eK T i=false:=gj (by rw [ht];rfl)
 rw [ht] at hnx
 refine Spec.ofNI Tryz.func202 rfl Tryz.ntmps202 rfl ?_
 refine am (ai (aB (4,0) aa rfl rfl) (aj (am (bS rfl (ai (bs aa _ _ ar (hnx) tr rfl ae (by simp)) ?_)))))
 refine oz rfl (aj (am (ai (aN _ aa rfl (by exact kT)) ?_)))
 refine ai (aB (6,0) aa rfl rfl) (bF rfl rfl rfl rfl rfl rfl (aj (aq (am (bS rfl (ai (bs aa _ _ ar (dW T i N hi) tr rfl ae (by simp)) ?_))))))
 refine aj (aW rfl hn (aS (aq (am (ai (bh _ _ aa rfl ag (by (simp <;> rfl)) ah rfl) ?_)))))
 refine ej rfl (ai (aH aa al (cF Do 9 rfl ab qg) rfl rfl) ?_)
 refine ai (cq (r:=false) _ rfl rfl) (aj (aW rfl rfl (aS (am (bS rfl (ai (bU (cA T i N hi hT)) ?_))))))
 refine aj (aT fun K9 hK9=> ?_)
 refine aq ?_
 refine aM (σ':=aE 145 [(0,_),(1,_),(4,_),(5,_),(6,_)] [((0,9),_),((4,0),_),((6,0),_)] [(0,9)] [(0,9)]) kp ?_
 refine an (ej rfl (aj (ay (aq (am (ai (aV (r:=false) _ _ Tryz.underlying9 rfl rfl rfl) (cu rfl (aj (aW rfl rfl (an ?_))))))))))
 refine ai (aV (r:=false) _ _ Tryz.underlying9 rfl rfl rfl) (cu rfl (aj (aW rfl rfl (am (ai (aV (r:=true) _ _ Tryz.underlying9 rfl rfl rfl) (cu rfl (aj (bK rfl rfl (aT fun K14 hK14=> ?_)))))))))
 refine an (bS rfl (aX rfl (ai (bU (h1)) (ai (aB (10,0) aa rfl rfl) (bF rfl rfl rfl rfl rfl rfl (aJ (hK14 _ ?_)))))))
 clear hK14;try clear K14
 refine aT fun K15 hK15=> ?_
 refine an (bS rfl (ai (bU (h2)) (aJ (hK15 _ ?_))))
 clear hK15;try clear K15
 refine aT fun K16 hK16=> ?_
 refine an (bS rfl (ai (bU (h3)) (bg rfl (aJ (hK16 _ ?_)))))
 clear hK16;try clear K16
 refine aT fun K17 hK17=> ?_
 refine aM (σ':=aE 145 [(0,_),(1,_),(4,_),(6,_),(10,_),(11,_)] [((0,9),_),((4,0),_),((6,0),_),((10,0),_)] [(0,9)] [(0,9)]) kp ?_
 refine an (bS rfl (ai (bU (h4)) (aJ (hK17 _ ?_))))
 clear hK17;try clear K17
 refine aT fun K18 hK18=> ?_
 refine an (bS rfl (aX rfl (ai (bU (h5)) (ai (aB (12,0) aa rfl rfl) (bF rfl rfl rfl rfl rfl rfl (aJ (hK18 _ ?_)))))))
 clear hK18;try clear K18
 refine aT fun K19 hK19=> ?_
 refine an (bS rfl (ai (bU (h6)) (aJ (hK19 _ ?_))))
 clear hK19;try clear K19
 refine aM (σ':=aE 145 [(0,_),(1,_),(4,_),(6,_),(10,_),(11,_),(12,_)] [((0,9),_),((4,0),_),((6,0),_),((10,0),_),((12,0),_)] [(0,9)] [(0,9)]) kp ?_
 refine bJ 7 [101,102,103,104,105,106,107] [(0,9)] ae ae rfl (aK rfl) (rfl:_=[_,_,_,_,_,_,_]) (rfl:_=[_,_]) ?_
 refine ap (_,[]) (fun τ=> aI _ et) ?_
 refine fO rfl ?_
 refine ap (_,[]) (fun τ=> az _ aa rfl rfl rfl rfl) ?_
 refine fN rfl ?_
 refine ap (_,[]) (fun τ=> az _ aa rfl rfl rfl rfl) ?_
 refine fP rfl ?_
 refine ap (_,[]) (fun τ=> aI _ bX) ?_
 refine fV rfl ?_
 refine ap (_,[]) (fun τ=> aI _ et) ?_
 refine gm rfl ?_
 refine ap (_,[((0,9),_)]) (fun τ=> (kb aa ar (h7) ob rfl rfl ae)) ?_
 refine gY rfl ?_
 refine ap (_,[]) (fun τ=> bh _ _ aa rfl ag (by (simp;exact ⟨rfl,rfl⟩)) ah rfl) ?_
 refine iH rfl (bo ⟨rfl,?_⟩)
 refine ai (aN _ aa rfl (by exact kT)) ?_
 refine bF rfl rfl rfl rfl rfl rfl (aJ (hK9 _ ?_))
 clear hK9;try clear K9
 refine aT fun K20 hK20=> ?_
 refine an (bS rfl (ai (bU (h8)) (aJ (hK20 _ ?_))))
 clear hK20;try clear K20
 exact am (ai (az _ aa rfl rfl rfl rfl) (bF rfl rfl rfl rfl rfl rfl (aj (aG (bH (.inr rfl) rfl (.cellA aa rfl rfl rfl) (Le.outI [] [] (.agg rfl lz) rfl rfl rfl trivial ob tr rfl))))))
theorem Bz (hT:T.length≤100000) (lv i:Nat) (hl:lv≤20) (hi:i < T.length) (ht:(dj T i).t=il) {k j1 j2:Nat} (h1:Spec Tryz.prog 200 (aY [.ptr (0,9) 0, .v (.int .i64 7)] (ea T (bI T i) N)) (be (.v (.int .i64 (k:Int))) (ea T j1 N) [(0,9)] [(0,9)])) (h2:Spec Tryz.prog 162 (aY [.ptr (0,9) 0, .v (bt [59])] (ea T j1 N)) (be (.tup []) (ea T j2 N) [(0,9)] [(0,9)])):
  Spec Tryz.prog 202 (aY [.ptr (0,9) 0, .v (.int .i64 (lv:Int))] (ea T i N)) (PO T N (nd 5 k [] [],j2)):=by
 have hnx:=bP T i N hi
 have hn:eK T i=false:=gj (by rw [ht];rfl)
 rw [ht] at hnx
 refine Spec.ofNI Tryz.func202 rfl Tryz.ntmps202 rfl ?_
 refine am (ai (aB (4,0) aa rfl rfl) (aj (am (bS rfl (ai (bs aa _ _ ar (hnx) tr rfl ae (by simp)) ?_)))))
 refine oz rfl (aj (am (ai (aN _ aa rfl (by exact kT)) ?_)))
 refine ai (aB (6,0) aa rfl rfl) (bF rfl rfl rfl rfl rfl rfl (aj (aq (am (bS rfl (ai (bs aa _ _ ar (dW T i N hi) tr rfl ae (by simp)) ?_))))))
 refine aj (aW rfl hn (aS (aq (am (ai (bh _ _ aa rfl ag (by (simp <;> rfl)) ah rfl) ?_)))))
 refine ej rfl (ai (aH aa al (cF Do 9 rfl ab il) rfl rfl) ?_)
 refine ai (cq (r:=false) _ rfl rfl) (aj (aW rfl rfl (aS (am (bS rfl (ai (bU (cA T i N hi hT)) ?_))))))
 refine aj (aT fun K9 hK9=> ?_)
 refine aq ?_
 refine aM (σ':=aE 145 [(0,_),(1,_),(4,_),(5,_),(6,_)] [((0,9),_),((4,0),_),((6,0),_)] [(0,9)] [(0,9)]) kp ?_
 refine an (ej rfl (aj (ay (aq (am (ai (aV (r:=false) _ _ Tryz.underlying9 rfl rfl rfl) (cu rfl (aj (aW rfl rfl (an ?_))))))))))
 refine ai (aV (r:=false) _ _ Tryz.underlying9 rfl rfl rfl) (cu rfl (aj (aW rfl rfl (am (ai (aV (r:=false) _ _ Tryz.underlying9 rfl rfl rfl) (cu rfl (aj (aW rfl rfl (am (ai (aV (r:=true) _ _ Tryz.underlying9 rfl rfl rfl) ?_))))))))))
 refine cu rfl (aj (bK rfl rfl (an (bS rfl (ai (bU (h1)) (ai (aN _ aa rfl (by exact kT)) ?_))))))
 refine bF rfl rfl rfl rfl rfl rfl (aJ (hK9 _ ?_))
 clear hK9;try clear K9
 refine aT fun K15 hK15=> ?_
 refine an (bS rfl (ai (bU (h2)) (aJ (hK15 _ ?_))))
 clear hK15;try clear K15
 refine aq ?_
 refine aM (σ':=aE 145 [(4,_),(6,_)] [((4,0),_),((6,0),_),((0,9),_)] [(0,9)] [(0,9)]) kp ?_
 exact an (ai (az _ aa rfl rfl rfl rfl) (bF rfl rfl rfl rfl rfl rfl (aj (aG (bH (.inr rfl) rfl (.cellA aa rfl rfl rfl) (Le.outI [] [] (.agg rfl lz) rfl rfl rfl trivial ob tr rfl))))))
theorem yG (hT:T.length≤100000) (lv i:Nat) (hl:lv≤20) (hi:i < T.length) (ht:(dj T i).t=lI) {k j1 j2:Nat} (h1:Spec Tryz.prog 200 (aY [.ptr (0,9) 0, .v (.int .i64 7)] (ea T (bI T i) N)) (be (.v (.int .i64 (k:Int))) (ea T j1 N) [(0,9)] [(0,9)])) (h2:Spec Tryz.prog 162 (aY [.ptr (0,9) 0, .v (bt [59])] (ea T j1 N)) (be (.tup []) (ea T j2 N) [(0,9)] [(0,9)])):
  Spec Tryz.prog 202 (aY [.ptr (0,9) 0, .v (.int .i64 (lv:Int))] (ea T i N)) (PO T N (nd 6 k [] [],j2)):=by
 have hnx:=bP T i N hi
 have hn:eK T i=false:=gj (by rw [ht];rfl)
 rw [ht] at hnx
 refine Spec.ofNI Tryz.func202 rfl Tryz.ntmps202 rfl ?_
 refine am (ai (aB (4,0) aa rfl rfl) (aj (am (bS rfl (ai (bs aa _ _ ar (hnx) tr rfl ae (by simp)) ?_)))))
 refine oz rfl (aj (am (ai (aN _ aa rfl (by exact kT)) ?_)))
 refine ai (aB (6,0) aa rfl rfl) (bF rfl rfl rfl rfl rfl rfl (aj (aq (am (bS rfl (ai (bs aa _ _ ar (dW T i N hi) tr rfl ae (by simp)) ?_))))))
 refine aj (aW rfl hn (aS (aq (am (ai (bh _ _ aa rfl ag (by (simp <;> rfl)) ah rfl) ?_)))))
 refine ej rfl (ai (aH aa al (cF Do 9 rfl ab lI) rfl rfl) ?_)
 refine ai (cq (r:=false) _ rfl rfl) (aj (aW rfl rfl (aS (am (bS rfl (ai (bU (cA T i N hi hT)) ?_))))))
 refine aj (aT fun K9 hK9=> ?_)
 refine aq ?_
 refine aM (σ':=aE 145 [(0,_),(1,_),(4,_),(5,_),(6,_)] [((0,9),_),((4,0),_),((6,0),_)] [(0,9)] [(0,9)]) kp ?_
 refine an (ej rfl (aj (ay (aq (am (ai (aV (r:=false) _ _ Tryz.underlying9 rfl rfl rfl) (cu rfl (aj (aW rfl rfl (an ?_))))))))))
 refine ai (aV (r:=false) _ _ Tryz.underlying9 rfl rfl rfl) (cu rfl (aj (aW rfl rfl (am (ai (aV (r:=false) _ _ Tryz.underlying9 rfl rfl rfl) (cu rfl (aj (aW rfl rfl (am (ai (aV (r:=false) _ _ Tryz.underlying9 rfl rfl rfl) ?_))))))))))
 refine cu rfl (aj (aW rfl rfl (am (ai (aV (r:=true) _ _ Tryz.underlying9 rfl rfl rfl) (cu rfl (aj (bK rfl rfl (an (bS rfl (ai (bU (h1)) ?_))))))))))
 refine ai (aN _ aa rfl (by exact kT)) ?_
 refine bF rfl rfl rfl rfl rfl rfl (aJ (hK9 _ ?_))
 clear hK9;try clear K9
 refine aT fun K16 hK16=> ?_
 refine aM (σ':=aE 145 [(0,_),(4,_),(6,_)] [((0,9),_),((4,0),_),((6,0),_)] [(0,9)] [(0,9)]) kp ?_
 refine an (bS rfl (ai (bU (h2)) (aJ (hK16 _ ?_))))
 clear hK16;try clear K16
 exact am (ai (az _ aa rfl rfl rfl rfl) (bF rfl rfl rfl rfl rfl rfl (aj (aG (bH (.inr rfl) rfl (.cellA aa rfl rfl rfl) (Le.outI [] [] (.agg rfl lz) rfl rfl rfl trivial ob tr rfl))))))
theorem zZ (hT:T.length≤100000) (lv i:Nat) (hl:lv≤20) (hi:i < T.length) (ht:(dj T i).t=ni) {x y:Nd} {j1 j2 j3 j4:Nat} (h1:Spec Tryz.prog 226 (aY [.ptr (0,9) 0, .v (.int .i64 (lv:Int)), .v (.int .i64 1)] (ea T (bI T i) N)) (PO T N (x,j1))) (h2:Spec Tryz.prog 162 (aY [.ptr (0,9) 0, .v (bt [44])] (ea T j1 N)) (be (.tup []) (ea T j2 N) [(0,9)] [(0,9)])) (h3:Spec Tryz.prog 226 (aY [.ptr (0,9) 0, .v (.int .i64 (lv:Int)), .v (.int .i64 1)] (ea T j2 N)) (PO T N (y,j3))) (h4:Spec Tryz.prog 162 (aY [.ptr (0,9) 0, .v (bt [59])] (ea T j3 N)) (be (.tup []) (ea T j4 N) [(0,9)] [(0,9)])):
  Spec Tryz.prog 202 (aY [.ptr (0,9) 0, .v (.int .i64 (lv:Int))] (ea T i N)) (PO T N (nd 8 0 [] [x,y],j4)):=by
 have hnx:=bP T i N hi
 have hn:eK T i=false:=gj (by rw [ht];rfl)
 rw [ht] at hnx
 refine Spec.ofNI Tryz.func202 rfl Tryz.ntmps202 rfl ?_
 refine am (ai (aB (4,0) aa rfl rfl) (aj (am (bS rfl (ai (bs aa _ _ ar (hnx) tr rfl ae (by simp)) ?_)))))
 refine oz rfl (aj (am (ai (aN _ aa rfl (by exact kT)) ?_)))
 refine ai (aB (6,0) aa rfl rfl) (bF rfl rfl rfl rfl rfl rfl (aj (aq (am (bS rfl (ai (bs aa _ _ ar (dW T i N hi) tr rfl ae (by simp)) ?_))))))
 refine aj (aW rfl hn (aS (aq (am (ai (bh _ _ aa rfl ag (by (simp <;> rfl)) ah rfl) ?_)))))
 refine ej rfl (ai (aH aa al (cF Do 9 rfl ab ni) rfl rfl) ?_)
 refine ai (cq (r:=false) _ rfl rfl) (aj (aW rfl rfl (aS (am (bS rfl (ai (bU (cA T i N hi hT)) ?_))))))
 refine aj (aT fun K9 hK9=> ?_)
 refine aq ?_
 refine aM (σ':=aE 145 [(0,_),(1,_),(4,_),(5,_),(6,_)] [((0,9),_),((4,0),_),((6,0),_)] [(0,9)] [(0,9)]) kp ?_
 refine an (ej rfl (aj (ay (aq (am (ai (aV (r:=false) _ _ Tryz.underlying9 rfl rfl rfl) (cu rfl (aj (aW rfl rfl (an ?_))))))))))
 refine ai (aV (r:=false) _ _ Tryz.underlying9 rfl rfl rfl) (cu rfl (aj (aW rfl rfl (am (ai (aV (r:=false) _ _ Tryz.underlying9 rfl rfl rfl) (cu rfl (aj (aW rfl rfl (am (ai (aV (r:=false) _ _ Tryz.underlying9 rfl rfl rfl) ?_))))))))))
 refine cu rfl (aj (aW rfl rfl (am (ai (aV (r:=false) _ _ Tryz.underlying9 rfl rfl rfl) (cu rfl (aj (aW rfl rfl (am (ai (aV (r:=true) _ _ Tryz.underlying9 rfl rfl rfl) (cu rfl ?_))))))))))
 refine aj (bK rfl rfl (aT fun K17 hK17=> ?_))
 refine an (bS rfl (aX rfl (ai (bU (h1)) (ai (aB (13,0) aa rfl rfl) (bF rfl rfl rfl rfl rfl rfl (aJ (hK17 _ ?_)))))))
 clear hK17;try clear K17
 refine aT fun K18 hK18=> ?_
 refine aM (σ':=aE 145 [(0,_),(1,_),(4,_),(6,_),(13,_)] [((0,9),_),((4,0),_),((6,0),_),((13,0),_)] [(0,9)] [(0,9)]) kp ?_
 refine an (bS rfl (ai (bU (h2)) (aJ (hK18 _ ?_))))
 clear hK18;try clear K18
 refine bJ 4 [126,127,128,129] [(0,9)] ae ae rfl (aK rfl) (rfl:_=[_,_,_,_]) (rfl:_=[_,_,_]) ?_
 refine ap (_,[]) (fun τ=> az _ aa rfl rfl rfl rfl) ?_
 refine fO rfl ?_
 refine ap (_,[]) (fun τ=> aI _ bX) ?_
 refine fN rfl ?_
 refine ap (_,[]) (fun τ=> aI _ et) ?_
 refine fP rfl ?_
 refine ap (_,[((0,9),_)]) (fun τ=> (kb aa ar (h3) ob rfl rfl ae)) ?_
 refine fV rfl (bo ⟨rfl,?_⟩)
 refine ai (bh _ _ aa rfl ag (by (simp <;> rfl)) ah rfl) ?_
 refine ai (aN _ aa rfl (by exact kT)) ?_
 refine bF rfl rfl rfl rfl rfl rfl (aJ (hK9 _ ?_))
 clear hK9;try clear K9
 refine aT fun K19 hK19=> ?_
 refine an (bS rfl (ai (bU (h4)) (aJ (hK19 _ ?_))))
 clear hK19;try clear K19
 exact am (ai (az _ aa rfl rfl rfl rfl) (bF rfl rfl rfl rfl rfl rfl (aj (aG (bH (.inr rfl) rfl (.cellA aa rfl rfl rfl) (Le.outI [] [] (.agg rfl lz) rfl rfl rfl trivial ob tr rfl))))))
theorem Ew (hT:T.length≤100000) (lv i:Nat) (hl:lv≤20) (hi:i < T.length) (ht:(dj T i).t=qt) {x:Nd} {j1 j2:Nat} (h1:Spec Tryz.prog 226 (aY [.ptr (0,9) 0, .v (.int .i64 (lv:Int)), .v (.int .i64 1)] (ea T (bI T i) N)) (PO T N (x,j1))) (h2:Spec Tryz.prog 162 (aY [.ptr (0,9) 0, .v (bt [59])] (ea T j1 N)) (be (.tup []) (ea T j2 N) [(0,9)] [(0,9)])):
  Spec Tryz.prog 202 (aY [.ptr (0,9) 0, .v (.int .i64 (lv:Int))] (ea T i N)) (PO T N (nd 9 0 [] [x],j2)):=by
 have hnx:=bP T i N hi
 have hn:eK T i=false:=gj (by rw [ht];rfl)
 rw [ht] at hnx
 refine Spec.ofNI Tryz.func202 rfl Tryz.ntmps202 rfl ?_
 refine am (ai (aB (4,0) aa rfl rfl) (aj (am (bS rfl (ai (bs aa _ _ ar (hnx) tr rfl ae (by simp)) ?_)))))
 refine oz rfl (aj (am (ai (aN _ aa rfl (by exact kT)) ?_)))
 refine ai (aB (6,0) aa rfl rfl) (bF rfl rfl rfl rfl rfl rfl (aj (aq (am (bS rfl (ai (bs aa _ _ ar (dW T i N hi) tr rfl ae (by simp)) ?_))))))
 refine aj (aW rfl hn (aS (aq (am (ai (bh _ _ aa rfl ag (by (simp <;> rfl)) ah rfl) ?_)))))
 refine ej rfl (ai (aH aa al (cF Do 9 rfl ab qt) rfl rfl) ?_)
 refine ai (cq (r:=false) _ rfl rfl) (aj (aW rfl rfl (aS (am (bS rfl (ai (bU (cA T i N hi hT)) ?_))))))
 refine aj (aT fun K9 hK9=> ?_)
 refine aq ?_
 refine aM (σ':=aE 145 [(0,_),(1,_),(4,_),(5,_),(6,_)] [((0,9),_),((4,0),_),((6,0),_)] [(0,9)] [(0,9)]) kp ?_
 refine an (ej rfl (aj (ay (aq (am (ai (aV (r:=false) _ _ Tryz.underlying9 rfl rfl rfl) (cu rfl (aj (aW rfl rfl (an ?_))))))))))
 refine ai (aV (r:=false) _ _ Tryz.underlying9 rfl rfl rfl) (cu rfl (aj (aW rfl rfl (am (ai (aV (r:=false) _ _ Tryz.underlying9 rfl rfl rfl) (cu rfl (aj (aW rfl rfl (am (ai (aV (r:=false) _ _ Tryz.underlying9 rfl rfl rfl) ?_))))))))))
 refine cu rfl (aj (aW rfl rfl (am (ai (aV (r:=false) _ _ Tryz.underlying9 rfl rfl rfl) (cu rfl (aj (aW rfl rfl (am (ai (aV (r:=false) _ _ Tryz.underlying9 rfl rfl rfl) (cu rfl ?_))))))))))
 refine aj (aW rfl rfl (am (ai (aV (r:=true) _ _ Tryz.underlying9 rfl rfl rfl) (cu rfl (aj (bK rfl rfl ?_))))))
 refine aM (σ':=aE 145 [(0,_),(1,_),(4,_),(6,_)] [((0,9),_),((4,0),_),((6,0),_)] [(0,9)] [(0,9)]) kp ?_
 refine an (bS rfl (aX rfl (ai (bU (h1)) (ai (bh _ _ aa rfl ag (by (simp <;> rfl)) ah rfl) ?_))))
 refine ai (aN _ aa rfl (by exact kT)) ?_
 refine bF rfl rfl rfl rfl rfl rfl (aJ (hK9 _ ?_))
 clear hK9;try clear K9
 refine aT fun K18 hK18=> ?_
 refine an (bS rfl (ai (bU (h2)) (aJ (hK18 _ ?_))))
 clear hK18;try clear K18
 exact am (ai (az _ aa rfl rfl rfl rfl) (bF rfl rfl rfl rfl rfl rfl (aj (aG (bH (.inr rfl) rfl (.cellA aa rfl rfl rfl) (Le.outI [] [] (.agg rfl lz) rfl rfl rfl trivial ob tr rfl))))))
theorem EX (hT:T.length≤100000) (lv i:Nat) (hl:lv≤20) (hi:i < T.length) (ht:(dj T i).t=qT) {j1:Nat} (h1:Spec Tryz.prog 162 (aY [.ptr (0,9) 0, .v (bt [59])] (ea T (bI T i) N)) (be (.tup []) (ea T j1 N) [(0,9)] [(0,9)])):
  Spec Tryz.prog 202 (aY [.ptr (0,9) 0, .v (.int .i64 (lv:Int))] (ea T i N)) (PO T N (nd 7 0 [] [],j1)):=by
 have hnx:=bP T i N hi
 have hn:eK T i=false:=gj (by rw [ht];rfl)
 rw [ht] at hnx
 refine Spec.ofNI Tryz.func202 rfl Tryz.ntmps202 rfl ?_
 refine am (ai (aB (4,0) aa rfl rfl) (aj (am (bS rfl (ai (bs aa _ _ ar (hnx) tr rfl ae (by simp)) ?_)))))
 refine oz rfl (aj (am (ai (aN _ aa rfl (by exact kT)) ?_)))
 refine ai (aB (6,0) aa rfl rfl) (bF rfl rfl rfl rfl rfl rfl (aj (aq (am (bS rfl (ai (bs aa _ _ ar (dW T i N hi) tr rfl ae (by simp)) ?_))))))
 refine aj (aW rfl hn (aS (aq (am (ai (bh _ _ aa rfl ag (by (simp <;> rfl)) ah rfl) ?_)))))
 refine ej rfl (ai (aH aa al (cF Do 9 rfl ab qT) rfl rfl) ?_)
 refine ai (cq (r:=false) _ rfl rfl) (aj (aW rfl rfl (aS (am (bS rfl (ai (bU (cA T i N hi hT)) ?_))))))
 refine aj (aq (aq ?_))
 refine aM (σ':=aE 145 [(0,_),(1,_),(4,_),(5,_),(6,_)] [((0,9),_),((4,0),_),((6,0),_)] [(0,9)] [(0,9)]) kp ?_
 refine an (ej rfl (aj (ay (aq (am (ai (aV (r:=false) _ _ Tryz.underlying9 rfl rfl rfl) (cu rfl (aj (aW rfl rfl (an ?_))))))))))
 refine ai (aV (r:=false) _ _ Tryz.underlying9 rfl rfl rfl) (cu rfl (aj (aW rfl rfl (am (ai (aV (r:=false) _ _ Tryz.underlying9 rfl rfl rfl) (cu rfl (aj (aW rfl rfl (am (ai (aV (r:=false) _ _ Tryz.underlying9 rfl rfl rfl) ?_))))))))))
 refine cu rfl (aj (aW rfl rfl (am (ai (aV (r:=false) _ _ Tryz.underlying9 rfl rfl rfl) (cu rfl (aj (aW rfl rfl (am (ai (aV (r:=false) _ _ Tryz.underlying9 rfl rfl rfl) (cu rfl ?_))))))))))
 refine aj (aW rfl rfl (am (ai (aV (r:=false) _ _ Tryz.underlying9 rfl rfl rfl) (cu rfl (aj (aW rfl rfl (aq ?_)))))))
 refine aM (σ':=aE 145 [(0,_),(4,_),(6,_),(45,_)] [((0,9),_),((4,0),_),((6,0),_)] [(0,9)] [(0,9)]) kp ?_
 refine an (ai (aV (r:=true) _ _ Tryz.underlying9 rfl rfl rfl) (cu rfl (aj (bK rfl rfl (an (bc rfl rfl rfl (bF rfl rfl rfl rfl rfl rfl (eh (aT fun K19 hK19=> ?_)))))))))
 refine an (bS rfl (ai (bU (h1)) (aJ (hK19 _ ?_))))
 clear hK19;try clear K19
 exact am (ai (az _ aa rfl rfl rfl rfl) (bF rfl rfl rfl rfl rfl rfl (aj (aG (bH (.inr rfl) rfl (.cellA aa rfl rfl rfl) (Le.outI [] [] (.agg rfl lz) rfl rfl rfl trivial ob tr rfl))))))
theorem EV (hT:T.length≤100000) (lv i:Nat) (hl:lv≤20) (hi:i < T.length) (ht:(dj T i).t=pN) {j1:Nat} (h1:Spec Tryz.prog 162 (aY [.ptr (0,9) 0, .v (bt [59])] (ea T (bI T i) N)) (be (.tup []) (ea T j1 N) [(0,9)] [(0,9)])):
  Spec Tryz.prog 202 (aY [.ptr (0,9) 0, .v (.int .i64 (lv:Int))] (ea T i N)) (PO T N (nd 10 0 [] [],j1)):=by
 have hnx:=bP T i N hi
 have hn:eK T i=false:=gj (by rw [ht];rfl)
 rw [ht] at hnx
 refine Spec.ofNI Tryz.func202 rfl Tryz.ntmps202 rfl ?_
 refine am (ai (aB (4,0) aa rfl rfl) (aj (am (bS rfl (ai (bs aa _ _ ar (hnx) tr rfl ae (by simp)) ?_)))))
 refine oz rfl (aj (am (ai (aN _ aa rfl (by exact kT)) ?_)))
 refine ai (aB (6,0) aa rfl rfl) (bF rfl rfl rfl rfl rfl rfl (aj (aq (am (bS rfl (ai (bs aa _ _ ar (dW T i N hi) tr rfl ae (by simp)) ?_))))))
 refine aj (aW rfl hn (aS (aq (am (ai (bh _ _ aa rfl ag (by (simp <;> rfl)) ah rfl) ?_)))))
 refine ej rfl (ai (aH aa al (cF Do 9 rfl ab pN) rfl rfl) ?_)
 refine ai (cq (r:=false) _ rfl rfl) (aj (aW rfl rfl (aS (am (bS rfl (ai (bU (cA T i N hi hT)) ?_))))))
 refine aj (aq (aq ?_))
 refine aM (σ':=aE 145 [(0,_),(1,_),(4,_),(5,_),(6,_)] [((0,9),_),((4,0),_),((6,0),_)] [(0,9)] [(0,9)]) kp ?_
 refine an (ej rfl (aj (ay (aq (am (ai (aV (r:=false) _ _ Tryz.underlying9 rfl rfl rfl) (cu rfl (aj (aW rfl rfl (an ?_))))))))))
 refine ai (aV (r:=false) _ _ Tryz.underlying9 rfl rfl rfl) (cu rfl (aj (aW rfl rfl (am (ai (aV (r:=false) _ _ Tryz.underlying9 rfl rfl rfl) (cu rfl (aj (aW rfl rfl (am (ai (aV (r:=false) _ _ Tryz.underlying9 rfl rfl rfl) ?_))))))))))
 refine cu rfl (aj (aW rfl rfl (am (ai (aV (r:=false) _ _ Tryz.underlying9 rfl rfl rfl) (cu rfl (aj (aW rfl rfl (am (ai (aV (r:=false) _ _ Tryz.underlying9 rfl rfl rfl) (cu rfl ?_))))))))))
 refine aj (aW rfl rfl (am (ai (aV (r:=false) _ _ Tryz.underlying9 rfl rfl rfl) (cu rfl (aj (aW rfl rfl (aq ?_)))))))
 refine aM (σ':=aE 145 [(0,_),(4,_),(6,_),(45,_)] [((0,9),_),((4,0),_),((6,0),_)] [(0,9)] [(0,9)]) kp ?_
 refine an (ai (aV (r:=false) _ _ Tryz.underlying9 rfl rfl rfl) (cu rfl (aj (aW rfl rfl (an (bc rfl rfl rfl (bF rfl rfl rfl rfl rfl rfl (eh (aT fun K19 hK19=> ?_)))))))))
 refine an (bS rfl (ai (bU (h1)) (aJ (hK19 _ ?_))))
 clear hK19;try clear K19
 exact am (ai (az _ aa rfl rfl rfl rfl) (bF rfl rfl rfl rfl rfl rfl (aj (aG (bH (.inr rfl) rfl (.cellA aa rfl rfl rfl) (Le.outI [] [] (.agg rfl lz) rfl rfl rfl trivial ob tr rfl))))))
end
end Go.Proofs.YtmjnackchaahbaaGreat
