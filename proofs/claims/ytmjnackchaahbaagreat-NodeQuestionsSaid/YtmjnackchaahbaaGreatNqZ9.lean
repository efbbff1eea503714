/- part 9 -/
import Derived.Test.YtmjnackchaahbaaGreatNqZ8
set_option linter.unusedSimpArgs false
set_option linter.unusedVariables false
namespace Go.Proofs.YtmjnackchaahbaaGreat
open Go.RowKit

theorem cI (l:List Tx) (n:Nat) (hn:l.length=n) (h1:n≤1000) (t:Tx):Spec Tryz.prog 199 (ba [.sl n (fo l), .v (bt t)] []) (aP (.v (.bool (decide (t∈l)))) []):=by
 refine Spec.ofN Tryz.func199 rfl Tryz.ntmps199 rfl ?_
 refine am (cu rfl (aj (aU fun K2 hK2=> ?_)))
 refine am (be rfl (aj (ay ?_)))
 refine bq (α:=Nat) (fun k=> k≤n∧t∉l.take k) 18 [(0,_),(1,_)] [] (fun k=> [(5, .v (.int .i64 (k:Int)))]) (fun k=> []) [] [] (fun k=> n - k) 0 ?_ (by
  refine Le.mkJ [] [] rfl ?_ ?_ trivial trivial ?_
  ·exact ⟨(iS rfl),(iV rfl),(co ag),trivial⟩
  ·exact trivial
  kernel_rfl) ?_
 ·exact ⟨Nat.zero_le _,by simp⟩
 intro k hk
 obtain ⟨hk,hnt⟩:=hk
 refine aU fun K4 hK4=> ?_
 refine am (aX rfl (eY rfl (ai (bo _ aa rfl) (ai (bl _ _ rfl rfl rfl) (aj (aR rfl (fun hc9=> ?_) (fun hc9=> ?_)))))))
 ·skip
  refine bs (hK4 _ ?_)
  clear hK4;try clear K4
  refine aq (ay (am (eY rfl (aX rfl (ai (bn _ _ aa rfl rfl _ rfl ab (by (simp only [aO,bg,bj,bv,bu];omega)) (by exact Nat.mul_one _)) ?_)))))
  refine ai (bT _ aa rfl (by exact jO _ _ ab) rfl) ?_
  refine ej rfl (ai (aV _ _ Tryz.underlying9 rfl rfl rfl) (aj (aR rfl (fun hc17=> ?_) (fun hc17=> ?_))))
  ·skip
   refine am (cu rfl (aj (aG (rJ rfl rfl ?_))))
   exact decide_eq_true (hc17 ▸ kk ab)
  refine cp (an (aX rfl (ai (aZ _ _ rfl rfl (bD ab)) ?_)))
  refine be rfl (aJ (⟨k+1,?_,?_,?_⟩))
  ·exact ⟨by omega,kW hnt ab hc17⟩
  ·skip
   refine Le.mkJ [] [] rfl ?_ ?_ trivial trivial ?_
   ·exact ⟨(iS rfl),(iV rfl),(co ag),trivial⟩
   ·exact trivial
   kernel_rfl
  omega
 have hall:t∉l:=by rwa [List.take_of_length_le ab] at hnt
 refine bB (id (hK2 _ ?_))
 clear hK2;try clear K2
 refine am (cu rfl (aj (aG (rJ rfl rfl ?_))))
 exact decide_eq_false hall
theorem mz:Spec Tryz.prog 205 (ba [] []) (aP (.sl 9 (fo bltT)) []):=by
 refine Spec.ofN Tryz.func205 rfl Tryz.ntmps205 rfl ?_
 refine am (ai (bp _ fC) (aj (am (ai (bh _ _ aa rfl ag (by (simp <;> rfl)) ah rfl) ?_))))
 exact kH rfl (aj (aG (qV rfl rfl)))
theorem mA (t:Tx):Spec Tryz.prog 225 (ba [.v (bt t)] []) (aP (.v (.bool (wd t))) []):=by
 refine Spec.ofN Tryz.func225 rfl Tryz.ntmps225 rfl ?_
 refine am (cu rfl (aj (am (ai (aI aa (by repeat' (exact cX)) (mz) rfl rfl) ?_))))
 refine ej rfl (ai (aI aa al (cI bltT 9 rfl ab t) rfl rfl) ?_)
 refine cE rfl (dw (fun hg6=> ?_) (fun hg6=> ?_))
 ·skip
  refine aK rfl rfl ah ?_
  refine aK rfl rfl ah ?_
  refine aK rfl rfl ah ?_
  refine ai (aB _ _ _ rfl bJ) (cu rfl (aj (aG (rJ rfl rfl ?_))))
  unfold wd
  (rw [decide_eq_true hg6];rfl)
 refine au rfl rfl (bh _ _ aa rfl ag (by (simp <;> rfl)) ah rfl) ?_
 refine au rfl rfl (aH _ xD) (au rfl rfl (aI aa al (cI Pc 19 rfl ab t) rfl rfl) ?_)
 refine ai (aB _ _ _ rfl bJ) (cu rfl (aj (aG (rJ rfl rfl ?_))))
 unfold wd
 (rw [decide_eq_false hg6];rfl)
theorem em {T:List Tk} {i:Nat} (h:i < T.length):bK T i < T.length:=by unfold bK;split <;> omega
abbrev ea (T:List Tk) (i:Nat) (N:List Tx):List (aC×Cells):=[((0,9), .box 222 [.sl T.length (tF T), .v (.int .i64 (i:Int)), .v (.int .i64 0), .v (.int .i64 0), .sl N.length (fo N)])]
theorem bQ (T:List Tk) (i:Nat) (N:List Tx) (hi:i < T.length):
  Spec Tryz.prog 160 (aY [.ptr (0,9) 0] (ea T i N)) (bc (.v (bt (dm T i).t)) (ea T i N) [(0,9)] [(0,9)]):=by
 refine Spec.ofNI Tryz.func160 rfl Tryz.ntmps160 rfl ?_
 refine am (oH rfl (aj (aq (bO 12 [3,4,5,6,7,8,9,10,11,12,13,2] [] ae ae rfl (aL rfl) (rfl:_=[_,_,_,_,_,_,_,_,_,_,_,_]) (rfl:_=[]) ?_))))
 refine ap (_,[]) (fun τ=> aH _ bX) ?_
 refine fP rfl ?_
 refine ap (_,[]) (fun τ=> aS _ rfl rfl) ?_
 refine fQ rfl ?_
 refine ap (_,[]) (fun τ=> aA _ aa rfl rfl rfl) ?_
 refine fU rfl ?_
 refine ap (_,[]) (fun τ=> aF _ aa rfl rfl eG) ?_
 refine fY rfl ?_
 refine ap (_,[]) (fun τ=> aH _ bX) ?_
 refine gz rfl ?_
 refine ap (_,[]) (fun τ=> aS _ rfl rfl) ?_
 refine gZ rfl ?_
 refine ap (_,[]) (fun τ=> aA _ aa rfl rfl rfl) ?_
 refine jg rfl ?_
 refine ap (_,[]) (fun τ=> aF _ aa rfl rfl ee) ?_
 refine ka rfl ?_
 refine ap (_,[]) (fun τ=> bn _ _ aa rfl rfl _ rfl ab (by (simp only [aO,bg,bj,bv,bu];omega)) ag) ?_
 refine kG rfl ?_
 refine ap (_,[]) (fun τ=> di _ aa rfl rfl) ?_
 refine fW rfl ?_
 refine ap (_,[]) (fun τ=> bT _ aa rfl (by exact nX _ _ ab) rfl) ?_
 refine gL rfl ?_
 refine ap (_,[]) (fun τ=> bp _ xD) ?_
 refine kP rfl (bm ⟨rfl,?_⟩)
 exact aj (aG (bI (.inr rfl) rfl (.tmp lb) (Le.outI [] [] .v rfl rfl rfl trivial ob tr rfl)))
theorem dU (T:List Tk) (i:Nat) (N:List Tx) (hi:i < T.length):
  Spec Tryz.prog 197 (aY [.ptr (0,9) 0] (ea T i N)) (bc (.v (.bool (eK T i))) (ea T i N) [(0,9)] [(0,9)]):=by
 refine Spec.ofNI Tryz.func197 rfl Tryz.ntmps197 rfl ?_
 refine am (cu rfl (aj (aq (bO 28 [3,4,5,6,7,8,9,10,11,12,13,14,15,16,17,18,19,20,21,22,23,24,25,26,27,28,29,2] [] ae ae rfl (aL rfl) (rfl:_=[_,_,_,_,_,_,_,_,_,_,_,_,_,_,_,_,_,_,_,_,_,_,_,_,_,_,_,_]) (rfl:_=[]) ?_))))
 refine ap (_,[]) (fun τ=> aH _ bX) ?_
 refine fP rfl ?_
 refine ap (_,[]) (fun τ=> aS _ rfl rfl) ?_
 refine fQ rfl ?_
 refine ap (_,[]) (fun τ=> aA _ aa rfl rfl rfl) ?_
 refine fU rfl ?_
 refine ap (_,[]) (fun τ=> aF _ aa rfl rfl eG) ?_
 refine fY rfl ?_
 refine ap (_,[]) (fun τ=> aH _ bX) ?_
 refine gz rfl ?_
 refine ap (_,[]) (fun τ=> aS _ rfl rfl) ?_
 refine gZ rfl ?_
 refine ap (_,[]) (fun τ=> aA _ aa rfl rfl rfl) ?_
 refine jg rfl ?_
 refine ap (_,[]) (fun τ=> aF _ aa rfl rfl ee) ?_
 refine ka rfl ?_
 refine ap (_,[]) (fun τ=> bn _ _ aa rfl rfl _ rfl ab (by (simp only [aO,bg,bj,bv,bu];omega)) ag) ?_
 refine kG rfl ?_
 refine ap (_,[]) (fun τ=> di _ aa rfl rfl) ?_
 refine fW rfl ?_
 refine ap (_,[]) (fun τ=> bT _ aa rfl (by exact pW _ _ ab) rfl) ?_
 refine gL rfl ?_
 refine ap (_,[]) (fun τ=> bC _ _ rfl rfl rfl) ?_
 refine kP rfl ?_
 refine ap (_,[]) (fun τ=> aH _ bJ) ?_
 refine oI (fun hg15=> ?_) (fun hg15=> ?_)
 ·skip
  have hr:eK T i= !wd (dm T i).t:=by unfold eK;rw [decide_eq_true ab];rfl
  refine mt rfl ?_
  refine bN (_,[]) rfl (fun τ=> rfl) (fun τ=> aH _ bX) ?_
  refine pw rfl ?_
  refine bN (_,[]) rfl (fun τ=> rfl) (fun τ=> aS _ rfl rfl) ?_
  refine vZ rfl ?_
  refine bN (_,[]) rfl (fun τ=> rfl) (fun τ=> aA _ aa rfl rfl rfl) ?_
  refine wJ rfl ?_
  refine bN (_,[]) rfl (fun τ=> rfl) (fun τ=> aF _ aa rfl rfl eG) ?_
  refine yf rfl ?_
  refine bN (_,[]) rfl (fun τ=> rfl) (fun τ=> aH _ bX) ?_
  refine zT rfl ?_
  refine bN (_,[]) rfl (fun τ=> rfl) (fun τ=> aS _ rfl rfl) ?_
  refine CN rfl ?_
  refine bN (_,[]) rfl (fun τ=> rfl) (fun τ=> aA _ aa rfl rfl rfl) ?_
  refine FV rfl ?_
  refine bN (_,[]) rfl (fun τ=> rfl) (fun τ=> aF _ aa rfl rfl ee) ?_
  refine FS rfl ?_
  refine bN (_,[]) rfl (fun τ=> rfl) (fun τ=> bn _ _ aa rfl rfl _ rfl ab (by (simp only [aO,bg,bj,bv,bu];omega)) ag) ?_
  refine FX rfl ?_
  refine bN (_,[]) rfl (fun τ=> rfl) (fun τ=> di _ aa rfl rfl) ?_
  refine FR rfl ?_
  refine bN (_,[]) rfl (fun τ=> rfl) (fun τ=> bT _ aa rfl (by exact nX _ _ ab) rfl) ?_
  refine Gh rfl ?_
  refine bN (_,[]) rfl (fun τ=> rfl) (fun τ=> (aI aa al (mA (dm T i).t) rfl rfl)) ?_
  refine Eb rfl ?_
  refine bN (_,[]) rfl (fun τ=> rfl) (fun τ=> cj _ rfl rfl) ?_
  refine DE rfl ?_
  refine ap (_,[]) (fun τ=> aB _ _ _ rfl bJ) ?_
  refine Fy rfl ?_
  refine ap (_,[]) (fun τ=> bp _ bJ) ?_
  refine DH rfl (bm ⟨rfl,?_⟩)
  exact aj (aG (bI (.inr rfl) rfl (.tmp bJ) (Le.outI [] [] (mw hr) rfl rfl rfl trivial ob tr rfl)))
 have hr:eK T i=false:=by unfold eK;rw [decide_eq_false ab];rfl
 refine mt rfl ?_
 refine cY rfl (fun τ=> rfl) ah ?_
 refine pw rfl ?_
 refine cY rfl (fun τ=> rfl) ah ?_
 refine vZ rfl ?_
 refine cY rfl (fun τ=> rfl) ah ?_
 refine wJ rfl ?_
 refine cY rfl (fun τ=> rfl) ah ?_
 refine yf rfl ?_
 refine cY rfl (fun τ=> rfl) ah ?_
 refine zT rfl ?_
 refine cY rfl (fun τ=> rfl) ah ?_
 refine CN rfl ?_
 refine cY rfl (fun τ=> rfl) ah ?_
 refine FV rfl ?_
 refine cY rfl (fun τ=> rfl) ah ?_
 refine FS rfl ?_
 refine cY rfl (fun τ=> rfl) ah ?_
 refine FX rfl ?_
 refine cY rfl (fun τ=> rfl) ah ?_
 refine FR rfl ?_
 refine cY rfl (fun τ=> rfl) ah ?_
 refine Gh rfl ?_
 refine cY rfl (fun τ=> rfl) ah ?_
 refine Eb rfl ?_
 refine cY rfl (fun τ=> rfl) ah ?_
 refine DE rfl ?_
 refine ap (_,[]) (fun τ=> aB _ _ _ rfl bJ) ?_
 refine Fy rfl ?_
 refine ap (_,[]) (fun τ=> bp _ bJ) ?_
 refine DH rfl (bm ⟨rfl,?_⟩)
 exact aj (aG (bI (.inr rfl) rfl (.tmp bJ) (Le.outI [] [] (mw hr) rfl rfl rfl trivial ob tr rfl)))
theorem cC (T:List Tk) (i:Nat) (N:List Tx) (hi:i < T.length) (hT:T.length≤100000):
  Spec Tryz.prog 196 (aY [.ptr (0,9) 0] (ea T i N)) (bc (.tup []) (ea T (bK T i) N) [(0,9)] [(0,9)]):=by
 refine Spec.ofNI Tryz.func196 rfl Tryz.ntmps196 rfl ?_
 refine aq (bO 11 [2,3,4,5,6,7,8,9,10,11,12] [] ae ae rfl (aL rfl) (rfl:_=[_,_,_,_,_,_,_,_,_,_,_]) (rfl:_=[]) ?_)
 refine ap (_,[]) (fun τ=> aH _ bX) ?_
 refine fP rfl ?_
 refine ap (_,[]) (fun τ=> aS _ rfl rfl) ?_
 refine fQ rfl ?_
 refine ap (_,[]) (fun τ=> aA _ aa rfl rfl rfl) ?_
 refine fU rfl ?_
 refine ap (_,[]) (fun τ=> aF _ aa rfl rfl ee) ?_
 refine fY rfl ?_
 refine ap (_,[]) (fun τ=> aZ _ _ rfl rfl (bD ab)) ?_
 refine gz rfl ?_
 refine ap (_,[]) (fun τ=> aH _ bX) ?_
 refine gZ rfl ?_
 refine ap (_,[]) (fun τ=> aS _ rfl rfl) ?_
 refine jg rfl ?_
 refine ap (_,[]) (fun τ=> aA _ aa rfl rfl rfl) ?_
 refine ka rfl ?_
 refine ap (_,[]) (fun τ=> aF _ aa rfl rfl eG) ?_
 refine kG rfl ?_
 refine ap (_,[]) (fun τ=> bo _ aa rfl) ?_
 refine fW rfl ?_
 refine ap (_,[]) (fun τ=> bl _ _ rfl rfl rfl) ?_
 refine gL rfl (bm ⟨rfl,?_⟩)
 refine aj (aR rfl (fun hc12=> ?_) (fun hc12=> ?_))
 ·skip
  have ht:bK T i=i+1:=by unfold bK;rw [if_pos ab]
  refine an (bR rfl (ai (aS _ rfl rfl) (bb rfl rfl rfl (cf rfl rfl rfl (ai (aZ _ _ rfl rfl (bD ab)) ?_)))))
  exact ai (aS _ rfl rfl) (bb rfl rfl rfl (bG rfl rfl rfl rfl rfl rfl (aJ (fB (.inl rfl) rfl (Le.outI [] [] (.tup rfl bf) rfl rfl rfl trivial ⟨⟨rfl,⟨_,rfl, .box rfl (ax .sl (ax (co (by rw [ht] <;> omega)) lz))⟩,rfl⟩,trivial⟩ tr rfl)))))
 have ht:bK T i=i:=by unfold bK;rw [if_neg ab]
 exact bs (fB (.inl rfl) rfl (Le.outI [] [] (.tup rfl bf) rfl rfl rfl trivial ⟨⟨rfl,⟨_,rfl, .box rfl (ax .sl (ax (co (by rw [ht] <;> omega)) lz))⟩,rfl⟩,trivial⟩ tr rfl))
theorem fS (T:List Tk) (i j:Nat) (N:List Tx) (s:Tx) (hi:i < T.length) (hT:T.length≤100000) (h:gR T s i=some j):
  Spec Tryz.prog 162 (aY [.ptr (0,9) 0, .v (bt s)] (ea T i N)) (bc (.tup []) (ea T j N) [(0,9)] [(0,9)]):=by
 have ⟨hs,hj⟩:(dm T i).t=s∧bK T i=j:=by
  unfold gR at h
  split at h
  ·exact ⟨by assumption,Option.some.inj h⟩
  cases h
 subst hs
 subst hj
 refine Spec.ofNI Tryz.func162 rfl Tryz.ntmps162 rfl ?_
 refine aq (am (bR rfl (ai (aS _ rfl rfl) (bb rfl rfl rfl (cf rfl rfl rfl (kf rfl rfl rfl (cE rfl (au rfl rfl (aH _ bX) (au rfl rfl (br aa _ _ ar (bQ T i N hi) tr rfl ae (by simp)) ?_)))))))))
 refine au rfl rfl (aH _ xD) (au rfl rfl (sN (r:=false) _ _ Tryz.underlying9 rfl rfl (by exact bne_self_eq_false _)) ?_)
 refine ai (aB _ _ _ rfl bJ) (aj (aW rfl rfl (aT (am (bR rfl (ai (aS _ rfl rfl) (bb rfl rfl rfl (cf rfl rfl rfl (kf rfl rfl rfl (aj ?_))))))))))
 refine bM rfl rfl ?_
 refine aM (σ':=aE 28 [(0,_)] [((0,9),_)] [(0,9)] [(0,9)]) kp ?_
 refine an (bR rfl (ai (bU (cC T i N hi hT)) ?_))
 exact aJ (fB (.inl rfl) rfl (Le.outI [] [] (.tup rfl bf) rfl rfl rfl trivial ob tr rfl))
theorem kR {T:List Tk} {s:Tx} {lv i j:Nat} (h:sf T s lv i=some j):lv≤20∧gR T s i=some j:=by
 unfold sf at h
 split at h
 ·cases h
 rename_i hn
 refine ⟨?_,h⟩
 unfold gR at h
 split at h
 ·rename_i ht
  exact Nat.le_of_not_lt fun hl=> hn ⟨ht,hl⟩
 cases h
theorem jN {T:List Tk} {s:Tx} {i j:Nat} (h:gR T s i=some j) (hi:i < T.length):j < T.length:=by
 unfold gR at h
 split at h
 ·rw [← Option.some.inj h];exact em hi
 cases h
theorem oN (T:List Tk) (i j:Nat) (N:List Tx) (s:Tx) (lv:Nat) (hi:i < T.length) (hT:T.length≤100000) (h:sf T s lv i=some j):
  Spec Tryz.prog 201 (aY [.ptr (0,9) 0, .v (bt s), .v (.int .i64 (lv:Int))] (ea T i N)) (bc (.tup []) (ea T j N) [(0,9)] [(0,9)]):=by
 obtain ⟨hl,he⟩:=kR h
 refine Spec.ofNI Tryz.func201 rfl Tryz.ntmps201 rfl ?_
 refine aq (am (bR rfl (ai (aS _ rfl rfl) (bb rfl rfl rfl (cf rfl rfl rfl (kf rfl rfl rfl (cE rfl (au rfl rfl (aH _ bX) (au rfl rfl (br aa _ _ ar (bQ T i N hi) tr rfl ae (by simp)) ?_)))))))))
 refine au rfl rfl (aH _ xD) (au rfl rfl (aV _ _ Tryz.underlying9 rfl rfl rfl) (ai (aB _ _ _ rfl bJ) (cE rfl (dw (fun hg17=> ?_) (fun hg17=> ?_)))))
 ·skip
  refine au rfl rfl (aH _ eg) (au rfl rfl (fM (r:=false) _ _ rfl rfl (decide_eq_false ab)) ?_)
  refine ai (aB _ _ _ rfl bJ) (aj (aW rfl rfl (aT ?_)))
  refine aM (σ':=aE 30 [(0,_),(1,_)] [((0,9),_)] [(0,9)] [(0,9)]) kp ?_
  refine an (bR rfl (ej rfl (ai (bU (fS T i j N s hi hT he)) ?_)))
  exact aJ (fB (.inl rfl) rfl (Le.outI [] [] (.tup rfl bf) rfl rfl rfl trivial ob tr rfl))
 refine aK rfl rfl ah ?_
 refine aK rfl rfl ah ?_
 refine ai (aB _ _ _ rfl bJ) (aj (aW rfl rfl (aT ?_)))
 refine aM (σ':=aE 30 [(0,_),(1,_)] [((0,9),_)] [(0,9)] [(0,9)]) kp ?_
 refine an (bR rfl (ej rfl (ai (bU (fS T i j N s hi hT he)) ?_)))
 exact aJ (fB (.inl rfl) rfl (Le.outI [] [] (.tup rfl bf) rfl rfl rfl trivial ob tr rfl))
theorem lW (T:List Tk) (i:Nat) (N:List Tx) (most:Nat) (hi:i < T.length) (hT:T.length≤100000) (hm:most≤1000) (r:Nat×Nat) (h:py T most i=some r):
  Spec Tryz.prog 200 (aY [.ptr (0,9) 0, .v (.int .i64 (most:Int))] (ea T i N)) (bc (.v (.int .i64 (r.1:Int))) (ea T r.2 N) [(0,9)] [(0,9)]):=by
 have ⟨h1,h2,h3⟩:(dm T i).k=2∧(dm T i).n≤most∧r=((dm T i).n,bK T i):=by
  unfold py at h
  split at h
  ·rename_i hx;exact ⟨hx.1,hx.2,(Option.some.inj h).symm⟩
  cases h
 subst h3
 refine Spec.ofNI Tryz.func200 rfl Tryz.ntmps200 rfl ?_
 refine am (be rfl (aj (aq (bO 11 [6,7,8,9,10,11,12,13,14,15,5] [(5,0)] ae ae rfl (aL rfl) (rfl:_=[_,_,_,_,_,_,_,_,_,_,_]) (rfl:_=[_]) ?_))))
 refine ap (_,[]) (fun τ=> aH _ bX) ?_
 refine fP rfl ?_
 refine ap (_,[]) (fun τ=> aS _ rfl rfl) ?_
 refine fQ rfl ?_
 refine ap (_,[]) (fun τ=> aA _ aa rfl rfl rfl) ?_
 refine fU rfl ?_
 refine ap (_,[]) (fun τ=> aF _ aa rfl rfl eG) ?_
 refine fY rfl ?_
 refine ap (_,[]) (fun τ=> aH _ bX) ?_
 refine gz rfl ?_
 refine ap (_,[]) (fun τ=> aS _ rfl rfl) ?_
 refine gZ rfl ?_
 refine ap (_,[]) (fun τ=> aA _ aa rfl rfl rfl) ?_
 refine jg rfl ?_
 refine ap (_,[]) (fun τ=> aF _ aa rfl rfl ee) ?_
 refine ka rfl ?_
 refine ap (_,[]) (fun τ=> bn _ _ aa rfl rfl _ rfl ab (by (simp only [aO,bg,bj,bv,bu];omega)) ag) ?_
 refine kG rfl ?_
 refine ap (_,[]) (fun τ=> cg _ aa rfl (by exact nD _ _ hi) rfl) ?_
 refine fW rfl ?_
 refine ap (_,[((5,0),_)]) (fun τ=> aD (5,0) aa rfl rfl) ?_
 refine gL rfl (bm ⟨rfl,?_⟩)
 refine bG rfl rfl rfl rfl rfl rfl (aj (aq (am (bb rfl rfl rfl (cf rfl rfl rfl (ai (bL _ _ rfl rfl rfl) (aj (aW rfl (by rw [h1];rfl) ?_))))))))
 refine aq ?_
 refine aM (σ':=aE 44 [(0,_),(1,_),(5,_)] [((0,9),_),((5,0),_)] [(0,9)] [(0,9)]) kp ?_
 refine an (bb rfl rfl rfl (cf rfl rfl rfl (aX rfl (ai (fM _ _ rfl rfl rfl) (aj (aW rfl (decide_eq_false ab) ?_))))))
 refine aT (aq (am (bR rfl (ai (aS _ rfl rfl) (bb rfl rfl rfl (cf rfl rfl rfl (ai (bL (r:=false) _ _ rfl rfl rfl) (aj (aW rfl rfl (aT ?_))))))))))
 refine am (bR rfl (ai (bU (cC T i N hi hT)) ?_))
 exact aj (am (bb rfl rfl rfl (cf rfl rfl rfl (be rfl (aj (aG (bI (.inr rfl) rfl (.tmp lb) (Le.outI [] [] .v rfl rfl rfl trivial ob tr rfl))))))))
abbrev ET (T:List Tk) (i:Nat) (N:List Tx):List (aC×Cells):=[((0,9), .box 222 [.sl T.length (tF T), .v (.int .i64 (i:Int)), .v (.int .i64 0), .v (.int .i64 0), .ref (1,9) 0 N.length]),((1,9), .row 9 1 (fo N))]
theorem ff (T:List Tk) (i:Nat) (N:List Tx) (hi:i < T.length):
  Spec Tryz.prog 160 (aY [.ptr (0,9) 0] (ET T i N)) (bc (.v (bt (dm T i).t)) (ET T i N) [(0,9),(1,9)] [(0,9),(1,9)]):=by
 refine Spec.ofNI Tryz.func160 rfl Tryz.ntmps160 rfl ?_
 refine am (oH rfl (aj (aq (bO 12 [3,4,5,6,7,8,9,10,11,12,13,2] [] ae ae rfl (aL rfl) (rfl:_=[_,_,_,_,_,_,_,_,_,_,_,_]) (rfl:_=[]) ?_))))
 refine ap (_,[]) (fun τ=> aH _ bX) ?_
 refine fP rfl ?_
 refine ap (_,[]) (fun τ=> aS _ rfl rfl) ?_
 refine fQ rfl ?_
 refine ap (_,[]) (fun τ=> aA _ aa rfl rfl rfl) ?_
 refine fU rfl ?_
 refine ap (_,[]) (fun τ=> aF _ aa rfl rfl eG) ?_
 refine fY rfl ?_
 refine ap (_,[]) (fun τ=> aH _ bX) ?_
 refine gz rfl ?_
 refine ap (_,[]) (fun τ=> aS _ rfl rfl) ?_
 refine gZ rfl ?_
 refine ap (_,[]) (fun τ=> aA _ aa rfl rfl rfl) ?_
 refine jg rfl ?_
 refine ap (_,[]) (fun τ=> aF _ aa rfl rfl ee) ?_
 refine ka rfl ?_
 refine ap (_,[]) (fun τ=> bn _ _ aa rfl rfl _ rfl ab (by (simp only [aO,bg,bj,bv,bu];omega)) ag) ?_
 refine kG rfl ?_
 refine ap (_,[]) (fun τ=> di _ aa rfl rfl) ?_
 refine fW rfl ?_
 refine ap (_,[]) (fun τ=> bT _ aa rfl (by exact nX _ _ ab) rfl) ?_
 refine gL rfl ?_
 refine ap (_,[]) (fun τ=> bp _ xD) ?_
 refine kP rfl (bm ⟨rfl,?_⟩)
 exact aj (aG (bI (.inr rfl) rfl (.tmp lb) (Le.outI [] [] .v rfl rfl rfl trivial ob tr rfl)))
theorem ww (T:List Tk) (i:Nat) (N:List Tx) (hi:i < T.length):
  Spec Tryz.prog 197 (aY [.ptr (0,9) 0] (ET T i N)) (bc (.v (.bool (eK T i))) (ET T i N) [(0,9),(1,9)] [(0,9),(1,9)]):=by
 refine Spec.ofNI Tryz.func197 rfl Tryz.ntmps197 rfl ?_
 refine am (cu rfl (aj (aq (bO 28 [3,4,5,6,7,8,9,10,11,12,13,14,15,16,17,18,19,20,21,22,23,24,25,26,27,28,29,2] [] ae ae rfl (aL rfl) (rfl:_=[_,_,_,_,_,_,_,_,_,_,_,_,_,_,_,_,_,_,_,_,_,_,_,_,_,_,_,_]) (rfl:_=[]) ?_))))
 refine ap (_,[]) (fun τ=> aH _ bX) ?_
 refine fP rfl ?_
 refine ap (_,[]) (fun τ=> aS _ rfl rfl) ?_
 refine fQ rfl ?_
 refine ap (_,[]) (fun τ=> aA _ aa rfl rfl rfl) ?_
 refine fU rfl ?_
 refine ap (_,[]) (fun τ=> aF _ aa rfl rfl eG) ?_
 refine fY rfl ?_
 refine ap (_,[]) (fun τ=> aH _ bX) ?_
 refine gz rfl ?_
 refine ap (_,[]) (fun τ=> aS _ rfl rfl) ?_
 refine gZ rfl ?_
 refine ap (_,[]) (fun τ=> aA _ aa rfl rfl rfl) ?_
 refine jg rfl ?_
 refine ap (_,[]) (fun τ=> aF _ aa rfl rfl ee) ?_
 refine ka rfl ?_
 refine ap (_,[]) (fun τ=> bn _ _ aa rfl rfl _ rfl ab (by (simp only [aO,bg,bj,bv,bu];omega)) ag) ?_
 refine kG rfl ?_
 refine ap (_,[]) (fun τ=> di _ aa rfl rfl) ?_
 refine fW rfl ?_
 refine ap (_,[]) (fun τ=> bT _ aa rfl (by exact pW _ _ ab) rfl) ?_
 refine gL rfl ?_
 refine ap (_,[]) (fun τ=> bC _ _ rfl rfl rfl) ?_
 refine kP rfl ?_
 refine ap (_,[]) (fun τ=> aH _ bJ) ?_
 refine oI (fun hg15=> ?_) (fun hg15=> ?_)
 ·skip
  have hr:eK T i= !wd (dm T i).t:=by unfold eK;rw [decide_eq_true ab];rfl
  refine mt rfl ?_
  refine bN (_,[]) rfl (fun τ=> rfl) (fun τ=> aH _ bX) ?_
  refine pw rfl ?_
  refine bN (_,[]) rfl (fun τ=> rfl) (fun τ=> aS _ rfl rfl) ?_
  refine vZ rfl ?_
  refine bN (_,[]) rfl (fun τ=> rfl) (fun τ=> aA _ aa rfl rfl rfl) ?_
  refine wJ rfl ?_
  refine bN (_,[]) rfl (fun τ=> rfl) (fun τ=> aF _ aa rfl rfl eG) ?_
  refine yf rfl ?_
  refine bN (_,[]) rfl (fun τ=> rfl) (fun τ=> aH _ bX) ?_
  refine zT rfl ?_
  refine bN (_,[]) rfl (fun τ=> rfl) (fun τ=> aS _ rfl rfl) ?_
  refine CN rfl ?_
  refine bN (_,[]) rfl (fun τ=> rfl) (fun τ=> aA _ aa rfl rfl rfl) ?_
  refine FV rfl ?_
  refine bN (_,[]) rfl (fun τ=> rfl) (fun τ=> aF _ aa rfl rfl ee) ?_
  refine FS rfl ?_
  refine bN (_,[]) rfl (fun τ=> rfl) (fun τ=> bn _ _ aa rfl rfl _ rfl ab (by (simp only [aO,bg,bj,bv,bu];omega)) ag) ?_
  refine FX rfl ?_
  refine bN (_,[]) rfl (fun τ=> rfl) (fun τ=> di _ aa rfl rfl) ?_
  refine FR rfl ?_
  refine bN (_,[]) rfl (fun τ=> rfl) (fun τ=> bT _ aa rfl (by exact nX _ _ ab) rfl) ?_
  refine Gh rfl ?_
  refine bN (_,[]) rfl (fun τ=> rfl) (fun τ=> (aI aa al (mA (dm T i).t) rfl rfl)) ?_
  refine Eb rfl ?_
  refine bN (_,[]) rfl (fun τ=> rfl) (fun τ=> cj _ rfl rfl) ?_
  refine DE rfl ?_
  refine ap (_,[]) (fun τ=> aB _ _ _ rfl bJ) ?_
  refine Fy rfl ?_
  refine ap (_,[]) (fun τ=> bp _ bJ) ?_
  refine DH rfl (bm ⟨rfl,?_⟩)
  exact aj (aG (bI (.inr rfl) rfl (.tmp bJ) (Le.outI [] [] (mw hr) rfl rfl rfl trivial ob tr rfl)))
 have hr:eK T i=false:=by unfold eK;rw [decide_eq_false ab];rfl
 refine mt rfl ?_
 refine cY rfl (fun τ=> rfl) ah ?_
 refine pw rfl ?_
 refine cY rfl (fun τ=> rfl) ah ?_
 refine vZ rfl ?_
 refine cY rfl (fun τ=> rfl) ah ?_
 refine wJ rfl ?_
 refine cY rfl (fun τ=> rfl) ah ?_
 refine yf rfl ?_
 refine cY rfl (fun τ=> rfl) ah ?_
 refine zT rfl ?_
 refine cY rfl (fun τ=> rfl) ah ?_
 refine CN rfl ?_
 refine cY rfl (fun τ=> rfl) ah ?_
 refine FV rfl ?_
 refine cY rfl (fun τ=> rfl) ah ?_
 refine FS rfl ?_
 refine cY rfl (fun τ=> rfl) ah ?_
 refine FX rfl ?_
 refine cY rfl (fun τ=> rfl) ah ?_
 refine FR rfl ?_
 refine cY rfl (fun τ=> rfl) ah ?_
 refine Gh rfl ?_
 refine cY rfl (fun τ=> rfl) ah ?_
 refine Eb rfl ?_
 refine cY rfl (fun τ=> rfl) ah ?_
 refine DE rfl ?_
 refine ap (_,[]) (fun τ=> aB _ _ _ rfl bJ) ?_
 refine Fy rfl ?_
 refine ap (_,[]) (fun τ=> bp _ bJ) ?_
 refine DH rfl (bm ⟨rfl,?_⟩)
 exact aj (aG (bI (.inr rfl) rfl (.tmp bJ) (Le.outI [] [] (mw hr) rfl rfl rfl trivial ob tr rfl)))
theorem kY (T:List Tk) (i:Nat) (N:List Tx) (hi:i < T.length) (hT:T.length≤100000):
  Spec Tryz.prog 196 (aY [.ptr (0,9) 0] (ET T i N)) (bc (.tup []) (ET T (bK T i) N) [(0,9),(1,9)] [(0,9),(1,9)]):=by
 refine Spec.ofNI Tryz.func196 rfl Tryz.ntmps196 rfl ?_
 refine aq (bO 11 [2,3,4,5,6,7,8,9,10,11,12] [] ae ae rfl (aL rfl) (rfl:_=[_,_,_,_,_,_,_,_,_,_,_]) (rfl:_=[]) ?_)
 refine ap (_,[]) (fun τ=> aH _ bX) ?_
 refine fP rfl ?_
 refine ap (_,[]) (fun τ=> aS _ rfl rfl) ?_
 refine fQ rfl ?_
 refine ap (_,[]) (fun τ=> aA _ aa rfl rfl rfl) ?_
 refine fU rfl ?_
 refine ap (_,[]) (fun τ=> aF _ aa rfl rfl ee) ?_
 refine fY rfl ?_
 refine ap (_,[]) (fun τ=> aZ _ _ rfl rfl (bD ab)) ?_
 refine gz rfl ?_
 refine ap (_,[]) (fun τ=> aH _ bX) ?_
 refine gZ rfl ?_
 refine ap (_,[]) (fun τ=> aS _ rfl rfl) ?_
 refine jg rfl ?_
 refine ap (_,[]) (fun τ=> aA _ aa rfl rfl rfl) ?_
 refine ka rfl ?_
 refine ap (_,[]) (fun τ=> aF _ aa rfl rfl eG) ?_
 refine kG rfl ?_
 refine ap (_,[]) (fun τ=> bo _ aa rfl) ?_
 refine fW rfl ?_
 refine ap (_,[]) (fun τ=> bl _ _ rfl rfl rfl) ?_
 refine gL rfl (bm ⟨rfl,?_⟩)
 refine aj (aR rfl (fun hc12=> ?_) (fun hc12=> ?_))
 ·skip
  have ht:bK T i=i+1:=by unfold bK;rw [if_pos ab]
  refine an (bR rfl (ai (aS _ rfl rfl) (bb rfl rfl rfl (cf rfl rfl rfl (ai (aZ _ _ rfl rfl (bD ab)) ?_)))))
  exact ai (aS _ rfl rfl) (bb rfl rfl rfl (bG rfl rfl rfl rfl rfl rfl (aJ (fB (.inl rfl) rfl (Le.outI [] [] (.tup rfl bf) rfl rfl rfl trivial ⟨⟨rfl,⟨_,rfl, .box rfl (ax .sl (ax (co (by rw [ht] <;> omega)) lz))⟩,rfl⟩,⟨rfl,⟨_,rfl, .rowE rfl⟩,rfl⟩,trivial⟩ tr rfl)))))
 have ht:bK T i=i:=by unfold bK;rw [if_neg ab]
 exact bs (fB (.inl rfl) rfl (Le.outI [] [] (.tup rfl bf) rfl rfl rfl trivial ⟨⟨rfl,⟨_,rfl, .box rfl (ax .sl (ax (co (by rw [ht] <;> omega)) lz))⟩,rfl⟩,⟨rfl,⟨_,rfl, .rowE rfl⟩,rfl⟩,trivial⟩ tr rfl))
theorem th (T:List Tk) (i j:Nat) (N:List Tx) (s:Tx) (hi:i < T.length) (hT:T.length≤100000) (h:gR T s i=some j):
  Spec Tryz.prog 162 (aY [.ptr (0,9) 0, .v (bt s)] (ET T i N)) (bc (.tup []) (ET T j N) [(0,9),(1,9)] [(0,9),(1,9)]):=by
 have ⟨hs,hj⟩:(dm T i).t=s∧bK T i=j:=by
  unfold gR at h
  split at h
  ·exact ⟨by assumption,Option.some.inj h⟩
  cases h
 subst hs
 subst hj
 refine Spec.ofNI Tryz.func162 rfl Tryz.ntmps162 rfl ?_
 refine aq (am (bR rfl (ai (aS _ rfl rfl) (bb rfl rfl rfl (cf rfl rfl rfl (kf rfl rfl rfl (cE rfl (au rfl rfl (aH _ bX) (au rfl rfl (br aa _ _ ar (ff T i N hi) tr rfl ae (by simp)) ?_)))))))))
 refine au rfl rfl (aH _ xD) (au rfl rfl (sN (r:=false) _ _ Tryz.underlying9 rfl rfl (by exact bne_self_eq_false _)) ?_)
 refine ai (aB _ _ _ rfl bJ) (aj (aW rfl rfl (aT (am (bR rfl (ai (aS _ rfl rfl) (bb rfl rfl rfl (cf rfl rfl rfl (kf rfl rfl rfl (aj ?_))))))))))
 refine bM rfl rfl ?_
 refine aM (σ':=aE 28 [(0,_)] [((0,9),_),((1,9),_)] [(0,9),(1,9)] [(0,9),(1,9)]) kp ?_
 refine an (bR rfl (ai (dY aa [] ar (kY T i N hi hT) ob tr ae) ?_))
 exact aJ (fB (.inl rfl) rfl (Le.outI [] [] (.tup rfl bf) rfl rfl rfl trivial ob tr rfl))

abbrev pA (d:Nd):AV:= .agg [.v (.int .i64 (d.k:Int)), .v (.int .i64 (d.n:Int)), .v (bt d.s), .sl d.kn d.kids]
abbrev PO (T:List Tk) (N:List Tx) (r:Nd×Nat):St:=bc (pA r.1) (ea T r.2 N) [(0,9)] [(0,9)]
structure PE (T:List Tk) (N:List Tx) (f:Nat):Prop where
 expr: ∀ lv pr i r,lv≤20→1≤pr∧pr≤7→i < T.length→gO T f lv pr i=some r→r.2 < T.length∧Spec Tryz.prog 226 (aY [.ptr (0,9) 0, .v (.int .i64 (lv:Int)), .v (.int .i64 (pr:Int))] (ea T i N)) (PO T N r)
 un: ∀ s lv pr i r,lv≤20→1≤pr∧pr≤7→i < T.length→IU T f s lv pr i=some r→r.2 < T.length∧Spec Tryz.prog 235 (aY [.ptr (0,9) 0, .v (bt s), .v (.int .i64 (lv:Int)), .v (.int .i64 (pr:Int))] (ea T i N)) (PO T N r)
 bin: ∀ lv pr i r,lv≤20→(1≤pr∧pr≤6∧pr≠3)→i < T.length→yW T f lv pr i=some r→r.2 < T.length∧Spec Tryz.prog 236 (aY [.ptr (0,9) 0, .v (.int .i64 (lv:Int)), .v (.int .i64 (pr:Int))] (ea T i N)) (PO T N r)
 nest: ∀ lv i r,lv≤20→i < T.length→rU T f lv i=some r→r.2 < T.length∧Spec Tryz.prog 240 (aY [.ptr (0,9) 0, .v (.int .i64 (lv:Int))] (ea T i N)) (PO T N r)
 prim: ∀ lv i r,lv≤20→i < T.length→vw T f lv i=some r→r.2 < T.length∧Spec Tryz.prog 237 (aY [.ptr (0,9) 0, .v (.int .i64 (lv:Int))] (ea T i N)) (PO T N r)
section
variable {T:List Tk} {N:List Tx}
theorem yj (f:Nat) (ih:PE T N f) (lv pr i:Nat) (r:Nd×Nat) (hl:lv≤20) (hp:1≤pr∧pr≤7) (hi:i < T.length) (h:gO T (f+1) lv pr i=some r):
  r.2 < T.length∧Spec Tryz.prog 226 (aY [.ptr (0,9) 0, .v (.int .i64 (lv:Int)), .v (.int .i64 (pr:Int))] (ea T i N)) (PO T N r):=by
 unfold gO at h
 by_cases h1:pr=3∧(dm T i).t=[33]
 ·rw [if_pos h1] at h
  obtain ⟨ha,hb⟩:=ih.un _ _ _ _ _ hl ab hi h
  refine ⟨ha,?_⟩
  obtain ⟨rfl,h1⟩:=h1
  refine Spec.ofNI Tryz.func226 rfl Tryz.ntmps226 rfl ?_
  refine am (ai (aD (6,0) aa rfl rfl) (aj (aq (am (bR rfl (ai (aS _ rfl rfl) (bb rfl rfl rfl (cf rfl rfl rfl (ai (bL (r:=false) _ _ rfl rfl rfl) (aj ?_))))))))))
  refine aW rfl rfl (aT (am (bR rfl (ai (br aa _ _ ar (bQ T i N hi) tr rfl ae (by simp)) ?_))))
  refine oH rfl (aj (aq (am (aX rfl (kf rfl rfl rfl (cE rfl (au rfl rfl (aH _ xD) (au rfl rfl (aV (r:=true) _ _ Tryz.underlying9 rfl rfl (by rw [h1];rfl)) ?_))))))))
  refine ai (aB _ _ _ rfl bJ) (aj (bM rfl rfl (aq ?_)))
  refine aM (σ':=aE 50 [(0,_),(1,_),(6,_),(7,_)] [((0,9),_),((6,0),_)] [(0,9)] [(0,9)]) kp ?_
  exact an (bR rfl (ej rfl (aX rfl (ai (bU (hb)) (bG rfl rfl rfl rfl rfl rfl (aj (aG (bI (.inr rfl) rfl (.cellA aa rfl rfl rfl) (Le.outI [] [] (.agg rfl lz) rfl rfl rfl trivial ob tr rfl)))))))))
 rw [if_neg h1] at h
 by_cases h2:pr=3
 ·rw [if_pos h2] at h
  obtain ⟨ha,hb⟩:=ih.bin _ _ _ _ hl ab hi h
  refine ⟨ha,?_⟩
  subst h2
  have h1:(dm T i).t≠[33]:=fun e=> h1 ⟨rfl,e⟩
  refine Spec.ofNI Tryz.func226 rfl Tryz.ntmps226 rfl ?_
  refine am (ai (aD (6,0) aa rfl rfl) (aj (aq (am (bR rfl (ai (aS _ rfl rfl) (bb rfl rfl rfl (cf rfl rfl rfl (ai (bL (r:=false) _ _ rfl rfl rfl) (aj ?_))))))))))
  refine aW rfl rfl (aT (am (bR rfl (ai (br aa _ _ ar (bQ T i N hi) tr rfl ae (by simp)) ?_))))
  refine oH rfl (aj (aq (am (aX rfl (kf rfl rfl rfl (cE rfl (au rfl rfl (aH _ xD) (au rfl rfl (aV (r:=false) _ _ Tryz.underlying9 rfl rfl (beq_eq_false_iff_ne.2 h1)) ?_))))))))
  refine ai (aB _ _ _ rfl bJ) (aj (aW rfl rfl (aT (aq (aq ?_)))))
  refine aM (σ':=aE 50 [(0,_),(1,_),(2,_),(6,_),(7,_)] [((0,9),_),((6,0),_)] [(0,9)] [(0,9)]) kp ?_
  refine an (aX rfl (kf rfl rfl rfl (aj (bM rfl rfl (am (bR rfl (aX rfl (ai (bU (hb)) (bG rfl rfl rfl rfl rfl rfl (aj ?_))))))))))
  exact aG (bI (.inr rfl) rfl (.cellA aa rfl rfl rfl) (Le.outI [] [] (.agg rfl lz) rfl rfl rfl trivial ob tr rfl))
 rw [if_neg h2] at h
 by_cases h3:pr=7∧(dm T i).t=[45]
 ·rw [if_pos h3] at h
  obtain ⟨ha,hb⟩:=ih.un _ _ _ _ _ hl ab hi h
  refine ⟨ha,?_⟩
  obtain ⟨rfl,h3⟩:=h3
  refine Spec.ofNI Tryz.func226 rfl Tryz.ntmps226 rfl ?_
  refine am (ai (aD (6,0) aa rfl rfl) (aj (aq (am (bR rfl (ai (aS _ rfl rfl) (bb rfl rfl rfl (cf rfl rfl rfl (ai (bL (r:=false) _ _ rfl rfl rfl) (aj ?_))))))))))
  refine aW rfl rfl (aT (am (bR rfl (ai (br aa _ _ ar (bQ T i N hi) tr rfl ae (by simp)) ?_))))
  refine oH rfl (aj (aq (am (aX rfl (gM rfl rfl rfl (cE rfl (aK rfl rfl ah ?_)))))))
  refine aK rfl rfl ah ?_
  refine ai (aB _ _ _ rfl bJ) (aj (aW rfl rfl (aT (aq (aq ?_)))))
  refine aM (σ':=aE 50 [(0,_),(1,_),(2,_),(6,_),(7,_)] [((0,9),_),((6,0),_)] [(0,9)] [(0,9)]) kp ?_
  refine an (aX rfl (gM rfl rfl rfl (aj (aW rfl rfl (aT (aq (am (aX rfl (kf rfl rfl rfl (cE rfl ?_))))))))))
  refine au rfl rfl (aH _ xD) (au rfl rfl (aV (r:=true) _ _ Tryz.underlying9 rfl rfl (by rw [h3];rfl)) ?_)
  refine ai (aB _ _ _ rfl bJ) (aj (bM rfl rfl (am (bR rfl (ej rfl (aX rfl (ai (bU (hb)) (bG rfl rfl rfl rfl rfl rfl (aj (aG ?_))))))))))
  exact bI (.inr rfl) rfl (.cellA aa rfl rfl rfl) (Le.outI [] [] (.agg rfl lz) rfl rfl rfl trivial ob tr rfl)
 rw [if_neg h3] at h
 by_cases h4:pr=7
 ·rw [if_pos h4] at h
  obtain ⟨ha,hb⟩:=ih.prim _ _ _ hl hi h
  refine ⟨ha,?_⟩
  subst h4
  have h3:(dm T i).t≠[45]:=fun e=> h3 ⟨rfl,e⟩
  refine Spec.ofNI Tryz.func226 rfl Tryz.ntmps226 rfl ?_
  refine am (ai (aD (6,0) aa rfl rfl) (aj (aq (am (bR rfl (ai (aS _ rfl rfl) (bb rfl rfl rfl (cf rfl rfl rfl (ai (bL (r:=false) _ _ rfl rfl rfl) (aj ?_))))))))))
  refine aW rfl rfl (aT (am (bR rfl (ai (br aa _ _ ar (bQ T i N hi) tr rfl ae (by simp)) ?_))))
  refine oH rfl (aj (aq (am (aX rfl (gM rfl rfl rfl (cE rfl (aK rfl rfl ah ?_)))))))
  refine aK rfl rfl ah ?_
  refine ai (aB _ _ _ rfl bJ) (aj (aW rfl rfl (aT (aq (aq ?_)))))
  refine aM (σ':=aE 50 [(0,_),(1,_),(2,_),(6,_),(7,_)] [((0,9),_),((6,0),_)] [(0,9)] [(0,9)]) kp ?_
  refine an (aX rfl (gM rfl rfl rfl (aj (aW rfl rfl (aT (aq (am (aX rfl (kf rfl rfl rfl (cE rfl ?_))))))))))
  refine au rfl rfl (aH _ xD) (au rfl rfl (aV (r:=false) _ _ Tryz.underlying9 rfl rfl (beq_eq_false_iff_ne.2 h3)) ?_)
  refine ai (aB _ _ _ rfl bJ) (aj (aW rfl rfl (aT (aq (am (aX rfl (kf rfl rfl rfl (aj (bM rfl rfl (aU fun K13 hK13=> ?_))))))))))
  refine an (bR rfl (aX rfl (ai (bU (hb)) (bG rfl rfl rfl rfl rfl rfl (aJ (hK13 _ ?_))))))
  clear hK13;try clear K13
  exact aG (bI (.inr rfl) rfl (.cellA aa rfl rfl rfl) (Le.outI [] [] (.agg rfl lz) rfl rfl rfl trivial ob tr rfl))
 rw [if_neg h4] at h
 obtain ⟨ha,hb⟩:=ih.bin _ _ _ _ hl ab hi h
 refine ⟨ha,?_⟩
 refine Spec.ofNI Tryz.func226 rfl Tryz.ntmps226 rfl ?_
 refine am (ai (aD (6,0) aa rfl rfl) (aj (aq (am (bR rfl (ai (aS _ rfl rfl) (bb rfl rfl rfl (cf rfl rfl rfl (ai (bL (r:=false) _ _ rfl rfl rfl) (aj ?_))))))))))
 refine aW rfl rfl (aT (am (bR rfl (ai (br aa _ _ ar (bQ T i N hi) tr rfl ae (by simp)) ?_))))
 refine oH rfl (aj (aq (am (aX rfl (gM rfl rfl (beq_eq_false_iff_ne.2 ab) ?_)))))
 refine cE rfl (aK rfl rfl ah ?_)
 refine aK rfl rfl ah ?_
 refine ai (aB _ _ _ rfl bJ) (aj (aW rfl rfl (aT (aq (aq ?_)))))
 refine aM (σ':=aE 50 [(0,_),(1,_),(2,_),(6,_),(7,_)] [((0,9),_),((6,0),_)] [(0,9)] [(0,9)]) kp ?_
 refine an (aX rfl (gM rfl rfl (beq_eq_false_iff_ne.2 ab) ?_))
 refine aj (aW rfl rfl (aT (aq (am (aX rfl (gM rfl rfl (beq_eq_false_iff_ne.2 ab) ?_))))))
 refine cE rfl (aK rfl rfl ah ?_)
 refine aK rfl rfl ah ?_
 refine ai (aB _ _ _ rfl bJ) (aj (aW rfl rfl (aT (aq (am (aX rfl (gM rfl rfl (beq_eq_false_iff_ne.2 ab) ?_)))))))
 refine aj (aW rfl rfl (aT (aU fun K13 hK13=> ?_)))
 refine an (bR rfl (aX rfl (aX rfl (ai (bU (hb)) (bG rfl rfl rfl rfl rfl rfl (aJ (hK13 _ ?_)))))))
 clear hK13;try clear K13
 exact aG (bI (.inr rfl) rfl (.cellA aa rfl rfl rfl) (Le.outI [] [] (.agg rfl lz) rfl rfl rfl trivial ob tr rfl))
theorem Gf (hT:T.length≤100000) (f:Nat) (ih:PE T N f) (s:Tx) (lv pr i:Nat) (r:Nd×Nat) (hl:lv≤20) (hp:1≤pr∧pr≤7) (hi:i < T.length) (h:IU T (f+1) s lv pr i=some r):
  r.2 < T.length∧Spec Tryz.prog 235 (aY [.ptr (0,9) 0, .v (bt s), .v (.int .i64 (lv:Int)), .v (.int .i64 (pr:Int))] (ea T i N)) (PO T N r):=by
 unfold IU at h
 simp only [Option.bind_eq_bind,Option.bind_eq_some_iff,Option.pure_def,Option.some.injEq] at h
 obtain ⟨j,hj,⟨d,j2⟩,hd,rfl⟩:=h
 have ho:=kR hj
 have hjl:=jN ho.2 hi
 obtain ⟨ha,hb⟩:=ih.expr _ _ _ _ ho.1 hp hjl hd
 have hopen:=oN T i j N s (lv+1) hi hT hj
 refine ⟨ha,?_⟩
 refine Spec.ofNI Tryz.func235 rfl Tryz.ntmps235 rfl ?_
 refine am (ai (aD (8,0) aa rfl rfl) (aj (am (bR rfl (ej rfl (aX rfl (ai (aZ _ _ rfl rfl (bD ab)) ?_)))))))
 refine ai (bU (hopen)) (aj (aU fun K3 hK3=> ?_))
 refine an (bR rfl (aX rfl (ai (aZ _ _ rfl rfl (bD ab)) ?_)))
 refine aX rfl (ai (bU (hb)) (ai (aD (9,0) aa rfl rfl) (bG rfl rfl rfl rfl rfl rfl (aJ (hK3 _ ?_)))))
 clear hK3;try clear K3
 refine am (ej rfl (ai (az _ aa rfl rfl rfl rfl) (ai (bh _ _ aa rfl ag (by (simp <;> rfl)) ah rfl) ?_)))
 refine ai (aN _ aa rfl (by exact kK)) ?_
 exact bG rfl rfl rfl rfl rfl rfl (aj (aG (bI (.inr rfl) rfl (.cellA aa rfl rfl rfl) (Le.outI [] [] (.agg rfl lz) rfl rfl rfl trivial ob tr rfl))))
theorem xL (hT:T.length≤100000) (f:Nat) (ih:PE T N f) (lv i:Nat) (r:Nd×Nat) (hl:lv≤20) (hi:i < T.length) (h:rU T (f+1) lv i=some r):
  r.2 < T.length∧Spec Tryz.prog 240 (aY [.ptr (0,9) 0, .v (.int .i64 (lv:Int))] (ea T i N)) (PO T N r):=by
 unfold rU at h
 simp only [Option.bind_eq_bind,Option.bind_eq_some_iff,Option.pure_def,Option.some.injEq] at h
 obtain ⟨j,hj,⟨d,j2⟩,hd,j3,hj3,rfl⟩:=h
 have ho:=kR hj
 have hjl:=jN ho.2 hi
 obtain ⟨ha,hb⟩:=ih.expr _ _ _ _ ho.1 ab hjl hd
 have hopen:=oN T i j N [40] (lv+1) hi hT hj
 have hexp:=fS T j2 j3 N [41] ha hT hj3
 refine ⟨jN hj3 ha,?_⟩
 refine Spec.ofNI Tryz.func240 rfl Tryz.ntmps240 rfl ?_
 refine am (ai (aD (4,0) aa rfl rfl) (aj (am (bR rfl (aX rfl (ai (aZ _ _ rfl rfl (bD ab)) ?_))))))
 refine ai (bU (hopen)) (aj (aU fun K3 hK3=> ?_))
 refine an (bR rfl (aX rfl (ai (aZ _ _ rfl rfl (bD ab)) ?_)))
 refine ai (bU (hb)) (ai (aD (5,0) aa rfl rfl) (bG rfl rfl rfl rfl rfl rfl (aJ (hK3 _ ?_))))
 clear hK3;try clear K3
 refine aU fun K4 hK4=> ?_
 refine an (bR rfl (ai (bU (hexp)) (aJ (hK4 _ ?_))))
 clear hK4;try clear K4
 exact am (ai (az _ aa rfl rfl rfl rfl) (bG rfl rfl rfl rfl rfl rfl (aj (aG (bI (.inr rfl) rfl (.cellA aa rfl rfl rfl) (Le.outI [] [] (.agg rfl lz) rfl rfl rfl trivial ob tr rfl))))))
theorem yx (hT:T.length≤100000) (f:Nat) (ih:PE T N f) (lv i:Nat) (r:Nd×Nat) (hl:lv≤20) (hi:i < T.length) (h:vw T (f+1) lv i=some r):
  r.2 < T.length∧Spec Tryz.prog 237 (aY [.ptr (0,9) 0, .v (.int .i64 (lv:Int))] (ea T i N)) (PO T N r):=by
 have htl:=em hi
 have htake:=cC T i N hi hT
 unfold vw at h
 simp only at h
 by_cases h1:(dm T i).t=[40]
 ·rw [if_pos h1] at h
  obtain ⟨ha,hb⟩:=ih.nest _ _ _ hl hi h
  refine ⟨ha,?_⟩
  refine Spec.ofNI Tryz.func237 rfl Tryz.ntmps237 rfl ?_
  refine am (ai (aD (4,0) aa rfl rfl) (aj (aq (bO 11 [8,9,10,11,12,13,14,15,16,17,5] [(5,0)] ae ae rfl (aL rfl) (rfl:_=[_,_,_,_,_,_,_,_,_,_,_]) (rfl:_=[_]) ?_))))
  refine ap (_,[]) (fun τ=> aH _ bX) ?_
  refine fP rfl ?_
  refine ap (_,[]) (fun τ=> aS _ rfl rfl) ?_
  refine fQ rfl ?_
  refine ap (_,[]) (fun τ=> aA _ aa rfl rfl rfl) ?_
  refine fU rfl ?_
  refine ap (_,[]) (fun τ=> aF _ aa rfl rfl eG) ?_
  refine fY rfl ?_
  refine ap (_,[]) (fun τ=> aH _ bX) ?_
  refine gz rfl ?_
  refine ap (_,[]) (fun τ=> aS _ rfl rfl) ?_
  refine gZ rfl ?_
  refine ap (_,[]) (fun τ=> aA _ aa rfl rfl rfl) ?_
  refine jg rfl ?_
  refine ap (_,[]) (fun τ=> aF _ aa rfl rfl ee) ?_
  refine ka rfl ?_
  refine ap (_,[]) (fun τ=> bn _ _ aa rfl rfl _ rfl ab (by (simp only [aO,bg,bj,bv,bu];omega)) ag) ?_
  refine kG rfl ?_
  refine ap (_,[]) (fun τ=> cg _ aa rfl (by exact nD _ _ hi) rfl) ?_
  refine fW rfl ?_
  refine ap (_,[((5,0),_)]) (fun τ=> aD (5,0) aa rfl rfl) ?_
  refine gL rfl (bm ⟨rfl,?_⟩)
  refine bG rfl rfl rfl rfl rfl rfl (aj (aq (am (bb rfl rfl rfl (ai (aF _ aa rfl rfl fA) (ai (aV (r:=true) _ _ Tryz.underlying9 rfl rfl (by rw [h1];rfl)) ?_))))))
  refine aj (bM rfl rfl (aq ?_))
  refine aM (σ':=aE 72 [(0,_),(1,_),(4,_)] [((0,9),_),((4,0),_)] [(0,9)] [(0,9)]) kp ?_
  exact an (bR rfl (aX rfl (ai (bU (hb)) (bG rfl rfl rfl rfl rfl rfl (aj (aG (bI (.inr rfl) rfl (.cellA aa rfl rfl rfl) (Le.outI [] [] (.agg rfl lz) rfl rfl rfl trivial ob tr rfl))))))))
 rw [if_neg h1] at h
 by_cases h2:(dm T i).t=BP
 ·rw [if_pos h2] at h
  simp only [Option.bind_eq_bind,Option.bind_eq_some_iff,Option.pure_def,Option.some.injEq] at h
  obtain ⟨⟨d,j⟩,hd,rfl⟩:=h
  obtain ⟨ha,hb⟩:=ih.nest _ _ _ hl htl hd
  refine ⟨ha,?_⟩
  refine Spec.ofNI Tryz.func237 rfl Tryz.ntmps237 rfl ?_
  refine am (ai (aD (4,0) aa rfl rfl) (aj (aq (bO 11 [8,9,10,11,12,13,14,15,16,17,5] [(5,0)] ae ae rfl (aL rfl) (rfl:_=[_,_,_,_,_,_,_,_,_,_,_]) (rfl:_=[_]) ?_))))
  refine ap (_,[]) (fun τ=> aH _ bX) ?_
  refine fP rfl ?_
  refine ap (_,[]) (fun τ=> aS _ rfl rfl) ?_
  refine fQ rfl ?_
  refine ap (_,[]) (fun τ=> aA _ aa rfl rfl rfl) ?_
  refine fU rfl ?_
  refine ap (_,[]) (fun τ=> aF _ aa rfl rfl eG) ?_
  refine fY rfl ?_
  refine ap (_,[]) (fun τ=> aH _ bX) ?_
  refine gz rfl ?_
  refine ap (_,[]) (fun τ=> aS _ rfl rfl) ?_
  refine gZ rfl ?_
  refine ap (_,[]) (fun τ=> aA _ aa rfl rfl rfl) ?_
  refine jg rfl ?_
  refine ap (_,[]) (fun τ=> aF _ aa rfl rfl ee) ?_
  refine ka rfl ?_
  refine ap (_,[]) (fun τ=> bn _ _ aa rfl rfl _ rfl ab (by (simp only [aO,bg,bj,bv,bu];omega)) ag) ?_
  refine kG rfl ?_
  refine ap (_,[]) (fun τ=> cg _ aa rfl (by exact nD _ _ hi) rfl) ?_
  refine fW rfl ?_
  refine ap (_,[((5,0),_)]) (fun τ=> aD (5,0) aa rfl rfl) ?_
  refine gL rfl (bm ⟨rfl,?_⟩)
  refine bG rfl rfl rfl rfl rfl rfl (aj (aq (am (bb rfl rfl rfl (ai (aF _ aa rfl rfl fA) (ai (aV (r:=false) _ _ Tryz.underlying9 rfl rfl (beq_eq_false_iff_ne.2 h1)) ?_))))))
  refine aj (aW rfl rfl (aT (aq (aq ?_))))
  refine aM (σ':=aE 72 [(0,_),(1,_),(4,_),(5,_)] [((0,9),_),((4,0),_),((5,0),_)] [(0,9)] [(0,9)]) kp ?_
  refine an (bb rfl rfl rfl (ai (aF _ aa rfl rfl fA) (ai (aV (r:=true) _ _ Tryz.underlying9 rfl rfl (by rw [h2];rfl)) ?_)))
  refine aj (bM rfl rfl (am (bR rfl (ai (bU (htake)) (aj (aU fun K8 hK8=> ?_))))))
  refine an (bR rfl (aX rfl (ai (bU (hb)) (ai (aD (6,0) aa rfl rfl) (bG rfl rfl rfl rfl rfl rfl (aJ (hK8 _ ?_)))))))
  clear hK8;try clear K8
  refine am (ai (az _ aa rfl rfl rfl rfl) (ai (bh _ _ aa rfl ag (by (simp <;> rfl)) ah rfl) ?_))
  refine ai (aN _ aa rfl (by exact kK)) ?_
  exact bG rfl rfl rfl rfl rfl rfl (aj (aG (bI (.inr rfl) rfl (.cellA aa rfl rfl rfl) (Le.outI [] [] (.agg rfl lz) rfl rfl rfl trivial ob tr rfl))))
 rw [if_neg h2] at h
 have hr:r.2=bK T i:=by
  repeat' split at h
  all_goals first | (rw [← Option.some.inj h];done) | cases h
 refine ⟨by rw [hr];exact htl,?_⟩
 refine Spec.ofNI Tryz.func237 rfl Tryz.ntmps237 rfl ?_
 refine am (ai (aD (4,0) aa rfl rfl) (aj (aq (bO 11 [8,9,10,11,12,13,14,15,16,17,5] [(5,0)] ae ae rfl (aL rfl) (rfl:_=[_,_,_,_,_,_,_,_,_,_,_]) (rfl:_=[_]) ?_))))
 refine ap (_,[]) (fun τ=> aH _ bX) ?_
 refine fP rfl ?_
 refine ap (_,[]) (fun τ=> aS _ rfl rfl) ?_
 refine fQ rfl ?_
 refine ap (_,[]) (fun τ=> aA _ aa rfl rfl rfl) ?_
 refine fU rfl ?_
 refine ap (_,[]) (fun τ=> aF _ aa rfl rfl eG) ?_
 refine fY rfl ?_
 refine ap (_,[]) (fun τ=> aH _ bX) ?_
 refine gz rfl ?_
 refine ap (_,[]) (fun τ=> aS _ rfl rfl) ?_
 refine gZ rfl ?_
 refine ap (_,[]) (fun τ=> aA _ aa rfl rfl rfl) ?_
 refine jg rfl ?_
 refine ap (_,[]) (fun τ=> aF _ aa rfl rfl ee) ?_
 refine ka rfl ?_
 refine ap (_,[]) (fun τ=> bn _ _ aa rfl rfl _ rfl ab (by (simp only [aO,bg,bj,bv,bu];omega)) ag) ?_
 refine kG rfl ?_
 refine ap (_,[]) (fun τ=> cg _ aa rfl (by exact nD _ _ hi) rfl) ?_
 refine fW rfl ?_
 refine ap (_,[((5,0),_)]) (fun τ=> aD (5,0) aa rfl rfl) ?_
 refine gL rfl (bm ⟨rfl,?_⟩)
 refine bG rfl rfl rfl rfl rfl rfl (aj (aq (am (bb rfl rfl rfl (ai (aF _ aa rfl rfl fA) (ai (aV (r:=false) _ _ Tryz.underlying9 rfl rfl (beq_eq_false_iff_ne.2 h1)) ?_))))))
 refine aj (aW rfl rfl (aT (aq (aq ?_))))
 refine aM (σ':=aE 72 [(0,_),(1,_),(4,_),(5,_)] [((0,9),_),((4,0),_),((5,0),_)] [(0,9)] [(0,9)]) kp ?_
 refine an (bb rfl rfl rfl (ai (aF _ aa rfl rfl fA) (ai (aV (r:=false) _ _ Tryz.underlying9 rfl rfl (beq_eq_false_iff_ne.2 h2)) ?_)))
 refine aj (aW rfl rfl (aT (am (ai (aN _ aa rfl (by exact kK)) ?_))))
 refine ai (aD (7,0) aa rfl rfl) (bG rfl rfl rfl rfl rfl rfl (aj (aU fun K8 hK8=> ?_)))
 refine am (bb rfl rfl rfl (cf rfl rfl rfl (ai (bC _ _ rfl rfl rfl) (aj (aR rfl (fun hc38=> ?_) (fun hc38=> ?_))))))
 ·skip
  rw [if_pos ab] at h
  obtain rfl:=Option.some.inj h
  refine an (bb rfl rfl rfl (cf rfl rfl rfl (ai (aN _ aa rfl (by exact kK)) ?_)))
  refine bG rfl rfl rfl rfl rfl rfl (aJ (hK8 _ ?_))
  clear hK8;try clear K8
  refine am (bR rfl (ai (bU (htake)) (aj (aq ?_))))
  refine aM (σ':=aE 72 [(4,_),(7,_)] [((4,0),_),((7,0),_),((0,9),_)] [(0,9)] [(0,9)]) kp ?_
  exact an (ai (az _ aa rfl rfl rfl rfl) (bG rfl rfl rfl rfl rfl rfl (aj (aG (bI (.inr rfl) rfl (.cellA aa rfl rfl rfl) (Le.outI [] [] (.agg rfl lz) rfl rfl rfl trivial ob tr rfl))))))
 rw [if_neg ab] at h
 refine am (bb rfl rfl rfl (ai (aF _ aa rfl rfl fA) (ai (aV _ _ Tryz.underlying9 rfl rfl rfl) (aj (aR rfl (fun hc44=> ?_) (fun hc44=> ?_))))))
 ·skip
  rw [if_pos (show (dm T i).t=vN from hc44)] at h
  obtain rfl:=Option.some.inj h
  refine an (ai (aN _ aa rfl (by exact kK)) ?_)
  refine bG rfl rfl rfl rfl rfl rfl (aJ (hK8 _ ?_))
  clear hK8;try clear K8
  refine am (bR rfl (ai (bU (htake)) (aj (aq ?_))))
  refine aM (σ':=aE 72 [(4,_),(7,_)] [((4,0),_),((7,0),_),((0,9),_)] [(0,9)] [(0,9)]) kp ?_
  exact an (ai (az _ aa rfl rfl rfl rfl) (bG rfl rfl rfl rfl rfl rfl (aj (aG (bI (.inr rfl) rfl (.cellA aa rfl rfl rfl) (Le.outI [] [] (.agg rfl lz) rfl rfl rfl trivial ob tr rfl))))))
 rw [if_neg (show ¬ (dm T i).t=vN from hc44)] at h
 refine am (bb rfl rfl rfl (ai (aF _ aa rfl rfl fA) (ai (aV _ _ Tryz.underlying9 rfl rfl rfl) (aj (aR rfl (fun hc48=> ?_) (fun hc48=> ?_))))))
 ·skip
  rw [if_pos (show (dm T i).t=sY from hc48)] at h
  obtain rfl:=Option.some.inj h
  refine aM (σ':=aE 72 [(0,_),(4,_),(7,_)] [((0,9),_),((4,0),_),((7,0),_)] [(0,9)] [(0,9)]) kp ?_
  refine an (ai (aN _ aa rfl (by exact kK)) ?_)
  refine bG rfl rfl rfl rfl rfl rfl (aJ (hK8 _ ?_))
  clear hK8;try clear K8
  exact am (bR rfl (ai (bU (htake)) (aj (am (ai (az _ aa rfl rfl rfl rfl) (bG rfl rfl rfl rfl rfl rfl (aj (aG (bI (.inr rfl) rfl (.cellA aa rfl rfl rfl) (Le.outI [] [] (.agg rfl lz) rfl rfl rfl trivial ob tr rfl))))))))))
 rw [if_neg (show ¬ (dm T i).t=sY from hc48)] at h
 refine aq ?_
 refine aM (σ':=aE 72 [(0,_),(4,_),(5,_),(7,_)] [((0,9),_),((4,0),_),((5,0),_),((7,0),_)] [(0,9)] [(0,9)]) kp ?_
 refine bO 4 [50,51,52,53] [] ae ae rfl (aL rfl) (rfl:_=[_,_,_,_]) (rfl:_=[]) ?_
 refine ap (_,[]) (fun τ=> (aI aa (by repeat' (exact cX)) (mz) rfl rfl)) ?_
 refine fP rfl ?_
 refine ap (_,[]) (fun τ=> aA _ aa rfl rfl rfl) ?_
 refine fQ rfl ?_
 refine ap (_,[]) (fun τ=> aF _ aa rfl rfl fA) ?_
 refine fU rfl ?_
 refine ap (_,[]) (fun τ=> (aI aa al (cI bltT 9 rfl ab (dm T i).t) rfl rfl)) ?_
 refine fY rfl (bm ⟨rfl,?_⟩)
 refine aj (aR rfl (fun hc53=> ?_) (fun hc53=> ?_))
 ·skip
  rw [if_pos hc53] at h
  obtain rfl:=Option.some.inj h
  refine an (bb rfl rfl rfl (ai (aF _ aa rfl rfl fA) (ai (aN _ aa rfl (by exact kK)) ?_)))
  refine bG rfl rfl rfl rfl rfl rfl (aJ (hK8 _ ?_))
  clear hK8;try clear K8
  exact am (bR rfl (ai (bU (htake)) (aj (am (ai (az _ aa rfl rfl rfl rfl) (bG rfl rfl rfl rfl rfl rfl (aj (aG (bI (.inr rfl) rfl (.cellA aa rfl rfl rfl) (Le.outI [] [] (.agg rfl lz) rfl rfl rfl trivial ob tr rfl))))))))))
 rw [if_neg hc53] at h
 refine am (bR rfl (ai (br aa _ _ ar (dU T i N hi) tr rfl ae (by simp)) ?_))
 refine aj (aR rfl (fun hc58=> ?_) (fun hc58=> ?_))
 ·skip
  rw [if_pos hc58] at h
  obtain rfl:=Option.some.inj h
  refine an (bb rfl rfl rfl (ai (aF _ aa rfl rfl fA) (ai (aN _ aa rfl (by exact kK)) ?_)))
  refine bG rfl rfl rfl rfl rfl rfl (aJ (hK8 _ ?_))
  clear hK8;try clear K8
  exact am (bR rfl (ai (bU (htake)) (aj (am (ai (az _ aa rfl rfl rfl rfl) (bG rfl rfl rfl rfl rfl rfl (aj (aG (bI (.inr rfl) rfl (.cellA aa rfl rfl rfl) (Le.outI [] [] (.agg rfl lz) rfl rfl rfl trivial ob tr rfl))))))))))
 exact absurd h (by rw [if_neg (by simp [hc58])];exact fun e=> by cases e)
theorem Fx (pr:Nat) (h:1≤pr∧pr≤6∧pr≠3):([PV.v (.slice none 0 0), .sl 1 (fo [[124,124]]), .sl 1 (fo [[38,38]]), .v (.slice none 0 0), .sl 6 (fo [[60],[60,61],[62],[62,61],[61,61],[33,61]]), .sl 2 (fo [[43],[45]]), .sl 2 (fo [[42],[47]])]:List PV)[pr]? =some (.sl (opsP.getD pr []).length (fo (opsP.getD pr []))):=by
 have:pr=1∨pr=2∨pr=4∨pr=5∨pr=6:=by omega
 rcases this with rfl | rfl | rfl | rfl | rfl <;> rfl
theorem DG (pr:Nat):(opsP.getD pr []).length≤6:=by
 unfold opsP
 match pr with
 | 0=> decide | 1=> decide | 2=> decide | 3=> decide | 4=> decide | 5=> decide | 6=> decide
 | n+7=> simp
theorem qs {f lv pr:Nat} {d:Nd} {i:Nat} {r:Nd×Nat} (h:nK T f lv pr d i=some r): ∃ g,f=g+1∧((dm T i).t∉opsP.getD pr []∧r=(d,i)∨(dm T i).t∈opsP.getD pr []∧ ∃ e j,gO T g lv (pr+1) (bK T i)=some (e,j)∧
  (pr=4∧r=(nd 18 0 (dm T i).t [d,e],j)∨pr≠4∧nK T g lv pr (nd 18 0 (dm T i).t [d,e]) j=some r)):=by
 cases f with
 | zero=> simp [nK] at h
 | succ g=>
  refine ⟨g,rfl,?_⟩
  unfold nK at h
  split at h
  ·rename_i hm
   simp only [Option.bind_eq_bind,Option.bind_eq_some_iff,Option.pure_def] at h
   obtain ⟨⟨e,j⟩,he,h⟩:=h
   refine .inr ⟨hm,e,j,he,?_⟩
   split at h
   ·rename_i h4;exact .inl ⟨h4,(Option.some.inj h).symm⟩
   rename_i h4;exact .inr ⟨h4,h⟩
  rename_i hm;exact .inl ⟨hm,(Option.some.inj h).symm⟩
theorem Bh (hT:T.length≤100000) (f:Nat) (ih: ∀ g,g≤f→PE T N g) (lv pr i:Nat) (r:Nd×Nat) (hl:lv≤20) (hp:1≤pr∧pr≤6∧pr≠3) (hi:i < T.length) (h:yW T (f+1) lv pr i=some r):
  r.2 < T.length∧Spec Tryz.prog 236 (aY [.ptr (0,9) 0, .v (.int .i64 (lv:Int)), .v (.int .i64 (pr:Int))] (ea T i N)) (PO T N r):=by
 unfold yW at h
 simp only [Option.bind_eq_bind,Option.bind_eq_some_iff] at h
 obtain ⟨⟨d,j⟩,hd,h⟩:=h
 simp only at h
 obtain ⟨ha,hb⟩:=(ih f (Nat.le_refl _)).expr _ _ _ _ hl ab hi hd
 have hend: ∀ (g:Nat) (d:Nd) (i:Nat),g≤f→i < T.length→nK T g lv pr d i=some r→r.2 < T.length:=by
  intro g
  induction g with
  | zero=> intro d i _ _ h;simp [nK] at h
  | succ g ihg=>
   intro d i hg hi h
   obtain ⟨g',hg',h | ⟨_,e,j,he,h⟩⟩:=qs h
   ·rw [h.2];exact hi
   obtain rfl:g=g':=by omega
   have hj:=((ih g ab).expr _ _ _ _ hl ab (em hi) he).1
   rcases h with h | h
   ·rw [h.2];exact hj
   exact ihg _ _ ab hj h.2
 refine ⟨hend f d j (Nat.le_refl _) ha h,?_⟩
 have hol:=DG pr
 refine Spec.ofNI Tryz.func236 rfl Tryz.ntmps236 rfl ?_
 refine am (ai (aD (6,0) aa rfl rfl) (aj (am (ai (bh _ _ aa rfl ag (by (simp <;> rfl)) ah rfl) ?_))))
 refine ai (bh _ _ aa rfl ag (by (simp <;> rfl)) ah rfl) ?_
 refine ai (bh _ _ aa rfl ag (by (simp <;> rfl)) ah rfl) ?_
 refine ai (bh _ _ aa rfl ag (by (simp <;> rfl)) ah rfl) ?_
 refine ai (bh _ _ aa rfl ag (by (simp <;> rfl)) ah rfl) ?_
 refine ai (bh _ _ aa rfl ag (by (simp <;> rfl)) ah rfl) ?_
 refine kH rfl (aj (am (bR rfl (aX rfl (aX rfl (ai (aZ _ _ rfl rfl (bD ab)) ?_))))))
 refine ai (bU (hb)) (ai (aD (8,0) aa rfl rfl) (bG rfl rfl rfl rfl rfl rfl (aj (aU fun K4 hK4=> ?_))))
 refine ay ?_
 refine bq (α:=Nat×Nd×Nat) (fun z=> z.1≤f∧z.2.2 < T.length∧nK T z.1 lv pr z.2.1 z.2.2=some r) 53 [(0,_),(1,_),(2,_),(6,_),(7,_),(8,_)] [((6,0),_)] (fun z=> []) (fun z=> [((0,9), .box 222 [.sl T.length (tF T), .v (.int .i64 (z.2.2:Int)), .v (.int .i64 0), .v (.int .i64 0), .sl N.length (fo N)]),((8,0), .box 71 [.v (.int .i64 (z.2.1.k:Int)), .v (.int .i64 (z.2.1.n:Int)), .v (bt z.2.1.s), .sl z.2.1.kn z.2.1.kids])]) [(0,9)] [(0,9)] (fun z=> z.1) (f,d,j) ?_ (by
  refine Le.mkJ [] [] rfl ?_ ?_ trivial tr ?_
  ·exact ⟨(iP rfl),(iV rfl),(iV rfl),(iP rfl),(iS rfl),(iP rfl),trivial⟩
  ·exact ⟨(bF rfl rfl rfl),(fu rfl rfl rfl rfl lz),(fu rfl rfl rfl rfl (nC (nC (ax (by repeat' (exact Lv.v)) lz)))),trivial⟩
  kernel_rfl) ?_
 ·exact ⟨Nat.le_refl _,ha,h⟩
 intro z hz
 obtain ⟨z1,z2,z3⟩:=z
 obtain ⟨hz1,hz2,hz3⟩:=hz
 obtain ⟨g,rfl,hm⟩:=qs hz3
 simp only at hz1 hz2 hm ⊢
 refine aU fun K5 hK5=> ?_
 refine aq (bO 14 [22,23,24,25,26,27,28,29,30,31,32,33,34,35] [] ae ae rfl (aL rfl) (rfl:_=[_,_,_,_,_,_,_,_,_,_,_,_,_,_]) (rfl:_=[]) ?_)
 refine ap (_,[]) (fun τ=> aH _ bX) ?_
 refine fP rfl ?_
 refine ap (_,[]) (fun τ=> aS _ rfl rfl) ?_
 refine fQ rfl ?_
 refine ap (_,[]) (fun τ=> aA _ aa rfl rfl rfl) ?_
 refine fU rfl ?_
 refine ap (_,[]) (fun τ=> aF _ aa rfl rfl ee) ?_
 refine fY rfl ?_
 refine ap (_,[]) (fun τ=> bC (r:=true) _ _ rfl rfl rfl) ?_
 refine gz rfl ?_
 refine ap (_,[]) (fun τ=> aH _ bJ) ?_
 refine gZ rfl ?_
 refine bN (_,[]) rfl (fun τ=> rfl) (fun τ=> aH _ mL) ?_
 refine jg rfl ?_
 refine bN (_,[]) rfl (fun τ=> rfl) (fun τ=> aH _ eg) ?_
 refine ka rfl ?_
 refine bN (_,[]) rfl (fun τ=> rfl) (fun τ=> bn _ _ aa rfl rfl _ rfl ab ah (by exact Nat.mul_one _)) ?_
 refine kG rfl ?_
 refine bN (_,[]) rfl (fun τ=> rfl) (fun τ=> bT _ aa rfl (by exact Fx pr hp) rfl) ?_
 refine fW rfl ?_
 refine bN (_,[]) rfl (fun τ=> rfl) (fun τ=> aH _ bX) ?_
 refine gL rfl ?_
 refine bN (_,[]) rfl (fun τ=> rfl) (fun τ=> (br aa _ _ ar (bQ T z3 N hz2) tr rfl ae (by simp))) ?_
 refine kP rfl ?_
 refine bN (_,[]) rfl (fun τ=> rfl) (fun τ=> (aI aa al (cI (opsP.getD pr []) _ rfl ab (dm T z3).t) rfl rfl)) ?_
 refine mt rfl ?_
 refine ap (_,[]) (fun τ=> aB _ _ _ rfl bJ) ?_
 refine pw rfl (bm ⟨rfl,?_⟩)
 refine aj (aR rfl (fun hc35=> ?_) (fun hc35=> ?_))
 ·skip
  obtain ⟨_,e,je,he,hm⟩:=hm.resolve_left fun x=> x.1 hc35
  obtain ⟨hea,heb⟩:=(ih g ab).expr _ _ _ _ hl ab (em hz2) he
  refine bs (hK5 _ ?_)
  clear hK5;try clear K5
  refine ay (am (bR rfl (ai (br aa _ _ ar (bQ T z3 N hz2) tr rfl ae (by simp)) ?_)))
  refine oH rfl (aj (aq ?_))
  refine aM (σ':=aE 53 [(0,_),(1,_),(2,_),(6,_),(7,_),(8,_),(9,_)] [((6,0),_),((0,9),_),((8,0),_)] [(0,9)] [(0,9)]) kp ?_
  refine an (bR rfl (ai (bU (cC T z3 N hz2 hT)) ?_))
  refine aj (aU fun K9 hK9=> ?_)
  refine an (bR rfl (aX rfl (aX rfl (ai (aZ _ _ rfl rfl (bD ab)) ?_))))
  refine ai (bU (heb)) (ai (aD (10,0) aa rfl rfl) (bG rfl rfl rfl rfl rfl rfl (aJ (hK9 _ ?_))))
  clear hK9;try clear K9
  refine am (ej rfl (ai (az _ aa rfl rfl rfl rfl) (ai (az _ aa rfl rfl rfl rfl) (ai (bh _ _ aa rfl ag (by (simp <;> rfl)) ah rfl) ?_))))
  refine ai (aN _ aa rfl (by exact kK)) ?_
  refine bG rfl rfl rfl rfl rfl rfl (aj (aq ?_))
  refine aM (σ':=aE 53 [(0,_),(1,_),(2,_),(6,_),(7,_),(8,_)] [((6,0),_),((0,9),_),((8,0),_)] [(0,9)] [(0,9)]) kp ?_
  refine an (aX rfl (ai (bC _ _ rfl rfl rfl) (aj (aR rfl (fun hc51=> ?_) (fun hc51=> ?_)))))
  ·skip
   have hr:=(hm.resolve_right fun x=> x.1 ab).2
   subst hr
   refine bB (id (hK4 _ ?_))
   clear hK4;try clear K4
   exact am (ai (az _ aa rfl rfl rfl rfl) (bG rfl rfl rfl rfl rfl rfl (aj (aG (bI (.inr rfl) rfl (.cellA aa rfl rfl rfl) (Le.outI [] [] (.agg rfl lz) rfl rfl rfl trivial ob tr rfl))))))
  have hm:=(hm.resolve_left fun x=> hc51 ab).2
  refine bs (⟨(g,nd 18 0 (dm T z3).t [z2,e],je),?_,?_,?_⟩)
  ·exact ⟨by simp only;omega,hea,hm⟩
  ·skip
   refine Le.mkJ [] [] rfl ?_ ?_ trivial tr ?_
   ·exact ⟨(iP rfl),(iV rfl),(iV rfl),(iP rfl),(iS rfl),(iP rfl),trivial⟩
   ·exact ⟨(bF rfl rfl rfl),(fu rfl rfl rfl rfl lz),(fu rfl rfl rfl rfl (nC (nC (ax (by repeat' (exact Lv.v)) lz)))),trivial⟩
   kernel_rfl
  simp only;omega
 have hr:=(hm.resolve_right fun x=> hc35 x.1).2
 subst hr
 refine bB (id (hK4 _ ?_))
 clear hK4;try clear K4
 exact am (ai (az _ aa rfl rfl rfl rfl) (bG rfl rfl rfl rfl rfl rfl (aj (aG (bI (.inr rfl) rfl (.cellA aa rfl rfl rfl) (Le.outI [] [] (.agg rfl lz) rfl rfl rfl trivial ob tr rfl))))))
theorem If (hT:T.length≤100000): ∀ f g,g≤f→PE T N g:=by
 intro f
 induction f with
 | zero=>
  intro g hg
  obtain rfl:g=0:=by omega
  exact ⟨fun _ _ _ _ _ _ _ h=> by simp [gO] at h,fun _ _ _ _ _ _ _ _ h=> by simp [IU] at h,fun _ _ _ _ _ _ _ h=> by simp [yW] at h,fun _ _ _ _ _ h=> by simp [rU] at h,fun _ _ _ _ _ h=> by simp [vw] at h⟩
 | succ f ih=>
  intro g hg
  rcases Nat.lt_or_ge g (f+1) with h | h
  ·exact ih g ab
  obtain rfl:g=f+1:=by omega
  exact ⟨yj f (ih f (Nat.le_refl _)),Gf hT f (ih f (Nat.le_refl _)),Bh hT f ih,xL hT f (ih f (Nat.le_refl _)),yx hT f (ih f (Nat.le_refl _))⟩
theorem zc (hT:T.length≤100000) {f lv i:Nat} {r:Nd×Nat} (hl:lv≤20) (hi:i < T.length) (h:gO T f lv 1 i=some r):r.2 < T.length∧Spec Tryz.prog 226 (aY [.ptr (0,9) 0, .v (.int .i64 (lv:Int)), .v (.int .i64 1)] (ea T i N)) (PO T N r):=
 (If hT f f (Nat.le_refl _)).expr lv 1 i r hl ab hi h
end

structure PS (T:List Tk) (N:List Tx) (f:Nat):Prop where
 stm: ∀ lv i r,lv≤20→i < T.length→yU T f lv i=some r→r.2 < T.length∧Spec Tryz.prog 202 (aY [.ptr (0,9) 0, .v (.int .i64 (lv:Int))] (ea T i N)) (PO T N r)
 blk: ∀ lv i r,lv≤21→i < T.length→re T f lv i=some r→r.2 < T.length∧Spec Tryz.prog 164 (aY [.ptr (0,9) 0, .v (.int .i64 (lv:Int))] (ea T i N)) (PO T N r)
def Du:List Tx:=[vG,kJ,qz,im,lq,qr,nP,qQ,pR]
theorem gi {T:List Tk} {i:Nat} (h:wd (dm T i).t=true):eK T i=false:=by unfold eK;rw [h];simp
section
variable {T:List Tk} {N:List Tx}
theorem xQ (hT:T.length≤100000) (lv i:Nat) (hl:lv≤20) (hi:i < T.length) (hn:eK T i=true) {d:Nd} {j1 j2 j3:Nat} (h1:Spec Tryz.prog 162 (aY [.ptr (0,9) 0, .v (bt [61])] (ea T (bK T i) N)) (bc (.tup []) (ea T j1 N) [(0,9)] [(0,9)])) (h2:Spec Tryz.prog 226 (aY [.ptr (0,9) 0, .v (.int .i64 (lv:Int)), .v (.int .i64 1)] (ea T j1 N)) (PO T N (d,j2))) (h3:Spec Tryz.prog 162 (aY [.ptr (0,9) 0, .v (bt [59])] (ea T j2 N)) (bc (.tup []) (ea T j3 N) [(0,9)] [(0,9)])):
  Spec Tryz.prog 202 (aY [.ptr (0,9) 0, .v (.int .i64 (lv:Int))] (ea T i N)) (PO T N (nd 1 0 (dm T i).t [d],j3)):=by
 refine Spec.ofNI Tryz.func202 rfl Tryz.ntmps202 rfl ?_
 refine am (ai (aD (4,0) aa rfl rfl) (aj (am (bR rfl (ai (br aa _ _ ar (bQ T i N hi) tr rfl ae (by simp)) ?_)))))
 refine oH rfl (aj (am (ai (aN _ aa rfl (by exact kK)) ?_)))
 refine ai (aD (6,0) aa rfl rfl) (bG rfl rfl rfl rfl rfl rfl (aj (aq (am (bR rfl (ai (br aa _ _ ar (dU T i N hi) tr rfl ae (by simp)) ?_))))))
 refine aj (bM rfl hn (am (bR rfl (ai (bU (cC T i N hi hT)) ?_))))
 refine aj (aU fun K7 hK7=> ?_)
 refine an (bR rfl (ai (bU (h1)) (aJ (hK7 _ ?_))))
 clear hK7;try clear K7
 refine aU fun K8 hK8=> ?_
 refine an (ej rfl (bR rfl (aX rfl (ai (bU (h2)) (ai (bh _ _ aa rfl ag (by (simp <;> rfl)) ah rfl) ?_)))))
 refine ai (aN _ aa rfl (by exact kK)) ?_
 refine bG rfl rfl rfl rfl rfl rfl (aJ (hK8 _ ?_))
 clear hK8;try clear K8
 refine aU fun K9 hK9=> ?_
 refine aM (σ':=aE 145 [(0,_),(4,_),(6,_)] [((0,9),_),((4,0),_),((6,0),_)] [(0,9)] [(0,9)]) kp ?_
 refine an (bR rfl (ai (bU (h3)) (aJ (hK9 _ ?_))))
 clear hK9;try clear K9
 exact am (ai (az _ aa rfl rfl rfl rfl) (bG rfl rfl rfl rfl rfl rfl (aj (aG (bI (.inr rfl) rfl (.cellA aa rfl rfl rfl) (Le.outI [] [] (.agg rfl lz) rfl rfl rfl trivial ob tr rfl))))))
theorem Dn (hT:T.length≤100000) (lv i:Nat) (hl:lv≤20) (hi:i < T.length) (ht:(dm T i).t=kJ) {c x:Nd} {j1 j2:Nat} (h1:Spec Tryz.prog 226 (aY [.ptr (0,9) 0, .v (.int .i64 (lv:Int)), .v (.int .i64 1)] (ea T (bK T i) N)) (PO T N (c,j1))) (h2:Spec Tryz.prog 164 (aY [.ptr (0,9) 0, .v (.int .i64 ((lv+1:Nat):Int))] (ea T j1 N)) (PO T N (x,j2))):
  Spec Tryz.prog 202 (aY [.ptr (0,9) 0, .v (.int .i64 (lv:Int))] (ea T i N)) (PO T N (nd 3 0 [] [c,x],j2)):=by
 have hnx:=bQ T i N hi
 have hn:eK T i=false:=gi (by rw [ht];rfl)
 rw [ht] at hnx
 refine Spec.ofNI Tryz.func202 rfl Tryz.ntmps202 rfl ?_
 refine am (ai (aD (4,0) aa rfl rfl) (aj (am (bR rfl (ai (br aa _ _ ar (hnx) tr rfl ae (by simp)) ?_)))))
 refine oH rfl (aj (am (ai (aN _ aa rfl (by exact kK)) ?_)))
 refine ai (aD (6,0) aa rfl rfl) (bG rfl rfl rfl rfl rfl rfl (aj (aq (am (bR rfl (ai (br aa _ _ ar (dU T i N hi) tr rfl ae (by simp)) ?_))))))
 refine aj (aW rfl hn (aT (aq (am (ai (bh _ _ aa rfl ag (by (simp <;> rfl)) ah rfl) ?_)))))
 refine ej rfl (ai (aI aa al (cI Du 9 rfl ab kJ) rfl rfl) ?_)
 refine ai (cj (r:=false) _ rfl rfl) (aj (aW rfl rfl (aT (am (bR rfl (ai (bU (cC T i N hi hT)) ?_))))))
 refine aj (aq (aq ?_))
 refine aM (σ':=aE 145 [(0,_),(1,_),(4,_),(5,_),(6,_)] [((0,9),_),((4,0),_),((6,0),_)] [(0,9)] [(0,9)]) kp ?_
 refine an (ej rfl (aj (ay (aq (am (ai (aV (r:=false) _ _ Tryz.underlying9 rfl rfl rfl) (cu rfl (aj (aW rfl rfl (an ?_))))))))))
 refine ai (aV (r:=true) _ _ Tryz.underlying9 rfl rfl rfl) (cu rfl (aj (bM rfl rfl (aU fun K13 hK13=> ?_))))
 refine an (bR rfl (aX rfl (ai (bU (h1)) (ai (aD (7,0) aa rfl rfl) (bG rfl rfl rfl rfl rfl rfl (aJ (hK13 _ ?_)))))))
 clear hK13;try clear K13
 refine aU fun K14 hK14=> ?_
 refine aM (σ':=aE 145 [(0,_),(1,_),(4,_),(5,_),(7,_)] [((0,9),_),((4,0),_),((7,0),_)] [(0,9)] [(0,9)]) kp ?_
 refine bO 5 [53,54,55,56,57] [(0,9)] ae ae rfl (aL rfl) (rfl:_=[_,_,_,_,_]) (rfl:_=[_,_]) ?_
 refine ap (_,[]) (fun τ=> az _ aa rfl rfl rfl rfl) ?_
 refine fP rfl ?_
 refine ap (_,[]) (fun τ=> aH _ bX) ?_
 refine fQ rfl ?_
 refine ap (_,[]) (fun τ=> aH _ eg) ?_
 refine fU rfl ?_
 refine ap (_,[]) (fun τ=> aZ _ _ rfl rfl (bD ab)) ?_
 refine fY rfl ?_
 refine ap (_,[((0,9),_)]) (fun τ=> (kE aa ar (h2) ob rfl rfl ae)) ?_
 refine gz rfl (bm ⟨rfl,?_⟩)
 refine ai (bh _ _ aa rfl ag (by (simp <;> rfl)) ah rfl) ?_
 refine kH rfl (aJ (hK14 _ ?_))
 clear hK14;try clear K14
 refine aq (am (ej rfl (ai (aV (r:=true) _ _ Tryz.underlying9 rfl rfl rfl) (aj (bM rfl rfl (am (eY rfl (ai (aN _ aa rfl (by exact kK)) ?_))))))))
 exact bG rfl rfl rfl rfl rfl rfl (aj (aG (bI (.inr rfl) rfl (.cellA aa rfl rfl rfl) (Le.outI [] [] (.agg rfl lz) rfl rfl rfl trivial ob tr rfl))))
theorem Jt (hT:T.length≤100000) (lv i:Nat) (hl:lv≤20) (hi:i < T.length) (ht:(dm T i).t=vG) {c x:Nd} {j1 j2:Nat} (h1:Spec Tryz.prog 226 (aY [.ptr (0,9) 0, .v (.int .i64 (lv:Int)), .v (.int .i64 1)] (ea T (bK T i) N)) (PO T N (c,j1))) (h2:Spec Tryz.prog 164 (aY [.ptr (0,9) 0, .v (.int .i64 ((lv+1:Nat):Int))] (ea T j1 N)) (PO T N (x,j2))) (hj:j2 < T.length) (he:(dm T j2).t≠tb):
  Spec Tryz.prog 202 (aY [.ptr (0,9) 0, .v (.int .i64 (lv:Int))] (ea T i N)) (PO T N (nd 2 0 [] [c,x,nd 11 0 [] []],j2)):=by
 have hnx:=bQ T i N hi
 have hn:eK T i=false:=gi (by rw [ht];rfl)
 rw [ht] at hnx
 refine Spec.ofNI Tryz.func202 rfl Tryz.ntmps202 rfl ?_
 refine am (ai (aD (4,0) aa rfl rfl) (aj (am (bR rfl (ai (br aa _ _ ar (hnx) tr rfl ae (by simp)) ?_)))))
 refine oH rfl (aj (am (ai (aN _ aa rfl (by exact kK)) ?_)))
 refine ai (aD (6,0) aa rfl rfl) (bG rfl rfl rfl rfl rfl rfl (aj (aq (am (bR rfl (ai (br aa _ _ ar (dU T i N hi) tr rfl ae (by simp)) ?_))))))
 refine aj (aW rfl hn (aT (aq (am (ai (bh _ _ aa rfl ag (by (simp <;> rfl)) ah rfl) ?_)))))
 refine ej rfl (ai (aI aa al (cI Du 9 rfl ab vG) rfl rfl) ?_)
 refine ai (cj (r:=false) _ rfl rfl) (aj (aW rfl rfl (aT (am (bR rfl (ai (bU (cC T i N hi hT)) ?_))))))
 refine aj (aq (aq ?_))
 refine aM (σ':=aE 145 [(0,_),(1,_),(4,_),(5,_),(6,_)] [((0,9),_),((4,0),_),((6,0),_)] [(0,9)] [(0,9)]) kp ?_
 refine an (ej rfl (aj (ay (aq (am (ai (aV (r:=true) _ _ Tryz.underlying9 rfl rfl rfl) (cu rfl (aj (bM rfl rfl (aT ?_))))))))))
 refine bM rfl rfl (aU fun K13 hK13=> ?_)
 refine an (bR rfl (aX rfl (ai (bU (h1)) (ai (aD (7,0) aa rfl rfl) (bG rfl rfl rfl rfl rfl rfl (aJ (hK13 _ ?_)))))))
 clear hK13;try clear K13
 refine aU fun K14 hK14=> ?_
 refine aM (σ':=aE 145 [(0,_),(1,_),(4,_),(5,_),(7,_)] [((0,9),_),((4,0),_),((7,0),_)] [(0,9)] [(0,9)]) kp ?_
 refine bO 5 [53,54,55,56,57] [(0,9)] ae ae rfl (aL rfl) (rfl:_=[_,_,_,_,_]) (rfl:_=[_,_]) ?_
 refine ap (_,[]) (fun τ=> az _ aa rfl rfl rfl rfl) ?_
 refine fP rfl ?_
 refine ap (_,[]) (fun τ=> aH _ bX) ?_
 refine fQ rfl ?_
 refine ap (_,[]) (fun τ=> aH _ eg) ?_
 refine fU rfl ?_
 refine ap (_,[]) (fun τ=> aZ _ _ rfl rfl (bD ab)) ?_
 refine fY rfl ?_
 refine ap (_,[((0,9),_)]) (fun τ=> (kE aa ar (h2) ob rfl rfl ae)) ?_
 refine gz rfl (bm ⟨rfl,?_⟩)
 refine ai (kv (58,0) _ _ aa rfl ag (by (simp <;> rfl)) ah rfl rfl) ?_
 refine fk rfl (aJ (hK14 _ ?_))
 clear hK14;try clear K14
 refine aq (am (ej rfl (ai (aV (r:=false) _ _ Tryz.underlying9 rfl rfl rfl) (aj (aW rfl rfl (aT (am (ai (aN _ aa rfl (by exact kK)) ?_))))))))
 refine ai (aD (9,0) aa rfl rfl) (bG rfl rfl rfl rfl rfl rfl (aj (aq (am (bR rfl (ai (aS _ rfl rfl) (bb rfl rfl rfl (cf rfl rfl rfl (kf rfl rfl rfl (cE rfl ?_))))))))))
 refine au rfl rfl (aH _ bX) (au rfl rfl (br aa _ _ ar (bQ T j2 N hj) tr rfl ae (by simp)) ?_)
 refine au rfl rfl (aV (r:=false) _ _ Tryz.underlying9 rfl rfl (beq_eq_false_iff_ne.2 he)) ?_
 refine ai (aB _ _ _ rfl bJ) (aj (aW rfl rfl (aT (aq ?_))))
 refine aM (σ':=aE 145 [(4,_),(8,_),(9,_)] [((4,0),_),((58,0),_),((9,0),_),((0,9),_)] [(0,9)] [(0,9)]) kp ?_
 refine an (gI rfl (cA (Le.nil0 (9,0) 3 rfl rfl) ?_))
 refine ai (az _ aa rfl rfl rfl rfl) (ai (bh _ _ aa rfl ag (by (simp <;> rfl)) ah rfl) ?_)
 refine ai (du (83,0) _ _ aa rfl rfl ag (by (refine .sl ?_;(simp [cw];done))) ab rfl (rfl) (rfl)) ?_
 refine ai (aN _ aa rfl (by exact kK)) ?_
 exact bG rfl rfl rfl rfl rfl rfl (aj (aG (bI (.inr rfl) rfl (.cellA aa rfl rfl rfl) (Le.outI [] [(83,0)] (.agg rfl (ax .v (ax .v (ax .v (ax (fi rfl rfl rfl rfl) bf))))) rfl rfl rfl tr ob tr rfl))))
theorem yt (hT:T.length≤100000) (lv i:Nat) (hl:lv≤20) (hi:i < T.length) (ht:(dm T i).t=vG) {c x y:Nd} {j1 j2 j3:Nat} (h1:Spec Tryz.prog 226 (aY [.ptr (0,9) 0, .v (.int .i64 (lv:Int)), .v (.int .i64 1)] (ea T (bK T i) N)) (PO T N (c,j1))) (h2:Spec Tryz.prog 164 (aY [.ptr (0,9) 0, .v (.int .i64 ((lv+1:Nat):Int))] (ea T j1 N)) (PO T N (x,j2))) (hj:j2 < T.length) (he:(dm T j2).t=tb) (h3:Spec Tryz.prog 164 (aY [.ptr (0,9) 0, .v (.int .i64 ((lv+1:Nat):Int))] (ea T (bK T j2) N)) (PO T N (y,j3))):
  Spec Tryz.prog 202 (aY [.ptr (0,9) 0, .v (.int .i64 (lv:Int))] (ea T i N)) (PO T N (nd 2 0 [] [c,x,y],j3)):=by
 have hnx:=bQ T i N hi
 have hn:eK T i=false:=gi (by rw [ht];rfl)
 rw [ht] at hnx
 refine Spec.ofNI Tryz.func202 rfl Tryz.ntmps202 rfl ?_
 refine am (ai (aD (4,0) aa rfl rfl) (aj (am (bR rfl (ai (br aa _ _ ar (hnx) tr rfl ae (by simp)) ?_)))))
 refine oH rfl (aj (am (ai (aN _ aa rfl (by exact kK)) ?_)))
 refine ai (aD (6,0) aa rfl rfl) (bG rfl rfl rfl rfl rfl rfl (aj (aq (am (bR rfl (ai (br aa _ _ ar (dU T i N hi) tr rfl ae (by simp)) ?_))))))
 refine aj (aW rfl hn (aT (aq (am (ai (bh _ _ aa rfl ag (by (simp <;> rfl)) ah rfl) ?_)))))
 refine ej rfl (ai (aI aa al (cI Du 9 rfl ab vG) rfl rfl) ?_)
 refine ai (cj (r:=false) _ rfl rfl) (aj (aW rfl rfl (aT (am (bR rfl (ai (bU (cC T i N hi hT)) ?_))))))
 refine aj (aq (aq ?_))
 refine aM (σ':=aE 145 [(0,_),(1,_),(4,_),(5,_),(6,_)] [((0,9),_),((4,0),_),((6,0),_)] [(0,9)] [(0,9)]) kp ?_
 refine an (ej rfl (aj (ay (aq (am (ai (aV (r:=true) _ _ Tryz.underlying9 rfl rfl rfl) (cu rfl (aj (bM rfl rfl (aT ?_))))))))))
 refine bM rfl rfl (aU fun K13 hK13=> ?_)
 refine an (bR rfl (aX rfl (ai (bU (h1)) (ai (aD (7,0) aa rfl rfl) (bG rfl rfl rfl rfl rfl rfl (aJ (hK13 _ ?_)))))))
 clear hK13;try clear K13
 refine aU fun K14 hK14=> ?_
 refine aM (σ':=aE 145 [(0,_),(1,_),(4,_),(5,_),(7,_)] [((0,9),_),((4,0),_),((7,0),_)] [(0,9)] [(0,9)]) kp ?_
 refine bO 5 [53,54,55,56,57] [(0,9)] ae ae rfl (aL rfl) (rfl:_=[_,_,_,_,_]) (rfl:_=[_,_]) ?_
 refine ap (_,[]) (fun τ=> az _ aa rfl rfl rfl rfl) ?_
 refine fP rfl ?_
 refine ap (_,[]) (fun τ=> aH _ bX) ?_
 refine fQ rfl ?_
 refine ap (_,[]) (fun τ=> aH _ eg) ?_
 refine fU rfl ?_
 refine ap (_,[]) (fun τ=> aZ _ _ rfl rfl (bD ab)) ?_
 refine fY rfl ?_
 refine ap (_,[((0,9),_)]) (fun τ=> (kE aa ar (h2) ob rfl rfl ae)) ?_
 refine gz rfl (bm ⟨rfl,?_⟩)
 refine ai (kv (58,0) _ _ aa rfl ag (by (simp <;> rfl)) ah rfl rfl) ?_
 refine fk rfl (aJ (hK14 _ ?_))
 clear hK14;try clear K14
 refine aq (am (ej rfl (ai (aV (r:=false) _ _ Tryz.underlying9 rfl rfl rfl) (aj (aW rfl rfl (aT (am (ai (aN _ aa rfl (by exact kK)) ?_))))))))
 refine ai (aD (9,0) aa rfl rfl) (bG rfl rfl rfl rfl rfl rfl (aj (aU fun K18 hK18=> ?_)))
 refine am (bR rfl (ai (aS _ rfl rfl) (bb rfl rfl rfl (cf rfl rfl rfl (kf rfl rfl rfl (cE rfl (au rfl rfl (aH _ bX) (au rfl rfl (br aa _ _ ar (bQ T j2 N hj) tr rfl ae (by simp)) ?_))))))))
 refine au rfl rfl (aV (r:=true) _ _ Tryz.underlying9 rfl rfl (beq_iff_eq.2 he)) ?_
 refine ai (aB _ _ _ rfl bJ) (aj (bM rfl rfl (aU fun K20 hK20=> ?_)))
 refine aM (σ':=aE 145 [(0,_),(1,_),(4,_),(8,_),(9,_)] [((0,9),_),((4,0),_),((58,0),_),((9,0),_)] [(0,9)] [(0,9)]) kp ?_
 refine an (bR rfl (ai (bU (cC T j2 N hj hT)) ?_))
 refine aJ (hK20 _ ?_)
 clear hK20;try clear K20
 refine an (bR rfl (aX rfl (ai (aZ _ _ rfl rfl (bD ab)) ?_)))
 refine ai (bU (h3)) (bG rfl rfl rfl rfl rfl rfl (aJ (hK18 _ ?_)))
 clear hK18;try clear K18
 refine am (gI rfl (ai (az _ aa rfl rfl rfl rfl) (ai (bh _ _ aa rfl ag (by (simp <;> rfl)) ah rfl) ?_)))
 refine ai (du (83,0) _ _ aa rfl rfl ag (by (refine .sl ?_;(simp [cw];done))) ab rfl (rfl) (rfl)) ?_
 refine ai (aN _ aa rfl (by exact kK)) ?_
 exact bG rfl rfl rfl rfl rfl rfl (aj (aG (bI (.inr rfl) rfl (.cellA aa rfl rfl rfl) (Le.outI [] [(83,0)] (.agg rfl (ax .v (ax .v (ax .v (ax (fi rfl rfl rfl rfl) bf))))) rfl rfl rfl tr ob tr rfl))))
theorem Fp (hT:T.length≤100000) (lv i:Nat) (hl:lv≤20) (hi:i < T.length) (ht:(dm T i).t=qz) {x y z:Nd} {k j1 j2 j3 j4 j5 j6 j7 j8:Nat} (h1:Spec Tryz.prog 226 (aY [.ptr (0,9) 0, .v (.int .i64 (lv:Int)), .v (.int .i64 1)] (ea T (bK T i) N)) (PO T N (x,j1))) (h2:Spec Tryz.prog 162 (aY [.ptr (0,9) 0, .v (bt [44])] (ea T j1 N)) (bc (.tup []) (ea T j2 N) [(0,9)] [(0,9)])) (h3:Spec Tryz.prog 200 (aY [.ptr (0,9) 0, .v (.int .i64 29)] (ea T j2 N)) (bc (.v (.int .i64 (k:Int))) (ea T j3 N) [(0,9)] [(0,9)])) (h4:Spec Tryz.prog 162 (aY [.ptr (0,9) 0, .v (bt [44])] (ea T j3 N)) (bc (.tup []) (ea T j4 N) [(0,9)] [(0,9)])) (h5:Spec Tryz.prog 226 (aY [.ptr (0,9) 0, .v (.int .i64 (lv:Int)), .v (.int .i64 1)] (ea T j4 N)) (PO T N (y,j5))) (h6:Spec Tryz.prog 162 (aY [.ptr (0,9) 0, .v (bt [44])] (ea T j5 N)) (bc (.tup []) (ea T j6 N) [(0,9)] [(0,9)])) (h7:Spec Tryz.prog 226 (aY [.ptr (0,9) 0, .v (.int .i64 (lv:Int)), .v (.int .i64 1)] (ea T j6 N)) (PO T N (z,j7))) (h8:Spec Tryz.prog 162 (aY [.ptr (0,9) 0, .v (bt [59])] (ea T j7 N)) (bc (.tup []) (ea T j8 N) [(0,9)] [(0,9)])):
  Spec Tryz.prog 202 (aY [.ptr (0,9) 0, .v (.int .i64 (lv:Int))] (ea T i N)) (PO T N (nd 4 k [] [x,y,z],j8)):=by
 have hnx:=bQ T i N hi
 have hn:eK T i=false:=gi (by rw [ht];rfl)
 rw [ht] at hnx
 refine Spec.ofNI Tryz.func202 rfl Tryz.ntmps202 rfl ?_
 refine am (ai (aD (4,0) aa rfl rfl) (aj (am (bR rfl (ai (br aa _ _ ar (hnx) tr rfl ae (by simp)) ?_)))))
 refine oH rfl (aj (am (ai (aN _ aa rfl (by exact kK)) ?_)))
 refine ai (aD (6,0) aa rfl rfl) (bG rfl rfl rfl rfl rfl rfl (aj (aq (am (bR rfl (ai (br aa _ _ ar (dU T i N hi) tr rfl ae (by simp)) ?_))))))
 refine aj (aW rfl hn (aT (aq (am (ai (bh _ _ aa rfl ag (by (simp <;> rfl)) ah rfl) ?_)))))
 refine ej rfl (ai (aI aa al (cI Du 9 rfl ab qz) rfl rfl) ?_)
 refine ai (cj (r:=false) _ rfl rfl) (aj (aW rfl rfl (aT (am (bR rfl (ai (bU (cC T i N hi hT)) ?_))))))
 refine aj (aU fun K9 hK9=> ?_)
 refine aq ?_
 refine aM (σ':=aE 145 [(0,_),(1,_),(4,_),(5,_),(6,_)] [((0,9),_),((4,0),_),((6,0),_)] [(0,9)] [(0,9)]) kp ?_
 refine an (ej rfl (aj (ay (aq (am (ai (aV (r:=false) _ _ Tryz.underlying9 rfl rfl rfl) (cu rfl (aj (aW rfl rfl (an ?_))))))))))
 refine ai (aV (r:=false) _ _ Tryz.underlying9 rfl rfl rfl) (cu rfl (aj (aW rfl rfl (am (ai (aV (r:=true) _ _ Tryz.underlying9 rfl rfl rfl) (cu rfl (aj (bM rfl rfl (aU fun K14 hK14=> ?_)))))))))
 refine an (bR rfl (aX rfl (ai (bU (h1)) (ai (aD (10,0) aa rfl rfl) (bG rfl rfl rfl rfl rfl rfl (aJ (hK14 _ ?_)))))))
 clear hK14;try clear K14
 refine aU fun K15 hK15=> ?_
 refine an (bR rfl (ai (bU (h2)) (aJ (hK15 _ ?_))))
 clear hK15;try clear K15
 refine aU fun K16 hK16=> ?_
 refine an (bR rfl (ai (bU (h3)) (be rfl (aJ (hK16 _ ?_)))))
 clear hK16;try clear K16
 refine aU fun K17 hK17=> ?_
 refine aM (σ':=aE 145 [(0,_),(1,_),(4,_),(6,_),(10,_),(11,_)] [((0,9),_),((4,0),_),((6,0),_),((10,0),_)] [(0,9)] [(0,9)]) kp ?_
 refine an (bR rfl (ai (bU (h4)) (aJ (hK17 _ ?_))))
 clear hK17;try clear K17
 refine aU fun K18 hK18=> ?_
 refine an (bR rfl (aX rfl (ai (bU (h5)) (ai (aD (12,0) aa rfl rfl) (bG rfl rfl rfl rfl rfl rfl (aJ (hK18 _ ?_)))))))
 clear hK18;try clear K18
 refine aU fun K19 hK19=> ?_
 refine an (bR rfl (ai (bU (h6)) (aJ (hK19 _ ?_))))
 clear hK19;try clear K19
 refine aM (σ':=aE 145 [(0,_),(1,_),(4,_),(6,_),(10,_),(11,_),(12,_)] [((0,9),_),((4,0),_),((6,0),_),((10,0),_),((12,0),_)] [(0,9)] [(0,9)]) kp ?_
 refine bO 7 [101,102,103,104,105,106,107] [(0,9)] ae ae rfl (aL rfl) (rfl:_=[_,_,_,_,_,_,_]) (rfl:_=[_,_]) ?_
 refine ap (_,[]) (fun τ=> aH _ eg) ?_
 refine fP rfl ?_
 refine ap (_,[]) (fun τ=> az _ aa rfl rfl rfl rfl) ?_
 refine fQ rfl ?_
 refine ap (_,[]) (fun τ=> az _ aa rfl rfl rfl rfl) ?_
 refine fU rfl ?_
 refine ap (_,[]) (fun τ=> aH _ bX) ?_
 refine fY rfl ?_
 refine ap (_,[]) (fun τ=> aH _ eg) ?_
 refine gz rfl ?_
 refine ap (_,[((0,9),_)]) (fun τ=> (kE aa ar (h7) ob rfl rfl ae)) ?_
 refine gZ rfl ?_
 refine ap (_,[]) (fun τ=> bh _ _ aa rfl ag (by (simp;exact ⟨rfl,rfl⟩)) ah rfl) ?_
 refine jg rfl (bm ⟨rfl,?_⟩)
 refine ai (aN _ aa rfl (by exact kK)) ?_
 refine bG rfl rfl rfl rfl rfl rfl (aJ (hK9 _ ?_))
 clear hK9;try clear K9
 refine aU fun K20 hK20=> ?_
 refine an (bR rfl (ai (bU (h8)) (aJ (hK20 _ ?_))))
 clear hK20;try clear K20
 exact am (ai (az _ aa rfl rfl rfl rfl) (bG rfl rfl rfl rfl rfl rfl (aj (aG (bI (.inr rfl) rfl (.cellA aa rfl rfl rfl) (Le.outI [] [] (.agg rfl lz) rfl rfl rfl trivial ob tr rfl))))))
theorem Cb (hT:T.length≤100000) (lv i:Nat) (hl:lv≤20) (hi:i < T.length) (ht:(dm T i).t=im) {k j1 j2:Nat} (h1:Spec Tryz.prog 200 (aY [.ptr (0,9) 0, .v (.int .i64 7)] (ea T (bK T i) N)) (bc (.v (.int .i64 (k:Int))) (ea T j1 N) [(0,9)] [(0,9)])) (h2:Spec Tryz.prog 162 (aY [.ptr (0,9) 0, .v (bt [59])] (ea T j1 N)) (bc (.tup []) (ea T j2 N) [(0,9)] [(0,9)])):
  Spec Tryz.prog 202 (aY [.ptr (0,9) 0, .v (.int .i64 (lv:Int))] (ea T i N)) (PO T N (nd 5 k [] [],j2)):=by
 have hnx:=bQ T i N hi
 have hn:eK T i=false:=gi (by rw [ht];rfl)
 rw [ht] at hnx
 refine Spec.ofNI Tryz.func202 rfl Tryz.ntmps202 rfl ?_
 refine am (ai (aD (4,0) aa rfl rfl) (aj (am (bR rfl (ai (br aa _ _ ar (hnx) tr rfl ae (by simp)) ?_)))))
 refine oH rfl (aj (am (ai (aN _ aa rfl (by exact kK)) ?_)))
 refine ai (aD (6,0) aa rfl rfl) (bG rfl rfl rfl rfl rfl rfl (aj (aq (am (bR rfl (ai (br aa _ _ ar (dU T i N hi) tr rfl ae (by simp)) ?_))))))
 refine aj (aW rfl hn (aT (aq (am (ai (bh _ _ aa rfl ag (by (simp <;> rfl)) ah rfl) ?_)))))
 refine ej rfl (ai (aI aa al (cI Du 9 rfl ab im) rfl rfl) ?_)
 refine ai (cj (r:=false) _ rfl rfl) (aj (aW rfl rfl (aT (am (bR rfl (ai (bU (cC T i N hi hT)) ?_))))))
 refine aj (aU fun K9 hK9=> ?_)
 refine aq ?_
 refine aM (σ':=aE 145 [(0,_),(1,_),(4,_),(5,_),(6,_)] [((0,9),_),((4,0),_),((6,0),_)] [(0,9)] [(0,9)]) kp ?_
 refine an (ej rfl (aj (ay (aq (am (ai (aV (r:=false) _ _ Tryz.underlying9 rfl rfl rfl) (cu rfl (aj (aW rfl rfl (an ?_))))))))))
 refine ai (aV (r:=false) _ _ Tryz.underlying9 rfl rfl rfl) (cu rfl (aj (aW rfl rfl (am (ai (aV (r:=false) _ _ Tryz.underlying9 rfl rfl rfl) (cu rfl (aj (aW rfl rfl (am (ai (aV (r:=true) _ _ Tryz.underlying9 rfl rfl rfl) ?_))))))))))
 refine cu rfl (aj (bM rfl rfl (an (bR rfl (ai (bU (h1)) (ai (aN _ aa rfl (by exact kK)) ?_))))))
 refine bG rfl rfl rfl rfl rfl rfl (aJ (hK9 _ ?_))
 clear hK9;try clear K9
 refine aU fun K15 hK15=> ?_
 refine an (bR rfl (ai (bU (h2)) (aJ (hK15 _ ?_))))
 clear hK15;try clear K15
 refine aq ?_
 refine aM (σ':=aE 145 [(4,_),(6,_)] [((4,0),_),((6,0),_),((0,9),_)] [(0,9)] [(0,9)]) kp ?_
 exact an (ai (az _ aa rfl rfl rfl rfl) (bG rfl rfl rfl rfl rfl rfl (aj (aG (bI (.inr rfl) rfl (.cellA aa rfl rfl rfl) (Le.outI [] [] (.agg rfl lz) rfl rfl rfl trivial ob tr rfl))))))
theorem yK (hT:T.length≤100000) (lv i:Nat) (hl:lv≤20) (hi:i < T.length) (ht:(dm T i).t=lq) {k j1 j2:Nat} (h1:Spec Tryz.prog 200 (aY [.ptr (0,9) 0, .v (.int .i64 7)] (ea T (bK T i) N)) (bc (.v (.int .i64 (k:Int))) (ea T j1 N) [(0,9)] [(0,9)])) (h2:Spec Tryz.prog 162 (aY [.ptr (0,9) 0, .v (bt [59])] (ea T j1 N)) (bc (.tup []) (ea T j2 N) [(0,9)] [(0,9)])):
  Spec Tryz.prog 202 (aY [.ptr (0,9) 0, .v (.int .i64 (lv:Int))] (ea T i N)) (PO T N (nd 6 k [] [],j2)):=by
 have hnx:=bQ T i N hi
 have hn:eK T i=false:=gi (by rw [ht];rfl)
 rw [ht] at hnx
 refine Spec.ofNI Tryz.func202 rfl Tryz.ntmps202 rfl ?_
 refine am (ai (aD (4,0) aa rfl rfl) (aj (am (bR rfl (ai (br aa _ _ ar (hnx) tr rfl ae (by simp)) ?_)))))
 refine oH rfl (aj (am (ai (aN _ aa rfl (by exact kK)) ?_)))
 refine ai (aD (6,0) aa rfl rfl) (bG rfl rfl rfl rfl rfl rfl (aj (aq (am (bR rfl (ai (br aa _ _ ar (dU T i N hi) tr rfl ae (by simp)) ?_))))))
 refine aj (aW rfl hn (aT (aq (am (ai (bh _ _ aa rfl ag (by (simp <;> rfl)) ah rfl) ?_)))))
 refine ej rfl (ai (aI aa al (cI Du 9 rfl ab lq) rfl rfl) ?_)
 refine ai (cj (r:=false) _ rfl rfl) (aj (aW rfl rfl (aT (am (bR rfl (ai (bU (cC T i N hi hT)) ?_))))))
 refine aj (aU fun K9 hK9=> ?_)
 refine aq ?_
 refine aM (σ':=aE 145 [(0,_),(1,_),(4,_),(5,_),(6,_)] [((0,9),_),((4,0),_),((6,0),_)] [(0,9)] [(0,9)]) kp ?_
 refine an (ej rfl (aj (ay (aq (am (ai (aV (r:=false) _ _ Tryz.underlying9 rfl rfl rfl) (cu rfl (aj (aW rfl rfl (an ?_))))))))))
 refine ai (aV (r:=false) _ _ Tryz.underlying9 rfl rfl rfl) (cu rfl (aj (aW rfl rfl (am (ai (aV (r:=false) _ _ Tryz.underlying9 rfl rfl rfl) (cu rfl (aj (aW rfl rfl (am (ai (aV (r:=false) _ _ Tryz.underlying9 rfl rfl rfl) ?_))))))))))
 refine cu rfl (aj (aW rfl rfl (am (ai (aV (r:=true) _ _ Tryz.underlying9 rfl rfl rfl) (cu rfl (aj (bM rfl rfl (an (bR rfl (ai (bU (h1)) ?_))))))))))
 refine ai (aN _ aa rfl (by exact kK)) ?_
 refine bG rfl rfl rfl rfl rfl rfl (aJ (hK9 _ ?_))
 clear hK9;try clear K9
 refine aU fun K16 hK16=> ?_
 refine aM (σ':=aE 145 [(0,_),(4,_),(6,_)] [((0,9),_),((4,0),_),((6,0),_)] [(0,9)] [(0,9)]) kp ?_
 refine an (bR rfl (ai (bU (h2)) (aJ (hK16 _ ?_))))
 clear hK16;try clear K16
 exact am (ai (az _ aa rfl rfl rfl rfl) (bG rfl rfl rfl rfl rfl rfl (aj (aG (bI (.inr rfl) rfl (.cellA aa rfl rfl rfl) (Le.outI [] [] (.agg rfl lz) rfl rfl rfl trivial ob tr rfl))))))
theorem zZ (hT:T.length≤100000) (lv i:Nat) (hl:lv≤20) (hi:i < T.length) (ht:(dm T i).t=nP) {x y:Nd} {j1 j2 j3 j4:Nat} (h1:Spec Tryz.prog 226 (aY [.ptr (0,9) 0, .v (.int .i64 (lv:Int)), .v (.int .i64 1)] (ea T (bK T i) N)) (PO T N (x,j1))) (h2:Spec Tryz.prog 162 (aY [.ptr (0,9) 0, .v (bt [44])] (ea T j1 N)) (bc (.tup []) (ea T j2 N) [(0,9)] [(0,9)])) (h3:Spec Tryz.prog 226 (aY [.ptr (0,9) 0, .v (.int .i64 (lv:Int)), .v (.int .i64 1)] (ea T j2 N)) (PO T N (y,j3))) (h4:Spec Tryz.prog 162 (aY [.ptr (0,9) 0, .v (bt [59])] (ea T j3 N)) (bc (.tup []) (ea T j4 N) [(0,9)] [(0,9)])):
  Spec Tryz.prog 202 (aY [.ptr (0,9) 0, .v (.int .i64 (lv:Int))] (ea T i N)) (PO T N (nd 8 0 [] [x,y],j4)):=by
 have hnx:=bQ T i N hi
 have hn:eK T i=false:=gi (by rw [ht];rfl)
 rw [ht] at hnx
 refine Spec.ofNI Tryz.func202 rfl Tryz.ntmps202 rfl ?_
 refine am (ai (aD (4,0) aa rfl rfl) (aj (am (bR rfl (ai (br aa _ _ ar (hnx) tr rfl ae (by simp)) ?_)))))
 refine oH rfl (aj (am (ai (aN _ aa rfl (by exact kK)) ?_)))
 refine ai (aD (6,0) aa rfl rfl) (bG rfl rfl rfl rfl rfl rfl (aj (aq (am (bR rfl (ai (br aa _ _ ar (dU T i N hi) tr rfl ae (by simp)) ?_))))))
 refine aj (aW rfl hn (aT (aq (am (ai (bh _ _ aa rfl ag (by (simp <;> rfl)) ah rfl) ?_)))))
 refine ej rfl (ai (aI aa al (cI Du 9 rfl ab nP) rfl rfl) ?_)
 refine ai (cj (r:=false) _ rfl rfl) (aj (aW rfl rfl (aT (am (bR rfl (ai (bU (cC T i N hi hT)) ?_))))))
 refine aj (aU fun K9 hK9=> ?_)
 refine aq ?_
 refine aM (σ':=aE 145 [(0,_),(1,_),(4,_),(5,_),(6,_)] [((0,9),_),((4,0),_),((6,0),_)] [(0,9)] [(0,9)]) kp ?_
 refine an (ej rfl (aj (ay (aq (am (ai (aV (r:=false) _ _ Tryz.underlying9 rfl rfl rfl) (cu rfl (aj (aW rfl rfl (an ?_))))))))))
 refine ai (aV (r:=false) _ _ Tryz.underlying9 rfl rfl rfl) (cu rfl (aj (aW rfl rfl (am (ai (aV (r:=false) _ _ Tryz.underlying9 rfl rfl rfl) (cu rfl (aj (aW rfl rfl (am (ai (aV (r:=false) _ _ Tryz.underlying9 rfl rfl rfl) ?_))))))))))
 refine cu rfl (aj (aW rfl rfl (am (ai (aV (r:=false) _ _ Tryz.underlying9 rfl rfl rfl) (cu rfl (aj (aW rfl rfl (am (ai (aV (r:=true) _ _ Tryz.underlying9 rfl rfl rfl) (cu rfl ?_))))))))))
 refine aj (bM rfl rfl (aU fun K17 hK17=> ?_))
 refine an (bR rfl (aX rfl (ai (bU (h1)) (ai (aD (13,0) aa rfl rfl) (bG rfl rfl rfl rfl rfl rfl (aJ (hK17 _ ?_)))))))
 clear hK17;try clear K17
 refine aU fun K18 hK18=> ?_
 refine aM (σ':=aE 145 [(0,_),(1,_),(4,_),(6,_),(13,_)] [((0,9),_),((4,0),_),((6,0),_),((13,0),_)] [(0,9)] [(0,9)]) kp ?_
 refine an (bR rfl (ai (bU (h2)) (aJ (hK18 _ ?_))))
 clear hK18;try clear K18
 refine bO 4 [126,127,128,129] [(0,9)] ae ae rfl (aL rfl) (rfl:_=[_,_,_,_]) (rfl:_=[_,_,_]) ?_
 refine ap (_,[]) (fun τ=> az _ aa rfl rfl rfl rfl) ?_
 refine fP rfl ?_
 refine ap (_,[]) (fun τ=> aH _ bX) ?_
 refine fQ rfl ?_
 refine ap (_,[]) (fun τ=> aH _ eg) ?_
 refine fU rfl ?_
 refine ap (_,[((0,9),_)]) (fun τ=> (kE aa ar (h3) ob rfl rfl ae)) ?_
 refine fY rfl (bm ⟨rfl,?_⟩)
 refine ai (bh _ _ aa rfl ag (by (simp <;> rfl)) ah rfl) ?_
 refine ai (aN _ aa rfl (by exact kK)) ?_
 refine bG rfl rfl rfl rfl rfl rfl (aJ (hK9 _ ?_))
 clear hK9;try clear K9
 refine aU fun K19 hK19=> ?_
 refine an (bR rfl (ai (bU (h4)) (aJ (hK19 _ ?_))))
 clear hK19;try clear K19
 exact am (ai (az _ aa rfl rfl rfl rfl) (bG rfl rfl rfl rfl rfl rfl (aj (aG (bI (.inr rfl) rfl (.cellA aa rfl rfl rfl) (Le.outI [] [] (.agg rfl lz) rfl rfl rfl trivial ob tr rfl))))))
theorem DY (hT:T.length≤100000) (lv i:Nat) (hl:lv≤20) (hi:i < T.length) (ht:(dm T i).t=qQ) {x:Nd} {j1 j2:Nat} (h1:Spec Tryz.prog 226 (aY [.ptr (0,9) 0, .v (.int .i64 (lv:Int)), .v (.int .i64 1)] (ea T (bK T i) N)) (PO T N (x,j1))) (h2:Spec Tryz.prog 162 (aY [.ptr (0,9) 0, .v (bt [59])] (ea T j1 N)) (bc (.tup []) (ea T j2 N) [(0,9)] [(0,9)])):
  Spec Tryz.prog 202 (aY [.ptr (0,9) 0, .v (.int .i64 (lv:Int))] (ea T i N)) (PO T N (nd 9 0 [] [x],j2)):=by
 have hnx:=bQ T i N hi
 have hn:eK T i=false:=gi (by rw [ht];rfl)
 rw [ht] at hnx
 refine Spec.ofNI Tryz.func202 rfl Tryz.ntmps202 rfl ?_
 refine am (ai (aD (4,0) aa rfl rfl) (aj (am (bR rfl (ai (br aa _ _ ar (hnx) tr rfl ae (by simp)) ?_)))))
 refine oH rfl (aj (am (ai (aN _ aa rfl (by exact kK)) ?_)))
 refine ai (aD (6,0) aa rfl rfl) (bG rfl rfl rfl rfl rfl rfl (aj (aq (am (bR rfl (ai (br aa _ _ ar (dU T i N hi) tr rfl ae (by simp)) ?_))))))
 refine aj (aW rfl hn (aT (aq (am (ai (bh _ _ aa rfl ag (by (simp <;> rfl)) ah rfl) ?_)))))
 refine ej rfl (ai (aI aa al (cI Du 9 rfl ab qQ) rfl rfl) ?_)
 refine ai (cj (r:=false) _ rfl rfl) (aj (aW rfl rfl (aT (am (bR rfl (ai (bU (cC T i N hi hT)) ?_))))))
 refine aj (aU fun K9 hK9=> ?_)
 refine aq ?_
 refine aM (σ':=aE 145 [(0,_),(1,_),(4,_),(5,_),(6,_)] [((0,9),_),((4,0),_),((6,0),_)] [(0,9)] [(0,9)]) kp ?_
 refine an (ej rfl (aj (ay (aq (am (ai (aV (r:=false) _ _ Tryz.underlying9 rfl rfl rfl) (cu rfl (aj (aW rfl rfl (an ?_))))))))))
 refine ai (aV (r:=false) _ _ Tryz.underlying9 rfl rfl rfl) (cu rfl (aj (aW rfl rfl (am (ai (aV (r:=false) _ _ Tryz.underlying9 rfl rfl rfl) (cu rfl (aj (aW rfl rfl (am (ai (aV (r:=false) _ _ Tryz.underlying9 rfl rfl rfl) ?_))))))))))
 refine cu rfl (aj (aW rfl rfl (am (ai (aV (r:=false) _ _ Tryz.underlying9 rfl rfl rfl) (cu rfl (aj (aW rfl rfl (am (ai (aV (r:=false) _ _ Tryz.underlying9 rfl rfl rfl) (cu rfl ?_))))))))))
 refine aj (aW rfl rfl (am (ai (aV (r:=true) _ _ Tryz.underlying9 rfl rfl rfl) (cu rfl (aj (bM rfl rfl ?_))))))
 refine aM (σ':=aE 145 [(0,_),(1,_),(4,_),(6,_)] [((0,9),_),((4,0),_),((6,0),_)] [(0,9)] [(0,9)]) kp ?_
 refine an (bR rfl (aX rfl (ai (bU (h1)) (ai (bh _ _ aa rfl ag (by (simp <;> rfl)) ah rfl) ?_))))
 refine ai (aN _ aa rfl (by exact kK)) ?_
 refine bG rfl rfl rfl rfl rfl rfl (aJ (hK9 _ ?_))
 clear hK9;try clear K9
 refine aU fun K18 hK18=> ?_
 refine an (bR rfl (ai (bU (h2)) (aJ (hK18 _ ?_))))
 clear hK18;try clear K18
 exact am (ai (az _ aa rfl rfl rfl rfl) (bG rfl rfl rfl rfl rfl rfl (aj (aG (bI (.inr rfl) rfl (.cellA aa rfl rfl rfl) (Le.outI [] [] (.agg rfl lz) rfl rfl rfl trivial ob tr rfl))))))
theorem FB (hT:T.length≤100000) (lv i:Nat) (hl:lv≤20) (hi:i < T.length) (ht:(dm T i).t=qr) {j1:Nat} (h1:Spec Tryz.prog 162 (aY [.ptr (0,9) 0, .v (bt [59])] (ea T (bK T i) N)) (bc (.tup []) (ea T j1 N) [(0,9)] [(0,9)])):
  Spec Tryz.prog 202 (aY [.ptr (0,9) 0, .v (.int .i64 (lv:Int))] (ea T i N)) (PO T N (nd 7 0 [] [],j1)):=by
 have hnx:=bQ T i N hi
 have hn:eK T i=false:=gi (by rw [ht];rfl)
 rw [ht] at hnx
 refine Spec.ofNI Tryz.func202 rfl Tryz.ntmps202 rfl ?_
 refine am (ai (aD (4,0) aa rfl rfl) (aj (am (bR rfl (ai (br aa _ _ ar (hnx) tr rfl ae (by simp)) ?_)))))
 refine oH rfl (aj (am (ai (aN _ aa rfl (by exact kK)) ?_)))
 refine ai (aD (6,0) aa rfl rfl) (bG rfl rfl rfl rfl rfl rfl (aj (aq (am (bR rfl (ai (br aa _ _ ar (dU T i N hi) tr rfl ae (by simp)) ?_))))))
 refine aj (aW rfl hn (aT (aq (am (ai (bh _ _ aa rfl ag (by (simp <;> rfl)) ah rfl) ?_)))))
 refine ej rfl (ai (aI aa al (cI Du 9 rfl ab qr) rfl rfl) ?_)
 refine ai (cj (r:=false) _ rfl rfl) (aj (aW rfl rfl (aT (am (bR rfl (ai (bU (cC T i N hi hT)) ?_))))))
 refine aj (aq (aq ?_))
 refine aM (σ':=aE 145 [(0,_),(1,_),(4,_),(5,_),(6,_)] [((0,9),_),((4,0),_),((6,0),_)] [(0,9)] [(0,9)]) kp ?_
 refine an (ej rfl (aj (ay (aq (am (ai (aV (r:=false) _ _ Tryz.underlying9 rfl rfl rfl) (cu rfl (aj (aW rfl rfl (an ?_))))))))))
 refine ai (aV (r:=false) _ _ Tryz.underlying9 rfl rfl rfl) (cu rfl (aj (aW rfl rfl (am (ai (aV (r:=false) _ _ Tryz.underlying9 rfl rfl rfl) (cu rfl (aj (aW rfl rfl (am (ai (aV (r:=false) _ _ Tryz.underlying9 rfl rfl rfl) ?_))))))))))
 refine cu rfl (aj (aW rfl rfl (am (ai (aV (r:=false) _ _ Tryz.underlying9 rfl rfl rfl) (cu rfl (aj (aW rfl rfl (am (ai (aV (r:=false) _ _ Tryz.underlying9 rfl rfl rfl) (cu rfl ?_))))))))))
 refine aj (aW rfl rfl (am (ai (aV (r:=false) _ _ Tryz.underlying9 rfl rfl rfl) (cu rfl (aj (aW rfl rfl (aq ?_)))))))
 refine aM (σ':=aE 145 [(0,_),(4,_),(6,_),(45,_)] [((0,9),_),((4,0),_),((6,0),_)] [(0,9)] [(0,9)]) kp ?_
 refine an (ai (aV (r:=true) _ _ Tryz.underlying9 rfl rfl rfl) (cu rfl (aj (bM rfl rfl (an (bb rfl rfl rfl (bG rfl rfl rfl rfl rfl rfl (ek (aU fun K19 hK19=> ?_)))))))))
 refine an (bR rfl (ai (bU (h1)) (aJ (hK19 _ ?_))))
 clear hK19;try clear K19
 exact am (ai (az _ aa rfl rfl rfl rfl) (bG rfl rfl rfl rfl rfl rfl (aj (aG (bI (.inr rfl) rfl (.cellA aa rfl rfl rfl) (Le.outI [] [] (.agg rfl lz) rfl rfl rfl trivial ob tr rfl))))))
theorem Ez (hT:T.length≤100000) (lv i:Nat) (hl:lv≤20) (hi:i < T.length) (ht:(dm T i).t=pR) {j1:Nat} (h1:Spec Tryz.prog 162 (aY [.ptr (0,9) 0, .v (bt [59])] (ea T (bK T i) N)) (bc (.tup []) (ea T j1 N) [(0,9)] [(0,9)])):
  Spec Tryz.prog 202 (aY [.ptr (0,9) 0, .v (.int .i64 (lv:Int))] (ea T i N)) (PO T N (nd 10 0 [] [],j1)):=by
 have hnx:=bQ T i N hi
 have hn:eK T i=false:=gi (by rw [ht];rfl)
 rw [ht] at hnx
 refine Spec.ofNI Tryz.func202 rfl Tryz.ntmps202 rfl ?_
 refine am (ai (aD (4,0) aa rfl rfl) (aj (am (bR rfl (ai (br aa _ _ ar (hnx) tr rfl ae (by simp)) ?_)))))
 refine oH rfl (aj (am (ai (aN _ aa rfl (by exact kK)) ?_)))
 refine ai (aD (6,0) aa rfl rfl) (bG rfl rfl rfl rfl rfl rfl (aj (aq (am (bR rfl (ai (br aa _ _ ar (dU T i N hi) tr rfl ae (by simp)) ?_))))))
 refine aj (aW rfl hn (aT (aq (am (ai (bh _ _ aa rfl ag (by (simp <;> rfl)) ah rfl) ?_)))))
 refine ej rfl (ai (aI aa al (cI Du 9 rfl ab pR) rfl rfl) ?_)
 refine ai (cj (r:=false) _ rfl rfl) (aj (aW rfl rfl (aT (am (bR rfl (ai (bU (cC T i N hi hT)) ?_))))))
 refine aj (aq (aq ?_))
 refine aM (σ':=aE 145 [(0,_),(1,_),(4,_),(5,_),(6,_)] [((0,9),_),((4,0),_),((6,0),_)] [(0,9)] [(0,9)]) kp ?_
 refine an (ej rfl (aj (ay (aq (am (ai (aV (r:=false) _ _ Tryz.underlying9 rfl rfl rfl) (cu rfl (aj (aW rfl rfl (an ?_))))))))))
 refine ai (aV (r:=false) _ _ Tryz.underlying9 rfl rfl rfl) (cu rfl (aj (aW rfl rfl (am (ai (aV (r:=false) _ _ Tryz.underlying9 rfl rfl rfl) (cu rfl (aj (aW rfl rfl (am (ai (aV (r:=false) _ _ Tryz.underlying9 rfl rfl rfl) ?_))))))))))
 refine cu rfl (aj (aW rfl rfl (am (ai (aV (r:=false) _ _ Tryz.underlying9 rfl rfl rfl) (cu rfl (aj (aW rfl rfl (am (ai (aV (r:=false) _ _ Tryz.underlying9 rfl rfl rfl) (cu rfl ?_))))))))))
 refine aj (aW rfl rfl (am (ai (aV (r:=false) _ _ Tryz.underlying9 rfl rfl rfl) (cu rfl (aj (aW rfl rfl (aq ?_)))))))
 refine aM (σ':=aE 145 [(0,_),(4,_),(6,_),(45,_)] [((0,9),_),((4,0),_),((6,0),_)] [(0,9)] [(0,9)]) kp ?_
 refine an (ai (aV (r:=false) _ _ Tryz.underlying9 rfl rfl rfl) (cu rfl (aj (aW rfl rfl (an (bb rfl rfl rfl (bG rfl rfl rfl rfl rfl rfl (ek (aU fun K19 hK19=> ?_)))))))))
 refine an (bR rfl (ai (bU (h1)) (aJ (hK19 _ ?_))))
 clear hK19;try clear K19
 exact am (ai (az _ aa rfl rfl rfl rfl) (bG rfl rfl rfl rfl rfl rfl (aj (aG (bI (.inr rfl) rfl (.cellA aa rfl rfl rfl) (Le.outI [] [] (.agg rfl lz) rfl rfl rfl trivial ob tr rfl))))))
end
end Go.Proofs.YtmjnackchaahbaaGreat
