/- Part 9 of the texts that the walk leans on: the machine, the walks, the plain laws. -/
import Derived.Test.YtmjnackchaahbaaGreatNrZ8
set_option linter.unusedSimpArgs false
set_option linter.unusedVariables false
namespace Go.Proofs.YtmjnackchaahbaaGreat
open Go.RowKit

theorem cG (l:List Tx) (n:Nat) (hn:l.length=n) (h1:n≤1000) (t:Tx):Spec Tryz.prog 199 (ba [.sl n (fj l), .v (bt t)] []) (aP (.v (.bool (decide (t∈l)))) []):=by
 refine Spec.ofN Tryz.func199 rfl Tryz.ntmps199 rfl ?_
 refine am (cp rfl (aj (aU fun K2 hK2=> ?_)))
 refine am (be rfl (aj (ay ?_)))
 refine bu (α:=Nat) (fun k=> k≤n∧t∉l.take k) 18 [(0,_),(1,_)] [] (fun k=> [(5, .v (.int .i64 (k:Int)))]) (fun k=> []) [] [] (fun k=> n - k) 0 ?_ (by
  refine Le.mkJ [] [] rfl ?_ ?_ trivial trivial ?_
  ·exact ⟨(iS rfl),(iV rfl),(cr ag),trivial⟩
  ·exact trivial
  kernel_rfl) ?_
 ·exact ⟨Nat.zero_le _,by simp⟩
 intro k hk
 obtain ⟨hk,hnt⟩:=hk
 refine aU fun K4 hK4=> ?_
 refine am (aX rfl (eV rfl (ai (bp _ aa rfl) (ai (bn _ _ rfl rfl rfl) (aj (aR rfl (fun hc9=> ?_) (fun hc9=> ?_)))))))
 ·skip
  refine br (hK4 _ ?_)
  clear hK4;try clear K4
  refine aq (ay (am (eV rfl (aX rfl (ai (bo _ _ aa rfl rfl _ rfl ab (by (simp only [aL,bf,bh,bw,bv];omega)) (by exact Nat.mul_one _)) ?_)))))
  refine ai (bO _ aa rfl (by exact jP _ _ ab) rfl) ?_
  refine eh rfl (ai (aV _ _ Tryz.underlying9 rfl rfl rfl) (aj (aR rfl (fun hc17=> ?_) (fun hc17=> ?_))))
  ·skip
   refine am (cp rfl (aj (aG (rP rfl rfl ?_))))
   exact decide_eq_true (hc17 ▸ kv ab)
  refine cw (an (aX rfl (ai (aZ _ _ rfl rfl (bF ab)) ?_)))
  refine be rfl (aJ (⟨k+1,?_,?_,?_⟩))
  ·exact ⟨by omega,kP hnt ab hc17⟩
  ·skip
   refine Le.mkJ [] [] rfl ?_ ?_ trivial trivial ?_
   ·exact ⟨(iS rfl),(iV rfl),(cr ag),trivial⟩
   ·exact trivial
   kernel_rfl
  omega
 have hall:t∉l:=by rwa [List.take_of_length_le ab] at hnt
 refine bD (id (hK2 _ ?_))
 clear hK2;try clear K2
 refine am (cp rfl (aj (aG (rP rfl rfl ?_))))
 exact decide_eq_false hall
theorem ms:Spec Tryz.prog 205 (ba [] []) (aP (.sl 9 (fj bltT)) []):=by
 refine Spec.ofN Tryz.func205 rfl Tryz.ntmps205 rfl ?_
 refine am (ai (bq _ fA) (aj (am (ai (bi _ _ aa rfl ag (by (simp <;> rfl)) ah rfl) ?_))))
 exact kE rfl (aj (aG (pY rfl rfl)))
theorem mu (t:Tx):Spec Tryz.prog 225 (ba [.v (bt t)] []) (aP (.v (.bool (vI t))) []):=by
 refine Spec.ofN Tryz.func225 rfl Tryz.ntmps225 rfl ?_
 refine am (cp rfl (aj (am (ai (aI aa (by repeat' (exact cV)) (ms) rfl rfl) ?_))))
 refine eh rfl (ai (aI aa al (cG bltT 9 rfl ab t) rfl rfl) ?_)
 refine cM rfl (dw (fun hg6=> ?_) (fun hg6=> ?_))
 ·skip
  refine aO rfl rfl ah ?_
  refine aO rfl rfl ah ?_
  refine aO rfl rfl ah ?_
  refine ai (aC _ _ _ rfl bN) (cp rfl (aj (aG (rP rfl rfl ?_))))
  unfold vI
  (rw [decide_eq_true hg6];rfl)
 refine ax rfl rfl (bi _ _ aa rfl ag (by (simp <;> rfl)) ah rfl) ?_
 refine ax rfl rfl (aH _ xo) (ax rfl rfl (aI aa al (cG MQ 19 rfl ab t) rfl rfl) ?_)
 refine ai (aC _ _ _ rfl bN) (cp rfl (aj (aG (rP rfl rfl ?_))))
 unfold vI
 (rw [decide_eq_false hg6];rfl)
theorem el {T:List Tk} {i:Nat} (h:i < T.length):bJ T i < T.length:=by unfold bJ;split <;> omega
abbrev eb (T:List Tk) (i:Nat) (N:List Tx):List (aB×Cells):=[((0,9), .box 222 [.sl T.length (sM T), .v (.int .i64 (i:Int)), .v (.int .i64 0), .v (.int .i64 0), .sl N.length (fj N)])]
theorem bQ (T:List Tk) (i:Nat) (N:List Tx) (hi:i < T.length):
  Spec Tryz.prog 160 (aY [.ptr (0,9) 0] (eb T i N)) (bc (.v (bt (di T i).t)) (eb T i N) [(0,9)] [(0,9)]):=by
 refine Spec.ofNI Tryz.func160 rfl Tryz.ntmps160 rfl ?_
 refine am (oP rfl (aj (aq (bK 12 [3,4,5,6,7,8,9,10,11,12,13,2] [] ae ae rfl (aK rfl) (rfl:_=[_,_,_,_,_,_,_,_,_,_,_,_]) (rfl:_=[]) ?_))))
 refine ap (_,[]) (fun τ=> aH _ cd) ?_
 refine fB rfl ?_
 refine ap (_,[]) (fun τ=> aT _ rfl rfl) ?_
 refine fH rfl ?_
 refine ap (_,[]) (fun τ=> aA _ aa rfl rfl rfl) ?_
 refine fQ rfl ?_
 refine ap (_,[]) (fun τ=> aF _ aa rfl rfl eI) ?_
 refine fV rfl ?_
 refine ap (_,[]) (fun τ=> aH _ cd) ?_
 refine gd rfl ?_
 refine ap (_,[]) (fun τ=> aT _ rfl rfl) ?_
 refine gV rfl ?_
 refine ap (_,[]) (fun τ=> aA _ aa rfl rfl rfl) ?_
 refine iG rfl ?_
 refine ap (_,[]) (fun τ=> aF _ aa rfl rfl ei) ?_
 refine jO rfl ?_
 refine ap (_,[]) (fun τ=> bo _ _ aa rfl rfl _ rfl ab (by (simp only [aL,bf,bh,bw,bv];omega)) ag) ?_
 refine jW rfl ?_
 refine ap (_,[]) (fun τ=> cU _ aa rfl rfl) ?_
 refine fE rfl ?_
 refine ap (_,[]) (fun τ=> bO _ aa rfl (by exact nx _ _ ab) rfl) ?_
 refine gf rfl ?_
 refine ap (_,[]) (fun τ=> bq _ xo) ?_
 refine jV rfl (bl ⟨rfl,?_⟩)
 exact aj (aG (bI (.inr rfl) rfl (.tmp kN) (Le.outI [] [] .v rfl rfl rfl trivial ob tr rfl)))
theorem dU (T:List Tk) (i:Nat) (N:List Tx) (hi:i < T.length):
  Spec Tryz.prog 197 (aY [.ptr (0,9) 0] (eb T i N)) (bc (.v (.bool (eF T i))) (eb T i N) [(0,9)] [(0,9)]):=by
 refine Spec.ofNI Tryz.func197 rfl Tryz.ntmps197 rfl ?_
 refine am (cp rfl (aj (aq (bK 28 [3,4,5,6,7,8,9,10,11,12,13,14,15,16,17,18,19,20,21,22,23,24,25,26,27,28,29,2] [] ae ae rfl (aK rfl) (rfl:_=[_,_,_,_,_,_,_,_,_,_,_,_,_,_,_,_,_,_,_,_,_,_,_,_,_,_,_,_]) (rfl:_=[]) ?_))))
 refine ap (_,[]) (fun τ=> aH _ cd) ?_
 refine fB rfl ?_
 refine ap (_,[]) (fun τ=> aT _ rfl rfl) ?_
 refine fH rfl ?_
 refine ap (_,[]) (fun τ=> aA _ aa rfl rfl rfl) ?_
 refine fQ rfl ?_
 refine ap (_,[]) (fun τ=> aF _ aa rfl rfl eI) ?_
 refine fV rfl ?_
 refine ap (_,[]) (fun τ=> aH _ cd) ?_
 refine gd rfl ?_
 refine ap (_,[]) (fun τ=> aT _ rfl rfl) ?_
 refine gV rfl ?_
 refine ap (_,[]) (fun τ=> aA _ aa rfl rfl rfl) ?_
 refine iG rfl ?_
 refine ap (_,[]) (fun τ=> aF _ aa rfl rfl ei) ?_
 refine jO rfl ?_
 refine ap (_,[]) (fun τ=> bo _ _ aa rfl rfl _ rfl ab (by (simp only [aL,bf,bh,bw,bv];omega)) ag) ?_
 refine jW rfl ?_
 refine ap (_,[]) (fun τ=> cU _ aa rfl rfl) ?_
 refine fE rfl ?_
 refine ap (_,[]) (fun τ=> bO _ aa rfl (by exact qH _ _ ab) rfl) ?_
 refine gf rfl ?_
 refine ap (_,[]) (fun τ=> bB _ _ rfl rfl rfl) ?_
 refine jV rfl ?_
 refine ap (_,[]) (fun τ=> aH _ bN) ?_
 refine oa (fun hg15=> ?_) (fun hg15=> ?_)
 ·skip
  have hr:eF T i= !vI (di T i).t:=by unfold eF;rw [decide_eq_true ab];rfl
  refine li rfl ?_
  refine bm (_,[]) rfl (fun τ=> rfl) (fun τ=> aH _ cd) ?_
  refine nR rfl ?_
  refine bm (_,[]) rfl (fun τ=> rfl) (fun τ=> aT _ rfl rfl) ?_
  refine sP rfl ?_
  refine bm (_,[]) rfl (fun τ=> rfl) (fun τ=> aA _ aa rfl rfl rfl) ?_
  refine sy rfl ?_
  refine bm (_,[]) rfl (fun τ=> rfl) (fun τ=> aF _ aa rfl rfl eI) ?_
  refine ut rfl ?_
  refine bm (_,[]) rfl (fun τ=> rfl) (fun τ=> aH _ cd) ?_
  refine vL rfl ?_
  refine bm (_,[]) rfl (fun τ=> rfl) (fun τ=> aT _ rfl rfl) ?_
  refine vW rfl ?_
  refine bm (_,[]) rfl (fun τ=> rfl) (fun τ=> aA _ aa rfl rfl rfl) ?_
  refine yp rfl ?_
  refine bm (_,[]) rfl (fun τ=> rfl) (fun τ=> aF _ aa rfl rfl ei) ?_
  refine yd rfl ?_
  refine bm (_,[]) rfl (fun τ=> rfl) (fun τ=> bo _ _ aa rfl rfl _ rfl ab (by (simp only [aL,bf,bh,bw,bv];omega)) ag) ?_
  refine xY rfl ?_
  refine bm (_,[]) rfl (fun τ=> rfl) (fun τ=> cU _ aa rfl rfl) ?_
  refine yy rfl ?_
  refine bm (_,[]) rfl (fun τ=> rfl) (fun τ=> bO _ aa rfl (by exact nx _ _ ab) rfl) ?_
  refine zi rfl ?_
  refine bm (_,[]) rfl (fun τ=> rfl) (fun τ=> (aI aa al (mu (di T i).t) rfl rfl)) ?_
  refine zr rfl ?_
  refine bm (_,[]) rfl (fun τ=> rfl) (fun τ=> co _ rfl rfl) ?_
  refine yg rfl ?_
  refine ap (_,[]) (fun τ=> aC _ _ _ rfl bN) ?_
  refine yV rfl ?_
  refine ap (_,[]) (fun τ=> bq _ bN) ?_
  refine yQ rfl (bl ⟨rfl,?_⟩)
  exact aj (aG (bI (.inr rfl) rfl (.tmp bN) (Le.outI [] [] (mz hr) rfl rfl rfl trivial ob tr rfl)))
 have hr:eF T i=false:=by unfold eF;rw [decide_eq_false ab];rfl
 refine li rfl ?_
 refine bW rfl (fun τ=> rfl) ah ?_
 refine nR rfl ?_
 refine bW rfl (fun τ=> rfl) ah ?_
 refine sP rfl ?_
 refine bW rfl (fun τ=> rfl) ah ?_
 refine sy rfl ?_
 refine bW rfl (fun τ=> rfl) ah ?_
 refine ut rfl ?_
 refine bW rfl (fun τ=> rfl) ah ?_
 refine vL rfl ?_
 refine bW rfl (fun τ=> rfl) ah ?_
 refine vW rfl ?_
 refine bW rfl (fun τ=> rfl) ah ?_
 refine yp rfl ?_
 refine bW rfl (fun τ=> rfl) ah ?_
 refine yd rfl ?_
 refine bW rfl (fun τ=> rfl) ah ?_
 refine xY rfl ?_
 refine bW rfl (fun τ=> rfl) ah ?_
 refine yy rfl ?_
 refine bW rfl (fun τ=> rfl) ah ?_
 refine zi rfl ?_
 refine bW rfl (fun τ=> rfl) ah ?_
 refine zr rfl ?_
 refine bW rfl (fun τ=> rfl) ah ?_
 refine yg rfl ?_
 refine ap (_,[]) (fun τ=> aC _ _ _ rfl bN) ?_
 refine yV rfl ?_
 refine ap (_,[]) (fun τ=> bq _ bN) ?_
 refine yQ rfl (bl ⟨rfl,?_⟩)
 exact aj (aG (bI (.inr rfl) rfl (.tmp bN) (Le.outI [] [] (mz hr) rfl rfl rfl trivial ob tr rfl)))
theorem cB (T:List Tk) (i:Nat) (N:List Tx) (hi:i < T.length) (hT:T.length≤100000):
  Spec Tryz.prog 196 (aY [.ptr (0,9) 0] (eb T i N)) (bc (.tup []) (eb T (bJ T i) N) [(0,9)] [(0,9)]):=by
 refine Spec.ofNI Tryz.func196 rfl Tryz.ntmps196 rfl ?_
 refine aq (bK 11 [2,3,4,5,6,7,8,9,10,11,12] [] ae ae rfl (aK rfl) (rfl:_=[_,_,_,_,_,_,_,_,_,_,_]) (rfl:_=[]) ?_)
 refine ap (_,[]) (fun τ=> aH _ cd) ?_
 refine fB rfl ?_
 refine ap (_,[]) (fun τ=> aT _ rfl rfl) ?_
 refine fH rfl ?_
 refine ap (_,[]) (fun τ=> aA _ aa rfl rfl rfl) ?_
 refine fQ rfl ?_
 refine ap (_,[]) (fun τ=> aF _ aa rfl rfl ei) ?_
 refine fV rfl ?_
 refine ap (_,[]) (fun τ=> aZ _ _ rfl rfl (bF ab)) ?_
 refine gd rfl ?_
 refine ap (_,[]) (fun τ=> aH _ cd) ?_
 refine gV rfl ?_
 refine ap (_,[]) (fun τ=> aT _ rfl rfl) ?_
 refine iG rfl ?_
 refine ap (_,[]) (fun τ=> aA _ aa rfl rfl rfl) ?_
 refine jO rfl ?_
 refine ap (_,[]) (fun τ=> aF _ aa rfl rfl eI) ?_
 refine jW rfl ?_
 refine ap (_,[]) (fun τ=> bp _ aa rfl) ?_
 refine fE rfl ?_
 refine ap (_,[]) (fun τ=> bn _ _ rfl rfl rfl) ?_
 refine gf rfl (bl ⟨rfl,?_⟩)
 refine aj (aR rfl (fun hc12=> ?_) (fun hc12=> ?_))
 ·skip
  have ht:bJ T i=i+1:=by unfold bJ;rw [if_pos ab]
  refine an (bS rfl (ai (aT _ rfl rfl) (bb rfl rfl rfl (cf rfl rfl rfl (ai (aZ _ _ rfl rfl (bF ab)) ?_)))))
  exact ai (aT _ rfl rfl) (bb rfl rfl rfl (bG rfl rfl rfl rfl rfl rfl (aJ (fz (.inl rfl) rfl (Le.outI [] [] (.tup rfl bg) rfl rfl rfl trivial ⟨⟨rfl,⟨_,rfl, .box rfl (au .sl (au (cr (by rw [ht] <;> omega)) lz))⟩,rfl⟩,trivial⟩ tr rfl)))))
 have ht:bJ T i=i:=by unfold bJ;rw [if_neg ab]
 exact br (fz (.inl rfl) rfl (Le.outI [] [] (.tup rfl bg) rfl rfl rfl trivial ⟨⟨rfl,⟨_,rfl, .box rfl (au .sl (au (cr (by rw [ht] <;> omega)) lz))⟩,rfl⟩,trivial⟩ tr rfl))
theorem fT (T:List Tk) (i j:Nat) (N:List Tx) (s:Tx) (hi:i < T.length) (hT:T.length≤100000) (h:gU T s i=some j):
  Spec Tryz.prog 162 (aY [.ptr (0,9) 0, .v (bt s)] (eb T i N)) (bc (.tup []) (eb T j N) [(0,9)] [(0,9)]):=by
 have ⟨hs,hj⟩:(di T i).t=s∧bJ T i=j:=by
  unfold gU at h
  split at h
  ·exact ⟨by assumption,Option.some.inj h⟩
  cases h
 subst hs
 subst hj
 refine Spec.ofNI Tryz.func162 rfl Tryz.ntmps162 rfl ?_
 refine aq (am (bS rfl (ai (aT _ rfl rfl) (bb rfl rfl rfl (cf rfl rfl rfl (kg rfl rfl rfl (cM rfl (ax rfl rfl (aH _ cd) (ax rfl rfl (bs aa _ _ ar (bQ T i N hi) tr rfl ae (by simp)) ?_)))))))))
 refine ax rfl rfl (aH _ xo) (ax rfl rfl (tj (r:=false) _ _ Tryz.underlying9 rfl rfl (by exact bne_self_eq_false _)) ?_)
 refine ai (aC _ _ _ rfl bN) (aj (aW rfl rfl (aS (am (bS rfl (ai (aT _ rfl rfl) (bb rfl rfl rfl (cf rfl rfl rfl (kg rfl rfl rfl (aj ?_))))))))))
 refine bL rfl rfl ?_
 refine aN (σ':=aE 28 [(0,_)] [((0,9),_)] [(0,9)] [(0,9)]) kp ?_
 refine an (bS rfl (ai (bU (cB T i N hi hT)) ?_))
 exact aJ (fz (.inl rfl) rfl (Le.outI [] [] (.tup rfl bg) rfl rfl rfl trivial ob tr rfl))
theorem kY {T:List Tk} {s:Tx} {lv i j:Nat} (h:rJ T s lv i=some j):lv≤20∧gU T s i=some j:=by
 unfold rJ at h
 split at h
 ·cases h
 rename_i hn
 refine ⟨?_,h⟩
 unfold gU at h
 split at h
 ·rename_i ht
  exact Nat.le_of_not_lt fun hl=> hn ⟨ht,hl⟩
 cases h
theorem jK {T:List Tk} {s:Tx} {i j:Nat} (h:gU T s i=some j) (hi:i < T.length):j < T.length:=by
 unfold gU at h
 split at h
 ·rw [← Option.some.inj h];exact el hi
 cases h
theorem oB (T:List Tk) (i j:Nat) (N:List Tx) (s:Tx) (lv:Nat) (hi:i < T.length) (hT:T.length≤100000) (h:rJ T s lv i=some j):
  Spec Tryz.prog 201 (aY [.ptr (0,9) 0, .v (bt s), .v (.int .i64 (lv:Int))] (eb T i N)) (bc (.tup []) (eb T j N) [(0,9)] [(0,9)]):=by
 obtain ⟨hl,he⟩:=kY h
 refine Spec.ofNI Tryz.func201 rfl Tryz.ntmps201 rfl ?_
 refine aq (am (bS rfl (ai (aT _ rfl rfl) (bb rfl rfl rfl (cf rfl rfl rfl (kg rfl rfl rfl (cM rfl (ax rfl rfl (aH _ cd) (ax rfl rfl (bs aa _ _ ar (bQ T i N hi) tr rfl ae (by simp)) ?_)))))))))
 refine ax rfl rfl (aH _ xo) (ax rfl rfl (aV _ _ Tryz.underlying9 rfl rfl rfl) (ai (aC _ _ _ rfl bN) (cM rfl (dw (fun hg17=> ?_) (fun hg17=> ?_)))))
 ·skip
  refine ax rfl rfl (aH _ ek) (ax rfl rfl (gx (r:=false) _ _ rfl rfl (decide_eq_false ab)) ?_)
  refine ai (aC _ _ _ rfl bN) (aj (aW rfl rfl (aS ?_)))
  refine aN (σ':=aE 30 [(0,_),(1,_)] [((0,9),_)] [(0,9)] [(0,9)]) kp ?_
  refine an (bS rfl (eh rfl (ai (bU (fT T i j N s hi hT he)) ?_)))
  exact aJ (fz (.inl rfl) rfl (Le.outI [] [] (.tup rfl bg) rfl rfl rfl trivial ob tr rfl))
 refine aO rfl rfl ah ?_
 refine aO rfl rfl ah ?_
 refine ai (aC _ _ _ rfl bN) (aj (aW rfl rfl (aS ?_)))
 refine aN (σ':=aE 30 [(0,_),(1,_)] [((0,9),_)] [(0,9)] [(0,9)]) kp ?_
 refine an (bS rfl (eh rfl (ai (bU (fT T i j N s hi hT he)) ?_)))
 exact aJ (fz (.inl rfl) rfl (Le.outI [] [] (.tup rfl bg) rfl rfl rfl trivial ob tr rfl))
theorem lm (T:List Tk) (i:Nat) (N:List Tx) (most:Nat) (hi:i < T.length) (hT:T.length≤100000) (hm:most≤1000) (r:Nat×Nat) (h:pu T most i=some r):
  Spec Tryz.prog 200 (aY [.ptr (0,9) 0, .v (.int .i64 (most:Int))] (eb T i N)) (bc (.v (.int .i64 (r.1:Int))) (eb T r.2 N) [(0,9)] [(0,9)]):=by
 have ⟨h1,h2,h3⟩:(di T i).k=2∧(di T i).n≤most∧r=((di T i).n,bJ T i):=by
  unfold pu at h
  split at h
  ·rename_i hx;exact ⟨hx.1,hx.2,(Option.some.inj h).symm⟩
  cases h
 subst h3
 refine Spec.ofNI Tryz.func200 rfl Tryz.ntmps200 rfl ?_
 refine am (be rfl (aj (aq (bK 11 [6,7,8,9,10,11,12,13,14,15,5] [(5,0)] ae ae rfl (aK rfl) (rfl:_=[_,_,_,_,_,_,_,_,_,_,_]) (rfl:_=[_]) ?_))))
 refine ap (_,[]) (fun τ=> aH _ cd) ?_
 refine fB rfl ?_
 refine ap (_,[]) (fun τ=> aT _ rfl rfl) ?_
 refine fH rfl ?_
 refine ap (_,[]) (fun τ=> aA _ aa rfl rfl rfl) ?_
 refine fQ rfl ?_
 refine ap (_,[]) (fun τ=> aF _ aa rfl rfl eI) ?_
 refine fV rfl ?_
 refine ap (_,[]) (fun τ=> aH _ cd) ?_
 refine gd rfl ?_
 refine ap (_,[]) (fun τ=> aT _ rfl rfl) ?_
 refine gV rfl ?_
 refine ap (_,[]) (fun τ=> aA _ aa rfl rfl rfl) ?_
 refine iG rfl ?_
 refine ap (_,[]) (fun τ=> aF _ aa rfl rfl ei) ?_
 refine jO rfl ?_
 refine ap (_,[]) (fun τ=> bo _ _ aa rfl rfl _ rfl ab (by (simp only [aL,bf,bh,bw,bv];omega)) ag) ?_
 refine jW rfl ?_
 refine ap (_,[]) (fun τ=> cg _ aa rfl (by exact nb _ _ hi) rfl) ?_
 refine fE rfl ?_
 refine ap (_,[((5,0),_)]) (fun τ=> aD (5,0) aa rfl rfl) ?_
 refine gf rfl (bl ⟨rfl,?_⟩)
 refine bG rfl rfl rfl rfl rfl rfl (aj (aq (am (bb rfl rfl rfl (cf rfl rfl rfl (ai (bT _ _ rfl rfl rfl) (aj (aW rfl (by rw [h1];rfl) ?_))))))))
 refine aq ?_
 refine aN (σ':=aE 44 [(0,_),(1,_),(5,_)] [((0,9),_),((5,0),_)] [(0,9)] [(0,9)]) kp ?_
 refine an (bb rfl rfl rfl (cf rfl rfl rfl (aX rfl (ai (gx _ _ rfl rfl rfl) (aj (aW rfl (decide_eq_false ab) ?_))))))
 refine aS (aq (am (bS rfl (ai (aT _ rfl rfl) (bb rfl rfl rfl (cf rfl rfl rfl (ai (bT (r:=false) _ _ rfl rfl rfl) (aj (aW rfl rfl (aS ?_))))))))))
 refine am (bS rfl (ai (bU (cB T i N hi hT)) ?_))
 exact aj (am (bb rfl rfl rfl (cf rfl rfl rfl (be rfl (aj (aG (bI (.inr rfl) rfl (.tmp kN) (Le.outI [] [] .v rfl rfl rfl trivial ob tr rfl))))))))
abbrev Ee (T:List Tk) (i:Nat) (N:List Tx):List (aB×Cells):=[((0,9), .box 222 [.sl T.length (sM T), .v (.int .i64 (i:Int)), .v (.int .i64 0), .v (.int .i64 0), .ref (1,9) 0 N.length]),((1,9), .row 9 1 (fj N))]
theorem ff (T:List Tk) (i:Nat) (N:List Tx) (hi:i < T.length):
  Spec Tryz.prog 160 (aY [.ptr (0,9) 0] (Ee T i N)) (bc (.v (bt (di T i).t)) (Ee T i N) [(0,9),(1,9)] [(0,9),(1,9)]):=by
 refine Spec.ofNI Tryz.func160 rfl Tryz.ntmps160 rfl ?_
 refine am (oP rfl (aj (aq (bK 12 [3,4,5,6,7,8,9,10,11,12,13,2] [] ae ae rfl (aK rfl) (rfl:_=[_,_,_,_,_,_,_,_,_,_,_,_]) (rfl:_=[]) ?_))))
 refine ap (_,[]) (fun τ=> aH _ cd) ?_
 refine fB rfl ?_
 refine ap (_,[]) (fun τ=> aT _ rfl rfl) ?_
 refine fH rfl ?_
 refine ap (_,[]) (fun τ=> aA _ aa rfl rfl rfl) ?_
 refine fQ rfl ?_
 refine ap (_,[]) (fun τ=> aF _ aa rfl rfl eI) ?_
 refine fV rfl ?_
 refine ap (_,[]) (fun τ=> aH _ cd) ?_
 refine gd rfl ?_
 refine ap (_,[]) (fun τ=> aT _ rfl rfl) ?_
 refine gV rfl ?_
 refine ap (_,[]) (fun τ=> aA _ aa rfl rfl rfl) ?_
 refine iG rfl ?_
 refine ap (_,[]) (fun τ=> aF _ aa rfl rfl ei) ?_
 refine jO rfl ?_
 refine ap (_,[]) (fun τ=> bo _ _ aa rfl rfl _ rfl ab (by (simp only [aL,bf,bh,bw,bv];omega)) ag) ?_
 refine jW rfl ?_
 refine ap (_,[]) (fun τ=> cU _ aa rfl rfl) ?_
 refine fE rfl ?_
 refine ap (_,[]) (fun τ=> bO _ aa rfl (by exact nx _ _ ab) rfl) ?_
 refine gf rfl ?_
 refine ap (_,[]) (fun τ=> bq _ xo) ?_
 refine jV rfl (bl ⟨rfl,?_⟩)
 exact aj (aG (bI (.inr rfl) rfl (.tmp kN) (Le.outI [] [] .v rfl rfl rfl trivial ob tr rfl)))
theorem vK (T:List Tk) (i:Nat) (N:List Tx) (hi:i < T.length):
  Spec Tryz.prog 197 (aY [.ptr (0,9) 0] (Ee T i N)) (bc (.v (.bool (eF T i))) (Ee T i N) [(0,9),(1,9)] [(0,9),(1,9)]):=by
 refine Spec.ofNI Tryz.func197 rfl Tryz.ntmps197 rfl ?_
 refine am (cp rfl (aj (aq (bK 28 [3,4,5,6,7,8,9,10,11,12,13,14,15,16,17,18,19,20,21,22,23,24,25,26,27,28,29,2] [] ae ae rfl (aK rfl) (rfl:_=[_,_,_,_,_,_,_,_,_,_,_,_,_,_,_,_,_,_,_,_,_,_,_,_,_,_,_,_]) (rfl:_=[]) ?_))))
 refine ap (_,[]) (fun τ=> aH _ cd) ?_
 refine fB rfl ?_
 refine ap (_,[]) (fun τ=> aT _ rfl rfl) ?_
 refine fH rfl ?_
 refine ap (_,[]) (fun τ=> aA _ aa rfl rfl rfl) ?_
 refine fQ rfl ?_
 refine ap (_,[]) (fun τ=> aF _ aa rfl rfl eI) ?_
 refine fV rfl ?_
 refine ap (_,[]) (fun τ=> aH _ cd) ?_
 refine gd rfl ?_
 refine ap (_,[]) (fun τ=> aT _ rfl rfl) ?_
 refine gV rfl ?_
 refine ap (_,[]) (fun τ=> aA _ aa rfl rfl rfl) ?_
 refine iG rfl ?_
 refine ap (_,[]) (fun τ=> aF _ aa rfl rfl ei) ?_
 refine jO rfl ?_
 refine ap (_,[]) (fun τ=> bo _ _ aa rfl rfl _ rfl ab (by (simp only [aL,bf,bh,bw,bv];omega)) ag) ?_
 refine jW rfl ?_
 refine ap (_,[]) (fun τ=> cU _ aa rfl rfl) ?_
 refine fE rfl ?_
 refine ap (_,[]) (fun τ=> bO _ aa rfl (by exact qH _ _ ab) rfl) ?_
 refine gf rfl ?_
 refine ap (_,[]) (fun τ=> bB _ _ rfl rfl rfl) ?_
 refine jV rfl ?_
 refine ap (_,[]) (fun τ=> aH _ bN) ?_
 refine oa (fun hg15=> ?_) (fun hg15=> ?_)
 ·skip
  have hr:eF T i= !vI (di T i).t:=by unfold eF;rw [decide_eq_true ab];rfl
  refine li rfl ?_
  refine bm (_,[]) rfl (fun τ=> rfl) (fun τ=> aH _ cd) ?_
  refine nR rfl ?_
  refine bm (_,[]) rfl (fun τ=> rfl) (fun τ=> aT _ rfl rfl) ?_
  refine sP rfl ?_
  refine bm (_,[]) rfl (fun τ=> rfl) (fun τ=> aA _ aa rfl rfl rfl) ?_
  refine sy rfl ?_
  refine bm (_,[]) rfl (fun τ=> rfl) (fun τ=> aF _ aa rfl rfl eI) ?_
  refine ut rfl ?_
  refine bm (_,[]) rfl (fun τ=> rfl) (fun τ=> aH _ cd) ?_
  refine vL rfl ?_
  refine bm (_,[]) rfl (fun τ=> rfl) (fun τ=> aT _ rfl rfl) ?_
  refine vW rfl ?_
  refine bm (_,[]) rfl (fun τ=> rfl) (fun τ=> aA _ aa rfl rfl rfl) ?_
  refine yp rfl ?_
  refine bm (_,[]) rfl (fun τ=> rfl) (fun τ=> aF _ aa rfl rfl ei) ?_
  refine yd rfl ?_
  refine bm (_,[]) rfl (fun τ=> rfl) (fun τ=> bo _ _ aa rfl rfl _ rfl ab (by (simp only [aL,bf,bh,bw,bv];omega)) ag) ?_
  refine xY rfl ?_
  refine bm (_,[]) rfl (fun τ=> rfl) (fun τ=> cU _ aa rfl rfl) ?_
  refine yy rfl ?_
  refine bm (_,[]) rfl (fun τ=> rfl) (fun τ=> bO _ aa rfl (by exact nx _ _ ab) rfl) ?_
  refine zi rfl ?_
  refine bm (_,[]) rfl (fun τ=> rfl) (fun τ=> (aI aa al (mu (di T i).t) rfl rfl)) ?_
  refine zr rfl ?_
  refine bm (_,[]) rfl (fun τ=> rfl) (fun τ=> co _ rfl rfl) ?_
  refine yg rfl ?_
  refine ap (_,[]) (fun τ=> aC _ _ _ rfl bN) ?_
  refine yV rfl ?_
  refine ap (_,[]) (fun τ=> bq _ bN) ?_
  refine yQ rfl (bl ⟨rfl,?_⟩)
  exact aj (aG (bI (.inr rfl) rfl (.tmp bN) (Le.outI [] [] (mz hr) rfl rfl rfl trivial ob tr rfl)))
 have hr:eF T i=false:=by unfold eF;rw [decide_eq_false ab];rfl
 refine li rfl ?_
 refine bW rfl (fun τ=> rfl) ah ?_
 refine nR rfl ?_
 refine bW rfl (fun τ=> rfl) ah ?_
 refine sP rfl ?_
 refine bW rfl (fun τ=> rfl) ah ?_
 refine sy rfl ?_
 refine bW rfl (fun τ=> rfl) ah ?_
 refine ut rfl ?_
 refine bW rfl (fun τ=> rfl) ah ?_
 refine vL rfl ?_
 refine bW rfl (fun τ=> rfl) ah ?_
 refine vW rfl ?_
 refine bW rfl (fun τ=> rfl) ah ?_
 refine yp rfl ?_
 refine bW rfl (fun τ=> rfl) ah ?_
 refine yd rfl ?_
 refine bW rfl (fun τ=> rfl) ah ?_
 refine xY rfl ?_
 refine bW rfl (fun τ=> rfl) ah ?_
 refine yy rfl ?_
 refine bW rfl (fun τ=> rfl) ah ?_
 refine zi rfl ?_
 refine bW rfl (fun τ=> rfl) ah ?_
 refine zr rfl ?_
 refine bW rfl (fun τ=> rfl) ah ?_
 refine yg rfl ?_
 refine ap (_,[]) (fun τ=> aC _ _ _ rfl bN) ?_
 refine yV rfl ?_
 refine ap (_,[]) (fun τ=> bq _ bN) ?_
 refine yQ rfl (bl ⟨rfl,?_⟩)
 exact aj (aG (bI (.inr rfl) rfl (.tmp bN) (Le.outI [] [] (mz hr) rfl rfl rfl trivial ob tr rfl)))
theorem kS (T:List Tk) (i:Nat) (N:List Tx) (hi:i < T.length) (hT:T.length≤100000):
  Spec Tryz.prog 196 (aY [.ptr (0,9) 0] (Ee T i N)) (bc (.tup []) (Ee T (bJ T i) N) [(0,9),(1,9)] [(0,9),(1,9)]):=by
 refine Spec.ofNI Tryz.func196 rfl Tryz.ntmps196 rfl ?_
 refine aq (bK 11 [2,3,4,5,6,7,8,9,10,11,12] [] ae ae rfl (aK rfl) (rfl:_=[_,_,_,_,_,_,_,_,_,_,_]) (rfl:_=[]) ?_)
 refine ap (_,[]) (fun τ=> aH _ cd) ?_
 refine fB rfl ?_
 refine ap (_,[]) (fun τ=> aT _ rfl rfl) ?_
 refine fH rfl ?_
 refine ap (_,[]) (fun τ=> aA _ aa rfl rfl rfl) ?_
 refine fQ rfl ?_
 refine ap (_,[]) (fun τ=> aF _ aa rfl rfl ei) ?_
 refine fV rfl ?_
 refine ap (_,[]) (fun τ=> aZ _ _ rfl rfl (bF ab)) ?_
 refine gd rfl ?_
 refine ap (_,[]) (fun τ=> aH _ cd) ?_
 refine gV rfl ?_
 refine ap (_,[]) (fun τ=> aT _ rfl rfl) ?_
 refine iG rfl ?_
 refine ap (_,[]) (fun τ=> aA _ aa rfl rfl rfl) ?_
 refine jO rfl ?_
 refine ap (_,[]) (fun τ=> aF _ aa rfl rfl eI) ?_
 refine jW rfl ?_
 refine ap (_,[]) (fun τ=> bp _ aa rfl) ?_
 refine fE rfl ?_
 refine ap (_,[]) (fun τ=> bn _ _ rfl rfl rfl) ?_
 refine gf rfl (bl ⟨rfl,?_⟩)
 refine aj (aR rfl (fun hc12=> ?_) (fun hc12=> ?_))
 ·skip
  have ht:bJ T i=i+1:=by unfold bJ;rw [if_pos ab]
  refine an (bS rfl (ai (aT _ rfl rfl) (bb rfl rfl rfl (cf rfl rfl rfl (ai (aZ _ _ rfl rfl (bF ab)) ?_)))))
  exact ai (aT _ rfl rfl) (bb rfl rfl rfl (bG rfl rfl rfl rfl rfl rfl (aJ (fz (.inl rfl) rfl (Le.outI [] [] (.tup rfl bg) rfl rfl rfl trivial ⟨⟨rfl,⟨_,rfl, .box rfl (au .sl (au (cr (by rw [ht] <;> omega)) lz))⟩,rfl⟩,⟨rfl,⟨_,rfl, .rowE rfl⟩,rfl⟩,trivial⟩ tr rfl)))))
 have ht:bJ T i=i:=by unfold bJ;rw [if_neg ab]
 exact br (fz (.inl rfl) rfl (Le.outI [] [] (.tup rfl bg) rfl rfl rfl trivial ⟨⟨rfl,⟨_,rfl, .box rfl (au .sl (au (cr (by rw [ht] <;> omega)) lz))⟩,rfl⟩,⟨rfl,⟨_,rfl, .rowE rfl⟩,rfl⟩,trivial⟩ tr rfl))
theorem tb (T:List Tk) (i j:Nat) (N:List Tx) (s:Tx) (hi:i < T.length) (hT:T.length≤100000) (h:gU T s i=some j):
  Spec Tryz.prog 162 (aY [.ptr (0,9) 0, .v (bt s)] (Ee T i N)) (bc (.tup []) (Ee T j N) [(0,9),(1,9)] [(0,9),(1,9)]):=by
 have ⟨hs,hj⟩:(di T i).t=s∧bJ T i=j:=by
  unfold gU at h
  split at h
  ·exact ⟨by assumption,Option.some.inj h⟩
  cases h
 subst hs
 subst hj
 refine Spec.ofNI Tryz.func162 rfl Tryz.ntmps162 rfl ?_
 refine aq (am (bS rfl (ai (aT _ rfl rfl) (bb rfl rfl rfl (cf rfl rfl rfl (kg rfl rfl rfl (cM rfl (ax rfl rfl (aH _ cd) (ax rfl rfl (bs aa _ _ ar (ff T i N hi) tr rfl ae (by simp)) ?_)))))))))
 refine ax rfl rfl (aH _ xo) (ax rfl rfl (tj (r:=false) _ _ Tryz.underlying9 rfl rfl (by exact bne_self_eq_false _)) ?_)
 refine ai (aC _ _ _ rfl bN) (aj (aW rfl rfl (aS (am (bS rfl (ai (aT _ rfl rfl) (bb rfl rfl rfl (cf rfl rfl rfl (kg rfl rfl rfl (aj ?_))))))))))
 refine bL rfl rfl ?_
 refine aN (σ':=aE 28 [(0,_)] [((0,9),_),((1,9),_)] [(0,9),(1,9)] [(0,9),(1,9)]) kp ?_
 refine an (bS rfl (ai (dZ aa [] ar (kS T i N hi hT) ob tr ae) ?_))
 exact aJ (fz (.inl rfl) rfl (Le.outI [] [] (.tup rfl bg) rfl rfl rfl trivial ob tr rfl))

abbrev pm (d:Nd):AV:= .agg [.v (.int .i64 (d.k:Int)), .v (.int .i64 (d.n:Int)), .v (bt d.s), .sl d.kn d.kids]
abbrev PO (T:List Tk) (N:List Tx) (r:Nd×Nat):St:=bc (pm r.1) (eb T r.2 N) [(0,9)] [(0,9)]
structure PE (T:List Tk) (N:List Tx) (f:Nat):Prop where
 expr: ∀ lv pr i r,lv≤20→1≤pr∧pr≤7→i < T.length→gN T f lv pr i=some r→r.2 < T.length∧Spec Tryz.prog 226 (aY [.ptr (0,9) 0, .v (.int .i64 (lv:Int)), .v (.int .i64 (pr:Int))] (eb T i N)) (PO T N r)
 un: ∀ s lv pr i r,lv≤20→1≤pr∧pr≤7→i < T.length→IO T f s lv pr i=some r→r.2 < T.length∧Spec Tryz.prog 235 (aY [.ptr (0,9) 0, .v (bt s), .v (.int .i64 (lv:Int)), .v (.int .i64 (pr:Int))] (eb T i N)) (PO T N r)
 bin: ∀ lv pr i r,lv≤20→(1≤pr∧pr≤6∧pr≠3)→i < T.length→yK T f lv pr i=some r→r.2 < T.length∧Spec Tryz.prog 236 (aY [.ptr (0,9) 0, .v (.int .i64 (lv:Int)), .v (.int .i64 (pr:Int))] (eb T i N)) (PO T N r)
 nest: ∀ lv i r,lv≤20→i < T.length→rq T f lv i=some r→r.2 < T.length∧Spec Tryz.prog 240 (aY [.ptr (0,9) 0, .v (.int .i64 (lv:Int))] (eb T i N)) (PO T N r)
 prim: ∀ lv i r,lv≤20→i < T.length→uf T f lv i=some r→r.2 < T.length∧Spec Tryz.prog 237 (aY [.ptr (0,9) 0, .v (.int .i64 (lv:Int))] (eb T i N)) (PO T N r)
section
variable {T:List Tk} {N:List Tx}
theorem yJ (f:Nat) (ih:PE T N f) (lv pr i:Nat) (r:Nd×Nat) (hl:lv≤20) (hp:1≤pr∧pr≤7) (hi:i < T.length) (h:gN T (f+1) lv pr i=some r):
  r.2 < T.length∧Spec Tryz.prog 226 (aY [.ptr (0,9) 0, .v (.int .i64 (lv:Int)), .v (.int .i64 (pr:Int))] (eb T i N)) (PO T N r):=by
 unfold gN at h
 by_cases h1:pr=3∧(di T i).t=[33]
 ·rw [if_pos h1] at h
  obtain ⟨ha,hb⟩:=ih.un _ _ _ _ _ hl ab hi h
  refine ⟨ha,?_⟩
  obtain ⟨rfl,h1⟩:=h1
  refine Spec.ofNI Tryz.func226 rfl Tryz.ntmps226 rfl ?_
  refine am (ai (aD (6,0) aa rfl rfl) (aj (aq (am (bS rfl (ai (aT _ rfl rfl) (bb rfl rfl rfl (cf rfl rfl rfl (ai (bT (r:=false) _ _ rfl rfl rfl) (aj ?_))))))))))
  refine aW rfl rfl (aS (am (bS rfl (ai (bs aa _ _ ar (bQ T i N hi) tr rfl ae (by simp)) ?_))))
  refine oP rfl (aj (aq (am (aX rfl (kg rfl rfl rfl (cM rfl (ax rfl rfl (aH _ xo) (ax rfl rfl (aV (r:=true) _ _ Tryz.underlying9 rfl rfl (by rw [h1];rfl)) ?_))))))))
  refine ai (aC _ _ _ rfl bN) (aj (bL rfl rfl (aq ?_)))
  refine aN (σ':=aE 50 [(0,_),(1,_),(6,_),(7,_)] [((0,9),_),((6,0),_)] [(0,9)] [(0,9)]) kp ?_
  exact an (bS rfl (eh rfl (aX rfl (ai (bU (hb)) (bG rfl rfl rfl rfl rfl rfl (aj (aG (bI (.inr rfl) rfl (.cellA aa rfl rfl rfl) (Le.outI [] [] (.agg rfl lz) rfl rfl rfl trivial ob tr rfl)))))))))
 rw [if_neg h1] at h
 by_cases h2:pr=3
 ·rw [if_pos h2] at h
  obtain ⟨ha,hb⟩:=ih.bin _ _ _ _ hl ab hi h
  refine ⟨ha,?_⟩
  subst h2
  have h1:(di T i).t≠[33]:=fun e=> h1 ⟨rfl,e⟩
  refine Spec.ofNI Tryz.func226 rfl Tryz.ntmps226 rfl ?_
  refine am (ai (aD (6,0) aa rfl rfl) (aj (aq (am (bS rfl (ai (aT _ rfl rfl) (bb rfl rfl rfl (cf rfl rfl rfl (ai (bT (r:=false) _ _ rfl rfl rfl) (aj ?_))))))))))
  refine aW rfl rfl (aS (am (bS rfl (ai (bs aa _ _ ar (bQ T i N hi) tr rfl ae (by simp)) ?_))))
  refine oP rfl (aj (aq (am (aX rfl (kg rfl rfl rfl (cM rfl (ax rfl rfl (aH _ xo) (ax rfl rfl (aV (r:=false) _ _ Tryz.underlying9 rfl rfl (beq_eq_false_iff_ne.2 h1)) ?_))))))))
  refine ai (aC _ _ _ rfl bN) (aj (aW rfl rfl (aS (aq (aq ?_)))))
  refine aN (σ':=aE 50 [(0,_),(1,_),(2,_),(6,_),(7,_)] [((0,9),_),((6,0),_)] [(0,9)] [(0,9)]) kp ?_
  refine an (aX rfl (kg rfl rfl rfl (aj (bL rfl rfl (am (bS rfl (aX rfl (ai (bU (hb)) (bG rfl rfl rfl rfl rfl rfl (aj ?_))))))))))
  exact aG (bI (.inr rfl) rfl (.cellA aa rfl rfl rfl) (Le.outI [] [] (.agg rfl lz) rfl rfl rfl trivial ob tr rfl))
 rw [if_neg h2] at h
 by_cases h3:pr=7∧(di T i).t=[45]
 ·rw [if_pos h3] at h
  obtain ⟨ha,hb⟩:=ih.un _ _ _ _ _ hl ab hi h
  refine ⟨ha,?_⟩
  obtain ⟨rfl,h3⟩:=h3
  refine Spec.ofNI Tryz.func226 rfl Tryz.ntmps226 rfl ?_
  refine am (ai (aD (6,0) aa rfl rfl) (aj (aq (am (bS rfl (ai (aT _ rfl rfl) (bb rfl rfl rfl (cf rfl rfl rfl (ai (bT (r:=false) _ _ rfl rfl rfl) (aj ?_))))))))))
  refine aW rfl rfl (aS (am (bS rfl (ai (bs aa _ _ ar (bQ T i N hi) tr rfl ae (by simp)) ?_))))
  refine oP rfl (aj (aq (am (aX rfl (gO rfl rfl rfl (cM rfl (aO rfl rfl ah ?_)))))))
  refine aO rfl rfl ah ?_
  refine ai (aC _ _ _ rfl bN) (aj (aW rfl rfl (aS (aq (aq ?_)))))
  refine aN (σ':=aE 50 [(0,_),(1,_),(2,_),(6,_),(7,_)] [((0,9),_),((6,0),_)] [(0,9)] [(0,9)]) kp ?_
  refine an (aX rfl (gO rfl rfl rfl (aj (aW rfl rfl (aS (aq (am (aX rfl (kg rfl rfl rfl (cM rfl ?_))))))))))
  refine ax rfl rfl (aH _ xo) (ax rfl rfl (aV (r:=true) _ _ Tryz.underlying9 rfl rfl (by rw [h3];rfl)) ?_)
  refine ai (aC _ _ _ rfl bN) (aj (bL rfl rfl (am (bS rfl (eh rfl (aX rfl (ai (bU (hb)) (bG rfl rfl rfl rfl rfl rfl (aj (aG ?_))))))))))
  exact bI (.inr rfl) rfl (.cellA aa rfl rfl rfl) (Le.outI [] [] (.agg rfl lz) rfl rfl rfl trivial ob tr rfl)
 rw [if_neg h3] at h
 by_cases h4:pr=7
 ·rw [if_pos h4] at h
  obtain ⟨ha,hb⟩:=ih.prim _ _ _ hl hi h
  refine ⟨ha,?_⟩
  subst h4
  have h3:(di T i).t≠[45]:=fun e=> h3 ⟨rfl,e⟩
  refine Spec.ofNI Tryz.func226 rfl Tryz.ntmps226 rfl ?_
  refine am (ai (aD (6,0) aa rfl rfl) (aj (aq (am (bS rfl (ai (aT _ rfl rfl) (bb rfl rfl rfl (cf rfl rfl rfl (ai (bT (r:=false) _ _ rfl rfl rfl) (aj ?_))))))))))
  refine aW rfl rfl (aS (am (bS rfl (ai (bs aa _ _ ar (bQ T i N hi) tr rfl ae (by simp)) ?_))))
  refine oP rfl (aj (aq (am (aX rfl (gO rfl rfl rfl (cM rfl (aO rfl rfl ah ?_)))))))
  refine aO rfl rfl ah ?_
  refine ai (aC _ _ _ rfl bN) (aj (aW rfl rfl (aS (aq (aq ?_)))))
  refine aN (σ':=aE 50 [(0,_),(1,_),(2,_),(6,_),(7,_)] [((0,9),_),((6,0),_)] [(0,9)] [(0,9)]) kp ?_
  refine an (aX rfl (gO rfl rfl rfl (aj (aW rfl rfl (aS (aq (am (aX rfl (kg rfl rfl rfl (cM rfl ?_))))))))))
  refine ax rfl rfl (aH _ xo) (ax rfl rfl (aV (r:=false) _ _ Tryz.underlying9 rfl rfl (beq_eq_false_iff_ne.2 h3)) ?_)
  refine ai (aC _ _ _ rfl bN) (aj (aW rfl rfl (aS (aq (am (aX rfl (kg rfl rfl rfl (aj (bL rfl rfl (aU fun K13 hK13=> ?_))))))))))
  refine an (bS rfl (aX rfl (ai (bU (hb)) (bG rfl rfl rfl rfl rfl rfl (aJ (hK13 _ ?_))))))
  clear hK13;try clear K13
  exact aG (bI (.inr rfl) rfl (.cellA aa rfl rfl rfl) (Le.outI [] [] (.agg rfl lz) rfl rfl rfl trivial ob tr rfl))
 rw [if_neg h4] at h
 obtain ⟨ha,hb⟩:=ih.bin _ _ _ _ hl ab hi h
 refine ⟨ha,?_⟩
 refine Spec.ofNI Tryz.func226 rfl Tryz.ntmps226 rfl ?_
 refine am (ai (aD (6,0) aa rfl rfl) (aj (aq (am (bS rfl (ai (aT _ rfl rfl) (bb rfl rfl rfl (cf rfl rfl rfl (ai (bT (r:=false) _ _ rfl rfl rfl) (aj ?_))))))))))
 refine aW rfl rfl (aS (am (bS rfl (ai (bs aa _ _ ar (bQ T i N hi) tr rfl ae (by simp)) ?_))))
 refine oP rfl (aj (aq (am (aX rfl (gO rfl rfl (beq_eq_false_iff_ne.2 ab) ?_)))))
 refine cM rfl (aO rfl rfl ah ?_)
 refine aO rfl rfl ah ?_
 refine ai (aC _ _ _ rfl bN) (aj (aW rfl rfl (aS (aq (aq ?_)))))
 refine aN (σ':=aE 50 [(0,_),(1,_),(2,_),(6,_),(7,_)] [((0,9),_),((6,0),_)] [(0,9)] [(0,9)]) kp ?_
 refine an (aX rfl (gO rfl rfl (beq_eq_false_iff_ne.2 ab) ?_))
 refine aj (aW rfl rfl (aS (aq (am (aX rfl (gO rfl rfl (beq_eq_false_iff_ne.2 ab) ?_))))))
 refine cM rfl (aO rfl rfl ah ?_)
 refine aO rfl rfl ah ?_
 refine ai (aC _ _ _ rfl bN) (aj (aW rfl rfl (aS (aq (am (aX rfl (gO rfl rfl (beq_eq_false_iff_ne.2 ab) ?_)))))))
 refine aj (aW rfl rfl (aS (aU fun K13 hK13=> ?_)))
 refine an (bS rfl (aX rfl (aX rfl (ai (bU (hb)) (bG rfl rfl rfl rfl rfl rfl (aJ (hK13 _ ?_)))))))
 clear hK13;try clear K13
 exact aG (bI (.inr rfl) rfl (.cellA aa rfl rfl rfl) (Le.outI [] [] (.agg rfl lz) rfl rfl rfl trivial ob tr rfl))
theorem Fo (hT:T.length≤100000) (f:Nat) (ih:PE T N f) (s:Tx) (lv pr i:Nat) (r:Nd×Nat) (hl:lv≤20) (hp:1≤pr∧pr≤7) (hi:i < T.length) (h:IO T (f+1) s lv pr i=some r):
  r.2 < T.length∧Spec Tryz.prog 235 (aY [.ptr (0,9) 0, .v (bt s), .v (.int .i64 (lv:Int)), .v (.int .i64 (pr:Int))] (eb T i N)) (PO T N r):=by
 unfold IO at h
 simp only [Option.bind_eq_bind,Option.bind_eq_some_iff,Option.pure_def,Option.some.injEq] at h
 obtain ⟨j,hj,⟨d,j2⟩,hd,rfl⟩:=h
 have ho:=kY hj
 have hjl:=jK ho.2 hi
 obtain ⟨ha,hb⟩:=ih.expr _ _ _ _ ho.1 hp hjl hd
 have hopen:=oB T i j N s (lv+1) hi hT hj
 refine ⟨ha,?_⟩
 refine Spec.ofNI Tryz.func235 rfl Tryz.ntmps235 rfl ?_
 refine am (ai (aD (8,0) aa rfl rfl) (aj (am (bS rfl (eh rfl (aX rfl (ai (aZ _ _ rfl rfl (bF ab)) ?_)))))))
 refine ai (bU (hopen)) (aj (aU fun K3 hK3=> ?_))
 refine an (bS rfl (aX rfl (ai (aZ _ _ rfl rfl (bF ab)) ?_)))
 refine aX rfl (ai (bU (hb)) (ai (aD (9,0) aa rfl rfl) (bG rfl rfl rfl rfl rfl rfl (aJ (hK3 _ ?_)))))
 clear hK3;try clear K3
 refine am (eh rfl (ai (az _ aa rfl rfl rfl rfl) (ai (bi _ _ aa rfl ag (by (simp <;> rfl)) ah rfl) ?_)))
 refine ai (aM _ aa rfl (by exact kH)) ?_
 exact bG rfl rfl rfl rfl rfl rfl (aj (aG (bI (.inr rfl) rfl (.cellA aa rfl rfl rfl) (Le.outI [] [] (.agg rfl lz) rfl rfl rfl trivial ob tr rfl))))
theorem xN (hT:T.length≤100000) (f:Nat) (ih:PE T N f) (lv i:Nat) (r:Nd×Nat) (hl:lv≤20) (hi:i < T.length) (h:rq T (f+1) lv i=some r):
  r.2 < T.length∧Spec Tryz.prog 240 (aY [.ptr (0,9) 0, .v (.int .i64 (lv:Int))] (eb T i N)) (PO T N r):=by
 unfold rq at h
 simp only [Option.bind_eq_bind,Option.bind_eq_some_iff,Option.pure_def,Option.some.injEq] at h
 obtain ⟨j,hj,⟨d,j2⟩,hd,j3,hj3,rfl⟩:=h
 have ho:=kY hj
 have hjl:=jK ho.2 hi
 obtain ⟨ha,hb⟩:=ih.expr _ _ _ _ ho.1 ab hjl hd
 have hopen:=oB T i j N [40] (lv+1) hi hT hj
 have hexp:=fT T j2 j3 N [41] ha hT hj3
 refine ⟨jK hj3 ha,?_⟩
 refine Spec.ofNI Tryz.func240 rfl Tryz.ntmps240 rfl ?_
 refine am (ai (aD (4,0) aa rfl rfl) (aj (am (bS rfl (aX rfl (ai (aZ _ _ rfl rfl (bF ab)) ?_))))))
 refine ai (bU (hopen)) (aj (aU fun K3 hK3=> ?_))
 refine an (bS rfl (aX rfl (ai (aZ _ _ rfl rfl (bF ab)) ?_)))
 refine ai (bU (hb)) (ai (aD (5,0) aa rfl rfl) (bG rfl rfl rfl rfl rfl rfl (aJ (hK3 _ ?_))))
 clear hK3;try clear K3
 refine aU fun K4 hK4=> ?_
 refine an (bS rfl (ai (bU (hexp)) (aJ (hK4 _ ?_))))
 clear hK4;try clear K4
 exact am (ai (az _ aa rfl rfl rfl rfl) (bG rfl rfl rfl rfl rfl rfl (aj (aG (bI (.inr rfl) rfl (.cellA aa rfl rfl rfl) (Le.outI [] [] (.agg rfl lz) rfl rfl rfl trivial ob tr rfl))))))
theorem zn (hT:T.length≤100000) (f:Nat) (ih:PE T N f) (lv i:Nat) (r:Nd×Nat) (hl:lv≤20) (hi:i < T.length) (h:uf T (f+1) lv i=some r):
  r.2 < T.length∧Spec Tryz.prog 237 (aY [.ptr (0,9) 0, .v (.int .i64 (lv:Int))] (eb T i N)) (PO T N r):=by
 have htl:=el hi
 have htake:=cB T i N hi hT
 unfold uf at h
 simp only at h
 by_cases h1:(di T i).t=[40]
 ·rw [if_pos h1] at h
  obtain ⟨ha,hb⟩:=ih.nest _ _ _ hl hi h
  refine ⟨ha,?_⟩
  refine Spec.ofNI Tryz.func237 rfl Tryz.ntmps237 rfl ?_
  refine am (ai (aD (4,0) aa rfl rfl) (aj (aq (bK 11 [8,9,10,11,12,13,14,15,16,17,5] [(5,0)] ae ae rfl (aK rfl) (rfl:_=[_,_,_,_,_,_,_,_,_,_,_]) (rfl:_=[_]) ?_))))
  refine ap (_,[]) (fun τ=> aH _ cd) ?_
  refine fB rfl ?_
  refine ap (_,[]) (fun τ=> aT _ rfl rfl) ?_
  refine fH rfl ?_
  refine ap (_,[]) (fun τ=> aA _ aa rfl rfl rfl) ?_
  refine fQ rfl ?_
  refine ap (_,[]) (fun τ=> aF _ aa rfl rfl eI) ?_
  refine fV rfl ?_
  refine ap (_,[]) (fun τ=> aH _ cd) ?_
  refine gd rfl ?_
  refine ap (_,[]) (fun τ=> aT _ rfl rfl) ?_
  refine gV rfl ?_
  refine ap (_,[]) (fun τ=> aA _ aa rfl rfl rfl) ?_
  refine iG rfl ?_
  refine ap (_,[]) (fun τ=> aF _ aa rfl rfl ei) ?_
  refine jO rfl ?_
  refine ap (_,[]) (fun τ=> bo _ _ aa rfl rfl _ rfl ab (by (simp only [aL,bf,bh,bw,bv];omega)) ag) ?_
  refine jW rfl ?_
  refine ap (_,[]) (fun τ=> cg _ aa rfl (by exact nb _ _ hi) rfl) ?_
  refine fE rfl ?_
  refine ap (_,[((5,0),_)]) (fun τ=> aD (5,0) aa rfl rfl) ?_
  refine gf rfl (bl ⟨rfl,?_⟩)
  refine bG rfl rfl rfl rfl rfl rfl (aj (aq (am (bb rfl rfl rfl (ai (aF _ aa rfl rfl fy) (ai (aV (r:=true) _ _ Tryz.underlying9 rfl rfl (by rw [h1];rfl)) ?_))))))
  refine aj (bL rfl rfl (aq ?_))
  refine aN (σ':=aE 72 [(0,_),(1,_),(4,_)] [((0,9),_),((4,0),_)] [(0,9)] [(0,9)]) kp ?_
  exact an (bS rfl (aX rfl (ai (bU (hb)) (bG rfl rfl rfl rfl rfl rfl (aj (aG (bI (.inr rfl) rfl (.cellA aa rfl rfl rfl) (Le.outI [] [] (.agg rfl lz) rfl rfl rfl trivial ob tr rfl))))))))
 rw [if_neg h1] at h
 by_cases h2:(di T i).t=Cm
 ·rw [if_pos h2] at h
  simp only [Option.bind_eq_bind,Option.bind_eq_some_iff,Option.pure_def,Option.some.injEq] at h
  obtain ⟨⟨d,j⟩,hd,rfl⟩:=h
  obtain ⟨ha,hb⟩:=ih.nest _ _ _ hl htl hd
  refine ⟨ha,?_⟩
  refine Spec.ofNI Tryz.func237 rfl Tryz.ntmps237 rfl ?_
  refine am (ai (aD (4,0) aa rfl rfl) (aj (aq (bK 11 [8,9,10,11,12,13,14,15,16,17,5] [(5,0)] ae ae rfl (aK rfl) (rfl:_=[_,_,_,_,_,_,_,_,_,_,_]) (rfl:_=[_]) ?_))))
  refine ap (_,[]) (fun τ=> aH _ cd) ?_
  refine fB rfl ?_
  refine ap (_,[]) (fun τ=> aT _ rfl rfl) ?_
  refine fH rfl ?_
  refine ap (_,[]) (fun τ=> aA _ aa rfl rfl rfl) ?_
  refine fQ rfl ?_
  refine ap (_,[]) (fun τ=> aF _ aa rfl rfl eI) ?_
  refine fV rfl ?_
  refine ap (_,[]) (fun τ=> aH _ cd) ?_
  refine gd rfl ?_
  refine ap (_,[]) (fun τ=> aT _ rfl rfl) ?_
  refine gV rfl ?_
  refine ap (_,[]) (fun τ=> aA _ aa rfl rfl rfl) ?_
  refine iG rfl ?_
  refine ap (_,[]) (fun τ=> aF _ aa rfl rfl ei) ?_
  refine jO rfl ?_
  refine ap (_,[]) (fun τ=> bo _ _ aa rfl rfl _ rfl ab (by (simp only [aL,bf,bh,bw,bv];omega)) ag) ?_
  refine jW rfl ?_
  refine ap (_,[]) (fun τ=> cg _ aa rfl (by exact nb _ _ hi) rfl) ?_
  refine fE rfl ?_
  refine ap (_,[((5,0),_)]) (fun τ=> aD (5,0) aa rfl rfl) ?_
  refine gf rfl (bl ⟨rfl,?_⟩)
  refine bG rfl rfl rfl rfl rfl rfl (aj (aq (am (bb rfl rfl rfl (ai (aF _ aa rfl rfl fy) (ai (aV (r:=false) _ _ Tryz.underlying9 rfl rfl (beq_eq_false_iff_ne.2 h1)) ?_))))))
  refine aj (aW rfl rfl (aS (aq (aq ?_))))
  refine aN (σ':=aE 72 [(0,_),(1,_),(4,_),(5,_)] [((0,9),_),((4,0),_),((5,0),_)] [(0,9)] [(0,9)]) kp ?_
  refine an (bb rfl rfl rfl (ai (aF _ aa rfl rfl fy) (ai (aV (r:=true) _ _ Tryz.underlying9 rfl rfl (by rw [h2];rfl)) ?_)))
  refine aj (bL rfl rfl (am (bS rfl (ai (bU (htake)) (aj (aU fun K8 hK8=> ?_))))))
  refine an (bS rfl (aX rfl (ai (bU (hb)) (ai (aD (6,0) aa rfl rfl) (bG rfl rfl rfl rfl rfl rfl (aJ (hK8 _ ?_)))))))
  clear hK8;try clear K8
  refine am (ai (az _ aa rfl rfl rfl rfl) (ai (bi _ _ aa rfl ag (by (simp <;> rfl)) ah rfl) ?_))
  refine ai (aM _ aa rfl (by exact kH)) ?_
  exact bG rfl rfl rfl rfl rfl rfl (aj (aG (bI (.inr rfl) rfl (.cellA aa rfl rfl rfl) (Le.outI [] [] (.agg rfl lz) rfl rfl rfl trivial ob tr rfl))))
 rw [if_neg h2] at h
 have hr:r.2=bJ T i:=by
  repeat' split at h
  all_goals first | (rw [← Option.some.inj h];done) | cases h
 refine ⟨by rw [hr];exact htl,?_⟩
 refine Spec.ofNI Tryz.func237 rfl Tryz.ntmps237 rfl ?_
 refine am (ai (aD (4,0) aa rfl rfl) (aj (aq (bK 11 [8,9,10,11,12,13,14,15,16,17,5] [(5,0)] ae ae rfl (aK rfl) (rfl:_=[_,_,_,_,_,_,_,_,_,_,_]) (rfl:_=[_]) ?_))))
 refine ap (_,[]) (fun τ=> aH _ cd) ?_
 refine fB rfl ?_
 refine ap (_,[]) (fun τ=> aT _ rfl rfl) ?_
 refine fH rfl ?_
 refine ap (_,[]) (fun τ=> aA _ aa rfl rfl rfl) ?_
 refine fQ rfl ?_
 refine ap (_,[]) (fun τ=> aF _ aa rfl rfl eI) ?_
 refine fV rfl ?_
 refine ap (_,[]) (fun τ=> aH _ cd) ?_
 refine gd rfl ?_
 refine ap (_,[]) (fun τ=> aT _ rfl rfl) ?_
 refine gV rfl ?_
 refine ap (_,[]) (fun τ=> aA _ aa rfl rfl rfl) ?_
 refine iG rfl ?_
 refine ap (_,[]) (fun τ=> aF _ aa rfl rfl ei) ?_
 refine jO rfl ?_
 refine ap (_,[]) (fun τ=> bo _ _ aa rfl rfl _ rfl ab (by (simp only [aL,bf,bh,bw,bv];omega)) ag) ?_
 refine jW rfl ?_
 refine ap (_,[]) (fun τ=> cg _ aa rfl (by exact nb _ _ hi) rfl) ?_
 refine fE rfl ?_
 refine ap (_,[((5,0),_)]) (fun τ=> aD (5,0) aa rfl rfl) ?_
 refine gf rfl (bl ⟨rfl,?_⟩)
 refine bG rfl rfl rfl rfl rfl rfl (aj (aq (am (bb rfl rfl rfl (ai (aF _ aa rfl rfl fy) (ai (aV (r:=false) _ _ Tryz.underlying9 rfl rfl (beq_eq_false_iff_ne.2 h1)) ?_))))))
 refine aj (aW rfl rfl (aS (aq (aq ?_))))
 refine aN (σ':=aE 72 [(0,_),(1,_),(4,_),(5,_)] [((0,9),_),((4,0),_),((5,0),_)] [(0,9)] [(0,9)]) kp ?_
 refine an (bb rfl rfl rfl (ai (aF _ aa rfl rfl fy) (ai (aV (r:=false) _ _ Tryz.underlying9 rfl rfl (beq_eq_false_iff_ne.2 h2)) ?_)))
 refine aj (aW rfl rfl (aS (am (ai (aM _ aa rfl (by exact kH)) ?_))))
 refine ai (aD (7,0) aa rfl rfl) (bG rfl rfl rfl rfl rfl rfl (aj (aU fun K8 hK8=> ?_)))
 refine am (bb rfl rfl rfl (cf rfl rfl rfl (ai (bB _ _ rfl rfl rfl) (aj (aR rfl (fun hc38=> ?_) (fun hc38=> ?_))))))
 ·skip
  rw [if_pos ab] at h
  obtain rfl:=Option.some.inj h
  refine an (bb rfl rfl rfl (cf rfl rfl rfl (ai (aM _ aa rfl (by exact kH)) ?_)))
  refine bG rfl rfl rfl rfl rfl rfl (aJ (hK8 _ ?_))
  clear hK8;try clear K8
  refine am (bS rfl (ai (bU (htake)) (aj (aq ?_))))
  refine aN (σ':=aE 72 [(4,_),(7,_)] [((4,0),_),((7,0),_),((0,9),_)] [(0,9)] [(0,9)]) kp ?_
  exact an (ai (az _ aa rfl rfl rfl rfl) (bG rfl rfl rfl rfl rfl rfl (aj (aG (bI (.inr rfl) rfl (.cellA aa rfl rfl rfl) (Le.outI [] [] (.agg rfl lz) rfl rfl rfl trivial ob tr rfl))))))
 rw [if_neg ab] at h
 refine am (bb rfl rfl rfl (ai (aF _ aa rfl rfl fy) (ai (aV _ _ Tryz.underlying9 rfl rfl rfl) (aj (aR rfl (fun hc44=> ?_) (fun hc44=> ?_))))))
 ·skip
  rw [if_pos (show (di T i).t=vX from hc44)] at h
  obtain rfl:=Option.some.inj h
  refine an (ai (aM _ aa rfl (by exact kH)) ?_)
  refine bG rfl rfl rfl rfl rfl rfl (aJ (hK8 _ ?_))
  clear hK8;try clear K8
  refine am (bS rfl (ai (bU (htake)) (aj (aq ?_))))
  refine aN (σ':=aE 72 [(4,_),(7,_)] [((4,0),_),((7,0),_),((0,9),_)] [(0,9)] [(0,9)]) kp ?_
  exact an (ai (az _ aa rfl rfl rfl rfl) (bG rfl rfl rfl rfl rfl rfl (aj (aG (bI (.inr rfl) rfl (.cellA aa rfl rfl rfl) (Le.outI [] [] (.agg rfl lz) rfl rfl rfl trivial ob tr rfl))))))
 rw [if_neg (show ¬ (di T i).t=vX from hc44)] at h
 refine am (bb rfl rfl rfl (ai (aF _ aa rfl rfl fy) (ai (aV _ _ Tryz.underlying9 rfl rfl rfl) (aj (aR rfl (fun hc48=> ?_) (fun hc48=> ?_))))))
 ·skip
  rw [if_pos (show (di T i).t=tL from hc48)] at h
  obtain rfl:=Option.some.inj h
  refine aN (σ':=aE 72 [(0,_),(4,_),(7,_)] [((0,9),_),((4,0),_),((7,0),_)] [(0,9)] [(0,9)]) kp ?_
  refine an (ai (aM _ aa rfl (by exact kH)) ?_)
  refine bG rfl rfl rfl rfl rfl rfl (aJ (hK8 _ ?_))
  clear hK8;try clear K8
  exact am (bS rfl (ai (bU (htake)) (aj (am (ai (az _ aa rfl rfl rfl rfl) (bG rfl rfl rfl rfl rfl rfl (aj (aG (bI (.inr rfl) rfl (.cellA aa rfl rfl rfl) (Le.outI [] [] (.agg rfl lz) rfl rfl rfl trivial ob tr rfl))))))))))
 rw [if_neg (show ¬ (di T i).t=tL from hc48)] at h
 refine aq ?_
 refine aN (σ':=aE 72 [(0,_),(4,_),(5,_),(7,_)] [((0,9),_),((4,0),_),((5,0),_),((7,0),_)] [(0,9)] [(0,9)]) kp ?_
 refine bK 4 [50,51,52,53] [] ae ae rfl (aK rfl) (rfl:_=[_,_,_,_]) (rfl:_=[]) ?_
 refine ap (_,[]) (fun τ=> (aI aa (by repeat' (exact cV)) (ms) rfl rfl)) ?_
 refine fB rfl ?_
 refine ap (_,[]) (fun τ=> aA _ aa rfl rfl rfl) ?_
 refine fH rfl ?_
 refine ap (_,[]) (fun τ=> aF _ aa rfl rfl fy) ?_
 refine fQ rfl ?_
 refine ap (_,[]) (fun τ=> (aI aa al (cG bltT 9 rfl ab (di T i).t) rfl rfl)) ?_
 refine fV rfl (bl ⟨rfl,?_⟩)
 refine aj (aR rfl (fun hc53=> ?_) (fun hc53=> ?_))
 ·skip
  rw [if_pos hc53] at h
  obtain rfl:=Option.some.inj h
  refine an (bb rfl rfl rfl (ai (aF _ aa rfl rfl fy) (ai (aM _ aa rfl (by exact kH)) ?_)))
  refine bG rfl rfl rfl rfl rfl rfl (aJ (hK8 _ ?_))
  clear hK8;try clear K8
  exact am (bS rfl (ai (bU (htake)) (aj (am (ai (az _ aa rfl rfl rfl rfl) (bG rfl rfl rfl rfl rfl rfl (aj (aG (bI (.inr rfl) rfl (.cellA aa rfl rfl rfl) (Le.outI [] [] (.agg rfl lz) rfl rfl rfl trivial ob tr rfl))))))))))
 rw [if_neg hc53] at h
 refine am (bS rfl (ai (bs aa _ _ ar (dU T i N hi) tr rfl ae (by simp)) ?_))
 refine aj (aR rfl (fun hc58=> ?_) (fun hc58=> ?_))
 ·skip
  rw [if_pos hc58] at h
  obtain rfl:=Option.some.inj h
  refine an (bb rfl rfl rfl (ai (aF _ aa rfl rfl fy) (ai (aM _ aa rfl (by exact kH)) ?_)))
  refine bG rfl rfl rfl rfl rfl rfl (aJ (hK8 _ ?_))
  clear hK8;try clear K8
  exact am (bS rfl (ai (bU (htake)) (aj (am (ai (az _ aa rfl rfl rfl rfl) (bG rfl rfl rfl rfl rfl rfl (aj (aG (bI (.inr rfl) rfl (.cellA aa rfl rfl rfl) (Le.outI [] [] (.agg rfl lz) rfl rfl rfl trivial ob tr rfl))))))))))
 exact absurd h (by rw [if_neg (by simp [hc58])];exact fun e=> by cases e)
theorem Eg (pr:Nat) (h:1≤pr∧pr≤6∧pr≠3):([PV.v (.slice none 0 0), .sl 1 (fj [[124,124]]), .sl 1 (fj [[38,38]]), .v (.slice none 0 0), .sl 6 (fj [[60],[60,61],[62],[62,61],[61,61],[33,61]]), .sl 2 (fj [[43],[45]]), .sl 2 (fj [[42],[47]])]:List PV)[pr]? =some (.sl (opsP.getD pr []).length (fj (opsP.getD pr []))):=by
 have:pr=1∨pr=2∨pr=4∨pr=5∨pr=6:=by omega
 rcases this with rfl | rfl | rfl | rfl | rfl <;> rfl
theorem Fp (pr:Nat):(opsP.getD pr []).length≤6:=by
 unfold opsP
 match pr with
 | 0=> decide | 1=> decide | 2=> decide | 3=> decide | 4=> decide | 5=> decide | 6=> decide
 | n+7=> simp
theorem qK {f lv pr:Nat} {d:Nd} {i:Nat} {r:Nd×Nat} (h:nF T f lv pr d i=some r): ∃ g,f=g+1∧((di T i).t∉opsP.getD pr []∧r=(d,i)∨(di T i).t∈opsP.getD pr []∧ ∃ e j,gN T g lv (pr+1) (bJ T i)=some (e,j)∧
  (pr=4∧r=(nd 18 0 (di T i).t [d,e],j)∨pr≠4∧nF T g lv pr (nd 18 0 (di T i).t [d,e]) j=some r)):=by
 cases f with
 | zero=> simp [nF] at h
 | succ g=>
  refine ⟨g,rfl,?_⟩
  unfold nF at h
  split at h
  ·rename_i hm
   simp only [Option.bind_eq_bind,Option.bind_eq_some_iff,Option.pure_def] at h
   obtain ⟨⟨e,j⟩,he,h⟩:=h
   refine .inr ⟨hm,e,j,he,?_⟩
   split at h
   ·rename_i h4;exact .inl ⟨h4,(Option.some.inj h).symm⟩
   rename_i h4;exact .inr ⟨h4,h⟩
  rename_i hm;exact .inl ⟨hm,(Option.some.inj h).symm⟩
theorem De (hT:T.length≤100000) (f:Nat) (ih: ∀ g,g≤f→PE T N g) (lv pr i:Nat) (r:Nd×Nat) (hl:lv≤20) (hp:1≤pr∧pr≤6∧pr≠3) (hi:i < T.length) (h:yK T (f+1) lv pr i=some r):
  r.2 < T.length∧Spec Tryz.prog 236 (aY [.ptr (0,9) 0, .v (.int .i64 (lv:Int)), .v (.int .i64 (pr:Int))] (eb T i N)) (PO T N r):=by
 unfold yK at h
 simp only [Option.bind_eq_bind,Option.bind_eq_some_iff] at h
 obtain ⟨⟨d,j⟩,hd,h⟩:=h
 simp only at h
 obtain ⟨ha,hb⟩:=(ih f (Nat.le_refl _)).expr _ _ _ _ hl ab hi hd
 have hend: ∀ (g:Nat) (d:Nd) (i:Nat),g≤f→i < T.length→nF T g lv pr d i=some r→r.2 < T.length:=by
  intro g
  induction g with
  | zero=> intro d i _ _ h;simp [nF] at h
  | succ g ihg=>
   intro d i hg hi h
   obtain ⟨g',hg',h | ⟨_,e,j,he,h⟩⟩:=qK h
   ·rw [h.2];exact hi
   obtain rfl:g=g':=by omega
   have hj:=((ih g ab).expr _ _ _ _ hl ab (el hi) he).1
   rcases h with h | h
   ·rw [h.2];exact hj
   exact ihg _ _ ab hj h.2
 refine ⟨hend f d j (Nat.le_refl _) ha h,?_⟩
 have hol:=Fp pr
 refine Spec.ofNI Tryz.func236 rfl Tryz.ntmps236 rfl ?_
 refine am (ai (aD (6,0) aa rfl rfl) (aj (am (ai (bi _ _ aa rfl ag (by (simp <;> rfl)) ah rfl) ?_))))
 refine ai (bi _ _ aa rfl ag (by (simp <;> rfl)) ah rfl) ?_
 refine ai (bi _ _ aa rfl ag (by (simp <;> rfl)) ah rfl) ?_
 refine ai (bi _ _ aa rfl ag (by (simp <;> rfl)) ah rfl) ?_
 refine ai (bi _ _ aa rfl ag (by (simp <;> rfl)) ah rfl) ?_
 refine ai (bi _ _ aa rfl ag (by (simp <;> rfl)) ah rfl) ?_
 refine kE rfl (aj (am (bS rfl (aX rfl (aX rfl (ai (aZ _ _ rfl rfl (bF ab)) ?_))))))
 refine ai (bU (hb)) (ai (aD (8,0) aa rfl rfl) (bG rfl rfl rfl rfl rfl rfl (aj (aU fun K4 hK4=> ?_))))
 refine ay ?_
 refine bu (α:=Nat×Nd×Nat) (fun z=> z.1≤f∧z.2.2 < T.length∧nF T z.1 lv pr z.2.1 z.2.2=some r) 53 [(0,_),(1,_),(2,_),(6,_),(7,_),(8,_)] [((6,0),_)] (fun z=> []) (fun z=> [((0,9), .box 222 [.sl T.length (sM T), .v (.int .i64 (z.2.2:Int)), .v (.int .i64 0), .v (.int .i64 0), .sl N.length (fj N)]),((8,0), .box 71 [.v (.int .i64 (z.2.1.k:Int)), .v (.int .i64 (z.2.1.n:Int)), .v (bt z.2.1.s), .sl z.2.1.kn z.2.1.kids])]) [(0,9)] [(0,9)] (fun z=> z.1) (f,d,j) ?_ (by
  refine Le.mkJ [] [] rfl ?_ ?_ trivial tr ?_
  ·exact ⟨(iP rfl),(iV rfl),(iV rfl),(iP rfl),(iS rfl),(iP rfl),trivial⟩
  ·exact ⟨(cm rfl rfl rfl),(fi rfl rfl rfl rfl lz),(fi rfl rfl rfl rfl (nu (nu (au (by repeat' (exact Lv.v)) lz)))),trivial⟩
  kernel_rfl) ?_
 ·exact ⟨Nat.le_refl _,ha,h⟩
 intro z hz
 obtain ⟨z1,z2,z3⟩:=z
 obtain ⟨hz1,hz2,hz3⟩:=hz
 obtain ⟨g,rfl,hm⟩:=qK hz3
 simp only at hz1 hz2 hm ⊢
 refine aU fun K5 hK5=> ?_
 refine aq (bK 14 [22,23,24,25,26,27,28,29,30,31,32,33,34,35] [] ae ae rfl (aK rfl) (rfl:_=[_,_,_,_,_,_,_,_,_,_,_,_,_,_]) (rfl:_=[]) ?_)
 refine ap (_,[]) (fun τ=> aH _ cd) ?_
 refine fB rfl ?_
 refine ap (_,[]) (fun τ=> aT _ rfl rfl) ?_
 refine fH rfl ?_
 refine ap (_,[]) (fun τ=> aA _ aa rfl rfl rfl) ?_
 refine fQ rfl ?_
 refine ap (_,[]) (fun τ=> aF _ aa rfl rfl ei) ?_
 refine fV rfl ?_
 refine ap (_,[]) (fun τ=> bB (r:=true) _ _ rfl rfl rfl) ?_
 refine gd rfl ?_
 refine ap (_,[]) (fun τ=> aH _ bN) ?_
 refine gV rfl ?_
 refine bm (_,[]) rfl (fun τ=> rfl) (fun τ=> aH _ mm) ?_
 refine iG rfl ?_
 refine bm (_,[]) rfl (fun τ=> rfl) (fun τ=> aH _ ek) ?_
 refine jO rfl ?_
 refine bm (_,[]) rfl (fun τ=> rfl) (fun τ=> bo _ _ aa rfl rfl _ rfl ab ah (by exact Nat.mul_one _)) ?_
 refine jW rfl ?_
 refine bm (_,[]) rfl (fun τ=> rfl) (fun τ=> bO _ aa rfl (by exact Eg pr hp) rfl) ?_
 refine fE rfl ?_
 refine bm (_,[]) rfl (fun τ=> rfl) (fun τ=> aH _ cd) ?_
 refine gf rfl ?_
 refine bm (_,[]) rfl (fun τ=> rfl) (fun τ=> (bs aa _ _ ar (bQ T z3 N hz2) tr rfl ae (by simp))) ?_
 refine jV rfl ?_
 refine bm (_,[]) rfl (fun τ=> rfl) (fun τ=> (aI aa al (cG (opsP.getD pr []) _ rfl ab (di T z3).t) rfl rfl)) ?_
 refine li rfl ?_
 refine ap (_,[]) (fun τ=> aC _ _ _ rfl bN) ?_
 refine nR rfl (bl ⟨rfl,?_⟩)
 refine aj (aR rfl (fun hc35=> ?_) (fun hc35=> ?_))
 ·skip
  obtain ⟨_,e,je,he,hm⟩:=hm.resolve_left fun x=> x.1 hc35
  obtain ⟨hea,heb⟩:=(ih g ab).expr _ _ _ _ hl ab (el hz2) he
  refine br (hK5 _ ?_)
  clear hK5;try clear K5
  refine ay (am (bS rfl (ai (bs aa _ _ ar (bQ T z3 N hz2) tr rfl ae (by simp)) ?_)))
  refine oP rfl (aj (aq ?_))
  refine aN (σ':=aE 53 [(0,_),(1,_),(2,_),(6,_),(7,_),(8,_),(9,_)] [((6,0),_),((0,9),_),((8,0),_)] [(0,9)] [(0,9)]) kp ?_
  refine an (bS rfl (ai (bU (cB T z3 N hz2 hT)) ?_))
  refine aj (aU fun K9 hK9=> ?_)
  refine an (bS rfl (aX rfl (aX rfl (ai (aZ _ _ rfl rfl (bF ab)) ?_))))
  refine ai (bU (heb)) (ai (aD (10,0) aa rfl rfl) (bG rfl rfl rfl rfl rfl rfl (aJ (hK9 _ ?_))))
  clear hK9;try clear K9
  refine am (eh rfl (ai (az _ aa rfl rfl rfl rfl) (ai (az _ aa rfl rfl rfl rfl) (ai (bi _ _ aa rfl ag (by (simp <;> rfl)) ah rfl) ?_))))
  refine ai (aM _ aa rfl (by exact kH)) ?_
  refine bG rfl rfl rfl rfl rfl rfl (aj (aq ?_))
  refine aN (σ':=aE 53 [(0,_),(1,_),(2,_),(6,_),(7,_),(8,_)] [((6,0),_),((0,9),_),((8,0),_)] [(0,9)] [(0,9)]) kp ?_
  refine an (aX rfl (ai (bB _ _ rfl rfl rfl) (aj (aR rfl (fun hc51=> ?_) (fun hc51=> ?_)))))
  ·skip
   have hr:=(hm.resolve_right fun x=> x.1 ab).2
   subst hr
   refine bD (id (hK4 _ ?_))
   clear hK4;try clear K4
   exact am (ai (az _ aa rfl rfl rfl rfl) (bG rfl rfl rfl rfl rfl rfl (aj (aG (bI (.inr rfl) rfl (.cellA aa rfl rfl rfl) (Le.outI [] [] (.agg rfl lz) rfl rfl rfl trivial ob tr rfl))))))
  have hm:=(hm.resolve_left fun x=> hc51 ab).2
  refine br (⟨(g,nd 18 0 (di T z3).t [z2,e],je),?_,?_,?_⟩)
  ·exact ⟨by simp only;omega,hea,hm⟩
  ·skip
   refine Le.mkJ [] [] rfl ?_ ?_ trivial tr ?_
   ·exact ⟨(iP rfl),(iV rfl),(iV rfl),(iP rfl),(iS rfl),(iP rfl),trivial⟩
   ·exact ⟨(cm rfl rfl rfl),(fi rfl rfl rfl rfl lz),(fi rfl rfl rfl rfl (nu (nu (au (by repeat' (exact Lv.v)) lz)))),trivial⟩
   kernel_rfl
  simp only;omega
 have hr:=(hm.resolve_right fun x=> hc35 x.1).2
 subst hr
 refine bD (id (hK4 _ ?_))
 clear hK4;try clear K4
 exact am (ai (az _ aa rfl rfl rfl rfl) (bG rfl rfl rfl rfl rfl rfl (aj (aG (bI (.inr rfl) rfl (.cellA aa rfl rfl rfl) (Le.outI [] [] (.agg rfl lz) rfl rfl rfl trivial ob tr rfl))))))
theorem HL (hT:T.length≤100000): ∀ f g,g≤f→PE T N g:=by
 intro f
 induction f with
 | zero=>
  intro g hg
  obtain rfl:g=0:=by omega
  exact ⟨fun _ _ _ _ _ _ _ h=> by simp [gN] at h,fun _ _ _ _ _ _ _ _ h=> by simp [IO] at h,fun _ _ _ _ _ _ _ h=> by simp [yK] at h,fun _ _ _ _ _ h=> by simp [rq] at h,fun _ _ _ _ _ h=> by simp [uf] at h⟩
 | succ f ih=>
  intro g hg
  rcases Nat.lt_or_ge g (f+1) with h | h
  ·exact ih g ab
  obtain rfl:g=f+1:=by omega
  exact ⟨yJ f (ih f (Nat.le_refl _)),Fo hT f (ih f (Nat.le_refl _)),De hT f ih,xN hT f (ih f (Nat.le_refl _)),zn hT f (ih f (Nat.le_refl _))⟩
theorem yO (hT:T.length≤100000) {f lv i:Nat} {r:Nd×Nat} (hl:lv≤20) (hi:i < T.length) (h:gN T f lv 1 i=some r):r.2 < T.length∧Spec Tryz.prog 226 (aY [.ptr (0,9) 0, .v (.int .i64 (lv:Int)), .v (.int .i64 1)] (eb T i N)) (PO T N r):=
 (HL hT f f (Nat.le_refl _)).expr lv 1 i r hl ab hi h
end

structure PS (T:List Tk) (N:List Tx) (f:Nat):Prop where
 stm: ∀ lv i r,lv≤20→i < T.length→yN T f lv i=some r→r.2 < T.length∧Spec Tryz.prog 202 (aY [.ptr (0,9) 0, .v (.int .i64 (lv:Int))] (eb T i N)) (PO T N r)
 blk: ∀ lv i r,lv≤21→i < T.length→rh T f lv i=some r→r.2 < T.length∧Spec Tryz.prog 164 (aY [.ptr (0,9) 0, .v (.int .i64 (lv:Int))] (eb T i N)) (PO T N r)
def Dx:List Tx:=[vO,kI,pT,ij,lN,qz,nO,qi,qI]
theorem gh {T:List Tk} {i:Nat} (h:vI (di T i).t=true):eF T i=false:=by unfold eF;rw [h];simp
section
variable {T:List Tk} {N:List Tx}
theorem xZ (hT:T.length≤100000) (lv i:Nat) (hl:lv≤20) (hi:i < T.length) (hn:eF T i=true) {d:Nd} {j1 j2 j3:Nat} (h1:Spec Tryz.prog 162 (aY [.ptr (0,9) 0, .v (bt [61])] (eb T (bJ T i) N)) (bc (.tup []) (eb T j1 N) [(0,9)] [(0,9)])) (h2:Spec Tryz.prog 226 (aY [.ptr (0,9) 0, .v (.int .i64 (lv:Int)), .v (.int .i64 1)] (eb T j1 N)) (PO T N (d,j2))) (h3:Spec Tryz.prog 162 (aY [.ptr (0,9) 0, .v (bt [59])] (eb T j2 N)) (bc (.tup []) (eb T j3 N) [(0,9)] [(0,9)])):
  Spec Tryz.prog 202 (aY [.ptr (0,9) 0, .v (.int .i64 (lv:Int))] (eb T i N)) (PO T N (nd 1 0 (di T i).t [d],j3)):=by
 refine Spec.ofNI Tryz.func202 rfl Tryz.ntmps202 rfl ?_
 refine am (ai (aD (4,0) aa rfl rfl) (aj (am (bS rfl (ai (bs aa _ _ ar (bQ T i N hi) tr rfl ae (by simp)) ?_)))))
 refine oP rfl (aj (am (ai (aM _ aa rfl (by exact kH)) ?_)))
 refine ai (aD (6,0) aa rfl rfl) (bG rfl rfl rfl rfl rfl rfl (aj (aq (am (bS rfl (ai (bs aa _ _ ar (dU T i N hi) tr rfl ae (by simp)) ?_))))))
 refine aj (bL rfl hn (am (bS rfl (ai (bU (cB T i N hi hT)) ?_))))
 refine aj (aU fun K7 hK7=> ?_)
 refine an (bS rfl (ai (bU (h1)) (aJ (hK7 _ ?_))))
 clear hK7;try clear K7
 refine aU fun K8 hK8=> ?_
 refine an (eh rfl (bS rfl (aX rfl (ai (bU (h2)) (ai (bi _ _ aa rfl ag (by (simp <;> rfl)) ah rfl) ?_)))))
 refine ai (aM _ aa rfl (by exact kH)) ?_
 refine bG rfl rfl rfl rfl rfl rfl (aJ (hK8 _ ?_))
 clear hK8;try clear K8
 refine aU fun K9 hK9=> ?_
 refine aN (σ':=aE 145 [(0,_),(4,_),(6,_)] [((0,9),_),((4,0),_),((6,0),_)] [(0,9)] [(0,9)]) kp ?_
 refine an (bS rfl (ai (bU (h3)) (aJ (hK9 _ ?_))))
 clear hK9;try clear K9
 exact am (ai (az _ aa rfl rfl rfl rfl) (bG rfl rfl rfl rfl rfl rfl (aj (aG (bI (.inr rfl) rfl (.cellA aa rfl rfl rfl) (Le.outI [] [] (.agg rfl lz) rfl rfl rfl trivial ob tr rfl))))))
theorem Cy (hT:T.length≤100000) (lv i:Nat) (hl:lv≤20) (hi:i < T.length) (ht:(di T i).t=kI) {c x:Nd} {j1 j2:Nat} (h1:Spec Tryz.prog 226 (aY [.ptr (0,9) 0, .v (.int .i64 (lv:Int)), .v (.int .i64 1)] (eb T (bJ T i) N)) (PO T N (c,j1))) (h2:Spec Tryz.prog 164 (aY [.ptr (0,9) 0, .v (.int .i64 ((lv+1:Nat):Int))] (eb T j1 N)) (PO T N (x,j2))):
  Spec Tryz.prog 202 (aY [.ptr (0,9) 0, .v (.int .i64 (lv:Int))] (eb T i N)) (PO T N (nd 3 0 [] [c,x],j2)):=by
 have hnx:=bQ T i N hi
 have hn:eF T i=false:=gh (by rw [ht];rfl)
 rw [ht] at hnx
 refine Spec.ofNI Tryz.func202 rfl Tryz.ntmps202 rfl ?_
 refine am (ai (aD (4,0) aa rfl rfl) (aj (am (bS rfl (ai (bs aa _ _ ar (hnx) tr rfl ae (by simp)) ?_)))))
 refine oP rfl (aj (am (ai (aM _ aa rfl (by exact kH)) ?_)))
 refine ai (aD (6,0) aa rfl rfl) (bG rfl rfl rfl rfl rfl rfl (aj (aq (am (bS rfl (ai (bs aa _ _ ar (dU T i N hi) tr rfl ae (by simp)) ?_))))))
 refine aj (aW rfl hn (aS (aq (am (ai (bi _ _ aa rfl ag (by (simp <;> rfl)) ah rfl) ?_)))))
 refine eh rfl (ai (aI aa al (cG Dx 9 rfl ab kI) rfl rfl) ?_)
 refine ai (co (r:=false) _ rfl rfl) (aj (aW rfl rfl (aS (am (bS rfl (ai (bU (cB T i N hi hT)) ?_))))))
 refine aj (aq (aq ?_))
 refine aN (σ':=aE 145 [(0,_),(1,_),(4,_),(5,_),(6,_)] [((0,9),_),((4,0),_),((6,0),_)] [(0,9)] [(0,9)]) kp ?_
 refine an (eh rfl (aj (ay (aq (am (ai (aV (r:=false) _ _ Tryz.underlying9 rfl rfl rfl) (cp rfl (aj (aW rfl rfl (an ?_))))))))))
 refine ai (aV (r:=true) _ _ Tryz.underlying9 rfl rfl rfl) (cp rfl (aj (bL rfl rfl (aU fun K13 hK13=> ?_))))
 refine an (bS rfl (aX rfl (ai (bU (h1)) (ai (aD (7,0) aa rfl rfl) (bG rfl rfl rfl rfl rfl rfl (aJ (hK13 _ ?_)))))))
 clear hK13;try clear K13
 refine aU fun K14 hK14=> ?_
 refine aN (σ':=aE 145 [(0,_),(1,_),(4,_),(5,_),(7,_)] [((0,9),_),((4,0),_),((7,0),_)] [(0,9)] [(0,9)]) kp ?_
 refine bK 5 [53,54,55,56,57] [(0,9)] ae ae rfl (aK rfl) (rfl:_=[_,_,_,_,_]) (rfl:_=[_,_]) ?_
 refine ap (_,[]) (fun τ=> az _ aa rfl rfl rfl rfl) ?_
 refine fB rfl ?_
 refine ap (_,[]) (fun τ=> aH _ cd) ?_
 refine fH rfl ?_
 refine ap (_,[]) (fun τ=> aH _ ek) ?_
 refine fQ rfl ?_
 refine ap (_,[]) (fun τ=> aZ _ _ rfl rfl (bF ab)) ?_
 refine fV rfl ?_
 refine ap (_,[((0,9),_)]) (fun τ=> (ka aa ar (h2) ob rfl rfl ae)) ?_
 refine gd rfl (bl ⟨rfl,?_⟩)
 refine ai (bi _ _ aa rfl ag (by (simp <;> rfl)) ah rfl) ?_
 refine kE rfl (aJ (hK14 _ ?_))
 clear hK14;try clear K14
 refine aq (am (eh rfl (ai (aV (r:=true) _ _ Tryz.underlying9 rfl rfl rfl) (aj (bL rfl rfl (am (eV rfl (ai (aM _ aa rfl (by exact kH)) ?_))))))))
 exact bG rfl rfl rfl rfl rfl rfl (aj (aG (bI (.inr rfl) rfl (.cellA aa rfl rfl rfl) (Le.outI [] [] (.agg rfl lz) rfl rfl rfl trivial ob tr rfl))))
theorem Jz (hT:T.length≤100000) (lv i:Nat) (hl:lv≤20) (hi:i < T.length) (ht:(di T i).t=vO) {c x:Nd} {j1 j2:Nat} (h1:Spec Tryz.prog 226 (aY [.ptr (0,9) 0, .v (.int .i64 (lv:Int)), .v (.int .i64 1)] (eb T (bJ T i) N)) (PO T N (c,j1))) (h2:Spec Tryz.prog 164 (aY [.ptr (0,9) 0, .v (.int .i64 ((lv+1:Nat):Int))] (eb T j1 N)) (PO T N (x,j2))) (hj:j2 < T.length) (he:(di T j2).t≠tK):
  Spec Tryz.prog 202 (aY [.ptr (0,9) 0, .v (.int .i64 (lv:Int))] (eb T i N)) (PO T N (nd 2 0 [] [c,x,nd 11 0 [] []],j2)):=by
 have hnx:=bQ T i N hi
 have hn:eF T i=false:=gh (by rw [ht];rfl)
 rw [ht] at hnx
 refine Spec.ofNI Tryz.func202 rfl Tryz.ntmps202 rfl ?_
 refine am (ai (aD (4,0) aa rfl rfl) (aj (am (bS rfl (ai (bs aa _ _ ar (hnx) tr rfl ae (by simp)) ?_)))))
 refine oP rfl (aj (am (ai (aM _ aa rfl (by exact kH)) ?_)))
 refine ai (aD (6,0) aa rfl rfl) (bG rfl rfl rfl rfl rfl rfl (aj (aq (am (bS rfl (ai (bs aa _ _ ar (dU T i N hi) tr rfl ae (by simp)) ?_))))))
 refine aj (aW rfl hn (aS (aq (am (ai (bi _ _ aa rfl ag (by (simp <;> rfl)) ah rfl) ?_)))))
 refine eh rfl (ai (aI aa al (cG Dx 9 rfl ab vO) rfl rfl) ?_)
 refine ai (co (r:=false) _ rfl rfl) (aj (aW rfl rfl (aS (am (bS rfl (ai (bU (cB T i N hi hT)) ?_))))))
 refine aj (aq (aq ?_))
 refine aN (σ':=aE 145 [(0,_),(1,_),(4,_),(5,_),(6,_)] [((0,9),_),((4,0),_),((6,0),_)] [(0,9)] [(0,9)]) kp ?_
 refine an (eh rfl (aj (ay (aq (am (ai (aV (r:=true) _ _ Tryz.underlying9 rfl rfl rfl) (cp rfl (aj (bL rfl rfl (aS ?_))))))))))
 refine bL rfl rfl (aU fun K13 hK13=> ?_)
 refine an (bS rfl (aX rfl (ai (bU (h1)) (ai (aD (7,0) aa rfl rfl) (bG rfl rfl rfl rfl rfl rfl (aJ (hK13 _ ?_)))))))
 clear hK13;try clear K13
 refine aU fun K14 hK14=> ?_
 refine aN (σ':=aE 145 [(0,_),(1,_),(4,_),(5,_),(7,_)] [((0,9),_),((4,0),_),((7,0),_)] [(0,9)] [(0,9)]) kp ?_
 refine bK 5 [53,54,55,56,57] [(0,9)] ae ae rfl (aK rfl) (rfl:_=[_,_,_,_,_]) (rfl:_=[_,_]) ?_
 refine ap (_,[]) (fun τ=> az _ aa rfl rfl rfl rfl) ?_
 refine fB rfl ?_
 refine ap (_,[]) (fun τ=> aH _ cd) ?_
 refine fH rfl ?_
 refine ap (_,[]) (fun τ=> aH _ ek) ?_
 refine fQ rfl ?_
 refine ap (_,[]) (fun τ=> aZ _ _ rfl rfl (bF ab)) ?_
 refine fV rfl ?_
 refine ap (_,[((0,9),_)]) (fun τ=> (ka aa ar (h2) ob rfl rfl ae)) ?_
 refine gd rfl (bl ⟨rfl,?_⟩)
 refine ai (kk (58,0) _ _ aa rfl ag (by (simp <;> rfl)) ah rfl rfl) ?_
 refine fh rfl (aJ (hK14 _ ?_))
 clear hK14;try clear K14
 refine aq (am (eh rfl (ai (aV (r:=false) _ _ Tryz.underlying9 rfl rfl rfl) (aj (aW rfl rfl (aS (am (ai (aM _ aa rfl (by exact kH)) ?_))))))))
 refine ai (aD (9,0) aa rfl rfl) (bG rfl rfl rfl rfl rfl rfl (aj (aq (am (bS rfl (ai (aT _ rfl rfl) (bb rfl rfl rfl (cf rfl rfl rfl (kg rfl rfl rfl (cM rfl ?_))))))))))
 refine ax rfl rfl (aH _ cd) (ax rfl rfl (bs aa _ _ ar (bQ T j2 N hj) tr rfl ae (by simp)) ?_)
 refine ax rfl rfl (aV (r:=false) _ _ Tryz.underlying9 rfl rfl (beq_eq_false_iff_ne.2 he)) ?_
 refine ai (aC _ _ _ rfl bN) (aj (aW rfl rfl (aS (aq ?_))))
 refine aN (σ':=aE 145 [(4,_),(8,_),(9,_)] [((4,0),_),((58,0),_),((9,0),_),((0,9),_)] [(0,9)] [(0,9)]) kp ?_
 refine an (gK rfl (cA (Le.nil0 (9,0) 3 rfl rfl) ?_))
 refine ai (az _ aa rfl rfl rfl rfl) (ai (bi _ _ aa rfl ag (by (simp <;> rfl)) ah rfl) ?_)
 refine ai (du (83,0) _ _ aa rfl rfl ag (by (refine .sl ?_;(simp [cu];done))) ab rfl (rfl) (rfl)) ?_
 refine ai (aM _ aa rfl (by exact kH)) ?_
 exact bG rfl rfl rfl rfl rfl rfl (aj (aG (bI (.inr rfl) rfl (.cellA aa rfl rfl rfl) (Le.outI [] [(83,0)] (.agg rfl (au .v (au .v (au .v (au (fe rfl rfl rfl rfl) bg))))) rfl rfl rfl tr ob tr rfl))))
theorem yq (hT:T.length≤100000) (lv i:Nat) (hl:lv≤20) (hi:i < T.length) (ht:(di T i).t=vO) {c x y:Nd} {j1 j2 j3:Nat} (h1:Spec Tryz.prog 226 (aY [.ptr (0,9) 0, .v (.int .i64 (lv:Int)), .v (.int .i64 1)] (eb T (bJ T i) N)) (PO T N (c,j1))) (h2:Spec Tryz.prog 164 (aY [.ptr (0,9) 0, .v (.int .i64 ((lv+1:Nat):Int))] (eb T j1 N)) (PO T N (x,j2))) (hj:j2 < T.length) (he:(di T j2).t=tK) (h3:Spec Tryz.prog 164 (aY [.ptr (0,9) 0, .v (.int .i64 ((lv+1:Nat):Int))] (eb T (bJ T j2) N)) (PO T N (y,j3))):
  Spec Tryz.prog 202 (aY [.ptr (0,9) 0, .v (.int .i64 (lv:Int))] (eb T i N)) (PO T N (nd 2 0 [] [c,x,y],j3)):=by
 have hnx:=bQ T i N hi
 have hn:eF T i=false:=gh (by rw [ht];rfl)
 rw [ht] at hnx
 refine Spec.ofNI Tryz.func202 rfl Tryz.ntmps202 rfl ?_
 refine am (ai (aD (4,0) aa rfl rfl) (aj (am (bS rfl (ai (bs aa _ _ ar (hnx) tr rfl ae (by simp)) ?_)))))
 refine oP rfl (aj (am (ai (aM _ aa rfl (by exact kH)) ?_)))
 refine ai (aD (6,0) aa rfl rfl) (bG rfl rfl rfl rfl rfl rfl (aj (aq (am (bS rfl (ai (bs aa _ _ ar (dU T i N hi) tr rfl ae (by simp)) ?_))))))
 refine aj (aW rfl hn (aS (aq (am (ai (bi _ _ aa rfl ag (by (simp <;> rfl)) ah rfl) ?_)))))
 refine eh rfl (ai (aI aa al (cG Dx 9 rfl ab vO) rfl rfl) ?_)
 refine ai (co (r:=false) _ rfl rfl) (aj (aW rfl rfl (aS (am (bS rfl (ai (bU (cB T i N hi hT)) ?_))))))
 refine aj (aq (aq ?_))
 refine aN (σ':=aE 145 [(0,_),(1,_),(4,_),(5,_),(6,_)] [((0,9),_),((4,0),_),((6,0),_)] [(0,9)] [(0,9)]) kp ?_
 refine an (eh rfl (aj (ay (aq (am (ai (aV (r:=true) _ _ Tryz.underlying9 rfl rfl rfl) (cp rfl (aj (bL rfl rfl (aS ?_))))))))))
 refine bL rfl rfl (aU fun K13 hK13=> ?_)
 refine an (bS rfl (aX rfl (ai (bU (h1)) (ai (aD (7,0) aa rfl rfl) (bG rfl rfl rfl rfl rfl rfl (aJ (hK13 _ ?_)))))))
 clear hK13;try clear K13
 refine aU fun K14 hK14=> ?_
 refine aN (σ':=aE 145 [(0,_),(1,_),(4,_),(5,_),(7,_)] [((0,9),_),((4,0),_),((7,0),_)] [(0,9)] [(0,9)]) kp ?_
 refine bK 5 [53,54,55,56,57] [(0,9)] ae ae rfl (aK rfl) (rfl:_=[_,_,_,_,_]) (rfl:_=[_,_]) ?_
 refine ap (_,[]) (fun τ=> az _ aa rfl rfl rfl rfl) ?_
 refine fB rfl ?_
 refine ap (_,[]) (fun τ=> aH _ cd) ?_
 refine fH rfl ?_
 refine ap (_,[]) (fun τ=> aH _ ek) ?_
 refine fQ rfl ?_
 refine ap (_,[]) (fun τ=> aZ _ _ rfl rfl (bF ab)) ?_
 refine fV rfl ?_
 refine ap (_,[((0,9),_)]) (fun τ=> (ka aa ar (h2) ob rfl rfl ae)) ?_
 refine gd rfl (bl ⟨rfl,?_⟩)
 refine ai (kk (58,0) _ _ aa rfl ag (by (simp <;> rfl)) ah rfl rfl) ?_
 refine fh rfl (aJ (hK14 _ ?_))
 clear hK14;try clear K14
 refine aq (am (eh rfl (ai (aV (r:=false) _ _ Tryz.underlying9 rfl rfl rfl) (aj (aW rfl rfl (aS (am (ai (aM _ aa rfl (by exact kH)) ?_))))))))
 refine ai (aD (9,0) aa rfl rfl) (bG rfl rfl rfl rfl rfl rfl (aj (aU fun K18 hK18=> ?_)))
 refine am (bS rfl (ai (aT _ rfl rfl) (bb rfl rfl rfl (cf rfl rfl rfl (kg rfl rfl rfl (cM rfl (ax rfl rfl (aH _ cd) (ax rfl rfl (bs aa _ _ ar (bQ T j2 N hj) tr rfl ae (by simp)) ?_))))))))
 refine ax rfl rfl (aV (r:=true) _ _ Tryz.underlying9 rfl rfl (beq_iff_eq.2 he)) ?_
 refine ai (aC _ _ _ rfl bN) (aj (bL rfl rfl (aU fun K20 hK20=> ?_)))
 refine aN (σ':=aE 145 [(0,_),(1,_),(4,_),(8,_),(9,_)] [((0,9),_),((4,0),_),((58,0),_),((9,0),_)] [(0,9)] [(0,9)]) kp ?_
 refine an (bS rfl (ai (bU (cB T j2 N hj hT)) ?_))
 refine aJ (hK20 _ ?_)
 clear hK20;try clear K20
 refine an (bS rfl (aX rfl (ai (aZ _ _ rfl rfl (bF ab)) ?_)))
 refine ai (bU (h3)) (bG rfl rfl rfl rfl rfl rfl (aJ (hK18 _ ?_)))
 clear hK18;try clear K18
 refine am (gK rfl (ai (az _ aa rfl rfl rfl rfl) (ai (bi _ _ aa rfl ag (by (simp <;> rfl)) ah rfl) ?_)))
 refine ai (du (83,0) _ _ aa rfl rfl ag (by (refine .sl ?_;(simp [cu];done))) ab rfl (rfl) (rfl)) ?_
 refine ai (aM _ aa rfl (by exact kH)) ?_
 exact bG rfl rfl rfl rfl rfl rfl (aj (aG (bI (.inr rfl) rfl (.cellA aa rfl rfl rfl) (Le.outI [] [(83,0)] (.agg rfl (au .v (au .v (au .v (au (fe rfl rfl rfl rfl) bg))))) rfl rfl rfl tr ob tr rfl))))
theorem EQ (hT:T.length≤100000) (lv i:Nat) (hl:lv≤20) (hi:i < T.length) (ht:(di T i).t=pT) {x y z:Nd} {k j1 j2 j3 j4 j5 j6 j7 j8:Nat} (h1:Spec Tryz.prog 226 (aY [.ptr (0,9) 0, .v (.int .i64 (lv:Int)), .v (.int .i64 1)] (eb T (bJ T i) N)) (PO T N (x,j1))) (h2:Spec Tryz.prog 162 (aY [.ptr (0,9) 0, .v (bt [44])] (eb T j1 N)) (bc (.tup []) (eb T j2 N) [(0,9)] [(0,9)])) (h3:Spec Tryz.prog 200 (aY [.ptr (0,9) 0, .v (.int .i64 29)] (eb T j2 N)) (bc (.v (.int .i64 (k:Int))) (eb T j3 N) [(0,9)] [(0,9)])) (h4:Spec Tryz.prog 162 (aY [.ptr (0,9) 0, .v (bt [44])] (eb T j3 N)) (bc (.tup []) (eb T j4 N) [(0,9)] [(0,9)])) (h5:Spec Tryz.prog 226 (aY [.ptr (0,9) 0, .v (.int .i64 (lv:Int)), .v (.int .i64 1)] (eb T j4 N)) (PO T N (y,j5))) (h6:Spec Tryz.prog 162 (aY [.ptr (0,9) 0, .v (bt [44])] (eb T j5 N)) (bc (.tup []) (eb T j6 N) [(0,9)] [(0,9)])) (h7:Spec Tryz.prog 226 (aY [.ptr (0,9) 0, .v (.int .i64 (lv:Int)), .v (.int .i64 1)] (eb T j6 N)) (PO T N (z,j7))) (h8:Spec Tryz.prog 162 (aY [.ptr (0,9) 0, .v (bt [59])] (eb T j7 N)) (bc (.tup []) (eb T j8 N) [(0,9)] [(0,9)])):
  Spec Tryz.prog 202 (aY [.ptr (0,9) 0, .v (.int .i64 (lv:Int))] (eb T i N)) (PO T N (nd 4 k [] [x,y,z],j8)):=by
 have hnx:=bQ T i N hi
 have hn:eF T i=false:=gh (by rw [ht];rfl)
 rw [ht] at hnx
 refine Spec.ofNI Tryz.func202 rfl Tryz.ntmps202 rfl ?_
 refine am (ai (aD (4,0) aa rfl rfl) (aj (am (bS rfl (ai (bs aa _ _ ar (hnx) tr rfl ae (by simp)) ?_)))))
 refine oP rfl (aj (am (ai (aM _ aa rfl (by exact kH)) ?_)))
 refine ai (aD (6,0) aa rfl rfl) (bG rfl rfl rfl rfl rfl rfl (aj (aq (am (bS rfl (ai (bs aa _ _ ar (dU T i N hi) tr rfl ae (by simp)) ?_))))))
 refine aj (aW rfl hn (aS (aq (am (ai (bi _ _ aa rfl ag (by (simp <;> rfl)) ah rfl) ?_)))))
 refine eh rfl (ai (aI aa al (cG Dx 9 rfl ab pT) rfl rfl) ?_)
 refine ai (co (r:=false) _ rfl rfl) (aj (aW rfl rfl (aS (am (bS rfl (ai (bU (cB T i N hi hT)) ?_))))))
 refine aj (aU fun K9 hK9=> ?_)
 refine aq ?_
 refine aN (σ':=aE 145 [(0,_),(1,_),(4,_),(5,_),(6,_)] [((0,9),_),((4,0),_),((6,0),_)] [(0,9)] [(0,9)]) kp ?_
 refine an (eh rfl (aj (ay (aq (am (ai (aV (r:=false) _ _ Tryz.underlying9 rfl rfl rfl) (cp rfl (aj (aW rfl rfl (an ?_))))))))))
 refine ai (aV (r:=false) _ _ Tryz.underlying9 rfl rfl rfl) (cp rfl (aj (aW rfl rfl (am (ai (aV (r:=true) _ _ Tryz.underlying9 rfl rfl rfl) (cp rfl (aj (bL rfl rfl (aU fun K14 hK14=> ?_)))))))))
 refine an (bS rfl (aX rfl (ai (bU (h1)) (ai (aD (10,0) aa rfl rfl) (bG rfl rfl rfl rfl rfl rfl (aJ (hK14 _ ?_)))))))
 clear hK14;try clear K14
 refine aU fun K15 hK15=> ?_
 refine an (bS rfl (ai (bU (h2)) (aJ (hK15 _ ?_))))
 clear hK15;try clear K15
 refine aU fun K16 hK16=> ?_
 refine an (bS rfl (ai (bU (h3)) (be rfl (aJ (hK16 _ ?_)))))
 clear hK16;try clear K16
 refine aU fun K17 hK17=> ?_
 refine aN (σ':=aE 145 [(0,_),(1,_),(4,_),(6,_),(10,_),(11,_)] [((0,9),_),((4,0),_),((6,0),_),((10,0),_)] [(0,9)] [(0,9)]) kp ?_
 refine an (bS rfl (ai (bU (h4)) (aJ (hK17 _ ?_))))
 clear hK17;try clear K17
 refine aU fun K18 hK18=> ?_
 refine an (bS rfl (aX rfl (ai (bU (h5)) (ai (aD (12,0) aa rfl rfl) (bG rfl rfl rfl rfl rfl rfl (aJ (hK18 _ ?_)))))))
 clear hK18;try clear K18
 refine aU fun K19 hK19=> ?_
 refine an (bS rfl (ai (bU (h6)) (aJ (hK19 _ ?_))))
 clear hK19;try clear K19
 refine aN (σ':=aE 145 [(0,_),(1,_),(4,_),(6,_),(10,_),(11,_),(12,_)] [((0,9),_),((4,0),_),((6,0),_),((10,0),_),((12,0),_)] [(0,9)] [(0,9)]) kp ?_
 refine bK 7 [101,102,103,104,105,106,107] [(0,9)] ae ae rfl (aK rfl) (rfl:_=[_,_,_,_,_,_,_]) (rfl:_=[_,_]) ?_
 refine ap (_,[]) (fun τ=> aH _ ek) ?_
 refine fB rfl ?_
 refine ap (_,[]) (fun τ=> az _ aa rfl rfl rfl rfl) ?_
 refine fH rfl ?_
 refine ap (_,[]) (fun τ=> az _ aa rfl rfl rfl rfl) ?_
 refine fQ rfl ?_
 refine ap (_,[]) (fun τ=> aH _ cd) ?_
 refine fV rfl ?_
 refine ap (_,[]) (fun τ=> aH _ ek) ?_
 refine gd rfl ?_
 refine ap (_,[((0,9),_)]) (fun τ=> (ka aa ar (h7) ob rfl rfl ae)) ?_
 refine gV rfl ?_
 refine ap (_,[]) (fun τ=> bi _ _ aa rfl ag (by (simp;exact ⟨rfl,rfl⟩)) ah rfl) ?_
 refine iG rfl (bl ⟨rfl,?_⟩)
 refine ai (aM _ aa rfl (by exact kH)) ?_
 refine bG rfl rfl rfl rfl rfl rfl (aJ (hK9 _ ?_))
 clear hK9;try clear K9
 refine aU fun K20 hK20=> ?_
 refine an (bS rfl (ai (bU (h8)) (aJ (hK20 _ ?_))))
 clear hK20;try clear K20
 exact am (ai (az _ aa rfl rfl rfl rfl) (bG rfl rfl rfl rfl rfl rfl (aj (aG (bI (.inr rfl) rfl (.cellA aa rfl rfl rfl) (Le.outI [] [] (.agg rfl lz) rfl rfl rfl trivial ob tr rfl))))))
theorem CT (hT:T.length≤100000) (lv i:Nat) (hl:lv≤20) (hi:i < T.length) (ht:(di T i).t=ij) {k j1 j2:Nat} (h1:Spec Tryz.prog 200 (aY [.ptr (0,9) 0, .v (.int .i64 7)] (eb T (bJ T i) N)) (bc (.v (.int .i64 (k:Int))) (eb T j1 N) [(0,9)] [(0,9)])) (h2:Spec Tryz.prog 162 (aY [.ptr (0,9) 0, .v (bt [59])] (eb T j1 N)) (bc (.tup []) (eb T j2 N) [(0,9)] [(0,9)])):
  Spec Tryz.prog 202 (aY [.ptr (0,9) 0, .v (.int .i64 (lv:Int))] (eb T i N)) (PO T N (nd 5 k [] [],j2)):=by
 have hnx:=bQ T i N hi
 have hn:eF T i=false:=gh (by rw [ht];rfl)
 rw [ht] at hnx
 refine Spec.ofNI Tryz.func202 rfl Tryz.ntmps202 rfl ?_
 refine am (ai (aD (4,0) aa rfl rfl) (aj (am (bS rfl (ai (bs aa _ _ ar (hnx) tr rfl ae (by simp)) ?_)))))
 refine oP rfl (aj (am (ai (aM _ aa rfl (by exact kH)) ?_)))
 refine ai (aD (6,0) aa rfl rfl) (bG rfl rfl rfl rfl rfl rfl (aj (aq (am (bS rfl (ai (bs aa _ _ ar (dU T i N hi) tr rfl ae (by simp)) ?_))))))
 refine aj (aW rfl hn (aS (aq (am (ai (bi _ _ aa rfl ag (by (simp <;> rfl)) ah rfl) ?_)))))
 refine eh rfl (ai (aI aa al (cG Dx 9 rfl ab ij) rfl rfl) ?_)
 refine ai (co (r:=false) _ rfl rfl) (aj (aW rfl rfl (aS (am (bS rfl (ai (bU (cB T i N hi hT)) ?_))))))
 refine aj (aU fun K9 hK9=> ?_)
 refine aq ?_
 refine aN (σ':=aE 145 [(0,_),(1,_),(4,_),(5,_),(6,_)] [((0,9),_),((4,0),_),((6,0),_)] [(0,9)] [(0,9)]) kp ?_
 refine an (eh rfl (aj (ay (aq (am (ai (aV (r:=false) _ _ Tryz.underlying9 rfl rfl rfl) (cp rfl (aj (aW rfl rfl (an ?_))))))))))
 refine ai (aV (r:=false) _ _ Tryz.underlying9 rfl rfl rfl) (cp rfl (aj (aW rfl rfl (am (ai (aV (r:=false) _ _ Tryz.underlying9 rfl rfl rfl) (cp rfl (aj (aW rfl rfl (am (ai (aV (r:=true) _ _ Tryz.underlying9 rfl rfl rfl) ?_))))))))))
 refine cp rfl (aj (bL rfl rfl (an (bS rfl (ai (bU (h1)) (ai (aM _ aa rfl (by exact kH)) ?_))))))
 refine bG rfl rfl rfl rfl rfl rfl (aJ (hK9 _ ?_))
 clear hK9;try clear K9
 refine aU fun K15 hK15=> ?_
 refine an (bS rfl (ai (bU (h2)) (aJ (hK15 _ ?_))))
 clear hK15;try clear K15
 refine aq ?_
 refine aN (σ':=aE 145 [(4,_),(6,_)] [((4,0),_),((6,0),_),((0,9),_)] [(0,9)] [(0,9)]) kp ?_
 exact an (ai (az _ aa rfl rfl rfl rfl) (bG rfl rfl rfl rfl rfl rfl (aj (aG (bI (.inr rfl) rfl (.cellA aa rfl rfl rfl) (Le.outI [] [] (.agg rfl lz) rfl rfl rfl trivial ob tr rfl))))))
theorem yY (hT:T.length≤100000) (lv i:Nat) (hl:lv≤20) (hi:i < T.length) (ht:(di T i).t=lN) {k j1 j2:Nat} (h1:Spec Tryz.prog 200 (aY [.ptr (0,9) 0, .v (.int .i64 7)] (eb T (bJ T i) N)) (bc (.v (.int .i64 (k:Int))) (eb T j1 N) [(0,9)] [(0,9)])) (h2:Spec Tryz.prog 162 (aY [.ptr (0,9) 0, .v (bt [59])] (eb T j1 N)) (bc (.tup []) (eb T j2 N) [(0,9)] [(0,9)])):
  Spec Tryz.prog 202 (aY [.ptr (0,9) 0, .v (.int .i64 (lv:Int))] (eb T i N)) (PO T N (nd 6 k [] [],j2)):=by
 have hnx:=bQ T i N hi
 have hn:eF T i=false:=gh (by rw [ht];rfl)
 rw [ht] at hnx
 refine Spec.ofNI Tryz.func202 rfl Tryz.ntmps202 rfl ?_
 refine am (ai (aD (4,0) aa rfl rfl) (aj (am (bS rfl (ai (bs aa _ _ ar (hnx) tr rfl ae (by simp)) ?_)))))
 refine oP rfl (aj (am (ai (aM _ aa rfl (by exact kH)) ?_)))
 refine ai (aD (6,0) aa rfl rfl) (bG rfl rfl rfl rfl rfl rfl (aj (aq (am (bS rfl (ai (bs aa _ _ ar (dU T i N hi) tr rfl ae (by simp)) ?_))))))
 refine aj (aW rfl hn (aS (aq (am (ai (bi _ _ aa rfl ag (by (simp <;> rfl)) ah rfl) ?_)))))
 refine eh rfl (ai (aI aa al (cG Dx 9 rfl ab lN) rfl rfl) ?_)
 refine ai (co (r:=false) _ rfl rfl) (aj (aW rfl rfl (aS (am (bS rfl (ai (bU (cB T i N hi hT)) ?_))))))
 refine aj (aU fun K9 hK9=> ?_)
 refine aq ?_
 refine aN (σ':=aE 145 [(0,_),(1,_),(4,_),(5,_),(6,_)] [((0,9),_),((4,0),_),((6,0),_)] [(0,9)] [(0,9)]) kp ?_
 refine an (eh rfl (aj (ay (aq (am (ai (aV (r:=false) _ _ Tryz.underlying9 rfl rfl rfl) (cp rfl (aj (aW rfl rfl (an ?_))))))))))
 refine ai (aV (r:=false) _ _ Tryz.underlying9 rfl rfl rfl) (cp rfl (aj (aW rfl rfl (am (ai (aV (r:=false) _ _ Tryz.underlying9 rfl rfl rfl) (cp rfl (aj (aW rfl rfl (am (ai (aV (r:=false) _ _ Tryz.underlying9 rfl rfl rfl) ?_))))))))))
 refine cp rfl (aj (aW rfl rfl (am (ai (aV (r:=true) _ _ Tryz.underlying9 rfl rfl rfl) (cp rfl (aj (bL rfl rfl (an (bS rfl (ai (bU (h1)) ?_))))))))))
 refine ai (aM _ aa rfl (by exact kH)) ?_
 refine bG rfl rfl rfl rfl rfl rfl (aJ (hK9 _ ?_))
 clear hK9;try clear K9
 refine aU fun K16 hK16=> ?_
 refine aN (σ':=aE 145 [(0,_),(4,_),(6,_)] [((0,9),_),((4,0),_),((6,0),_)] [(0,9)] [(0,9)]) kp ?_
 refine an (bS rfl (ai (bU (h2)) (aJ (hK16 _ ?_))))
 clear hK16;try clear K16
 exact am (ai (az _ aa rfl rfl rfl rfl) (bG rfl rfl rfl rfl rfl rfl (aj (aG (bI (.inr rfl) rfl (.cellA aa rfl rfl rfl) (Le.outI [] [] (.agg rfl lz) rfl rfl rfl trivial ob tr rfl))))))
theorem Bg (hT:T.length≤100000) (lv i:Nat) (hl:lv≤20) (hi:i < T.length) (ht:(di T i).t=nO) {x y:Nd} {j1 j2 j3 j4:Nat} (h1:Spec Tryz.prog 226 (aY [.ptr (0,9) 0, .v (.int .i64 (lv:Int)), .v (.int .i64 1)] (eb T (bJ T i) N)) (PO T N (x,j1))) (h2:Spec Tryz.prog 162 (aY [.ptr (0,9) 0, .v (bt [44])] (eb T j1 N)) (bc (.tup []) (eb T j2 N) [(0,9)] [(0,9)])) (h3:Spec Tryz.prog 226 (aY [.ptr (0,9) 0, .v (.int .i64 (lv:Int)), .v (.int .i64 1)] (eb T j2 N)) (PO T N (y,j3))) (h4:Spec Tryz.prog 162 (aY [.ptr (0,9) 0, .v (bt [59])] (eb T j3 N)) (bc (.tup []) (eb T j4 N) [(0,9)] [(0,9)])):
  Spec Tryz.prog 202 (aY [.ptr (0,9) 0, .v (.int .i64 (lv:Int))] (eb T i N)) (PO T N (nd 8 0 [] [x,y],j4)):=by
 have hnx:=bQ T i N hi
 have hn:eF T i=false:=gh (by rw [ht];rfl)
 rw [ht] at hnx
 refine Spec.ofNI Tryz.func202 rfl Tryz.ntmps202 rfl ?_
 refine am (ai (aD (4,0) aa rfl rfl) (aj (am (bS rfl (ai (bs aa _ _ ar (hnx) tr rfl ae (by simp)) ?_)))))
 refine oP rfl (aj (am (ai (aM _ aa rfl (by exact kH)) ?_)))
 refine ai (aD (6,0) aa rfl rfl) (bG rfl rfl rfl rfl rfl rfl (aj (aq (am (bS rfl (ai (bs aa _ _ ar (dU T i N hi) tr rfl ae (by simp)) ?_))))))
 refine aj (aW rfl hn (aS (aq (am (ai (bi _ _ aa rfl ag (by (simp <;> rfl)) ah rfl) ?_)))))
 refine eh rfl (ai (aI aa al (cG Dx 9 rfl ab nO) rfl rfl) ?_)
 refine ai (co (r:=false) _ rfl rfl) (aj (aW rfl rfl (aS (am (bS rfl (ai (bU (cB T i N hi hT)) ?_))))))
 refine aj (aU fun K9 hK9=> ?_)
 refine aq ?_
 refine aN (σ':=aE 145 [(0,_),(1,_),(4,_),(5,_),(6,_)] [((0,9),_),((4,0),_),((6,0),_)] [(0,9)] [(0,9)]) kp ?_
 refine an (eh rfl (aj (ay (aq (am (ai (aV (r:=false) _ _ Tryz.underlying9 rfl rfl rfl) (cp rfl (aj (aW rfl rfl (an ?_))))))))))
 refine ai (aV (r:=false) _ _ Tryz.underlying9 rfl rfl rfl) (cp rfl (aj (aW rfl rfl (am (ai (aV (r:=false) _ _ Tryz.underlying9 rfl rfl rfl) (cp rfl (aj (aW rfl rfl (am (ai (aV (r:=false) _ _ Tryz.underlying9 rfl rfl rfl) ?_))))))))))
 refine cp rfl (aj (aW rfl rfl (am (ai (aV (r:=false) _ _ Tryz.underlying9 rfl rfl rfl) (cp rfl (aj (aW rfl rfl (am (ai (aV (r:=true) _ _ Tryz.underlying9 rfl rfl rfl) (cp rfl ?_))))))))))
 refine aj (bL rfl rfl (aU fun K17 hK17=> ?_))
 refine an (bS rfl (aX rfl (ai (bU (h1)) (ai (aD (13,0) aa rfl rfl) (bG rfl rfl rfl rfl rfl rfl (aJ (hK17 _ ?_)))))))
 clear hK17;try clear K17
 refine aU fun K18 hK18=> ?_
 refine aN (σ':=aE 145 [(0,_),(1,_),(4,_),(6,_),(13,_)] [((0,9),_),((4,0),_),((6,0),_),((13,0),_)] [(0,9)] [(0,9)]) kp ?_
 refine an (bS rfl (ai (bU (h2)) (aJ (hK18 _ ?_))))
 clear hK18;try clear K18
 refine bK 4 [126,127,128,129] [(0,9)] ae ae rfl (aK rfl) (rfl:_=[_,_,_,_]) (rfl:_=[_,_,_]) ?_
 refine ap (_,[]) (fun τ=> az _ aa rfl rfl rfl rfl) ?_
 refine fB rfl ?_
 refine ap (_,[]) (fun τ=> aH _ cd) ?_
 refine fH rfl ?_
 refine ap (_,[]) (fun τ=> aH _ ek) ?_
 refine fQ rfl ?_
 refine ap (_,[((0,9),_)]) (fun τ=> (ka aa ar (h3) ob rfl rfl ae)) ?_
 refine fV rfl (bl ⟨rfl,?_⟩)
 refine ai (bi _ _ aa rfl ag (by (simp <;> rfl)) ah rfl) ?_
 refine ai (aM _ aa rfl (by exact kH)) ?_
 refine bG rfl rfl rfl rfl rfl rfl (aJ (hK9 _ ?_))
 clear hK9;try clear K9
 refine aU fun K19 hK19=> ?_
 refine an (bS rfl (ai (bU (h4)) (aJ (hK19 _ ?_))))
 clear hK19;try clear K19
 exact am (ai (az _ aa rfl rfl rfl rfl) (bG rfl rfl rfl rfl rfl rfl (aj (aG (bI (.inr rfl) rfl (.cellA aa rfl rfl rfl) (Le.outI [] [] (.agg rfl lz) rfl rfl rfl trivial ob tr rfl))))))
theorem Fh (hT:T.length≤100000) (lv i:Nat) (hl:lv≤20) (hi:i < T.length) (ht:(di T i).t=qi) {x:Nd} {j1 j2:Nat} (h1:Spec Tryz.prog 226 (aY [.ptr (0,9) 0, .v (.int .i64 (lv:Int)), .v (.int .i64 1)] (eb T (bJ T i) N)) (PO T N (x,j1))) (h2:Spec Tryz.prog 162 (aY [.ptr (0,9) 0, .v (bt [59])] (eb T j1 N)) (bc (.tup []) (eb T j2 N) [(0,9)] [(0,9)])):
  Spec Tryz.prog 202 (aY [.ptr (0,9) 0, .v (.int .i64 (lv:Int))] (eb T i N)) (PO T N (nd 9 0 [] [x],j2)):=by
 have hnx:=bQ T i N hi
 have hn:eF T i=false:=gh (by rw [ht];rfl)
 rw [ht] at hnx
 refine Spec.ofNI Tryz.func202 rfl Tryz.ntmps202 rfl ?_
 refine am (ai (aD (4,0) aa rfl rfl) (aj (am (bS rfl (ai (bs aa _ _ ar (hnx) tr rfl ae (by simp)) ?_)))))
 refine oP rfl (aj (am (ai (aM _ aa rfl (by exact kH)) ?_)))
 refine ai (aD (6,0) aa rfl rfl) (bG rfl rfl rfl rfl rfl rfl (aj (aq (am (bS rfl (ai (bs aa _ _ ar (dU T i N hi) tr rfl ae (by simp)) ?_))))))
 refine aj (aW rfl hn (aS (aq (am (ai (bi _ _ aa rfl ag (by (simp <;> rfl)) ah rfl) ?_)))))
 refine eh rfl (ai (aI aa al (cG Dx 9 rfl ab qi) rfl rfl) ?_)
 refine ai (co (r:=false) _ rfl rfl) (aj (aW rfl rfl (aS (am (bS rfl (ai (bU (cB T i N hi hT)) ?_))))))
 refine aj (aU fun K9 hK9=> ?_)
 refine aq ?_
 refine aN (σ':=aE 145 [(0,_),(1,_),(4,_),(5,_),(6,_)] [((0,9),_),((4,0),_),((6,0),_)] [(0,9)] [(0,9)]) kp ?_
 refine an (eh rfl (aj (ay (aq (am (ai (aV (r:=false) _ _ Tryz.underlying9 rfl rfl rfl) (cp rfl (aj (aW rfl rfl (an ?_))))))))))
 refine ai (aV (r:=false) _ _ Tryz.underlying9 rfl rfl rfl) (cp rfl (aj (aW rfl rfl (am (ai (aV (r:=false) _ _ Tryz.underlying9 rfl rfl rfl) (cp rfl (aj (aW rfl rfl (am (ai (aV (r:=false) _ _ Tryz.underlying9 rfl rfl rfl) ?_))))))))))
 refine cp rfl (aj (aW rfl rfl (am (ai (aV (r:=false) _ _ Tryz.underlying9 rfl rfl rfl) (cp rfl (aj (aW rfl rfl (am (ai (aV (r:=false) _ _ Tryz.underlying9 rfl rfl rfl) (cp rfl ?_))))))))))
 refine aj (aW rfl rfl (am (ai (aV (r:=true) _ _ Tryz.underlying9 rfl rfl rfl) (cp rfl (aj (bL rfl rfl ?_))))))
 refine aN (σ':=aE 145 [(0,_),(1,_),(4,_),(6,_)] [((0,9),_),((4,0),_),((6,0),_)] [(0,9)] [(0,9)]) kp ?_
 refine an (bS rfl (aX rfl (ai (bU (h1)) (ai (bi _ _ aa rfl ag (by (simp <;> rfl)) ah rfl) ?_))))
 refine ai (aM _ aa rfl (by exact kH)) ?_
 refine bG rfl rfl rfl rfl rfl rfl (aJ (hK9 _ ?_))
 clear hK9;try clear K9
 refine aU fun K18 hK18=> ?_
 refine an (bS rfl (ai (bU (h2)) (aJ (hK18 _ ?_))))
 clear hK18;try clear K18
 exact am (ai (az _ aa rfl rfl rfl rfl) (bG rfl rfl rfl rfl rfl rfl (aj (aG (bI (.inr rfl) rfl (.cellA aa rfl rfl rfl) (Le.outI [] [] (.agg rfl lz) rfl rfl rfl trivial ob tr rfl))))))
theorem DW (hT:T.length≤100000) (lv i:Nat) (hl:lv≤20) (hi:i < T.length) (ht:(di T i).t=qz) {j1:Nat} (h1:Spec Tryz.prog 162 (aY [.ptr (0,9) 0, .v (bt [59])] (eb T (bJ T i) N)) (bc (.tup []) (eb T j1 N) [(0,9)] [(0,9)])):
  Spec Tryz.prog 202 (aY [.ptr (0,9) 0, .v (.int .i64 (lv:Int))] (eb T i N)) (PO T N (nd 7 0 [] [],j1)):=by
 have hnx:=bQ T i N hi
 have hn:eF T i=false:=gh (by rw [ht];rfl)
 rw [ht] at hnx
 refine Spec.ofNI Tryz.func202 rfl Tryz.ntmps202 rfl ?_
 refine am (ai (aD (4,0) aa rfl rfl) (aj (am (bS rfl (ai (bs aa _ _ ar (hnx) tr rfl ae (by simp)) ?_)))))
 refine oP rfl (aj (am (ai (aM _ aa rfl (by exact kH)) ?_)))
 refine ai (aD (6,0) aa rfl rfl) (bG rfl rfl rfl rfl rfl rfl (aj (aq (am (bS rfl (ai (bs aa _ _ ar (dU T i N hi) tr rfl ae (by simp)) ?_))))))
 refine aj (aW rfl hn (aS (aq (am (ai (bi _ _ aa rfl ag (by (simp <;> rfl)) ah rfl) ?_)))))
 refine eh rfl (ai (aI aa al (cG Dx 9 rfl ab qz) rfl rfl) ?_)
 refine ai (co (r:=false) _ rfl rfl) (aj (aW rfl rfl (aS (am (bS rfl (ai (bU (cB T i N hi hT)) ?_))))))
 refine aj (aq (aq ?_))
 refine aN (σ':=aE 145 [(0,_),(1,_),(4,_),(5,_),(6,_)] [((0,9),_),((4,0),_),((6,0),_)] [(0,9)] [(0,9)]) kp ?_
 refine an (eh rfl (aj (ay (aq (am (ai (aV (r:=false) _ _ Tryz.underlying9 rfl rfl rfl) (cp rfl (aj (aW rfl rfl (an ?_))))))))))
 refine ai (aV (r:=false) _ _ Tryz.underlying9 rfl rfl rfl) (cp rfl (aj (aW rfl rfl (am (ai (aV (r:=false) _ _ Tryz.underlying9 rfl rfl rfl) (cp rfl (aj (aW rfl rfl (am (ai (aV (r:=false) _ _ Tryz.underlying9 rfl rfl rfl) ?_))))))))))
 refine cp rfl (aj (aW rfl rfl (am (ai (aV (r:=false) _ _ Tryz.underlying9 rfl rfl rfl) (cp rfl (aj (aW rfl rfl (am (ai (aV (r:=false) _ _ Tryz.underlying9 rfl rfl rfl) (cp rfl ?_))))))))))
 refine aj (aW rfl rfl (am (ai (aV (r:=false) _ _ Tryz.underlying9 rfl rfl rfl) (cp rfl (aj (aW rfl rfl (aq ?_)))))))
 refine aN (σ':=aE 145 [(0,_),(4,_),(6,_),(45,_)] [((0,9),_),((4,0),_),((6,0),_)] [(0,9)] [(0,9)]) kp ?_
 refine an (ai (aV (r:=true) _ _ Tryz.underlying9 rfl rfl rfl) (cp rfl (aj (bL rfl rfl (an (bb rfl rfl rfl (bG rfl rfl rfl rfl rfl rfl (dY (aU fun K19 hK19=> ?_)))))))))
 refine an (bS rfl (ai (bU (h1)) (aJ (hK19 _ ?_))))
 clear hK19;try clear K19
 exact am (ai (az _ aa rfl rfl rfl rfl) (bG rfl rfl rfl rfl rfl rfl (aj (aG (bI (.inr rfl) rfl (.cellA aa rfl rfl rfl) (Le.outI [] [] (.agg rfl lz) rfl rfl rfl trivial ob tr rfl))))))
theorem FY (hT:T.length≤100000) (lv i:Nat) (hl:lv≤20) (hi:i < T.length) (ht:(di T i).t=qI) {j1:Nat} (h1:Spec Tryz.prog 162 (aY [.ptr (0,9) 0, .v (bt [59])] (eb T (bJ T i) N)) (bc (.tup []) (eb T j1 N) [(0,9)] [(0,9)])):
  Spec Tryz.prog 202 (aY [.ptr (0,9) 0, .v (.int .i64 (lv:Int))] (eb T i N)) (PO T N (nd 10 0 [] [],j1)):=by
 have hnx:=bQ T i N hi
 have hn:eF T i=false:=gh (by rw [ht];rfl)
 rw [ht] at hnx
 refine Spec.ofNI Tryz.func202 rfl Tryz.ntmps202 rfl ?_
 refine am (ai (aD (4,0) aa rfl rfl) (aj (am (bS rfl (ai (bs aa _ _ ar (hnx) tr rfl ae (by simp)) ?_)))))
 refine oP rfl (aj (am (ai (aM _ aa rfl (by exact kH)) ?_)))
 refine ai (aD (6,0) aa rfl rfl) (bG rfl rfl rfl rfl rfl rfl (aj (aq (am (bS rfl (ai (bs aa _ _ ar (dU T i N hi) tr rfl ae (by simp)) ?_))))))
 refine aj (aW rfl hn (aS (aq (am (ai (bi _ _ aa rfl ag (by (simp <;> rfl)) ah rfl) ?_)))))
 refine eh rfl (ai (aI aa al (cG Dx 9 rfl ab qI) rfl rfl) ?_)
 refine ai (co (r:=false) _ rfl rfl) (aj (aW rfl rfl (aS (am (bS rfl (ai (bU (cB T i N hi hT)) ?_))))))
 refine aj (aq (aq ?_))
 refine aN (σ':=aE 145 [(0,_),(1,_),(4,_),(5,_),(6,_)] [((0,9),_),((4,0),_),((6,0),_)] [(0,9)] [(0,9)]) kp ?_
 refine an (eh rfl (aj (ay (aq (am (ai (aV (r:=false) _ _ Tryz.underlying9 rfl rfl rfl) (cp rfl (aj (aW rfl rfl (an ?_))))))))))
 refine ai (aV (r:=false) _ _ Tryz.underlying9 rfl rfl rfl) (cp rfl (aj (aW rfl rfl (am (ai (aV (r:=false) _ _ Tryz.underlying9 rfl rfl rfl) (cp rfl (aj (aW rfl rfl (am (ai (aV (r:=false) _ _ Tryz.underlying9 rfl rfl rfl) ?_))))))))))
 refine cp rfl (aj (aW rfl rfl (am (ai (aV (r:=false) _ _ Tryz.underlying9 rfl rfl rfl) (cp rfl (aj (aW rfl rfl (am (ai (aV (r:=false) _ _ Tryz.underlying9 rfl rfl rfl) (cp rfl ?_))))))))))
 refine aj (aW rfl rfl (am (ai (aV (r:=false) _ _ Tryz.underlying9 rfl rfl rfl) (cp rfl (aj (aW rfl rfl (aq ?_)))))))
 refine aN (σ':=aE 145 [(0,_),(4,_),(6,_),(45,_)] [((0,9),_),((4,0),_),((6,0),_)] [(0,9)] [(0,9)]) kp ?_
 refine an (ai (aV (r:=false) _ _ Tryz.underlying9 rfl rfl rfl) (cp rfl (aj (aW rfl rfl (an (bb rfl rfl rfl (bG rfl rfl rfl rfl rfl rfl (dY (aU fun K19 hK19=> ?_)))))))))
 refine an (bS rfl (ai (bU (h1)) (aJ (hK19 _ ?_))))
 clear hK19;try clear K19
 exact am (ai (az _ aa rfl rfl rfl rfl) (bG rfl rfl rfl rfl rfl rfl (aj (aG (bI (.inr rfl) rfl (.cellA aa rfl rfl rfl) (Le.outI [] [] (.agg rfl lz) rfl rfl rfl trivial ob tr rfl))))))
end
end Go.Proofs.YtmjnackchaahbaaGreat
