/- Part 9 of the texts that the walk leans on: the machine, the walks, the plain laws. -/
import Derived.Test.YtmjnackchaahbaaGreatNyZ8
set_option linter.unusedSimpArgs false
set_option linter.unusedVariables false
namespace Go.Proofs.YtmjnackchaahbaaGreat
open Go.RowKit

theorem cF (l:List Tx) (n:Nat) (hn:l.length=n) (h1:n≤1000) (t:Tx):Spec Tryz.prog 199 (ba [.sl n (fl l), .v (bt t)] []) (aO (.v (.bool (decide (t∈l)))) []):=by
 refine Spec.ofN Tryz.func199 rfl Tryz.ntmps199 rfl ?_
 refine am (cp rfl (aj (aU fun K2 hK2=> ?_)))
 refine am (be rfl (aj (ax ?_)))
 refine bq (α:=Nat) (fun k=> k≤n∧t∉l.take k) 18 [(0,_),(1,_)] [] (fun k=> [(5, .v (.int .i64 (k:Int)))]) (fun k=> []) [] [] (fun k=> n - k) 0 ?_ (by
  refine Le.mkJ [] [] rfl ?_ ?_ trivial trivial ?_
  ·exact ⟨(iS rfl),(iV rfl),(co ag),trivial⟩
  ·exact trivial
  kernel_rfl) ?_
 ·exact ⟨Nat.zero_le _,by simp⟩
 intro k hk
 obtain ⟨hk,hnt⟩:=hk
 refine aU fun K4 hK4=> ?_
 refine am (aX rfl (eW rfl (ai (bn _ aa rfl) (ai (bm _ _ rfl rfl rfl) (aj (aP rfl (fun hc9=> ?_) (fun hc9=> ?_)))))))
 ·skip
  refine bs (hK4 _ ?_)
  clear hK4;try clear K4
  refine aq (ax (am (eW rfl (aX rfl (ai (bo _ _ aa rfl rfl _ rfl ab (by (simp only [aN,bg,bj,bv,bu];omega)) (by exact Nat.mul_one _)) ?_)))))
  refine ai (bO _ aa rfl (by exact jQ _ _ ab) rfl) ?_
  refine eh rfl (ai (aV _ _ Tryz.underlying9 rfl rfl rfl) (aj (aP rfl (fun hc17=> ?_) (fun hc17=> ?_))))
  ·skip
   refine am (cp rfl (aj (aG (rZ rfl rfl ?_))))
   exact decide_eq_true (hc17 ▸ kb ab)
  refine cr (an (aX rfl (ai (aZ _ _ rfl rfl (bE ab)) ?_)))
  refine be rfl (aJ (⟨k+1,?_,?_,?_⟩))
  ·exact ⟨by omega,kK hnt ab hc17⟩
  ·skip
   refine Le.mkJ [] [] rfl ?_ ?_ trivial trivial ?_
   ·exact ⟨(iS rfl),(iV rfl),(co ag),trivial⟩
   ·exact trivial
   kernel_rfl
  omega
 have hall:t∉l:=by rwa [List.take_of_length_le ab] at hnt
 refine bD (id (hK2 _ ?_))
 clear hK2;try clear K2
 refine am (cp rfl (aj (aG (rZ rfl rfl ?_))))
 exact decide_eq_false hall
theorem mw:Spec Tryz.prog 205 (ba [] []) (aO (.sl 9 (fl bltT)) []):=by
 refine Spec.ofN Tryz.func205 rfl Tryz.ntmps205 rfl ?_
 refine am (ai (bp _ fz) (aj (am (ai (bh _ _ aa rfl ag (by (simp <;> rfl)) ah rfl) ?_))))
 exact kD rfl (aj (aG (pU rfl rfl)))
theorem mv (t:Tx):Spec Tryz.prog 225 (ba [.v (bt t)] []) (aO (.v (.bool (wM t))) []):=by
 refine Spec.ofN Tryz.func225 rfl Tryz.ntmps225 rfl ?_
 refine am (cp rfl (aj (am (ai (aH aa (by repeat' (exact cU)) (mw) rfl rfl) ?_))))
 refine eh rfl (ai (aH aa al (cF bltT 9 rfl ab t) rfl rfl) ?_)
 refine cL rfl (dv (fun hg6=> ?_) (fun hg6=> ?_))
 ·skip
  refine aQ rfl rfl ah ?_
  refine aQ rfl rfl ah ?_
  refine aQ rfl rfl ah ?_
  refine ai (aE _ _ _ rfl bR) (cp rfl (aj (aG (rZ rfl rfl ?_))))
  unfold wM
  (rw [decide_eq_true hg6];rfl)
 refine ay rfl rfl (bh _ _ aa rfl ag (by (simp <;> rfl)) ah rfl) ?_
 refine ay rfl rfl (aI _ wV) (ay rfl rfl (aH aa al (cF Om 19 rfl ab t) rfl rfl) ?_)
 refine ai (aE _ _ _ rfl bR) (cp rfl (aj (aG (rZ rfl rfl ?_))))
 unfold wM
 (rw [decide_eq_false hg6];rfl)
theorem ej {T:List Tk} {i:Nat} (h:i < T.length):bJ T i < T.length:=by unfold bJ;split <;> omega
abbrev ea (T:List Tk) (i:Nat) (N:List Tx):List (aB×Cells):=[((0,9), .box 222 [.sl T.length (sY T), .v (.int .i64 (i:Int)), .v (.int .i64 0), .v (.int .i64 0), .sl N.length (fl N)])]
theorem bN (T:List Tk) (i:Nat) (N:List Tx) (hi:i < T.length):
  Spec Tryz.prog 160 (aY [.ptr (0,9) 0] (ea T i N)) (bc (.v (bt (di T i).t)) (ea T i N) [(0,9)] [(0,9)]):=by
 refine Spec.ofNI Tryz.func160 rfl Tryz.ntmps160 rfl ?_
 refine am (oO rfl (aj (aq (bK 12 [3,4,5,6,7,8,9,10,11,12,13,2] [] ae ae rfl (aK rfl) (rfl:_=[_,_,_,_,_,_,_,_,_,_,_,_]) (rfl:_=[]) ?_))))
 refine ap (_,[]) (fun τ=> aI _ bW) ?_
 refine fF rfl ?_
 refine ap (_,[]) (fun τ=> aT _ rfl rfl) ?_
 refine fL rfl ?_
 refine ap (_,[]) (fun τ=> aA _ aa rfl rfl rfl) ?_
 refine fA rfl ?_
 refine ap (_,[]) (fun τ=> aF _ aa rfl rfl eE) ?_
 refine fT rfl ?_
 refine ap (_,[]) (fun τ=> aI _ bW) ?_
 refine gj rfl ?_
 refine ap (_,[]) (fun τ=> aT _ rfl rfl) ?_
 refine gU rfl ?_
 refine ap (_,[]) (fun τ=> aA _ aa rfl rfl rfl) ?_
 refine iC rfl ?_
 refine ap (_,[]) (fun τ=> aF _ aa rfl rfl eg) ?_
 refine jM rfl ?_
 refine ap (_,[]) (fun τ=> bo _ _ aa rfl rfl _ rfl ab (by (simp only [aN,bg,bj,bv,bu];omega)) ag) ?_
 refine jX rfl ?_
 refine ap (_,[]) (fun τ=> cX _ aa rfl rfl) ?_
 refine fI rfl ?_
 refine ap (_,[]) (fun τ=> bO _ aa rfl (by exact oa _ _ ab) rfl) ?_
 refine gh rfl ?_
 refine ap (_,[]) (fun τ=> bp _ wV) ?_
 refine jW rfl (bl ⟨rfl,?_⟩)
 exact aj (aG (bI (.inr rfl) rfl (.tmp kU) (Le.outI [] [] .v rfl rfl rfl trivial ob tr rfl)))
theorem dW (T:List Tk) (i:Nat) (N:List Tx) (hi:i < T.length):
  Spec Tryz.prog 197 (aY [.ptr (0,9) 0] (ea T i N)) (bc (.v (.bool (eG T i))) (ea T i N) [(0,9)] [(0,9)]):=by
 refine Spec.ofNI Tryz.func197 rfl Tryz.ntmps197 rfl ?_
 refine am (cp rfl (aj (aq (bK 28 [3,4,5,6,7,8,9,10,11,12,13,14,15,16,17,18,19,20,21,22,23,24,25,26,27,28,29,2] [] ae ae rfl (aK rfl) (rfl:_=[_,_,_,_,_,_,_,_,_,_,_,_,_,_,_,_,_,_,_,_,_,_,_,_,_,_,_,_]) (rfl:_=[]) ?_))))
 refine ap (_,[]) (fun τ=> aI _ bW) ?_
 refine fF rfl ?_
 refine ap (_,[]) (fun τ=> aT _ rfl rfl) ?_
 refine fL rfl ?_
 refine ap (_,[]) (fun τ=> aA _ aa rfl rfl rfl) ?_
 refine fA rfl ?_
 refine ap (_,[]) (fun τ=> aF _ aa rfl rfl eE) ?_
 refine fT rfl ?_
 refine ap (_,[]) (fun τ=> aI _ bW) ?_
 refine gj rfl ?_
 refine ap (_,[]) (fun τ=> aT _ rfl rfl) ?_
 refine gU rfl ?_
 refine ap (_,[]) (fun τ=> aA _ aa rfl rfl rfl) ?_
 refine iC rfl ?_
 refine ap (_,[]) (fun τ=> aF _ aa rfl rfl eg) ?_
 refine jM rfl ?_
 refine ap (_,[]) (fun τ=> bo _ _ aa rfl rfl _ rfl ab (by (simp only [aN,bg,bj,bv,bu];omega)) ag) ?_
 refine jX rfl ?_
 refine ap (_,[]) (fun τ=> cX _ aa rfl rfl) ?_
 refine fI rfl ?_
 refine ap (_,[]) (fun τ=> bO _ aa rfl (by exact qV _ _ ab) rfl) ?_
 refine gh rfl ?_
 refine ap (_,[]) (fun τ=> bB _ _ rfl rfl rfl) ?_
 refine jW rfl ?_
 refine ap (_,[]) (fun τ=> aI _ bR) ?_
 refine od (fun hg15=> ?_) (fun hg15=> ?_)
 ·skip
  have hr:eG T i= !wM (di T i).t:=by unfold eG;rw [decide_eq_true ab];rfl
  refine li rfl ?_
  refine bw (_,[]) rfl (fun τ=> rfl) (fun τ=> aI _ bW) ?_
  refine nh rfl ?_
  refine bw (_,[]) rfl (fun τ=> rfl) (fun τ=> aT _ rfl rfl) ?_
  refine uD rfl ?_
  refine bw (_,[]) rfl (fun τ=> rfl) (fun τ=> aA _ aa rfl rfl rfl) ?_
  refine uB rfl ?_
  refine bw (_,[]) rfl (fun τ=> rfl) (fun τ=> aF _ aa rfl rfl eE) ?_
  refine wo rfl ?_
  refine bw (_,[]) rfl (fun τ=> rfl) (fun τ=> aI _ bW) ?_
  refine yE rfl ?_
  refine bw (_,[]) rfl (fun τ=> rfl) (fun τ=> aT _ rfl rfl) ?_
  refine yS rfl ?_
  refine bw (_,[]) rfl (fun τ=> rfl) (fun τ=> aA _ aa rfl rfl rfl) ?_
  refine Cc rfl ?_
  refine bw (_,[]) rfl (fun τ=> rfl) (fun τ=> aF _ aa rfl rfl eg) ?_
  refine Eu rfl ?_
  refine bw (_,[]) rfl (fun τ=> rfl) (fun τ=> bo _ _ aa rfl rfl _ rfl ab (by (simp only [aN,bg,bj,bv,bu];omega)) ag) ?_
  refine EF rfl ?_
  refine bw (_,[]) rfl (fun τ=> rfl) (fun τ=> cX _ aa rfl rfl) ?_
  refine EJ rfl ?_
  refine bw (_,[]) rfl (fun τ=> rfl) (fun τ=> bO _ aa rfl (by exact oa _ _ ab) rfl) ?_
  refine Dy rfl ?_
  refine bw (_,[]) rfl (fun τ=> rfl) (fun τ=> (aH aa al (mv (di T i).t) rfl rfl)) ?_
  refine EB rfl ?_
  refine bw (_,[]) rfl (fun τ=> rfl) (fun τ=> cu _ rfl rfl) ?_
  refine DN rfl ?_
  refine ap (_,[]) (fun τ=> aE _ _ _ rfl bR) ?_
  refine Gn rfl ?_
  refine ap (_,[]) (fun τ=> bp _ bR) ?_
  refine DO rfl (bl ⟨rfl,?_⟩)
  exact aj (aG (bI (.inr rfl) rfl (.tmp bR) (Le.outI [] [] (lP hr) rfl rfl rfl trivial ob tr rfl)))
 have hr:eG T i=false:=by unfold eG;rw [decide_eq_false ab];rfl
 refine li rfl ?_
 refine cW rfl (fun τ=> rfl) ah ?_
 refine nh rfl ?_
 refine cW rfl (fun τ=> rfl) ah ?_
 refine uD rfl ?_
 refine cW rfl (fun τ=> rfl) ah ?_
 refine uB rfl ?_
 refine cW rfl (fun τ=> rfl) ah ?_
 refine wo rfl ?_
 refine cW rfl (fun τ=> rfl) ah ?_
 refine yE rfl ?_
 refine cW rfl (fun τ=> rfl) ah ?_
 refine yS rfl ?_
 refine cW rfl (fun τ=> rfl) ah ?_
 refine Cc rfl ?_
 refine cW rfl (fun τ=> rfl) ah ?_
 refine Eu rfl ?_
 refine cW rfl (fun τ=> rfl) ah ?_
 refine EF rfl ?_
 refine cW rfl (fun τ=> rfl) ah ?_
 refine EJ rfl ?_
 refine cW rfl (fun τ=> rfl) ah ?_
 refine Dy rfl ?_
 refine cW rfl (fun τ=> rfl) ah ?_
 refine EB rfl ?_
 refine cW rfl (fun τ=> rfl) ah ?_
 refine DN rfl ?_
 refine ap (_,[]) (fun τ=> aE _ _ _ rfl bR) ?_
 refine Gn rfl ?_
 refine ap (_,[]) (fun τ=> bp _ bR) ?_
 refine DO rfl (bl ⟨rfl,?_⟩)
 exact aj (aG (bI (.inr rfl) rfl (.tmp bR) (Le.outI [] [] (lP hr) rfl rfl rfl trivial ob tr rfl)))
theorem cA (T:List Tk) (i:Nat) (N:List Tx) (hi:i < T.length) (hT:T.length≤100000):
  Spec Tryz.prog 196 (aY [.ptr (0,9) 0] (ea T i N)) (bc (.tup []) (ea T (bJ T i) N) [(0,9)] [(0,9)]):=by
 refine Spec.ofNI Tryz.func196 rfl Tryz.ntmps196 rfl ?_
 refine aq (bK 11 [2,3,4,5,6,7,8,9,10,11,12] [] ae ae rfl (aK rfl) (rfl:_=[_,_,_,_,_,_,_,_,_,_,_]) (rfl:_=[]) ?_)
 refine ap (_,[]) (fun τ=> aI _ bW) ?_
 refine fF rfl ?_
 refine ap (_,[]) (fun τ=> aT _ rfl rfl) ?_
 refine fL rfl ?_
 refine ap (_,[]) (fun τ=> aA _ aa rfl rfl rfl) ?_
 refine fA rfl ?_
 refine ap (_,[]) (fun τ=> aF _ aa rfl rfl eg) ?_
 refine fT rfl ?_
 refine ap (_,[]) (fun τ=> aZ _ _ rfl rfl (bE ab)) ?_
 refine gj rfl ?_
 refine ap (_,[]) (fun τ=> aI _ bW) ?_
 refine gU rfl ?_
 refine ap (_,[]) (fun τ=> aT _ rfl rfl) ?_
 refine iC rfl ?_
 refine ap (_,[]) (fun τ=> aA _ aa rfl rfl rfl) ?_
 refine jM rfl ?_
 refine ap (_,[]) (fun τ=> aF _ aa rfl rfl eE) ?_
 refine jX rfl ?_
 refine ap (_,[]) (fun τ=> bn _ aa rfl) ?_
 refine fI rfl ?_
 refine ap (_,[]) (fun τ=> bm _ _ rfl rfl rfl) ?_
 refine gh rfl (bl ⟨rfl,?_⟩)
 refine aj (aP rfl (fun hc12=> ?_) (fun hc12=> ?_))
 ·skip
  have ht:bJ T i=i+1:=by unfold bJ;rw [if_pos ab]
  refine an (bQ rfl (ai (aT _ rfl rfl) (bb rfl rfl rfl (cf rfl rfl rfl (ai (aZ _ _ rfl rfl (bE ab)) ?_)))))
  exact ai (aT _ rfl rfl) (bb rfl rfl rfl (bG rfl rfl rfl rfl rfl rfl (aJ (fy (.inl rfl) rfl (Le.outI [] [] (.tup rfl bf) rfl rfl rfl trivial ⟨⟨rfl,⟨_,rfl, .box rfl (au .sl (au (co (by rw [ht] <;> omega)) lz))⟩,rfl⟩,trivial⟩ tr rfl)))))
 have ht:bJ T i=i:=by unfold bJ;rw [if_neg ab]
 exact bs (fy (.inl rfl) rfl (Le.outI [] [] (.tup rfl bf) rfl rfl rfl trivial ⟨⟨rfl,⟨_,rfl, .box rfl (au .sl (au (co (by rw [ht] <;> omega)) lz))⟩,rfl⟩,trivial⟩ tr rfl))
theorem fP (T:List Tk) (i j:Nat) (N:List Tx) (s:Tx) (hi:i < T.length) (hT:T.length≤100000) (h:gQ T s i=some j):
  Spec Tryz.prog 162 (aY [.ptr (0,9) 0, .v (bt s)] (ea T i N)) (bc (.tup []) (ea T j N) [(0,9)] [(0,9)]):=by
 have ⟨hs,hj⟩:(di T i).t=s∧bJ T i=j:=by
  unfold gQ at h
  split at h
  ·exact ⟨by assumption,Option.some.inj h⟩
  cases h
 subst hs
 subst hj
 refine Spec.ofNI Tryz.func162 rfl Tryz.ntmps162 rfl ?_
 refine aq (am (bQ rfl (ai (aT _ rfl rfl) (bb rfl rfl rfl (cf rfl rfl rfl (jY rfl rfl rfl (cL rfl (ay rfl rfl (aI _ bW) (ay rfl rfl (br aa _ _ ar (bN T i N hi) tr rfl ae (by simp)) ?_)))))))))
 refine ay rfl rfl (aI _ wV) (ay rfl rfl (tI (r:=false) _ _ Tryz.underlying9 rfl rfl (by exact bne_self_eq_false _)) ?_)
 refine ai (aE _ _ _ rfl bR) (aj (aW rfl rfl (aS (am (bQ rfl (ai (aT _ rfl rfl) (bb rfl rfl rfl (cf rfl rfl rfl (jY rfl rfl rfl (aj ?_))))))))))
 refine bL rfl rfl ?_
 refine aM (σ':=aD 28 [(0,_)] [((0,9),_)] [(0,9)] [(0,9)]) kp ?_
 refine an (bQ rfl (ai (bU (cA T i N hi hT)) ?_))
 exact aJ (fy (.inl rfl) rfl (Le.outI [] [] (.tup rfl bf) rfl rfl rfl trivial ob tr rfl))
theorem kV {T:List Tk} {s:Tx} {lv i j:Nat} (h:rM T s lv i=some j):lv≤20∧gQ T s i=some j:=by
 unfold rM at h
 split at h
 ·cases h
 rename_i hn
 refine ⟨?_,h⟩
 unfold gQ at h
 split at h
 ·rename_i ht
  exact Nat.le_of_not_lt fun hl=> hn ⟨ht,hl⟩
 cases h
theorem jO {T:List Tk} {s:Tx} {i j:Nat} (h:gQ T s i=some j) (hi:i < T.length):j < T.length:=by
 unfold gQ at h
 split at h
 ·rw [← Option.some.inj h];exact ej hi
 cases h
theorem oM (T:List Tk) (i j:Nat) (N:List Tx) (s:Tx) (lv:Nat) (hi:i < T.length) (hT:T.length≤100000) (h:rM T s lv i=some j):
  Spec Tryz.prog 201 (aY [.ptr (0,9) 0, .v (bt s), .v (.int .i64 (lv:Int))] (ea T i N)) (bc (.tup []) (ea T j N) [(0,9)] [(0,9)]):=by
 obtain ⟨hl,he⟩:=kV h
 refine Spec.ofNI Tryz.func201 rfl Tryz.ntmps201 rfl ?_
 refine aq (am (bQ rfl (ai (aT _ rfl rfl) (bb rfl rfl rfl (cf rfl rfl rfl (jY rfl rfl rfl (cL rfl (ay rfl rfl (aI _ bW) (ay rfl rfl (br aa _ _ ar (bN T i N hi) tr rfl ae (by simp)) ?_)))))))))
 refine ay rfl rfl (aI _ wV) (ay rfl rfl (aV _ _ Tryz.underlying9 rfl rfl rfl) (ai (aE _ _ _ rfl bR) (cL rfl (dv (fun hg17=> ?_) (fun hg17=> ?_)))))
 ·skip
  refine ay rfl rfl (aI _ eu) (ay rfl rfl (gA (r:=false) _ _ rfl rfl (decide_eq_false ab)) ?_)
  refine ai (aE _ _ _ rfl bR) (aj (aW rfl rfl (aS ?_)))
  refine aM (σ':=aD 30 [(0,_),(1,_)] [((0,9),_)] [(0,9)] [(0,9)]) kp ?_
  refine an (bQ rfl (eh rfl (ai (bU (fP T i j N s hi hT he)) ?_)))
  exact aJ (fy (.inl rfl) rfl (Le.outI [] [] (.tup rfl bf) rfl rfl rfl trivial ob tr rfl))
 refine aQ rfl rfl ah ?_
 refine aQ rfl rfl ah ?_
 refine ai (aE _ _ _ rfl bR) (aj (aW rfl rfl (aS ?_)))
 refine aM (σ':=aD 30 [(0,_),(1,_)] [((0,9),_)] [(0,9)] [(0,9)]) kp ?_
 refine an (bQ rfl (eh rfl (ai (bU (fP T i j N s hi hT he)) ?_)))
 exact aJ (fy (.inl rfl) rfl (Le.outI [] [] (.tup rfl bf) rfl rfl rfl trivial ob tr rfl))
theorem lw (T:List Tk) (i:Nat) (N:List Tx) (most:Nat) (hi:i < T.length) (hT:T.length≤100000) (hm:most≤1000) (r:Nat×Nat) (h:pz T most i=some r):
  Spec Tryz.prog 200 (aY [.ptr (0,9) 0, .v (.int .i64 (most:Int))] (ea T i N)) (bc (.v (.int .i64 (r.1:Int))) (ea T r.2 N) [(0,9)] [(0,9)]):=by
 have ⟨h1,h2,h3⟩:(di T i).k=2∧(di T i).n≤most∧r=((di T i).n,bJ T i):=by
  unfold pz at h
  split at h
  ·rename_i hx;exact ⟨hx.1,hx.2,(Option.some.inj h).symm⟩
  cases h
 subst h3
 refine Spec.ofNI Tryz.func200 rfl Tryz.ntmps200 rfl ?_
 refine am (be rfl (aj (aq (bK 11 [6,7,8,9,10,11,12,13,14,15,5] [(5,0)] ae ae rfl (aK rfl) (rfl:_=[_,_,_,_,_,_,_,_,_,_,_]) (rfl:_=[_]) ?_))))
 refine ap (_,[]) (fun τ=> aI _ bW) ?_
 refine fF rfl ?_
 refine ap (_,[]) (fun τ=> aT _ rfl rfl) ?_
 refine fL rfl ?_
 refine ap (_,[]) (fun τ=> aA _ aa rfl rfl rfl) ?_
 refine fA rfl ?_
 refine ap (_,[]) (fun τ=> aF _ aa rfl rfl eE) ?_
 refine fT rfl ?_
 refine ap (_,[]) (fun τ=> aI _ bW) ?_
 refine gj rfl ?_
 refine ap (_,[]) (fun τ=> aT _ rfl rfl) ?_
 refine gU rfl ?_
 refine ap (_,[]) (fun τ=> aA _ aa rfl rfl rfl) ?_
 refine iC rfl ?_
 refine ap (_,[]) (fun τ=> aF _ aa rfl rfl eg) ?_
 refine jM rfl ?_
 refine ap (_,[]) (fun τ=> bo _ _ aa rfl rfl _ rfl ab (by (simp only [aN,bg,bj,bv,bu];omega)) ag) ?_
 refine jX rfl ?_
 refine ap (_,[]) (fun τ=> cd _ aa rfl (by exact nu _ _ hi) rfl) ?_
 refine fI rfl ?_
 refine ap (_,[((5,0),_)]) (fun τ=> aC (5,0) aa rfl rfl) ?_
 refine gh rfl (bl ⟨rfl,?_⟩)
 refine bG rfl rfl rfl rfl rfl rfl (aj (aq (am (bb rfl rfl rfl (cf rfl rfl rfl (ai (bY _ _ rfl rfl rfl) (aj (aW rfl (by rw [h1];rfl) ?_))))))))
 refine aq ?_
 refine aM (σ':=aD 44 [(0,_),(1,_),(5,_)] [((0,9),_),((5,0),_)] [(0,9)] [(0,9)]) kp ?_
 refine an (bb rfl rfl rfl (cf rfl rfl rfl (aX rfl (ai (gA _ _ rfl rfl rfl) (aj (aW rfl (decide_eq_false ab) ?_))))))
 refine aS (aq (am (bQ rfl (ai (aT _ rfl rfl) (bb rfl rfl rfl (cf rfl rfl rfl (ai (bY (r:=false) _ _ rfl rfl rfl) (aj (aW rfl rfl (aS ?_))))))))))
 refine am (bQ rfl (ai (bU (cA T i N hi hT)) ?_))
 exact aj (am (bb rfl rfl rfl (cf rfl rfl rfl (be rfl (aj (aG (bI (.inr rfl) rfl (.tmp kU) (Le.outI [] [] .v rfl rfl rfl trivial ob tr rfl))))))))
abbrev Gf (T:List Tk) (i:Nat) (N:List Tx):List (aB×Cells):=[((0,9), .box 222 [.sl T.length (sY T), .v (.int .i64 (i:Int)), .v (.int .i64 0), .v (.int .i64 0), .ref (1,9) 0 N.length]),((1,9), .row 9 1 (fl N))]
theorem fc (T:List Tk) (i:Nat) (N:List Tx) (hi:i < T.length):
  Spec Tryz.prog 160 (aY [.ptr (0,9) 0] (Gf T i N)) (bc (.v (bt (di T i).t)) (Gf T i N) [(0,9),(1,9)] [(0,9),(1,9)]):=by
 refine Spec.ofNI Tryz.func160 rfl Tryz.ntmps160 rfl ?_
 refine am (oO rfl (aj (aq (bK 12 [3,4,5,6,7,8,9,10,11,12,13,2] [] ae ae rfl (aK rfl) (rfl:_=[_,_,_,_,_,_,_,_,_,_,_,_]) (rfl:_=[]) ?_))))
 refine ap (_,[]) (fun τ=> aI _ bW) ?_
 refine fF rfl ?_
 refine ap (_,[]) (fun τ=> aT _ rfl rfl) ?_
 refine fL rfl ?_
 refine ap (_,[]) (fun τ=> aA _ aa rfl rfl rfl) ?_
 refine fA rfl ?_
 refine ap (_,[]) (fun τ=> aF _ aa rfl rfl eE) ?_
 refine fT rfl ?_
 refine ap (_,[]) (fun τ=> aI _ bW) ?_
 refine gj rfl ?_
 refine ap (_,[]) (fun τ=> aT _ rfl rfl) ?_
 refine gU rfl ?_
 refine ap (_,[]) (fun τ=> aA _ aa rfl rfl rfl) ?_
 refine iC rfl ?_
 refine ap (_,[]) (fun τ=> aF _ aa rfl rfl eg) ?_
 refine jM rfl ?_
 refine ap (_,[]) (fun τ=> bo _ _ aa rfl rfl _ rfl ab (by (simp only [aN,bg,bj,bv,bu];omega)) ag) ?_
 refine jX rfl ?_
 refine ap (_,[]) (fun τ=> cX _ aa rfl rfl) ?_
 refine fI rfl ?_
 refine ap (_,[]) (fun τ=> bO _ aa rfl (by exact oa _ _ ab) rfl) ?_
 refine gh rfl ?_
 refine ap (_,[]) (fun τ=> bp _ wV) ?_
 refine jW rfl (bl ⟨rfl,?_⟩)
 exact aj (aG (bI (.inr rfl) rfl (.tmp kU) (Le.outI [] [] .v rfl rfl rfl trivial ob tr rfl)))
theorem vF (T:List Tk) (i:Nat) (N:List Tx) (hi:i < T.length):
  Spec Tryz.prog 197 (aY [.ptr (0,9) 0] (Gf T i N)) (bc (.v (.bool (eG T i))) (Gf T i N) [(0,9),(1,9)] [(0,9),(1,9)]):=by
 refine Spec.ofNI Tryz.func197 rfl Tryz.ntmps197 rfl ?_
 refine am (cp rfl (aj (aq (bK 28 [3,4,5,6,7,8,9,10,11,12,13,14,15,16,17,18,19,20,21,22,23,24,25,26,27,28,29,2] [] ae ae rfl (aK rfl) (rfl:_=[_,_,_,_,_,_,_,_,_,_,_,_,_,_,_,_,_,_,_,_,_,_,_,_,_,_,_,_]) (rfl:_=[]) ?_))))
 refine ap (_,[]) (fun τ=> aI _ bW) ?_
 refine fF rfl ?_
 refine ap (_,[]) (fun τ=> aT _ rfl rfl) ?_
 refine fL rfl ?_
 refine ap (_,[]) (fun τ=> aA _ aa rfl rfl rfl) ?_
 refine fA rfl ?_
 refine ap (_,[]) (fun τ=> aF _ aa rfl rfl eE) ?_
 refine fT rfl ?_
 refine ap (_,[]) (fun τ=> aI _ bW) ?_
 refine gj rfl ?_
 refine ap (_,[]) (fun τ=> aT _ rfl rfl) ?_
 refine gU rfl ?_
 refine ap (_,[]) (fun τ=> aA _ aa rfl rfl rfl) ?_
 refine iC rfl ?_
 refine ap (_,[]) (fun τ=> aF _ aa rfl rfl eg) ?_
 refine jM rfl ?_
 refine ap (_,[]) (fun τ=> bo _ _ aa rfl rfl _ rfl ab (by (simp only [aN,bg,bj,bv,bu];omega)) ag) ?_
 refine jX rfl ?_
 refine ap (_,[]) (fun τ=> cX _ aa rfl rfl) ?_
 refine fI rfl ?_
 refine ap (_,[]) (fun τ=> bO _ aa rfl (by exact qV _ _ ab) rfl) ?_
 refine gh rfl ?_
 refine ap (_,[]) (fun τ=> bB _ _ rfl rfl rfl) ?_
 refine jW rfl ?_
 refine ap (_,[]) (fun τ=> aI _ bR) ?_
 refine od (fun hg15=> ?_) (fun hg15=> ?_)
 ·skip
  have hr:eG T i= !wM (di T i).t:=by unfold eG;rw [decide_eq_true ab];rfl
  refine li rfl ?_
  refine bw (_,[]) rfl (fun τ=> rfl) (fun τ=> aI _ bW) ?_
  refine nh rfl ?_
  refine bw (_,[]) rfl (fun τ=> rfl) (fun τ=> aT _ rfl rfl) ?_
  refine uD rfl ?_
  refine bw (_,[]) rfl (fun τ=> rfl) (fun τ=> aA _ aa rfl rfl rfl) ?_
  refine uB rfl ?_
  refine bw (_,[]) rfl (fun τ=> rfl) (fun τ=> aF _ aa rfl rfl eE) ?_
  refine wo rfl ?_
  refine bw (_,[]) rfl (fun τ=> rfl) (fun τ=> aI _ bW) ?_
  refine yE rfl ?_
  refine bw (_,[]) rfl (fun τ=> rfl) (fun τ=> aT _ rfl rfl) ?_
  refine yS rfl ?_
  refine bw (_,[]) rfl (fun τ=> rfl) (fun τ=> aA _ aa rfl rfl rfl) ?_
  refine Cc rfl ?_
  refine bw (_,[]) rfl (fun τ=> rfl) (fun τ=> aF _ aa rfl rfl eg) ?_
  refine Eu rfl ?_
  refine bw (_,[]) rfl (fun τ=> rfl) (fun τ=> bo _ _ aa rfl rfl _ rfl ab (by (simp only [aN,bg,bj,bv,bu];omega)) ag) ?_
  refine EF rfl ?_
  refine bw (_,[]) rfl (fun τ=> rfl) (fun τ=> cX _ aa rfl rfl) ?_
  refine EJ rfl ?_
  refine bw (_,[]) rfl (fun τ=> rfl) (fun τ=> bO _ aa rfl (by exact oa _ _ ab) rfl) ?_
  refine Dy rfl ?_
  refine bw (_,[]) rfl (fun τ=> rfl) (fun τ=> (aH aa al (mv (di T i).t) rfl rfl)) ?_
  refine EB rfl ?_
  refine bw (_,[]) rfl (fun τ=> rfl) (fun τ=> cu _ rfl rfl) ?_
  refine DN rfl ?_
  refine ap (_,[]) (fun τ=> aE _ _ _ rfl bR) ?_
  refine Gn rfl ?_
  refine ap (_,[]) (fun τ=> bp _ bR) ?_
  refine DO rfl (bl ⟨rfl,?_⟩)
  exact aj (aG (bI (.inr rfl) rfl (.tmp bR) (Le.outI [] [] (lP hr) rfl rfl rfl trivial ob tr rfl)))
 have hr:eG T i=false:=by unfold eG;rw [decide_eq_false ab];rfl
 refine li rfl ?_
 refine cW rfl (fun τ=> rfl) ah ?_
 refine nh rfl ?_
 refine cW rfl (fun τ=> rfl) ah ?_
 refine uD rfl ?_
 refine cW rfl (fun τ=> rfl) ah ?_
 refine uB rfl ?_
 refine cW rfl (fun τ=> rfl) ah ?_
 refine wo rfl ?_
 refine cW rfl (fun τ=> rfl) ah ?_
 refine yE rfl ?_
 refine cW rfl (fun τ=> rfl) ah ?_
 refine yS rfl ?_
 refine cW rfl (fun τ=> rfl) ah ?_
 refine Cc rfl ?_
 refine cW rfl (fun τ=> rfl) ah ?_
 refine Eu rfl ?_
 refine cW rfl (fun τ=> rfl) ah ?_
 refine EF rfl ?_
 refine cW rfl (fun τ=> rfl) ah ?_
 refine EJ rfl ?_
 refine cW rfl (fun τ=> rfl) ah ?_
 refine Dy rfl ?_
 refine cW rfl (fun τ=> rfl) ah ?_
 refine EB rfl ?_
 refine cW rfl (fun τ=> rfl) ah ?_
 refine DN rfl ?_
 refine ap (_,[]) (fun τ=> aE _ _ _ rfl bR) ?_
 refine Gn rfl ?_
 refine ap (_,[]) (fun τ=> bp _ bR) ?_
 refine DO rfl (bl ⟨rfl,?_⟩)
 exact aj (aG (bI (.inr rfl) rfl (.tmp bR) (Le.outI [] [] (lP hr) rfl rfl rfl trivial ob tr rfl)))
theorem kM (T:List Tk) (i:Nat) (N:List Tx) (hi:i < T.length) (hT:T.length≤100000):
  Spec Tryz.prog 196 (aY [.ptr (0,9) 0] (Gf T i N)) (bc (.tup []) (Gf T (bJ T i) N) [(0,9),(1,9)] [(0,9),(1,9)]):=by
 refine Spec.ofNI Tryz.func196 rfl Tryz.ntmps196 rfl ?_
 refine aq (bK 11 [2,3,4,5,6,7,8,9,10,11,12] [] ae ae rfl (aK rfl) (rfl:_=[_,_,_,_,_,_,_,_,_,_,_]) (rfl:_=[]) ?_)
 refine ap (_,[]) (fun τ=> aI _ bW) ?_
 refine fF rfl ?_
 refine ap (_,[]) (fun τ=> aT _ rfl rfl) ?_
 refine fL rfl ?_
 refine ap (_,[]) (fun τ=> aA _ aa rfl rfl rfl) ?_
 refine fA rfl ?_
 refine ap (_,[]) (fun τ=> aF _ aa rfl rfl eg) ?_
 refine fT rfl ?_
 refine ap (_,[]) (fun τ=> aZ _ _ rfl rfl (bE ab)) ?_
 refine gj rfl ?_
 refine ap (_,[]) (fun τ=> aI _ bW) ?_
 refine gU rfl ?_
 refine ap (_,[]) (fun τ=> aT _ rfl rfl) ?_
 refine iC rfl ?_
 refine ap (_,[]) (fun τ=> aA _ aa rfl rfl rfl) ?_
 refine jM rfl ?_
 refine ap (_,[]) (fun τ=> aF _ aa rfl rfl eE) ?_
 refine jX rfl ?_
 refine ap (_,[]) (fun τ=> bn _ aa rfl) ?_
 refine fI rfl ?_
 refine ap (_,[]) (fun τ=> bm _ _ rfl rfl rfl) ?_
 refine gh rfl (bl ⟨rfl,?_⟩)
 refine aj (aP rfl (fun hc12=> ?_) (fun hc12=> ?_))
 ·skip
  have ht:bJ T i=i+1:=by unfold bJ;rw [if_pos ab]
  refine an (bQ rfl (ai (aT _ rfl rfl) (bb rfl rfl rfl (cf rfl rfl rfl (ai (aZ _ _ rfl rfl (bE ab)) ?_)))))
  exact ai (aT _ rfl rfl) (bb rfl rfl rfl (bG rfl rfl rfl rfl rfl rfl (aJ (fy (.inl rfl) rfl (Le.outI [] [] (.tup rfl bf) rfl rfl rfl trivial ⟨⟨rfl,⟨_,rfl, .box rfl (au .sl (au (co (by rw [ht] <;> omega)) lz))⟩,rfl⟩,⟨rfl,⟨_,rfl, .rowE rfl⟩,rfl⟩,trivial⟩ tr rfl)))))
 have ht:bJ T i=i:=by unfold bJ;rw [if_neg ab]
 exact bs (fy (.inl rfl) rfl (Le.outI [] [] (.tup rfl bf) rfl rfl rfl trivial ⟨⟨rfl,⟨_,rfl, .box rfl (au .sl (au (co (by rw [ht] <;> omega)) lz))⟩,rfl⟩,⟨rfl,⟨_,rfl, .rowE rfl⟩,rfl⟩,trivial⟩ tr rfl))
theorem tx (T:List Tk) (i j:Nat) (N:List Tx) (s:Tx) (hi:i < T.length) (hT:T.length≤100000) (h:gQ T s i=some j):
  Spec Tryz.prog 162 (aY [.ptr (0,9) 0, .v (bt s)] (Gf T i N)) (bc (.tup []) (Gf T j N) [(0,9),(1,9)] [(0,9),(1,9)]):=by
 have ⟨hs,hj⟩:(di T i).t=s∧bJ T i=j:=by
  unfold gQ at h
  split at h
  ·exact ⟨by assumption,Option.some.inj h⟩
  cases h
 subst hs
 subst hj
 refine Spec.ofNI Tryz.func162 rfl Tryz.ntmps162 rfl ?_
 refine aq (am (bQ rfl (ai (aT _ rfl rfl) (bb rfl rfl rfl (cf rfl rfl rfl (jY rfl rfl rfl (cL rfl (ay rfl rfl (aI _ bW) (ay rfl rfl (br aa _ _ ar (fc T i N hi) tr rfl ae (by simp)) ?_)))))))))
 refine ay rfl rfl (aI _ wV) (ay rfl rfl (tI (r:=false) _ _ Tryz.underlying9 rfl rfl (by exact bne_self_eq_false _)) ?_)
 refine ai (aE _ _ _ rfl bR) (aj (aW rfl rfl (aS (am (bQ rfl (ai (aT _ rfl rfl) (bb rfl rfl rfl (cf rfl rfl rfl (jY rfl rfl rfl (aj ?_))))))))))
 refine bL rfl rfl ?_
 refine aM (σ':=aD 28 [(0,_)] [((0,9),_),((1,9),_)] [(0,9),(1,9)] [(0,9),(1,9)]) kp ?_
 refine an (bQ rfl (ai (dY aa [] ar (kM T i N hi hT) ob tr ae) ?_))
 exact aJ (fy (.inl rfl) rfl (Le.outI [] [] (.tup rfl bf) rfl rfl rfl trivial ob tr rfl))

abbrev pq (d:Nd):AV:= .agg [.v (.int .i64 (d.k:Int)), .v (.int .i64 (d.n:Int)), .v (bt d.s), .sl d.kn d.kids]
abbrev PO (T:List Tk) (N:List Tx) (r:Nd×Nat):St:=bc (pq r.1) (ea T r.2 N) [(0,9)] [(0,9)]
structure PE (T:List Tk) (N:List Tx) (f:Nat):Prop where
 expr: ∀ lv pr i r,lv≤20→1≤pr∧pr≤7→i < T.length→gR T f lv pr i=some r→r.2 < T.length∧Spec Tryz.prog 226 (aY [.ptr (0,9) 0, .v (.int .i64 (lv:Int)), .v (.int .i64 (pr:Int))] (ea T i N)) (PO T N r)
 un: ∀ s lv pr i r,lv≤20→1≤pr∧pr≤7→i < T.length→IU T f s lv pr i=some r→r.2 < T.length∧Spec Tryz.prog 235 (aY [.ptr (0,9) 0, .v (bt s), .v (.int .i64 (lv:Int)), .v (.int .i64 (pr:Int))] (ea T i N)) (PO T N r)
 bin: ∀ lv pr i r,lv≤20→(1≤pr∧pr≤6∧pr≠3)→i < T.length→yr T f lv pr i=some r→r.2 < T.length∧Spec Tryz.prog 236 (aY [.ptr (0,9) 0, .v (.int .i64 (lv:Int)), .v (.int .i64 (pr:Int))] (ea T i N)) (PO T N r)
 nest: ∀ lv i r,lv≤20→i < T.length→rD T f lv i=some r→r.2 < T.length∧Spec Tryz.prog 240 (aY [.ptr (0,9) 0, .v (.int .i64 (lv:Int))] (ea T i N)) (PO T N r)
 prim: ∀ lv i r,lv≤20→i < T.length→uP T f lv i=some r→r.2 < T.length∧Spec Tryz.prog 237 (aY [.ptr (0,9) 0, .v (.int .i64 (lv:Int))] (ea T i N)) (PO T N r)
section
variable {T:List Tk} {N:List Tx}
theorem zc (f:Nat) (ih:PE T N f) (lv pr i:Nat) (r:Nd×Nat) (hl:lv≤20) (hp:1≤pr∧pr≤7) (hi:i < T.length) (h:gR T (f+1) lv pr i=some r):
  r.2 < T.length∧Spec Tryz.prog 226 (aY [.ptr (0,9) 0, .v (.int .i64 (lv:Int)), .v (.int .i64 (pr:Int))] (ea T i N)) (PO T N r):=by
 unfold gR at h
 by_cases h1:pr=3∧(di T i).t=[33]
 ·rw [if_pos h1] at h
  obtain ⟨ha,hb⟩:=ih.un _ _ _ _ _ hl ab hi h
  refine ⟨ha,?_⟩
  obtain ⟨rfl,h1⟩:=h1
  refine Spec.ofNI Tryz.func226 rfl Tryz.ntmps226 rfl ?_
  refine am (ai (aC (6,0) aa rfl rfl) (aj (aq (am (bQ rfl (ai (aT _ rfl rfl) (bb rfl rfl rfl (cf rfl rfl rfl (ai (bY (r:=false) _ _ rfl rfl rfl) (aj ?_))))))))))
  refine aW rfl rfl (aS (am (bQ rfl (ai (br aa _ _ ar (bN T i N hi) tr rfl ae (by simp)) ?_))))
  refine oO rfl (aj (aq (am (aX rfl (jY rfl rfl rfl (cL rfl (ay rfl rfl (aI _ wV) (ay rfl rfl (aV (r:=true) _ _ Tryz.underlying9 rfl rfl (by rw [h1];rfl)) ?_))))))))
  refine ai (aE _ _ _ rfl bR) (aj (bL rfl rfl (aq ?_)))
  refine aM (σ':=aD 50 [(0,_),(1,_),(6,_),(7,_)] [((0,9),_),((6,0),_)] [(0,9)] [(0,9)]) kp ?_
  exact an (bQ rfl (eh rfl (aX rfl (ai (bU (hb)) (bG rfl rfl rfl rfl rfl rfl (aj (aG (bI (.inr rfl) rfl (.cellA aa rfl rfl rfl) (Le.outI [] [] (.agg rfl lz) rfl rfl rfl trivial ob tr rfl)))))))))
 rw [if_neg h1] at h
 by_cases h2:pr=3
 ·rw [if_pos h2] at h
  obtain ⟨ha,hb⟩:=ih.bin _ _ _ _ hl ab hi h
  refine ⟨ha,?_⟩
  subst h2
  have h1:(di T i).t≠[33]:=fun e=> h1 ⟨rfl,e⟩
  refine Spec.ofNI Tryz.func226 rfl Tryz.ntmps226 rfl ?_
  refine am (ai (aC (6,0) aa rfl rfl) (aj (aq (am (bQ rfl (ai (aT _ rfl rfl) (bb rfl rfl rfl (cf rfl rfl rfl (ai (bY (r:=false) _ _ rfl rfl rfl) (aj ?_))))))))))
  refine aW rfl rfl (aS (am (bQ rfl (ai (br aa _ _ ar (bN T i N hi) tr rfl ae (by simp)) ?_))))
  refine oO rfl (aj (aq (am (aX rfl (jY rfl rfl rfl (cL rfl (ay rfl rfl (aI _ wV) (ay rfl rfl (aV (r:=false) _ _ Tryz.underlying9 rfl rfl (beq_eq_false_iff_ne.2 h1)) ?_))))))))
  refine ai (aE _ _ _ rfl bR) (aj (aW rfl rfl (aS (aq (aq ?_)))))
  refine aM (σ':=aD 50 [(0,_),(1,_),(2,_),(6,_),(7,_)] [((0,9),_),((6,0),_)] [(0,9)] [(0,9)]) kp ?_
  refine an (aX rfl (jY rfl rfl rfl (aj (bL rfl rfl (am (bQ rfl (aX rfl (ai (bU (hb)) (bG rfl rfl rfl rfl rfl rfl (aj ?_))))))))))
  exact aG (bI (.inr rfl) rfl (.cellA aa rfl rfl rfl) (Le.outI [] [] (.agg rfl lz) rfl rfl rfl trivial ob tr rfl))
 rw [if_neg h2] at h
 by_cases h3:pr=7∧(di T i).t=[45]
 ·rw [if_pos h3] at h
  obtain ⟨ha,hb⟩:=ih.un _ _ _ _ _ hl ab hi h
  refine ⟨ha,?_⟩
  obtain ⟨rfl,h3⟩:=h3
  refine Spec.ofNI Tryz.func226 rfl Tryz.ntmps226 rfl ?_
  refine am (ai (aC (6,0) aa rfl rfl) (aj (aq (am (bQ rfl (ai (aT _ rfl rfl) (bb rfl rfl rfl (cf rfl rfl rfl (ai (bY (r:=false) _ _ rfl rfl rfl) (aj ?_))))))))))
  refine aW rfl rfl (aS (am (bQ rfl (ai (br aa _ _ ar (bN T i N hi) tr rfl ae (by simp)) ?_))))
  refine oO rfl (aj (aq (am (aX rfl (gO rfl rfl rfl (cL rfl (aQ rfl rfl ah ?_)))))))
  refine aQ rfl rfl ah ?_
  refine ai (aE _ _ _ rfl bR) (aj (aW rfl rfl (aS (aq (aq ?_)))))
  refine aM (σ':=aD 50 [(0,_),(1,_),(2,_),(6,_),(7,_)] [((0,9),_),((6,0),_)] [(0,9)] [(0,9)]) kp ?_
  refine an (aX rfl (gO rfl rfl rfl (aj (aW rfl rfl (aS (aq (am (aX rfl (jY rfl rfl rfl (cL rfl ?_))))))))))
  refine ay rfl rfl (aI _ wV) (ay rfl rfl (aV (r:=true) _ _ Tryz.underlying9 rfl rfl (by rw [h3];rfl)) ?_)
  refine ai (aE _ _ _ rfl bR) (aj (bL rfl rfl (am (bQ rfl (eh rfl (aX rfl (ai (bU (hb)) (bG rfl rfl rfl rfl rfl rfl (aj (aG ?_))))))))))
  exact bI (.inr rfl) rfl (.cellA aa rfl rfl rfl) (Le.outI [] [] (.agg rfl lz) rfl rfl rfl trivial ob tr rfl)
 rw [if_neg h3] at h
 by_cases h4:pr=7
 ·rw [if_pos h4] at h
  obtain ⟨ha,hb⟩:=ih.prim _ _ _ hl hi h
  refine ⟨ha,?_⟩
  subst h4
  have h3:(di T i).t≠[45]:=fun e=> h3 ⟨rfl,e⟩
  refine Spec.ofNI Tryz.func226 rfl Tryz.ntmps226 rfl ?_
  refine am (ai (aC (6,0) aa rfl rfl) (aj (aq (am (bQ rfl (ai (aT _ rfl rfl) (bb rfl rfl rfl (cf rfl rfl rfl (ai (bY (r:=false) _ _ rfl rfl rfl) (aj ?_))))))))))
  refine aW rfl rfl (aS (am (bQ rfl (ai (br aa _ _ ar (bN T i N hi) tr rfl ae (by simp)) ?_))))
  refine oO rfl (aj (aq (am (aX rfl (gO rfl rfl rfl (cL rfl (aQ rfl rfl ah ?_)))))))
  refine aQ rfl rfl ah ?_
  refine ai (aE _ _ _ rfl bR) (aj (aW rfl rfl (aS (aq (aq ?_)))))
  refine aM (σ':=aD 50 [(0,_),(1,_),(2,_),(6,_),(7,_)] [((0,9),_),((6,0),_)] [(0,9)] [(0,9)]) kp ?_
  refine an (aX rfl (gO rfl rfl rfl (aj (aW rfl rfl (aS (aq (am (aX rfl (jY rfl rfl rfl (cL rfl ?_))))))))))
  refine ay rfl rfl (aI _ wV) (ay rfl rfl (aV (r:=false) _ _ Tryz.underlying9 rfl rfl (beq_eq_false_iff_ne.2 h3)) ?_)
  refine ai (aE _ _ _ rfl bR) (aj (aW rfl rfl (aS (aq (am (aX rfl (jY rfl rfl rfl (aj (bL rfl rfl (aU fun K13 hK13=> ?_))))))))))
  refine an (bQ rfl (aX rfl (ai (bU (hb)) (bG rfl rfl rfl rfl rfl rfl (aJ (hK13 _ ?_))))))
  clear hK13;try clear K13
  exact aG (bI (.inr rfl) rfl (.cellA aa rfl rfl rfl) (Le.outI [] [] (.agg rfl lz) rfl rfl rfl trivial ob tr rfl))
 rw [if_neg h4] at h
 obtain ⟨ha,hb⟩:=ih.bin _ _ _ _ hl ab hi h
 refine ⟨ha,?_⟩
 refine Spec.ofNI Tryz.func226 rfl Tryz.ntmps226 rfl ?_
 refine am (ai (aC (6,0) aa rfl rfl) (aj (aq (am (bQ rfl (ai (aT _ rfl rfl) (bb rfl rfl rfl (cf rfl rfl rfl (ai (bY (r:=false) _ _ rfl rfl rfl) (aj ?_))))))))))
 refine aW rfl rfl (aS (am (bQ rfl (ai (br aa _ _ ar (bN T i N hi) tr rfl ae (by simp)) ?_))))
 refine oO rfl (aj (aq (am (aX rfl (gO rfl rfl (beq_eq_false_iff_ne.2 ab) ?_)))))
 refine cL rfl (aQ rfl rfl ah ?_)
 refine aQ rfl rfl ah ?_
 refine ai (aE _ _ _ rfl bR) (aj (aW rfl rfl (aS (aq (aq ?_)))))
 refine aM (σ':=aD 50 [(0,_),(1,_),(2,_),(6,_),(7,_)] [((0,9),_),((6,0),_)] [(0,9)] [(0,9)]) kp ?_
 refine an (aX rfl (gO rfl rfl (beq_eq_false_iff_ne.2 ab) ?_))
 refine aj (aW rfl rfl (aS (aq (am (aX rfl (gO rfl rfl (beq_eq_false_iff_ne.2 ab) ?_))))))
 refine cL rfl (aQ rfl rfl ah ?_)
 refine aQ rfl rfl ah ?_
 refine ai (aE _ _ _ rfl bR) (aj (aW rfl rfl (aS (aq (am (aX rfl (gO rfl rfl (beq_eq_false_iff_ne.2 ab) ?_)))))))
 refine aj (aW rfl rfl (aS (aU fun K13 hK13=> ?_)))
 refine an (bQ rfl (aX rfl (aX rfl (ai (bU (hb)) (bG rfl rfl rfl rfl rfl rfl (aJ (hK13 _ ?_)))))))
 clear hK13;try clear K13
 exact aG (bI (.inr rfl) rfl (.cellA aa rfl rfl rfl) (Le.outI [] [] (.agg rfl lz) rfl rfl rfl trivial ob tr rfl))
theorem EP (hT:T.length≤100000) (f:Nat) (ih:PE T N f) (s:Tx) (lv pr i:Nat) (r:Nd×Nat) (hl:lv≤20) (hp:1≤pr∧pr≤7) (hi:i < T.length) (h:IU T (f+1) s lv pr i=some r):
  r.2 < T.length∧Spec Tryz.prog 235 (aY [.ptr (0,9) 0, .v (bt s), .v (.int .i64 (lv:Int)), .v (.int .i64 (pr:Int))] (ea T i N)) (PO T N r):=by
 unfold IU at h
 simp only [Option.bind_eq_bind,Option.bind_eq_some_iff,Option.pure_def,Option.some.injEq] at h
 obtain ⟨j,hj,⟨d,j2⟩,hd,rfl⟩:=h
 have ho:=kV hj
 have hjl:=jO ho.2 hi
 obtain ⟨ha,hb⟩:=ih.expr _ _ _ _ ho.1 hp hjl hd
 have hopen:=oM T i j N s (lv+1) hi hT hj
 refine ⟨ha,?_⟩
 refine Spec.ofNI Tryz.func235 rfl Tryz.ntmps235 rfl ?_
 refine am (ai (aC (8,0) aa rfl rfl) (aj (am (bQ rfl (eh rfl (aX rfl (ai (aZ _ _ rfl rfl (bE ab)) ?_)))))))
 refine ai (bU (hopen)) (aj (aU fun K3 hK3=> ?_))
 refine an (bQ rfl (aX rfl (ai (aZ _ _ rfl rfl (bE ab)) ?_)))
 refine aX rfl (ai (bU (hb)) (ai (aC (9,0) aa rfl rfl) (bG rfl rfl rfl rfl rfl rfl (aJ (hK3 _ ?_)))))
 clear hK3;try clear K3
 refine am (eh rfl (ai (az _ aa rfl rfl rfl rfl) (ai (bh _ _ aa rfl ag (by (simp <;> rfl)) ah rfl) ?_)))
 refine ai (aL _ aa rfl (by exact kQ)) ?_
 exact bG rfl rfl rfl rfl rfl rfl (aj (aG (bI (.inr rfl) rfl (.cellA aa rfl rfl rfl) (Le.outI [] [] (.agg rfl lz) rfl rfl rfl trivial ob tr rfl))))
theorem yM (hT:T.length≤100000) (f:Nat) (ih:PE T N f) (lv i:Nat) (r:Nd×Nat) (hl:lv≤20) (hi:i < T.length) (h:rD T (f+1) lv i=some r):
  r.2 < T.length∧Spec Tryz.prog 240 (aY [.ptr (0,9) 0, .v (.int .i64 (lv:Int))] (ea T i N)) (PO T N r):=by
 unfold rD at h
 simp only [Option.bind_eq_bind,Option.bind_eq_some_iff,Option.pure_def,Option.some.injEq] at h
 obtain ⟨j,hj,⟨d,j2⟩,hd,j3,hj3,rfl⟩:=h
 have ho:=kV hj
 have hjl:=jO ho.2 hi
 obtain ⟨ha,hb⟩:=ih.expr _ _ _ _ ho.1 ab hjl hd
 have hopen:=oM T i j N [40] (lv+1) hi hT hj
 have hexp:=fP T j2 j3 N [41] ha hT hj3
 refine ⟨jO hj3 ha,?_⟩
 refine Spec.ofNI Tryz.func240 rfl Tryz.ntmps240 rfl ?_
 refine am (ai (aC (4,0) aa rfl rfl) (aj (am (bQ rfl (aX rfl (ai (aZ _ _ rfl rfl (bE ab)) ?_))))))
 refine ai (bU (hopen)) (aj (aU fun K3 hK3=> ?_))
 refine an (bQ rfl (aX rfl (ai (aZ _ _ rfl rfl (bE ab)) ?_)))
 refine ai (bU (hb)) (ai (aC (5,0) aa rfl rfl) (bG rfl rfl rfl rfl rfl rfl (aJ (hK3 _ ?_))))
 clear hK3;try clear K3
 refine aU fun K4 hK4=> ?_
 refine an (bQ rfl (ai (bU (hexp)) (aJ (hK4 _ ?_))))
 clear hK4;try clear K4
 exact am (ai (az _ aa rfl rfl rfl rfl) (bG rfl rfl rfl rfl rfl rfl (aj (aG (bI (.inr rfl) rfl (.cellA aa rfl rfl rfl) (Le.outI [] [] (.agg rfl lz) rfl rfl rfl trivial ob tr rfl))))))
theorem yP (hT:T.length≤100000) (f:Nat) (ih:PE T N f) (lv i:Nat) (r:Nd×Nat) (hl:lv≤20) (hi:i < T.length) (h:uP T (f+1) lv i=some r):
  r.2 < T.length∧Spec Tryz.prog 237 (aY [.ptr (0,9) 0, .v (.int .i64 (lv:Int))] (ea T i N)) (PO T N r):=by
 have htl:=ej hi
 have htake:=cA T i N hi hT
 unfold uP at h
 simp only at h
 by_cases h1:(di T i).t=[40]
 ·rw [if_pos h1] at h
  obtain ⟨ha,hb⟩:=ih.nest _ _ _ hl hi h
  refine ⟨ha,?_⟩
  refine Spec.ofNI Tryz.func237 rfl Tryz.ntmps237 rfl ?_
  refine am (ai (aC (4,0) aa rfl rfl) (aj (aq (bK 11 [8,9,10,11,12,13,14,15,16,17,5] [(5,0)] ae ae rfl (aK rfl) (rfl:_=[_,_,_,_,_,_,_,_,_,_,_]) (rfl:_=[_]) ?_))))
  refine ap (_,[]) (fun τ=> aI _ bW) ?_
  refine fF rfl ?_
  refine ap (_,[]) (fun τ=> aT _ rfl rfl) ?_
  refine fL rfl ?_
  refine ap (_,[]) (fun τ=> aA _ aa rfl rfl rfl) ?_
  refine fA rfl ?_
  refine ap (_,[]) (fun τ=> aF _ aa rfl rfl eE) ?_
  refine fT rfl ?_
  refine ap (_,[]) (fun τ=> aI _ bW) ?_
  refine gj rfl ?_
  refine ap (_,[]) (fun τ=> aT _ rfl rfl) ?_
  refine gU rfl ?_
  refine ap (_,[]) (fun τ=> aA _ aa rfl rfl rfl) ?_
  refine iC rfl ?_
  refine ap (_,[]) (fun τ=> aF _ aa rfl rfl eg) ?_
  refine jM rfl ?_
  refine ap (_,[]) (fun τ=> bo _ _ aa rfl rfl _ rfl ab (by (simp only [aN,bg,bj,bv,bu];omega)) ag) ?_
  refine jX rfl ?_
  refine ap (_,[]) (fun τ=> cd _ aa rfl (by exact nu _ _ hi) rfl) ?_
  refine fI rfl ?_
  refine ap (_,[((5,0),_)]) (fun τ=> aC (5,0) aa rfl rfl) ?_
  refine gh rfl (bl ⟨rfl,?_⟩)
  refine bG rfl rfl rfl rfl rfl rfl (aj (aq (am (bb rfl rfl rfl (ai (aF _ aa rfl rfl fx) (ai (aV (r:=true) _ _ Tryz.underlying9 rfl rfl (by rw [h1];rfl)) ?_))))))
  refine aj (bL rfl rfl (aq ?_))
  refine aM (σ':=aD 72 [(0,_),(1,_),(4,_)] [((0,9),_),((4,0),_)] [(0,9)] [(0,9)]) kp ?_
  exact an (bQ rfl (aX rfl (ai (bU (hb)) (bG rfl rfl rfl rfl rfl rfl (aj (aG (bI (.inr rfl) rfl (.cellA aa rfl rfl rfl) (Le.outI [] [] (.agg rfl lz) rfl rfl rfl trivial ob tr rfl))))))))
 rw [if_neg h1] at h
 by_cases h2:(di T i).t=Bt
 ·rw [if_pos h2] at h
  simp only [Option.bind_eq_bind,Option.bind_eq_some_iff,Option.pure_def,Option.some.injEq] at h
  obtain ⟨⟨d,j⟩,hd,rfl⟩:=h
  obtain ⟨ha,hb⟩:=ih.nest _ _ _ hl htl hd
  refine ⟨ha,?_⟩
  refine Spec.ofNI Tryz.func237 rfl Tryz.ntmps237 rfl ?_
  refine am (ai (aC (4,0) aa rfl rfl) (aj (aq (bK 11 [8,9,10,11,12,13,14,15,16,17,5] [(5,0)] ae ae rfl (aK rfl) (rfl:_=[_,_,_,_,_,_,_,_,_,_,_]) (rfl:_=[_]) ?_))))
  refine ap (_,[]) (fun τ=> aI _ bW) ?_
  refine fF rfl ?_
  refine ap (_,[]) (fun τ=> aT _ rfl rfl) ?_
  refine fL rfl ?_
  refine ap (_,[]) (fun τ=> aA _ aa rfl rfl rfl) ?_
  refine fA rfl ?_
  refine ap (_,[]) (fun τ=> aF _ aa rfl rfl eE) ?_
  refine fT rfl ?_
  refine ap (_,[]) (fun τ=> aI _ bW) ?_
  refine gj rfl ?_
  refine ap (_,[]) (fun τ=> aT _ rfl rfl) ?_
  refine gU rfl ?_
  refine ap (_,[]) (fun τ=> aA _ aa rfl rfl rfl) ?_
  refine iC rfl ?_
  refine ap (_,[]) (fun τ=> aF _ aa rfl rfl eg) ?_
  refine jM rfl ?_
  refine ap (_,[]) (fun τ=> bo _ _ aa rfl rfl _ rfl ab (by (simp only [aN,bg,bj,bv,bu];omega)) ag) ?_
  refine jX rfl ?_
  refine ap (_,[]) (fun τ=> cd _ aa rfl (by exact nu _ _ hi) rfl) ?_
  refine fI rfl ?_
  refine ap (_,[((5,0),_)]) (fun τ=> aC (5,0) aa rfl rfl) ?_
  refine gh rfl (bl ⟨rfl,?_⟩)
  refine bG rfl rfl rfl rfl rfl rfl (aj (aq (am (bb rfl rfl rfl (ai (aF _ aa rfl rfl fx) (ai (aV (r:=false) _ _ Tryz.underlying9 rfl rfl (beq_eq_false_iff_ne.2 h1)) ?_))))))
  refine aj (aW rfl rfl (aS (aq (aq ?_))))
  refine aM (σ':=aD 72 [(0,_),(1,_),(4,_),(5,_)] [((0,9),_),((4,0),_),((5,0),_)] [(0,9)] [(0,9)]) kp ?_
  refine an (bb rfl rfl rfl (ai (aF _ aa rfl rfl fx) (ai (aV (r:=true) _ _ Tryz.underlying9 rfl rfl (by rw [h2];rfl)) ?_)))
  refine aj (bL rfl rfl (am (bQ rfl (ai (bU (htake)) (aj (aU fun K8 hK8=> ?_))))))
  refine an (bQ rfl (aX rfl (ai (bU (hb)) (ai (aC (6,0) aa rfl rfl) (bG rfl rfl rfl rfl rfl rfl (aJ (hK8 _ ?_)))))))
  clear hK8;try clear K8
  refine am (ai (az _ aa rfl rfl rfl rfl) (ai (bh _ _ aa rfl ag (by (simp <;> rfl)) ah rfl) ?_))
  refine ai (aL _ aa rfl (by exact kQ)) ?_
  exact bG rfl rfl rfl rfl rfl rfl (aj (aG (bI (.inr rfl) rfl (.cellA aa rfl rfl rfl) (Le.outI [] [] (.agg rfl lz) rfl rfl rfl trivial ob tr rfl))))
 rw [if_neg h2] at h
 have hr:r.2=bJ T i:=by
  repeat' split at h
  all_goals first | (rw [← Option.some.inj h];done) | cases h
 refine ⟨by rw [hr];exact htl,?_⟩
 refine Spec.ofNI Tryz.func237 rfl Tryz.ntmps237 rfl ?_
 refine am (ai (aC (4,0) aa rfl rfl) (aj (aq (bK 11 [8,9,10,11,12,13,14,15,16,17,5] [(5,0)] ae ae rfl (aK rfl) (rfl:_=[_,_,_,_,_,_,_,_,_,_,_]) (rfl:_=[_]) ?_))))
 refine ap (_,[]) (fun τ=> aI _ bW) ?_
 refine fF rfl ?_
 refine ap (_,[]) (fun τ=> aT _ rfl rfl) ?_
 refine fL rfl ?_
 refine ap (_,[]) (fun τ=> aA _ aa rfl rfl rfl) ?_
 refine fA rfl ?_
 refine ap (_,[]) (fun τ=> aF _ aa rfl rfl eE) ?_
 refine fT rfl ?_
 refine ap (_,[]) (fun τ=> aI _ bW) ?_
 refine gj rfl ?_
 refine ap (_,[]) (fun τ=> aT _ rfl rfl) ?_
 refine gU rfl ?_
 refine ap (_,[]) (fun τ=> aA _ aa rfl rfl rfl) ?_
 refine iC rfl ?_
 refine ap (_,[]) (fun τ=> aF _ aa rfl rfl eg) ?_
 refine jM rfl ?_
 refine ap (_,[]) (fun τ=> bo _ _ aa rfl rfl _ rfl ab (by (simp only [aN,bg,bj,bv,bu];omega)) ag) ?_
 refine jX rfl ?_
 refine ap (_,[]) (fun τ=> cd _ aa rfl (by exact nu _ _ hi) rfl) ?_
 refine fI rfl ?_
 refine ap (_,[((5,0),_)]) (fun τ=> aC (5,0) aa rfl rfl) ?_
 refine gh rfl (bl ⟨rfl,?_⟩)
 refine bG rfl rfl rfl rfl rfl rfl (aj (aq (am (bb rfl rfl rfl (ai (aF _ aa rfl rfl fx) (ai (aV (r:=false) _ _ Tryz.underlying9 rfl rfl (beq_eq_false_iff_ne.2 h1)) ?_))))))
 refine aj (aW rfl rfl (aS (aq (aq ?_))))
 refine aM (σ':=aD 72 [(0,_),(1,_),(4,_),(5,_)] [((0,9),_),((4,0),_),((5,0),_)] [(0,9)] [(0,9)]) kp ?_
 refine an (bb rfl rfl rfl (ai (aF _ aa rfl rfl fx) (ai (aV (r:=false) _ _ Tryz.underlying9 rfl rfl (beq_eq_false_iff_ne.2 h2)) ?_)))
 refine aj (aW rfl rfl (aS (am (ai (aL _ aa rfl (by exact kQ)) ?_))))
 refine ai (aC (7,0) aa rfl rfl) (bG rfl rfl rfl rfl rfl rfl (aj (aU fun K8 hK8=> ?_)))
 refine am (bb rfl rfl rfl (cf rfl rfl rfl (ai (bB _ _ rfl rfl rfl) (aj (aP rfl (fun hc38=> ?_) (fun hc38=> ?_))))))
 ·skip
  rw [if_pos ab] at h
  obtain rfl:=Option.some.inj h
  refine an (bb rfl rfl rfl (cf rfl rfl rfl (ai (aL _ aa rfl (by exact kQ)) ?_)))
  refine bG rfl rfl rfl rfl rfl rfl (aJ (hK8 _ ?_))
  clear hK8;try clear K8
  refine am (bQ rfl (ai (bU (htake)) (aj (aq ?_))))
  refine aM (σ':=aD 72 [(4,_),(7,_)] [((4,0),_),((7,0),_),((0,9),_)] [(0,9)] [(0,9)]) kp ?_
  exact an (ai (az _ aa rfl rfl rfl rfl) (bG rfl rfl rfl rfl rfl rfl (aj (aG (bI (.inr rfl) rfl (.cellA aa rfl rfl rfl) (Le.outI [] [] (.agg rfl lz) rfl rfl rfl trivial ob tr rfl))))))
 rw [if_neg ab] at h
 refine am (bb rfl rfl rfl (ai (aF _ aa rfl rfl fx) (ai (aV _ _ Tryz.underlying9 rfl rfl rfl) (aj (aP rfl (fun hc44=> ?_) (fun hc44=> ?_))))))
 ·skip
  rw [if_pos (show (di T i).t=wd from hc44)] at h
  obtain rfl:=Option.some.inj h
  refine an (ai (aL _ aa rfl (by exact kQ)) ?_)
  refine bG rfl rfl rfl rfl rfl rfl (aJ (hK8 _ ?_))
  clear hK8;try clear K8
  refine am (bQ rfl (ai (bU (htake)) (aj (aq ?_))))
  refine aM (σ':=aD 72 [(4,_),(7,_)] [((4,0),_),((7,0),_),((0,9),_)] [(0,9)] [(0,9)]) kp ?_
  exact an (ai (az _ aa rfl rfl rfl rfl) (bG rfl rfl rfl rfl rfl rfl (aj (aG (bI (.inr rfl) rfl (.cellA aa rfl rfl rfl) (Le.outI [] [] (.agg rfl lz) rfl rfl rfl trivial ob tr rfl))))))
 rw [if_neg (show ¬ (di T i).t=wd from hc44)] at h
 refine am (bb rfl rfl rfl (ai (aF _ aa rfl rfl fx) (ai (aV _ _ Tryz.underlying9 rfl rfl rfl) (aj (aP rfl (fun hc48=> ?_) (fun hc48=> ?_))))))
 ·skip
  rw [if_pos (show (di T i).t=sK from hc48)] at h
  obtain rfl:=Option.some.inj h
  refine aM (σ':=aD 72 [(0,_),(4,_),(7,_)] [((0,9),_),((4,0),_),((7,0),_)] [(0,9)] [(0,9)]) kp ?_
  refine an (ai (aL _ aa rfl (by exact kQ)) ?_)
  refine bG rfl rfl rfl rfl rfl rfl (aJ (hK8 _ ?_))
  clear hK8;try clear K8
  exact am (bQ rfl (ai (bU (htake)) (aj (am (ai (az _ aa rfl rfl rfl rfl) (bG rfl rfl rfl rfl rfl rfl (aj (aG (bI (.inr rfl) rfl (.cellA aa rfl rfl rfl) (Le.outI [] [] (.agg rfl lz) rfl rfl rfl trivial ob tr rfl))))))))))
 rw [if_neg (show ¬ (di T i).t=sK from hc48)] at h
 refine aq ?_
 refine aM (σ':=aD 72 [(0,_),(4,_),(5,_),(7,_)] [((0,9),_),((4,0),_),((5,0),_),((7,0),_)] [(0,9)] [(0,9)]) kp ?_
 refine bK 4 [50,51,52,53] [] ae ae rfl (aK rfl) (rfl:_=[_,_,_,_]) (rfl:_=[]) ?_
 refine ap (_,[]) (fun τ=> (aH aa (by repeat' (exact cU)) (mw) rfl rfl)) ?_
 refine fF rfl ?_
 refine ap (_,[]) (fun τ=> aA _ aa rfl rfl rfl) ?_
 refine fL rfl ?_
 refine ap (_,[]) (fun τ=> aF _ aa rfl rfl fx) ?_
 refine fA rfl ?_
 refine ap (_,[]) (fun τ=> (aH aa al (cF bltT 9 rfl ab (di T i).t) rfl rfl)) ?_
 refine fT rfl (bl ⟨rfl,?_⟩)
 refine aj (aP rfl (fun hc53=> ?_) (fun hc53=> ?_))
 ·skip
  rw [if_pos hc53] at h
  obtain rfl:=Option.some.inj h
  refine an (bb rfl rfl rfl (ai (aF _ aa rfl rfl fx) (ai (aL _ aa rfl (by exact kQ)) ?_)))
  refine bG rfl rfl rfl rfl rfl rfl (aJ (hK8 _ ?_))
  clear hK8;try clear K8
  exact am (bQ rfl (ai (bU (htake)) (aj (am (ai (az _ aa rfl rfl rfl rfl) (bG rfl rfl rfl rfl rfl rfl (aj (aG (bI (.inr rfl) rfl (.cellA aa rfl rfl rfl) (Le.outI [] [] (.agg rfl lz) rfl rfl rfl trivial ob tr rfl))))))))))
 rw [if_neg hc53] at h
 refine am (bQ rfl (ai (br aa _ _ ar (dW T i N hi) tr rfl ae (by simp)) ?_))
 refine aj (aP rfl (fun hc58=> ?_) (fun hc58=> ?_))
 ·skip
  rw [if_pos hc58] at h
  obtain rfl:=Option.some.inj h
  refine an (bb rfl rfl rfl (ai (aF _ aa rfl rfl fx) (ai (aL _ aa rfl (by exact kQ)) ?_)))
  refine bG rfl rfl rfl rfl rfl rfl (aJ (hK8 _ ?_))
  clear hK8;try clear K8
  exact am (bQ rfl (ai (bU (htake)) (aj (am (ai (az _ aa rfl rfl rfl rfl) (bG rfl rfl rfl rfl rfl rfl (aj (aG (bI (.inr rfl) rfl (.cellA aa rfl rfl rfl) (Le.outI [] [] (.agg rfl lz) rfl rfl rfl trivial ob tr rfl))))))))))
 exact absurd h (by rw [if_neg (by simp [hc58])];exact fun e=> by cases e)
theorem DH (pr:Nat) (h:1≤pr∧pr≤6∧pr≠3):([PV.v (.slice none 0 0), .sl 1 (fl [[124,124]]), .sl 1 (fl [[38,38]]), .v (.slice none 0 0), .sl 6 (fl [[60],[60,61],[62],[62,61],[61,61],[33,61]]), .sl 2 (fl [[43],[45]]), .sl 2 (fl [[42],[47]])]:List PV)[pr]? =some (.sl (opsP.getD pr []).length (fl (opsP.getD pr []))):=by
 have:pr=1∨pr=2∨pr=4∨pr=5∨pr=6:=by omega
 rcases this with rfl | rfl | rfl | rfl | rfl <;> rfl
theorem FP (pr:Nat):(opsP.getD pr []).length≤6:=by
 unfold opsP
 match pr with
 | 0=> decide | 1=> decide | 2=> decide | 3=> decide | 4=> decide | 5=> decide | 6=> decide
 | n+7=> simp
theorem qS {f lv pr:Nat} {d:Nd} {i:Nat} {r:Nd×Nat} (h:nJ T f lv pr d i=some r): ∃ g,f=g+1∧((di T i).t∉opsP.getD pr []∧r=(d,i)∨(di T i).t∈opsP.getD pr []∧ ∃ e j,gR T g lv (pr+1) (bJ T i)=some (e,j)∧
  (pr=4∧r=(nd 18 0 (di T i).t [d,e],j)∨pr≠4∧nJ T g lv pr (nd 18 0 (di T i).t [d,e]) j=some r)):=by
 cases f with
 | zero=> simp [nJ] at h
 | succ g=>
  refine ⟨g,rfl,?_⟩
  unfold nJ at h
  split at h
  ·rename_i hm
   simp only [Option.bind_eq_bind,Option.bind_eq_some_iff,Option.pure_def] at h
   obtain ⟨⟨e,j⟩,he,h⟩:=h
   refine .inr ⟨hm,e,j,he,?_⟩
   split at h
   ·rename_i h4;exact .inl ⟨h4,(Option.some.inj h).symm⟩
   rename_i h4;exact .inr ⟨h4,h⟩
  rename_i hm;exact .inl ⟨hm,(Option.some.inj h).symm⟩
theorem Cb (hT:T.length≤100000) (f:Nat) (ih: ∀ g,g≤f→PE T N g) (lv pr i:Nat) (r:Nd×Nat) (hl:lv≤20) (hp:1≤pr∧pr≤6∧pr≠3) (hi:i < T.length) (h:yr T (f+1) lv pr i=some r):
  r.2 < T.length∧Spec Tryz.prog 236 (aY [.ptr (0,9) 0, .v (.int .i64 (lv:Int)), .v (.int .i64 (pr:Int))] (ea T i N)) (PO T N r):=by
 unfold yr at h
 simp only [Option.bind_eq_bind,Option.bind_eq_some_iff] at h
 obtain ⟨⟨d,j⟩,hd,h⟩:=h
 simp only at h
 obtain ⟨ha,hb⟩:=(ih f (Nat.le_refl _)).expr _ _ _ _ hl ab hi hd
 have hend: ∀ (g:Nat) (d:Nd) (i:Nat),g≤f→i < T.length→nJ T g lv pr d i=some r→r.2 < T.length:=by
  intro g
  induction g with
  | zero=> intro d i _ _ h;simp [nJ] at h
  | succ g ihg=>
   intro d i hg hi h
   obtain ⟨g',hg',h | ⟨_,e,j,he,h⟩⟩:=qS h
   ·rw [h.2];exact hi
   obtain rfl:g=g':=by omega
   have hj:=((ih g ab).expr _ _ _ _ hl ab (ej hi) he).1
   rcases h with h | h
   ·rw [h.2];exact hj
   exact ihg _ _ ab hj h.2
 refine ⟨hend f d j (Nat.le_refl _) ha h,?_⟩
 have hol:=FP pr
 refine Spec.ofNI Tryz.func236 rfl Tryz.ntmps236 rfl ?_
 refine am (ai (aC (6,0) aa rfl rfl) (aj (am (ai (bh _ _ aa rfl ag (by (simp <;> rfl)) ah rfl) ?_))))
 refine ai (bh _ _ aa rfl ag (by (simp <;> rfl)) ah rfl) ?_
 refine ai (bh _ _ aa rfl ag (by (simp <;> rfl)) ah rfl) ?_
 refine ai (bh _ _ aa rfl ag (by (simp <;> rfl)) ah rfl) ?_
 refine ai (bh _ _ aa rfl ag (by (simp <;> rfl)) ah rfl) ?_
 refine ai (bh _ _ aa rfl ag (by (simp <;> rfl)) ah rfl) ?_
 refine kD rfl (aj (am (bQ rfl (aX rfl (aX rfl (ai (aZ _ _ rfl rfl (bE ab)) ?_))))))
 refine ai (bU (hb)) (ai (aC (8,0) aa rfl rfl) (bG rfl rfl rfl rfl rfl rfl (aj (aU fun K4 hK4=> ?_))))
 refine ax ?_
 refine bq (α:=Nat×Nd×Nat) (fun z=> z.1≤f∧z.2.2 < T.length∧nJ T z.1 lv pr z.2.1 z.2.2=some r) 53 [(0,_),(1,_),(2,_),(6,_),(7,_),(8,_)] [((6,0),_)] (fun z=> []) (fun z=> [((0,9), .box 222 [.sl T.length (sY T), .v (.int .i64 (z.2.2:Int)), .v (.int .i64 0), .v (.int .i64 0), .sl N.length (fl N)]),((8,0), .box 71 [.v (.int .i64 (z.2.1.k:Int)), .v (.int .i64 (z.2.1.n:Int)), .v (bt z.2.1.s), .sl z.2.1.kn z.2.1.kids])]) [(0,9)] [(0,9)] (fun z=> z.1) (f,d,j) ?_ (by
  refine Le.mkJ [] [] rfl ?_ ?_ trivial tr ?_
  ·exact ⟨(iP rfl),(iV rfl),(iV rfl),(iP rfl),(iS rfl),(iP rfl),trivial⟩
  ·exact ⟨(ca rfl rfl rfl),(fm rfl rfl rfl rfl lz),(fm rfl rfl rfl rfl (nQ (nQ (au (by repeat' (exact Lv.v)) lz)))),trivial⟩
  kernel_rfl) ?_
 ·exact ⟨Nat.le_refl _,ha,h⟩
 intro z hz
 obtain ⟨z1,z2,z3⟩:=z
 obtain ⟨hz1,hz2,hz3⟩:=hz
 obtain ⟨g,rfl,hm⟩:=qS hz3
 simp only at hz1 hz2 hm ⊢
 refine aU fun K5 hK5=> ?_
 refine aq (bK 14 [22,23,24,25,26,27,28,29,30,31,32,33,34,35] [] ae ae rfl (aK rfl) (rfl:_=[_,_,_,_,_,_,_,_,_,_,_,_,_,_]) (rfl:_=[]) ?_)
 refine ap (_,[]) (fun τ=> aI _ bW) ?_
 refine fF rfl ?_
 refine ap (_,[]) (fun τ=> aT _ rfl rfl) ?_
 refine fL rfl ?_
 refine ap (_,[]) (fun τ=> aA _ aa rfl rfl rfl) ?_
 refine fA rfl ?_
 refine ap (_,[]) (fun τ=> aF _ aa rfl rfl eg) ?_
 refine fT rfl ?_
 refine ap (_,[]) (fun τ=> bB (r:=true) _ _ rfl rfl rfl) ?_
 refine gj rfl ?_
 refine ap (_,[]) (fun τ=> aI _ bR) ?_
 refine gU rfl ?_
 refine bw (_,[]) rfl (fun τ=> rfl) (fun τ=> aI _ nB) ?_
 refine iC rfl ?_
 refine bw (_,[]) rfl (fun τ=> rfl) (fun τ=> aI _ eu) ?_
 refine jM rfl ?_
 refine bw (_,[]) rfl (fun τ=> rfl) (fun τ=> bo _ _ aa rfl rfl _ rfl ab ah (by exact Nat.mul_one _)) ?_
 refine jX rfl ?_
 refine bw (_,[]) rfl (fun τ=> rfl) (fun τ=> bO _ aa rfl (by exact DH pr hp) rfl) ?_
 refine fI rfl ?_
 refine bw (_,[]) rfl (fun τ=> rfl) (fun τ=> aI _ bW) ?_
 refine gh rfl ?_
 refine bw (_,[]) rfl (fun τ=> rfl) (fun τ=> (br aa _ _ ar (bN T z3 N hz2) tr rfl ae (by simp))) ?_
 refine jW rfl ?_
 refine bw (_,[]) rfl (fun τ=> rfl) (fun τ=> (aH aa al (cF (opsP.getD pr []) _ rfl ab (di T z3).t) rfl rfl)) ?_
 refine li rfl ?_
 refine ap (_,[]) (fun τ=> aE _ _ _ rfl bR) ?_
 refine nh rfl (bl ⟨rfl,?_⟩)
 refine aj (aP rfl (fun hc35=> ?_) (fun hc35=> ?_))
 ·skip
  obtain ⟨_,e,je,he,hm⟩:=hm.resolve_left fun x=> x.1 hc35
  obtain ⟨hea,heb⟩:=(ih g ab).expr _ _ _ _ hl ab (ej hz2) he
  refine bs (hK5 _ ?_)
  clear hK5;try clear K5
  refine ax (am (bQ rfl (ai (br aa _ _ ar (bN T z3 N hz2) tr rfl ae (by simp)) ?_)))
  refine oO rfl (aj (aq ?_))
  refine aM (σ':=aD 53 [(0,_),(1,_),(2,_),(6,_),(7,_),(8,_),(9,_)] [((6,0),_),((0,9),_),((8,0),_)] [(0,9)] [(0,9)]) kp ?_
  refine an (bQ rfl (ai (bU (cA T z3 N hz2 hT)) ?_))
  refine aj (aU fun K9 hK9=> ?_)
  refine an (bQ rfl (aX rfl (aX rfl (ai (aZ _ _ rfl rfl (bE ab)) ?_))))
  refine ai (bU (heb)) (ai (aC (10,0) aa rfl rfl) (bG rfl rfl rfl rfl rfl rfl (aJ (hK9 _ ?_))))
  clear hK9;try clear K9
  refine am (eh rfl (ai (az _ aa rfl rfl rfl rfl) (ai (az _ aa rfl rfl rfl rfl) (ai (bh _ _ aa rfl ag (by (simp <;> rfl)) ah rfl) ?_))))
  refine ai (aL _ aa rfl (by exact kQ)) ?_
  refine bG rfl rfl rfl rfl rfl rfl (aj (aq ?_))
  refine aM (σ':=aD 53 [(0,_),(1,_),(2,_),(6,_),(7,_),(8,_)] [((6,0),_),((0,9),_),((8,0),_)] [(0,9)] [(0,9)]) kp ?_
  refine an (aX rfl (ai (bB _ _ rfl rfl rfl) (aj (aP rfl (fun hc51=> ?_) (fun hc51=> ?_)))))
  ·skip
   have hr:=(hm.resolve_right fun x=> x.1 ab).2
   subst hr
   refine bD (id (hK4 _ ?_))
   clear hK4;try clear K4
   exact am (ai (az _ aa rfl rfl rfl rfl) (bG rfl rfl rfl rfl rfl rfl (aj (aG (bI (.inr rfl) rfl (.cellA aa rfl rfl rfl) (Le.outI [] [] (.agg rfl lz) rfl rfl rfl trivial ob tr rfl))))))
  have hm:=(hm.resolve_left fun x=> hc51 ab).2
  refine bs (⟨(g,nd 18 0 (di T z3).t [z2,e],je),?_,?_,?_⟩)
  ·exact ⟨by simp only;omega,hea,hm⟩
  ·skip
   refine Le.mkJ [] [] rfl ?_ ?_ trivial tr ?_
   ·exact ⟨(iP rfl),(iV rfl),(iV rfl),(iP rfl),(iS rfl),(iP rfl),trivial⟩
   ·exact ⟨(ca rfl rfl rfl),(fm rfl rfl rfl rfl lz),(fm rfl rfl rfl rfl (nQ (nQ (au (by repeat' (exact Lv.v)) lz)))),trivial⟩
   kernel_rfl
  simp only;omega
 have hr:=(hm.resolve_right fun x=> hc35 x.1).2
 subst hr
 refine bD (id (hK4 _ ?_))
 clear hK4;try clear K4
 exact am (ai (az _ aa rfl rfl rfl rfl) (bG rfl rfl rfl rfl rfl rfl (aj (aG (bI (.inr rfl) rfl (.cellA aa rfl rfl rfl) (Le.outI [] [] (.agg rfl lz) rfl rfl rfl trivial ob tr rfl))))))
theorem IA (hT:T.length≤100000): ∀ f g,g≤f→PE T N g:=by
 intro f
 induction f with
 | zero=>
  intro g hg
  obtain rfl:g=0:=by omega
  exact ⟨fun _ _ _ _ _ _ _ h=> by simp [gR] at h,fun _ _ _ _ _ _ _ _ h=> by simp [IU] at h,fun _ _ _ _ _ _ _ h=> by simp [yr] at h,fun _ _ _ _ _ h=> by simp [rD] at h,fun _ _ _ _ _ h=> by simp [uP] at h⟩
 | succ f ih=>
  intro g hg
  rcases Nat.lt_or_ge g (f+1) with h | h
  ·exact ih g ab
  obtain rfl:g=f+1:=by omega
  exact ⟨zc f (ih f (Nat.le_refl _)),EP hT f (ih f (Nat.le_refl _)),Cb hT f ih,yM hT f (ih f (Nat.le_refl _)),yP hT f (ih f (Nat.le_refl _))⟩
theorem yL (hT:T.length≤100000) {f lv i:Nat} {r:Nd×Nat} (hl:lv≤20) (hi:i < T.length) (h:gR T f lv 1 i=some r):r.2 < T.length∧Spec Tryz.prog 226 (aY [.ptr (0,9) 0, .v (.int .i64 (lv:Int)), .v (.int .i64 1)] (ea T i N)) (PO T N r):=
 (IA hT f f (Nat.le_refl _)).expr lv 1 i r hl ab hi h
end

structure PS (T:List Tk) (N:List Tx) (f:Nat):Prop where
 stm: ∀ lv i r,lv≤20→i < T.length→xR T f lv i=some r→r.2 < T.length∧Spec Tryz.prog 202 (aY [.ptr (0,9) 0, .v (.int .i64 (lv:Int))] (ea T i N)) (PO T N r)
 blk: ∀ lv i r,lv≤21→i < T.length→rk T f lv i=some r→r.2 < T.length∧Spec Tryz.prog 164 (aY [.ptr (0,9) 0, .v (.int .i64 (lv:Int))] (ea T i N)) (PO T N r)
def Dx:List Tx:=[vH,kN,qw,ij,ll,pX,nP,qL,qN]
theorem gi {T:List Tk} {i:Nat} (h:wM (di T i).t=true):eG T i=false:=by unfold eG;rw [h];simp
section
variable {T:List Tk} {N:List Tx}
theorem yR (hT:T.length≤100000) (lv i:Nat) (hl:lv≤20) (hi:i < T.length) (hn:eG T i=true) {d:Nd} {j1 j2 j3:Nat} (h1:Spec Tryz.prog 162 (aY [.ptr (0,9) 0, .v (bt [61])] (ea T (bJ T i) N)) (bc (.tup []) (ea T j1 N) [(0,9)] [(0,9)])) (h2:Spec Tryz.prog 226 (aY [.ptr (0,9) 0, .v (.int .i64 (lv:Int)), .v (.int .i64 1)] (ea T j1 N)) (PO T N (d,j2))) (h3:Spec Tryz.prog 162 (aY [.ptr (0,9) 0, .v (bt [59])] (ea T j2 N)) (bc (.tup []) (ea T j3 N) [(0,9)] [(0,9)])):
  Spec Tryz.prog 202 (aY [.ptr (0,9) 0, .v (.int .i64 (lv:Int))] (ea T i N)) (PO T N (nd 1 0 (di T i).t [d],j3)):=by
 refine Spec.ofNI Tryz.func202 rfl Tryz.ntmps202 rfl ?_
 refine am (ai (aC (4,0) aa rfl rfl) (aj (am (bQ rfl (ai (br aa _ _ ar (bN T i N hi) tr rfl ae (by simp)) ?_)))))
 refine oO rfl (aj (am (ai (aL _ aa rfl (by exact kQ)) ?_)))
 refine ai (aC (6,0) aa rfl rfl) (bG rfl rfl rfl rfl rfl rfl (aj (aq (am (bQ rfl (ai (br aa _ _ ar (dW T i N hi) tr rfl ae (by simp)) ?_))))))
 refine aj (bL rfl hn (am (bQ rfl (ai (bU (cA T i N hi hT)) ?_))))
 refine aj (aU fun K7 hK7=> ?_)
 refine an (bQ rfl (ai (bU (h1)) (aJ (hK7 _ ?_))))
 clear hK7;try clear K7
 refine aU fun K8 hK8=> ?_
 refine an (eh rfl (bQ rfl (aX rfl (ai (bU (h2)) (ai (bh _ _ aa rfl ag (by (simp <;> rfl)) ah rfl) ?_)))))
 refine ai (aL _ aa rfl (by exact kQ)) ?_
 refine bG rfl rfl rfl rfl rfl rfl (aJ (hK8 _ ?_))
 clear hK8;try clear K8
 refine aU fun K9 hK9=> ?_
 refine aM (σ':=aD 145 [(0,_),(4,_),(6,_)] [((0,9),_),((4,0),_),((6,0),_)] [(0,9)] [(0,9)]) kp ?_
 refine an (bQ rfl (ai (bU (h3)) (aJ (hK9 _ ?_))))
 clear hK9;try clear K9
 exact am (ai (az _ aa rfl rfl rfl rfl) (bG rfl rfl rfl rfl rfl rfl (aj (aG (bI (.inr rfl) rfl (.cellA aa rfl rfl rfl) (Le.outI [] [] (.agg rfl lz) rfl rfl rfl trivial ob tr rfl))))))
theorem zJ (hT:T.length≤100000) (lv i:Nat) (hl:lv≤20) (hi:i < T.length) (ht:(di T i).t=kN) {c x:Nd} {j1 j2:Nat} (h1:Spec Tryz.prog 226 (aY [.ptr (0,9) 0, .v (.int .i64 (lv:Int)), .v (.int .i64 1)] (ea T (bJ T i) N)) (PO T N (c,j1))) (h2:Spec Tryz.prog 164 (aY [.ptr (0,9) 0, .v (.int .i64 ((lv+1:Nat):Int))] (ea T j1 N)) (PO T N (x,j2))):
  Spec Tryz.prog 202 (aY [.ptr (0,9) 0, .v (.int .i64 (lv:Int))] (ea T i N)) (PO T N (nd 3 0 [] [c,x],j2)):=by
 have hnx:=bN T i N hi
 have hn:eG T i=false:=gi (by rw [ht];rfl)
 rw [ht] at hnx
 refine Spec.ofNI Tryz.func202 rfl Tryz.ntmps202 rfl ?_
 refine am (ai (aC (4,0) aa rfl rfl) (aj (am (bQ rfl (ai (br aa _ _ ar (hnx) tr rfl ae (by simp)) ?_)))))
 refine oO rfl (aj (am (ai (aL _ aa rfl (by exact kQ)) ?_)))
 refine ai (aC (6,0) aa rfl rfl) (bG rfl rfl rfl rfl rfl rfl (aj (aq (am (bQ rfl (ai (br aa _ _ ar (dW T i N hi) tr rfl ae (by simp)) ?_))))))
 refine aj (aW rfl hn (aS (aq (am (ai (bh _ _ aa rfl ag (by (simp <;> rfl)) ah rfl) ?_)))))
 refine eh rfl (ai (aH aa al (cF Dx 9 rfl ab kN) rfl rfl) ?_)
 refine ai (cu (r:=false) _ rfl rfl) (aj (aW rfl rfl (aS (am (bQ rfl (ai (bU (cA T i N hi hT)) ?_))))))
 refine aj (aq (aq ?_))
 refine aM (σ':=aD 145 [(0,_),(1,_),(4,_),(5,_),(6,_)] [((0,9),_),((4,0),_),((6,0),_)] [(0,9)] [(0,9)]) kp ?_
 refine an (eh rfl (aj (ax (aq (am (ai (aV (r:=false) _ _ Tryz.underlying9 rfl rfl rfl) (cp rfl (aj (aW rfl rfl (an ?_))))))))))
 refine ai (aV (r:=true) _ _ Tryz.underlying9 rfl rfl rfl) (cp rfl (aj (bL rfl rfl (aU fun K13 hK13=> ?_))))
 refine an (bQ rfl (aX rfl (ai (bU (h1)) (ai (aC (7,0) aa rfl rfl) (bG rfl rfl rfl rfl rfl rfl (aJ (hK13 _ ?_)))))))
 clear hK13;try clear K13
 refine aU fun K14 hK14=> ?_
 refine aM (σ':=aD 145 [(0,_),(1,_),(4,_),(5,_),(7,_)] [((0,9),_),((4,0),_),((7,0),_)] [(0,9)] [(0,9)]) kp ?_
 refine bK 5 [53,54,55,56,57] [(0,9)] ae ae rfl (aK rfl) (rfl:_=[_,_,_,_,_]) (rfl:_=[_,_]) ?_
 refine ap (_,[]) (fun τ=> az _ aa rfl rfl rfl rfl) ?_
 refine fF rfl ?_
 refine ap (_,[]) (fun τ=> aI _ bW) ?_
 refine fL rfl ?_
 refine ap (_,[]) (fun τ=> aI _ eu) ?_
 refine fA rfl ?_
 refine ap (_,[]) (fun τ=> aZ _ _ rfl rfl (bE ab)) ?_
 refine fT rfl ?_
 refine ap (_,[((0,9),_)]) (fun τ=> (ke aa ar (h2) ob rfl rfl ae)) ?_
 refine gj rfl (bl ⟨rfl,?_⟩)
 refine ai (bh _ _ aa rfl ag (by (simp <;> rfl)) ah rfl) ?_
 refine kD rfl (aJ (hK14 _ ?_))
 clear hK14;try clear K14
 refine aq (am (eh rfl (ai (aV (r:=true) _ _ Tryz.underlying9 rfl rfl rfl) (aj (bL rfl rfl (am (eW rfl (ai (aL _ aa rfl (by exact kQ)) ?_))))))))
 exact bG rfl rfl rfl rfl rfl rfl (aj (aG (bI (.inr rfl) rfl (.cellA aa rfl rfl rfl) (Le.outI [] [] (.agg rfl lz) rfl rfl rfl trivial ob tr rfl))))
theorem Jg (hT:T.length≤100000) (lv i:Nat) (hl:lv≤20) (hi:i < T.length) (ht:(di T i).t=vH) {c x:Nd} {j1 j2:Nat} (h1:Spec Tryz.prog 226 (aY [.ptr (0,9) 0, .v (.int .i64 (lv:Int)), .v (.int .i64 1)] (ea T (bJ T i) N)) (PO T N (c,j1))) (h2:Spec Tryz.prog 164 (aY [.ptr (0,9) 0, .v (.int .i64 ((lv+1:Nat):Int))] (ea T j1 N)) (PO T N (x,j2))) (hj:j2 < T.length) (he:(di T j2).t≠sO):
  Spec Tryz.prog 202 (aY [.ptr (0,9) 0, .v (.int .i64 (lv:Int))] (ea T i N)) (PO T N (nd 2 0 [] [c,x,nd 11 0 [] []],j2)):=by
 have hnx:=bN T i N hi
 have hn:eG T i=false:=gi (by rw [ht];rfl)
 rw [ht] at hnx
 refine Spec.ofNI Tryz.func202 rfl Tryz.ntmps202 rfl ?_
 refine am (ai (aC (4,0) aa rfl rfl) (aj (am (bQ rfl (ai (br aa _ _ ar (hnx) tr rfl ae (by simp)) ?_)))))
 refine oO rfl (aj (am (ai (aL _ aa rfl (by exact kQ)) ?_)))
 refine ai (aC (6,0) aa rfl rfl) (bG rfl rfl rfl rfl rfl rfl (aj (aq (am (bQ rfl (ai (br aa _ _ ar (dW T i N hi) tr rfl ae (by simp)) ?_))))))
 refine aj (aW rfl hn (aS (aq (am (ai (bh _ _ aa rfl ag (by (simp <;> rfl)) ah rfl) ?_)))))
 refine eh rfl (ai (aH aa al (cF Dx 9 rfl ab vH) rfl rfl) ?_)
 refine ai (cu (r:=false) _ rfl rfl) (aj (aW rfl rfl (aS (am (bQ rfl (ai (bU (cA T i N hi hT)) ?_))))))
 refine aj (aq (aq ?_))
 refine aM (σ':=aD 145 [(0,_),(1,_),(4,_),(5,_),(6,_)] [((0,9),_),((4,0),_),((6,0),_)] [(0,9)] [(0,9)]) kp ?_
 refine an (eh rfl (aj (ax (aq (am (ai (aV (r:=true) _ _ Tryz.underlying9 rfl rfl rfl) (cp rfl (aj (bL rfl rfl (aS ?_))))))))))
 refine bL rfl rfl (aU fun K13 hK13=> ?_)
 refine an (bQ rfl (aX rfl (ai (bU (h1)) (ai (aC (7,0) aa rfl rfl) (bG rfl rfl rfl rfl rfl rfl (aJ (hK13 _ ?_)))))))
 clear hK13;try clear K13
 refine aU fun K14 hK14=> ?_
 refine aM (σ':=aD 145 [(0,_),(1,_),(4,_),(5,_),(7,_)] [((0,9),_),((4,0),_),((7,0),_)] [(0,9)] [(0,9)]) kp ?_
 refine bK 5 [53,54,55,56,57] [(0,9)] ae ae rfl (aK rfl) (rfl:_=[_,_,_,_,_]) (rfl:_=[_,_]) ?_
 refine ap (_,[]) (fun τ=> az _ aa rfl rfl rfl rfl) ?_
 refine fF rfl ?_
 refine ap (_,[]) (fun τ=> aI _ bW) ?_
 refine fL rfl ?_
 refine ap (_,[]) (fun τ=> aI _ eu) ?_
 refine fA rfl ?_
 refine ap (_,[]) (fun τ=> aZ _ _ rfl rfl (bE ab)) ?_
 refine fT rfl ?_
 refine ap (_,[((0,9),_)]) (fun τ=> (ke aa ar (h2) ob rfl rfl ae)) ?_
 refine gj rfl (bl ⟨rfl,?_⟩)
 refine ai (kg (58,0) _ _ aa rfl ag (by (simp <;> rfl)) ah rfl rfl) ?_
 refine fh rfl (aJ (hK14 _ ?_))
 clear hK14;try clear K14
 refine aq (am (eh rfl (ai (aV (r:=false) _ _ Tryz.underlying9 rfl rfl rfl) (aj (aW rfl rfl (aS (am (ai (aL _ aa rfl (by exact kQ)) ?_))))))))
 refine ai (aC (9,0) aa rfl rfl) (bG rfl rfl rfl rfl rfl rfl (aj (aq (am (bQ rfl (ai (aT _ rfl rfl) (bb rfl rfl rfl (cf rfl rfl rfl (jY rfl rfl rfl (cL rfl ?_))))))))))
 refine ay rfl rfl (aI _ bW) (ay rfl rfl (br aa _ _ ar (bN T j2 N hj) tr rfl ae (by simp)) ?_)
 refine ay rfl rfl (aV (r:=false) _ _ Tryz.underlying9 rfl rfl (beq_eq_false_iff_ne.2 he)) ?_
 refine ai (aE _ _ _ rfl bR) (aj (aW rfl rfl (aS (aq ?_))))
 refine aM (σ':=aD 145 [(4,_),(8,_),(9,_)] [((4,0),_),((58,0),_),((9,0),_),((0,9),_)] [(0,9)] [(0,9)]) kp ?_
 refine an (gG rfl (cw (Le.nil0 (9,0) 3 rfl rfl) ?_))
 refine ai (az _ aa rfl rfl rfl rfl) (ai (bh _ _ aa rfl ag (by (simp <;> rfl)) ah rfl) ?_)
 refine ai (dt (83,0) _ _ aa rfl rfl ag (by (refine .sl ?_;(simp [cm];done))) ab rfl (rfl) (rfl)) ?_
 refine ai (aL _ aa rfl (by exact kQ)) ?_
 exact bG rfl rfl rfl rfl rfl rfl (aj (aG (bI (.inr rfl) rfl (.cellA aa rfl rfl rfl) (Le.outI [] [(83,0)] (.agg rfl (au .v (au .v (au .v (au (ff rfl rfl rfl rfl) bf))))) rfl rfl rfl tr ob tr rfl))))
theorem yl (hT:T.length≤100000) (lv i:Nat) (hl:lv≤20) (hi:i < T.length) (ht:(di T i).t=vH) {c x y:Nd} {j1 j2 j3:Nat} (h1:Spec Tryz.prog 226 (aY [.ptr (0,9) 0, .v (.int .i64 (lv:Int)), .v (.int .i64 1)] (ea T (bJ T i) N)) (PO T N (c,j1))) (h2:Spec Tryz.prog 164 (aY [.ptr (0,9) 0, .v (.int .i64 ((lv+1:Nat):Int))] (ea T j1 N)) (PO T N (x,j2))) (hj:j2 < T.length) (he:(di T j2).t=sO) (h3:Spec Tryz.prog 164 (aY [.ptr (0,9) 0, .v (.int .i64 ((lv+1:Nat):Int))] (ea T (bJ T j2) N)) (PO T N (y,j3))):
  Spec Tryz.prog 202 (aY [.ptr (0,9) 0, .v (.int .i64 (lv:Int))] (ea T i N)) (PO T N (nd 2 0 [] [c,x,y],j3)):=by
 have hnx:=bN T i N hi
 have hn:eG T i=false:=gi (by rw [ht];rfl)
 rw [ht] at hnx
 refine Spec.ofNI Tryz.func202 rfl Tryz.ntmps202 rfl ?_
 refine am (ai (aC (4,0) aa rfl rfl) (aj (am (bQ rfl (ai (br aa _ _ ar (hnx) tr rfl ae (by simp)) ?_)))))
 refine oO rfl (aj (am (ai (aL _ aa rfl (by exact kQ)) ?_)))
 refine ai (aC (6,0) aa rfl rfl) (bG rfl rfl rfl rfl rfl rfl (aj (aq (am (bQ rfl (ai (br aa _ _ ar (dW T i N hi) tr rfl ae (by simp)) ?_))))))
 refine aj (aW rfl hn (aS (aq (am (ai (bh _ _ aa rfl ag (by (simp <;> rfl)) ah rfl) ?_)))))
 refine eh rfl (ai (aH aa al (cF Dx 9 rfl ab vH) rfl rfl) ?_)
 refine ai (cu (r:=false) _ rfl rfl) (aj (aW rfl rfl (aS (am (bQ rfl (ai (bU (cA T i N hi hT)) ?_))))))
 refine aj (aq (aq ?_))
 refine aM (σ':=aD 145 [(0,_),(1,_),(4,_),(5,_),(6,_)] [((0,9),_),((4,0),_),((6,0),_)] [(0,9)] [(0,9)]) kp ?_
 refine an (eh rfl (aj (ax (aq (am (ai (aV (r:=true) _ _ Tryz.underlying9 rfl rfl rfl) (cp rfl (aj (bL rfl rfl (aS ?_))))))))))
 refine bL rfl rfl (aU fun K13 hK13=> ?_)
 refine an (bQ rfl (aX rfl (ai (bU (h1)) (ai (aC (7,0) aa rfl rfl) (bG rfl rfl rfl rfl rfl rfl (aJ (hK13 _ ?_)))))))
 clear hK13;try clear K13
 refine aU fun K14 hK14=> ?_
 refine aM (σ':=aD 145 [(0,_),(1,_),(4,_),(5,_),(7,_)] [((0,9),_),((4,0),_),((7,0),_)] [(0,9)] [(0,9)]) kp ?_
 refine bK 5 [53,54,55,56,57] [(0,9)] ae ae rfl (aK rfl) (rfl:_=[_,_,_,_,_]) (rfl:_=[_,_]) ?_
 refine ap (_,[]) (fun τ=> az _ aa rfl rfl rfl rfl) ?_
 refine fF rfl ?_
 refine ap (_,[]) (fun τ=> aI _ bW) ?_
 refine fL rfl ?_
 refine ap (_,[]) (fun τ=> aI _ eu) ?_
 refine fA rfl ?_
 refine ap (_,[]) (fun τ=> aZ _ _ rfl rfl (bE ab)) ?_
 refine fT rfl ?_
 refine ap (_,[((0,9),_)]) (fun τ=> (ke aa ar (h2) ob rfl rfl ae)) ?_
 refine gj rfl (bl ⟨rfl,?_⟩)
 refine ai (kg (58,0) _ _ aa rfl ag (by (simp <;> rfl)) ah rfl rfl) ?_
 refine fh rfl (aJ (hK14 _ ?_))
 clear hK14;try clear K14
 refine aq (am (eh rfl (ai (aV (r:=false) _ _ Tryz.underlying9 rfl rfl rfl) (aj (aW rfl rfl (aS (am (ai (aL _ aa rfl (by exact kQ)) ?_))))))))
 refine ai (aC (9,0) aa rfl rfl) (bG rfl rfl rfl rfl rfl rfl (aj (aU fun K18 hK18=> ?_)))
 refine am (bQ rfl (ai (aT _ rfl rfl) (bb rfl rfl rfl (cf rfl rfl rfl (jY rfl rfl rfl (cL rfl (ay rfl rfl (aI _ bW) (ay rfl rfl (br aa _ _ ar (bN T j2 N hj) tr rfl ae (by simp)) ?_))))))))
 refine ay rfl rfl (aV (r:=true) _ _ Tryz.underlying9 rfl rfl (beq_iff_eq.2 he)) ?_
 refine ai (aE _ _ _ rfl bR) (aj (bL rfl rfl (aU fun K20 hK20=> ?_)))
 refine aM (σ':=aD 145 [(0,_),(1,_),(4,_),(8,_),(9,_)] [((0,9),_),((4,0),_),((58,0),_),((9,0),_)] [(0,9)] [(0,9)]) kp ?_
 refine an (bQ rfl (ai (bU (cA T j2 N hj hT)) ?_))
 refine aJ (hK20 _ ?_)
 clear hK20;try clear K20
 refine an (bQ rfl (aX rfl (ai (aZ _ _ rfl rfl (bE ab)) ?_)))
 refine ai (bU (h3)) (bG rfl rfl rfl rfl rfl rfl (aJ (hK18 _ ?_)))
 clear hK18;try clear K18
 refine am (gG rfl (ai (az _ aa rfl rfl rfl rfl) (ai (bh _ _ aa rfl ag (by (simp <;> rfl)) ah rfl) ?_)))
 refine ai (dt (83,0) _ _ aa rfl rfl ag (by (refine .sl ?_;(simp [cm];done))) ab rfl (rfl) (rfl)) ?_
 refine ai (aL _ aa rfl (by exact kQ)) ?_
 exact bG rfl rfl rfl rfl rfl rfl (aj (aG (bI (.inr rfl) rfl (.cellA aa rfl rfl rfl) (Le.outI [] [(83,0)] (.agg rfl (au .v (au .v (au .v (au (ff rfl rfl rfl rfl) bf))))) rfl rfl rfl tr ob tr rfl))))
theorem FX (hT:T.length≤100000) (lv i:Nat) (hl:lv≤20) (hi:i < T.length) (ht:(di T i).t=qw) {x y z:Nd} {k j1 j2 j3 j4 j5 j6 j7 j8:Nat} (h1:Spec Tryz.prog 226 (aY [.ptr (0,9) 0, .v (.int .i64 (lv:Int)), .v (.int .i64 1)] (ea T (bJ T i) N)) (PO T N (x,j1))) (h2:Spec Tryz.prog 162 (aY [.ptr (0,9) 0, .v (bt [44])] (ea T j1 N)) (bc (.tup []) (ea T j2 N) [(0,9)] [(0,9)])) (h3:Spec Tryz.prog 200 (aY [.ptr (0,9) 0, .v (.int .i64 29)] (ea T j2 N)) (bc (.v (.int .i64 (k:Int))) (ea T j3 N) [(0,9)] [(0,9)])) (h4:Spec Tryz.prog 162 (aY [.ptr (0,9) 0, .v (bt [44])] (ea T j3 N)) (bc (.tup []) (ea T j4 N) [(0,9)] [(0,9)])) (h5:Spec Tryz.prog 226 (aY [.ptr (0,9) 0, .v (.int .i64 (lv:Int)), .v (.int .i64 1)] (ea T j4 N)) (PO T N (y,j5))) (h6:Spec Tryz.prog 162 (aY [.ptr (0,9) 0, .v (bt [44])] (ea T j5 N)) (bc (.tup []) (ea T j6 N) [(0,9)] [(0,9)])) (h7:Spec Tryz.prog 226 (aY [.ptr (0,9) 0, .v (.int .i64 (lv:Int)), .v (.int .i64 1)] (ea T j6 N)) (PO T N (z,j7))) (h8:Spec Tryz.prog 162 (aY [.ptr (0,9) 0, .v (bt [59])] (ea T j7 N)) (bc (.tup []) (ea T j8 N) [(0,9)] [(0,9)])):
  Spec Tryz.prog 202 (aY [.ptr (0,9) 0, .v (.int .i64 (lv:Int))] (ea T i N)) (PO T N (nd 4 k [] [x,y,z],j8)):=by
 have hnx:=bN T i N hi
 have hn:eG T i=false:=gi (by rw [ht];rfl)
 rw [ht] at hnx
 refine Spec.ofNI Tryz.func202 rfl Tryz.ntmps202 rfl ?_
 refine am (ai (aC (4,0) aa rfl rfl) (aj (am (bQ rfl (ai (br aa _ _ ar (hnx) tr rfl ae (by simp)) ?_)))))
 refine oO rfl (aj (am (ai (aL _ aa rfl (by exact kQ)) ?_)))
 refine ai (aC (6,0) aa rfl rfl) (bG rfl rfl rfl rfl rfl rfl (aj (aq (am (bQ rfl (ai (br aa _ _ ar (dW T i N hi) tr rfl ae (by simp)) ?_))))))
 refine aj (aW rfl hn (aS (aq (am (ai (bh _ _ aa rfl ag (by (simp <;> rfl)) ah rfl) ?_)))))
 refine eh rfl (ai (aH aa al (cF Dx 9 rfl ab qw) rfl rfl) ?_)
 refine ai (cu (r:=false) _ rfl rfl) (aj (aW rfl rfl (aS (am (bQ rfl (ai (bU (cA T i N hi hT)) ?_))))))
 refine aj (aU fun K9 hK9=> ?_)
 refine aq ?_
 refine aM (σ':=aD 145 [(0,_),(1,_),(4,_),(5,_),(6,_)] [((0,9),_),((4,0),_),((6,0),_)] [(0,9)] [(0,9)]) kp ?_
 refine an (eh rfl (aj (ax (aq (am (ai (aV (r:=false) _ _ Tryz.underlying9 rfl rfl rfl) (cp rfl (aj (aW rfl rfl (an ?_))))))))))
 refine ai (aV (r:=false) _ _ Tryz.underlying9 rfl rfl rfl) (cp rfl (aj (aW rfl rfl (am (ai (aV (r:=true) _ _ Tryz.underlying9 rfl rfl rfl) (cp rfl (aj (bL rfl rfl (aU fun K14 hK14=> ?_)))))))))
 refine an (bQ rfl (aX rfl (ai (bU (h1)) (ai (aC (10,0) aa rfl rfl) (bG rfl rfl rfl rfl rfl rfl (aJ (hK14 _ ?_)))))))
 clear hK14;try clear K14
 refine aU fun K15 hK15=> ?_
 refine an (bQ rfl (ai (bU (h2)) (aJ (hK15 _ ?_))))
 clear hK15;try clear K15
 refine aU fun K16 hK16=> ?_
 refine an (bQ rfl (ai (bU (h3)) (be rfl (aJ (hK16 _ ?_)))))
 clear hK16;try clear K16
 refine aU fun K17 hK17=> ?_
 refine aM (σ':=aD 145 [(0,_),(1,_),(4,_),(6,_),(10,_),(11,_)] [((0,9),_),((4,0),_),((6,0),_),((10,0),_)] [(0,9)] [(0,9)]) kp ?_
 refine an (bQ rfl (ai (bU (h4)) (aJ (hK17 _ ?_))))
 clear hK17;try clear K17
 refine aU fun K18 hK18=> ?_
 refine an (bQ rfl (aX rfl (ai (bU (h5)) (ai (aC (12,0) aa rfl rfl) (bG rfl rfl rfl rfl rfl rfl (aJ (hK18 _ ?_)))))))
 clear hK18;try clear K18
 refine aU fun K19 hK19=> ?_
 refine an (bQ rfl (ai (bU (h6)) (aJ (hK19 _ ?_))))
 clear hK19;try clear K19
 refine aM (σ':=aD 145 [(0,_),(1,_),(4,_),(6,_),(10,_),(11,_),(12,_)] [((0,9),_),((4,0),_),((6,0),_),((10,0),_),((12,0),_)] [(0,9)] [(0,9)]) kp ?_
 refine bK 7 [101,102,103,104,105,106,107] [(0,9)] ae ae rfl (aK rfl) (rfl:_=[_,_,_,_,_,_,_]) (rfl:_=[_,_]) ?_
 refine ap (_,[]) (fun τ=> aI _ eu) ?_
 refine fF rfl ?_
 refine ap (_,[]) (fun τ=> az _ aa rfl rfl rfl rfl) ?_
 refine fL rfl ?_
 refine ap (_,[]) (fun τ=> az _ aa rfl rfl rfl rfl) ?_
 refine fA rfl ?_
 refine ap (_,[]) (fun τ=> aI _ bW) ?_
 refine fT rfl ?_
 refine ap (_,[]) (fun τ=> aI _ eu) ?_
 refine gj rfl ?_
 refine ap (_,[((0,9),_)]) (fun τ=> (ke aa ar (h7) ob rfl rfl ae)) ?_
 refine gU rfl ?_
 refine ap (_,[]) (fun τ=> bh _ _ aa rfl ag (by (simp;exact ⟨rfl,rfl⟩)) ah rfl) ?_
 refine iC rfl (bl ⟨rfl,?_⟩)
 refine ai (aL _ aa rfl (by exact kQ)) ?_
 refine bG rfl rfl rfl rfl rfl rfl (aJ (hK9 _ ?_))
 clear hK9;try clear K9
 refine aU fun K20 hK20=> ?_
 refine an (bQ rfl (ai (bU (h8)) (aJ (hK20 _ ?_))))
 clear hK20;try clear K20
 exact am (ai (az _ aa rfl rfl rfl rfl) (bG rfl rfl rfl rfl rfl rfl (aj (aG (bI (.inr rfl) rfl (.cellA aa rfl rfl rfl) (Le.outI [] [] (.agg rfl lz) rfl rfl rfl trivial ob tr rfl))))))
theorem AN (hT:T.length≤100000) (lv i:Nat) (hl:lv≤20) (hi:i < T.length) (ht:(di T i).t=ij) {k j1 j2:Nat} (h1:Spec Tryz.prog 200 (aY [.ptr (0,9) 0, .v (.int .i64 7)] (ea T (bJ T i) N)) (bc (.v (.int .i64 (k:Int))) (ea T j1 N) [(0,9)] [(0,9)])) (h2:Spec Tryz.prog 162 (aY [.ptr (0,9) 0, .v (bt [59])] (ea T j1 N)) (bc (.tup []) (ea T j2 N) [(0,9)] [(0,9)])):
  Spec Tryz.prog 202 (aY [.ptr (0,9) 0, .v (.int .i64 (lv:Int))] (ea T i N)) (PO T N (nd 5 k [] [],j2)):=by
 have hnx:=bN T i N hi
 have hn:eG T i=false:=gi (by rw [ht];rfl)
 rw [ht] at hnx
 refine Spec.ofNI Tryz.func202 rfl Tryz.ntmps202 rfl ?_
 refine am (ai (aC (4,0) aa rfl rfl) (aj (am (bQ rfl (ai (br aa _ _ ar (hnx) tr rfl ae (by simp)) ?_)))))
 refine oO rfl (aj (am (ai (aL _ aa rfl (by exact kQ)) ?_)))
 refine ai (aC (6,0) aa rfl rfl) (bG rfl rfl rfl rfl rfl rfl (aj (aq (am (bQ rfl (ai (br aa _ _ ar (dW T i N hi) tr rfl ae (by simp)) ?_))))))
 refine aj (aW rfl hn (aS (aq (am (ai (bh _ _ aa rfl ag (by (simp <;> rfl)) ah rfl) ?_)))))
 refine eh rfl (ai (aH aa al (cF Dx 9 rfl ab ij) rfl rfl) ?_)
 refine ai (cu (r:=false) _ rfl rfl) (aj (aW rfl rfl (aS (am (bQ rfl (ai (bU (cA T i N hi hT)) ?_))))))
 refine aj (aU fun K9 hK9=> ?_)
 refine aq ?_
 refine aM (σ':=aD 145 [(0,_),(1,_),(4,_),(5,_),(6,_)] [((0,9),_),((4,0),_),((6,0),_)] [(0,9)] [(0,9)]) kp ?_
 refine an (eh rfl (aj (ax (aq (am (ai (aV (r:=false) _ _ Tryz.underlying9 rfl rfl rfl) (cp rfl (aj (aW rfl rfl (an ?_))))))))))
 refine ai (aV (r:=false) _ _ Tryz.underlying9 rfl rfl rfl) (cp rfl (aj (aW rfl rfl (am (ai (aV (r:=false) _ _ Tryz.underlying9 rfl rfl rfl) (cp rfl (aj (aW rfl rfl (am (ai (aV (r:=true) _ _ Tryz.underlying9 rfl rfl rfl) ?_))))))))))
 refine cp rfl (aj (bL rfl rfl (an (bQ rfl (ai (bU (h1)) (ai (aL _ aa rfl (by exact kQ)) ?_))))))
 refine bG rfl rfl rfl rfl rfl rfl (aJ (hK9 _ ?_))
 clear hK9;try clear K9
 refine aU fun K15 hK15=> ?_
 refine an (bQ rfl (ai (bU (h2)) (aJ (hK15 _ ?_))))
 clear hK15;try clear K15
 refine aq ?_
 refine aM (σ':=aD 145 [(4,_),(6,_)] [((4,0),_),((6,0),_),((0,9),_)] [(0,9)] [(0,9)]) kp ?_
 exact an (ai (az _ aa rfl rfl rfl rfl) (bG rfl rfl rfl rfl rfl rfl (aj (aG (bI (.inr rfl) rfl (.cellA aa rfl rfl rfl) (Le.outI [] [] (.agg rfl lz) rfl rfl rfl trivial ob tr rfl))))))
theorem yG (hT:T.length≤100000) (lv i:Nat) (hl:lv≤20) (hi:i < T.length) (ht:(di T i).t=ll) {k j1 j2:Nat} (h1:Spec Tryz.prog 200 (aY [.ptr (0,9) 0, .v (.int .i64 7)] (ea T (bJ T i) N)) (bc (.v (.int .i64 (k:Int))) (ea T j1 N) [(0,9)] [(0,9)])) (h2:Spec Tryz.prog 162 (aY [.ptr (0,9) 0, .v (bt [59])] (ea T j1 N)) (bc (.tup []) (ea T j2 N) [(0,9)] [(0,9)])):
  Spec Tryz.prog 202 (aY [.ptr (0,9) 0, .v (.int .i64 (lv:Int))] (ea T i N)) (PO T N (nd 6 k [] [],j2)):=by
 have hnx:=bN T i N hi
 have hn:eG T i=false:=gi (by rw [ht];rfl)
 rw [ht] at hnx
 refine Spec.ofNI Tryz.func202 rfl Tryz.ntmps202 rfl ?_
 refine am (ai (aC (4,0) aa rfl rfl) (aj (am (bQ rfl (ai (br aa _ _ ar (hnx) tr rfl ae (by simp)) ?_)))))
 refine oO rfl (aj (am (ai (aL _ aa rfl (by exact kQ)) ?_)))
 refine ai (aC (6,0) aa rfl rfl) (bG rfl rfl rfl rfl rfl rfl (aj (aq (am (bQ rfl (ai (br aa _ _ ar (dW T i N hi) tr rfl ae (by simp)) ?_))))))
 refine aj (aW rfl hn (aS (aq (am (ai (bh _ _ aa rfl ag (by (simp <;> rfl)) ah rfl) ?_)))))
 refine eh rfl (ai (aH aa al (cF Dx 9 rfl ab ll) rfl rfl) ?_)
 refine ai (cu (r:=false) _ rfl rfl) (aj (aW rfl rfl (aS (am (bQ rfl (ai (bU (cA T i N hi hT)) ?_))))))
 refine aj (aU fun K9 hK9=> ?_)
 refine aq ?_
 refine aM (σ':=aD 145 [(0,_),(1,_),(4,_),(5,_),(6,_)] [((0,9),_),((4,0),_),((6,0),_)] [(0,9)] [(0,9)]) kp ?_
 refine an (eh rfl (aj (ax (aq (am (ai (aV (r:=false) _ _ Tryz.underlying9 rfl rfl rfl) (cp rfl (aj (aW rfl rfl (an ?_))))))))))
 refine ai (aV (r:=false) _ _ Tryz.underlying9 rfl rfl rfl) (cp rfl (aj (aW rfl rfl (am (ai (aV (r:=false) _ _ Tryz.underlying9 rfl rfl rfl) (cp rfl (aj (aW rfl rfl (am (ai (aV (r:=false) _ _ Tryz.underlying9 rfl rfl rfl) ?_))))))))))
 refine cp rfl (aj (aW rfl rfl (am (ai (aV (r:=true) _ _ Tryz.underlying9 rfl rfl rfl) (cp rfl (aj (bL rfl rfl (an (bQ rfl (ai (bU (h1)) ?_))))))))))
 refine ai (aL _ aa rfl (by exact kQ)) ?_
 refine bG rfl rfl rfl rfl rfl rfl (aJ (hK9 _ ?_))
 clear hK9;try clear K9
 refine aU fun K16 hK16=> ?_
 refine aM (σ':=aD 145 [(0,_),(4,_),(6,_)] [((0,9),_),((4,0),_),((6,0),_)] [(0,9)] [(0,9)]) kp ?_
 refine an (bQ rfl (ai (bU (h2)) (aJ (hK16 _ ?_))))
 clear hK16;try clear K16
 exact am (ai (az _ aa rfl rfl rfl rfl) (bG rfl rfl rfl rfl rfl rfl (aj (aG (bI (.inr rfl) rfl (.cellA aa rfl rfl rfl) (Le.outI [] [] (.agg rfl lz) rfl rfl rfl trivial ob tr rfl))))))
theorem CI (hT:T.length≤100000) (lv i:Nat) (hl:lv≤20) (hi:i < T.length) (ht:(di T i).t=nP) {x y:Nd} {j1 j2 j3 j4:Nat} (h1:Spec Tryz.prog 226 (aY [.ptr (0,9) 0, .v (.int .i64 (lv:Int)), .v (.int .i64 1)] (ea T (bJ T i) N)) (PO T N (x,j1))) (h2:Spec Tryz.prog 162 (aY [.ptr (0,9) 0, .v (bt [44])] (ea T j1 N)) (bc (.tup []) (ea T j2 N) [(0,9)] [(0,9)])) (h3:Spec Tryz.prog 226 (aY [.ptr (0,9) 0, .v (.int .i64 (lv:Int)), .v (.int .i64 1)] (ea T j2 N)) (PO T N (y,j3))) (h4:Spec Tryz.prog 162 (aY [.ptr (0,9) 0, .v (bt [59])] (ea T j3 N)) (bc (.tup []) (ea T j4 N) [(0,9)] [(0,9)])):
  Spec Tryz.prog 202 (aY [.ptr (0,9) 0, .v (.int .i64 (lv:Int))] (ea T i N)) (PO T N (nd 8 0 [] [x,y],j4)):=by
 have hnx:=bN T i N hi
 have hn:eG T i=false:=gi (by rw [ht];rfl)
 rw [ht] at hnx
 refine Spec.ofNI Tryz.func202 rfl Tryz.ntmps202 rfl ?_
 refine am (ai (aC (4,0) aa rfl rfl) (aj (am (bQ rfl (ai (br aa _ _ ar (hnx) tr rfl ae (by simp)) ?_)))))
 refine oO rfl (aj (am (ai (aL _ aa rfl (by exact kQ)) ?_)))
 refine ai (aC (6,0) aa rfl rfl) (bG rfl rfl rfl rfl rfl rfl (aj (aq (am (bQ rfl (ai (br aa _ _ ar (dW T i N hi) tr rfl ae (by simp)) ?_))))))
 refine aj (aW rfl hn (aS (aq (am (ai (bh _ _ aa rfl ag (by (simp <;> rfl)) ah rfl) ?_)))))
 refine eh rfl (ai (aH aa al (cF Dx 9 rfl ab nP) rfl rfl) ?_)
 refine ai (cu (r:=false) _ rfl rfl) (aj (aW rfl rfl (aS (am (bQ rfl (ai (bU (cA T i N hi hT)) ?_))))))
 refine aj (aU fun K9 hK9=> ?_)
 refine aq ?_
 refine aM (σ':=aD 145 [(0,_),(1,_),(4,_),(5,_),(6,_)] [((0,9),_),((4,0),_),((6,0),_)] [(0,9)] [(0,9)]) kp ?_
 refine an (eh rfl (aj (ax (aq (am (ai (aV (r:=false) _ _ Tryz.underlying9 rfl rfl rfl) (cp rfl (aj (aW rfl rfl (an ?_))))))))))
 refine ai (aV (r:=false) _ _ Tryz.underlying9 rfl rfl rfl) (cp rfl (aj (aW rfl rfl (am (ai (aV (r:=false) _ _ Tryz.underlying9 rfl rfl rfl) (cp rfl (aj (aW rfl rfl (am (ai (aV (r:=false) _ _ Tryz.underlying9 rfl rfl rfl) ?_))))))))))
 refine cp rfl (aj (aW rfl rfl (am (ai (aV (r:=false) _ _ Tryz.underlying9 rfl rfl rfl) (cp rfl (aj (aW rfl rfl (am (ai (aV (r:=true) _ _ Tryz.underlying9 rfl rfl rfl) (cp rfl ?_))))))))))
 refine aj (bL rfl rfl (aU fun K17 hK17=> ?_))
 refine an (bQ rfl (aX rfl (ai (bU (h1)) (ai (aC (13,0) aa rfl rfl) (bG rfl rfl rfl rfl rfl rfl (aJ (hK17 _ ?_)))))))
 clear hK17;try clear K17
 refine aU fun K18 hK18=> ?_
 refine aM (σ':=aD 145 [(0,_),(1,_),(4,_),(6,_),(13,_)] [((0,9),_),((4,0),_),((6,0),_),((13,0),_)] [(0,9)] [(0,9)]) kp ?_
 refine an (bQ rfl (ai (bU (h2)) (aJ (hK18 _ ?_))))
 clear hK18;try clear K18
 refine bK 4 [126,127,128,129] [(0,9)] ae ae rfl (aK rfl) (rfl:_=[_,_,_,_]) (rfl:_=[_,_,_]) ?_
 refine ap (_,[]) (fun τ=> az _ aa rfl rfl rfl rfl) ?_
 refine fF rfl ?_
 refine ap (_,[]) (fun τ=> aI _ bW) ?_
 refine fL rfl ?_
 refine ap (_,[]) (fun τ=> aI _ eu) ?_
 refine fA rfl ?_
 refine ap (_,[((0,9),_)]) (fun τ=> (ke aa ar (h3) ob rfl rfl ae)) ?_
 refine fT rfl (bl ⟨rfl,?_⟩)
 refine ai (bh _ _ aa rfl ag (by (simp <;> rfl)) ah rfl) ?_
 refine ai (aL _ aa rfl (by exact kQ)) ?_
 refine bG rfl rfl rfl rfl rfl rfl (aJ (hK9 _ ?_))
 clear hK9;try clear K9
 refine aU fun K19 hK19=> ?_
 refine an (bQ rfl (ai (bU (h4)) (aJ (hK19 _ ?_))))
 clear hK19;try clear K19
 exact am (ai (az _ aa rfl rfl rfl rfl) (bG rfl rfl rfl rfl rfl rfl (aj (aG (bI (.inr rfl) rfl (.cellA aa rfl rfl rfl) (Le.outI [] [] (.agg rfl lz) rfl rfl rfl trivial ob tr rfl))))))
theorem Gi (hT:T.length≤100000) (lv i:Nat) (hl:lv≤20) (hi:i < T.length) (ht:(di T i).t=qL) {x:Nd} {j1 j2:Nat} (h1:Spec Tryz.prog 226 (aY [.ptr (0,9) 0, .v (.int .i64 (lv:Int)), .v (.int .i64 1)] (ea T (bJ T i) N)) (PO T N (x,j1))) (h2:Spec Tryz.prog 162 (aY [.ptr (0,9) 0, .v (bt [59])] (ea T j1 N)) (bc (.tup []) (ea T j2 N) [(0,9)] [(0,9)])):
  Spec Tryz.prog 202 (aY [.ptr (0,9) 0, .v (.int .i64 (lv:Int))] (ea T i N)) (PO T N (nd 9 0 [] [x],j2)):=by
 have hnx:=bN T i N hi
 have hn:eG T i=false:=gi (by rw [ht];rfl)
 rw [ht] at hnx
 refine Spec.ofNI Tryz.func202 rfl Tryz.ntmps202 rfl ?_
 refine am (ai (aC (4,0) aa rfl rfl) (aj (am (bQ rfl (ai (br aa _ _ ar (hnx) tr rfl ae (by simp)) ?_)))))
 refine oO rfl (aj (am (ai (aL _ aa rfl (by exact kQ)) ?_)))
 refine ai (aC (6,0) aa rfl rfl) (bG rfl rfl rfl rfl rfl rfl (aj (aq (am (bQ rfl (ai (br aa _ _ ar (dW T i N hi) tr rfl ae (by simp)) ?_))))))
 refine aj (aW rfl hn (aS (aq (am (ai (bh _ _ aa rfl ag (by (simp <;> rfl)) ah rfl) ?_)))))
 refine eh rfl (ai (aH aa al (cF Dx 9 rfl ab qL) rfl rfl) ?_)
 refine ai (cu (r:=false) _ rfl rfl) (aj (aW rfl rfl (aS (am (bQ rfl (ai (bU (cA T i N hi hT)) ?_))))))
 refine aj (aU fun K9 hK9=> ?_)
 refine aq ?_
 refine aM (σ':=aD 145 [(0,_),(1,_),(4,_),(5,_),(6,_)] [((0,9),_),((4,0),_),((6,0),_)] [(0,9)] [(0,9)]) kp ?_
 refine an (eh rfl (aj (ax (aq (am (ai (aV (r:=false) _ _ Tryz.underlying9 rfl rfl rfl) (cp rfl (aj (aW rfl rfl (an ?_))))))))))
 refine ai (aV (r:=false) _ _ Tryz.underlying9 rfl rfl rfl) (cp rfl (aj (aW rfl rfl (am (ai (aV (r:=false) _ _ Tryz.underlying9 rfl rfl rfl) (cp rfl (aj (aW rfl rfl (am (ai (aV (r:=false) _ _ Tryz.underlying9 rfl rfl rfl) ?_))))))))))
 refine cp rfl (aj (aW rfl rfl (am (ai (aV (r:=false) _ _ Tryz.underlying9 rfl rfl rfl) (cp rfl (aj (aW rfl rfl (am (ai (aV (r:=false) _ _ Tryz.underlying9 rfl rfl rfl) (cp rfl ?_))))))))))
 refine aj (aW rfl rfl (am (ai (aV (r:=true) _ _ Tryz.underlying9 rfl rfl rfl) (cp rfl (aj (bL rfl rfl ?_))))))
 refine aM (σ':=aD 145 [(0,_),(1,_),(4,_),(6,_)] [((0,9),_),((4,0),_),((6,0),_)] [(0,9)] [(0,9)]) kp ?_
 refine an (bQ rfl (aX rfl (ai (bU (h1)) (ai (bh _ _ aa rfl ag (by (simp <;> rfl)) ah rfl) ?_))))
 refine ai (aL _ aa rfl (by exact kQ)) ?_
 refine bG rfl rfl rfl rfl rfl rfl (aJ (hK9 _ ?_))
 clear hK9;try clear K9
 refine aU fun K18 hK18=> ?_
 refine an (bQ rfl (ai (bU (h2)) (aJ (hK18 _ ?_))))
 clear hK18;try clear K18
 exact am (ai (az _ aa rfl rfl rfl rfl) (bG rfl rfl rfl rfl rfl rfl (aj (aG (bI (.inr rfl) rfl (.cellA aa rfl rfl rfl) (Le.outI [] [] (.agg rfl lz) rfl rfl rfl trivial ob tr rfl))))))
theorem Ev (hT:T.length≤100000) (lv i:Nat) (hl:lv≤20) (hi:i < T.length) (ht:(di T i).t=pX) {j1:Nat} (h1:Spec Tryz.prog 162 (aY [.ptr (0,9) 0, .v (bt [59])] (ea T (bJ T i) N)) (bc (.tup []) (ea T j1 N) [(0,9)] [(0,9)])):
  Spec Tryz.prog 202 (aY [.ptr (0,9) 0, .v (.int .i64 (lv:Int))] (ea T i N)) (PO T N (nd 7 0 [] [],j1)):=by
 have hnx:=bN T i N hi
 have hn:eG T i=false:=gi (by rw [ht];rfl)
 rw [ht] at hnx
 refine Spec.ofNI Tryz.func202 rfl Tryz.ntmps202 rfl ?_
 refine am (ai (aC (4,0) aa rfl rfl) (aj (am (bQ rfl (ai (br aa _ _ ar (hnx) tr rfl ae (by simp)) ?_)))))
 refine oO rfl (aj (am (ai (aL _ aa rfl (by exact kQ)) ?_)))
 refine ai (aC (6,0) aa rfl rfl) (bG rfl rfl rfl rfl rfl rfl (aj (aq (am (bQ rfl (ai (br aa _ _ ar (dW T i N hi) tr rfl ae (by simp)) ?_))))))
 refine aj (aW rfl hn (aS (aq (am (ai (bh _ _ aa rfl ag (by (simp <;> rfl)) ah rfl) ?_)))))
 refine eh rfl (ai (aH aa al (cF Dx 9 rfl ab pX) rfl rfl) ?_)
 refine ai (cu (r:=false) _ rfl rfl) (aj (aW rfl rfl (aS (am (bQ rfl (ai (bU (cA T i N hi hT)) ?_))))))
 refine aj (aq (aq ?_))
 refine aM (σ':=aD 145 [(0,_),(1,_),(4,_),(5,_),(6,_)] [((0,9),_),((4,0),_),((6,0),_)] [(0,9)] [(0,9)]) kp ?_
 refine an (eh rfl (aj (ax (aq (am (ai (aV (r:=false) _ _ Tryz.underlying9 rfl rfl rfl) (cp rfl (aj (aW rfl rfl (an ?_))))))))))
 refine ai (aV (r:=false) _ _ Tryz.underlying9 rfl rfl rfl) (cp rfl (aj (aW rfl rfl (am (ai (aV (r:=false) _ _ Tryz.underlying9 rfl rfl rfl) (cp rfl (aj (aW rfl rfl (am (ai (aV (r:=false) _ _ Tryz.underlying9 rfl rfl rfl) ?_))))))))))
 refine cp rfl (aj (aW rfl rfl (am (ai (aV (r:=false) _ _ Tryz.underlying9 rfl rfl rfl) (cp rfl (aj (aW rfl rfl (am (ai (aV (r:=false) _ _ Tryz.underlying9 rfl rfl rfl) (cp rfl ?_))))))))))
 refine aj (aW rfl rfl (am (ai (aV (r:=false) _ _ Tryz.underlying9 rfl rfl rfl) (cp rfl (aj (aW rfl rfl (aq ?_)))))))
 refine aM (σ':=aD 145 [(0,_),(4,_),(6,_),(45,_)] [((0,9),_),((4,0),_),((6,0),_)] [(0,9)] [(0,9)]) kp ?_
 refine an (ai (aV (r:=true) _ _ Tryz.underlying9 rfl rfl rfl) (cp rfl (aj (bL rfl rfl (an (bb rfl rfl rfl (bG rfl rfl rfl rfl rfl rfl (dS (aU fun K19 hK19=> ?_)))))))))
 refine an (bQ rfl (ai (bU (h1)) (aJ (hK19 _ ?_))))
 clear hK19;try clear K19
 exact am (ai (az _ aa rfl rfl rfl rfl) (bG rfl rfl rfl rfl rfl rfl (aj (aG (bI (.inr rfl) rfl (.cellA aa rfl rfl rfl) (Le.outI [] [] (.agg rfl lz) rfl rfl rfl trivial ob tr rfl))))))
theorem Fc (hT:T.length≤100000) (lv i:Nat) (hl:lv≤20) (hi:i < T.length) (ht:(di T i).t=qN) {j1:Nat} (h1:Spec Tryz.prog 162 (aY [.ptr (0,9) 0, .v (bt [59])] (ea T (bJ T i) N)) (bc (.tup []) (ea T j1 N) [(0,9)] [(0,9)])):
  Spec Tryz.prog 202 (aY [.ptr (0,9) 0, .v (.int .i64 (lv:Int))] (ea T i N)) (PO T N (nd 10 0 [] [],j1)):=by
 have hnx:=bN T i N hi
 have hn:eG T i=false:=gi (by rw [ht];rfl)
 rw [ht] at hnx
 refine Spec.ofNI Tryz.func202 rfl Tryz.ntmps202 rfl ?_
 refine am (ai (aC (4,0) aa rfl rfl) (aj (am (bQ rfl (ai (br aa _ _ ar (hnx) tr rfl ae (by simp)) ?_)))))
 refine oO rfl (aj (am (ai (aL _ aa rfl (by exact kQ)) ?_)))
 refine ai (aC (6,0) aa rfl rfl) (bG rfl rfl rfl rfl rfl rfl (aj (aq (am (bQ rfl (ai (br aa _ _ ar (dW T i N hi) tr rfl ae (by simp)) ?_))))))
 refine aj (aW rfl hn (aS (aq (am (ai (bh _ _ aa rfl ag (by (simp <;> rfl)) ah rfl) ?_)))))
 refine eh rfl (ai (aH aa al (cF Dx 9 rfl ab qN) rfl rfl) ?_)
 refine ai (cu (r:=false) _ rfl rfl) (aj (aW rfl rfl (aS (am (bQ rfl (ai (bU (cA T i N hi hT)) ?_))))))
 refine aj (aq (aq ?_))
 refine aM (σ':=aD 145 [(0,_),(1,_),(4,_),(5,_),(6,_)] [((0,9),_),((4,0),_),((6,0),_)] [(0,9)] [(0,9)]) kp ?_
 refine an (eh rfl (aj (ax (aq (am (ai (aV (r:=false) _ _ Tryz.underlying9 rfl rfl rfl) (cp rfl (aj (aW rfl rfl (an ?_))))))))))
 refine ai (aV (r:=false) _ _ Tryz.underlying9 rfl rfl rfl) (cp rfl (aj (aW rfl rfl (am (ai (aV (r:=false) _ _ Tryz.underlying9 rfl rfl rfl) (cp rfl (aj (aW rfl rfl (am (ai (aV (r:=false) _ _ Tryz.underlying9 rfl rfl rfl) ?_))))))))))
 refine cp rfl (aj (aW rfl rfl (am (ai (aV (r:=false) _ _ Tryz.underlying9 rfl rfl rfl) (cp rfl (aj (aW rfl rfl (am (ai (aV (r:=false) _ _ Tryz.underlying9 rfl rfl rfl) (cp rfl ?_))))))))))
 refine aj (aW rfl rfl (am (ai (aV (r:=false) _ _ Tryz.underlying9 rfl rfl rfl) (cp rfl (aj (aW rfl rfl (aq ?_)))))))
 refine aM (σ':=aD 145 [(0,_),(4,_),(6,_),(45,_)] [((0,9),_),((4,0),_),((6,0),_)] [(0,9)] [(0,9)]) kp ?_
 refine an (ai (aV (r:=false) _ _ Tryz.underlying9 rfl rfl rfl) (cp rfl (aj (aW rfl rfl (an (bb rfl rfl rfl (bG rfl rfl rfl rfl rfl rfl (dS (aU fun K19 hK19=> ?_)))))))))
 refine an (bQ rfl (ai (bU (h1)) (aJ (hK19 _ ?_))))
 clear hK19;try clear K19
 exact am (ai (az _ aa rfl rfl rfl rfl) (bG rfl rfl rfl rfl rfl rfl (aj (aG (bI (.inr rfl) rfl (.cellA aa rfl rfl rfl) (Le.outI [] [] (.agg rfl lz) rfl rfl rfl trivial ob tr rfl))))))
end
end Go.Proofs.YtmjnackchaahbaaGreat
