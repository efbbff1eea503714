/- part 9 -/
import Derived.Test.YtmjnackchaahbaaGreatNsZ8
set_option linter.unusedSimpArgs false
set_option linter.unusedVariables false
namespace Go.Proofs.YtmjnackchaahbaaGreat
open Go.RowKit

theorem cI (l:List Tx) (n:Nat) (hn:l.length=n) (h1:n≤1000) (t:Tx):Spec Tryz.prog 199 (ba [.sl n (fm l), .v (bt t)] []) (aP (.v (.bool (decide (t∈l)))) []):=by
 refine Spec.ofN Tryz.func199 rfl Tryz.ntmps199 rfl ?_
 refine am (cq rfl (aj (aU fun K2 hK2=> ?_)))
 refine am (be rfl (aj (ay ?_)))
 refine br (α:=Nat) (fun k=> k≤n∧t∉l.take k) 18 [(0,_),(1,_)] [] (fun k=> [(5, .v (.int .i64 (k:Int)))]) (fun k=> []) [] [] (fun k=> n - k) 0 ?_ (by
  refine Le.mkJ [] [] rfl ?_ ?_ trivial trivial ?_
  ·exact ⟨(iS rfl),(iV rfl),(cp ag),trivial⟩
  ·exact trivial
  kernel_rfl) ?_
 ·exact ⟨Nat.zero_le _,by simp⟩
 intro k hk
 obtain ⟨hk,hnt⟩:=hk
 refine aU fun K4 hK4=> ?_
 refine am (aX rfl (eV rfl (ai (bn _ aa rfl) (ai (bm _ _ rfl rfl rfl) (aj (aR rfl (fun hc9=> ?_) (fun hc9=> ?_)))))))
 ·skip
  refine bs (hK4 _ ?_)
  clear hK4;try clear K4
  refine aq (ay (am (eV rfl (aX rfl (ai (bp _ _ aa rfl rfl _ rfl ab (by (simp only [aO,bi,bl,bw,bv];omega)) (by exact Nat.mul_one _)) ?_)))))
  refine ai (bO _ aa rfl (by exact jI _ _ ab) rfl) ?_
  refine ei rfl (ai (aV _ _ Tryz.underlying9 rfl rfl rfl) (aj (aR rfl (fun hc17=> ?_) (fun hc17=> ?_))))
  ·skip
   refine am (cq rfl (aj (aG (rN rfl rfl ?_))))
   exact decide_eq_true (hc17 ▸ jY ab)
  refine cr (an (aX rfl (ai (aZ _ _ rfl rfl (bE ab)) ?_)))
  refine be rfl (aJ (⟨k+1,?_,?_,?_⟩))
  ·exact ⟨by omega,kF hnt ab hc17⟩
  ·skip
   refine Le.mkJ [] [] rfl ?_ ?_ trivial trivial ?_
   ·exact ⟨(iS rfl),(iV rfl),(cp ag),trivial⟩
   ·exact trivial
   kernel_rfl
  omega
 have hall:t∉l:=by rwa [List.take_of_length_le ab] at hnt
 refine bB (id (hK2 _ ?_))
 clear hK2;try clear K2
 refine am (cq rfl (aj (aG (rN rfl rfl ?_))))
 exact decide_eq_false hall
theorem mt:Spec Tryz.prog 205 (ba [] []) (aP (.sl 9 (fm bltT)) []):=by
 refine Spec.ofN Tryz.func205 rfl Tryz.ntmps205 rfl ?_
 refine am (ai (bq _ fG) (aj (am (ai (bg _ _ aa rfl ag (by (simp <;> rfl)) ah rfl) ?_))))
 exact kD rfl (aj (aG (qI rfl rfl)))
theorem mw (t:Tx):Spec Tryz.prog 225 (ba [.v (bt t)] []) (aP (.v (.bool (wb t))) []):=by
 refine Spec.ofN Tryz.func225 rfl Tryz.ntmps225 rfl ?_
 refine am (cq rfl (aj (am (ai (aH aa (by repeat' (exact cW)) (mt) rfl rfl) ?_))))
 refine ei rfl (ai (aH aa al (cI bltT 9 rfl ab t) rfl rfl) ?_)
 refine cN rfl (dj (fun hg6=> ?_) (fun hg6=> ?_))
 ·skip
  refine aM rfl rfl ah ?_
  refine aM rfl rfl ah ?_
  refine aM rfl rfl ah ?_
  refine ai (aE _ _ _ rfl bN) (cq rfl (aj (aG (rN rfl rfl ?_))))
  unfold wb
  (rw [decide_eq_true hg6];rfl)
 refine ax rfl rfl (bg _ _ aa rfl ag (by (simp <;> rfl)) ah rfl) ?_
 refine ax rfl rfl (aI _ xB) (ax rfl rfl (aH aa al (cI Pm 19 rfl ab t) rfl rfl) ?_)
 refine ai (aE _ _ _ rfl bN) (cq rfl (aj (aG (rN rfl rfl ?_))))
 unfold wb
 (rw [decide_eq_false hg6];rfl)
theorem ek {T:List Tk} {i:Nat} (h:i < T.length):bK T i < T.length:=by unfold bK;split <;> omega
abbrev dZ (T:List Tk) (i:Nat) (N:List Tx):List (aC×Cells):=[((0,9), .box 222 [.sl T.length (sP T), .v (.int .i64 (i:Int)), .v (.int .i64 0), .v (.int .i64 0), .sl N.length (fm N)])]
theorem bQ (T:List Tk) (i:Nat) (N:List Tx) (hi:i < T.length):
  Spec Tryz.prog 160 (aY [.ptr (0,9) 0] (dZ T i N)) (bb (.v (bt (dm T i).t)) (dZ T i N) [(0,9)] [(0,9)]):=by
 refine Spec.ofNI Tryz.func160 rfl Tryz.ntmps160 rfl ?_
 refine am (oV rfl (aj (aq (bJ 12 [3,4,5,6,7,8,9,10,11,12,13,2] [] ae ae rfl (aK rfl) (rfl:_=[_,_,_,_,_,_,_,_,_,_,_,_]) (rfl:_=[]) ?_))))
 refine ap (_,[]) (fun τ=> aI _ ca) ?_
 refine fD rfl ?_
 refine ap (_,[]) (fun τ=> aT _ rfl rfl) ?_
 refine fF rfl ?_
 refine ap (_,[]) (fun τ=> aA _ aa rfl rfl rfl) ?_
 refine fE rfl ?_
 refine ap (_,[]) (fun τ=> aF _ aa rfl rfl ef) ?_
 refine fS rfl ?_
 refine ap (_,[]) (fun τ=> aI _ ca) ?_
 refine gf rfl ?_
 refine ap (_,[]) (fun τ=> aT _ rfl rfl) ?_
 refine gS rfl ?_
 refine ap (_,[]) (fun τ=> aA _ aa rfl rfl rfl) ?_
 refine ir rfl ?_
 refine ap (_,[]) (fun τ=> aF _ aa rfl rfl ee) ?_
 refine jE rfl ?_
 refine ap (_,[]) (fun τ=> bp _ _ aa rfl rfl _ rfl ab (by (simp only [aO,bi,bl,bw,bv];omega)) ag) ?_
 refine jU rfl ?_
 refine ap (_,[]) (fun τ=> dg _ aa rfl rfl) ?_
 refine fy rfl ?_
 refine ap (_,[]) (fun τ=> bO _ aa rfl (by exact nV _ _ ab) rfl) ?_
 refine gd rfl ?_
 refine ap (_,[]) (fun τ=> bq _ xB) ?_
 refine jG rfl (bj ⟨rfl,?_⟩)
 exact aj (aG (bH (.inr rfl) rfl (.tmp kL) (Le.outI [] [] .v rfl rfl rfl trivial ob tr rfl)))
theorem dW (T:List Tk) (i:Nat) (N:List Tx) (hi:i < T.length):
  Spec Tryz.prog 197 (aY [.ptr (0,9) 0] (dZ T i N)) (bb (.v (.bool (eD T i))) (dZ T i N) [(0,9)] [(0,9)]):=by
 refine Spec.ofNI Tryz.func197 rfl Tryz.ntmps197 rfl ?_
 refine am (cq rfl (aj (aq (bJ 28 [3,4,5,6,7,8,9,10,11,12,13,14,15,16,17,18,19,20,21,22,23,24,25,26,27,28,29,2] [] ae ae rfl (aK rfl) (rfl:_=[_,_,_,_,_,_,_,_,_,_,_,_,_,_,_,_,_,_,_,_,_,_,_,_,_,_,_,_]) (rfl:_=[]) ?_))))
 refine ap (_,[]) (fun τ=> aI _ ca) ?_
 refine fD rfl ?_
 refine ap (_,[]) (fun τ=> aT _ rfl rfl) ?_
 refine fF rfl ?_
 refine ap (_,[]) (fun τ=> aA _ aa rfl rfl rfl) ?_
 refine fE rfl ?_
 refine ap (_,[]) (fun τ=> aF _ aa rfl rfl ef) ?_
 refine fS rfl ?_
 refine ap (_,[]) (fun τ=> aI _ ca) ?_
 refine gf rfl ?_
 refine ap (_,[]) (fun τ=> aT _ rfl rfl) ?_
 refine gS rfl ?_
 refine ap (_,[]) (fun τ=> aA _ aa rfl rfl rfl) ?_
 refine ir rfl ?_
 refine ap (_,[]) (fun τ=> aF _ aa rfl rfl ee) ?_
 refine jE rfl ?_
 refine ap (_,[]) (fun τ=> bp _ _ aa rfl rfl _ rfl ab (by (simp only [aO,bi,bl,bw,bv];omega)) ag) ?_
 refine jU rfl ?_
 refine ap (_,[]) (fun τ=> dg _ aa rfl rfl) ?_
 refine fy rfl ?_
 refine ap (_,[]) (fun τ=> bO _ aa rfl (by exact qb _ _ ab) rfl) ?_
 refine gd rfl ?_
 refine ap (_,[]) (fun τ=> bC _ _ rfl rfl rfl) ?_
 refine jG rfl ?_
 refine ap (_,[]) (fun τ=> aI _ bN) ?_
 refine oF (fun hg15=> ?_) (fun hg15=> ?_)
 ·skip
  have hr:eD T i= !wb (dm T i).t:=by unfold eD;rw [decide_eq_true ab];rfl
  refine kT rfl ?_
  refine bo (_,[]) rfl (fun τ=> rfl) (fun τ=> aI _ ca) ?_
  refine mD rfl ?_
  refine bo (_,[]) rfl (fun τ=> rfl) (fun τ=> aT _ rfl rfl) ?_
  refine rh rfl ?_
  refine bo (_,[]) rfl (fun τ=> rfl) (fun τ=> aA _ aa rfl rfl rfl) ?_
  refine re rfl ?_
  refine bo (_,[]) rfl (fun τ=> rfl) (fun τ=> aF _ aa rfl rfl ef) ?_
  refine vZ rfl ?_
  refine bo (_,[]) rfl (fun τ=> rfl) (fun τ=> aI _ ca) ?_
  refine yw rfl ?_
  refine bo (_,[]) rfl (fun τ=> rfl) (fun τ=> aT _ rfl rfl) ?_
  refine yK rfl ?_
  refine bo (_,[]) rfl (fun τ=> rfl) (fun τ=> aA _ aa rfl rfl rfl) ?_
  refine Dg rfl ?_
  refine bo (_,[]) rfl (fun τ=> rfl) (fun τ=> aF _ aa rfl rfl ee) ?_
  refine zN rfl ?_
  refine bo (_,[]) rfl (fun τ=> rfl) (fun τ=> bp _ _ aa rfl rfl _ rfl ab (by (simp only [aO,bi,bl,bw,bv];omega)) ag) ?_
  refine Af rfl ?_
  refine bo (_,[]) rfl (fun τ=> rfl) (fun τ=> dg _ aa rfl rfl) ?_
  refine BC rfl ?_
  refine bo (_,[]) rfl (fun τ=> rfl) (fun τ=> bO _ aa rfl (by exact nV _ _ ab) rfl) ?_
  refine zV rfl ?_
  refine bo (_,[]) rfl (fun τ=> rfl) (fun τ=> (aH aa al (mw (dm T i).t) rfl rfl)) ?_
  refine BI rfl ?_
  refine bo (_,[]) rfl (fun τ=> rfl) (fun τ=> cg _ rfl rfl) ?_
  refine CK rfl ?_
  refine ap (_,[]) (fun τ=> aE _ _ _ rfl bN) ?_
  refine AL rfl ?_
  refine ap (_,[]) (fun τ=> bq _ bN) ?_
  refine BM rfl (bj ⟨rfl,?_⟩)
  exact aj (aG (bH (.inr rfl) rfl (.tmp bN) (Le.outI [] [] (mz hr) rfl rfl rfl trivial ob tr rfl)))
 have hr:eD T i=false:=by unfold eD;rw [decide_eq_false ab];rfl
 refine kT rfl ?_
 refine cj rfl (fun τ=> rfl) ah ?_
 refine mD rfl ?_
 refine cj rfl (fun τ=> rfl) ah ?_
 refine rh rfl ?_
 refine cj rfl (fun τ=> rfl) ah ?_
 refine re rfl ?_
 refine cj rfl (fun τ=> rfl) ah ?_
 refine vZ rfl ?_
 refine cj rfl (fun τ=> rfl) ah ?_
 refine yw rfl ?_
 refine cj rfl (fun τ=> rfl) ah ?_
 refine yK rfl ?_
 refine cj rfl (fun τ=> rfl) ah ?_
 refine Dg rfl ?_
 refine cj rfl (fun τ=> rfl) ah ?_
 refine zN rfl ?_
 refine cj rfl (fun τ=> rfl) ah ?_
 refine Af rfl ?_
 refine cj rfl (fun τ=> rfl) ah ?_
 refine BC rfl ?_
 refine cj rfl (fun τ=> rfl) ah ?_
 refine zV rfl ?_
 refine cj rfl (fun τ=> rfl) ah ?_
 refine BI rfl ?_
 refine cj rfl (fun τ=> rfl) ah ?_
 refine CK rfl ?_
 refine ap (_,[]) (fun τ=> aE _ _ _ rfl bN) ?_
 refine AL rfl ?_
 refine ap (_,[]) (fun τ=> bq _ bN) ?_
 refine BM rfl (bj ⟨rfl,?_⟩)
 exact aj (aG (bH (.inr rfl) rfl (.tmp bN) (Le.outI [] [] (mz hr) rfl rfl rfl trivial ob tr rfl)))
theorem cC (T:List Tk) (i:Nat) (N:List Tx) (hi:i < T.length) (hT:T.length≤100000):
  Spec Tryz.prog 196 (aY [.ptr (0,9) 0] (dZ T i N)) (bb (.tup []) (dZ T (bK T i) N) [(0,9)] [(0,9)]):=by
 refine Spec.ofNI Tryz.func196 rfl Tryz.ntmps196 rfl ?_
 refine aq (bJ 11 [2,3,4,5,6,7,8,9,10,11,12] [] ae ae rfl (aK rfl) (rfl:_=[_,_,_,_,_,_,_,_,_,_,_]) (rfl:_=[]) ?_)
 refine ap (_,[]) (fun τ=> aI _ ca) ?_
 refine fD rfl ?_
 refine ap (_,[]) (fun τ=> aT _ rfl rfl) ?_
 refine fF rfl ?_
 refine ap (_,[]) (fun τ=> aA _ aa rfl rfl rfl) ?_
 refine fE rfl ?_
 refine ap (_,[]) (fun τ=> aF _ aa rfl rfl ee) ?_
 refine fS rfl ?_
 refine ap (_,[]) (fun τ=> aZ _ _ rfl rfl (bE ab)) ?_
 refine gf rfl ?_
 refine ap (_,[]) (fun τ=> aI _ ca) ?_
 refine gS rfl ?_
 refine ap (_,[]) (fun τ=> aT _ rfl rfl) ?_
 refine ir rfl ?_
 refine ap (_,[]) (fun τ=> aA _ aa rfl rfl rfl) ?_
 refine jE rfl ?_
 refine ap (_,[]) (fun τ=> aF _ aa rfl rfl ef) ?_
 refine jU rfl ?_
 refine ap (_,[]) (fun τ=> bn _ aa rfl) ?_
 refine fy rfl ?_
 refine ap (_,[]) (fun τ=> bm _ _ rfl rfl rfl) ?_
 refine gd rfl (bj ⟨rfl,?_⟩)
 refine aj (aR rfl (fun hc12=> ?_) (fun hc12=> ?_))
 ·skip
  have ht:bK T i=i+1:=by unfold bK;rw [if_pos ab]
  refine an (bS rfl (ai (aT _ rfl rfl) (bc rfl rfl rfl (cd rfl rfl rfl (ai (aZ _ _ rfl rfl (bE ab)) ?_)))))
  exact ai (aT _ rfl rfl) (bc rfl rfl rfl (bG rfl rfl rfl rfl rfl rfl (aJ (fA (.inl rfl) rfl (Le.outI [] [] (.tup rfl bf) rfl rfl rfl trivial ⟨⟨rfl,⟨_,rfl, .box rfl (au .sl (au (cp (by rw [ht] <;> omega)) lz))⟩,rfl⟩,trivial⟩ tr rfl)))))
 have ht:bK T i=i:=by unfold bK;rw [if_neg ab]
 exact bs (fA (.inl rfl) rfl (Le.outI [] [] (.tup rfl bf) rfl rfl rfl trivial ⟨⟨rfl,⟨_,rfl, .box rfl (au .sl (au (cp (by rw [ht] <;> omega)) lz))⟩,rfl⟩,trivial⟩ tr rfl))
theorem fT (T:List Tk) (i j:Nat) (N:List Tx) (s:Tx) (hi:i < T.length) (hT:T.length≤100000) (h:gM T s i=some j):
  Spec Tryz.prog 162 (aY [.ptr (0,9) 0, .v (bt s)] (dZ T i N)) (bb (.tup []) (dZ T j N) [(0,9)] [(0,9)]):=by
 have ⟨hs,hj⟩:(dm T i).t=s∧bK T i=j:=by
  unfold gM at h
  split at h
  ·exact ⟨by assumption,Option.some.inj h⟩
  cases h
 subst hs
 subst hj
 refine Spec.ofNI Tryz.func162 rfl Tryz.ntmps162 rfl ?_
 refine aq (am (bS rfl (ai (aT _ rfl rfl) (bc rfl rfl rfl (cd rfl rfl rfl (kv rfl rfl rfl (cN rfl (ax rfl rfl (aI _ ca) (ax rfl rfl (bu aa _ _ ar (bQ T i N hi) tr rfl ae (by simp)) ?_)))))))))
 refine ax rfl rfl (aI _ xB) (ax rfl rfl (sK (r:=false) _ _ Tryz.underlying9 rfl rfl (by exact bne_self_eq_false _)) ?_)
 refine ai (aE _ _ _ rfl bN) (aj (aW rfl rfl (aS (am (bS rfl (ai (aT _ rfl rfl) (bc rfl rfl rfl (cd rfl rfl rfl (kv rfl rfl rfl (aj ?_))))))))))
 refine bL rfl rfl ?_
 refine aL (σ':=aD 28 [(0,_)] [((0,9),_)] [(0,9)] [(0,9)]) kp ?_
 refine an (bS rfl (ai (bV (cC T i N hi hT)) ?_))
 exact aJ (fA (.inl rfl) rfl (Le.outI [] [] (.tup rfl bf) rfl rfl rfl trivial ob tr rfl))
theorem kY {T:List Tk} {s:Tx} {lv i j:Nat} (h:rA T s lv i=some j):lv≤20∧gM T s i=some j:=by
 unfold rA at h
 split at h
 ·cases h
 rename_i hn
 refine ⟨?_,h⟩
 unfold gM at h
 split at h
 ·rename_i ht
  exact Nat.le_of_not_lt fun hl=> hn ⟨ht,hl⟩
 cases h
theorem jK {T:List Tk} {s:Tx} {i j:Nat} (h:gM T s i=some j) (hi:i < T.length):j < T.length:=by
 unfold gM at h
 split at h
 ·rw [← Option.some.inj h];exact ek hi
 cases h
theorem oH (T:List Tk) (i j:Nat) (N:List Tx) (s:Tx) (lv:Nat) (hi:i < T.length) (hT:T.length≤100000) (h:rA T s lv i=some j):
  Spec Tryz.prog 201 (aY [.ptr (0,9) 0, .v (bt s), .v (.int .i64 (lv:Int))] (dZ T i N)) (bb (.tup []) (dZ T j N) [(0,9)] [(0,9)]):=by
 obtain ⟨hl,he⟩:=kY h
 refine Spec.ofNI Tryz.func201 rfl Tryz.ntmps201 rfl ?_
 refine aq (am (bS rfl (ai (aT _ rfl rfl) (bc rfl rfl rfl (cd rfl rfl rfl (kv rfl rfl rfl (cN rfl (ax rfl rfl (aI _ ca) (ax rfl rfl (bu aa _ _ ar (bQ T i N hi) tr rfl ae (by simp)) ?_)))))))))
 refine ax rfl rfl (aI _ xB) (ax rfl rfl (aV _ _ Tryz.underlying9 rfl rfl rfl) (ai (aE _ _ _ rfl bN) (cN rfl (dj (fun hg17=> ?_) (fun hg17=> ?_)))))
 ·skip
  refine ax rfl rfl (aI _ eh) (ax rfl rfl (gy (r:=false) _ _ rfl rfl (decide_eq_false ab)) ?_)
  refine ai (aE _ _ _ rfl bN) (aj (aW rfl rfl (aS ?_)))
  refine aL (σ':=aD 30 [(0,_),(1,_)] [((0,9),_)] [(0,9)] [(0,9)]) kp ?_
  refine an (bS rfl (ei rfl (ai (bV (fT T i j N s hi hT he)) ?_)))
  exact aJ (fA (.inl rfl) rfl (Le.outI [] [] (.tup rfl bf) rfl rfl rfl trivial ob tr rfl))
 refine aM rfl rfl ah ?_
 refine aM rfl rfl ah ?_
 refine ai (aE _ _ _ rfl bN) (aj (aW rfl rfl (aS ?_)))
 refine aL (σ':=aD 30 [(0,_),(1,_)] [((0,9),_)] [(0,9)] [(0,9)]) kp ?_
 refine an (bS rfl (ei rfl (ai (bV (fT T i j N s hi hT he)) ?_)))
 exact aJ (fA (.inl rfl) rfl (Le.outI [] [] (.tup rfl bf) rfl rfl rfl trivial ob tr rfl))
theorem lP (T:List Tk) (i:Nat) (N:List Tx) (most:Nat) (hi:i < T.length) (hT:T.length≤100000) (hm:most≤1000) (r:Nat×Nat) (h:pC T most i=some r):
  Spec Tryz.prog 200 (aY [.ptr (0,9) 0, .v (.int .i64 (most:Int))] (dZ T i N)) (bb (.v (.int .i64 (r.1:Int))) (dZ T r.2 N) [(0,9)] [(0,9)]):=by
 have ⟨h1,h2,h3⟩:(dm T i).k=2∧(dm T i).n≤most∧r=((dm T i).n,bK T i):=by
  unfold pC at h
  split at h
  ·rename_i hx;exact ⟨hx.1,hx.2,(Option.some.inj h).symm⟩
  cases h
 subst h3
 refine Spec.ofNI Tryz.func200 rfl Tryz.ntmps200 rfl ?_
 refine am (be rfl (aj (aq (bJ 11 [6,7,8,9,10,11,12,13,14,15,5] [(5,0)] ae ae rfl (aK rfl) (rfl:_=[_,_,_,_,_,_,_,_,_,_,_]) (rfl:_=[_]) ?_))))
 refine ap (_,[]) (fun τ=> aI _ ca) ?_
 refine fD rfl ?_
 refine ap (_,[]) (fun τ=> aT _ rfl rfl) ?_
 refine fF rfl ?_
 refine ap (_,[]) (fun τ=> aA _ aa rfl rfl rfl) ?_
 refine fE rfl ?_
 refine ap (_,[]) (fun τ=> aF _ aa rfl rfl ef) ?_
 refine fS rfl ?_
 refine ap (_,[]) (fun τ=> aI _ ca) ?_
 refine gf rfl ?_
 refine ap (_,[]) (fun τ=> aT _ rfl rfl) ?_
 refine gS rfl ?_
 refine ap (_,[]) (fun τ=> aA _ aa rfl rfl rfl) ?_
 refine ir rfl ?_
 refine ap (_,[]) (fun τ=> aF _ aa rfl rfl ee) ?_
 refine jE rfl ?_
 refine ap (_,[]) (fun τ=> bp _ _ aa rfl rfl _ rfl ab (by (simp only [aO,bi,bl,bw,bv];omega)) ag) ?_
 refine jU rfl ?_
 refine ap (_,[]) (fun τ=> cf _ aa rfl (by exact nM _ _ hi) rfl) ?_
 refine fy rfl ?_
 refine ap (_,[((5,0),_)]) (fun τ=> aB (5,0) aa rfl rfl) ?_
 refine gd rfl (bj ⟨rfl,?_⟩)
 refine bG rfl rfl rfl rfl rfl rfl (aj (aq (am (bc rfl rfl rfl (cd rfl rfl rfl (ai (bU _ _ rfl rfl rfl) (aj (aW rfl (by rw [h1];rfl) ?_))))))))
 refine aq ?_
 refine aL (σ':=aD 44 [(0,_),(1,_),(5,_)] [((0,9),_),((5,0),_)] [(0,9)] [(0,9)]) kp ?_
 refine an (bc rfl rfl rfl (cd rfl rfl rfl (aX rfl (ai (gy _ _ rfl rfl rfl) (aj (aW rfl (decide_eq_false ab) ?_))))))
 refine aS (aq (am (bS rfl (ai (aT _ rfl rfl) (bc rfl rfl rfl (cd rfl rfl rfl (ai (bU (r:=false) _ _ rfl rfl rfl) (aj (aW rfl rfl (aS ?_))))))))))
 refine am (bS rfl (ai (bV (cC T i N hi hT)) ?_))
 exact aj (am (bc rfl rfl rfl (cd rfl rfl rfl (be rfl (aj (aG (bH (.inr rfl) rfl (.tmp kL) (Le.outI [] [] .v rfl rfl rfl trivial ob tr rfl))))))))
abbrev EA (T:List Tk) (i:Nat) (N:List Tx):List (aC×Cells):=[((0,9), .box 222 [.sl T.length (sP T), .v (.int .i64 (i:Int)), .v (.int .i64 0), .v (.int .i64 0), .ref (1,9) 0 N.length]),((1,9), .row 9 1 (fm N))]
theorem fe (T:List Tk) (i:Nat) (N:List Tx) (hi:i < T.length):
  Spec Tryz.prog 160 (aY [.ptr (0,9) 0] (EA T i N)) (bb (.v (bt (dm T i).t)) (EA T i N) [(0,9),(1,9)] [(0,9),(1,9)]):=by
 refine Spec.ofNI Tryz.func160 rfl Tryz.ntmps160 rfl ?_
 refine am (oV rfl (aj (aq (bJ 12 [3,4,5,6,7,8,9,10,11,12,13,2] [] ae ae rfl (aK rfl) (rfl:_=[_,_,_,_,_,_,_,_,_,_,_,_]) (rfl:_=[]) ?_))))
 refine ap (_,[]) (fun τ=> aI _ ca) ?_
 refine fD rfl ?_
 refine ap (_,[]) (fun τ=> aT _ rfl rfl) ?_
 refine fF rfl ?_
 refine ap (_,[]) (fun τ=> aA _ aa rfl rfl rfl) ?_
 refine fE rfl ?_
 refine ap (_,[]) (fun τ=> aF _ aa rfl rfl ef) ?_
 refine fS rfl ?_
 refine ap (_,[]) (fun τ=> aI _ ca) ?_
 refine gf rfl ?_
 refine ap (_,[]) (fun τ=> aT _ rfl rfl) ?_
 refine gS rfl ?_
 refine ap (_,[]) (fun τ=> aA _ aa rfl rfl rfl) ?_
 refine ir rfl ?_
 refine ap (_,[]) (fun τ=> aF _ aa rfl rfl ee) ?_
 refine jE rfl ?_
 refine ap (_,[]) (fun τ=> bp _ _ aa rfl rfl _ rfl ab (by (simp only [aO,bi,bl,bw,bv];omega)) ag) ?_
 refine jU rfl ?_
 refine ap (_,[]) (fun τ=> dg _ aa rfl rfl) ?_
 refine fy rfl ?_
 refine ap (_,[]) (fun τ=> bO _ aa rfl (by exact nV _ _ ab) rfl) ?_
 refine gd rfl ?_
 refine ap (_,[]) (fun τ=> bq _ xB) ?_
 refine jG rfl (bj ⟨rfl,?_⟩)
 exact aj (aG (bH (.inr rfl) rfl (.tmp kL) (Le.outI [] [] .v rfl rfl rfl trivial ob tr rfl)))
theorem vL (T:List Tk) (i:Nat) (N:List Tx) (hi:i < T.length):
  Spec Tryz.prog 197 (aY [.ptr (0,9) 0] (EA T i N)) (bb (.v (.bool (eD T i))) (EA T i N) [(0,9),(1,9)] [(0,9),(1,9)]):=by
 refine Spec.ofNI Tryz.func197 rfl Tryz.ntmps197 rfl ?_
 refine am (cq rfl (aj (aq (bJ 28 [3,4,5,6,7,8,9,10,11,12,13,14,15,16,17,18,19,20,21,22,23,24,25,26,27,28,29,2] [] ae ae rfl (aK rfl) (rfl:_=[_,_,_,_,_,_,_,_,_,_,_,_,_,_,_,_,_,_,_,_,_,_,_,_,_,_,_,_]) (rfl:_=[]) ?_))))
 refine ap (_,[]) (fun τ=> aI _ ca) ?_
 refine fD rfl ?_
 refine ap (_,[]) (fun τ=> aT _ rfl rfl) ?_
 refine fF rfl ?_
 refine ap (_,[]) (fun τ=> aA _ aa rfl rfl rfl) ?_
 refine fE rfl ?_
 refine ap (_,[]) (fun τ=> aF _ aa rfl rfl ef) ?_
 refine fS rfl ?_
 refine ap (_,[]) (fun τ=> aI _ ca) ?_
 refine gf rfl ?_
 refine ap (_,[]) (fun τ=> aT _ rfl rfl) ?_
 refine gS rfl ?_
 refine ap (_,[]) (fun τ=> aA _ aa rfl rfl rfl) ?_
 refine ir rfl ?_
 refine ap (_,[]) (fun τ=> aF _ aa rfl rfl ee) ?_
 refine jE rfl ?_
 refine ap (_,[]) (fun τ=> bp _ _ aa rfl rfl _ rfl ab (by (simp only [aO,bi,bl,bw,bv];omega)) ag) ?_
 refine jU rfl ?_
 refine ap (_,[]) (fun τ=> dg _ aa rfl rfl) ?_
 refine fy rfl ?_
 refine ap (_,[]) (fun τ=> bO _ aa rfl (by exact qb _ _ ab) rfl) ?_
 refine gd rfl ?_
 refine ap (_,[]) (fun τ=> bC _ _ rfl rfl rfl) ?_
 refine jG rfl ?_
 refine ap (_,[]) (fun τ=> aI _ bN) ?_
 refine oF (fun hg15=> ?_) (fun hg15=> ?_)
 ·skip
  have hr:eD T i= !wb (dm T i).t:=by unfold eD;rw [decide_eq_true ab];rfl
  refine kT rfl ?_
  refine bo (_,[]) rfl (fun τ=> rfl) (fun τ=> aI _ ca) ?_
  refine mD rfl ?_
  refine bo (_,[]) rfl (fun τ=> rfl) (fun τ=> aT _ rfl rfl) ?_
  refine rh rfl ?_
  refine bo (_,[]) rfl (fun τ=> rfl) (fun τ=> aA _ aa rfl rfl rfl) ?_
  refine re rfl ?_
  refine bo (_,[]) rfl (fun τ=> rfl) (fun τ=> aF _ aa rfl rfl ef) ?_
  refine vZ rfl ?_
  refine bo (_,[]) rfl (fun τ=> rfl) (fun τ=> aI _ ca) ?_
  refine yw rfl ?_
  refine bo (_,[]) rfl (fun τ=> rfl) (fun τ=> aT _ rfl rfl) ?_
  refine yK rfl ?_
  refine bo (_,[]) rfl (fun τ=> rfl) (fun τ=> aA _ aa rfl rfl rfl) ?_
  refine Dg rfl ?_
  refine bo (_,[]) rfl (fun τ=> rfl) (fun τ=> aF _ aa rfl rfl ee) ?_
  refine zN rfl ?_
  refine bo (_,[]) rfl (fun τ=> rfl) (fun τ=> bp _ _ aa rfl rfl _ rfl ab (by (simp only [aO,bi,bl,bw,bv];omega)) ag) ?_
  refine Af rfl ?_
  refine bo (_,[]) rfl (fun τ=> rfl) (fun τ=> dg _ aa rfl rfl) ?_
  refine BC rfl ?_
  refine bo (_,[]) rfl (fun τ=> rfl) (fun τ=> bO _ aa rfl (by exact nV _ _ ab) rfl) ?_
  refine zV rfl ?_
  refine bo (_,[]) rfl (fun τ=> rfl) (fun τ=> (aH aa al (mw (dm T i).t) rfl rfl)) ?_
  refine BI rfl ?_
  refine bo (_,[]) rfl (fun τ=> rfl) (fun τ=> cg _ rfl rfl) ?_
  refine CK rfl ?_
  refine ap (_,[]) (fun τ=> aE _ _ _ rfl bN) ?_
  refine AL rfl ?_
  refine ap (_,[]) (fun τ=> bq _ bN) ?_
  refine BM rfl (bj ⟨rfl,?_⟩)
  exact aj (aG (bH (.inr rfl) rfl (.tmp bN) (Le.outI [] [] (mz hr) rfl rfl rfl trivial ob tr rfl)))
 have hr:eD T i=false:=by unfold eD;rw [decide_eq_false ab];rfl
 refine kT rfl ?_
 refine cj rfl (fun τ=> rfl) ah ?_
 refine mD rfl ?_
 refine cj rfl (fun τ=> rfl) ah ?_
 refine rh rfl ?_
 refine cj rfl (fun τ=> rfl) ah ?_
 refine re rfl ?_
 refine cj rfl (fun τ=> rfl) ah ?_
 refine vZ rfl ?_
 refine cj rfl (fun τ=> rfl) ah ?_
 refine yw rfl ?_
 refine cj rfl (fun τ=> rfl) ah ?_
 refine yK rfl ?_
 refine cj rfl (fun τ=> rfl) ah ?_
 refine Dg rfl ?_
 refine cj rfl (fun τ=> rfl) ah ?_
 refine zN rfl ?_
 refine cj rfl (fun τ=> rfl) ah ?_
 refine Af rfl ?_
 refine cj rfl (fun τ=> rfl) ah ?_
 refine BC rfl ?_
 refine cj rfl (fun τ=> rfl) ah ?_
 refine zV rfl ?_
 refine cj rfl (fun τ=> rfl) ah ?_
 refine BI rfl ?_
 refine cj rfl (fun τ=> rfl) ah ?_
 refine CK rfl ?_
 refine ap (_,[]) (fun τ=> aE _ _ _ rfl bN) ?_
 refine AL rfl ?_
 refine ap (_,[]) (fun τ=> bq _ bN) ?_
 refine BM rfl (bj ⟨rfl,?_⟩)
 exact aj (aG (bH (.inr rfl) rfl (.tmp bN) (Le.outI [] [] (mz hr) rfl rfl rfl trivial ob tr rfl)))
theorem kG (T:List Tk) (i:Nat) (N:List Tx) (hi:i < T.length) (hT:T.length≤100000):
  Spec Tryz.prog 196 (aY [.ptr (0,9) 0] (EA T i N)) (bb (.tup []) (EA T (bK T i) N) [(0,9),(1,9)] [(0,9),(1,9)]):=by
 refine Spec.ofNI Tryz.func196 rfl Tryz.ntmps196 rfl ?_
 refine aq (bJ 11 [2,3,4,5,6,7,8,9,10,11,12] [] ae ae rfl (aK rfl) (rfl:_=[_,_,_,_,_,_,_,_,_,_,_]) (rfl:_=[]) ?_)
 refine ap (_,[]) (fun τ=> aI _ ca) ?_
 refine fD rfl ?_
 refine ap (_,[]) (fun τ=> aT _ rfl rfl) ?_
 refine fF rfl ?_
 refine ap (_,[]) (fun τ=> aA _ aa rfl rfl rfl) ?_
 refine fE rfl ?_
 refine ap (_,[]) (fun τ=> aF _ aa rfl rfl ee) ?_
 refine fS rfl ?_
 refine ap (_,[]) (fun τ=> aZ _ _ rfl rfl (bE ab)) ?_
 refine gf rfl ?_
 refine ap (_,[]) (fun τ=> aI _ ca) ?_
 refine gS rfl ?_
 refine ap (_,[]) (fun τ=> aT _ rfl rfl) ?_
 refine ir rfl ?_
 refine ap (_,[]) (fun τ=> aA _ aa rfl rfl rfl) ?_
 refine jE rfl ?_
 refine ap (_,[]) (fun τ=> aF _ aa rfl rfl ef) ?_
 refine jU rfl ?_
 refine ap (_,[]) (fun τ=> bn _ aa rfl) ?_
 refine fy rfl ?_
 refine ap (_,[]) (fun τ=> bm _ _ rfl rfl rfl) ?_
 refine gd rfl (bj ⟨rfl,?_⟩)
 refine aj (aR rfl (fun hc12=> ?_) (fun hc12=> ?_))
 ·skip
  have ht:bK T i=i+1:=by unfold bK;rw [if_pos ab]
  refine an (bS rfl (ai (aT _ rfl rfl) (bc rfl rfl rfl (cd rfl rfl rfl (ai (aZ _ _ rfl rfl (bE ab)) ?_)))))
  exact ai (aT _ rfl rfl) (bc rfl rfl rfl (bG rfl rfl rfl rfl rfl rfl (aJ (fA (.inl rfl) rfl (Le.outI [] [] (.tup rfl bf) rfl rfl rfl trivial ⟨⟨rfl,⟨_,rfl, .box rfl (au .sl (au (cp (by rw [ht] <;> omega)) lz))⟩,rfl⟩,⟨rfl,⟨_,rfl, .rowE rfl⟩,rfl⟩,trivial⟩ tr rfl)))))
 have ht:bK T i=i:=by unfold bK;rw [if_neg ab]
 exact bs (fA (.inl rfl) rfl (Le.outI [] [] (.tup rfl bf) rfl rfl rfl trivial ⟨⟨rfl,⟨_,rfl, .box rfl (au .sl (au (cp (by rw [ht] <;> omega)) lz))⟩,rfl⟩,⟨rfl,⟨_,rfl, .rowE rfl⟩,rfl⟩,trivial⟩ tr rfl))
theorem tn (T:List Tk) (i j:Nat) (N:List Tx) (s:Tx) (hi:i < T.length) (hT:T.length≤100000) (h:gM T s i=some j):
  Spec Tryz.prog 162 (aY [.ptr (0,9) 0, .v (bt s)] (EA T i N)) (bb (.tup []) (EA T j N) [(0,9),(1,9)] [(0,9),(1,9)]):=by
 have ⟨hs,hj⟩:(dm T i).t=s∧bK T i=j:=by
  unfold gM at h
  split at h
  ·exact ⟨by assumption,Option.some.inj h⟩
  cases h
 subst hs
 subst hj
 refine Spec.ofNI Tryz.func162 rfl Tryz.ntmps162 rfl ?_
 refine aq (am (bS rfl (ai (aT _ rfl rfl) (bc rfl rfl rfl (cd rfl rfl rfl (kv rfl rfl rfl (cN rfl (ax rfl rfl (aI _ ca) (ax rfl rfl (bu aa _ _ ar (fe T i N hi) tr rfl ae (by simp)) ?_)))))))))
 refine ax rfl rfl (aI _ xB) (ax rfl rfl (sK (r:=false) _ _ Tryz.underlying9 rfl rfl (by exact bne_self_eq_false _)) ?_)
 refine ai (aE _ _ _ rfl bN) (aj (aW rfl rfl (aS (am (bS rfl (ai (aT _ rfl rfl) (bc rfl rfl rfl (cd rfl rfl rfl (kv rfl rfl rfl (aj ?_))))))))))
 refine bL rfl rfl ?_
 refine aL (σ':=aD 28 [(0,_)] [((0,9),_),((1,9),_)] [(0,9),(1,9)] [(0,9),(1,9)]) kp ?_
 refine an (bS rfl (ai (dX aa [] ar (kG T i N hi hT) ob tr ae) ?_))
 exact aJ (fA (.inl rfl) rfl (Le.outI [] [] (.tup rfl bf) rfl rfl rfl trivial ob tr rfl))

abbrev pA (d:Nd):AV:= .agg [.v (.int .i64 (d.k:Int)), .v (.int .i64 (d.n:Int)), .v (bt d.s), .sl d.kn d.kids]
abbrev PO (T:List Tk) (N:List Tx) (r:Nd×Nat):St:=bb (pA r.1) (dZ T r.2 N) [(0,9)] [(0,9)]
structure PE (T:List Tk) (N:List Tx) (f:Nat):Prop where
 expr: ∀ lv pr i r,lv≤20→1≤pr∧pr≤7→i < T.length→gR T f lv pr i=some r→r.2 < T.length∧Spec Tryz.prog 226 (aY [.ptr (0,9) 0, .v (.int .i64 (lv:Int)), .v (.int .i64 (pr:Int))] (dZ T i N)) (PO T N r)
 un: ∀ s lv pr i r,lv≤20→1≤pr∧pr≤7→i < T.length→Ja T f s lv pr i=some r→r.2 < T.length∧Spec Tryz.prog 235 (aY [.ptr (0,9) 0, .v (bt s), .v (.int .i64 (lv:Int)), .v (.int .i64 (pr:Int))] (dZ T i N)) (PO T N r)
 bin: ∀ lv pr i r,lv≤20→(1≤pr∧pr≤6∧pr≠3)→i < T.length→yZ T f lv pr i=some r→r.2 < T.length∧Spec Tryz.prog 236 (aY [.ptr (0,9) 0, .v (.int .i64 (lv:Int)), .v (.int .i64 (pr:Int))] (dZ T i N)) (PO T N r)
 nest: ∀ lv i r,lv≤20→i < T.length→rT T f lv i=some r→r.2 < T.length∧Spec Tryz.prog 240 (aY [.ptr (0,9) 0, .v (.int .i64 (lv:Int))] (dZ T i N)) (PO T N r)
 prim: ∀ lv i r,lv≤20→i < T.length→uJ T f lv i=some r→r.2 < T.length∧Spec Tryz.prog 237 (aY [.ptr (0,9) 0, .v (.int .i64 (lv:Int))] (dZ T i N)) (PO T N r)
section
variable {T:List Tk} {N:List Tx}
theorem yX (f:Nat) (ih:PE T N f) (lv pr i:Nat) (r:Nd×Nat) (hl:lv≤20) (hp:1≤pr∧pr≤7) (hi:i < T.length) (h:gR T (f+1) lv pr i=some r):
  r.2 < T.length∧Spec Tryz.prog 226 (aY [.ptr (0,9) 0, .v (.int .i64 (lv:Int)), .v (.int .i64 (pr:Int))] (dZ T i N)) (PO T N r):=by
 unfold gR at h
 by_cases h1:pr=3∧(dm T i).t=[33]
 ·rw [if_pos h1] at h
  obtain ⟨ha,hb⟩:=ih.un _ _ _ _ _ hl ab hi h
  refine ⟨ha,?_⟩
  obtain ⟨rfl,h1⟩:=h1
  refine Spec.ofNI Tryz.func226 rfl Tryz.ntmps226 rfl ?_
  refine am (ai (aB (6,0) aa rfl rfl) (aj (aq (am (bS rfl (ai (aT _ rfl rfl) (bc rfl rfl rfl (cd rfl rfl rfl (ai (bU (r:=false) _ _ rfl rfl rfl) (aj ?_))))))))))
  refine aW rfl rfl (aS (am (bS rfl (ai (bu aa _ _ ar (bQ T i N hi) tr rfl ae (by simp)) ?_))))
  refine oV rfl (aj (aq (am (aX rfl (kv rfl rfl rfl (cN rfl (ax rfl rfl (aI _ xB) (ax rfl rfl (aV (r:=true) _ _ Tryz.underlying9 rfl rfl (by rw [h1];rfl)) ?_))))))))
  refine ai (aE _ _ _ rfl bN) (aj (bL rfl rfl (aq ?_)))
  refine aL (σ':=aD 50 [(0,_),(1,_),(6,_),(7,_)] [((0,9),_),((6,0),_)] [(0,9)] [(0,9)]) kp ?_
  exact an (bS rfl (ei rfl (aX rfl (ai (bV (hb)) (bG rfl rfl rfl rfl rfl rfl (aj (aG (bH (.inr rfl) rfl (.cellA aa rfl rfl rfl) (Le.outI [] [] (.agg rfl lz) rfl rfl rfl trivial ob tr rfl)))))))))
 rw [if_neg h1] at h
 by_cases h2:pr=3
 ·rw [if_pos h2] at h
  obtain ⟨ha,hb⟩:=ih.bin _ _ _ _ hl ab hi h
  refine ⟨ha,?_⟩
  subst h2
  have h1:(dm T i).t≠[33]:=fun e=> h1 ⟨rfl,e⟩
  refine Spec.ofNI Tryz.func226 rfl Tryz.ntmps226 rfl ?_
  refine am (ai (aB (6,0) aa rfl rfl) (aj (aq (am (bS rfl (ai (aT _ rfl rfl) (bc rfl rfl rfl (cd rfl rfl rfl (ai (bU (r:=false) _ _ rfl rfl rfl) (aj ?_))))))))))
  refine aW rfl rfl (aS (am (bS rfl (ai (bu aa _ _ ar (bQ T i N hi) tr rfl ae (by simp)) ?_))))
  refine oV rfl (aj (aq (am (aX rfl (kv rfl rfl rfl (cN rfl (ax rfl rfl (aI _ xB) (ax rfl rfl (aV (r:=false) _ _ Tryz.underlying9 rfl rfl (beq_eq_false_iff_ne.2 h1)) ?_))))))))
  refine ai (aE _ _ _ rfl bN) (aj (aW rfl rfl (aS (aq (aq ?_)))))
  refine aL (σ':=aD 50 [(0,_),(1,_),(2,_),(6,_),(7,_)] [((0,9),_),((6,0),_)] [(0,9)] [(0,9)]) kp ?_
  refine an (aX rfl (kv rfl rfl rfl (aj (bL rfl rfl (am (bS rfl (aX rfl (ai (bV (hb)) (bG rfl rfl rfl rfl rfl rfl (aj ?_))))))))))
  exact aG (bH (.inr rfl) rfl (.cellA aa rfl rfl rfl) (Le.outI [] [] (.agg rfl lz) rfl rfl rfl trivial ob tr rfl))
 rw [if_neg h2] at h
 by_cases h3:pr=7∧(dm T i).t=[45]
 ·rw [if_pos h3] at h
  obtain ⟨ha,hb⟩:=ih.un _ _ _ _ _ hl ab hi h
  refine ⟨ha,?_⟩
  obtain ⟨rfl,h3⟩:=h3
  refine Spec.ofNI Tryz.func226 rfl Tryz.ntmps226 rfl ?_
  refine am (ai (aB (6,0) aa rfl rfl) (aj (aq (am (bS rfl (ai (aT _ rfl rfl) (bc rfl rfl rfl (cd rfl rfl rfl (ai (bU (r:=false) _ _ rfl rfl rfl) (aj ?_))))))))))
  refine aW rfl rfl (aS (am (bS rfl (ai (bu aa _ _ ar (bQ T i N hi) tr rfl ae (by simp)) ?_))))
  refine oV rfl (aj (aq (am (aX rfl (gQ rfl rfl rfl (cN rfl (aM rfl rfl ah ?_)))))))
  refine aM rfl rfl ah ?_
  refine ai (aE _ _ _ rfl bN) (aj (aW rfl rfl (aS (aq (aq ?_)))))
  refine aL (σ':=aD 50 [(0,_),(1,_),(2,_),(6,_),(7,_)] [((0,9),_),((6,0),_)] [(0,9)] [(0,9)]) kp ?_
  refine an (aX rfl (gQ rfl rfl rfl (aj (aW rfl rfl (aS (aq (am (aX rfl (kv rfl rfl rfl (cN rfl ?_))))))))))
  refine ax rfl rfl (aI _ xB) (ax rfl rfl (aV (r:=true) _ _ Tryz.underlying9 rfl rfl (by rw [h3];rfl)) ?_)
  refine ai (aE _ _ _ rfl bN) (aj (bL rfl rfl (am (bS rfl (ei rfl (aX rfl (ai (bV (hb)) (bG rfl rfl rfl rfl rfl rfl (aj (aG ?_))))))))))
  exact bH (.inr rfl) rfl (.cellA aa rfl rfl rfl) (Le.outI [] [] (.agg rfl lz) rfl rfl rfl trivial ob tr rfl)
 rw [if_neg h3] at h
 by_cases h4:pr=7
 ·rw [if_pos h4] at h
  obtain ⟨ha,hb⟩:=ih.prim _ _ _ hl hi h
  refine ⟨ha,?_⟩
  subst h4
  have h3:(dm T i).t≠[45]:=fun e=> h3 ⟨rfl,e⟩
  refine Spec.ofNI Tryz.func226 rfl Tryz.ntmps226 rfl ?_
  refine am (ai (aB (6,0) aa rfl rfl) (aj (aq (am (bS rfl (ai (aT _ rfl rfl) (bc rfl rfl rfl (cd rfl rfl rfl (ai (bU (r:=false) _ _ rfl rfl rfl) (aj ?_))))))))))
  refine aW rfl rfl (aS (am (bS rfl (ai (bu aa _ _ ar (bQ T i N hi) tr rfl ae (by simp)) ?_))))
  refine oV rfl (aj (aq (am (aX rfl (gQ rfl rfl rfl (cN rfl (aM rfl rfl ah ?_)))))))
  refine aM rfl rfl ah ?_
  refine ai (aE _ _ _ rfl bN) (aj (aW rfl rfl (aS (aq (aq ?_)))))
  refine aL (σ':=aD 50 [(0,_),(1,_),(2,_),(6,_),(7,_)] [((0,9),_),((6,0),_)] [(0,9)] [(0,9)]) kp ?_
  refine an (aX rfl (gQ rfl rfl rfl (aj (aW rfl rfl (aS (aq (am (aX rfl (kv rfl rfl rfl (cN rfl ?_))))))))))
  refine ax rfl rfl (aI _ xB) (ax rfl rfl (aV (r:=false) _ _ Tryz.underlying9 rfl rfl (beq_eq_false_iff_ne.2 h3)) ?_)
  refine ai (aE _ _ _ rfl bN) (aj (aW rfl rfl (aS (aq (am (aX rfl (kv rfl rfl rfl (aj (bL rfl rfl (aU fun K13 hK13=> ?_))))))))))
  refine an (bS rfl (aX rfl (ai (bV (hb)) (bG rfl rfl rfl rfl rfl rfl (aJ (hK13 _ ?_))))))
  clear hK13;try clear K13
  exact aG (bH (.inr rfl) rfl (.cellA aa rfl rfl rfl) (Le.outI [] [] (.agg rfl lz) rfl rfl rfl trivial ob tr rfl))
 rw [if_neg h4] at h
 obtain ⟨ha,hb⟩:=ih.bin _ _ _ _ hl ab hi h
 refine ⟨ha,?_⟩
 refine Spec.ofNI Tryz.func226 rfl Tryz.ntmps226 rfl ?_
 refine am (ai (aB (6,0) aa rfl rfl) (aj (aq (am (bS rfl (ai (aT _ rfl rfl) (bc rfl rfl rfl (cd rfl rfl rfl (ai (bU (r:=false) _ _ rfl rfl rfl) (aj ?_))))))))))
 refine aW rfl rfl (aS (am (bS rfl (ai (bu aa _ _ ar (bQ T i N hi) tr rfl ae (by simp)) ?_))))
 refine oV rfl (aj (aq (am (aX rfl (gQ rfl rfl (beq_eq_false_iff_ne.2 ab) ?_)))))
 refine cN rfl (aM rfl rfl ah ?_)
 refine aM rfl rfl ah ?_
 refine ai (aE _ _ _ rfl bN) (aj (aW rfl rfl (aS (aq (aq ?_)))))
 refine aL (σ':=aD 50 [(0,_),(1,_),(2,_),(6,_),(7,_)] [((0,9),_),((6,0),_)] [(0,9)] [(0,9)]) kp ?_
 refine an (aX rfl (gQ rfl rfl (beq_eq_false_iff_ne.2 ab) ?_))
 refine aj (aW rfl rfl (aS (aq (am (aX rfl (gQ rfl rfl (beq_eq_false_iff_ne.2 ab) ?_))))))
 refine cN rfl (aM rfl rfl ah ?_)
 refine aM rfl rfl ah ?_
 refine ai (aE _ _ _ rfl bN) (aj (aW rfl rfl (aS (aq (am (aX rfl (gQ rfl rfl (beq_eq_false_iff_ne.2 ab) ?_)))))))
 refine aj (aW rfl rfl (aS (aU fun K13 hK13=> ?_)))
 refine an (bS rfl (aX rfl (aX rfl (ai (bV (hb)) (bG rfl rfl rfl rfl rfl rfl (aJ (hK13 _ ?_)))))))
 clear hK13;try clear K13
 exact aG (bH (.inr rfl) rfl (.cellA aa rfl rfl rfl) (Le.outI [] [] (.agg rfl lz) rfl rfl rfl trivial ob tr rfl))
theorem Gu (hT:T.length≤100000) (f:Nat) (ih:PE T N f) (s:Tx) (lv pr i:Nat) (r:Nd×Nat) (hl:lv≤20) (hp:1≤pr∧pr≤7) (hi:i < T.length) (h:Ja T (f+1) s lv pr i=some r):
  r.2 < T.length∧Spec Tryz.prog 235 (aY [.ptr (0,9) 0, .v (bt s), .v (.int .i64 (lv:Int)), .v (.int .i64 (pr:Int))] (dZ T i N)) (PO T N r):=by
 unfold Ja at h
 simp only [Option.bind_eq_bind,Option.bind_eq_some_iff,Option.pure_def,Option.some.injEq] at h
 obtain ⟨j,hj,⟨d,j2⟩,hd,rfl⟩:=h
 have ho:=kY hj
 have hjl:=jK ho.2 hi
 obtain ⟨ha,hb⟩:=ih.expr _ _ _ _ ho.1 hp hjl hd
 have hopen:=oH T i j N s (lv+1) hi hT hj
 refine ⟨ha,?_⟩
 refine Spec.ofNI Tryz.func235 rfl Tryz.ntmps235 rfl ?_
 refine am (ai (aB (8,0) aa rfl rfl) (aj (am (bS rfl (ei rfl (aX rfl (ai (aZ _ _ rfl rfl (bE ab)) ?_)))))))
 refine ai (bV (hopen)) (aj (aU fun K3 hK3=> ?_))
 refine an (bS rfl (aX rfl (ai (aZ _ _ rfl rfl (bE ab)) ?_)))
 refine aX rfl (ai (bV (hb)) (ai (aB (9,0) aa rfl rfl) (bG rfl rfl rfl rfl rfl rfl (aJ (hK3 _ ?_)))))
 clear hK3;try clear K3
 refine am (ei rfl (ai (az _ aa rfl rfl rfl rfl) (ai (bg _ _ aa rfl ag (by (simp <;> rfl)) ah rfl) ?_)))
 refine ai (aN _ aa rfl (by exact kI)) ?_
 exact bG rfl rfl rfl rfl rfl rfl (aj (aG (bH (.inr rfl) rfl (.cellA aa rfl rfl rfl) (Le.outI [] [] (.agg rfl lz) rfl rfl rfl trivial ob tr rfl))))
theorem yy (hT:T.length≤100000) (f:Nat) (ih:PE T N f) (lv i:Nat) (r:Nd×Nat) (hl:lv≤20) (hi:i < T.length) (h:rT T (f+1) lv i=some r):
  r.2 < T.length∧Spec Tryz.prog 240 (aY [.ptr (0,9) 0, .v (.int .i64 (lv:Int))] (dZ T i N)) (PO T N r):=by
 unfold rT at h
 simp only [Option.bind_eq_bind,Option.bind_eq_some_iff,Option.pure_def,Option.some.injEq] at h
 obtain ⟨j,hj,⟨d,j2⟩,hd,j3,hj3,rfl⟩:=h
 have ho:=kY hj
 have hjl:=jK ho.2 hi
 obtain ⟨ha,hb⟩:=ih.expr _ _ _ _ ho.1 ab hjl hd
 have hopen:=oH T i j N [40] (lv+1) hi hT hj
 have hexp:=fT T j2 j3 N [41] ha hT hj3
 refine ⟨jK hj3 ha,?_⟩
 refine Spec.ofNI Tryz.func240 rfl Tryz.ntmps240 rfl ?_
 refine am (ai (aB (4,0) aa rfl rfl) (aj (am (bS rfl (aX rfl (ai (aZ _ _ rfl rfl (bE ab)) ?_))))))
 refine ai (bV (hopen)) (aj (aU fun K3 hK3=> ?_))
 refine an (bS rfl (aX rfl (ai (aZ _ _ rfl rfl (bE ab)) ?_)))
 refine ai (bV (hb)) (ai (aB (5,0) aa rfl rfl) (bG rfl rfl rfl rfl rfl rfl (aJ (hK3 _ ?_))))
 clear hK3;try clear K3
 refine aU fun K4 hK4=> ?_
 refine an (bS rfl (ai (bV (hexp)) (aJ (hK4 _ ?_))))
 clear hK4;try clear K4
 exact am (ai (az _ aa rfl rfl rfl rfl) (bG rfl rfl rfl rfl rfl rfl (aj (aG (bH (.inr rfl) rfl (.cellA aa rfl rfl rfl) (Le.outI [] [] (.agg rfl lz) rfl rfl rfl trivial ob tr rfl))))))
theorem yd (hT:T.length≤100000) (f:Nat) (ih:PE T N f) (lv i:Nat) (r:Nd×Nat) (hl:lv≤20) (hi:i < T.length) (h:uJ T (f+1) lv i=some r):
  r.2 < T.length∧Spec Tryz.prog 237 (aY [.ptr (0,9) 0, .v (.int .i64 (lv:Int))] (dZ T i N)) (PO T N r):=by
 have htl:=ek hi
 have htake:=cC T i N hi hT
 unfold uJ at h
 simp only at h
 by_cases h1:(dm T i).t=[40]
 ·rw [if_pos h1] at h
  obtain ⟨ha,hb⟩:=ih.nest _ _ _ hl hi h
  refine ⟨ha,?_⟩
  refine Spec.ofNI Tryz.func237 rfl Tryz.ntmps237 rfl ?_
  refine am (ai (aB (4,0) aa rfl rfl) (aj (aq (bJ 11 [8,9,10,11,12,13,14,15,16,17,5] [(5,0)] ae ae rfl (aK rfl) (rfl:_=[_,_,_,_,_,_,_,_,_,_,_]) (rfl:_=[_]) ?_))))
  refine ap (_,[]) (fun τ=> aI _ ca) ?_
  refine fD rfl ?_
  refine ap (_,[]) (fun τ=> aT _ rfl rfl) ?_
  refine fF rfl ?_
  refine ap (_,[]) (fun τ=> aA _ aa rfl rfl rfl) ?_
  refine fE rfl ?_
  refine ap (_,[]) (fun τ=> aF _ aa rfl rfl ef) ?_
  refine fS rfl ?_
  refine ap (_,[]) (fun τ=> aI _ ca) ?_
  refine gf rfl ?_
  refine ap (_,[]) (fun τ=> aT _ rfl rfl) ?_
  refine gS rfl ?_
  refine ap (_,[]) (fun τ=> aA _ aa rfl rfl rfl) ?_
  refine ir rfl ?_
  refine ap (_,[]) (fun τ=> aF _ aa rfl rfl ee) ?_
  refine jE rfl ?_
  refine ap (_,[]) (fun τ=> bp _ _ aa rfl rfl _ rfl ab (by (simp only [aO,bi,bl,bw,bv];omega)) ag) ?_
  refine jU rfl ?_
  refine ap (_,[]) (fun τ=> cf _ aa rfl (by exact nM _ _ hi) rfl) ?_
  refine fy rfl ?_
  refine ap (_,[((5,0),_)]) (fun τ=> aB (5,0) aa rfl rfl) ?_
  refine gd rfl (bj ⟨rfl,?_⟩)
  refine bG rfl rfl rfl rfl rfl rfl (aj (aq (am (bc rfl rfl rfl (ai (aF _ aa rfl rfl fB) (ai (aV (r:=true) _ _ Tryz.underlying9 rfl rfl (by rw [h1];rfl)) ?_))))))
  refine aj (bL rfl rfl (aq ?_))
  refine aL (σ':=aD 72 [(0,_),(1,_),(4,_)] [((0,9),_),((4,0),_)] [(0,9)] [(0,9)]) kp ?_
  exact an (bS rfl (aX rfl (ai (bV (hb)) (bG rfl rfl rfl rfl rfl rfl (aj (aG (bH (.inr rfl) rfl (.cellA aa rfl rfl rfl) (Le.outI [] [] (.agg rfl lz) rfl rfl rfl trivial ob tr rfl))))))))
 rw [if_neg h1] at h
 by_cases h2:(dm T i).t=De
 ·rw [if_pos h2] at h
  simp only [Option.bind_eq_bind,Option.bind_eq_some_iff,Option.pure_def,Option.some.injEq] at h
  obtain ⟨⟨d,j⟩,hd,rfl⟩:=h
  obtain ⟨ha,hb⟩:=ih.nest _ _ _ hl htl hd
  refine ⟨ha,?_⟩
  refine Spec.ofNI Tryz.func237 rfl Tryz.ntmps237 rfl ?_
  refine am (ai (aB (4,0) aa rfl rfl) (aj (aq (bJ 11 [8,9,10,11,12,13,14,15,16,17,5] [(5,0)] ae ae rfl (aK rfl) (rfl:_=[_,_,_,_,_,_,_,_,_,_,_]) (rfl:_=[_]) ?_))))
  refine ap (_,[]) (fun τ=> aI _ ca) ?_
  refine fD rfl ?_
  refine ap (_,[]) (fun τ=> aT _ rfl rfl) ?_
  refine fF rfl ?_
  refine ap (_,[]) (fun τ=> aA _ aa rfl rfl rfl) ?_
  refine fE rfl ?_
  refine ap (_,[]) (fun τ=> aF _ aa rfl rfl ef) ?_
  refine fS rfl ?_
  refine ap (_,[]) (fun τ=> aI _ ca) ?_
  refine gf rfl ?_
  refine ap (_,[]) (fun τ=> aT _ rfl rfl) ?_
  refine gS rfl ?_
  refine ap (_,[]) (fun τ=> aA _ aa rfl rfl rfl) ?_
  refine ir rfl ?_
  refine ap (_,[]) (fun τ=> aF _ aa rfl rfl ee) ?_
  refine jE rfl ?_
  refine ap (_,[]) (fun τ=> bp _ _ aa rfl rfl _ rfl ab (by (simp only [aO,bi,bl,bw,bv];omega)) ag) ?_
  refine jU rfl ?_
  refine ap (_,[]) (fun τ=> cf _ aa rfl (by exact nM _ _ hi) rfl) ?_
  refine fy rfl ?_
  refine ap (_,[((5,0),_)]) (fun τ=> aB (5,0) aa rfl rfl) ?_
  refine gd rfl (bj ⟨rfl,?_⟩)
  refine bG rfl rfl rfl rfl rfl rfl (aj (aq (am (bc rfl rfl rfl (ai (aF _ aa rfl rfl fB) (ai (aV (r:=false) _ _ Tryz.underlying9 rfl rfl (beq_eq_false_iff_ne.2 h1)) ?_))))))
  refine aj (aW rfl rfl (aS (aq (aq ?_))))
  refine aL (σ':=aD 72 [(0,_),(1,_),(4,_),(5,_)] [((0,9),_),((4,0),_),((5,0),_)] [(0,9)] [(0,9)]) kp ?_
  refine an (bc rfl rfl rfl (ai (aF _ aa rfl rfl fB) (ai (aV (r:=true) _ _ Tryz.underlying9 rfl rfl (by rw [h2];rfl)) ?_)))
  refine aj (bL rfl rfl (am (bS rfl (ai (bV (htake)) (aj (aU fun K8 hK8=> ?_))))))
  refine an (bS rfl (aX rfl (ai (bV (hb)) (ai (aB (6,0) aa rfl rfl) (bG rfl rfl rfl rfl rfl rfl (aJ (hK8 _ ?_)))))))
  clear hK8;try clear K8
  refine am (ai (az _ aa rfl rfl rfl rfl) (ai (bg _ _ aa rfl ag (by (simp <;> rfl)) ah rfl) ?_))
  refine ai (aN _ aa rfl (by exact kI)) ?_
  exact bG rfl rfl rfl rfl rfl rfl (aj (aG (bH (.inr rfl) rfl (.cellA aa rfl rfl rfl) (Le.outI [] [] (.agg rfl lz) rfl rfl rfl trivial ob tr rfl))))
 rw [if_neg h2] at h
 have hr:r.2=bK T i:=by
  repeat' split at h
  all_goals first | (rw [← Option.some.inj h];done) | cases h
 refine ⟨by rw [hr];exact htl,?_⟩
 refine Spec.ofNI Tryz.func237 rfl Tryz.ntmps237 rfl ?_
 refine am (ai (aB (4,0) aa rfl rfl) (aj (aq (bJ 11 [8,9,10,11,12,13,14,15,16,17,5] [(5,0)] ae ae rfl (aK rfl) (rfl:_=[_,_,_,_,_,_,_,_,_,_,_]) (rfl:_=[_]) ?_))))
 refine ap (_,[]) (fun τ=> aI _ ca) ?_
 refine fD rfl ?_
 refine ap (_,[]) (fun τ=> aT _ rfl rfl) ?_
 refine fF rfl ?_
 refine ap (_,[]) (fun τ=> aA _ aa rfl rfl rfl) ?_
 refine fE rfl ?_
 refine ap (_,[]) (fun τ=> aF _ aa rfl rfl ef) ?_
 refine fS rfl ?_
 refine ap (_,[]) (fun τ=> aI _ ca) ?_
 refine gf rfl ?_
 refine ap (_,[]) (fun τ=> aT _ rfl rfl) ?_
 refine gS rfl ?_
 refine ap (_,[]) (fun τ=> aA _ aa rfl rfl rfl) ?_
 refine ir rfl ?_
 refine ap (_,[]) (fun τ=> aF _ aa rfl rfl ee) ?_
 refine jE rfl ?_
 refine ap (_,[]) (fun τ=> bp _ _ aa rfl rfl _ rfl ab (by (simp only [aO,bi,bl,bw,bv];omega)) ag) ?_
 refine jU rfl ?_
 refine ap (_,[]) (fun τ=> cf _ aa rfl (by exact nM _ _ hi) rfl) ?_
 refine fy rfl ?_
 refine ap (_,[((5,0),_)]) (fun τ=> aB (5,0) aa rfl rfl) ?_
 refine gd rfl (bj ⟨rfl,?_⟩)
 refine bG rfl rfl rfl rfl rfl rfl (aj (aq (am (bc rfl rfl rfl (ai (aF _ aa rfl rfl fB) (ai (aV (r:=false) _ _ Tryz.underlying9 rfl rfl (beq_eq_false_iff_ne.2 h1)) ?_))))))
 refine aj (aW rfl rfl (aS (aq (aq ?_))))
 refine aL (σ':=aD 72 [(0,_),(1,_),(4,_),(5,_)] [((0,9),_),((4,0),_),((5,0),_)] [(0,9)] [(0,9)]) kp ?_
 refine an (bc rfl rfl rfl (ai (aF _ aa rfl rfl fB) (ai (aV (r:=false) _ _ Tryz.underlying9 rfl rfl (beq_eq_false_iff_ne.2 h2)) ?_)))
 refine aj (aW rfl rfl (aS (am (ai (aN _ aa rfl (by exact kI)) ?_))))
 refine ai (aB (7,0) aa rfl rfl) (bG rfl rfl rfl rfl rfl rfl (aj (aU fun K8 hK8=> ?_)))
 refine am (bc rfl rfl rfl (cd rfl rfl rfl (ai (bC _ _ rfl rfl rfl) (aj (aR rfl (fun hc38=> ?_) (fun hc38=> ?_))))))
 ·skip
  rw [if_pos ab] at h
  obtain rfl:=Option.some.inj h
  refine an (bc rfl rfl rfl (cd rfl rfl rfl (ai (aN _ aa rfl (by exact kI)) ?_)))
  refine bG rfl rfl rfl rfl rfl rfl (aJ (hK8 _ ?_))
  clear hK8;try clear K8
  refine am (bS rfl (ai (bV (htake)) (aj (aq ?_))))
  refine aL (σ':=aD 72 [(4,_),(7,_)] [((4,0),_),((7,0),_),((0,9),_)] [(0,9)] [(0,9)]) kp ?_
  exact an (ai (az _ aa rfl rfl rfl rfl) (bG rfl rfl rfl rfl rfl rfl (aj (aG (bH (.inr rfl) rfl (.cellA aa rfl rfl rfl) (Le.outI [] [] (.agg rfl lz) rfl rfl rfl trivial ob tr rfl))))))
 rw [if_neg ab] at h
 refine am (bc rfl rfl rfl (ai (aF _ aa rfl rfl fB) (ai (aV _ _ Tryz.underlying9 rfl rfl rfl) (aj (aR rfl (fun hc44=> ?_) (fun hc44=> ?_))))))
 ·skip
  rw [if_pos (show (dm T i).t=vP from hc44)] at h
  obtain rfl:=Option.some.inj h
  refine an (ai (aN _ aa rfl (by exact kI)) ?_)
  refine bG rfl rfl rfl rfl rfl rfl (aJ (hK8 _ ?_))
  clear hK8;try clear K8
  refine am (bS rfl (ai (bV (htake)) (aj (aq ?_))))
  refine aL (σ':=aD 72 [(4,_),(7,_)] [((4,0),_),((7,0),_),((0,9),_)] [(0,9)] [(0,9)]) kp ?_
  exact an (ai (az _ aa rfl rfl rfl rfl) (bG rfl rfl rfl rfl rfl rfl (aj (aG (bH (.inr rfl) rfl (.cellA aa rfl rfl rfl) (Le.outI [] [] (.agg rfl lz) rfl rfl rfl trivial ob tr rfl))))))
 rw [if_neg (show ¬ (dm T i).t=vP from hc44)] at h
 refine am (bc rfl rfl rfl (ai (aF _ aa rfl rfl fB) (ai (aV _ _ Tryz.underlying9 rfl rfl rfl) (aj (aR rfl (fun hc48=> ?_) (fun hc48=> ?_))))))
 ·skip
  rw [if_pos (show (dm T i).t=sC from hc48)] at h
  obtain rfl:=Option.some.inj h
  refine aL (σ':=aD 72 [(0,_),(4,_),(7,_)] [((0,9),_),((4,0),_),((7,0),_)] [(0,9)] [(0,9)]) kp ?_
  refine an (ai (aN _ aa rfl (by exact kI)) ?_)
  refine bG rfl rfl rfl rfl rfl rfl (aJ (hK8 _ ?_))
  clear hK8;try clear K8
  exact am (bS rfl (ai (bV (htake)) (aj (am (ai (az _ aa rfl rfl rfl rfl) (bG rfl rfl rfl rfl rfl rfl (aj (aG (bH (.inr rfl) rfl (.cellA aa rfl rfl rfl) (Le.outI [] [] (.agg rfl lz) rfl rfl rfl trivial ob tr rfl))))))))))
 rw [if_neg (show ¬ (dm T i).t=sC from hc48)] at h
 refine aq ?_
 refine aL (σ':=aD 72 [(0,_),(4,_),(5,_),(7,_)] [((0,9),_),((4,0),_),((5,0),_),((7,0),_)] [(0,9)] [(0,9)]) kp ?_
 refine bJ 4 [50,51,52,53] [] ae ae rfl (aK rfl) (rfl:_=[_,_,_,_]) (rfl:_=[]) ?_
 refine ap (_,[]) (fun τ=> (aH aa (by repeat' (exact cW)) (mt) rfl rfl)) ?_
 refine fD rfl ?_
 refine ap (_,[]) (fun τ=> aA _ aa rfl rfl rfl) ?_
 refine fF rfl ?_
 refine ap (_,[]) (fun τ=> aF _ aa rfl rfl fB) ?_
 refine fE rfl ?_
 refine ap (_,[]) (fun τ=> (aH aa al (cI bltT 9 rfl ab (dm T i).t) rfl rfl)) ?_
 refine fS rfl (bj ⟨rfl,?_⟩)
 refine aj (aR rfl (fun hc53=> ?_) (fun hc53=> ?_))
 ·skip
  rw [if_pos hc53] at h
  obtain rfl:=Option.some.inj h
  refine an (bc rfl rfl rfl (ai (aF _ aa rfl rfl fB) (ai (aN _ aa rfl (by exact kI)) ?_)))
  refine bG rfl rfl rfl rfl rfl rfl (aJ (hK8 _ ?_))
  clear hK8;try clear K8
  exact am (bS rfl (ai (bV (htake)) (aj (am (ai (az _ aa rfl rfl rfl rfl) (bG rfl rfl rfl rfl rfl rfl (aj (aG (bH (.inr rfl) rfl (.cellA aa rfl rfl rfl) (Le.outI [] [] (.agg rfl lz) rfl rfl rfl trivial ob tr rfl))))))))))
 rw [if_neg hc53] at h
 refine am (bS rfl (ai (bu aa _ _ ar (dW T i N hi) tr rfl ae (by simp)) ?_))
 refine aj (aR rfl (fun hc58=> ?_) (fun hc58=> ?_))
 ·skip
  rw [if_pos hc58] at h
  obtain rfl:=Option.some.inj h
  refine an (bc rfl rfl rfl (ai (aF _ aa rfl rfl fB) (ai (aN _ aa rfl (by exact kI)) ?_)))
  refine bG rfl rfl rfl rfl rfl rfl (aJ (hK8 _ ?_))
  clear hK8;try clear K8
  exact am (bS rfl (ai (bV (htake)) (aj (am (ai (az _ aa rfl rfl rfl rfl) (bG rfl rfl rfl rfl rfl rfl (aj (aG (bH (.inr rfl) rfl (.cellA aa rfl rfl rfl) (Le.outI [] [] (.agg rfl lz) rfl rfl rfl trivial ob tr rfl))))))))))
 exact absurd h (by rw [if_neg (by simp [hc58])];exact fun e=> by cases e)
theorem Ep (pr:Nat) (h:1≤pr∧pr≤6∧pr≠3):([PV.v (.slice none 0 0), .sl 1 (fm [[124,124]]), .sl 1 (fm [[38,38]]), .v (.slice none 0 0), .sl 6 (fm [[60],[60,61],[62],[62,61],[61,61],[33,61]]), .sl 2 (fm [[43],[45]]), .sl 2 (fm [[42],[47]])]:List PV)[pr]? =some (.sl (opsP.getD pr []).length (fm (opsP.getD pr []))):=by
 have:pr=1∨pr=2∨pr=4∨pr=5∨pr=6:=by omega
 rcases this with rfl | rfl | rfl | rfl | rfl <;> rfl
theorem Fk (pr:Nat):(opsP.getD pr []).length≤6:=by
 unfold opsP
 match pr with
 | 0=> decide | 1=> decide | 2=> decide | 3=> decide | 4=> decide | 5=> decide | 6=> decide
 | n+7=> simp
theorem qx {f lv pr:Nat} {d:Nd} {i:Nat} {r:Nd×Nat} (h:nc T f lv pr d i=some r): ∃ g,f=g+1∧((dm T i).t∉opsP.getD pr []∧r=(d,i)∨(dm T i).t∈opsP.getD pr []∧ ∃ e j,gR T g lv (pr+1) (bK T i)=some (e,j)∧
  (pr=4∧r=(nd 18 0 (dm T i).t [d,e],j)∨pr≠4∧nc T g lv pr (nd 18 0 (dm T i).t [d,e]) j=some r)):=by
 cases f with
 | zero=> simp [nc] at h
 | succ g=>
  refine ⟨g,rfl,?_⟩
  unfold nc at h
  split at h
  ·rename_i hm
   simp only [Option.bind_eq_bind,Option.bind_eq_some_iff,Option.pure_def] at h
   obtain ⟨⟨e,j⟩,he,h⟩:=h
   refine .inr ⟨hm,e,j,he,?_⟩
   split at h
   ·rename_i h4;exact .inl ⟨h4,(Option.some.inj h).symm⟩
   rename_i h4;exact .inr ⟨h4,h⟩
  rename_i hm;exact .inl ⟨hm,(Option.some.inj h).symm⟩
theorem AP (hT:T.length≤100000) (f:Nat) (ih: ∀ g,g≤f→PE T N g) (lv pr i:Nat) (r:Nd×Nat) (hl:lv≤20) (hp:1≤pr∧pr≤6∧pr≠3) (hi:i < T.length) (h:yZ T (f+1) lv pr i=some r):
  r.2 < T.length∧Spec Tryz.prog 236 (aY [.ptr (0,9) 0, .v (.int .i64 (lv:Int)), .v (.int .i64 (pr:Int))] (dZ T i N)) (PO T N r):=by
 unfold yZ at h
 simp only [Option.bind_eq_bind,Option.bind_eq_some_iff] at h
 obtain ⟨⟨d,j⟩,hd,h⟩:=h
 simp only at h
 obtain ⟨ha,hb⟩:=(ih f (Nat.le_refl _)).expr _ _ _ _ hl ab hi hd
 have hend: ∀ (g:Nat) (d:Nd) (i:Nat),g≤f→i < T.length→nc T g lv pr d i=some r→r.2 < T.length:=by
  intro g
  induction g with
  | zero=> intro d i _ _ h;simp [nc] at h
  | succ g ihg=>
   intro d i hg hi h
   obtain ⟨g',hg',h | ⟨_,e,j,he,h⟩⟩:=qx h
   ·rw [h.2];exact hi
   obtain rfl:g=g':=by omega
   have hj:=((ih g ab).expr _ _ _ _ hl ab (ek hi) he).1
   rcases h with h | h
   ·rw [h.2];exact hj
   exact ihg _ _ ab hj h.2
 refine ⟨hend f d j (Nat.le_refl _) ha h,?_⟩
 have hol:=Fk pr
 refine Spec.ofNI Tryz.func236 rfl Tryz.ntmps236 rfl ?_
 refine am (ai (aB (6,0) aa rfl rfl) (aj (am (ai (bg _ _ aa rfl ag (by (simp <;> rfl)) ah rfl) ?_))))
 refine ai (bg _ _ aa rfl ag (by (simp <;> rfl)) ah rfl) ?_
 refine ai (bg _ _ aa rfl ag (by (simp <;> rfl)) ah rfl) ?_
 refine ai (bg _ _ aa rfl ag (by (simp <;> rfl)) ah rfl) ?_
 refine ai (bg _ _ aa rfl ag (by (simp <;> rfl)) ah rfl) ?_
 refine ai (bg _ _ aa rfl ag (by (simp <;> rfl)) ah rfl) ?_
 refine kD rfl (aj (am (bS rfl (aX rfl (aX rfl (ai (aZ _ _ rfl rfl (bE ab)) ?_))))))
 refine ai (bV (hb)) (ai (aB (8,0) aa rfl rfl) (bG rfl rfl rfl rfl rfl rfl (aj (aU fun K4 hK4=> ?_))))
 refine ay ?_
 refine br (α:=Nat×Nd×Nat) (fun z=> z.1≤f∧z.2.2 < T.length∧nc T z.1 lv pr z.2.1 z.2.2=some r) 53 [(0,_),(1,_),(2,_),(6,_),(7,_),(8,_)] [((6,0),_)] (fun z=> []) (fun z=> [((0,9), .box 222 [.sl T.length (sP T), .v (.int .i64 (z.2.2:Int)), .v (.int .i64 0), .v (.int .i64 0), .sl N.length (fm N)]),((8,0), .box 71 [.v (.int .i64 (z.2.1.k:Int)), .v (.int .i64 (z.2.1.n:Int)), .v (bt z.2.1.s), .sl z.2.1.kn z.2.1.kids])]) [(0,9)] [(0,9)] (fun z=> z.1) (f,d,j) ?_ (by
  refine Le.mkJ [] [] rfl ?_ ?_ trivial tr ?_
  ·exact ⟨(iP rfl),(iV rfl),(iV rfl),(iP rfl),(iS rfl),(iP rfl),trivial⟩
  ·exact ⟨(bM rfl rfl rfl),(fq rfl rfl rfl rfl lz),(fq rfl rfl rfl rfl (nU (nU (au (by repeat' (exact Lv.v)) lz)))),trivial⟩
  kernel_rfl) ?_
 ·exact ⟨Nat.le_refl _,ha,h⟩
 intro z hz
 obtain ⟨z1,z2,z3⟩:=z
 obtain ⟨hz1,hz2,hz3⟩:=hz
 obtain ⟨g,rfl,hm⟩:=qx hz3
 simp only at hz1 hz2 hm ⊢
 refine aU fun K5 hK5=> ?_
 refine aq (bJ 14 [22,23,24,25,26,27,28,29,30,31,32,33,34,35] [] ae ae rfl (aK rfl) (rfl:_=[_,_,_,_,_,_,_,_,_,_,_,_,_,_]) (rfl:_=[]) ?_)
 refine ap (_,[]) (fun τ=> aI _ ca) ?_
 refine fD rfl ?_
 refine ap (_,[]) (fun τ=> aT _ rfl rfl) ?_
 refine fF rfl ?_
 refine ap (_,[]) (fun τ=> aA _ aa rfl rfl rfl) ?_
 refine fE rfl ?_
 refine ap (_,[]) (fun τ=> aF _ aa rfl rfl ee) ?_
 refine fS rfl ?_
 refine ap (_,[]) (fun τ=> bC (r:=true) _ _ rfl rfl rfl) ?_
 refine gf rfl ?_
 refine ap (_,[]) (fun τ=> aI _ bN) ?_
 refine gS rfl ?_
 refine bo (_,[]) rfl (fun τ=> rfl) (fun τ=> aI _ nD) ?_
 refine ir rfl ?_
 refine bo (_,[]) rfl (fun τ=> rfl) (fun τ=> aI _ eh) ?_
 refine jE rfl ?_
 refine bo (_,[]) rfl (fun τ=> rfl) (fun τ=> bp _ _ aa rfl rfl _ rfl ab ah (by exact Nat.mul_one _)) ?_
 refine jU rfl ?_
 refine bo (_,[]) rfl (fun τ=> rfl) (fun τ=> bO _ aa rfl (by exact Ep pr hp) rfl) ?_
 refine fy rfl ?_
 refine bo (_,[]) rfl (fun τ=> rfl) (fun τ=> aI _ ca) ?_
 refine gd rfl ?_
 refine bo (_,[]) rfl (fun τ=> rfl) (fun τ=> (bu aa _ _ ar (bQ T z3 N hz2) tr rfl ae (by simp))) ?_
 refine jG rfl ?_
 refine bo (_,[]) rfl (fun τ=> rfl) (fun τ=> (aH aa al (cI (opsP.getD pr []) _ rfl ab (dm T z3).t) rfl rfl)) ?_
 refine kT rfl ?_
 refine ap (_,[]) (fun τ=> aE _ _ _ rfl bN) ?_
 refine mD rfl (bj ⟨rfl,?_⟩)
 refine aj (aR rfl (fun hc35=> ?_) (fun hc35=> ?_))
 ·skip
  obtain ⟨_,e,je,he,hm⟩:=hm.resolve_left fun x=> x.1 hc35
  obtain ⟨hea,heb⟩:=(ih g ab).expr _ _ _ _ hl ab (ek hz2) he
  refine bs (hK5 _ ?_)
  clear hK5;try clear K5
  refine ay (am (bS rfl (ai (bu aa _ _ ar (bQ T z3 N hz2) tr rfl ae (by simp)) ?_)))
  refine oV rfl (aj (aq ?_))
  refine aL (σ':=aD 53 [(0,_),(1,_),(2,_),(6,_),(7,_),(8,_),(9,_)] [((6,0),_),((0,9),_),((8,0),_)] [(0,9)] [(0,9)]) kp ?_
  refine an (bS rfl (ai (bV (cC T z3 N hz2 hT)) ?_))
  refine aj (aU fun K9 hK9=> ?_)
  refine an (bS rfl (aX rfl (aX rfl (ai (aZ _ _ rfl rfl (bE ab)) ?_))))
  refine ai (bV (heb)) (ai (aB (10,0) aa rfl rfl) (bG rfl rfl rfl rfl rfl rfl (aJ (hK9 _ ?_))))
  clear hK9;try clear K9
  refine am (ei rfl (ai (az _ aa rfl rfl rfl rfl) (ai (az _ aa rfl rfl rfl rfl) (ai (bg _ _ aa rfl ag (by (simp <;> rfl)) ah rfl) ?_))))
  refine ai (aN _ aa rfl (by exact kI)) ?_
  refine bG rfl rfl rfl rfl rfl rfl (aj (aq ?_))
  refine aL (σ':=aD 53 [(0,_),(1,_),(2,_),(6,_),(7,_),(8,_)] [((6,0),_),((0,9),_),((8,0),_)] [(0,9)] [(0,9)]) kp ?_
  refine an (aX rfl (ai (bC _ _ rfl rfl rfl) (aj (aR rfl (fun hc51=> ?_) (fun hc51=> ?_)))))
  ·skip
   have hr:=(hm.resolve_right fun x=> x.1 ab).2
   subst hr
   refine bB (id (hK4 _ ?_))
   clear hK4;try clear K4
   exact am (ai (az _ aa rfl rfl rfl rfl) (bG rfl rfl rfl rfl rfl rfl (aj (aG (bH (.inr rfl) rfl (.cellA aa rfl rfl rfl) (Le.outI [] [] (.agg rfl lz) rfl rfl rfl trivial ob tr rfl))))))
  have hm:=(hm.resolve_left fun x=> hc51 ab).2
  refine bs (⟨(g,nd 18 0 (dm T z3).t [z2,e],je),?_,?_,?_⟩)
  ·exact ⟨by simp only;omega,hea,hm⟩
  ·skip
   refine Le.mkJ [] [] rfl ?_ ?_ trivial tr ?_
   ·exact ⟨(iP rfl),(iV rfl),(iV rfl),(iP rfl),(iS rfl),(iP rfl),trivial⟩
   ·exact ⟨(bM rfl rfl rfl),(fq rfl rfl rfl rfl lz),(fq rfl rfl rfl rfl (nU (nU (au (by repeat' (exact Lv.v)) lz)))),trivial⟩
   kernel_rfl
  simp only;omega
 have hr:=(hm.resolve_right fun x=> hc35 x.1).2
 subst hr
 refine bB (id (hK4 _ ?_))
 clear hK4;try clear K4
 exact am (ai (az _ aa rfl rfl rfl rfl) (bG rfl rfl rfl rfl rfl rfl (aj (aG (bH (.inr rfl) rfl (.cellA aa rfl rfl rfl) (Le.outI [] [] (.agg rfl lz) rfl rfl rfl trivial ob tr rfl))))))
theorem Im (hT:T.length≤100000): ∀ f g,g≤f→PE T N g:=by
 intro f
 induction f with
 | zero=>
  intro g hg
  obtain rfl:g=0:=by omega
  exact ⟨fun _ _ _ _ _ _ _ h=> by simp [gR] at h,fun _ _ _ _ _ _ _ _ h=> by simp [Ja] at h,fun _ _ _ _ _ _ _ h=> by simp [yZ] at h,fun _ _ _ _ _ h=> by simp [rT] at h,fun _ _ _ _ _ h=> by simp [uJ] at h⟩
 | succ f ih=>
  intro g hg
  rcases Nat.lt_or_ge g (f+1) with h | h
  ·exact ih g ab
  obtain rfl:g=f+1:=by omega
  exact ⟨yX f (ih f (Nat.le_refl _)),Gu hT f (ih f (Nat.le_refl _)),AP hT f ih,yy hT f (ih f (Nat.le_refl _)),yd hT f (ih f (Nat.le_refl _))⟩
theorem xU (hT:T.length≤100000) {f lv i:Nat} {r:Nd×Nat} (hl:lv≤20) (hi:i < T.length) (h:gR T f lv 1 i=some r):r.2 < T.length∧Spec Tryz.prog 226 (aY [.ptr (0,9) 0, .v (.int .i64 (lv:Int)), .v (.int .i64 1)] (dZ T i N)) (PO T N r):=
 (Im hT f f (Nat.le_refl _)).expr lv 1 i r hl ab hi h
end

structure PS (T:List Tk) (N:List Tx) (f:Nat):Prop where
 stm: ∀ lv i r,lv≤20→i < T.length→yE T f lv i=some r→r.2 < T.length∧Spec Tryz.prog 202 (aY [.ptr (0,9) 0, .v (.int .i64 (lv:Int))] (dZ T i N)) (PO T N r)
 blk: ∀ lv i r,lv≤21→i < T.length→rf T f lv i=some r→r.2 < T.length∧Spec Tryz.prog 164 (aY [.ptr (0,9) 0, .v (.int .i64 (lv:Int))] (dZ T i N)) (PO T N r)
def DR:List Tx:=[vR,kX,qJ,ik,lR,qQ,ng,qY,qG]
theorem gg {T:List Tk} {i:Nat} (h:wb (dm T i).t=true):eD T i=false:=by unfold eD;rw [h];simp
section
variable {T:List Tk} {N:List Tx}
theorem xO (hT:T.length≤100000) (lv i:Nat) (hl:lv≤20) (hi:i < T.length) (hn:eD T i=true) {d:Nd} {j1 j2 j3:Nat} (h1:Spec Tryz.prog 162 (aY [.ptr (0,9) 0, .v (bt [61])] (dZ T (bK T i) N)) (bb (.tup []) (dZ T j1 N) [(0,9)] [(0,9)])) (h2:Spec Tryz.prog 226 (aY [.ptr (0,9) 0, .v (.int .i64 (lv:Int)), .v (.int .i64 1)] (dZ T j1 N)) (PO T N (d,j2))) (h3:Spec Tryz.prog 162 (aY [.ptr (0,9) 0, .v (bt [59])] (dZ T j2 N)) (bb (.tup []) (dZ T j3 N) [(0,9)] [(0,9)])):
  Spec Tryz.prog 202 (aY [.ptr (0,9) 0, .v (.int .i64 (lv:Int))] (dZ T i N)) (PO T N (nd 1 0 (dm T i).t [d],j3)):=by
 refine Spec.ofNI Tryz.func202 rfl Tryz.ntmps202 rfl ?_
 refine am (ai (aB (4,0) aa rfl rfl) (aj (am (bS rfl (ai (bu aa _ _ ar (bQ T i N hi) tr rfl ae (by simp)) ?_)))))
 refine oV rfl (aj (am (ai (aN _ aa rfl (by exact kI)) ?_)))
 refine ai (aB (6,0) aa rfl rfl) (bG rfl rfl rfl rfl rfl rfl (aj (aq (am (bS rfl (ai (bu aa _ _ ar (dW T i N hi) tr rfl ae (by simp)) ?_))))))
 refine aj (bL rfl hn (am (bS rfl (ai (bV (cC T i N hi hT)) ?_))))
 refine aj (aU fun K7 hK7=> ?_)
 refine an (bS rfl (ai (bV (h1)) (aJ (hK7 _ ?_))))
 clear hK7;try clear K7
 refine aU fun K8 hK8=> ?_
 refine an (ei rfl (bS rfl (aX rfl (ai (bV (h2)) (ai (bg _ _ aa rfl ag (by (simp <;> rfl)) ah rfl) ?_)))))
 refine ai (aN _ aa rfl (by exact kI)) ?_
 refine bG rfl rfl rfl rfl rfl rfl (aJ (hK8 _ ?_))
 clear hK8;try clear K8
 refine aU fun K9 hK9=> ?_
 refine aL (σ':=aD 145 [(0,_),(4,_),(6,_)] [((0,9),_),((4,0),_),((6,0),_)] [(0,9)] [(0,9)]) kp ?_
 refine an (bS rfl (ai (bV (h3)) (aJ (hK9 _ ?_))))
 clear hK9;try clear K9
 exact am (ai (az _ aa rfl rfl rfl rfl) (bG rfl rfl rfl rfl rfl rfl (aj (aG (bH (.inr rfl) rfl (.cellA aa rfl rfl rfl) (Le.outI [] [] (.agg rfl lz) rfl rfl rfl trivial ob tr rfl))))))
theorem CG (hT:T.length≤100000) (lv i:Nat) (hl:lv≤20) (hi:i < T.length) (ht:(dm T i).t=kX) {c x:Nd} {j1 j2:Nat} (h1:Spec Tryz.prog 226 (aY [.ptr (0,9) 0, .v (.int .i64 (lv:Int)), .v (.int .i64 1)] (dZ T (bK T i) N)) (PO T N (c,j1))) (h2:Spec Tryz.prog 164 (aY [.ptr (0,9) 0, .v (.int .i64 ((lv+1:Nat):Int))] (dZ T j1 N)) (PO T N (x,j2))):
  Spec Tryz.prog 202 (aY [.ptr (0,9) 0, .v (.int .i64 (lv:Int))] (dZ T i N)) (PO T N (nd 3 0 [] [c,x],j2)):=by
 have hnx:=bQ T i N hi
 have hn:eD T i=false:=gg (by rw [ht];rfl)
 rw [ht] at hnx
 refine Spec.ofNI Tryz.func202 rfl Tryz.ntmps202 rfl ?_
 refine am (ai (aB (4,0) aa rfl rfl) (aj (am (bS rfl (ai (bu aa _ _ ar (hnx) tr rfl ae (by simp)) ?_)))))
 refine oV rfl (aj (am (ai (aN _ aa rfl (by exact kI)) ?_)))
 refine ai (aB (6,0) aa rfl rfl) (bG rfl rfl rfl rfl rfl rfl (aj (aq (am (bS rfl (ai (bu aa _ _ ar (dW T i N hi) tr rfl ae (by simp)) ?_))))))
 refine aj (aW rfl hn (aS (aq (am (ai (bg _ _ aa rfl ag (by (simp <;> rfl)) ah rfl) ?_)))))
 refine ei rfl (ai (aH aa al (cI DR 9 rfl ab kX) rfl rfl) ?_)
 refine ai (cg (r:=false) _ rfl rfl) (aj (aW rfl rfl (aS (am (bS rfl (ai (bV (cC T i N hi hT)) ?_))))))
 refine aj (aq (aq ?_))
 refine aL (σ':=aD 145 [(0,_),(1,_),(4,_),(5,_),(6,_)] [((0,9),_),((4,0),_),((6,0),_)] [(0,9)] [(0,9)]) kp ?_
 refine an (ei rfl (aj (ay (aq (am (ai (aV (r:=false) _ _ Tryz.underlying9 rfl rfl rfl) (cq rfl (aj (aW rfl rfl (an ?_))))))))))
 refine ai (aV (r:=true) _ _ Tryz.underlying9 rfl rfl rfl) (cq rfl (aj (bL rfl rfl (aU fun K13 hK13=> ?_))))
 refine an (bS rfl (aX rfl (ai (bV (h1)) (ai (aB (7,0) aa rfl rfl) (bG rfl rfl rfl rfl rfl rfl (aJ (hK13 _ ?_)))))))
 clear hK13;try clear K13
 refine aU fun K14 hK14=> ?_
 refine aL (σ':=aD 145 [(0,_),(1,_),(4,_),(5,_),(7,_)] [((0,9),_),((4,0),_),((7,0),_)] [(0,9)] [(0,9)]) kp ?_
 refine bJ 5 [53,54,55,56,57] [(0,9)] ae ae rfl (aK rfl) (rfl:_=[_,_,_,_,_]) (rfl:_=[_,_]) ?_
 refine ap (_,[]) (fun τ=> az _ aa rfl rfl rfl rfl) ?_
 refine fD rfl ?_
 refine ap (_,[]) (fun τ=> aI _ ca) ?_
 refine fF rfl ?_
 refine ap (_,[]) (fun τ=> aI _ eh) ?_
 refine fE rfl ?_
 refine ap (_,[]) (fun τ=> aZ _ _ rfl rfl (bE ab)) ?_
 refine fS rfl ?_
 refine ap (_,[((0,9),_)]) (fun τ=> (kB aa ar (h2) ob rfl rfl ae)) ?_
 refine gf rfl (bj ⟨rfl,?_⟩)
 refine ai (bg _ _ aa rfl ag (by (simp <;> rfl)) ah rfl) ?_
 refine kD rfl (aJ (hK14 _ ?_))
 clear hK14;try clear K14
 refine aq (am (ei rfl (ai (aV (r:=true) _ _ Tryz.underlying9 rfl rfl rfl) (aj (bL rfl rfl (am (eV rfl (ai (aN _ aa rfl (by exact kI)) ?_))))))))
 exact bG rfl rfl rfl rfl rfl rfl (aj (aG (bH (.inr rfl) rfl (.cellA aa rfl rfl rfl) (Le.outI [] [] (.agg rfl lz) rfl rfl rfl trivial ob tr rfl))))
theorem Kc (hT:T.length≤100000) (lv i:Nat) (hl:lv≤20) (hi:i < T.length) (ht:(dm T i).t=vR) {c x:Nd} {j1 j2:Nat} (h1:Spec Tryz.prog 226 (aY [.ptr (0,9) 0, .v (.int .i64 (lv:Int)), .v (.int .i64 1)] (dZ T (bK T i) N)) (PO T N (c,j1))) (h2:Spec Tryz.prog 164 (aY [.ptr (0,9) 0, .v (.int .i64 ((lv+1:Nat):Int))] (dZ T j1 N)) (PO T N (x,j2))) (hj:j2 < T.length) (he:(dm T j2).t≠sF):
  Spec Tryz.prog 202 (aY [.ptr (0,9) 0, .v (.int .i64 (lv:Int))] (dZ T i N)) (PO T N (nd 2 0 [] [c,x,nd 11 0 [] []],j2)):=by
 have hnx:=bQ T i N hi
 have hn:eD T i=false:=gg (by rw [ht];rfl)
 rw [ht] at hnx
 refine Spec.ofNI Tryz.func202 rfl Tryz.ntmps202 rfl ?_
 refine am (ai (aB (4,0) aa rfl rfl) (aj (am (bS rfl (ai (bu aa _ _ ar (hnx) tr rfl ae (by simp)) ?_)))))
 refine oV rfl (aj (am (ai (aN _ aa rfl (by exact kI)) ?_)))
 refine ai (aB (6,0) aa rfl rfl) (bG rfl rfl rfl rfl rfl rfl (aj (aq (am (bS rfl (ai (bu aa _ _ ar (dW T i N hi) tr rfl ae (by simp)) ?_))))))
 refine aj (aW rfl hn (aS (aq (am (ai (bg _ _ aa rfl ag (by (simp <;> rfl)) ah rfl) ?_)))))
 refine ei rfl (ai (aH aa al (cI DR 9 rfl ab vR) rfl rfl) ?_)
 refine ai (cg (r:=false) _ rfl rfl) (aj (aW rfl rfl (aS (am (bS rfl (ai (bV (cC T i N hi hT)) ?_))))))
 refine aj (aq (aq ?_))
 refine aL (σ':=aD 145 [(0,_),(1,_),(4,_),(5,_),(6,_)] [((0,9),_),((4,0),_),((6,0),_)] [(0,9)] [(0,9)]) kp ?_
 refine an (ei rfl (aj (ay (aq (am (ai (aV (r:=true) _ _ Tryz.underlying9 rfl rfl rfl) (cq rfl (aj (bL rfl rfl (aS ?_))))))))))
 refine bL rfl rfl (aU fun K13 hK13=> ?_)
 refine an (bS rfl (aX rfl (ai (bV (h1)) (ai (aB (7,0) aa rfl rfl) (bG rfl rfl rfl rfl rfl rfl (aJ (hK13 _ ?_)))))))
 clear hK13;try clear K13
 refine aU fun K14 hK14=> ?_
 refine aL (σ':=aD 145 [(0,_),(1,_),(4,_),(5,_),(7,_)] [((0,9),_),((4,0),_),((7,0),_)] [(0,9)] [(0,9)]) kp ?_
 refine bJ 5 [53,54,55,56,57] [(0,9)] ae ae rfl (aK rfl) (rfl:_=[_,_,_,_,_]) (rfl:_=[_,_]) ?_
 refine ap (_,[]) (fun τ=> az _ aa rfl rfl rfl rfl) ?_
 refine fD rfl ?_
 refine ap (_,[]) (fun τ=> aI _ ca) ?_
 refine fF rfl ?_
 refine ap (_,[]) (fun τ=> aI _ eh) ?_
 refine fE rfl ?_
 refine ap (_,[]) (fun τ=> aZ _ _ rfl rfl (bE ab)) ?_
 refine fS rfl ?_
 refine ap (_,[((0,9),_)]) (fun τ=> (kB aa ar (h2) ob rfl rfl ae)) ?_
 refine gf rfl (bj ⟨rfl,?_⟩)
 refine ai (kb (58,0) _ _ aa rfl ag (by (simp <;> rfl)) ah rfl rfl) ?_
 refine fj rfl (aJ (hK14 _ ?_))
 clear hK14;try clear K14
 refine aq (am (ei rfl (ai (aV (r:=false) _ _ Tryz.underlying9 rfl rfl rfl) (aj (aW rfl rfl (aS (am (ai (aN _ aa rfl (by exact kI)) ?_))))))))
 refine ai (aB (9,0) aa rfl rfl) (bG rfl rfl rfl rfl rfl rfl (aj (aq (am (bS rfl (ai (aT _ rfl rfl) (bc rfl rfl rfl (cd rfl rfl rfl (kv rfl rfl rfl (cN rfl ?_))))))))))
 refine ax rfl rfl (aI _ ca) (ax rfl rfl (bu aa _ _ ar (bQ T j2 N hj) tr rfl ae (by simp)) ?_)
 refine ax rfl rfl (aV (r:=false) _ _ Tryz.underlying9 rfl rfl (beq_eq_false_iff_ne.2 he)) ?_
 refine ai (aE _ _ _ rfl bN) (aj (aW rfl rfl (aS (aq ?_))))
 refine aL (σ':=aD 145 [(4,_),(8,_),(9,_)] [((4,0),_),((58,0),_),((9,0),_),((0,9),_)] [(0,9)] [(0,9)]) kp ?_
 refine an (gJ rfl (cB (Le.nil0 (9,0) 3 rfl rfl) ?_))
 refine ai (az _ aa rfl rfl rfl rfl) (ai (bg _ _ aa rfl ag (by (simp <;> rfl)) ah rfl) ?_)
 refine ai (du (83,0) _ _ aa rfl rfl ag (by (refine .sl ?_;(simp [cw];done))) ab rfl (rfl) (rfl)) ?_
 refine ai (aN _ aa rfl (by exact kI)) ?_
 exact bG rfl rfl rfl rfl rfl rfl (aj (aG (bH (.inr rfl) rfl (.cellA aa rfl rfl rfl) (Le.outI [] [(83,0)] (.agg rfl (au .v (au .v (au .v (au (fg rfl rfl rfl rfl) bf))))) rfl rfl rfl tr ob tr rfl))))
theorem zt (hT:T.length≤100000) (lv i:Nat) (hl:lv≤20) (hi:i < T.length) (ht:(dm T i).t=vR) {c x y:Nd} {j1 j2 j3:Nat} (h1:Spec Tryz.prog 226 (aY [.ptr (0,9) 0, .v (.int .i64 (lv:Int)), .v (.int .i64 1)] (dZ T (bK T i) N)) (PO T N (c,j1))) (h2:Spec Tryz.prog 164 (aY [.ptr (0,9) 0, .v (.int .i64 ((lv+1:Nat):Int))] (dZ T j1 N)) (PO T N (x,j2))) (hj:j2 < T.length) (he:(dm T j2).t=sF) (h3:Spec Tryz.prog 164 (aY [.ptr (0,9) 0, .v (.int .i64 ((lv+1:Nat):Int))] (dZ T (bK T j2) N)) (PO T N (y,j3))):
  Spec Tryz.prog 202 (aY [.ptr (0,9) 0, .v (.int .i64 (lv:Int))] (dZ T i N)) (PO T N (nd 2 0 [] [c,x,y],j3)):=by
 have hnx:=bQ T i N hi
 have hn:eD T i=false:=gg (by rw [ht];rfl)
 rw [ht] at hnx
 refine Spec.ofNI Tryz.func202 rfl Tryz.ntmps202 rfl ?_
 refine am (ai (aB (4,0) aa rfl rfl) (aj (am (bS rfl (ai (bu aa _ _ ar (hnx) tr rfl ae (by simp)) ?_)))))
 refine oV rfl (aj (am (ai (aN _ aa rfl (by exact kI)) ?_)))
 refine ai (aB (6,0) aa rfl rfl) (bG rfl rfl rfl rfl rfl rfl (aj (aq (am (bS rfl (ai (bu aa _ _ ar (dW T i N hi) tr rfl ae (by simp)) ?_))))))
 refine aj (aW rfl hn (aS (aq (am (ai (bg _ _ aa rfl ag (by (simp <;> rfl)) ah rfl) ?_)))))
 refine ei rfl (ai (aH aa al (cI DR 9 rfl ab vR) rfl rfl) ?_)
 refine ai (cg (r:=false) _ rfl rfl) (aj (aW rfl rfl (aS (am (bS rfl (ai (bV (cC T i N hi hT)) ?_))))))
 refine aj (aq (aq ?_))
 refine aL (σ':=aD 145 [(0,_),(1,_),(4,_),(5,_),(6,_)] [((0,9),_),((4,0),_),((6,0),_)] [(0,9)] [(0,9)]) kp ?_
 refine an (ei rfl (aj (ay (aq (am (ai (aV (r:=true) _ _ Tryz.underlying9 rfl rfl rfl) (cq rfl (aj (bL rfl rfl (aS ?_))))))))))
 refine bL rfl rfl (aU fun K13 hK13=> ?_)
 refine an (bS rfl (aX rfl (ai (bV (h1)) (ai (aB (7,0) aa rfl rfl) (bG rfl rfl rfl rfl rfl rfl (aJ (hK13 _ ?_)))))))
 clear hK13;try clear K13
 refine aU fun K14 hK14=> ?_
 refine aL (σ':=aD 145 [(0,_),(1,_),(4,_),(5,_),(7,_)] [((0,9),_),((4,0),_),((7,0),_)] [(0,9)] [(0,9)]) kp ?_
 refine bJ 5 [53,54,55,56,57] [(0,9)] ae ae rfl (aK rfl) (rfl:_=[_,_,_,_,_]) (rfl:_=[_,_]) ?_
 refine ap (_,[]) (fun τ=> az _ aa rfl rfl rfl rfl) ?_
 refine fD rfl ?_
 refine ap (_,[]) (fun τ=> aI _ ca) ?_
 refine fF rfl ?_
 refine ap (_,[]) (fun τ=> aI _ eh) ?_
 refine fE rfl ?_
 refine ap (_,[]) (fun τ=> aZ _ _ rfl rfl (bE ab)) ?_
 refine fS rfl ?_
 refine ap (_,[((0,9),_)]) (fun τ=> (kB aa ar (h2) ob rfl rfl ae)) ?_
 refine gf rfl (bj ⟨rfl,?_⟩)
 refine ai (kb (58,0) _ _ aa rfl ag (by (simp <;> rfl)) ah rfl rfl) ?_
 refine fj rfl (aJ (hK14 _ ?_))
 clear hK14;try clear K14
 refine aq (am (ei rfl (ai (aV (r:=false) _ _ Tryz.underlying9 rfl rfl rfl) (aj (aW rfl rfl (aS (am (ai (aN _ aa rfl (by exact kI)) ?_))))))))
 refine ai (aB (9,0) aa rfl rfl) (bG rfl rfl rfl rfl rfl rfl (aj (aU fun K18 hK18=> ?_)))
 refine am (bS rfl (ai (aT _ rfl rfl) (bc rfl rfl rfl (cd rfl rfl rfl (kv rfl rfl rfl (cN rfl (ax rfl rfl (aI _ ca) (ax rfl rfl (bu aa _ _ ar (bQ T j2 N hj) tr rfl ae (by simp)) ?_))))))))
 refine ax rfl rfl (aV (r:=true) _ _ Tryz.underlying9 rfl rfl (beq_iff_eq.2 he)) ?_
 refine ai (aE _ _ _ rfl bN) (aj (bL rfl rfl (aU fun K20 hK20=> ?_)))
 refine aL (σ':=aD 145 [(0,_),(1,_),(4,_),(8,_),(9,_)] [((0,9),_),((4,0),_),((58,0),_),((9,0),_)] [(0,9)] [(0,9)]) kp ?_
 refine an (bS rfl (ai (bV (cC T j2 N hj hT)) ?_))
 refine aJ (hK20 _ ?_)
 clear hK20;try clear K20
 refine an (bS rfl (aX rfl (ai (aZ _ _ rfl rfl (bE ab)) ?_)))
 refine ai (bV (h3)) (bG rfl rfl rfl rfl rfl rfl (aJ (hK18 _ ?_)))
 clear hK18;try clear K18
 refine am (gJ rfl (ai (az _ aa rfl rfl rfl rfl) (ai (bg _ _ aa rfl ag (by (simp <;> rfl)) ah rfl) ?_)))
 refine ai (du (83,0) _ _ aa rfl rfl ag (by (refine .sl ?_;(simp [cw];done))) ab rfl (rfl) (rfl)) ?_
 refine ai (aN _ aa rfl (by exact kI)) ?_
 exact bG rfl rfl rfl rfl rfl rfl (aj (aG (bH (.inr rfl) rfl (.cellA aa rfl rfl rfl) (Le.outI [] [(83,0)] (.agg rfl (au .v (au .v (au .v (au (fg rfl rfl rfl rfl) bf))))) rfl rfl rfl tr ob tr rfl))))
theorem EK (hT:T.length≤100000) (lv i:Nat) (hl:lv≤20) (hi:i < T.length) (ht:(dm T i).t=qJ) {x y z:Nd} {k j1 j2 j3 j4 j5 j6 j7 j8:Nat} (h1:Spec Tryz.prog 226 (aY [.ptr (0,9) 0, .v (.int .i64 (lv:Int)), .v (.int .i64 1)] (dZ T (bK T i) N)) (PO T N (x,j1))) (h2:Spec Tryz.prog 162 (aY [.ptr (0,9) 0, .v (bt [44])] (dZ T j1 N)) (bb (.tup []) (dZ T j2 N) [(0,9)] [(0,9)])) (h3:Spec Tryz.prog 200 (aY [.ptr (0,9) 0, .v (.int .i64 29)] (dZ T j2 N)) (bb (.v (.int .i64 (k:Int))) (dZ T j3 N) [(0,9)] [(0,9)])) (h4:Spec Tryz.prog 162 (aY [.ptr (0,9) 0, .v (bt [44])] (dZ T j3 N)) (bb (.tup []) (dZ T j4 N) [(0,9)] [(0,9)])) (h5:Spec Tryz.prog 226 (aY [.ptr (0,9) 0, .v (.int .i64 (lv:Int)), .v (.int .i64 1)] (dZ T j4 N)) (PO T N (y,j5))) (h6:Spec Tryz.prog 162 (aY [.ptr (0,9) 0, .v (bt [44])] (dZ T j5 N)) (bb (.tup []) (dZ T j6 N) [(0,9)] [(0,9)])) (h7:Spec Tryz.prog 226 (aY [.ptr (0,9) 0, .v (.int .i64 (lv:Int)), .v (.int .i64 1)] (dZ T j6 N)) (PO T N (z,j7))) (h8:Spec Tryz.prog 162 (aY [.ptr (0,9) 0, .v (bt [59])] (dZ T j7 N)) (bb (.tup []) (dZ T j8 N) [(0,9)] [(0,9)])):
  Spec Tryz.prog 202 (aY [.ptr (0,9) 0, .v (.int .i64 (lv:Int))] (dZ T i N)) (PO T N (nd 4 k [] [x,y,z],j8)):=by
 have hnx:=bQ T i N hi
 have hn:eD T i=false:=gg (by rw [ht];rfl)
 rw [ht] at hnx
 refine Spec.ofNI Tryz.func202 rfl Tryz.ntmps202 rfl ?_
 refine am (ai (aB (4,0) aa rfl rfl) (aj (am (bS rfl (ai (bu aa _ _ ar (hnx) tr rfl ae (by simp)) ?_)))))
 refine oV rfl (aj (am (ai (aN _ aa rfl (by exact kI)) ?_)))
 refine ai (aB (6,0) aa rfl rfl) (bG rfl rfl rfl rfl rfl rfl (aj (aq (am (bS rfl (ai (bu aa _ _ ar (dW T i N hi) tr rfl ae (by simp)) ?_))))))
 refine aj (aW rfl hn (aS (aq (am (ai (bg _ _ aa rfl ag (by (simp <;> rfl)) ah rfl) ?_)))))
 refine ei rfl (ai (aH aa al (cI DR 9 rfl ab qJ) rfl rfl) ?_)
 refine ai (cg (r:=false) _ rfl rfl) (aj (aW rfl rfl (aS (am (bS rfl (ai (bV (cC T i N hi hT)) ?_))))))
 refine aj (aU fun K9 hK9=> ?_)
 refine aq ?_
 refine aL (σ':=aD 145 [(0,_),(1,_),(4,_),(5,_),(6,_)] [((0,9),_),((4,0),_),((6,0),_)] [(0,9)] [(0,9)]) kp ?_
 refine an (ei rfl (aj (ay (aq (am (ai (aV (r:=false) _ _ Tryz.underlying9 rfl rfl rfl) (cq rfl (aj (aW rfl rfl (an ?_))))))))))
 refine ai (aV (r:=false) _ _ Tryz.underlying9 rfl rfl rfl) (cq rfl (aj (aW rfl rfl (am (ai (aV (r:=true) _ _ Tryz.underlying9 rfl rfl rfl) (cq rfl (aj (bL rfl rfl (aU fun K14 hK14=> ?_)))))))))
 refine an (bS rfl (aX rfl (ai (bV (h1)) (ai (aB (10,0) aa rfl rfl) (bG rfl rfl rfl rfl rfl rfl (aJ (hK14 _ ?_)))))))
 clear hK14;try clear K14
 refine aU fun K15 hK15=> ?_
 refine an (bS rfl (ai (bV (h2)) (aJ (hK15 _ ?_))))
 clear hK15;try clear K15
 refine aU fun K16 hK16=> ?_
 refine an (bS rfl (ai (bV (h3)) (be rfl (aJ (hK16 _ ?_)))))
 clear hK16;try clear K16
 refine aU fun K17 hK17=> ?_
 refine aL (σ':=aD 145 [(0,_),(1,_),(4,_),(6,_),(10,_),(11,_)] [((0,9),_),((4,0),_),((6,0),_),((10,0),_)] [(0,9)] [(0,9)]) kp ?_
 refine an (bS rfl (ai (bV (h4)) (aJ (hK17 _ ?_))))
 clear hK17;try clear K17
 refine aU fun K18 hK18=> ?_
 refine an (bS rfl (aX rfl (ai (bV (h5)) (ai (aB (12,0) aa rfl rfl) (bG rfl rfl rfl rfl rfl rfl (aJ (hK18 _ ?_)))))))
 clear hK18;try clear K18
 refine aU fun K19 hK19=> ?_
 refine an (bS rfl (ai (bV (h6)) (aJ (hK19 _ ?_))))
 clear hK19;try clear K19
 refine aL (σ':=aD 145 [(0,_),(1,_),(4,_),(6,_),(10,_),(11,_),(12,_)] [((0,9),_),((4,0),_),((6,0),_),((10,0),_),((12,0),_)] [(0,9)] [(0,9)]) kp ?_
 refine bJ 7 [101,102,103,104,105,106,107] [(0,9)] ae ae rfl (aK rfl) (rfl:_=[_,_,_,_,_,_,_]) (rfl:_=[_,_]) ?_
 refine ap (_,[]) (fun τ=> aI _ eh) ?_
 refine fD rfl ?_
 refine ap (_,[]) (fun τ=> az _ aa rfl rfl rfl rfl) ?_
 refine fF rfl ?_
 refine ap (_,[]) (fun τ=> az _ aa rfl rfl rfl rfl) ?_
 refine fE rfl ?_
 refine ap (_,[]) (fun τ=> aI _ ca) ?_
 refine fS rfl ?_
 refine ap (_,[]) (fun τ=> aI _ eh) ?_
 refine gf rfl ?_
 refine ap (_,[((0,9),_)]) (fun τ=> (kB aa ar (h7) ob rfl rfl ae)) ?_
 refine gS rfl ?_
 refine ap (_,[]) (fun τ=> bg _ _ aa rfl ag (by (simp;exact ⟨rfl,rfl⟩)) ah rfl) ?_
 refine ir rfl (bj ⟨rfl,?_⟩)
 refine ai (aN _ aa rfl (by exact kI)) ?_
 refine bG rfl rfl rfl rfl rfl rfl (aJ (hK9 _ ?_))
 clear hK9;try clear K9
 refine aU fun K20 hK20=> ?_
 refine an (bS rfl (ai (bV (h8)) (aJ (hK20 _ ?_))))
 clear hK20;try clear K20
 exact am (ai (az _ aa rfl rfl rfl rfl) (bG rfl rfl rfl rfl rfl rfl (aj (aG (bH (.inr rfl) rfl (.cellA aa rfl rfl rfl) (Le.outI [] [] (.agg rfl lz) rfl rfl rfl trivial ob tr rfl))))))
theorem Cq (hT:T.length≤100000) (lv i:Nat) (hl:lv≤20) (hi:i < T.length) (ht:(dm T i).t=ik) {k j1 j2:Nat} (h1:Spec Tryz.prog 200 (aY [.ptr (0,9) 0, .v (.int .i64 7)] (dZ T (bK T i) N)) (bb (.v (.int .i64 (k:Int))) (dZ T j1 N) [(0,9)] [(0,9)])) (h2:Spec Tryz.prog 162 (aY [.ptr (0,9) 0, .v (bt [59])] (dZ T j1 N)) (bb (.tup []) (dZ T j2 N) [(0,9)] [(0,9)])):
  Spec Tryz.prog 202 (aY [.ptr (0,9) 0, .v (.int .i64 (lv:Int))] (dZ T i N)) (PO T N (nd 5 k [] [],j2)):=by
 have hnx:=bQ T i N hi
 have hn:eD T i=false:=gg (by rw [ht];rfl)
 rw [ht] at hnx
 refine Spec.ofNI Tryz.func202 rfl Tryz.ntmps202 rfl ?_
 refine am (ai (aB (4,0) aa rfl rfl) (aj (am (bS rfl (ai (bu aa _ _ ar (hnx) tr rfl ae (by simp)) ?_)))))
 refine oV rfl (aj (am (ai (aN _ aa rfl (by exact kI)) ?_)))
 refine ai (aB (6,0) aa rfl rfl) (bG rfl rfl rfl rfl rfl rfl (aj (aq (am (bS rfl (ai (bu aa _ _ ar (dW T i N hi) tr rfl ae (by simp)) ?_))))))
 refine aj (aW rfl hn (aS (aq (am (ai (bg _ _ aa rfl ag (by (simp <;> rfl)) ah rfl) ?_)))))
 refine ei rfl (ai (aH aa al (cI DR 9 rfl ab ik) rfl rfl) ?_)
 refine ai (cg (r:=false) _ rfl rfl) (aj (aW rfl rfl (aS (am (bS rfl (ai (bV (cC T i N hi hT)) ?_))))))
 refine aj (aU fun K9 hK9=> ?_)
 refine aq ?_
 refine aL (σ':=aD 145 [(0,_),(1,_),(4,_),(5,_),(6,_)] [((0,9),_),((4,0),_),((6,0),_)] [(0,9)] [(0,9)]) kp ?_
 refine an (ei rfl (aj (ay (aq (am (ai (aV (r:=false) _ _ Tryz.underlying9 rfl rfl rfl) (cq rfl (aj (aW rfl rfl (an ?_))))))))))
 refine ai (aV (r:=false) _ _ Tryz.underlying9 rfl rfl rfl) (cq rfl (aj (aW rfl rfl (am (ai (aV (r:=false) _ _ Tryz.underlying9 rfl rfl rfl) (cq rfl (aj (aW rfl rfl (am (ai (aV (r:=true) _ _ Tryz.underlying9 rfl rfl rfl) ?_))))))))))
 refine cq rfl (aj (bL rfl rfl (an (bS rfl (ai (bV (h1)) (ai (aN _ aa rfl (by exact kI)) ?_))))))
 refine bG rfl rfl rfl rfl rfl rfl (aJ (hK9 _ ?_))
 clear hK9;try clear K9
 refine aU fun K15 hK15=> ?_
 refine an (bS rfl (ai (bV (h2)) (aJ (hK15 _ ?_))))
 clear hK15;try clear K15
 refine aq ?_
 refine aL (σ':=aD 145 [(4,_),(6,_)] [((4,0),_),((6,0),_),((0,9),_)] [(0,9)] [(0,9)]) kp ?_
 exact an (ai (az _ aa rfl rfl rfl rfl) (bG rfl rfl rfl rfl rfl rfl (aj (aG (bH (.inr rfl) rfl (.cellA aa rfl rfl rfl) (Le.outI [] [] (.agg rfl lz) rfl rfl rfl trivial ob tr rfl))))))
theorem yz (hT:T.length≤100000) (lv i:Nat) (hl:lv≤20) (hi:i < T.length) (ht:(dm T i).t=lR) {k j1 j2:Nat} (h1:Spec Tryz.prog 200 (aY [.ptr (0,9) 0, .v (.int .i64 7)] (dZ T (bK T i) N)) (bb (.v (.int .i64 (k:Int))) (dZ T j1 N) [(0,9)] [(0,9)])) (h2:Spec Tryz.prog 162 (aY [.ptr (0,9) 0, .v (bt [59])] (dZ T j1 N)) (bb (.tup []) (dZ T j2 N) [(0,9)] [(0,9)])):
  Spec Tryz.prog 202 (aY [.ptr (0,9) 0, .v (.int .i64 (lv:Int))] (dZ T i N)) (PO T N (nd 6 k [] [],j2)):=by
 have hnx:=bQ T i N hi
 have hn:eD T i=false:=gg (by rw [ht];rfl)
 rw [ht] at hnx
 refine Spec.ofNI Tryz.func202 rfl Tryz.ntmps202 rfl ?_
 refine am (ai (aB (4,0) aa rfl rfl) (aj (am (bS rfl (ai (bu aa _ _ ar (hnx) tr rfl ae (by simp)) ?_)))))
 refine oV rfl (aj (am (ai (aN _ aa rfl (by exact kI)) ?_)))
 refine ai (aB (6,0) aa rfl rfl) (bG rfl rfl rfl rfl rfl rfl (aj (aq (am (bS rfl (ai (bu aa _ _ ar (dW T i N hi) tr rfl ae (by simp)) ?_))))))
 refine aj (aW rfl hn (aS (aq (am (ai (bg _ _ aa rfl ag (by (simp <;> rfl)) ah rfl) ?_)))))
 refine ei rfl (ai (aH aa al (cI DR 9 rfl ab lR) rfl rfl) ?_)
 refine ai (cg (r:=false) _ rfl rfl) (aj (aW rfl rfl (aS (am (bS rfl (ai (bV (cC T i N hi hT)) ?_))))))
 refine aj (aU fun K9 hK9=> ?_)
 refine aq ?_
 refine aL (σ':=aD 145 [(0,_),(1,_),(4,_),(5,_),(6,_)] [((0,9),_),((4,0),_),((6,0),_)] [(0,9)] [(0,9)]) kp ?_
 refine an (ei rfl (aj (ay (aq (am (ai (aV (r:=false) _ _ Tryz.underlying9 rfl rfl rfl) (cq rfl (aj (aW rfl rfl (an ?_))))))))))
 refine ai (aV (r:=false) _ _ Tryz.underlying9 rfl rfl rfl) (cq rfl (aj (aW rfl rfl (am (ai (aV (r:=false) _ _ Tryz.underlying9 rfl rfl rfl) (cq rfl (aj (aW rfl rfl (am (ai (aV (r:=false) _ _ Tryz.underlying9 rfl rfl rfl) ?_))))))))))
 refine cq rfl (aj (aW rfl rfl (am (ai (aV (r:=true) _ _ Tryz.underlying9 rfl rfl rfl) (cq rfl (aj (bL rfl rfl (an (bS rfl (ai (bV (h1)) ?_))))))))))
 refine ai (aN _ aa rfl (by exact kI)) ?_
 refine bG rfl rfl rfl rfl rfl rfl (aJ (hK9 _ ?_))
 clear hK9;try clear K9
 refine aU fun K16 hK16=> ?_
 refine aL (σ':=aD 145 [(0,_),(4,_),(6,_)] [((0,9),_),((4,0),_),((6,0),_)] [(0,9)] [(0,9)]) kp ?_
 refine an (bS rfl (ai (bV (h2)) (aJ (hK16 _ ?_))))
 clear hK16;try clear K16
 exact am (ai (az _ aa rfl rfl rfl rfl) (bG rfl rfl rfl rfl rfl rfl (aj (aG (bH (.inr rfl) rfl (.cellA aa rfl rfl rfl) (Le.outI [] [] (.agg rfl lz) rfl rfl rfl trivial ob tr rfl))))))
theorem Ch (hT:T.length≤100000) (lv i:Nat) (hl:lv≤20) (hi:i < T.length) (ht:(dm T i).t=ng) {x y:Nd} {j1 j2 j3 j4:Nat} (h1:Spec Tryz.prog 226 (aY [.ptr (0,9) 0, .v (.int .i64 (lv:Int)), .v (.int .i64 1)] (dZ T (bK T i) N)) (PO T N (x,j1))) (h2:Spec Tryz.prog 162 (aY [.ptr (0,9) 0, .v (bt [44])] (dZ T j1 N)) (bb (.tup []) (dZ T j2 N) [(0,9)] [(0,9)])) (h3:Spec Tryz.prog 226 (aY [.ptr (0,9) 0, .v (.int .i64 (lv:Int)), .v (.int .i64 1)] (dZ T j2 N)) (PO T N (y,j3))) (h4:Spec Tryz.prog 162 (aY [.ptr (0,9) 0, .v (bt [59])] (dZ T j3 N)) (bb (.tup []) (dZ T j4 N) [(0,9)] [(0,9)])):
  Spec Tryz.prog 202 (aY [.ptr (0,9) 0, .v (.int .i64 (lv:Int))] (dZ T i N)) (PO T N (nd 8 0 [] [x,y],j4)):=by
 have hnx:=bQ T i N hi
 have hn:eD T i=false:=gg (by rw [ht];rfl)
 rw [ht] at hnx
 refine Spec.ofNI Tryz.func202 rfl Tryz.ntmps202 rfl ?_
 refine am (ai (aB (4,0) aa rfl rfl) (aj (am (bS rfl (ai (bu aa _ _ ar (hnx) tr rfl ae (by simp)) ?_)))))
 refine oV rfl (aj (am (ai (aN _ aa rfl (by exact kI)) ?_)))
 refine ai (aB (6,0) aa rfl rfl) (bG rfl rfl rfl rfl rfl rfl (aj (aq (am (bS rfl (ai (bu aa _ _ ar (dW T i N hi) tr rfl ae (by simp)) ?_))))))
 refine aj (aW rfl hn (aS (aq (am (ai (bg _ _ aa rfl ag (by (simp <;> rfl)) ah rfl) ?_)))))
 refine ei rfl (ai (aH aa al (cI DR 9 rfl ab ng) rfl rfl) ?_)
 refine ai (cg (r:=false) _ rfl rfl) (aj (aW rfl rfl (aS (am (bS rfl (ai (bV (cC T i N hi hT)) ?_))))))
 refine aj (aU fun K9 hK9=> ?_)
 refine aq ?_
 refine aL (σ':=aD 145 [(0,_),(1,_),(4,_),(5,_),(6,_)] [((0,9),_),((4,0),_),((6,0),_)] [(0,9)] [(0,9)]) kp ?_
 refine an (ei rfl (aj (ay (aq (am (ai (aV (r:=false) _ _ Tryz.underlying9 rfl rfl rfl) (cq rfl (aj (aW rfl rfl (an ?_))))))))))
 refine ai (aV (r:=false) _ _ Tryz.underlying9 rfl rfl rfl) (cq rfl (aj (aW rfl rfl (am (ai (aV (r:=false) _ _ Tryz.underlying9 rfl rfl rfl) (cq rfl (aj (aW rfl rfl (am (ai (aV (r:=false) _ _ Tryz.underlying9 rfl rfl rfl) ?_))))))))))
 refine cq rfl (aj (aW rfl rfl (am (ai (aV (r:=false) _ _ Tryz.underlying9 rfl rfl rfl) (cq rfl (aj (aW rfl rfl (am (ai (aV (r:=true) _ _ Tryz.underlying9 rfl rfl rfl) (cq rfl ?_))))))))))
 refine aj (bL rfl rfl (aU fun K17 hK17=> ?_))
 refine an (bS rfl (aX rfl (ai (bV (h1)) (ai (aB (13,0) aa rfl rfl) (bG rfl rfl rfl rfl rfl rfl (aJ (hK17 _ ?_)))))))
 clear hK17;try clear K17
 refine aU fun K18 hK18=> ?_
 refine aL (σ':=aD 145 [(0,_),(1,_),(4,_),(6,_),(13,_)] [((0,9),_),((4,0),_),((6,0),_),((13,0),_)] [(0,9)] [(0,9)]) kp ?_
 refine an (bS rfl (ai (bV (h2)) (aJ (hK18 _ ?_))))
 clear hK18;try clear K18
 refine bJ 4 [126,127,128,129] [(0,9)] ae ae rfl (aK rfl) (rfl:_=[_,_,_,_]) (rfl:_=[_,_,_]) ?_
 refine ap (_,[]) (fun τ=> az _ aa rfl rfl rfl rfl) ?_
 refine fD rfl ?_
 refine ap (_,[]) (fun τ=> aI _ ca) ?_
 refine fF rfl ?_
 refine ap (_,[]) (fun τ=> aI _ eh) ?_
 refine fE rfl ?_
 refine ap (_,[((0,9),_)]) (fun τ=> (kB aa ar (h3) ob rfl rfl ae)) ?_
 refine fS rfl (bj ⟨rfl,?_⟩)
 refine ai (bg _ _ aa rfl ag (by (simp <;> rfl)) ah rfl) ?_
 refine ai (aN _ aa rfl (by exact kI)) ?_
 refine bG rfl rfl rfl rfl rfl rfl (aJ (hK9 _ ?_))
 clear hK9;try clear K9
 refine aU fun K19 hK19=> ?_
 refine an (bS rfl (ai (bV (h4)) (aJ (hK19 _ ?_))))
 clear hK19;try clear K19
 exact am (ai (az _ aa rfl rfl rfl rfl) (bG rfl rfl rfl rfl rfl rfl (aj (aG (bH (.inr rfl) rfl (.cellA aa rfl rfl rfl) (Le.outI [] [] (.agg rfl lz) rfl rfl rfl trivial ob tr rfl))))))
theorem ER (hT:T.length≤100000) (lv i:Nat) (hl:lv≤20) (hi:i < T.length) (ht:(dm T i).t=qY) {x:Nd} {j1 j2:Nat} (h1:Spec Tryz.prog 226 (aY [.ptr (0,9) 0, .v (.int .i64 (lv:Int)), .v (.int .i64 1)] (dZ T (bK T i) N)) (PO T N (x,j1))) (h2:Spec Tryz.prog 162 (aY [.ptr (0,9) 0, .v (bt [59])] (dZ T j1 N)) (bb (.tup []) (dZ T j2 N) [(0,9)] [(0,9)])):
  Spec Tryz.prog 202 (aY [.ptr (0,9) 0, .v (.int .i64 (lv:Int))] (dZ T i N)) (PO T N (nd 9 0 [] [x],j2)):=by
 have hnx:=bQ T i N hi
 have hn:eD T i=false:=gg (by rw [ht];rfl)
 rw [ht] at hnx
 refine Spec.ofNI Tryz.func202 rfl Tryz.ntmps202 rfl ?_
 refine am (ai (aB (4,0) aa rfl rfl) (aj (am (bS rfl (ai (bu aa _ _ ar (hnx) tr rfl ae (by simp)) ?_)))))
 refine oV rfl (aj (am (ai (aN _ aa rfl (by exact kI)) ?_)))
 refine ai (aB (6,0) aa rfl rfl) (bG rfl rfl rfl rfl rfl rfl (aj (aq (am (bS rfl (ai (bu aa _ _ ar (dW T i N hi) tr rfl ae (by simp)) ?_))))))
 refine aj (aW rfl hn (aS (aq (am (ai (bg _ _ aa rfl ag (by (simp <;> rfl)) ah rfl) ?_)))))
 refine ei rfl (ai (aH aa al (cI DR 9 rfl ab qY) rfl rfl) ?_)
 refine ai (cg (r:=false) _ rfl rfl) (aj (aW rfl rfl (aS (am (bS rfl (ai (bV (cC T i N hi hT)) ?_))))))
 refine aj (aU fun K9 hK9=> ?_)
 refine aq ?_
 refine aL (σ':=aD 145 [(0,_),(1,_),(4,_),(5,_),(6,_)] [((0,9),_),((4,0),_),((6,0),_)] [(0,9)] [(0,9)]) kp ?_
 refine an (ei rfl (aj (ay (aq (am (ai (aV (r:=false) _ _ Tryz.underlying9 rfl rfl rfl) (cq rfl (aj (aW rfl rfl (an ?_))))))))))
 refine ai (aV (r:=false) _ _ Tryz.underlying9 rfl rfl rfl) (cq rfl (aj (aW rfl rfl (am (ai (aV (r:=false) _ _ Tryz.underlying9 rfl rfl rfl) (cq rfl (aj (aW rfl rfl (am (ai (aV (r:=false) _ _ Tryz.underlying9 rfl rfl rfl) ?_))))))))))
 refine cq rfl (aj (aW rfl rfl (am (ai (aV (r:=false) _ _ Tryz.underlying9 rfl rfl rfl) (cq rfl (aj (aW rfl rfl (am (ai (aV (r:=false) _ _ Tryz.underlying9 rfl rfl rfl) (cq rfl ?_))))))))))
 refine aj (aW rfl rfl (am (ai (aV (r:=true) _ _ Tryz.underlying9 rfl rfl rfl) (cq rfl (aj (bL rfl rfl ?_))))))
 refine aL (σ':=aD 145 [(0,_),(1,_),(4,_),(6,_)] [((0,9),_),((4,0),_),((6,0),_)] [(0,9)] [(0,9)]) kp ?_
 refine an (bS rfl (aX rfl (ai (bV (h1)) (ai (bg _ _ aa rfl ag (by (simp <;> rfl)) ah rfl) ?_))))
 refine ai (aN _ aa rfl (by exact kI)) ?_
 refine bG rfl rfl rfl rfl rfl rfl (aJ (hK9 _ ?_))
 clear hK9;try clear K9
 refine aU fun K18 hK18=> ?_
 refine an (bS rfl (ai (bV (h2)) (aJ (hK18 _ ?_))))
 clear hK18;try clear K18
 exact am (ai (az _ aa rfl rfl rfl rfl) (bG rfl rfl rfl rfl rfl rfl (aj (aG (bH (.inr rfl) rfl (.cellA aa rfl rfl rfl) (Le.outI [] [] (.agg rfl lz) rfl rfl rfl trivial ob tr rfl))))))
theorem Ff (hT:T.length≤100000) (lv i:Nat) (hl:lv≤20) (hi:i < T.length) (ht:(dm T i).t=qQ) {j1:Nat} (h1:Spec Tryz.prog 162 (aY [.ptr (0,9) 0, .v (bt [59])] (dZ T (bK T i) N)) (bb (.tup []) (dZ T j1 N) [(0,9)] [(0,9)])):
  Spec Tryz.prog 202 (aY [.ptr (0,9) 0, .v (.int .i64 (lv:Int))] (dZ T i N)) (PO T N (nd 7 0 [] [],j1)):=by
 have hnx:=bQ T i N hi
 have hn:eD T i=false:=gg (by rw [ht];rfl)
 rw [ht] at hnx
 refine Spec.ofNI Tryz.func202 rfl Tryz.ntmps202 rfl ?_
 refine am (ai (aB (4,0) aa rfl rfl) (aj (am (bS rfl (ai (bu aa _ _ ar (hnx) tr rfl ae (by simp)) ?_)))))
 refine oV rfl (aj (am (ai (aN _ aa rfl (by exact kI)) ?_)))
 refine ai (aB (6,0) aa rfl rfl) (bG rfl rfl rfl rfl rfl rfl (aj (aq (am (bS rfl (ai (bu aa _ _ ar (dW T i N hi) tr rfl ae (by simp)) ?_))))))
 refine aj (aW rfl hn (aS (aq (am (ai (bg _ _ aa rfl ag (by (simp <;> rfl)) ah rfl) ?_)))))
 refine ei rfl (ai (aH aa al (cI DR 9 rfl ab qQ) rfl rfl) ?_)
 refine ai (cg (r:=false) _ rfl rfl) (aj (aW rfl rfl (aS (am (bS rfl (ai (bV (cC T i N hi hT)) ?_))))))
 refine aj (aq (aq ?_))
 refine aL (σ':=aD 145 [(0,_),(1,_),(4,_),(5,_),(6,_)] [((0,9),_),((4,0),_),((6,0),_)] [(0,9)] [(0,9)]) kp ?_
 refine an (ei rfl (aj (ay (aq (am (ai (aV (r:=false) _ _ Tryz.underlying9 rfl rfl rfl) (cq rfl (aj (aW rfl rfl (an ?_))))))))))
 refine ai (aV (r:=false) _ _ Tryz.underlying9 rfl rfl rfl) (cq rfl (aj (aW rfl rfl (am (ai (aV (r:=false) _ _ Tryz.underlying9 rfl rfl rfl) (cq rfl (aj (aW rfl rfl (am (ai (aV (r:=false) _ _ Tryz.underlying9 rfl rfl rfl) ?_))))))))))
 refine cq rfl (aj (aW rfl rfl (am (ai (aV (r:=false) _ _ Tryz.underlying9 rfl rfl rfl) (cq rfl (aj (aW rfl rfl (am (ai (aV (r:=false) _ _ Tryz.underlying9 rfl rfl rfl) (cq rfl ?_))))))))))
 refine aj (aW rfl rfl (am (ai (aV (r:=false) _ _ Tryz.underlying9 rfl rfl rfl) (cq rfl (aj (aW rfl rfl (aq ?_)))))))
 refine aL (σ':=aD 145 [(0,_),(4,_),(6,_),(45,_)] [((0,9),_),((4,0),_),((6,0),_)] [(0,9)] [(0,9)]) kp ?_
 refine an (ai (aV (r:=true) _ _ Tryz.underlying9 rfl rfl rfl) (cq rfl (aj (bL rfl rfl (an (bc rfl rfl rfl (bG rfl rfl rfl rfl rfl rfl (dY (aU fun K19 hK19=> ?_)))))))))
 refine an (bS rfl (ai (bV (h1)) (aJ (hK19 _ ?_))))
 clear hK19;try clear K19
 exact am (ai (az _ aa rfl rfl rfl rfl) (bG rfl rfl rfl rfl rfl rfl (aj (aG (bH (.inr rfl) rfl (.cellA aa rfl rfl rfl) (Le.outI [] [] (.agg rfl lz) rfl rfl rfl trivial ob tr rfl))))))
theorem Fe (hT:T.length≤100000) (lv i:Nat) (hl:lv≤20) (hi:i < T.length) (ht:(dm T i).t=qG) {j1:Nat} (h1:Spec Tryz.prog 162 (aY [.ptr (0,9) 0, .v (bt [59])] (dZ T (bK T i) N)) (bb (.tup []) (dZ T j1 N) [(0,9)] [(0,9)])):
  Spec Tryz.prog 202 (aY [.ptr (0,9) 0, .v (.int .i64 (lv:Int))] (dZ T i N)) (PO T N (nd 10 0 [] [],j1)):=by
 have hnx:=bQ T i N hi
 have hn:eD T i=false:=gg (by rw [ht];rfl)
 rw [ht] at hnx
 refine Spec.ofNI Tryz.func202 rfl Tryz.ntmps202 rfl ?_
 refine am (ai (aB (4,0) aa rfl rfl) (aj (am (bS rfl (ai (bu aa _ _ ar (hnx) tr rfl ae (by simp)) ?_)))))
 refine oV rfl (aj (am (ai (aN _ aa rfl (by exact kI)) ?_)))
 refine ai (aB (6,0) aa rfl rfl) (bG rfl rfl rfl rfl rfl rfl (aj (aq (am (bS rfl (ai (bu aa _ _ ar (dW T i N hi) tr rfl ae (by simp)) ?_))))))
 refine aj (aW rfl hn (aS (aq (am (ai (bg _ _ aa rfl ag (by (simp <;> rfl)) ah rfl) ?_)))))
 refine ei rfl (ai (aH aa al (cI DR 9 rfl ab qG) rfl rfl) ?_)
 refine ai (cg (r:=false) _ rfl rfl) (aj (aW rfl rfl (aS (am (bS rfl (ai (bV (cC T i N hi hT)) ?_))))))
 refine aj (aq (aq ?_))
 refine aL (σ':=aD 145 [(0,_),(1,_),(4,_),(5,_),(6,_)] [((0,9),_),((4,0),_),((6,0),_)] [(0,9)] [(0,9)]) kp ?_
 refine an (ei rfl (aj (ay (aq (am (ai (aV (r:=false) _ _ Tryz.underlying9 rfl rfl rfl) (cq rfl (aj (aW rfl rfl (an ?_))))))))))
 refine ai (aV (r:=false) _ _ Tryz.underlying9 rfl rfl rfl) (cq rfl (aj (aW rfl rfl (am (ai (aV (r:=false) _ _ Tryz.underlying9 rfl rfl rfl) (cq rfl (aj (aW rfl rfl (am (ai (aV (r:=false) _ _ Tryz.underlying9 rfl rfl rfl) ?_))))))))))
 refine cq rfl (aj (aW rfl rfl (am (ai (aV (r:=false) _ _ Tryz.underlying9 rfl rfl rfl) (cq rfl (aj (aW rfl rfl (am (ai (aV (r:=false) _ _ Tryz.underlying9 rfl rfl rfl) (cq rfl ?_))))))))))
 refine aj (aW rfl rfl (am (ai (aV (r:=false) _ _ Tryz.underlying9 rfl rfl rfl) (cq rfl (aj (aW rfl rfl (aq ?_)))))))
 refine aL (σ':=aD 145 [(0,_),(4,_),(6,_),(45,_)] [((0,9),_),((4,0),_),((6,0),_)] [(0,9)] [(0,9)]) kp ?_
 refine an (ai (aV (r:=false) _ _ Tryz.underlying9 rfl rfl rfl) (cq rfl (aj (aW rfl rfl (an (bc rfl rfl rfl (bG rfl rfl rfl rfl rfl rfl (dY (aU fun K19 hK19=> ?_)))))))))
 refine an (bS rfl (ai (bV (h1)) (aJ (hK19 _ ?_))))
 clear hK19;try clear K19
 exact am (ai (az _ aa rfl rfl rfl rfl) (bG rfl rfl rfl rfl rfl rfl (aj (aG (bH (.inr rfl) rfl (.cellA aa rfl rfl rfl) (Le.outI [] [] (.agg rfl lz) rfl rfl rfl trivial ob tr rfl))))))
end
end Go.Proofs.YtmjnackchaahbaaGreat
