/- Part 9 of the texts that the walk leans on: the machine, the walks, the plain laws. -/
import Derived.Test.YtmjnackchaahbaaGreatVrZ8
set_option linter.unusedSimpArgs false
set_option linter.unusedVariables false
namespace Go.Proofs.YtmjnackchaahbaaGreat
open Go.RowKit

theorem cH (l:List Tx) (n:Nat) (hn:l.length=n) (h1:n≤1000) (t:Tx):Spec Tryz.prog 199 (bj [.sl n (ea l), .v (bt t)] []) (aT (.v (.bool (decide (t∈l)))) []):=by
 refine Spec.ofN Tryz.func199 rfl Tryz.ntmps199 rfl ?_
 refine am (ci rfl (aj (aH fun K2 hK2=> ?_)))
 refine am (ba rfl (aj (au ?_)))
 refine bD (α:=Nat) (fun k=> k≤n∧t∉l.take k) 18 [(0,_),(1,_)] [] (fun k=> [(5, .v (.int .i64 (k:Int)))]) (fun k=> []) [] [] (fun k=> n - k) 0 ?_ (by
  refine Le.mkJ [] [] rfl ?_ ?_ trivial trivial ?_
  ·exact ⟨(iS rfl),(iV rfl),(bY ag),trivial⟩
  ·exact trivial
  ·kernel_rfl) ?_
 ·exact ⟨Nat.zero_le _,by simp⟩
 intro k hk
 obtain ⟨hk,hnt⟩:=hk
 refine aH fun K4 hK4=> ?_
 refine am (aP rfl (ef rfl (ai (bI _ aa rfl) (ai (bp _ _ rfl rfl rfl) (aj (aO rfl (fun hc9=> ?_) (fun hc9=> ?_)))))))
 ·skip
  refine bB (hK4 _ ?_)
  clear hK4;try clear K4
  refine aq (au (am (ef rfl (aP rfl (ai (bi _ _ aa rfl rfl _ rfl ab (by (simp only [aZ,bq,bo,bG,bE];omega)) (by exact Nat.mul_one _)) ?_)))))
  refine ai (bH _ aa rfl (by exact fK _ _ ab) rfl) ?_
  refine dQ rfl (ai (aY _ _ Tryz.underlying9 rfl rfl rfl) (aj (aO rfl (fun hc17=> ?_) (fun hc17=> ?_))))
  ·skip
   refine am (ci rfl (aj (aE (aX (.inr rfl) rfl (.tmp (rfl:_=AV.v (.bool _))) (Le.out [] [] (hG ?_) rfl rfl rfl trivial trivial)))))
   exact decide_eq_true (hc17 ▸ iY ab)
  ·skip
   refine cf (an (aP rfl (ai (bc _ _ rfl rfl (be ab)) ?_)))
   refine ba rfl (ax (⟨k+1,?_,?_,?_⟩))
   ·exact ⟨by omega,jF hnt ab hc17⟩
   ·skip
    refine Le.mkJ [] [] rfl ?_ ?_ trivial trivial ?_
    ·exact ⟨(iS rfl),(iV rfl),(bY ag),trivial⟩
    ·exact trivial
    ·kernel_rfl
   ·omega
 ·skip
  have hall:t∉l:=by rwa [List.take_of_length_le ab] at hnt
  refine bK (id (hK2 _ ?_))
  clear hK2;try clear K2
  refine am (ci rfl (aj (aE (aX (.inr rfl) rfl (.tmp (rfl:_=AV.v (.bool _))) (Le.out [] [] (hG ?_) rfl rfl rfl trivial trivial)))))
  exact decide_eq_false hall
theorem eT:Spec Tryz.prog 205 (bj [] []) (aT (.sl 9 (ea bltT)) []):=by
 refine Spec.ofN Tryz.func205 rfl Tryz.ntmps205 rfl ?_
 refine am (ai (bJ _ (rfl:_=AV.v (.slice _ _ _))) (aj (am (ai (aU _ _ aa rfl ag (by (simp <;> rfl)) ah rfl) ?_))))
 exact ke rfl (aj (aE (aX (.inr rfl) rfl (.tmp (rfl:_=AV.sl _ _)) (Le.out [] [] .sl rfl rfl rfl trivial trivial))))
theorem lb (t:Tx):Spec Tryz.prog 225 (bj [.v (bt t)] []) (aT (.v (.bool (tO t))) []):=by
 refine Spec.ofN Tryz.func225 rfl Tryz.ntmps225 rfl ?_
 refine am (ci rfl (aj (am (ai (aF aa (by repeat' (exact dR)) (eT) rfl rfl) ?_))))
 refine dQ rfl (ai (aF aa al (cH bltT 9 rfl ab t) rfl rfl) ?_)
 refine cM rfl (dx (fun hg6=> ?_) (fun hg6=> ?_))
 ·skip
  refine aW rfl rfl ah ?_
  refine aW rfl rfl ah ?_
  refine aW rfl rfl ah ?_
  refine ai (aG _ _ _ rfl (rfl:_=AV.v (.bool _))) (ci rfl (aj (aE (aX (.inr rfl) rfl (.tmp (rfl:_=AV.v (.bool _))) (Le.out [] [] (hG ?_) rfl rfl rfl trivial trivial)))))
  unfold tO
  (rw [decide_eq_true hg6];rfl)
 ·skip
  refine ay rfl rfl (aU _ _ aa rfl ag (by (simp <;> rfl)) ah rfl) ?_
  refine ay rfl rfl (aC _ (rfl:_=AV.v (.string _))) (ay rfl rfl (aF aa al (cH Js 19 rfl ab t) rfl rfl) ?_)
  refine ai (aG _ _ _ rfl (rfl:_=AV.v (.bool _))) (ci rfl (aj (aE (aX (.inr rfl) rfl (.tmp (rfl:_=AV.v (.bool _))) (Le.out [] [] (hG ?_) rfl rfl rfl trivial trivial)))))
  unfold tO
  (rw [decide_eq_false hg6];rfl)
theorem dT {T:List Tk} {i:Nat} (h:i < T.length):bT T i < T.length:=by unfold bT;split <;> omega
abbrev dL (T:List Tk) (i:Nat) (N:List Tx):List (aJ×Cells):=[((0,9), .box 222 [.sl T.length (qT T), .v (.int .i64 (i:Int)), .v (.int .i64 0), .v (.int .i64 0), .sl N.length (ea N)])]
theorem bV (T:List Tk) (i:Nat) (N:List Tx) (hi:i < T.length):
  Spec Tryz.prog 160 (bh [.ptr (0,9) 0] (dL T i N)) (bl (.v (bt (dc T i).t)) (dL T i N) [(0,9)] [(0,9)]):=by
 refine Spec.ofNI Tryz.func160 rfl Tryz.ntmps160 rfl ?_
 refine am (jp rfl (aj (aq (bu 12 [3,4,5,6,7,8,9,10,11,12,13,2] [] ae ae rfl (aK rfl) (rfl:_=[_,_,_,_,_,_,_,_,_,_,_,_]) (rfl:_=[]) ?_))))
 refine ap (_,[]) (fun τ=> aC _ (rfl:_=AV.ptr _ _)) ?_
 refine el rfl ?_
 refine ap (_,[]) (fun τ=> aV _ rfl rfl) ?_
 refine eo rfl ?_
 refine ap (_,[]) (fun τ=> aI _ aa rfl rfl rfl) ?_
 refine ep rfl ?_
 refine ap (_,[]) (fun τ=> aM _ aa rfl rfl (rfl:_=some (AV.sl _ _))) ?_
 refine ew rfl ?_
 refine ap (_,[]) (fun τ=> aC _ (rfl:_=AV.ptr _ _)) ?_
 refine eF rfl ?_
 refine ap (_,[]) (fun τ=> aV _ rfl rfl) ?_
 refine eV rfl ?_
 refine ap (_,[]) (fun τ=> aI _ aa rfl rfl rfl) ?_
 refine fF rfl ?_
 refine ap (_,[]) (fun τ=> aM _ aa rfl rfl (rfl:_=some (AV.v (.int _ _)))) ?_
 refine iu rfl ?_
 refine ap (_,[]) (fun τ=> bi _ _ aa rfl rfl _ rfl ab (by (simp only [aZ,bq,bo,bG,bE];omega)) ag) ?_
 refine ig rfl ?_
 refine ap (_,[]) (fun τ=> dn _ aa rfl rfl) ?_
 refine eO rfl ?_
 refine ap (_,[]) (fun τ=> bH _ aa rfl (by exact mc _ _ ab) rfl) ?_
 refine fc rfl ?_
 refine ap (_,[]) (fun τ=> bJ _ (rfl:_=AV.v (.string _))) ?_
 refine gU rfl (bg ⟨rfl,?_⟩)
 exact aj (aE (aX (.inr rfl) rfl (.tmp (rfl:_=AV.v _)) (Le.outI [] [] .v rfl rfl rfl trivial ob tr rfl)))
theorem dK (T:List Tk) (i:Nat) (N:List Tx) (hi:i < T.length):
  Spec Tryz.prog 197 (bh [.ptr (0,9) 0] (dL T i N)) (bl (.v (.bool (ee T i))) (dL T i N) [(0,9)] [(0,9)]):=by
 refine Spec.ofNI Tryz.func197 rfl Tryz.ntmps197 rfl ?_
 refine am (ci rfl (aj (aq (bu 28 [3,4,5,6,7,8,9,10,11,12,13,14,15,16,17,18,19,20,21,22,23,24,25,26,27,28,29,2] [] ae ae rfl (aK rfl) (rfl:_=[_,_,_,_,_,_,_,_,_,_,_,_,_,_,_,_,_,_,_,_,_,_,_,_,_,_,_,_]) (rfl:_=[]) ?_))))
 refine ap (_,[]) (fun τ=> aC _ (rfl:_=AV.ptr _ _)) ?_
 refine el rfl ?_
 refine ap (_,[]) (fun τ=> aV _ rfl rfl) ?_
 refine eo rfl ?_
 refine ap (_,[]) (fun τ=> aI _ aa rfl rfl rfl) ?_
 refine ep rfl ?_
 refine ap (_,[]) (fun τ=> aM _ aa rfl rfl (rfl:_=some (AV.sl _ _))) ?_
 refine ew rfl ?_
 refine ap (_,[]) (fun τ=> aC _ (rfl:_=AV.ptr _ _)) ?_
 refine eF rfl ?_
 refine ap (_,[]) (fun τ=> aV _ rfl rfl) ?_
 refine eV rfl ?_
 refine ap (_,[]) (fun τ=> aI _ aa rfl rfl rfl) ?_
 refine fF rfl ?_
 refine ap (_,[]) (fun τ=> aM _ aa rfl rfl (rfl:_=some (AV.v (.int _ _)))) ?_
 refine iu rfl ?_
 refine ap (_,[]) (fun τ=> bi _ _ aa rfl rfl _ rfl ab (by (simp only [aZ,bq,bo,bG,bE];omega)) ag) ?_
 refine ig rfl ?_
 refine ap (_,[]) (fun τ=> dn _ aa rfl rfl) ?_
 refine eO rfl ?_
 refine ap (_,[]) (fun τ=> bH _ aa rfl (by exact oN _ _ ab) rfl) ?_
 refine fc rfl ?_
 refine ap (_,[]) (fun τ=> br _ _ rfl rfl rfl) ?_
 refine gU rfl ?_
 refine ap (_,[]) (fun τ=> aC _ (rfl:_=AV.v (.bool _))) ?_
 refine mM (fun hg15=> ?_) (fun hg15=> ?_)
 ·skip
  have hr:ee T i= !tO (dc T i).t:=by unfold ee;rw [decide_eq_true ab];rfl
  refine gY rfl ?_
  refine bQ (_,[]) rfl (fun τ=> rfl) (fun τ=> aC _ (rfl:_=AV.ptr _ _)) ?_
  refine jm rfl ?_
  refine bQ (_,[]) rfl (fun τ=> rfl) (fun τ=> aV _ rfl rfl) ?_
  refine lU rfl ?_
  refine bQ (_,[]) rfl (fun τ=> rfl) (fun τ=> aI _ aa rfl rfl rfl) ?_
  refine lQ rfl ?_
  refine bQ (_,[]) rfl (fun τ=> rfl) (fun τ=> aM _ aa rfl rfl (rfl:_=some (AV.sl _ _))) ?_
  refine vN rfl ?_
  refine bQ (_,[]) rfl (fun τ=> rfl) (fun τ=> aC _ (rfl:_=AV.ptr _ _)) ?_
  refine xT rfl ?_
  refine bQ (_,[]) rfl (fun τ=> rfl) (fun τ=> aV _ rfl rfl) ?_
  refine wz rfl ?_
  refine bQ (_,[]) rfl (fun τ=> rfl) (fun τ=> aI _ aa rfl rfl rfl) ?_
  refine AQ rfl ?_
  refine bQ (_,[]) rfl (fun τ=> rfl) (fun τ=> aM _ aa rfl rfl (rfl:_=some (AV.v (.int _ _)))) ?_
  refine AT rfl ?_
  refine bQ (_,[]) rfl (fun τ=> rfl) (fun τ=> bi _ _ aa rfl rfl _ rfl ab (by (simp only [aZ,bq,bo,bG,bE];omega)) ag) ?_
  refine Al rfl ?_
  refine bQ (_,[]) rfl (fun τ=> rfl) (fun τ=> dn _ aa rfl rfl) ?_
  refine AL rfl ?_
  refine bQ (_,[]) rfl (fun τ=> rfl) (fun τ=> bH _ aa rfl (by exact mc _ _ ab) rfl) ?_
  refine Bb rfl ?_
  refine bQ (_,[]) rfl (fun τ=> rfl) (fun τ=> (aF aa al (lb (dc T i).t) rfl rfl)) ?_
  refine zL rfl ?_
  refine bQ (_,[]) rfl (fun τ=> rfl) (fun τ=> da _ rfl rfl) ?_
  refine AX rfl ?_
  refine ap (_,[]) (fun τ=> aG _ _ _ rfl (rfl:_=AV.v (.bool _))) ?_
  refine Aq rfl ?_
  refine ap (_,[]) (fun τ=> bJ _ (rfl:_=AV.v (.bool _))) ?_
  refine AN rfl (bg ⟨rfl,?_⟩)
  exact aj (aE (aX (.inr rfl) rfl (.tmp (rfl:_=AV.v (.bool _))) (Le.outI [] [] (hG hr) rfl rfl rfl trivial ob tr rfl)))
 ·skip
  have hr:ee T i=false:=by unfold ee;rw [decide_eq_false ab];rfl
  refine gY rfl ?_
  refine cQ rfl (fun τ=> rfl) ah ?_
  refine jm rfl ?_
  refine cQ rfl (fun τ=> rfl) ah ?_
  refine lU rfl ?_
  refine cQ rfl (fun τ=> rfl) ah ?_
  refine lQ rfl ?_
  refine cQ rfl (fun τ=> rfl) ah ?_
  refine vN rfl ?_
  refine cQ rfl (fun τ=> rfl) ah ?_
  refine xT rfl ?_
  refine cQ rfl (fun τ=> rfl) ah ?_
  refine wz rfl ?_
  refine cQ rfl (fun τ=> rfl) ah ?_
  refine AQ rfl ?_
  refine cQ rfl (fun τ=> rfl) ah ?_
  refine AT rfl ?_
  refine cQ rfl (fun τ=> rfl) ah ?_
  refine Al rfl ?_
  refine cQ rfl (fun τ=> rfl) ah ?_
  refine AL rfl ?_
  refine cQ rfl (fun τ=> rfl) ah ?_
  refine Bb rfl ?_
  refine cQ rfl (fun τ=> rfl) ah ?_
  refine zL rfl ?_
  refine cQ rfl (fun τ=> rfl) ah ?_
  refine AX rfl ?_
  refine ap (_,[]) (fun τ=> aG _ _ _ rfl (rfl:_=AV.v (.bool _))) ?_
  refine Aq rfl ?_
  refine ap (_,[]) (fun τ=> bJ _ (rfl:_=AV.v (.bool _))) ?_
  refine AN rfl (bg ⟨rfl,?_⟩)
  exact aj (aE (aX (.inr rfl) rfl (.tmp (rfl:_=AV.v (.bool _))) (Le.outI [] [] (hG hr) rfl rfl rfl trivial ob tr rfl)))
theorem cB (T:List Tk) (i:Nat) (N:List Tx) (hi:i < T.length) (hT:T.length≤100000):
  Spec Tryz.prog 196 (bh [.ptr (0,9) 0] (dL T i N)) (bl (.tup []) (dL T (bT T i) N) [(0,9)] [(0,9)]):=by
 refine Spec.ofNI Tryz.func196 rfl Tryz.ntmps196 rfl ?_
 refine aq (bu 11 [2,3,4,5,6,7,8,9,10,11,12] [] ae ae rfl (aK rfl) (rfl:_=[_,_,_,_,_,_,_,_,_,_,_]) (rfl:_=[]) ?_)
 refine ap (_,[]) (fun τ=> aC _ (rfl:_=AV.ptr _ _)) ?_
 refine el rfl ?_
 refine ap (_,[]) (fun τ=> aV _ rfl rfl) ?_
 refine eo rfl ?_
 refine ap (_,[]) (fun τ=> aI _ aa rfl rfl rfl) ?_
 refine ep rfl ?_
 refine ap (_,[]) (fun τ=> aM _ aa rfl rfl (rfl:_=some (AV.v (.int _ _)))) ?_
 refine ew rfl ?_
 refine ap (_,[]) (fun τ=> bc _ _ rfl rfl (be ab)) ?_
 refine eF rfl ?_
 refine ap (_,[]) (fun τ=> aC _ (rfl:_=AV.ptr _ _)) ?_
 refine eV rfl ?_
 refine ap (_,[]) (fun τ=> aV _ rfl rfl) ?_
 refine fF rfl ?_
 refine ap (_,[]) (fun τ=> aI _ aa rfl rfl rfl) ?_
 refine iu rfl ?_
 refine ap (_,[]) (fun τ=> aM _ aa rfl rfl (rfl:_=some (AV.sl _ _))) ?_
 refine ig rfl ?_
 refine ap (_,[]) (fun τ=> bI _ aa rfl) ?_
 refine eO rfl ?_
 refine ap (_,[]) (fun τ=> bp _ _ rfl rfl rfl) ?_
 refine fc rfl (bg ⟨rfl,?_⟩)
 refine aj (aO rfl (fun hc12=> ?_) (fun hc12=> ?_))
 ·skip
  have ht:bT T i=i+1:=by unfold bT;rw [if_pos ab]
  refine an (bn rfl (ai (aV _ rfl rfl) (bz rfl rfl rfl (cI rfl rfl rfl (ai (bc _ _ rfl rfl (be ab)) ?_)))))
  exact ai (aV _ rfl rfl) (bz rfl rfl rfl (bO rfl rfl rfl rfl rfl rfl (ax (fo (.inl rfl) rfl (Le.outI [] [] (.tup rfl bf) rfl rfl rfl trivial ⟨⟨rfl,⟨_,rfl, .box rfl (aD .sl (aD (bY (by rw [ht] <;> omega)) lz))⟩,rfl⟩,trivial⟩ tr rfl)))))
 ·skip
  have ht:bT T i=i:=by unfold bT;rw [if_neg ab]
  exact bB (fo (.inl rfl) rfl (Le.outI [] [] (.tup rfl bf) rfl rfl rfl trivial ⟨⟨rfl,⟨_,rfl, .box rfl (aD .sl (aD (bY (by rw [ht] <;> omega)) lz))⟩,rfl⟩,trivial⟩ tr rfl))
theorem fu (T:List Tk) (i j:Nat) (N:List Tx) (s:Tx) (hi:i < T.length) (hT:T.length≤100000) (h:fZ T s i=some j):
  Spec Tryz.prog 162 (bh [.ptr (0,9) 0, .v (bt s)] (dL T i N)) (bl (.tup []) (dL T j N) [(0,9)] [(0,9)]):=by
 have ⟨hs,hj⟩:(dc T i).t=s∧bT T i=j:=by
  unfold fZ at h
  split at h
  ·exact ⟨by assumption,Option.some.inj h⟩
  ·cases h
 subst hs
 subst hj
 refine Spec.ofNI Tryz.func162 rfl Tryz.ntmps162 rfl ?_
 refine aq (am (bn rfl (ai (aV _ rfl rfl) (bz rfl rfl rfl (cI rfl rfl rfl (jq rfl rfl rfl (cM rfl (ay rfl rfl (aC _ (rfl:_=AV.ptr _ _)) (ay rfl rfl (bw aa _ _ ar (bV T i N hi) tr rfl ae (by simp)) ?_)))))))))
 refine ay rfl rfl (aC _ (rfl:_=AV.v (.string _))) (ay rfl rfl (qk (r:=false) _ _ Tryz.underlying9 rfl rfl (by exact bne_self_eq_false _)) ?_)
 refine ai (aG _ _ _ rfl (rfl:_=AV.v (.bool _))) (aj (aS rfl rfl (aL (am (bn rfl (ai (aV _ rfl rfl) (bz rfl rfl rfl (cI rfl rfl rfl (jq rfl rfl rfl (aj ?_))))))))))
 refine bC rfl rfl ?_
 refine aN (σ':=aA 28 [(0,_)] [((0,9),_)] [(0,9)] [(0,9)]) kp ?_
 refine an (bn rfl (ai (aQ (cB T i N hi hT)) ?_))
 exact ax (fo (.inl rfl) rfl (Le.outI [] [] (.tup rfl bf) rfl rfl rfl trivial ob tr rfl))
theorem jw {T:List Tk} {s:Tx} {lv i j:Nat} (h:pT T s lv i=some j):lv≤20∧fZ T s i=some j:=by
 unfold pT at h
 split at h
 ·cases h
 ·rename_i hn
  refine ⟨?_,h⟩
  unfold fZ at h
  split at h
  ·rename_i ht
   exact Nat.le_of_not_lt fun hl=> hn ⟨ht,hl⟩
  ·cases h
theorem iC {T:List Tk} {s:Tx} {i j:Nat} (h:fZ T s i=some j) (hi:i < T.length):j < T.length:=by
 unfold fZ at h
 split at h
 ·rw [← Option.some.inj h];exact dT hi
 ·cases h
theorem mQ (T:List Tk) (i j:Nat) (N:List Tx) (s:Tx) (lv:Nat) (hi:i < T.length) (hT:T.length≤100000) (h:pT T s lv i=some j):
  Spec Tryz.prog 201 (bh [.ptr (0,9) 0, .v (bt s), .v (.int .i64 (lv:Int))] (dL T i N)) (bl (.tup []) (dL T j N) [(0,9)] [(0,9)]):=by
 obtain ⟨hl,he⟩:=jw h
 refine Spec.ofNI Tryz.func201 rfl Tryz.ntmps201 rfl ?_
 refine aq (am (bn rfl (ai (aV _ rfl rfl) (bz rfl rfl rfl (cI rfl rfl rfl (jq rfl rfl rfl (cM rfl (ay rfl rfl (aC _ (rfl:_=AV.ptr _ _)) (ay rfl rfl (bw aa _ _ ar (bV T i N hi) tr rfl ae (by simp)) ?_)))))))))
 refine ay rfl rfl (aC _ (rfl:_=AV.v (.string _))) (ay rfl rfl (aY _ _ Tryz.underlying9 rfl rfl rfl) (ai (aG _ _ _ rfl (rfl:_=AV.v (.bool _))) (cM rfl (dx (fun hg17=> ?_) (fun hg17=> ?_)))))
 ·skip
  refine ay rfl rfl (aC _ (rfl:_=AV.v (.int _ _))) (ay rfl rfl (dB (r:=false) _ _ rfl rfl (decide_eq_false ab)) ?_)
  refine ai (aG _ _ _ rfl (rfl:_=AV.v (.bool _))) (aj (aS rfl rfl (aL ?_)))
  refine aN (σ':=aA 30 [(0,_),(1,_)] [((0,9),_)] [(0,9)] [(0,9)]) kp ?_
  refine an (bn rfl (dQ rfl (ai (aQ (fu T i j N s hi hT he)) ?_)))
  exact ax (fo (.inl rfl) rfl (Le.outI [] [] (.tup rfl bf) rfl rfl rfl trivial ob tr rfl))
 ·skip
  refine aW rfl rfl ah ?_
  refine aW rfl rfl ah ?_
  refine ai (aG _ _ _ rfl (rfl:_=AV.v (.bool _))) (aj (aS rfl rfl (aL ?_)))
  refine aN (σ':=aA 30 [(0,_),(1,_)] [((0,9),_)] [(0,9)] [(0,9)]) kp ?_
  refine an (bn rfl (dQ rfl (ai (aQ (fu T i j N s hi hT he)) ?_)))
  exact ax (fo (.inl rfl) rfl (Le.outI [] [] (.tup rfl bf) rfl rfl rfl trivial ob tr rfl))
theorem ka (T:List Tk) (i:Nat) (N:List Tx) (most:Nat) (hi:i < T.length) (hT:T.length≤100000) (hm:most≤1000) (r:Nat×Nat) (h:ni T most i=some r):
  Spec Tryz.prog 200 (bh [.ptr (0,9) 0, .v (.int .i64 (most:Int))] (dL T i N)) (bl (.v (.int .i64 (r.1:Int))) (dL T r.2 N) [(0,9)] [(0,9)]):=by
 have ⟨h1,h2,h3⟩:(dc T i).k=2∧(dc T i).n≤most∧r=((dc T i).n,bT T i):=by
  unfold ni at h
  split at h
  ·rename_i hx;exact ⟨hx.1,hx.2,(Option.some.inj h).symm⟩
  ·cases h
 subst h3
 refine Spec.ofNI Tryz.func200 rfl Tryz.ntmps200 rfl ?_
 refine am (ba rfl (aj (aq (bu 11 [6,7,8,9,10,11,12,13,14,15,5] [(5,0)] ae ae rfl (aK rfl) (rfl:_=[_,_,_,_,_,_,_,_,_,_,_]) (rfl:_=[_]) ?_))))
 refine ap (_,[]) (fun τ=> aC _ (rfl:_=AV.ptr _ _)) ?_
 refine el rfl ?_
 refine ap (_,[]) (fun τ=> aV _ rfl rfl) ?_
 refine eo rfl ?_
 refine ap (_,[]) (fun τ=> aI _ aa rfl rfl rfl) ?_
 refine ep rfl ?_
 refine ap (_,[]) (fun τ=> aM _ aa rfl rfl (rfl:_=some (AV.sl _ _))) ?_
 refine ew rfl ?_
 refine ap (_,[]) (fun τ=> aC _ (rfl:_=AV.ptr _ _)) ?_
 refine eF rfl ?_
 refine ap (_,[]) (fun τ=> aV _ rfl rfl) ?_
 refine eV rfl ?_
 refine ap (_,[]) (fun τ=> aI _ aa rfl rfl rfl) ?_
 refine fF rfl ?_
 refine ap (_,[]) (fun τ=> aM _ aa rfl rfl (rfl:_=some (AV.v (.int _ _)))) ?_
 refine iu rfl ?_
 refine ap (_,[]) (fun τ=> bi _ _ aa rfl rfl _ rfl ab (by (simp only [aZ,bq,bo,bG,bE];omega)) ag) ?_
 refine ig rfl ?_
 refine ap (_,[]) (fun τ=> cp _ aa rfl (by exact mi _ _ hi) rfl) ?_
 refine eO rfl ?_
 refine ap (_,[((5,0),_)]) (fun τ=> az (5,0) aa rfl rfl) ?_
 refine fc rfl (bg ⟨rfl,?_⟩)
 refine bO rfl rfl rfl rfl rfl rfl (aj (aq (am (bz rfl rfl rfl (cI rfl rfl rfl (ai (cg _ _ rfl rfl rfl) (aj (aS rfl (by rw [h1];rfl) ?_))))))))
 refine aq ?_
 refine aN (σ':=aA 44 [(0,_),(1,_),(5,_)] [((0,9),_),((5,0),_)] [(0,9)] [(0,9)]) kp ?_
 refine an (bz rfl rfl rfl (cI rfl rfl rfl (aP rfl (ai (dB _ _ rfl rfl rfl) (aj (aS rfl (decide_eq_false ab) ?_))))))
 refine aL (aq (am (bn rfl (ai (aV _ rfl rfl) (bz rfl rfl rfl (cI rfl rfl rfl (ai (cg (r:=false) _ _ rfl rfl rfl) (aj (aS rfl rfl (aL ?_))))))))))
 refine am (bn rfl (ai (aQ (cB T i N hi hT)) ?_))
 exact aj (am (bz rfl rfl rfl (cI rfl rfl rfl (ba rfl (aj (aE (aX (.inr rfl) rfl (.tmp (rfl:_=AV.v _)) (Le.outI [] [] .v rfl rfl rfl trivial ob tr rfl))))))))
abbrev zO (T:List Tk) (i:Nat) (N:List Tx):List (aJ×Cells):=[((0,9), .box 222 [.sl T.length (qT T), .v (.int .i64 (i:Int)), .v (.int .i64 0), .v (.int .i64 0), .ref (1,9) 0 N.length]),((1,9), .row 9 1 (ea N))]
theorem eG (T:List Tk) (i:Nat) (N:List Tx) (hi:i < T.length):
  Spec Tryz.prog 160 (bh [.ptr (0,9) 0] (zO T i N)) (bl (.v (bt (dc T i).t)) (zO T i N) [(0,9),(1,9)] [(0,9),(1,9)]):=by
 refine Spec.ofNI Tryz.func160 rfl Tryz.ntmps160 rfl ?_
 refine am (jp rfl (aj (aq (bu 12 [3,4,5,6,7,8,9,10,11,12,13,2] [] ae ae rfl (aK rfl) (rfl:_=[_,_,_,_,_,_,_,_,_,_,_,_]) (rfl:_=[]) ?_))))
 refine ap (_,[]) (fun τ=> aC _ (rfl:_=AV.ptr _ _)) ?_
 refine el rfl ?_
 refine ap (_,[]) (fun τ=> aV _ rfl rfl) ?_
 refine eo rfl ?_
 refine ap (_,[]) (fun τ=> aI _ aa rfl rfl rfl) ?_
 refine ep rfl ?_
 refine ap (_,[]) (fun τ=> aM _ aa rfl rfl (rfl:_=some (AV.sl _ _))) ?_
 refine ew rfl ?_
 refine ap (_,[]) (fun τ=> aC _ (rfl:_=AV.ptr _ _)) ?_
 refine eF rfl ?_
 refine ap (_,[]) (fun τ=> aV _ rfl rfl) ?_
 refine eV rfl ?_
 refine ap (_,[]) (fun τ=> aI _ aa rfl rfl rfl) ?_
 refine fF rfl ?_
 refine ap (_,[]) (fun τ=> aM _ aa rfl rfl (rfl:_=some (AV.v (.int _ _)))) ?_
 refine iu rfl ?_
 refine ap (_,[]) (fun τ=> bi _ _ aa rfl rfl _ rfl ab (by (simp only [aZ,bq,bo,bG,bE];omega)) ag) ?_
 refine ig rfl ?_
 refine ap (_,[]) (fun τ=> dn _ aa rfl rfl) ?_
 refine eO rfl ?_
 refine ap (_,[]) (fun τ=> bH _ aa rfl (by exact mc _ _ ab) rfl) ?_
 refine fc rfl ?_
 refine ap (_,[]) (fun τ=> bJ _ (rfl:_=AV.v (.string _))) ?_
 refine gU rfl (bg ⟨rfl,?_⟩)
 exact aj (aE (aX (.inr rfl) rfl (.tmp (rfl:_=AV.v _)) (Le.outI [] [] .v rfl rfl rfl trivial ob tr rfl)))
theorem tA (T:List Tk) (i:Nat) (N:List Tx) (hi:i < T.length):
  Spec Tryz.prog 197 (bh [.ptr (0,9) 0] (zO T i N)) (bl (.v (.bool (ee T i))) (zO T i N) [(0,9),(1,9)] [(0,9),(1,9)]):=by
 refine Spec.ofNI Tryz.func197 rfl Tryz.ntmps197 rfl ?_
 refine am (ci rfl (aj (aq (bu 28 [3,4,5,6,7,8,9,10,11,12,13,14,15,16,17,18,19,20,21,22,23,24,25,26,27,28,29,2] [] ae ae rfl (aK rfl) (rfl:_=[_,_,_,_,_,_,_,_,_,_,_,_,_,_,_,_,_,_,_,_,_,_,_,_,_,_,_,_]) (rfl:_=[]) ?_))))
 refine ap (_,[]) (fun τ=> aC _ (rfl:_=AV.ptr _ _)) ?_
 refine el rfl ?_
 refine ap (_,[]) (fun τ=> aV _ rfl rfl) ?_
 refine eo rfl ?_
 refine ap (_,[]) (fun τ=> aI _ aa rfl rfl rfl) ?_
 refine ep rfl ?_
 refine ap (_,[]) (fun τ=> aM _ aa rfl rfl (rfl:_=some (AV.sl _ _))) ?_
 refine ew rfl ?_
 refine ap (_,[]) (fun τ=> aC _ (rfl:_=AV.ptr _ _)) ?_
 refine eF rfl ?_
 refine ap (_,[]) (fun τ=> aV _ rfl rfl) ?_
 refine eV rfl ?_
 refine ap (_,[]) (fun τ=> aI _ aa rfl rfl rfl) ?_
 refine fF rfl ?_
 refine ap (_,[]) (fun τ=> aM _ aa rfl rfl (rfl:_=some (AV.v (.int _ _)))) ?_
 refine iu rfl ?_
 refine ap (_,[]) (fun τ=> bi _ _ aa rfl rfl _ rfl ab (by (simp only [aZ,bq,bo,bG,bE];omega)) ag) ?_
 refine ig rfl ?_
 refine ap (_,[]) (fun τ=> dn _ aa rfl rfl) ?_
 refine eO rfl ?_
 refine ap (_,[]) (fun τ=> bH _ aa rfl (by exact oN _ _ ab) rfl) ?_
 refine fc rfl ?_
 refine ap (_,[]) (fun τ=> br _ _ rfl rfl rfl) ?_
 refine gU rfl ?_
 refine ap (_,[]) (fun τ=> aC _ (rfl:_=AV.v (.bool _))) ?_
 refine mM (fun hg15=> ?_) (fun hg15=> ?_)
 ·skip
  have hr:ee T i= !tO (dc T i).t:=by unfold ee;rw [decide_eq_true ab];rfl
  refine gY rfl ?_
  refine bQ (_,[]) rfl (fun τ=> rfl) (fun τ=> aC _ (rfl:_=AV.ptr _ _)) ?_
  refine jm rfl ?_
  refine bQ (_,[]) rfl (fun τ=> rfl) (fun τ=> aV _ rfl rfl) ?_
  refine lU rfl ?_
  refine bQ (_,[]) rfl (fun τ=> rfl) (fun τ=> aI _ aa rfl rfl rfl) ?_
  refine lQ rfl ?_
  refine bQ (_,[]) rfl (fun τ=> rfl) (fun τ=> aM _ aa rfl rfl (rfl:_=some (AV.sl _ _))) ?_
  refine vN rfl ?_
  refine bQ (_,[]) rfl (fun τ=> rfl) (fun τ=> aC _ (rfl:_=AV.ptr _ _)) ?_
  refine xT rfl ?_
  refine bQ (_,[]) rfl (fun τ=> rfl) (fun τ=> aV _ rfl rfl) ?_
  refine wz rfl ?_
  refine bQ (_,[]) rfl (fun τ=> rfl) (fun τ=> aI _ aa rfl rfl rfl) ?_
  refine AQ rfl ?_
  refine bQ (_,[]) rfl (fun τ=> rfl) (fun τ=> aM _ aa rfl rfl (rfl:_=some (AV.v (.int _ _)))) ?_
  refine AT rfl ?_
  refine bQ (_,[]) rfl (fun τ=> rfl) (fun τ=> bi _ _ aa rfl rfl _ rfl ab (by (simp only [aZ,bq,bo,bG,bE];omega)) ag) ?_
  refine Al rfl ?_
  refine bQ (_,[]) rfl (fun τ=> rfl) (fun τ=> dn _ aa rfl rfl) ?_
  refine AL rfl ?_
  refine bQ (_,[]) rfl (fun τ=> rfl) (fun τ=> bH _ aa rfl (by exact mc _ _ ab) rfl) ?_
  refine Bb rfl ?_
  refine bQ (_,[]) rfl (fun τ=> rfl) (fun τ=> (aF aa al (lb (dc T i).t) rfl rfl)) ?_
  refine zL rfl ?_
  refine bQ (_,[]) rfl (fun τ=> rfl) (fun τ=> da _ rfl rfl) ?_
  refine AX rfl ?_
  refine ap (_,[]) (fun τ=> aG _ _ _ rfl (rfl:_=AV.v (.bool _))) ?_
  refine Aq rfl ?_
  refine ap (_,[]) (fun τ=> bJ _ (rfl:_=AV.v (.bool _))) ?_
  refine AN rfl (bg ⟨rfl,?_⟩)
  exact aj (aE (aX (.inr rfl) rfl (.tmp (rfl:_=AV.v (.bool _))) (Le.outI [] [] (hG hr) rfl rfl rfl trivial ob tr rfl)))
 ·skip
  have hr:ee T i=false:=by unfold ee;rw [decide_eq_false ab];rfl
  refine gY rfl ?_
  refine cQ rfl (fun τ=> rfl) ah ?_
  refine jm rfl ?_
  refine cQ rfl (fun τ=> rfl) ah ?_
  refine lU rfl ?_
  refine cQ rfl (fun τ=> rfl) ah ?_
  refine lQ rfl ?_
  refine cQ rfl (fun τ=> rfl) ah ?_
  refine vN rfl ?_
  refine cQ rfl (fun τ=> rfl) ah ?_
  refine xT rfl ?_
  refine cQ rfl (fun τ=> rfl) ah ?_
  refine wz rfl ?_
  refine cQ rfl (fun τ=> rfl) ah ?_
  refine AQ rfl ?_
  refine cQ rfl (fun τ=> rfl) ah ?_
  refine AT rfl ?_
  refine cQ rfl (fun τ=> rfl) ah ?_
  refine Al rfl ?_
  refine cQ rfl (fun τ=> rfl) ah ?_
  refine AL rfl ?_
  refine cQ rfl (fun τ=> rfl) ah ?_
  refine Bb rfl ?_
  refine cQ rfl (fun τ=> rfl) ah ?_
  refine zL rfl ?_
  refine cQ rfl (fun τ=> rfl) ah ?_
  refine AX rfl ?_
  refine ap (_,[]) (fun τ=> aG _ _ _ rfl (rfl:_=AV.v (.bool _))) ?_
  refine Aq rfl ?_
  refine ap (_,[]) (fun τ=> bJ _ (rfl:_=AV.v (.bool _))) ?_
  refine AN rfl (bg ⟨rfl,?_⟩)
  exact aj (aE (aX (.inr rfl) rfl (.tmp (rfl:_=AV.v (.bool _))) (Le.outI [] [] (hG hr) rfl rfl rfl trivial ob tr rfl)))
theorem jr (T:List Tk) (i:Nat) (N:List Tx) (hi:i < T.length) (hT:T.length≤100000):
  Spec Tryz.prog 196 (bh [.ptr (0,9) 0] (zO T i N)) (bl (.tup []) (zO T (bT T i) N) [(0,9),(1,9)] [(0,9),(1,9)]):=by
 refine Spec.ofNI Tryz.func196 rfl Tryz.ntmps196 rfl ?_
 refine aq (bu 11 [2,3,4,5,6,7,8,9,10,11,12] [] ae ae rfl (aK rfl) (rfl:_=[_,_,_,_,_,_,_,_,_,_,_]) (rfl:_=[]) ?_)
 refine ap (_,[]) (fun τ=> aC _ (rfl:_=AV.ptr _ _)) ?_
 refine el rfl ?_
 refine ap (_,[]) (fun τ=> aV _ rfl rfl) ?_
 refine eo rfl ?_
 refine ap (_,[]) (fun τ=> aI _ aa rfl rfl rfl) ?_
 refine ep rfl ?_
 refine ap (_,[]) (fun τ=> aM _ aa rfl rfl (rfl:_=some (AV.v (.int _ _)))) ?_
 refine ew rfl ?_
 refine ap (_,[]) (fun τ=> bc _ _ rfl rfl (be ab)) ?_
 refine eF rfl ?_
 refine ap (_,[]) (fun τ=> aC _ (rfl:_=AV.ptr _ _)) ?_
 refine eV rfl ?_
 refine ap (_,[]) (fun τ=> aV _ rfl rfl) ?_
 refine fF rfl ?_
 refine ap (_,[]) (fun τ=> aI _ aa rfl rfl rfl) ?_
 refine iu rfl ?_
 refine ap (_,[]) (fun τ=> aM _ aa rfl rfl (rfl:_=some (AV.sl _ _))) ?_
 refine ig rfl ?_
 refine ap (_,[]) (fun τ=> bI _ aa rfl) ?_
 refine eO rfl ?_
 refine ap (_,[]) (fun τ=> bp _ _ rfl rfl rfl) ?_
 refine fc rfl (bg ⟨rfl,?_⟩)
 refine aj (aO rfl (fun hc12=> ?_) (fun hc12=> ?_))
 ·skip
  have ht:bT T i=i+1:=by unfold bT;rw [if_pos ab]
  refine an (bn rfl (ai (aV _ rfl rfl) (bz rfl rfl rfl (cI rfl rfl rfl (ai (bc _ _ rfl rfl (be ab)) ?_)))))
  exact ai (aV _ rfl rfl) (bz rfl rfl rfl (bO rfl rfl rfl rfl rfl rfl (ax (fo (.inl rfl) rfl (Le.outI [] [] (.tup rfl bf) rfl rfl rfl trivial ⟨⟨rfl,⟨_,rfl, .box rfl (aD .sl (aD (bY (by rw [ht] <;> omega)) lz))⟩,rfl⟩,⟨rfl,⟨_,rfl, .rowE rfl⟩,rfl⟩,trivial⟩ tr rfl)))))
 ·skip
  have ht:bT T i=i:=by unfold bT;rw [if_neg ab]
  exact bB (fo (.inl rfl) rfl (Le.outI [] [] (.tup rfl bf) rfl rfl rfl trivial ⟨⟨rfl,⟨_,rfl, .box rfl (aD .sl (aD (bY (by rw [ht] <;> omega)) lz))⟩,rfl⟩,⟨rfl,⟨_,rfl, .rowE rfl⟩,rfl⟩,trivial⟩ tr rfl))
theorem qL (T:List Tk) (i j:Nat) (N:List Tx) (s:Tx) (hi:i < T.length) (hT:T.length≤100000) (h:fZ T s i=some j):
  Spec Tryz.prog 162 (bh [.ptr (0,9) 0, .v (bt s)] (zO T i N)) (bl (.tup []) (zO T j N) [(0,9),(1,9)] [(0,9),(1,9)]):=by
 have ⟨hs,hj⟩:(dc T i).t=s∧bT T i=j:=by
  unfold fZ at h
  split at h
  ·exact ⟨by assumption,Option.some.inj h⟩
  ·cases h
 subst hs
 subst hj
 refine Spec.ofNI Tryz.func162 rfl Tryz.ntmps162 rfl ?_
 refine aq (am (bn rfl (ai (aV _ rfl rfl) (bz rfl rfl rfl (cI rfl rfl rfl (jq rfl rfl rfl (cM rfl (ay rfl rfl (aC _ (rfl:_=AV.ptr _ _)) (ay rfl rfl (bw aa _ _ ar (eG T i N hi) tr rfl ae (by simp)) ?_)))))))))
 refine ay rfl rfl (aC _ (rfl:_=AV.v (.string _))) (ay rfl rfl (qk (r:=false) _ _ Tryz.underlying9 rfl rfl (by exact bne_self_eq_false _)) ?_)
 refine ai (aG _ _ _ rfl (rfl:_=AV.v (.bool _))) (aj (aS rfl rfl (aL (am (bn rfl (ai (aV _ rfl rfl) (bz rfl rfl rfl (cI rfl rfl rfl (jq rfl rfl rfl (aj ?_))))))))))
 refine bC rfl rfl ?_
 refine aN (σ':=aA 28 [(0,_)] [((0,9),_),((1,9),_)] [(0,9),(1,9)] [(0,9),(1,9)]) kp ?_
 refine an (bn rfl (ai (dq aa [] ar (jr T i N hi hT) ob tr ae) ?_))
 exact ax (fo (.inl rfl) rfl (Le.outI [] [] (.tup rfl bf) rfl rfl rfl trivial ob tr rfl))

abbrev mS (d:Nd):AV:= .agg [.v (.int .i64 (d.k:Int)), .v (.int .i64 (d.n:Int)), .v (bt d.s), .sl d.kn d.kids]
abbrev PO (T:List Tk) (N:List Tx) (r:Nd×Nat):St:=bl (mS r.1) (dL T r.2 N) [(0,9)] [(0,9)]
structure PE (T:List Tk) (N:List Tx) (f:Nat):Prop where
 expr: ∀ lv pr i r,lv≤20→1≤pr∧pr≤7→i < T.length→gh T f lv pr i=some r→r.2 < T.length∧Spec Tryz.prog 226 (bh [.ptr (0,9) 0, .v (.int .i64 (lv:Int)), .v (.int .i64 (pr:Int))] (dL T i N)) (PO T N r)
 un: ∀ s lv pr i r,lv≤20→1≤pr∧pr≤7→i < T.length→DT T f s lv pr i=some r→r.2 < T.length∧Spec Tryz.prog 235 (bh [.ptr (0,9) 0, .v (bt s), .v (.int .i64 (lv:Int)), .v (.int .i64 (pr:Int))] (dL T i N)) (PO T N r)
 bin: ∀ lv pr i r,lv≤20→(1≤pr∧pr≤6∧pr≠3)→i < T.length→vU T f lv pr i=some r→r.2 < T.length∧Spec Tryz.prog 236 (bh [.ptr (0,9) 0, .v (.int .i64 (lv:Int)), .v (.int .i64 (pr:Int))] (dL T i N)) (PO T N r)
 nest: ∀ lv i r,lv≤20→i < T.length→pU T f lv i=some r→r.2 < T.length∧Spec Tryz.prog 240 (bh [.ptr (0,9) 0, .v (.int .i64 (lv:Int))] (dL T i N)) (PO T N r)
 prim: ∀ lv i r,lv≤20→i < T.length→sK T f lv i=some r→r.2 < T.length∧Spec Tryz.prog 237 (bh [.ptr (0,9) 0, .v (.int .i64 (lv:Int))] (dL T i N)) (PO T N r)
section
variable {T:List Tk} {N:List Tx}
theorem vp (f:Nat) (ih:PE T N f) (lv pr i:Nat) (r:Nd×Nat) (hl:lv≤20) (hp:1≤pr∧pr≤7) (hi:i < T.length) (h:gh T (f+1) lv pr i=some r):
  r.2 < T.length∧Spec Tryz.prog 226 (bh [.ptr (0,9) 0, .v (.int .i64 (lv:Int)), .v (.int .i64 (pr:Int))] (dL T i N)) (PO T N r):=by
 unfold gh at h
 by_cases h1:pr=3∧(dc T i).t=[33]
 ·rw [if_pos h1] at h
  obtain ⟨ha,hb⟩:=ih.un _ _ _ _ _ hl ab hi h
  refine ⟨ha,?_⟩
  obtain ⟨rfl,h1⟩:=h1
  refine Spec.ofNI Tryz.func226 rfl Tryz.ntmps226 rfl ?_
  refine am (ai (az (6,0) aa rfl rfl) (aj (aq (am (bn rfl (ai (aV _ rfl rfl) (bz rfl rfl rfl (cI rfl rfl rfl (ai (cg (r:=false) _ _ rfl rfl rfl) (aj ?_))))))))))
  refine aS rfl rfl (aL (am (bn rfl (ai (bw aa _ _ ar (bV T i N hi) tr rfl ae (by simp)) ?_))))
  refine jp rfl (aj (aq (am (aP rfl (jq rfl rfl rfl (cM rfl (ay rfl rfl (aC _ (rfl:_=AV.v (.string _))) (ay rfl rfl (aY (r:=true) _ _ Tryz.underlying9 rfl rfl (by rw [h1];rfl)) ?_))))))))
  refine ai (aG _ _ _ rfl (rfl:_=AV.v (.bool _))) (aj (bC rfl rfl (aq ?_)))
  refine aN (σ':=aA 50 [(0,_),(1,_),(6,_),(7,_)] [((0,9),_),((6,0),_)] [(0,9)] [(0,9)]) kp ?_
  exact an (bn rfl (dQ rfl (aP rfl (ai (aQ (hb)) (bO rfl rfl rfl rfl rfl rfl (aj (aE (aX (.inr rfl) rfl (.cellA aa rfl rfl rfl) (Le.outI [] [] (.agg rfl lz) rfl rfl rfl trivial ob tr rfl)))))))))
 rw [if_neg h1] at h
 by_cases h2:pr=3
 ·rw [if_pos h2] at h
  obtain ⟨ha,hb⟩:=ih.bin _ _ _ _ hl ab hi h
  refine ⟨ha,?_⟩
  subst h2
  have h1:(dc T i).t≠[33]:=fun e=> h1 ⟨rfl,e⟩
  refine Spec.ofNI Tryz.func226 rfl Tryz.ntmps226 rfl ?_
  refine am (ai (az (6,0) aa rfl rfl) (aj (aq (am (bn rfl (ai (aV _ rfl rfl) (bz rfl rfl rfl (cI rfl rfl rfl (ai (cg (r:=false) _ _ rfl rfl rfl) (aj ?_))))))))))
  refine aS rfl rfl (aL (am (bn rfl (ai (bw aa _ _ ar (bV T i N hi) tr rfl ae (by simp)) ?_))))
  refine jp rfl (aj (aq (am (aP rfl (jq rfl rfl rfl (cM rfl (ay rfl rfl (aC _ (rfl:_=AV.v (.string _))) (ay rfl rfl (aY (r:=false) _ _ Tryz.underlying9 rfl rfl (beq_eq_false_iff_ne.2 h1)) ?_))))))))
  refine ai (aG _ _ _ rfl (rfl:_=AV.v (.bool _))) (aj (aS rfl rfl (aL (aq (aq ?_)))))
  refine aN (σ':=aA 50 [(0,_),(1,_),(2,_),(6,_),(7,_)] [((0,9),_),((6,0),_)] [(0,9)] [(0,9)]) kp ?_
  refine an (aP rfl (jq rfl rfl rfl (aj (bC rfl rfl (am (bn rfl (aP rfl (ai (aQ (hb)) (bO rfl rfl rfl rfl rfl rfl (aj ?_))))))))))
  exact aE (aX (.inr rfl) rfl (.cellA aa rfl rfl rfl) (Le.outI [] [] (.agg rfl lz) rfl rfl rfl trivial ob tr rfl))
 rw [if_neg h2] at h
 by_cases h3:pr=7∧(dc T i).t=[45]
 ·rw [if_pos h3] at h
  obtain ⟨ha,hb⟩:=ih.un _ _ _ _ _ hl ab hi h
  refine ⟨ha,?_⟩
  obtain ⟨rfl,h3⟩:=h3
  refine Spec.ofNI Tryz.func226 rfl Tryz.ntmps226 rfl ?_
  refine am (ai (az (6,0) aa rfl rfl) (aj (aq (am (bn rfl (ai (aV _ rfl rfl) (bz rfl rfl rfl (cI rfl rfl rfl (ai (cg (r:=false) _ _ rfl rfl rfl) (aj ?_))))))))))
  refine aS rfl rfl (aL (am (bn rfl (ai (bw aa _ _ ar (bV T i N hi) tr rfl ae (by simp)) ?_))))
  refine jp rfl (aj (aq (am (aP rfl (fa rfl rfl rfl (cM rfl (aW rfl rfl ah ?_)))))))
  refine aW rfl rfl ah ?_
  refine ai (aG _ _ _ rfl (rfl:_=AV.v (.bool _))) (aj (aS rfl rfl (aL (aq (aq ?_)))))
  refine aN (σ':=aA 50 [(0,_),(1,_),(2,_),(6,_),(7,_)] [((0,9),_),((6,0),_)] [(0,9)] [(0,9)]) kp ?_
  refine an (aP rfl (fa rfl rfl rfl (aj (aS rfl rfl (aL (aq (am (aP rfl (jq rfl rfl rfl (cM rfl ?_))))))))))
  refine ay rfl rfl (aC _ (rfl:_=AV.v (.string _))) (ay rfl rfl (aY (r:=true) _ _ Tryz.underlying9 rfl rfl (by rw [h3];rfl)) ?_)
  refine ai (aG _ _ _ rfl (rfl:_=AV.v (.bool _))) (aj (bC rfl rfl (am (bn rfl (dQ rfl (aP rfl (ai (aQ (hb)) (bO rfl rfl rfl rfl rfl rfl (aj (aE ?_))))))))))
  exact aX (.inr rfl) rfl (.cellA aa rfl rfl rfl) (Le.outI [] [] (.agg rfl lz) rfl rfl rfl trivial ob tr rfl)
 rw [if_neg h3] at h
 by_cases h4:pr=7
 ·rw [if_pos h4] at h
  obtain ⟨ha,hb⟩:=ih.prim _ _ _ hl hi h
  refine ⟨ha,?_⟩
  subst h4
  have h3:(dc T i).t≠[45]:=fun e=> h3 ⟨rfl,e⟩
  refine Spec.ofNI Tryz.func226 rfl Tryz.ntmps226 rfl ?_
  refine am (ai (az (6,0) aa rfl rfl) (aj (aq (am (bn rfl (ai (aV _ rfl rfl) (bz rfl rfl rfl (cI rfl rfl rfl (ai (cg (r:=false) _ _ rfl rfl rfl) (aj ?_))))))))))
  refine aS rfl rfl (aL (am (bn rfl (ai (bw aa _ _ ar (bV T i N hi) tr rfl ae (by simp)) ?_))))
  refine jp rfl (aj (aq (am (aP rfl (fa rfl rfl rfl (cM rfl (aW rfl rfl ah ?_)))))))
  refine aW rfl rfl ah ?_
  refine ai (aG _ _ _ rfl (rfl:_=AV.v (.bool _))) (aj (aS rfl rfl (aL (aq (aq ?_)))))
  refine aN (σ':=aA 50 [(0,_),(1,_),(2,_),(6,_),(7,_)] [((0,9),_),((6,0),_)] [(0,9)] [(0,9)]) kp ?_
  refine an (aP rfl (fa rfl rfl rfl (aj (aS rfl rfl (aL (aq (am (aP rfl (jq rfl rfl rfl (cM rfl ?_))))))))))
  refine ay rfl rfl (aC _ (rfl:_=AV.v (.string _))) (ay rfl rfl (aY (r:=false) _ _ Tryz.underlying9 rfl rfl (beq_eq_false_iff_ne.2 h3)) ?_)
  refine ai (aG _ _ _ rfl (rfl:_=AV.v (.bool _))) (aj (aS rfl rfl (aL (aq (am (aP rfl (jq rfl rfl rfl (aj (bC rfl rfl (aH fun K13 hK13=> ?_))))))))))
  refine an (bn rfl (aP rfl (ai (aQ (hb)) (bO rfl rfl rfl rfl rfl rfl (ax (hK13 _ ?_))))))
  clear hK13;try clear K13
  exact aE (aX (.inr rfl) rfl (.cellA aa rfl rfl rfl) (Le.outI [] [] (.agg rfl lz) rfl rfl rfl trivial ob tr rfl))
 rw [if_neg h4] at h
 obtain ⟨ha,hb⟩:=ih.bin _ _ _ _ hl ab hi h
 refine ⟨ha,?_⟩
 refine Spec.ofNI Tryz.func226 rfl Tryz.ntmps226 rfl ?_
 refine am (ai (az (6,0) aa rfl rfl) (aj (aq (am (bn rfl (ai (aV _ rfl rfl) (bz rfl rfl rfl (cI rfl rfl rfl (ai (cg (r:=false) _ _ rfl rfl rfl) (aj ?_))))))))))
 refine aS rfl rfl (aL (am (bn rfl (ai (bw aa _ _ ar (bV T i N hi) tr rfl ae (by simp)) ?_))))
 refine jp rfl (aj (aq (am (aP rfl (fa rfl rfl (beq_eq_false_iff_ne.2 ab) ?_)))))
 refine cM rfl (aW rfl rfl ah ?_)
 refine aW rfl rfl ah ?_
 refine ai (aG _ _ _ rfl (rfl:_=AV.v (.bool _))) (aj (aS rfl rfl (aL (aq (aq ?_)))))
 refine aN (σ':=aA 50 [(0,_),(1,_),(2,_),(6,_),(7,_)] [((0,9),_),((6,0),_)] [(0,9)] [(0,9)]) kp ?_
 refine an (aP rfl (fa rfl rfl (beq_eq_false_iff_ne.2 ab) ?_))
 refine aj (aS rfl rfl (aL (aq (am (aP rfl (fa rfl rfl (beq_eq_false_iff_ne.2 ab) ?_))))))
 refine cM rfl (aW rfl rfl ah ?_)
 refine aW rfl rfl ah ?_
 refine ai (aG _ _ _ rfl (rfl:_=AV.v (.bool _))) (aj (aS rfl rfl (aL (aq (am (aP rfl (fa rfl rfl (beq_eq_false_iff_ne.2 ab) ?_)))))))
 refine aj (aS rfl rfl (aL (aH fun K13 hK13=> ?_)))
 refine an (bn rfl (aP rfl (aP rfl (ai (aQ (hb)) (bO rfl rfl rfl rfl rfl rfl (ax (hK13 _ ?_)))))))
 clear hK13;try clear K13
 exact aE (aX (.inr rfl) rfl (.cellA aa rfl rfl rfl) (Le.outI [] [] (.agg rfl lz) rfl rfl rfl trivial ob tr rfl))
theorem BG (hT:T.length≤100000) (f:Nat) (ih:PE T N f) (s:Tx) (lv pr i:Nat) (r:Nd×Nat) (hl:lv≤20) (hp:1≤pr∧pr≤7) (hi:i < T.length) (h:DT T (f+1) s lv pr i=some r):
  r.2 < T.length∧Spec Tryz.prog 235 (bh [.ptr (0,9) 0, .v (bt s), .v (.int .i64 (lv:Int)), .v (.int .i64 (pr:Int))] (dL T i N)) (PO T N r):=by
 unfold DT at h
 simp only [Option.bind_eq_bind,Option.bind_eq_some_iff,Option.pure_def,Option.some.injEq] at h
 obtain ⟨j,hj,⟨d,j2⟩,hd,rfl⟩:=h
 have ho:=jw hj
 have hjl:=iC ho.2 hi
 obtain ⟨ha,hb⟩:=ih.expr _ _ _ _ ho.1 hp hjl hd
 have hopen:=mQ T i j N s (lv+1) hi hT hj
 refine ⟨ha,?_⟩
 refine Spec.ofNI Tryz.func235 rfl Tryz.ntmps235 rfl ?_
 refine am (ai (az (8,0) aa rfl rfl) (aj (am (bn rfl (dQ rfl (aP rfl (ai (bc _ _ rfl rfl (be ab)) ?_)))))))
 refine ai (aQ (hopen)) (aj (aH fun K3 hK3=> ?_))
 refine an (bn rfl (aP rfl (ai (bc _ _ rfl rfl (be ab)) ?_)))
 refine aP rfl (ai (aQ (hb)) (ai (az (9,0) aa rfl rfl) (bO rfl rfl rfl rfl rfl rfl (ax (hK3 _ ?_)))))
 clear hK3;try clear K3
 refine am (dQ rfl (ai (aR _ aa rfl rfl rfl rfl) (ai (aU _ _ aa rfl ag (by (simp <;> rfl)) ah rfl) ?_)))
 refine ai (aB _ aa rfl (by exact (rfl:_=some [_,_,_,_]))) ?_
 exact bO rfl rfl rfl rfl rfl rfl (aj (aE (aX (.inr rfl) rfl (.cellA aa rfl rfl rfl) (Le.outI [] [] (.agg rfl lz) rfl rfl rfl trivial ob tr rfl))))
theorem va (hT:T.length≤100000) (f:Nat) (ih:PE T N f) (lv i:Nat) (r:Nd×Nat) (hl:lv≤20) (hi:i < T.length) (h:pU T (f+1) lv i=some r):
  r.2 < T.length∧Spec Tryz.prog 240 (bh [.ptr (0,9) 0, .v (.int .i64 (lv:Int))] (dL T i N)) (PO T N r):=by
 unfold pU at h
 simp only [Option.bind_eq_bind,Option.bind_eq_some_iff,Option.pure_def,Option.some.injEq] at h
 obtain ⟨j,hj,⟨d,j2⟩,hd,j3,hj3,rfl⟩:=h
 have ho:=jw hj
 have hjl:=iC ho.2 hi
 obtain ⟨ha,hb⟩:=ih.expr _ _ _ _ ho.1 ab hjl hd
 have hopen:=mQ T i j N [40] (lv+1) hi hT hj
 have hexp:=fu T j2 j3 N [41] ha hT hj3
 refine ⟨iC hj3 ha,?_⟩
 refine Spec.ofNI Tryz.func240 rfl Tryz.ntmps240 rfl ?_
 refine am (ai (az (4,0) aa rfl rfl) (aj (am (bn rfl (aP rfl (ai (bc _ _ rfl rfl (be ab)) ?_))))))
 refine ai (aQ (hopen)) (aj (aH fun K3 hK3=> ?_))
 refine an (bn rfl (aP rfl (ai (bc _ _ rfl rfl (be ab)) ?_)))
 refine ai (aQ (hb)) (ai (az (5,0) aa rfl rfl) (bO rfl rfl rfl rfl rfl rfl (ax (hK3 _ ?_))))
 clear hK3;try clear K3
 refine aH fun K4 hK4=> ?_
 refine an (bn rfl (ai (aQ (hexp)) (ax (hK4 _ ?_))))
 clear hK4;try clear K4
 exact am (ai (aR _ aa rfl rfl rfl rfl) (bO rfl rfl rfl rfl rfl rfl (aj (aE (aX (.inr rfl) rfl (.cellA aa rfl rfl rfl) (Le.outI [] [] (.agg rfl lz) rfl rfl rfl trivial ob tr rfl))))))
theorem vk (hT:T.length≤100000) (f:Nat) (ih:PE T N f) (lv i:Nat) (r:Nd×Nat) (hl:lv≤20) (hi:i < T.length) (h:sK T (f+1) lv i=some r):
  r.2 < T.length∧Spec Tryz.prog 237 (bh [.ptr (0,9) 0, .v (.int .i64 (lv:Int))] (dL T i N)) (PO T N r):=by
 have htl:=dT hi
 have htake:=cB T i N hi hT
 unfold sK at h
 simp only at h
 by_cases h1:(dc T i).t=[40]
 ·rw [if_pos h1] at h
  obtain ⟨ha,hb⟩:=ih.nest _ _ _ hl hi h
  refine ⟨ha,?_⟩
  refine Spec.ofNI Tryz.func237 rfl Tryz.ntmps237 rfl ?_
  refine am (ai (az (4,0) aa rfl rfl) (aj (aq (bu 11 [8,9,10,11,12,13,14,15,16,17,5] [(5,0)] ae ae rfl (aK rfl) (rfl:_=[_,_,_,_,_,_,_,_,_,_,_]) (rfl:_=[_]) ?_))))
  refine ap (_,[]) (fun τ=> aC _ (rfl:_=AV.ptr _ _)) ?_
  refine el rfl ?_
  refine ap (_,[]) (fun τ=> aV _ rfl rfl) ?_
  refine eo rfl ?_
  refine ap (_,[]) (fun τ=> aI _ aa rfl rfl rfl) ?_
  refine ep rfl ?_
  refine ap (_,[]) (fun τ=> aM _ aa rfl rfl (rfl:_=some (AV.sl _ _))) ?_
  refine ew rfl ?_
  refine ap (_,[]) (fun τ=> aC _ (rfl:_=AV.ptr _ _)) ?_
  refine eF rfl ?_
  refine ap (_,[]) (fun τ=> aV _ rfl rfl) ?_
  refine eV rfl ?_
  refine ap (_,[]) (fun τ=> aI _ aa rfl rfl rfl) ?_
  refine fF rfl ?_
  refine ap (_,[]) (fun τ=> aM _ aa rfl rfl (rfl:_=some (AV.v (.int _ _)))) ?_
  refine iu rfl ?_
  refine ap (_,[]) (fun τ=> bi _ _ aa rfl rfl _ rfl ab (by (simp only [aZ,bq,bo,bG,bE];omega)) ag) ?_
  refine ig rfl ?_
  refine ap (_,[]) (fun τ=> cp _ aa rfl (by exact mi _ _ hi) rfl) ?_
  refine eO rfl ?_
  refine ap (_,[((5,0),_)]) (fun τ=> az (5,0) aa rfl rfl) ?_
  refine fc rfl (bg ⟨rfl,?_⟩)
  refine bO rfl rfl rfl rfl rfl rfl (aj (aq (am (bz rfl rfl rfl (ai (aM _ aa rfl rfl (rfl:_=some (AV.v (.string _)))) (ai (aY (r:=true) _ _ Tryz.underlying9 rfl rfl (by rw [h1];rfl)) ?_))))))
  refine aj (bC rfl rfl (aq ?_))
  refine aN (σ':=aA 72 [(0,_),(1,_),(4,_)] [((0,9),_),((4,0),_)] [(0,9)] [(0,9)]) kp ?_
  exact an (bn rfl (aP rfl (ai (aQ (hb)) (bO rfl rfl rfl rfl rfl rfl (aj (aE (aX (.inr rfl) rfl (.cellA aa rfl rfl rfl) (Le.outI [] [] (.agg rfl lz) rfl rfl rfl trivial ob tr rfl))))))))
 rw [if_neg h1] at h
 by_cases h2:(dc T i).t=wO
 ·rw [if_pos h2] at h
  simp only [Option.bind_eq_bind,Option.bind_eq_some_iff,Option.pure_def,Option.some.injEq] at h
  obtain ⟨⟨d,j⟩,hd,rfl⟩:=h
  obtain ⟨ha,hb⟩:=ih.nest _ _ _ hl htl hd
  refine ⟨ha,?_⟩
  refine Spec.ofNI Tryz.func237 rfl Tryz.ntmps237 rfl ?_
  refine am (ai (az (4,0) aa rfl rfl) (aj (aq (bu 11 [8,9,10,11,12,13,14,15,16,17,5] [(5,0)] ae ae rfl (aK rfl) (rfl:_=[_,_,_,_,_,_,_,_,_,_,_]) (rfl:_=[_]) ?_))))
  refine ap (_,[]) (fun τ=> aC _ (rfl:_=AV.ptr _ _)) ?_
  refine el rfl ?_
  refine ap (_,[]) (fun τ=> aV _ rfl rfl) ?_
  refine eo rfl ?_
  refine ap (_,[]) (fun τ=> aI _ aa rfl rfl rfl) ?_
  refine ep rfl ?_
  refine ap (_,[]) (fun τ=> aM _ aa rfl rfl (rfl:_=some (AV.sl _ _))) ?_
  refine ew rfl ?_
  refine ap (_,[]) (fun τ=> aC _ (rfl:_=AV.ptr _ _)) ?_
  refine eF rfl ?_
  refine ap (_,[]) (fun τ=> aV _ rfl rfl) ?_
  refine eV rfl ?_
  refine ap (_,[]) (fun τ=> aI _ aa rfl rfl rfl) ?_
  refine fF rfl ?_
  refine ap (_,[]) (fun τ=> aM _ aa rfl rfl (rfl:_=some (AV.v (.int _ _)))) ?_
  refine iu rfl ?_
  refine ap (_,[]) (fun τ=> bi _ _ aa rfl rfl _ rfl ab (by (simp only [aZ,bq,bo,bG,bE];omega)) ag) ?_
  refine ig rfl ?_
  refine ap (_,[]) (fun τ=> cp _ aa rfl (by exact mi _ _ hi) rfl) ?_
  refine eO rfl ?_
  refine ap (_,[((5,0),_)]) (fun τ=> az (5,0) aa rfl rfl) ?_
  refine fc rfl (bg ⟨rfl,?_⟩)
  refine bO rfl rfl rfl rfl rfl rfl (aj (aq (am (bz rfl rfl rfl (ai (aM _ aa rfl rfl (rfl:_=some (AV.v (.string _)))) (ai (aY (r:=false) _ _ Tryz.underlying9 rfl rfl (beq_eq_false_iff_ne.2 h1)) ?_))))))
  refine aj (aS rfl rfl (aL (aq (aq ?_))))
  refine aN (σ':=aA 72 [(0,_),(1,_),(4,_),(5,_)] [((0,9),_),((4,0),_),((5,0),_)] [(0,9)] [(0,9)]) kp ?_
  refine an (bz rfl rfl rfl (ai (aM _ aa rfl rfl (rfl:_=some (AV.v (.string _)))) (ai (aY (r:=true) _ _ Tryz.underlying9 rfl rfl (by rw [h2];rfl)) ?_)))
  refine aj (bC rfl rfl (am (bn rfl (ai (aQ (htake)) (aj (aH fun K8 hK8=> ?_))))))
  refine an (bn rfl (aP rfl (ai (aQ (hb)) (ai (az (6,0) aa rfl rfl) (bO rfl rfl rfl rfl rfl rfl (ax (hK8 _ ?_)))))))
  clear hK8;try clear K8
  refine am (ai (aR _ aa rfl rfl rfl rfl) (ai (aU _ _ aa rfl ag (by (simp <;> rfl)) ah rfl) ?_))
  refine ai (aB _ aa rfl (by exact (rfl:_=some [_,_,_,_]))) ?_
  exact bO rfl rfl rfl rfl rfl rfl (aj (aE (aX (.inr rfl) rfl (.cellA aa rfl rfl rfl) (Le.outI [] [] (.agg rfl lz) rfl rfl rfl trivial ob tr rfl))))
 rw [if_neg h2] at h
 have hr:r.2=bT T i:=by
  repeat' split at h
  all_goals first | (rw [← Option.some.inj h];done) | cases h
 refine ⟨by rw [hr];exact htl,?_⟩
 refine Spec.ofNI Tryz.func237 rfl Tryz.ntmps237 rfl ?_
 refine am (ai (az (4,0) aa rfl rfl) (aj (aq (bu 11 [8,9,10,11,12,13,14,15,16,17,5] [(5,0)] ae ae rfl (aK rfl) (rfl:_=[_,_,_,_,_,_,_,_,_,_,_]) (rfl:_=[_]) ?_))))
 refine ap (_,[]) (fun τ=> aC _ (rfl:_=AV.ptr _ _)) ?_
 refine el rfl ?_
 refine ap (_,[]) (fun τ=> aV _ rfl rfl) ?_
 refine eo rfl ?_
 refine ap (_,[]) (fun τ=> aI _ aa rfl rfl rfl) ?_
 refine ep rfl ?_
 refine ap (_,[]) (fun τ=> aM _ aa rfl rfl (rfl:_=some (AV.sl _ _))) ?_
 refine ew rfl ?_
 refine ap (_,[]) (fun τ=> aC _ (rfl:_=AV.ptr _ _)) ?_
 refine eF rfl ?_
 refine ap (_,[]) (fun τ=> aV _ rfl rfl) ?_
 refine eV rfl ?_
 refine ap (_,[]) (fun τ=> aI _ aa rfl rfl rfl) ?_
 refine fF rfl ?_
 refine ap (_,[]) (fun τ=> aM _ aa rfl rfl (rfl:_=some (AV.v (.int _ _)))) ?_
 refine iu rfl ?_
 refine ap (_,[]) (fun τ=> bi _ _ aa rfl rfl _ rfl ab (by (simp only [aZ,bq,bo,bG,bE];omega)) ag) ?_
 refine ig rfl ?_
 refine ap (_,[]) (fun τ=> cp _ aa rfl (by exact mi _ _ hi) rfl) ?_
 refine eO rfl ?_
 refine ap (_,[((5,0),_)]) (fun τ=> az (5,0) aa rfl rfl) ?_
 refine fc rfl (bg ⟨rfl,?_⟩)
 refine bO rfl rfl rfl rfl rfl rfl (aj (aq (am (bz rfl rfl rfl (ai (aM _ aa rfl rfl (rfl:_=some (AV.v (.string _)))) (ai (aY (r:=false) _ _ Tryz.underlying9 rfl rfl (beq_eq_false_iff_ne.2 h1)) ?_))))))
 refine aj (aS rfl rfl (aL (aq (aq ?_))))
 refine aN (σ':=aA 72 [(0,_),(1,_),(4,_),(5,_)] [((0,9),_),((4,0),_),((5,0),_)] [(0,9)] [(0,9)]) kp ?_
 refine an (bz rfl rfl rfl (ai (aM _ aa rfl rfl (rfl:_=some (AV.v (.string _)))) (ai (aY (r:=false) _ _ Tryz.underlying9 rfl rfl (beq_eq_false_iff_ne.2 h2)) ?_)))
 refine aj (aS rfl rfl (aL (am (ai (aB _ aa rfl (by exact (rfl:_=some [_,_,_,_]))) ?_))))
 refine ai (az (7,0) aa rfl rfl) (bO rfl rfl rfl rfl rfl rfl (aj (aH fun K8 hK8=> ?_)))
 refine am (bz rfl rfl rfl (cI rfl rfl rfl (ai (br _ _ rfl rfl rfl) (aj (aO rfl (fun hc38=> ?_) (fun hc38=> ?_))))))
 ·skip
  rw [if_pos ab] at h
  obtain rfl:=Option.some.inj h
  refine an (bz rfl rfl rfl (cI rfl rfl rfl (ai (aB _ aa rfl (by exact (rfl:_=some [_,_,_,_]))) ?_)))
  refine bO rfl rfl rfl rfl rfl rfl (ax (hK8 _ ?_))
  clear hK8;try clear K8
  refine am (bn rfl (ai (aQ (htake)) (aj (aq ?_))))
  refine aN (σ':=aA 72 [(4,_),(7,_)] [((4,0),_),((7,0),_),((0,9),_)] [(0,9)] [(0,9)]) kp ?_
  exact an (ai (aR _ aa rfl rfl rfl rfl) (bO rfl rfl rfl rfl rfl rfl (aj (aE (aX (.inr rfl) rfl (.cellA aa rfl rfl rfl) (Le.outI [] [] (.agg rfl lz) rfl rfl rfl trivial ob tr rfl))))))
 ·skip
  rw [if_neg ab] at h
  refine am (bz rfl rfl rfl (ai (aM _ aa rfl rfl (rfl:_=some (AV.v (.string _)))) (ai (aY _ _ Tryz.underlying9 rfl rfl rfl) (aj (aO rfl (fun hc44=> ?_) (fun hc44=> ?_))))))
  ·skip
   rw [if_pos (show (dc T i).t=te from hc44)] at h
   obtain rfl:=Option.some.inj h
   refine an (ai (aB _ aa rfl (by exact (rfl:_=some [_,_,_,_]))) ?_)
   refine bO rfl rfl rfl rfl rfl rfl (ax (hK8 _ ?_))
   clear hK8;try clear K8
   refine am (bn rfl (ai (aQ (htake)) (aj (aq ?_))))
   refine aN (σ':=aA 72 [(4,_),(7,_)] [((4,0),_),((7,0),_),((0,9),_)] [(0,9)] [(0,9)]) kp ?_
   exact an (ai (aR _ aa rfl rfl rfl rfl) (bO rfl rfl rfl rfl rfl rfl (aj (aE (aX (.inr rfl) rfl (.cellA aa rfl rfl rfl) (Le.outI [] [] (.agg rfl lz) rfl rfl rfl trivial ob tr rfl))))))
  ·skip
   rw [if_neg (show ¬ (dc T i).t=te from hc44)] at h
   refine am (bz rfl rfl rfl (ai (aM _ aa rfl rfl (rfl:_=some (AV.v (.string _)))) (ai (aY _ _ Tryz.underlying9 rfl rfl rfl) (aj (aO rfl (fun hc48=> ?_) (fun hc48=> ?_))))))
   ·skip
    rw [if_pos (show (dc T i).t=qc from hc48)] at h
    obtain rfl:=Option.some.inj h
    refine aN (σ':=aA 72 [(0,_),(4,_),(7,_)] [((0,9),_),((4,0),_),((7,0),_)] [(0,9)] [(0,9)]) kp ?_
    refine an (ai (aB _ aa rfl (by exact (rfl:_=some [_,_,_,_]))) ?_)
    refine bO rfl rfl rfl rfl rfl rfl (ax (hK8 _ ?_))
    clear hK8;try clear K8
    exact am (bn rfl (ai (aQ (htake)) (aj (am (ai (aR _ aa rfl rfl rfl rfl) (bO rfl rfl rfl rfl rfl rfl (aj (aE (aX (.inr rfl) rfl (.cellA aa rfl rfl rfl) (Le.outI [] [] (.agg rfl lz) rfl rfl rfl trivial ob tr rfl))))))))))
   ·skip
    rw [if_neg (show ¬ (dc T i).t=qc from hc48)] at h
    refine aq ?_
    refine aN (σ':=aA 72 [(0,_),(4,_),(5,_),(7,_)] [((0,9),_),((4,0),_),((5,0),_),((7,0),_)] [(0,9)] [(0,9)]) kp ?_
    refine bu 4 [50,51,52,53] [] ae ae rfl (aK rfl) (rfl:_=[_,_,_,_]) (rfl:_=[]) ?_
    refine ap (_,[]) (fun τ=> (aF aa (by repeat' (exact dR)) (eT) rfl rfl)) ?_
    refine el rfl ?_
    refine ap (_,[]) (fun τ=> aI _ aa rfl rfl rfl) ?_
    refine eo rfl ?_
    refine ap (_,[]) (fun τ=> aM _ aa rfl rfl (rfl:_=some (AV.v (.string _)))) ?_
    refine ep rfl ?_
    refine ap (_,[]) (fun τ=> (aF aa al (cH bltT 9 rfl ab (dc T i).t) rfl rfl)) ?_
    refine ew rfl (bg ⟨rfl,?_⟩)
    refine aj (aO rfl (fun hc53=> ?_) (fun hc53=> ?_))
    ·skip
     rw [if_pos hc53] at h
     obtain rfl:=Option.some.inj h
     refine an (bz rfl rfl rfl (ai (aM _ aa rfl rfl (rfl:_=some (AV.v (.string _)))) (ai (aB _ aa rfl (by exact (rfl:_=some [_,_,_,_]))) ?_)))
     refine bO rfl rfl rfl rfl rfl rfl (ax (hK8 _ ?_))
     clear hK8;try clear K8
     exact am (bn rfl (ai (aQ (htake)) (aj (am (ai (aR _ aa rfl rfl rfl rfl) (bO rfl rfl rfl rfl rfl rfl (aj (aE (aX (.inr rfl) rfl (.cellA aa rfl rfl rfl) (Le.outI [] [] (.agg rfl lz) rfl rfl rfl trivial ob tr rfl))))))))))
    ·skip
     rw [if_neg hc53] at h
     refine am (bn rfl (ai (bw aa _ _ ar (dK T i N hi) tr rfl ae (by simp)) ?_))
     refine aj (aO rfl (fun hc58=> ?_) (fun hc58=> ?_))
     ·skip
      rw [if_pos hc58] at h
      obtain rfl:=Option.some.inj h
      refine an (bz rfl rfl rfl (ai (aM _ aa rfl rfl (rfl:_=some (AV.v (.string _)))) (ai (aB _ aa rfl (by exact (rfl:_=some [_,_,_,_]))) ?_)))
      refine bO rfl rfl rfl rfl rfl rfl (ax (hK8 _ ?_))
      clear hK8;try clear K8
      exact am (bn rfl (ai (aQ (htake)) (aj (am (ai (aR _ aa rfl rfl rfl rfl) (bO rfl rfl rfl rfl rfl rfl (aj (aE (aX (.inr rfl) rfl (.cellA aa rfl rfl rfl) (Le.outI [] [] (.agg rfl lz) rfl rfl rfl trivial ob tr rfl))))))))))
     ·skip
      exact absurd h (by rw [if_neg (by simp [hc58])];exact fun e=> by cases e)
theorem BF (pr:Nat) (h:1≤pr∧pr≤6∧pr≠3):([PV.v (.slice none 0 0), .sl 1 (ea [[124,124]]), .sl 1 (ea [[38,38]]), .v (.slice none 0 0), .sl 6 (ea [[60],[60,61],[62],[62,61],[61,61],[33,61]]), .sl 2 (ea [[43],[45]]), .sl 2 (ea [[42],[47]])]:List PV)[pr]? =some (.sl (opsP.getD pr []).length (ea (opsP.getD pr []))):=by
 have:pr=1∨pr=2∨pr=4∨pr=5∨pr=6:=by omega
 rcases this with rfl | rfl | rfl | rfl | rfl <;> rfl
theorem As (pr:Nat):(opsP.getD pr []).length≤6:=by
 unfold opsP
 match pr with
 | 0=> decide | 1=> decide | 2=> decide | 3=> decide | 4=> decide | 5=> decide | 6=> decide
 | n+7=> simp
theorem nW {f lv pr:Nat} {d:Nd} {i:Nat} {r:Nd×Nat} (h:mn T f lv pr d i=some r): ∃ g,f=g+1∧((dc T i).t∉opsP.getD pr []∧r=(d,i)∨(dc T i).t∈opsP.getD pr []∧ ∃ e j,gh T g lv (pr+1) (bT T i)=some (e,j)∧
  (pr=4∧r=(nd 18 0 (dc T i).t [d,e],j)∨pr≠4∧mn T g lv pr (nd 18 0 (dc T i).t [d,e]) j=some r)):=by
 cases f with
 | zero=> simp [mn] at h
 | succ g=>
  refine ⟨g,rfl,?_⟩
  unfold mn at h
  split at h
  ·rename_i hm
   simp only [Option.bind_eq_bind,Option.bind_eq_some_iff,Option.pure_def] at h
   obtain ⟨⟨e,j⟩,he,h⟩:=h
   refine .inr ⟨hm,e,j,he,?_⟩
   split at h
   ·rename_i h4;exact .inl ⟨h4,(Option.some.inj h).symm⟩
   ·rename_i h4;exact .inr ⟨h4,h⟩
  ·rename_i hm;exact .inl ⟨hm,(Option.some.inj h).symm⟩
theorem yT (hT:T.length≤100000) (f:Nat) (ih: ∀ g,g≤f→PE T N g) (lv pr i:Nat) (r:Nd×Nat) (hl:lv≤20) (hp:1≤pr∧pr≤6∧pr≠3) (hi:i < T.length) (h:vU T (f+1) lv pr i=some r):
  r.2 < T.length∧Spec Tryz.prog 236 (bh [.ptr (0,9) 0, .v (.int .i64 (lv:Int)), .v (.int .i64 (pr:Int))] (dL T i N)) (PO T N r):=by
 unfold vU at h
 simp only [Option.bind_eq_bind,Option.bind_eq_some_iff] at h
 obtain ⟨⟨d,j⟩,hd,h⟩:=h
 simp only at h
 obtain ⟨ha,hb⟩:=(ih f (Nat.le_refl _)).expr _ _ _ _ hl ab hi hd
 have hend: ∀ (g:Nat) (d:Nd) (i:Nat),g≤f→i < T.length→mn T g lv pr d i=some r→r.2 < T.length:=by
  intro g
  induction g with
  | zero=> intro d i _ _ h;simp [mn] at h
  | succ g ihg=>
   intro d i hg hi h
   obtain ⟨g',hg',h | ⟨_,e,j,he,h⟩⟩:=nW h
   ·rw [h.2];exact hi
   ·obtain rfl:g=g':=by omega
    have hj:=((ih g ab).expr _ _ _ _ hl ab (dT hi) he).1
    rcases h with h | h
    ·rw [h.2];exact hj
    ·exact ihg _ _ ab hj h.2
 refine ⟨hend f d j (Nat.le_refl _) ha h,?_⟩
 have hol:=As pr
 refine Spec.ofNI Tryz.func236 rfl Tryz.ntmps236 rfl ?_
 refine am (ai (az (6,0) aa rfl rfl) (aj (am (ai (aU _ _ aa rfl ag (by (simp <;> rfl)) ah rfl) ?_))))
 refine ai (aU _ _ aa rfl ag (by (simp <;> rfl)) ah rfl) ?_
 refine ai (aU _ _ aa rfl ag (by (simp <;> rfl)) ah rfl) ?_
 refine ai (aU _ _ aa rfl ag (by (simp <;> rfl)) ah rfl) ?_
 refine ai (aU _ _ aa rfl ag (by (simp <;> rfl)) ah rfl) ?_
 refine ai (aU _ _ aa rfl ag (by (simp <;> rfl)) ah rfl) ?_
 refine ke rfl (aj (am (bn rfl (aP rfl (aP rfl (ai (bc _ _ rfl rfl (be ab)) ?_))))))
 refine ai (aQ (hb)) (ai (az (8,0) aa rfl rfl) (bO rfl rfl rfl rfl rfl rfl (aj (aH fun K4 hK4=> ?_))))
 refine au ?_
 refine bD (α:=Nat×Nd×Nat) (fun z=> z.1≤f∧z.2.2 < T.length∧mn T z.1 lv pr z.2.1 z.2.2=some r) 53 [(0,_),(1,_),(2,_),(6,_),(7,_),(8,_)] [((6,0),_)] (fun z=> []) (fun z=> [((0,9), .box 222 [.sl T.length (qT T), .v (.int .i64 (z.2.2:Int)), .v (.int .i64 0), .v (.int .i64 0), .sl N.length (ea N)]),((8,0), .box 71 [.v (.int .i64 (z.2.1.k:Int)), .v (.int .i64 (z.2.1.n:Int)), .v (bt z.2.1.s), .sl z.2.1.kn z.2.1.kids])]) [(0,9)] [(0,9)] (fun z=> z.1) (f,d,j) ?_ (by
  refine Le.mkJ [] [] rfl ?_ ?_ trivial tr ?_
  ·exact ⟨(iP rfl),(iV rfl),(iV rfl),(iP rfl),(iS rfl),(iP rfl),trivial⟩
  ·exact ⟨(ce rfl rfl rfl),(di rfl rfl rfl rfl lz),(di rfl rfl rfl rfl (od (od (aD (by repeat' (exact Lv.v)) lz)))),trivial⟩
  ·kernel_rfl) ?_
 ·exact ⟨Nat.le_refl _,ha,h⟩
 intro z hz
 obtain ⟨z1,z2,z3⟩:=z
 obtain ⟨hz1,hz2,hz3⟩:=hz
 obtain ⟨g,rfl,hm⟩:=nW hz3
 simp only at hz1 hz2 hm ⊢
 refine aH fun K5 hK5=> ?_
 refine aq (bu 14 [22,23,24,25,26,27,28,29,30,31,32,33,34,35] [] ae ae rfl (aK rfl) (rfl:_=[_,_,_,_,_,_,_,_,_,_,_,_,_,_]) (rfl:_=[]) ?_)
 refine ap (_,[]) (fun τ=> aC _ (rfl:_=AV.ptr _ _)) ?_
 refine el rfl ?_
 refine ap (_,[]) (fun τ=> aV _ rfl rfl) ?_
 refine eo rfl ?_
 refine ap (_,[]) (fun τ=> aI _ aa rfl rfl rfl) ?_
 refine ep rfl ?_
 refine ap (_,[]) (fun τ=> aM _ aa rfl rfl (rfl:_=some (AV.v (.int _ _)))) ?_
 refine ew rfl ?_
 refine ap (_,[]) (fun τ=> br (r:=true) _ _ rfl rfl rfl) ?_
 refine eF rfl ?_
 refine ap (_,[]) (fun τ=> aC _ (rfl:_=AV.v (.bool _))) ?_
 refine eV rfl ?_
 refine bQ (_,[]) rfl (fun τ=> rfl) (fun τ=> aC _ (rfl:_=AV.sl _ _)) ?_
 refine fF rfl ?_
 refine bQ (_,[]) rfl (fun τ=> rfl) (fun τ=> aC _ (rfl:_=AV.v (.int _ _))) ?_
 refine iu rfl ?_
 refine bQ (_,[]) rfl (fun τ=> rfl) (fun τ=> bi _ _ aa rfl rfl _ rfl ab ah (by exact Nat.mul_one _)) ?_
 refine ig rfl ?_
 refine bQ (_,[]) rfl (fun τ=> rfl) (fun τ=> bH _ aa rfl (by exact BF pr hp) rfl) ?_
 refine eO rfl ?_
 refine bQ (_,[]) rfl (fun τ=> rfl) (fun τ=> aC _ (rfl:_=AV.ptr _ _)) ?_
 refine fc rfl ?_
 refine bQ (_,[]) rfl (fun τ=> rfl) (fun τ=> (bw aa _ _ ar (bV T z3 N hz2) tr rfl ae (by simp))) ?_
 refine gU rfl ?_
 refine bQ (_,[]) rfl (fun τ=> rfl) (fun τ=> (aF aa al (cH (opsP.getD pr []) _ rfl ab (dc T z3).t) rfl rfl)) ?_
 refine gY rfl ?_
 refine ap (_,[]) (fun τ=> aG _ _ _ rfl (rfl:_=AV.v (.bool _))) ?_
 refine jm rfl (bg ⟨rfl,?_⟩)
 refine aj (aO rfl (fun hc35=> ?_) (fun hc35=> ?_))
 ·skip
  obtain ⟨_,e,je,he,hm⟩:=hm.resolve_left fun x=> x.1 hc35
  obtain ⟨hea,heb⟩:=(ih g ab).expr _ _ _ _ hl ab (dT hz2) he
  refine bB (hK5 _ ?_)
  clear hK5;try clear K5
  refine au (am (bn rfl (ai (bw aa _ _ ar (bV T z3 N hz2) tr rfl ae (by simp)) ?_)))
  refine jp rfl (aj (aq ?_))
  refine aN (σ':=aA 53 [(0,_),(1,_),(2,_),(6,_),(7,_),(8,_),(9,_)] [((6,0),_),((0,9),_),((8,0),_)] [(0,9)] [(0,9)]) kp ?_
  refine an (bn rfl (ai (aQ (cB T z3 N hz2 hT)) ?_))
  refine aj (aH fun K9 hK9=> ?_)
  refine an (bn rfl (aP rfl (aP rfl (ai (bc _ _ rfl rfl (be ab)) ?_))))
  refine ai (aQ (heb)) (ai (az (10,0) aa rfl rfl) (bO rfl rfl rfl rfl rfl rfl (ax (hK9 _ ?_))))
  clear hK9;try clear K9
  refine am (dQ rfl (ai (aR _ aa rfl rfl rfl rfl) (ai (aR _ aa rfl rfl rfl rfl) (ai (aU _ _ aa rfl ag (by (simp <;> rfl)) ah rfl) ?_))))
  refine ai (aB _ aa rfl (by exact (rfl:_=some [_,_,_,_]))) ?_
  refine bO rfl rfl rfl rfl rfl rfl (aj (aq ?_))
  refine aN (σ':=aA 53 [(0,_),(1,_),(2,_),(6,_),(7,_),(8,_)] [((6,0),_),((0,9),_),((8,0),_)] [(0,9)] [(0,9)]) kp ?_
  refine an (aP rfl (ai (br _ _ rfl rfl rfl) (aj (aO rfl (fun hc51=> ?_) (fun hc51=> ?_)))))
  ·skip
   have hr:=(hm.resolve_right fun x=> x.1 ab).2
   subst hr
   refine bK (id (hK4 _ ?_))
   clear hK4;try clear K4
   exact am (ai (aR _ aa rfl rfl rfl rfl) (bO rfl rfl rfl rfl rfl rfl (aj (aE (aX (.inr rfl) rfl (.cellA aa rfl rfl rfl) (Le.outI [] [] (.agg rfl lz) rfl rfl rfl trivial ob tr rfl))))))
  ·skip
   have hm:=(hm.resolve_left fun x=> hc51 ab).2
   refine bB (⟨(g,nd 18 0 (dc T z3).t [z2,e],je),?_,?_,?_⟩)
   ·exact ⟨by simp only;omega,hea,hm⟩
   ·skip
    refine Le.mkJ [] [] rfl ?_ ?_ trivial tr ?_
    ·exact ⟨(iP rfl),(iV rfl),(iV rfl),(iP rfl),(iS rfl),(iP rfl),trivial⟩
    ·exact ⟨(ce rfl rfl rfl),(di rfl rfl rfl rfl lz),(di rfl rfl rfl rfl (od (od (aD (by repeat' (exact Lv.v)) lz)))),trivial⟩
    ·kernel_rfl
   ·simp only;omega
 ·skip
  have hr:=(hm.resolve_right fun x=> hc35 x.1).2
  subst hr
  refine bK (id (hK4 _ ?_))
  clear hK4;try clear K4
  exact am (ai (aR _ aa rfl rfl rfl rfl) (bO rfl rfl rfl rfl rfl rfl (aj (aE (aX (.inr rfl) rfl (.cellA aa rfl rfl rfl) (Le.outI [] [] (.agg rfl lz) rfl rfl rfl trivial ob tr rfl))))))
theorem CS (hT:T.length≤100000): ∀ f g,g≤f→PE T N g:=by
 intro f
 induction f with
 | zero=>
  intro g hg
  obtain rfl:g=0:=by omega
  exact ⟨fun _ _ _ _ _ _ _ h=> by simp [gh] at h,fun _ _ _ _ _ _ _ _ h=> by simp [DT] at h,fun _ _ _ _ _ _ _ h=> by simp [vU] at h,fun _ _ _ _ _ h=> by simp [pU] at h,fun _ _ _ _ _ h=> by simp [sK] at h⟩
 | succ f ih=>
  intro g hg
  rcases Nat.lt_or_ge g (f+1) with h | h
  ·exact ih g ab
  ·obtain rfl:g=f+1:=by omega
   exact ⟨vp f (ih f (Nat.le_refl _)),BG hT f (ih f (Nat.le_refl _)),yT hT f ih,va hT f (ih f (Nat.le_refl _)),vk hT f (ih f (Nat.le_refl _))⟩
theorem wc (hT:T.length≤100000) {f lv i:Nat} {r:Nd×Nat} (hl:lv≤20) (hi:i < T.length) (h:gh T f lv 1 i=some r):r.2 < T.length∧Spec Tryz.prog 226 (bh [.ptr (0,9) 0, .v (.int .i64 (lv:Int)), .v (.int .i64 1)] (dL T i N)) (PO T N r):=
 (CS hT f f (Nat.le_refl _)).expr lv 1 i r hl ab hi h
end
end Go.Proofs.YtmjnackchaahbaaGreat
