/- Part 11 of the texts that the walk leans on: the machine, the walks, the plain laws. -/
import Derived.Test.YtmjnackchaahbaaGreatVaZ10
set_option linter.unusedSimpArgs false
set_option linter.unusedVariables false
namespace Go.Proofs.YtmjnackchaahbaaGreat
open Go.RowKit

abbrev Hd:=Nat×Nd
def wE (h:Hd):List PV:= .v (.int .i64 (h.1:Int))::h.2.row
def ll (l:List Hd):List PV:=l.flatMap wE
theorem bz (l:List Hd):(ll l).length=l.length*5:=mr wE 5 (fun _=> rfl) l
def mw (l:List Hd) (k:Nat):Hd:=l.getD k (0,⟨0,0,[],0,[]⟩)
theorem mo (l:List Hd) (k:Nat) (h:k < l.length):mw l k=l[k]:=by simp [mw,h]
theorem iB (l:List Hd) (k:Nat) (h:k < l.length):(ll l)[k*5]? =some (.v (.int .i64 ((mw l k).1:Int))):=by
 rw [mo l k h];exact nL wE 5 (fun _=> rfl) l k 0 h ab
theorem yD (l:List Hd) (k:Nat) (h:k < l.length):PV.ups (((ll l).drop (k*5)).take 5)=[.v (.int .i64 ((mw l k).1:Int)), .v (.int .i64 ((mw l k).2.k:Int)), .v (.int .i64 ((mw l k).2.n:Int)), .v (bt (mw l k).2.s), .sl (mw l k).2.kn (mw l k).2.kids]:=by
 rw [mo l k h,show ((ll l).drop (k*5)).take 5=wE l[k] from oM wE 5 (fun _=> rfl) l k h];rfl
theorem lL (l:List Hd) (h:Hd):ll l++wE h=ll (l++[h]):=lE wE l h
theorem uF (l m:List Hd):ll l++ll m=ll (l++m):=yr wE l m
theorem tE (l:List Hd) (k:Nat) (h:k < l.length):l.take k++[mw l k]=l.take (k+1):=by rw [mo l k h,List.take_succ_eq_append_getElem h]
def Id:List Tx:=[ls,iJ,gq,iY]
section
variable {T:List Tk} {N:List Tx}
theorem wV (hT:T.length≤100000) (i:Nat) (hi:i < T.length) (ht:(cX T i).t=ls) (l:List Hd) (hl:l.length≤100000) (hno: ∀ k,k < l.length→(mw l k).1≠0):
  Spec Tryz.prog 163 (be [.ptr (0,9) 0, .sl l.length (ll l)] (dD T i N)) (bg (.v (.int .i64 ((0:Nat):Int))) (dD T (bQ T i) N) [(0,9)] [(0,9)]):=by
 have hnx:=bT T i N hi
 rw [ht] at hnx
 refine Spec.ofNI Tryz.func163 rfl Tryz.ntmps163 rfl ?_
 refine am (ba rfl (aj (am (bj rfl (ai (aS _ rfl rfl) (bF rfl rfl rfl (cI rfl rfl rfl (ba rfl (aj (am ?_))))))))))
 refine bj rfl (ai (bs aa _ _ ar (hnx) tr rfl ae (by simp)) ?_)
 refine jb rfl (aj (am (ba rfl (aj (aq (am (ai (aU _ _ aa rfl ag (by (simp <;> rfl)) ah rfl) ?_)))))))
 refine dJ rfl (ai (aJ aa al (cw Id 4 rfl ab ls) rfl rfl) ?_)
 refine ai (cN (r:=false) _ rfl rfl) (aj (aQ rfl rfl (aI (am (bj rfl (ai (aO (cm T i N hi hT)) ?_))))))
 refine aj (aq (aq ?_))
 refine aM (σ':=aB 56 [(0,_),(1,_),(5,_),(6,_),(7,_)] [((0,9),_)] [(0,9)] [(0,9)]) kp ?_
 refine an (dJ rfl (ai (aT (r:=false) _ _ Tryz.underlying9 rfl rfl rfl) (aj (aQ rfl rfl (aI (aq (am (dJ rfl (ai (aT (r:=false) _ _ Tryz.underlying9 rfl rfl rfl) (aj ?_))))))))))
 refine aQ rfl rfl (aI (aq (am (dJ rfl (ai (aT (r:=false) _ _ Tryz.underlying9 rfl rfl rfl) (aj (aQ rfl rfl (aI (aG fun K14 hK14=> ?_)))))))))
 refine am (ba rfl (aj (au ?_)))
 refine bC (α:=Nat) (fun k=> k≤l.length) 56 [(0,_),(1,_),(5,_),(7,_)] [((0,9),_)] (fun k=> [(8, .v (.int .i64 (k:Int)))]) (fun k=> []) [(0,9)] [(0,9)] (fun k=> l.length - k) 0 ?_ (by
  refine Le.mkJ [] [] rfl ?_ ?_ trivial tr ?_
  ·exact ⟨(iP rfl),(iS rfl),(iV rfl),(iV rfl),(cj ag),trivial⟩
  ·exact ⟨(cG rfl rfl rfl),trivial⟩
  ·kernel_rfl) ?_
 ·omega
 intro k hk
 refine aG fun K16 hK16=> ?_
 refine am (aR rfl (ep rfl (ai (bG _ aa rfl) (ai (bp _ _ rfl rfl rfl) (aj (aV rfl (fun hc42=> ?_) (fun hc42=> ?_)))))))
 ·skip
  refine bA (hK16 _ ?_)
  clear hK16;try clear K16
  refine aq (au (am (ep rfl (aR rfl (ai (bf _ _ aa rfl rfl _ rfl ab (by (simp only [aZ,bm,bl,bw,bv,bJ,bz];omega)) ag) ?_)))))
  refine ai (di _ aa rfl rfl) (ai (bB _ aa rfl (by exact iB _ _ ab) rfl) ?_)
  refine aR rfl (ai (bR _ _ rfl rfl rfl) (aj (aQ rfl (by have:=hno k ab;exact beq_eq_false_iff_ne.2 ab) ?_)))
  refine cf (an (aR rfl (ai (bc _ _ rfl rfl (bq ab)) ?_)))
  refine ba rfl (az (⟨k+1,?_,?_,?_⟩))
  ·omega
  ·skip
   refine Le.mkJ [] [] rfl ?_ ?_ trivial tr ?_
   ·exact ⟨(iP rfl),(iS rfl),(iV rfl),(iV rfl),(cj ag),trivial⟩
   ·exact ⟨(cG rfl rfl rfl),trivial⟩
   ·kernel_rfl
  ·omega
 ·skip
  refine bL (id (hK14 _ ?_))
  clear hK14;try clear K14
  exact am (aR rfl (ba rfl (aj (aC (aY (.inr rfl) rfl (.tmp (rfl:_=AV.v (.int _ _))) (Le.outI [] [] (cj ag) rfl rfl rfl trivial ob tr rfl))))))
theorem tH (hT:T.length≤100000) (i:Nat) (hi:i < T.length) (ht:(cX T i).t=iJ) (l:List Hd) (hl:l.length≤100000) (hno: ∀ k,k < l.length→(mw l k).1≠1):
  Spec Tryz.prog 163 (be [.ptr (0,9) 0, .sl l.length (ll l)] (dD T i N)) (bg (.v (.int .i64 ((1:Nat):Int))) (dD T (bQ T i) N) [(0,9)] [(0,9)]):=by
 have hnx:=bT T i N hi
 rw [ht] at hnx
 refine Spec.ofNI Tryz.func163 rfl Tryz.ntmps163 rfl ?_
 refine am (ba rfl (aj (am (bj rfl (ai (aS _ rfl rfl) (bF rfl rfl rfl (cI rfl rfl rfl (ba rfl (aj (am ?_))))))))))
 refine bj rfl (ai (bs aa _ _ ar (hnx) tr rfl ae (by simp)) ?_)
 refine jb rfl (aj (am (ba rfl (aj (aq (am (ai (aU _ _ aa rfl ag (by (simp <;> rfl)) ah rfl) ?_)))))))
 refine dJ rfl (ai (aJ aa al (cw Id 4 rfl ab iJ) rfl rfl) ?_)
 refine ai (cN (r:=false) _ rfl rfl) (aj (aQ rfl rfl (aI (am (bj rfl (ai (aO (cm T i N hi hT)) ?_))))))
 refine aj (aq (aq ?_))
 refine aM (σ':=aB 56 [(0,_),(1,_),(5,_),(6,_),(7,_)] [((0,9),_)] [(0,9)] [(0,9)]) kp ?_
 refine an (dJ rfl (ai (aT (r:=true) _ _ Tryz.underlying9 rfl rfl rfl) (aj (bD rfl rfl (an (ba rfl (aj (aq (am (dJ rfl ?_))))))))))
 refine ai (aT (r:=false) _ _ Tryz.underlying9 rfl rfl rfl) (aj (aQ rfl rfl (aI (aq (am (dJ rfl (ai (aT (r:=false) _ _ Tryz.underlying9 rfl rfl rfl) (aj (aQ rfl rfl (aI ?_))))))))))
 refine aG fun K14 hK14=> ?_
 refine am (ba rfl (aj (au ?_)))
 refine bC (α:=Nat) (fun k=> k≤l.length) 56 [(0,_),(1,_),(5,_),(7,_)] [((0,9),_)] (fun k=> [(8, .v (.int .i64 (k:Int)))]) (fun k=> []) [(0,9)] [(0,9)] (fun k=> l.length - k) 0 ?_ (by
  refine Le.mkJ [] [] rfl ?_ ?_ trivial tr ?_
  ·exact ⟨(iP rfl),(iS rfl),(iV rfl),(iV rfl),(cj ag),trivial⟩
  ·exact ⟨(cG rfl rfl rfl),trivial⟩
  ·kernel_rfl) ?_
 ·omega
 intro k hk
 refine aG fun K16 hK16=> ?_
 refine am (aR rfl (ep rfl (ai (bG _ aa rfl) (ai (bp _ _ rfl rfl rfl) (aj (aV rfl (fun hc42=> ?_) (fun hc42=> ?_)))))))
 ·skip
  refine bA (hK16 _ ?_)
  clear hK16;try clear K16
  refine aq (au (am (ep rfl (aR rfl (ai (bf _ _ aa rfl rfl _ rfl ab (by (simp only [aZ,bm,bl,bw,bv,bJ,bz];omega)) ag) ?_)))))
  refine ai (di _ aa rfl rfl) (ai (bB _ aa rfl (by exact iB _ _ ab) rfl) ?_)
  refine aR rfl (ai (bR _ _ rfl rfl rfl) (aj (aQ rfl (by have:=hno k ab;exact beq_eq_false_iff_ne.2 ab) ?_)))
  refine cf (an (aR rfl (ai (bc _ _ rfl rfl (bq ab)) ?_)))
  refine ba rfl (az (⟨k+1,?_,?_,?_⟩))
  ·omega
  ·skip
   refine Le.mkJ [] [] rfl ?_ ?_ trivial tr ?_
   ·exact ⟨(iP rfl),(iS rfl),(iV rfl),(iV rfl),(cj ag),trivial⟩
   ·exact ⟨(cG rfl rfl rfl),trivial⟩
   ·kernel_rfl
  ·omega
 ·skip
  refine bL (id (hK14 _ ?_))
  clear hK14;try clear K14
  exact am (aR rfl (ba rfl (aj (aC (aY (.inr rfl) rfl (.tmp (rfl:_=AV.v (.int _ _))) (Le.outI [] [] (cj ag) rfl rfl rfl trivial ob tr rfl))))))
theorem yz (hT:T.length≤100000) (i:Nat) (hi:i < T.length) (ht:(cX T i).t=gq) (l:List Hd) (hl:l.length≤100000) {q j:Nat} (hq:q≤100) (h1:Spec Tryz.prog 200 (be [.ptr (0,9) 0, .v (.int .i64 7)] (dD T (bQ T i) N)) (bg (.v (.int .i64 (q:Int))) (dD T j N) [(0,9)] [(0,9)])) (hno: ∀ k,k < l.length→(mw l k).1≠(2+q)):
  Spec Tryz.prog 163 (be [.ptr (0,9) 0, .sl l.length (ll l)] (dD T i N)) (bg (.v (.int .i64 (((2+q):Nat):Int))) (dD T j N) [(0,9)] [(0,9)]):=by
 have hnx:=bT T i N hi
 rw [ht] at hnx
 refine Spec.ofNI Tryz.func163 rfl Tryz.ntmps163 rfl ?_
 refine am (ba rfl (aj (am (bj rfl (ai (aS _ rfl rfl) (bF rfl rfl rfl (cI rfl rfl rfl (ba rfl (aj (am ?_))))))))))
 refine bj rfl (ai (bs aa _ _ ar (hnx) tr rfl ae (by simp)) ?_)
 refine jb rfl (aj (am (ba rfl (aj (aq (am (ai (aU _ _ aa rfl ag (by (simp <;> rfl)) ah rfl) ?_)))))))
 refine dJ rfl (ai (aJ aa al (cw Id 4 rfl ab gq) rfl rfl) ?_)
 refine ai (cN (r:=false) _ rfl rfl) (aj (aQ rfl rfl (aI (am (bj rfl (ai (aO (cm T i N hi hT)) ?_))))))
 refine aj (aq (aq ?_))
 refine aM (σ':=aB 56 [(0,_),(1,_),(5,_),(6,_),(7,_)] [((0,9),_)] [(0,9)] [(0,9)]) kp ?_
 refine an (dJ rfl (ai (aT (r:=false) _ _ Tryz.underlying9 rfl rfl rfl) (aj (aQ rfl rfl (aI (aG fun K10 hK10=> ?_))))))
 refine am (dJ rfl (ai (aT (r:=true) _ _ Tryz.underlying9 rfl rfl rfl) (aj (bD rfl rfl (an (bj rfl (ai (aO (h1)) (ai (bc _ _ rfl rfl (bq ab)) ?_))))))))
 refine ba rfl (az (hK10 _ ?_))
 clear hK10;try clear K10
 refine aq (am (dJ rfl (ai (aT (r:=false) _ _ Tryz.underlying9 rfl rfl rfl) (aj (aQ rfl rfl (aI (aG fun K14 hK14=> ?_)))))))
 refine am (ba rfl (aj (au ?_)))
 refine bC (α:=Nat) (fun k=> k≤l.length) 56 [(0,_),(1,_),(5,_),(7,_)] [((0,9),_)] (fun k=> [(8, .v (.int .i64 (k:Int)))]) (fun k=> []) [(0,9)] [(0,9)] (fun k=> l.length - k) 0 ?_ (by
  refine Le.mkJ [] [] rfl ?_ ?_ trivial tr ?_
  ·exact ⟨(iP rfl),(iS rfl),(iV rfl),(iV rfl),(cj ag),trivial⟩
  ·exact ⟨(cG rfl rfl rfl),trivial⟩
  ·kernel_rfl) ?_
 ·omega
 intro k hk
 refine aG fun K16 hK16=> ?_
 refine am (aR rfl (ep rfl (ai (bG _ aa rfl) (ai (bp _ _ rfl rfl rfl) (aj (aV rfl (fun hc42=> ?_) (fun hc42=> ?_)))))))
 ·skip
  refine bA (hK16 _ ?_)
  clear hK16;try clear K16
  refine aq (au (am (ep rfl (aR rfl (ai (bf _ _ aa rfl rfl _ rfl ab (by (simp only [aZ,bm,bl,bw,bv,bJ,bz];omega)) ag) ?_)))))
  refine ai (di _ aa rfl rfl) (ai (bB _ aa rfl (by exact iB _ _ ab) rfl) ?_)
  refine aR rfl (ai (bR _ _ rfl rfl rfl) (aj (aQ rfl (by have:=hno k ab;exact beq_eq_false_iff_ne.2 ab) ?_)))
  refine cf (an (aR rfl (ai (bc _ _ rfl rfl (bq ab)) ?_)))
  refine ba rfl (az (⟨k+1,?_,?_,?_⟩))
  ·omega
  ·skip
   refine Le.mkJ [] [] rfl ?_ ?_ trivial tr ?_
   ·exact ⟨(iP rfl),(iS rfl),(iV rfl),(iV rfl),(cj ag),trivial⟩
   ·exact ⟨(cG rfl rfl rfl),trivial⟩
   ·kernel_rfl
  ·omega
 ·skip
  refine bL (id (hK14 _ ?_))
  clear hK14;try clear K14
  exact am (aR rfl (ba rfl (aj (aC (aY (.inr rfl) rfl (.tmp (rfl:_=AV.v (.int _ _))) (Le.outI [] [] (cj ag) rfl rfl rfl trivial ob tr rfl))))))
theorem tc (hT:T.length≤100000) (i:Nat) (hi:i < T.length) (ht:(cX T i).t=iY) (l:List Hd) (hl:l.length≤100000) {q j:Nat} (hq:q≤100) (h1:Spec Tryz.prog 200 (be [.ptr (0,9) 0, .v (.int .i64 29)] (dD T (bQ T i) N)) (bg (.v (.int .i64 (q:Int))) (dD T j N) [(0,9)] [(0,9)])) (hno: ∀ k,k < l.length→(mw l k).1≠(10+q)):
  Spec Tryz.prog 163 (be [.ptr (0,9) 0, .sl l.length (ll l)] (dD T i N)) (bg (.v (.int .i64 (((10+q):Nat):Int))) (dD T j N) [(0,9)] [(0,9)]):=by
 have hnx:=bT T i N hi
 rw [ht] at hnx
 refine Spec.ofNI Tryz.func163 rfl Tryz.ntmps163 rfl ?_
 refine am (ba rfl (aj (am (bj rfl (ai (aS _ rfl rfl) (bF rfl rfl rfl (cI rfl rfl rfl (ba rfl (aj (am ?_))))))))))
 refine bj rfl (ai (bs aa _ _ ar (hnx) tr rfl ae (by simp)) ?_)
 refine jb rfl (aj (am (ba rfl (aj (aq (am (ai (aU _ _ aa rfl ag (by (simp <;> rfl)) ah rfl) ?_)))))))
 refine dJ rfl (ai (aJ aa al (cw Id 4 rfl ab iY) rfl rfl) ?_)
 refine ai (cN (r:=false) _ rfl rfl) (aj (aQ rfl rfl (aI (am (bj rfl (ai (aO (cm T i N hi hT)) ?_))))))
 refine aj (aq (aq ?_))
 refine aM (σ':=aB 56 [(0,_),(1,_),(5,_),(6,_),(7,_)] [((0,9),_)] [(0,9)] [(0,9)]) kp ?_
 refine an (dJ rfl (ai (aT (r:=false) _ _ Tryz.underlying9 rfl rfl rfl) (aj (aQ rfl rfl (aI (aq (am (dJ rfl (ai (aT (r:=false) _ _ Tryz.underlying9 rfl rfl rfl) (aj ?_))))))))))
 refine aQ rfl rfl (aI (aG fun K12 hK12=> ?_))
 refine am (dJ rfl (ai (aT (r:=true) _ _ Tryz.underlying9 rfl rfl rfl) (aj (bD rfl rfl (an (bj rfl (ai (aO (h1)) (ai (bc _ _ rfl rfl (bq ab)) ?_))))))))
 refine ba rfl (az (hK12 _ ?_))
 clear hK12;try clear K12
 refine aG fun K14 hK14=> ?_
 refine am (ba rfl (aj (au ?_)))
 refine bC (α:=Nat) (fun k=> k≤l.length) 56 [(0,_),(1,_),(5,_),(7,_)] [((0,9),_)] (fun k=> [(8, .v (.int .i64 (k:Int)))]) (fun k=> []) [(0,9)] [(0,9)] (fun k=> l.length - k) 0 ?_ (by
  refine Le.mkJ [] [] rfl ?_ ?_ trivial tr ?_
  ·exact ⟨(iP rfl),(iS rfl),(iV rfl),(iV rfl),(cj ag),trivial⟩
  ·exact ⟨(cG rfl rfl rfl),trivial⟩
  ·kernel_rfl) ?_
 ·omega
 intro k hk
 refine aG fun K16 hK16=> ?_
 refine am (aR rfl (ep rfl (ai (bG _ aa rfl) (ai (bp _ _ rfl rfl rfl) (aj (aV rfl (fun hc42=> ?_) (fun hc42=> ?_)))))))
 ·skip
  refine bA (hK16 _ ?_)
  clear hK16;try clear K16
  refine aq (au (am (ep rfl (aR rfl (ai (bf _ _ aa rfl rfl _ rfl ab (by (simp only [aZ,bm,bl,bw,bv,bJ,bz];omega)) ag) ?_)))))
  refine ai (di _ aa rfl rfl) (ai (bB _ aa rfl (by exact iB _ _ ab) rfl) ?_)
  refine aR rfl (ai (bR _ _ rfl rfl rfl) (aj (aQ rfl (by have:=hno k ab;exact beq_eq_false_iff_ne.2 ab) ?_)))
  refine cf (an (aR rfl (ai (bc _ _ rfl rfl (bq ab)) ?_)))
  refine ba rfl (az (⟨k+1,?_,?_,?_⟩))
  ·omega
  ·skip
   refine Le.mkJ [] [] rfl ?_ ?_ trivial tr ?_
   ·exact ⟨(iP rfl),(iS rfl),(iV rfl),(iV rfl),(cj ag),trivial⟩
   ·exact ⟨(cG rfl rfl rfl),trivial⟩
   ·kernel_rfl
  ·omega
 ·skip
  refine bL (id (hK14 _ ?_))
  clear hK14;try clear K14
  exact am (aR rfl (ba rfl (aj (aC (aY (.inr rfl) rfl (.tmp (rfl:_=AV.v (.int _ _))) (Le.outI [] [] (cj ag) rfl rfl rfl trivial ob tr rfl))))))
theorem zV {l:List Hd} {n:Nat} (h:l.any (fun x=> decide (x.1=n))=false): ∀ k,k < l.length→(mw l k).1≠n:=fun k hk e=> by
 rw [List.any_eq_false] at h
 have:=h l[k] (List.getElem_mem hk)
 rw [mo l k hk] at e
 simp [e] at this
theorem qI (hT:T.length≤100000) (i:Nat) (hi:i < T.length) (l:List Hd) (hl:l.length≤100000) (r:Nat×Nat) (h:tS T i=some r) (hno:l.any (fun x=> decide (x.1=r.1))=false):
  r.2 < T.length∧r.1 < 40∧Spec Tryz.prog 163 (be [.ptr (0,9) 0, .sl l.length (ll l)] (dD T i N)) (bg (.v (.int .i64 (r.1:Int))) (dD T r.2 N) [(0,9)] [(0,9)]):=by
 have htl:=dM hi
 have hn:=zV hno
 have hmost: ∀ {most i:Nat} {q:Nat×Nat},mZ T most i=some q→q.1≤most:=fun h=> by
  unfold mZ at h
  split at h
  ·rename_i hx;rw [← Option.some.inj h];exact hx.2
  ·cases h
 unfold tS at h
 by_cases h1:(cX T i).t=ls
 ·rw [if_pos h1] at h
  obtain rfl:=Option.some.inj h
  exact ⟨htl,by omega,wV hT i hi h1 l hl hn⟩
 rw [if_neg h1] at h
 by_cases h2:(cX T i).t=iJ
 ·rw [if_pos h2] at h
  obtain rfl:=Option.some.inj h
  exact ⟨htl,by omega,tH hT i hi h2 l hl hn⟩
 rw [if_neg h2] at h
 by_cases h3:(cX T i).t=gq
 ·rw [if_pos h3] at h
  simp only [Option.bind_eq_bind,Option.bind_eq_some_iff,Option.pure_def,Option.some.injEq] at h
  obtain ⟨⟨q,j⟩,hq,rfl⟩:=h
  have hm:=hmost hq
  exact ⟨show (q,j).2 < T.length from qu hq htl,by simp only at hm ⊢;omega,yz hT i hi h3 l hl (by simp only at hm;omega) (jW T _ N 7 htl hT ab _ hq) hn⟩
 rw [if_neg h3] at h
 by_cases h4:(cX T i).t=iY
 ·rw [if_pos h4] at h
  simp only [Option.bind_eq_bind,Option.bind_eq_some_iff,Option.pure_def,Option.some.injEq] at h
  obtain ⟨⟨q,j⟩,hq,rfl⟩:=h
  have hm:=hmost hq
  exact ⟨show (q,j).2 < T.length from qu hq htl,by simp only at hm ⊢;omega,tc hT i hi h4 l hl (by simp only at hm;omega) (jW T _ N 29 htl hT ab _ hq) hn⟩
 rw [if_neg h4] at h
 cases h
end
theorem uG {p:Hd→Bool} {l:List Hd} {k:Nat} (h: ∀ x∈l.take k,p x=true) (he:l.length≤k∨p (mw l k)=false):l.takeWhile p=l.take k∧l.dropWhile p=l.drop k:=by
 induction l generalizing k with
 | nil=> simp
 | cons a l ih=>
  cases k with
  | zero=>
   have:p a=false:=by
    rcases he with he | he
    ·simp at he
    ·simpa [mw] using he
   simp [this]
  | succ k=>
   have ha:p a=true:=h a (by simp)
   have:=ih (k:=k) (fun x hx=> h x (by simp [hx])) (by
    rcases he with he | he
    ·left;simpa using he
    ·right;simpa [mw] using he)
   simp [ha,this]
theorem yq (l:List Hd) (hl:l.length≤100000) (h:Hd):
  Spec Tryz.prog 165 (bi [.sl l.length (ll l), .agg [.v (.int .i64 (h.1:Int)), .v (.int .i64 (h.2.k:Int)), .v (.int .i64 (h.2.n:Int)), .v (bt h.2.s), .sl h.2.kn h.2.kids]] []) (aW (.sl (oL l h).length (ll (oL l h))) []):=by
 refine Spec.ofN Tryz.func165 rfl Tryz.ntmps165 rfl ?_
 refine am (ai (bk (3,0) _ rfl rfl) (ai (bH _ (rfl:_=AV.v (.slice _ _ _))) (aj (am (ai (nZ (5,0) _ 73 5 rfl rfl) ?_)))))
 refine aj (am (ba rfl (aj (aG fun K4 hK4=> ?_))))
 refine au ?_
 refine bC (α:=Nat) (fun k=> k≤l.length∧ ∀ x∈l.take k,decide (x.1 < h.1)=true) 39 [(0,_),(3,_)] [((3,0),_)] (fun k=> [(6, .v (.int .i64 (k:Int))),(5, .ref (5,0) 0 (l.take k).length)]) (fun k=> [((5,0), .row 73 5 (ll (l.take k)))]) [] [] (fun k=> l.length - k) 0 ?_ (by
  refine Le.mkJ [] [] rfl ?_ ?_ trivial trivial ?_
  ·exact ⟨(iS rfl),(iP rfl),(cj ag),(dc rfl ag),trivial⟩
  ·exact ⟨(cG rfl rfl rfl),(gH rfl rfl rfl ag),trivial⟩
  ·kernel_rfl) ?_
 ·exact ⟨Nat.zero_le _,by simp⟩
 intro k hk
 obtain ⟨hk,hall⟩:=hk
 have hlk:(l.take k).length=k:=by rw [List.length_take];omega
 refine aG fun K5 hK5=> ?_
 refine aG fun K6 hK6=> ?_
 refine bE 14 [7,8,9,10,11,12,13,14,15,16,17,18,19,20] [] ae ae rfl (aL rfl) (rfl:_=[_,_,_,_,_,_,_,_,_,_,_,_,_,_]) (rfl:_=[]) ?_
 refine ap (_,[]) (fun τ=> aD _ (rfl:_=AV.v (.int _ _))) ?_
 refine eL rfl ?_
 refine ap (_,[]) (fun τ=> aD _ (rfl:_=AV.sl _ _)) ?_
 refine eK rfl ?_
 refine ap (_,[]) (fun τ=> bG _ aa rfl) ?_
 refine eM rfl ?_
 refine ap (_,[]) (fun τ=> bp _ _ rfl rfl rfl) ?_
 refine eP rfl ?_
 refine ap (_,[]) (fun τ=> aD _ (rfl:_=AV.v (.bool _))) ?_
 refine mu (fun hg11=> ?_) (fun hg11=> ?_)
 ·skip
  refine fe rfl ?_
  refine bV (_,[]) rfl (fun τ=> rfl) (fun τ=> aD _ (rfl:_=AV.sl _ _)) ?_
  refine fB rfl ?_
  refine bV (_,[]) rfl (fun τ=> rfl) (fun τ=> aD _ (rfl:_=AV.v (.int _ _))) ?_
  refine gy rfl ?_
  refine bV (_,[]) rfl (fun τ=> rfl) (fun τ=> bf _ _ aa rfl rfl _ rfl ab (by (simp only [aZ,bm,bl,bw,bv,bJ,bz];omega)) ag) ?_
  refine jS rfl ?_
  refine bV (_,[]) rfl (fun τ=> rfl) (fun τ=> di _ aa rfl rfl) ?_
  refine kd rfl ?_
  refine bV (_,[]) rfl (fun τ=> rfl) (fun τ=> bB _ aa rfl (by exact iB _ _ ab) rfl) ?_
  refine fW rfl ?_
  refine bV (_,[]) rfl (fun τ=> rfl) (fun τ=> aK _ aa rfl rfl rfl) ?_
  refine gA rfl ?_
  refine bV (_,[]) rfl (fun τ=> rfl) (fun τ=> aN _ aa rfl rfl (rfl:_=some (AV.v (.int _ _)))) ?_
  refine kA rfl ?_
  refine bV (_,[]) rfl (fun τ=> rfl) (fun τ=> bp _ _ rfl rfl rfl) ?_
  refine kP rfl ?_
  refine ap (_,[]) (fun τ=> aF _ _ _ rfl (rfl:_=AV.v (.bool _))) ?_
  refine nK rfl (bh ⟨rfl,?_⟩)
  refine az (hK6 _ ?_)
  clear hK6;try clear K6
  refine aV rfl (fun hc20=> ?_) (fun hc20=> ?_)
  ·skip
   have hs:=tE l k ab
   have hlk1:(l.take (k+1)).length=(l.take k).length+1:=by rw [← hs];simp
   have hall1: ∀ x∈l.take (k+1),decide (x.1 < h.1)=true:=by
    rw [← hs]
    intro x hx
    rcases List.mem_append.1 hx with hx | hx
    ·exact hall x hx
    ·rw [List.mem_singleton.1 hx];exact decide_eq_true ab
   refine bA (hK5 _ ?_)
   clear hK5;try clear K5
   refine au (am (gG rfl (ep rfl (aR rfl (ai (bf _ _ aa rfl rfl _ rfl ab (by (simp only [aZ,bm,bl,bw,bv,bJ,bz];omega)) ag) ?_)))))
   refine ai (cg _ aa rfl (by exact yD _ _ ab) rfl) ?_
   refine ai (aU _ _ aa rfl ag (by (simp <;> rfl)) ah rfl) ?_
   refine ai (dg (27,0) _ _ aa rfl rfl (bz _).symm (.sl rfl) ab rfl ((lL _ (mw l k)).trans (by rw [hs])) hlk1.symm) ?_
   refine eZ rfl (aj ?_)
   refine aM (σ':=aB 39 [(0,_),(3,_),(5,_),(6,_)] [((3,0),_),((27,0),_)] [] []) kp ?_
   refine an (aR rfl (ai (bc _ _ rfl rfl (bq ab)) ?_))
   refine ba rfl (az (⟨k+1,?_,?_,?_⟩))
   ·exact ⟨by omega,hall1⟩
   ·skip
    refine Le.mkJ [((5,0),(27,0))] [] rfl ?_ ?_ trivial trivial ?_
    ·exact ⟨(by repeat' (exact Lv.sl)),(dL (id:=(3,0)) rfl),(cj ag),(dc rfl ag),trivial⟩
    ·exact ⟨(fH rfl rfl rfl rfl (by repeat' (first | exact Lv.v | exact Lv.sl | exact br | refine aH ?_ ?_))),(gH rfl rfl rfl ag),trivial⟩
    ·kernel_rfl
   ·omega
  ·skip
   have hf:=uG (p:=fun x=> decide (x.1 < h.1)) hall (.inr (decide_eq_false ab))
   refine bL (id (hK4 _ ?_))
   clear hK4;try clear K4
   refine am (gG rfl (ai (aP _ aa rfl rfl rfl rfl) (ai (aU _ _ aa rfl ag (by (simp <;> rfl)) ah rfl) ?_)))
   refine ai (dg (33,0) _ _ aa rfl rfl (bz _).symm (.sl rfl) ab rfl (lL _ h) (show (l.take k).length+1=(l.take k++[h]).length by simp)) ?_
   refine eZ rfl (aj (aq ?_))
   refine aM (σ':=aB 39 [(0,_),(5,_),(6,_)] [((33,0),_)] [] []) kp ?_
   refine an (gG rfl (ep rfl (aR rfl (ai (kQ _ _ _ aa rfl k l.length (.lit rfl rfl) .dflt hk (Nat.le_refl _) (show _=ll (l.drop k) by rw [show (ll l).drop (k*5)=ll (l.drop k) from ns wE 5 (fun _=> rfl) l k];exact List.take_of_length_le (by rw [bz,List.length_drop];exact Nat.le_refl _)) rfl) ?_))))
   refine ai (dg (38,0) _ _ aa rfl rfl (bz _).symm (.sl (by rw [bz,List.length_drop])) (by simp;omega) rfl (uF _ _) (show (l.take k++[h]).length+(l.length - k)=(l.take k++[h]++l.drop k).length by simp;omega)) ?_
   refine eZ rfl (aj (aC ?_))
   have hfin:l.take k++[h]++l.drop k=oL l h:=by unfold oL;rw [hf.1,hf.2];simp
   exact aY (.inr rfl) rfl (.tmp (rfl:_=AV.ref _ _ _)) (Le.out [] [(38,0)] (by rw [← hfin];exact iy rfl rfl (bz _).symm rfl) rfl rfl rfl tr trivial)
 ·skip
  have hf:=uG (p:=fun x=> decide (x.1 < h.1)) hall (.inl ab)
  refine fe rfl ?_
  refine cL rfl (fun τ=> rfl) ah ?_
  refine fB rfl ?_
  refine cL rfl (fun τ=> rfl) ah ?_
  refine gy rfl ?_
  refine cL rfl (fun τ=> rfl) ah ?_
  refine jS rfl ?_
  refine cL rfl (fun τ=> rfl) ah ?_
  refine kd rfl ?_
  refine cL rfl (fun τ=> rfl) ah ?_
  refine fW rfl ?_
  refine cL rfl (fun τ=> rfl) ah ?_
  refine gA rfl ?_
  refine cL rfl (fun τ=> rfl) ah ?_
  refine kA rfl ?_
  refine cL rfl (fun τ=> rfl) ah ?_
  refine kP rfl ?_
  refine ap (_,[]) (fun τ=> aF _ _ _ rfl (rfl:_=AV.v (.bool _))) ?_
  refine nK rfl (bh ⟨rfl,?_⟩)
  refine az (hK6 _ ?_)
  clear hK6;try clear K6
  refine aQ rfl rfl (bL (id (hK4 _ ?_)))
  clear hK4;try clear K4
  refine am (gG rfl (ai (aP _ aa rfl rfl rfl rfl) (ai (aU _ _ aa rfl ag (by (simp <;> rfl)) ah rfl) ?_)))
  refine ai (dg (33,0) _ _ aa rfl rfl (bz _).symm (.sl rfl) ab rfl (lL _ h) (show (l.take k).length+1=(l.take k++[h]).length by simp)) ?_
  refine eZ rfl (aj (aq ?_))
  refine aM (σ':=aB 39 [(0,_),(5,_),(6,_)] [((33,0),_)] [] []) kp ?_
  refine an (gG rfl (ep rfl (aR rfl (ai (kQ _ _ _ aa rfl k l.length (.lit rfl rfl) .dflt hk (Nat.le_refl _) (show _=ll (l.drop k) by rw [show (ll l).drop (k*5)=ll (l.drop k) from ns wE 5 (fun _=> rfl) l k];exact List.take_of_length_le (by rw [bz,List.length_drop];exact Nat.le_refl _)) rfl) ?_))))
  refine ai (dg (38,0) _ _ aa rfl rfl (bz _).symm (.sl (by rw [bz,List.length_drop])) (by simp;omega) rfl (uF _ _) (show (l.take k++[h]).length+(l.length - k)=(l.take k++[h]++l.drop k).length by simp;omega)) ?_
  refine eZ rfl (aj (aC ?_))
  have hfin:l.take k++[h]++l.drop k=oL l h:=by unfold oL;rw [hf.1,hf.2];simp
  exact aY (.inr rfl) rfl (.tmp (rfl:_=AV.ref _ _ _)) (Le.out [] [(38,0)] (by rw [← hfin];exact iy rfl rfl (bz _).symm rfl) rfl rfl rfl tr trivial)

theorem pM {s:Tx}: ∀ {f a:Nat} {l:List Tk},a≤s.length→mj f s a=some l→0 < l.length∧l.length+a≤s.length+1
  | 0,_,_,_,h=> by simp [mj] at h
  | f+1,a,l,ha,h=> by
    rcases lk h with ⟨_,rfl⟩ | ⟨hl,t,m,ht,hm,rfl⟩
    · exact ⟨by simp,by simp;omega⟩
    · obtain ⟨h1,h2⟩:=rH hl ht
      have h3:=sR (s:=s) (a:=a+t.t.length) h2 false
      obtain ⟨_,h4⟩:=pM h3.2 hm
      exact ⟨by simp,by rw [List.length_cons];omega⟩
theorem zw {s:Tx} {l:List Tk} (h:zS s=some l):0 < l.length∧l.length≤s.length+1:=by
  have:=pM (a:=qL s false) (mn s false) h
  omega
theorem kT {T:List Tk}: ∀ (f:Nat) {N M:List Tx} (i:Nat),N.Perm M→fZ T f N i=fZ T f M i
  | 0,_,_,_,_=> rfl
  | f+1,N,M,i,h=> by
    unfold fZ
    simp only [h.mem_iff,h.length_eq,kT f _ (h.append_right [(cX T i).t])]
theorem rf {T:List Tk} {f:Nat} {d v:List Tx} {i:Nat} {r:List Tx×List Tx×Nat} (h:gZ T f d v i=some r): ∃ g,f=g+1∧
    (((cX T i).t=ku∧ ∃ l j,fZ T g (d++v) (bQ T i)=some (l,j)∧gZ T g (d++l) v j=some r)∨
     ((cX T i).t≠ku∧(cX T i).t=lf∧ ∃ l j,fZ T g (d++v) (bQ T i)=some (l,j)∧gZ T g d (v++l) j=some r)∨
     ((cX T i).t≠ku∧(cX T i).t≠lf∧r=(d,v,i))):=by
  cases f with
  | zero=> simp [gZ] at h
  | succ g=>
    refine ⟨g,rfl,?_⟩
    unfold gZ at h
    split at h
    · rename_i ht
      simp only [Option.bind_eq_bind,Option.bind_eq_some_iff] at h
      obtain ⟨⟨l,j⟩,hl,h⟩:=h
      exact .inl ⟨ht,l,j,hl,h⟩
    · rename_i ht
      split at h
      · rename_i ht2
        simp only [Option.bind_eq_bind,Option.bind_eq_some_iff] at h
        obtain ⟨⟨l,j⟩,hl,h⟩:=h
        exact .inr (.inl ⟨ht,ht2,l,j,hl,h⟩)
      · rename_i ht2
        exact .inr (.inr ⟨ht,ht2,(Option.some.inj h).symm⟩)
theorem yl {T:List Tk} {f:Nat} {l:List Hd} {i:Nat} {r:List Hd} (h:Df T f l i=some r): ∃ g,f=g+1∧
    (((cX T i).k=0∧r=l)∨((cX T i).k≠0∧ ∃ j n j2 d j3,fU T CJ i=some j∧tS T j=some (n,j2)∧l.any (fun x=> decide (x.1=n))=false∧oZ T g 1 j2=some (d,j3)∧Df T g (oL l (n,d)) j3=some r)):=by
  cases f with
  | zero=> simp [Df] at h
  | succ g=>
    refine ⟨g,rfl,?_⟩
    unfold Df at h
    split at h
    · rename_i hk;exact .inl ⟨hk,(Option.some.inj h).symm⟩
    · rename_i hk
      simp only [Option.bind_eq_bind,Option.bind_eq_some_iff] at h
      obtain ⟨j,hj,⟨n,j2⟩,hn,h⟩:=h
      simp only at h
      split at h
      · cases h
      · rename_i hno
        simp only [Option.bind_eq_some_iff] at h
        obtain ⟨⟨d,j3⟩,hd,h⟩:=h
        exact .inr ⟨hk,j,n,j2,d,j3,hj,hn,Bool.eq_false_iff.2 hno,hd,h⟩
theorem zd (l:List Hd) (h:Hd):(oL l h).length=l.length+1:=by
  have e:=congrArg List.length (List.takeWhile_append_dropWhile (p:=fun x:Nat×Nd=> decide (x.1 < h.1)) (l:=l))
  unfold oL
  rw [List.length_append] at e ⊢
  rw [List.length_cons]
  omega
abbrev EM (d v:List Tx) (l:List Hd):AV:= .agg [.sl d.length (dU d), .sl v.length (dU v), .sl l.length (ll l)]
theorem oo (s:Tx) (hs:s.length≤3000) (D V:List Tx) (L:List Hd) (h:qc s=some (D,V,L)):
    Spec Tryz.prog 96 (bi [.v (bt s)] []) (aW (.tup [EM D V L, .v (.int .i64 0), .v (.int .i64 0)]) []):=by
  unfold qc at h
  simp only [Option.bind_eq_bind,Option.bind_eq_some_iff,Option.pure_def,Option.some.injEq,Prod.mk.injEq] at h
  obtain ⟨T,hT,⟨D',V',i⟩,hd,L',hL,rfl,rfl,rfl⟩:=h
  obtain ⟨hT0,hT1⟩:=zw hT
  have hTl:T.length≤100000:=by omega
  simp only at hL ⊢
  refine Spec.ofN Tryz.func96 rfl Tryz.ntmps96 rfl ?_
  refine am (ai (ay (2,0) aa rfl rfl) (ba rfl (ba rfl (aj (aq (am (dJ rfl (ai (gu _ Tryz.underlying9 rfl) (ai (dq _ _ rfl rfl rfl) (aj ?_))))))))))
  refine aQ rfl (decide_eq_false ab) ?_
  refine aI (am (dJ rfl (ai (aJ aa al (rm s ab T hT) rfl rfl) ?_)))
  refine ai (aD _ (rfl:_=AV.tup _)) (ai (cR _ rfl (rfl:_=some (AV.sl _ _))) (ai (cR _ rfl (rfl:_=some (AV.v (.int _ _)))) (ai (cR _ rfl (rfl:_=some (AV.v (.int _ _)))) (jO rfl (ba rfl (ba rfl (aj (aq (aq ?_)))))))))
  refine aM (σ':=aB 114 [(2,_),(5,_),(6,_),(7,_)] [((2,0),_)] [] []) (by
    refine Le.mkJ [] [] rfl ?_ ?_ trivial trivial ?_
    · exact ⟨(iP rfl),(iS rfl),(iV rfl),(iV rfl),trivial⟩
    · exact ⟨(cG rfl rfl rfl),trivial⟩
    · kernel_rfl) ?_
  refine an (aR rfl (ai (bY (r:=false) _ _ rfl rfl rfl) (aj (aQ rfl rfl (aI (am (ep rfl (ai (aA _ aa rfl (by exact (rfl:_=some [_,_,_,_,_]))) ?_))))))))
  refine ai (bk (29,0) _ rfl rfl) (EH rfl (aj (am (ai (ay (9,0) aa rfl rfl) (aj (aG fun K9 hK9=> ?_))))))
  refine au ?_
  refine aM (Le.nilB (29,0) 4 (60,0) 9 1 rfl rfl rfl) ?_
  refine aM (Le.nilB (9,0) 0 (61,0) 9 1 rfl rfl rfl) ?_
  refine aM (Le.nilB (9,0) 1 (62,0) 9 1 rfl rfl rfl) ?_
  refine aM (Le.nil0 (9,0) 2 rfl rfl) ?_
  refine bC (α:=Nat×List Tx×List Tx×List Tx×Nat) (fun z=> z.2.2.2.1.Perm (z.2.1++z.2.2.1)∧z.2.2.2.2 < T.length∧z.2.2.2.1.length≤16∧gZ T z.1 z.2.1 z.2.2.1 z.2.2.2.2=some (D',V',i)) 114 [(2,_),(8,_),(9,_)] [((2,0),_)] (fun z=> []) (fun z=> [((29,0), .box 222 [.sl T.length (qf T), .v (.int .i64 (z.2.2.2.2:Int)), .v (.int .i64 0), .v (.int .i64 0), .ref (60,0) 0 z.2.2.2.1.length]),((60,0), .row 9 1 (dU z.2.2.2.1)),((9,0), .box 64 [.ref (61,0) 0 z.2.1.length, .ref (62,0) 0 z.2.2.1.length, .sl 0 []]),((61,0), .row 9 1 (dU z.2.1)),((62,0), .row 9 1 (dU z.2.2.1))]) [] [] (fun z=> z.1) (3*T.length+10,[],[],[],0) ?_ (by
    refine Le.mkJ [] [] rfl ?_ ?_ trivial trivial ?_
    · exact ⟨(iP rfl),(iP rfl),(iP rfl),trivial⟩
    · exact ⟨(cG rfl rfl rfl),(fH rfl rfl rfl rfl lz),(gH rfl rfl rfl ag),(fH rfl rfl rfl rfl lz),(gH rfl rfl rfl ag),(gH rfl rfl rfl ag),trivial⟩
    · kernel_rfl) ?_
  · exact ⟨.refl _,hT0,Nat.zero_le _,hd⟩
  intro z hz
  obtain ⟨z1,d,v,N,j⟩:=z
  obtain ⟨hp,hj,hNl,hz⟩:=hz
  obtain ⟨g,rfl,hm⟩:=rf hz
  simp only at hp hj hNl hm ⊢
  have hpl:=hp.length_eq
  rw [List.length_append] at hpl
  have htl:=dM hj
  refine aG fun K10 hK10=> ?_
  refine aG fun K11 hK11=> ?_
  refine an (bj rfl (ai (aS _ rfl rfl) (bF rfl rfl rfl (cI rfl rfl rfl (jc rfl rfl rfl (cH rfl (ax rfl rfl (aD _ (rfl:_=AV.ptr _ _)) (ax rfl rfl (db aa [((0,9),(29,0)),((1,9),(60,0))] ?_ (eu T j N hj) ob tr ae) ?_))))))))
  · repeat' (first | exact dt | refine cO ?_ ?_ | exact dL rfl)
  refine ax rfl rfl (aT _ _ Tryz.underlying9 rfl rfl rfl) (ax rfl rfl (aD _ (rfl:_=AV.v (.bool _))) (dO (fun hg39=> ?_) (fun hg39=> ?_)))
  · skip
    obtain ⟨l,j',hdp,hdz⟩: ∃ l j',fZ T g N (bQ T j)=some (l,j')∧gZ T g (d++l) v j'=some (D',V',i):=by
      rcases hm with ⟨_,l,j',h1,h2⟩ | ⟨h,_⟩ | ⟨h,_⟩
      · exact ⟨l,j',(kT g _ hp).trans h1,h2⟩
      · exact absurd hg39 h
      · exact absurd hg39 h
    obtain ⟨hda,hdb,hdc⟩:=pR hTl g N j hj (l,j') hdp
    simp only at hda hdb hdc
    have hdl:(d++l).length=d.length+l.length:=by simp
    refine aX rfl rfl ah ?_
    refine aX rfl rfl ah ?_
    refine aX rfl rfl ah ?_
    refine ax rfl rfl (aF _ _ _ rfl (rfl:_=AV.v (.bool _))) (ai (aF _ _ _ rfl (rfl:_=AV.v (.bool _))) (az (hK11 _ ?_)))
    clear hK11;try clear K11
    refine bD rfl rfl (bA (hK10 _ ?_))
    clear hK10;try clear K10
    refine au (aq ?_)
    refine aM (σ':=aB 114 [(2,_),(8,_),(9,_)] [((2,0),_),((29,0),_),((60,0),_),((9,0),_),((61,0),_),((62,0),_)] [] []) (by
      refine Le.mkJ [] [] rfl ?_ ?_ trivial trivial ?_
      · exact ⟨(iP rfl),(iP rfl),(iP rfl),trivial⟩
      · exact ⟨(cG rfl rfl rfl),(cG rfl rfl rfl),(cG rfl rfl rfl),(cG rfl rfl rfl),(cG rfl rfl rfl),(cG rfl rfl rfl),trivial⟩
      · kernel_rfl) ?_
    refine an (bj rfl (ai (db aa [((0,9),(29,0)),((1,9),(60,0))] ?_ (eu T j N hj) ob tr ae) ?_))
    · repeat' (first | exact dt | refine cO ?_ ?_ | exact dL rfl)
    refine ai (aT _ _ Tryz.underlying9 rfl rfl rfl) (aj (bD rfl (beq_iff_eq.2 hg39) ?_))
    refine aM (σ':=aB 114 [(2,_),(8,_),(9,_)] [((2,0),_),((29,0), .box 222 [.sl T.length (qf T), .v (.int .i64 (j:Int)), .v (.int .i64 0), .v (.int .i64 0), .ref (60,0) 0 N.length]),((60,0), .row 9 1 (dU N)),((9,0),_),((61,0),_),((62,0),_)] [] []) (by
      refine Le.mkJ [] [] rfl ?_ ?_ trivial trivial ?_
      · exact ⟨(iP rfl),(iP rfl),(iP rfl),trivial⟩
      · exact ⟨(cG rfl rfl rfl),(cG rfl rfl rfl),(cG rfl rfl rfl),(cG rfl rfl rfl),(cG rfl rfl rfl),(cG rfl rfl rfl),trivial⟩
      · kernel_rfl) ?_
    refine bE 4 [48,49,50,51] [(29,0),(70,0),(60,0)] ae ae rfl (aL rfl) (rfl:_=[_,_,_,_]) (rfl:_=[_,_,_]) ?_
    refine ap (_,[]) (fun τ=> aK _ aa rfl rfl rfl) ?_
    refine eL rfl ?_
    refine ap (_,[]) (fun τ=> aN _ aa rfl rfl (rfl:_=some (AV.ref _ _ _))) ?_
    refine eK rfl ?_
    refine ap (_,[]) (fun τ=> aD _ (rfl:_=AV.ptr _ _)) ?_
    refine eM rfl ?_
    refine ap (_,[((29,0),_),((70,0),_),((60,0), .gone)]) (fun τ=> (ef aa [((0,9),(29,0)),((1,9),(60,0)),((1,8),(70,0))] ?_ (hdc) ob tr tr rfl rfl ae ae)) ?_
    · repeat' (first | exact dt | refine cO ?_ ?_ | exact dL rfl)
    refine eP rfl (bh ⟨rfl,?_⟩)
    refine ai (dg (52,0) _ _ aa rfl rfl (by simp) (.sl (by simp)) ab rfl (ow _ _) hdl.symm) ?_
    refine bF rfl rfl rfl (bO rfl rfl rfl rfl rfl rfl (az (⟨(g,d++l,v,N++l,j'),?_,?_,?_⟩)))
    · exact ⟨(hp.append_right l).trans (by rw [List.append_assoc,List.append_assoc];exact List.perm_append_comm.append_left d),hda,by simp only [List.length_append];omega,hdz⟩
    · skip
      refine Le.mkJ [((60,0),(70,0)),((61,0),(52,0))] [] rfl ?_ ?_ trivial trivial ?_
      · exact ⟨(dL (id:=(2,0)) rfl),(dL (id:=(29,0)) rfl),(dL (id:=(9,0)) rfl),trivial⟩
      · exact ⟨(fH rfl rfl rfl rfl (by repeat' (first | exact Lv.v | exact br | refine aH ?_ ?_))),(fH rfl rfl rfl rfl lz),(gH rfl rfl rfl ag),(fH rfl rfl rfl rfl lz),(gH rfl rfl rfl ag),(gH rfl rfl rfl ag),trivial⟩
      · kernel_rfl
    · simp only;omega
  · skip
    refine ax rfl rfl (aD _ (rfl:_=AV.ptr _ _)) (ax rfl rfl (db aa [((0,9),(29,0)),((1,9),(60,0))] ?_ (eu T j N hj) ob tr ae) ?_)
    · repeat' (first | exact dt | refine cO ?_ ?_ | exact dL rfl)
    refine ax rfl rfl (aT _ _ Tryz.underlying9 rfl rfl rfl) (ax rfl rfl (aF _ _ _ rfl (rfl:_=AV.v (.bool _))) (ai (aF _ _ _ rfl (rfl:_=AV.v (.bool _))) (az (hK11 _ ?_))))
    clear hK11;try clear K11
    refine aV rfl (fun hc44=> ?_) (fun hc44=> ?_)
    · skip
      obtain ⟨l,j',hdp,hdz⟩: ∃ l j',fZ T g N (bQ T j)=some (l,j')∧gZ T g d (v++l) j'=some (D',V',i):=by
        rcases hm with ⟨h,_⟩ | ⟨_,_,l,j',h1,h2⟩ | ⟨_,h,_⟩
        · exact absurd h hg39
        · exact ⟨l,j',(kT g _ hp).trans h1,h2⟩
        · exact absurd hc44 h
      obtain ⟨hda,hdb,hdc⟩:=pR hTl g N j hj (l,j') hdp
      simp only at hda hdb hdc
      have hvl:(v++l).length=v.length+l.length:=by simp
      refine bA (hK10 _ ?_)
      clear hK10;try clear K10
      refine au (aq ?_)
      refine aM (σ':=aB 114 [(2,_),(8,_),(9,_)] [((2,0),_),((29,0),_),((60,0),_),((9,0),_),((61,0),_),((62,0),_)] [] []) (by
        refine Le.mkJ [] [] rfl ?_ ?_ trivial trivial ?_
        · exact ⟨(iP rfl),(iP rfl),(iP rfl),trivial⟩
        · exact ⟨(cG rfl rfl rfl),(cG rfl rfl rfl),(cG rfl rfl rfl),(cG rfl rfl rfl),(cG rfl rfl rfl),(cG rfl rfl rfl),trivial⟩
        · kernel_rfl) ?_
      refine an (bj rfl (ai (db aa [((0,9),(29,0)),((1,9),(60,0))] ?_ (eu T j N hj) ob tr ae) ?_))
      · repeat' (first | exact dt | refine cO ?_ ?_ | exact dL rfl)
      refine ai (aT _ _ Tryz.underlying9 rfl rfl rfl) (aj (aQ rfl (beq_eq_false_iff_ne.2 hg39) ?_))
      refine aM (σ':=aB 114 [(2,_),(8,_),(9,_)] [((2,0),_),((29,0), .box 222 [.sl T.length (qf T), .v (.int .i64 (j:Int)), .v (.int .i64 0), .v (.int .i64 0), .ref (60,0) 0 N.length]),((60,0), .row 9 1 (dU N)),((9,0),_),((61,0),_),((62,0),_)] [] []) (by
        refine Le.mkJ [] [] rfl ?_ ?_ trivial trivial ?_
        · exact ⟨(iP rfl),(iP rfl),(iP rfl),trivial⟩
        · exact ⟨(cG rfl rfl rfl),(cG rfl rfl rfl),(cG rfl rfl rfl),(cG rfl rfl rfl),(cG rfl rfl rfl),(cG rfl rfl rfl),trivial⟩
        · kernel_rfl) ?_
      refine bE 4 [54,55,56,57] [(29,0),(71,0),(60,0)] ae ae rfl (aL rfl) (rfl:_=[_,_,_,_]) (rfl:_=[_,_,_]) ?_
      refine ap (_,[]) (fun τ=> aK _ aa rfl rfl rfl) ?_
      refine eL rfl ?_
      refine ap (_,[]) (fun τ=> aN _ aa rfl rfl (rfl:_=some (AV.ref _ _ _))) ?_
      refine eK rfl ?_
      refine ap (_,[]) (fun τ=> aD _ (rfl:_=AV.ptr _ _)) ?_
      refine eM rfl ?_
      refine ap (_,[((29,0),_),((71,0),_),((60,0), .gone)]) (fun τ=> (ef aa [((0,9),(29,0)),((1,9),(60,0)),((1,8),(71,0))] ?_ (hdc) ob tr tr rfl rfl ae ae)) ?_
      · repeat' (first | exact dt | refine cO ?_ ?_ | exact dL rfl)
      refine eP rfl (bh ⟨rfl,?_⟩)
      refine ai (dg (58,0) _ _ aa rfl rfl (by simp) (.sl (by simp)) ab rfl (ow _ _) hvl.symm) ?_
      refine bF rfl rfl rfl (bO rfl rfl rfl rfl rfl rfl (az (⟨(g,d,v++l,N++l,j'),?_,?_,?_⟩)))
      · exact ⟨(hp.append_right l).trans (by rw [List.append_assoc]),hda,by simp only [List.length_append];omega,hdz⟩
      · skip
        refine Le.mkJ [((60,0),(71,0)),((62,0),(58,0))] [] rfl ?_ ?_ trivial trivial ?_
        · exact ⟨(dL (id:=(2,0)) rfl),(dL (id:=(29,0)) rfl),(dL (id:=(9,0)) rfl),trivial⟩
        · exact ⟨(fH rfl rfl rfl rfl (by repeat' (first | exact Lv.v | exact br | refine aH ?_ ?_))),(fH rfl rfl rfl rfl lz),(gH rfl rfl rfl ag),(fH rfl rfl rfl rfl lz),(gH rfl rfl rfl ag),(gH rfl rfl rfl ag),trivial⟩
        · kernel_rfl
      · simp only;omega
    · skip
      have hrd:(D',V',i)=(d,v,j):=by
        rcases hm with ⟨h,_⟩ | ⟨_,h,_⟩ | ⟨_,_,h⟩
        · exact absurd h hg39
        · exact absurd h hc44
        · exact h
      obtain ⟨e1,e2,e3⟩:D'=d∧V'=v∧i=j:=⟨congrArg (·.1) hrd,congrArg (·.2.1) hrd,congrArg (·.2.2) hrd⟩
      clear hrd hm hz
      subst e1;subst e2;subst e3
      refine bL (id (hK9 _ ?_))
      clear hK9;try clear K9
      refine aG fun K14 hK14=> ?_
      refine au ?_
      refine aM (Le.frzB (29,0) 4 rfl rfl rfl rfl (ys:=dU N) (by simp [List.take_of_length_le]) (by simp)) ?_
      refine bC (α:=Nat×List Hd×Nat) (fun y=> y.2.1.length+y.1≤10*T.length+10∧y.2.2 < T.length∧Df T y.1 y.2.1 y.2.2=some L') 114 [(2,_),(8,_),(9,_)] [((2,0),_),((61,0),_),((62,0),_)] (fun y=> []) (fun y=> [((29,0), .box 222 [.sl T.length (qf T), .v (.int .i64 (y.2.2:Int)), .v (.int .i64 0), .v (.int .i64 0), .sl N.length (dU N)]),((9,0), .box 64 [.ref (61,0) 0 D'.length, .ref (62,0) 0 V'.length, .sl y.2.1.length (ll y.2.1)])]) [] [] (fun y=> y.1) (10*T.length+10,[],i) ?_ (by
        refine Le.mkJ [] [] rfl ?_ ?_ trivial trivial ?_
        · exact ⟨(iP rfl),(iP rfl),(iP rfl),trivial⟩
        · exact ⟨(cG rfl rfl rfl),(cG rfl rfl rfl),(cG rfl rfl rfl),(fH rfl rfl rfl rfl lz),(fH rfl rfl rfl rfl lz),trivial⟩
        · kernel_rfl) ?_
      · exact ⟨by simp,hj,hL⟩
      intro y hy
      obtain ⟨y1,l,k⟩:=y
      obtain ⟨hyl,hk,hy⟩:=hy
      obtain ⟨g2,rfl,hm2⟩:=yl hy
      simp only at hyl hk hm2 ⊢
      refine aG fun K15 hK15=> ?_
      refine aq (bE 19 [60,61,62,63,64,65,66,67,68,69,70,71,72,73,74,75,76,77,78] [] ae ae rfl (aL rfl) (rfl:_=[_,_,_,_,_,_,_,_,_,_,_,_,_,_,_,_,_,_,_]) (rfl:_=[]) ?_)
      refine ap (_,[]) (fun τ=> aD _ (rfl:_=AV.ptr _ _)) ?_
      refine eL rfl ?_
      refine ap (_,[]) (fun τ=> aS _ rfl rfl) ?_
      refine eK rfl ?_
      refine ap (_,[]) (fun τ=> aK _ aa rfl rfl rfl) ?_
      refine eM rfl ?_
      refine ap (_,[]) (fun τ=> aN _ aa rfl rfl (rfl:_=some (AV.v (.int _ _)))) ?_
      refine eP rfl ?_
      refine ap (_,[]) (fun τ=> bR (r:=true) _ _ rfl rfl rfl) ?_
      refine fe rfl ?_
      refine ap (_,[]) (fun τ=> aD _ (rfl:_=AV.v (.bool _))) ?_
      refine fB rfl ?_
      refine bV (_,[]) rfl (fun τ=> rfl) (fun τ=> aD _ (rfl:_=AV.ptr _ _)) ?_
      refine gy rfl ?_
      refine bV (_,[]) rfl (fun τ=> rfl) (fun τ=> aS _ rfl rfl) ?_
      refine jS rfl ?_
      refine bV (_,[]) rfl (fun τ=> rfl) (fun τ=> aK _ aa rfl rfl rfl) ?_
      refine kd rfl ?_
      refine bV (_,[]) rfl (fun τ=> rfl) (fun τ=> aN _ aa rfl rfl (rfl:_=some (AV.sl _ _))) ?_
      refine fW rfl ?_
      refine bV (_,[]) rfl (fun τ=> rfl) (fun τ=> aD _ (rfl:_=AV.ptr _ _)) ?_
      refine gA rfl ?_
      refine bV (_,[]) rfl (fun τ=> rfl) (fun τ=> aS _ rfl rfl) ?_
      refine kA rfl ?_
      refine bV (_,[]) rfl (fun τ=> rfl) (fun τ=> aK _ aa rfl rfl rfl) ?_
      refine kP rfl ?_
      refine bV (_,[]) rfl (fun τ=> rfl) (fun τ=> aN _ aa rfl rfl (rfl:_=some (AV.v (.int _ _)))) ?_
      refine nK rfl ?_
      refine bV (_,[]) rfl (fun τ=> rfl) (fun τ=> bf _ _ aa rfl rfl _ rfl ab (by (simp only [aZ,bm,bl,bw,bv,bJ,bz];omega)) ag) ?_
      refine tv rfl ?_
      refine bV (_,[]) rfl (fun τ=> rfl) (fun τ=> di _ aa rfl rfl) ?_
      refine sG rfl ?_
      refine bV (_,[]) rfl (fun τ=> rfl) (fun τ=> bB _ aa rfl (by exact oI _ _ ab) rfl) ?_
      refine wu rfl ?_
      refine bV (_,[]) rfl (fun τ=> rfl) (fun τ=> bY _ _ rfl rfl rfl) ?_
      refine vC rfl ?_
      refine ap (_,[]) (fun τ=> aF _ _ _ rfl (rfl:_=AV.v (.bool _))) ?_
      refine va rfl (bh ⟨rfl,?_⟩)
      refine aj (aV rfl (fun hc78=> ?_) (fun hc78=> ?_))
      · skip
        obtain ⟨_,j1,hn,j2,dd,j3,h1,h2,h3,h4,h5⟩:=hm2.resolve_left fun x=> by omega
        have hx1:=fb T k j1 N CJ hk hTl h1
        obtain ⟨ha2,_,hx2⟩:=qI (N:=N) hTl j1 (ip h1 hk) l ab _ h2 h3
        obtain ⟨ha3,hx3⟩:=sT (N:=N) hTl ab ha2 h4
        have hx4:=yq l ab (hn,dd)
        have hpl2:=zd l (hn,dd)
        simp only at ha2 ha3 hx2 hx3 hx4
        refine bA (hK15 _ ?_)
        clear hK15;try clear K15
        refine au (aq ?_)
        refine aM (σ':=aB 114 [(2,_),(8,_),(9,_)] [((2,0),_),((61,0),_),((62,0),_),((29,0),_),((9,0),_)] [] []) (by
          refine Le.mkJ [] [] rfl ?_ ?_ trivial trivial ?_
          · exact ⟨(iP rfl),(iP rfl),(iP rfl),trivial⟩
          · exact ⟨(cG rfl rfl rfl),(cG rfl rfl rfl),(cG rfl rfl rfl),(cG rfl rfl rfl),(cG rfl rfl rfl),trivial⟩
          · kernel_rfl) ?_
        refine an (bj rfl (ai (db aa [((0,9),(29,0))] ?_ (hx1) ob tr ae) ?_))
        · repeat' (first | exact dt | refine cO ?_ ?_ | exact Lv.v | exact dL rfl)
        refine aj (aq (am (bj rfl (ai (aS _ rfl rfl) (bF rfl rfl rfl (cI rfl rfl rfl (ai (bY (r:=false) _ _ rfl rfl rfl) (aj (aQ rfl rfl (aI ?_))))))))))
        refine aG fun K20 hK20=> ?_
        refine an (bj rfl (bF rfl rfl rfl (fK rfl rfl rfl (ai (db aa [((0,9),(29,0))] ?_ (hx2) ob tr ae) ?_))))
        · repeat' (first | exact dt | refine cO ?_ ?_ | exact Lv.sl | exact dL rfl)
        refine ba rfl (az (hK20 _ ?_))
        clear hK20;try clear K20
        refine aG fun K21 hK21=> ?_
        refine an (bj rfl (ai (db aa [((0,9),(29,0))] ?_ (hx3) ob tr ae) ?_))
        · repeat' (first | exact dt | refine cO ?_ ?_ | exact Lv.v | exact dL rfl)
        refine ai (ay (11,0) aa rfl rfl) (bO rfl rfl rfl rfl rfl rfl (az (hK21 _ ?_)))
        clear hK21;try clear K21
        refine aM (σ':=aB 114 [(2,_),(8,_),(9,_),(10,_),(11,_)] [((2,0),_),((61,0),_),((62,0),_),((29,0),_),((9,0),_),((11,0),_)] [] []) (by
          refine Le.mkJ [] [] rfl ?_ ?_ trivial trivial ?_
          · exact ⟨(iP rfl),(iP rfl),(iP rfl),(iV rfl),(iP rfl),trivial⟩
          · exact ⟨(cG rfl rfl rfl),(cG rfl rfl rfl),(cG rfl rfl rfl),(cG rfl rfl rfl),(cG rfl rfl rfl),(cG rfl rfl rfl),trivial⟩
          · kernel_rfl) ?_
        refine an (bF rfl rfl rfl (fK rfl rfl rfl (aR rfl (ai (aP _ aa rfl rfl rfl rfl) (ai (aA _ aa rfl (by exact (rfl:_=some [_,_,_,_,_]))) ?_)))))
        refine ai (aJ aa al (hx4) rfl rfl) ?_
        refine bF rfl rfl rfl (bO rfl rfl rfl rfl rfl rfl (az (⟨(g2,oL l (hn,dd),j3),?_,?_,?_⟩)))
        · exact ⟨by simp only [hpl2];omega,ha3,h5⟩
        · skip
          refine Le.mkJ [] [] rfl ?_ ?_ trivial trivial ?_
          · exact ⟨(iP rfl),(iP rfl),(iP rfl),trivial⟩
          · exact ⟨(cG rfl rfl rfl),(cG rfl rfl rfl),(cG rfl rfl rfl),(fH rfl rfl rfl rfl lz),(fH rfl rfl rfl rfl lz),trivial⟩
          · kernel_rfl
        · simp only;omega
      · skip
        have hrl:=(hm2.resolve_right fun x=> x.1 ab).2
        subst hrl
        refine bL (id (hK14 _ ?_))
        clear hK14;try clear K14
        refine aq (aq ?_)
        refine aM (σ':=aB 114 [(2,_),(8,_),(9,_)] [((2,0),_),((61,0),_),((62,0),_),((29,0),_),((9,0),_)] [] []) (by
          refine Le.mkJ [] [] rfl ?_ ?_ trivial trivial ?_
          · exact ⟨(iP rfl),(iP rfl),(iP rfl),trivial⟩
          · exact ⟨(cG rfl rfl rfl),(cG rfl rfl rfl),(cG rfl rfl rfl),(cG rfl rfl rfl),(cG rfl rfl rfl),trivial⟩
          · kernel_rfl) ?_
        refine an (bj rfl (ai (aS _ rfl rfl) (bF rfl rfl rfl (cI rfl rfl rfl (ai (bY (r:=false) _ _ rfl rfl rfl) (aj (aQ rfl rfl (aI (am (ai (aP _ aa rfl rfl rfl rfl) ?_))))))))))
        exact bO rfl rfl rfl rfl rfl rfl (ba rfl (ba rfl (aj (aC (zX (.inr rfl) rfl (.cellA aa rfl rfl rfl) (.tmp (rfl:_=AV.v _)) (.tmp (rfl:_=AV.v _)) (Le.out [] [(61,0),(62,0)] (.tup rfl (aH (.agg rfl (aH (iy rfl rfl (by simp) rfl) (aH (iy rfl rfl (by simp) rfl) lz))) lz)) rfl rfl rfl tr trivial))))))

def jA (l:List Nd) (j:Nat):Nd:=l.getD j ⟨0,0,[],0,[]⟩
theorem Eu (l:List Nd) (k:Nat) (h:k < l.length):jA l k=l[k]:=by simp [jA,h]
theorem cE (l:List Nd) (k:Nat) (h:k < l.length):PV.ups (((kL l).drop (k*4)).take 4)=[.v (.int .i64 ((jA l k).k:Int)), .v (.int .i64 ((jA l k).n:Int)), .v (bt (jA l k).s), .sl (jA l k).kn (jA l k).kids]:=by
 rw [Eu l k h,show ((kL l).drop (k*4)).take 4=l[k].row from oM Nd.row 4 (fun _=> rfl) l k h];rfl
theorem fI (l:List Tx) (n:Nat) (hn:l.length=n) (h1:n≤1000) (t:Tx):Spec Tryz.prog 204 (bi [.sl n (dU l), .v (bt t)] []) (aW (.v (.bool (decide (t∈l)))) []):=by
 refine Spec.ofN Tryz.func204 rfl Tryz.ntmps204 rfl ?_
 refine am (cq rfl (aj (aG fun K2 hK2=> ?_)))
 refine am (ba rfl (aj (au ?_)))
 refine bC (α:=Nat) (fun k=> k≤n∧t∉l.take k) 18 [(0,_),(1,_)] [] (fun k=> [(5, .v (.int .i64 (k:Int)))]) (fun k=> []) [] [] (fun k=> n - k) 0 ?_ (by
  refine Le.mkJ [] [] rfl ?_ ?_ trivial trivial ?_
  ·exact ⟨(iS rfl),(iV rfl),(cj ag),trivial⟩
  ·exact trivial
  ·kernel_rfl) ?_
 ·exact ⟨Nat.zero_le _,by simp⟩
 intro k hk
 obtain ⟨hk,hnt⟩:=hk
 refine aG fun K4 hK4=> ?_
 refine am (aR rfl (ep rfl (ai (bG _ aa rfl) (ai (bp _ _ rfl rfl rfl) (aj (aV rfl (fun hc9=> ?_) (fun hc9=> ?_)))))))
 ·skip
  refine bA (hK4 _ ?_)
  clear hK4;try clear K4
  refine aq (au (am (ep rfl (aR rfl (ai (bf _ _ aa rfl rfl _ rfl ab (by (simp only [aZ,bm,bl,bw,bv,bJ,bz];omega)) (by exact Nat.mul_one _)) ?_)))))
  refine ai (bB _ aa rfl (by exact fv _ _ ab) rfl) ?_
  refine dJ rfl (ai (aT _ _ Tryz.underlying9 rfl rfl rfl) (aj (aV rfl (fun hc17=> ?_) (fun hc17=> ?_))))
  ·skip
   refine am (cq rfl (aj (aC (aY (.inr rfl) rfl (.tmp (rfl:_=AV.v (.bool _))) (Le.out [] [] (ie ?_) rfl rfl rfl trivial trivial)))))
   exact decide_eq_true (hc17 ▸ iX ab)
  ·skip
   refine cf (an (aR rfl (ai (bc _ _ rfl rfl (bq ab)) ?_)))
   refine ba rfl (az (⟨k+1,?_,?_,?_⟩))
   ·exact ⟨by omega,jj hnt ab hc17⟩
   ·skip
    refine Le.mkJ [] [] rfl ?_ ?_ trivial trivial ?_
    ·exact ⟨(iS rfl),(iV rfl),(cj ag),trivial⟩
    ·exact trivial
    ·kernel_rfl
   ·omega
 ·skip
  have hall:t∉l:=by rwa [List.take_of_length_le ab] at hnt
  refine bL (id (hK2 _ ?_))
  clear hK2;try clear K2
  refine am (cq rfl (aj (aC (aY (.inr rfl) rfl (.tmp (rfl:_=AV.v (.bool _))) (Le.out [] [] (ie ?_) rfl rfl rfl trivial trivial)))))
  exact decide_eq_false hall
def vc:List Tx:=[[60],[60,61],[62],[62,61],[61,61],[33,61]]
theorem lg (t:Tx):Spec Tryz.prog 227 (bi [.v (bt t)] []) (aW (.v (.bool (decide (t∈vc)))) []):=by
 refine Spec.ofN Tryz.func227 rfl Tryz.ntmps227 rfl ?_
 refine am (cq rfl (aj (am (ai (aU _ _ aa rfl ag (by (simp <;> rfl)) ah rfl) ?_))))
 refine dJ rfl (ai (aJ aa al (fI vc 6 rfl ab t) rfl rfl) ?_)
 refine cq rfl (aj (aC (aY (.inr rfl) rfl (.tmp (rfl:_=AV.v (.bool _))) (Le.out [] [] (ie ?_) rfl rfl rfl trivial trivial))))
 rfl
theorem ED (n:Nat):Spec Tryz.prog 203 (bi [mQ (nd 12 n [] [])] []) (aW (.v (.int .i64 1)) []):=by
 refine Spec.ofN Tryz.func203 rfl Tryz.ntmps203 rfl ?_
 refine am (ai (bk (1,0) _ rfl rfl) (ba rfl (aj (aq (am (bF rfl rfl rfl (cI rfl rfl rfl (jc rfl rfl rfl (cH rfl (aX rfl rfl ah ?_))))))))))
 refine aX rfl rfl ah ?_
 refine aX rfl rfl ah ?_
 refine ai (aF _ _ _ rfl (rfl:_=AV.v (.bool _))) (cH rfl (aX rfl rfl ah ?_))
 refine aX rfl rfl ah ?_
 refine aX rfl rfl ah ?_
 refine ai (aF _ _ _ rfl (rfl:_=AV.v (.bool _))) (aj (bD rfl rfl (aq ?_)))
 refine aM (σ':=aB 80 [] [] [] []) kp ?_
 exact an (ba rfl (aj (aC (aY (.inr rfl) rfl (.tmp (rfl:_=AV.v _)) (Le.out [] [] .v rfl rfl rfl trivial trivial)))))
theorem CS (s:Tx):Spec Tryz.prog 203 (bi [mQ (nd 14 0 s [])] []) (aW (.v (.int .i64 1)) []):=by
 refine Spec.ofN Tryz.func203 rfl Tryz.ntmps203 rfl ?_
 refine am (ai (bk (1,0) _ rfl rfl) (ba rfl (aj (aq (am (bF rfl rfl rfl (cI rfl rfl rfl (eI rfl rfl rfl (cH rfl (ax rfl rfl (aK _ aa rfl rfl rfl) ?_))))))))))
 refine ax rfl rfl (aN _ aa rfl rfl (rfl:_=some (AV.v (.int _ _)))) (ax rfl rfl (bR (r:=true) _ _ rfl rfl rfl) (ai (aF _ _ _ rfl (rfl:_=AV.v (.bool _))) (cH rfl (aX rfl rfl ah ?_))))
 refine aX rfl rfl ah ?_
 refine aX rfl rfl ah ?_
 refine ai (aF _ _ _ rfl (rfl:_=AV.v (.bool _))) (aj (bD rfl rfl (aq ?_)))
 refine aM (σ':=aB 80 [] [] [] []) kp ?_
 exact an (ba rfl (aj (aC (aY (.inr rfl) rfl (.tmp (rfl:_=AV.v _)) (Le.out [] [] .v rfl rfl rfl trivial trivial)))))
theorem AK (s:Tx):Spec Tryz.prog 203 (bi [mQ (nd 15 0 s [])] []) (aW (.v (.int .i64 1)) []):=by
 refine Spec.ofN Tryz.func203 rfl Tryz.ntmps203 rfl ?_
 refine am (ai (bk (1,0) _ rfl rfl) (ba rfl (aj (aq (am (bF rfl rfl rfl (cI rfl rfl rfl (eI rfl rfl rfl (cH rfl (ax rfl rfl (aK _ aa rfl rfl rfl) ?_))))))))))
 refine ax rfl rfl (aN _ aa rfl rfl (rfl:_=some (AV.v (.int _ _)))) (ax rfl rfl (bR (r:=false) _ _ rfl rfl rfl) (ai (aF _ _ _ rfl (rfl:_=AV.v (.bool _))) (cH rfl (ax rfl rfl (aK _ aa rfl rfl rfl) (ax rfl rfl (aN _ aa rfl rfl (rfl:_=some (AV.v (.int _ _)))) (ax rfl rfl (bR (r:=true) _ _ rfl rfl rfl) (ai (aF _ _ _ rfl (rfl:_=AV.v (.bool _))) (aj (bD rfl rfl (aq ?_))))))))))
 refine aM (σ':=aB 80 [] [] [] []) kp ?_
 exact an (ba rfl (aj (aC (aY (.inr rfl) rfl (.tmp (rfl:_=AV.v _)) (Le.out [] [] .v rfl rfl rfl trivial trivial)))))
theorem AS (n:Nat):Spec Tryz.prog 203 (bi [mQ (nd 13 n [] [])] []) (aW (.v (.int .i64 2)) []):=by
 refine Spec.ofN Tryz.func203 rfl Tryz.ntmps203 rfl ?_
 refine am (ai (bk (1,0) _ rfl rfl) (ba rfl (aj (aq (am (bF rfl rfl rfl (cI rfl rfl rfl (eI rfl rfl rfl (cH rfl (ax rfl rfl (aK _ aa rfl rfl rfl) ?_))))))))))
 refine ax rfl rfl (aN _ aa rfl rfl (rfl:_=some (AV.v (.int _ _)))) (ax rfl rfl (bR (r:=false) _ _ rfl rfl rfl) (ai (aF _ _ _ rfl (rfl:_=AV.v (.bool _))) (cH rfl (ax rfl rfl (aK _ aa rfl rfl rfl) (ax rfl rfl (aN _ aa rfl rfl (rfl:_=some (AV.v (.int _ _)))) (ax rfl rfl (bR (r:=false) _ _ rfl rfl rfl) (ai (aF _ _ _ rfl (rfl:_=AV.v (.bool _))) (aj (aQ rfl rfl (aI ?_))))))))))
 refine aq (aq ?_)
 refine aM (σ':=aB 80 [(1,_)] [((1,0),_)] [] []) kp ?_
 exact an (bF rfl rfl rfl (cI rfl rfl rfl (jc rfl rfl rfl (aj (bD rfl rfl (am (ba rfl (aj (aC (aY (.inr rfl) rfl (.tmp (rfl:_=AV.v _)) (Le.out [] [] .v rfl rfl rfl trivial trivial)))))))))))
theorem Bl (L:List Nd) (hL:L.length≤3) (t:Nat→Nat) (ht: ∀ j,t j≤2) (h: ∀ j,j < L.length→Spec Tryz.prog 203 (bi [mQ (jA L j)] []) (aW (.v (.int .i64 (t j:Int))) [])) (r:Nat) (hr1:(∀ j,j < L.length→t j=1)→r=1) (hr0: ∀ j,j < L.length→t j≠1→r=0):
  Spec Tryz.prog 203 (bi [.agg [.v (.int .i64 16), .v (.int .i64 0), .v (bt []), .sl L.length (kL L)]] []) (aW (.v (.int .i64 (r:Int))) []):=by
 refine Spec.ofN Tryz.func203 rfl Tryz.ntmps203 rfl ?_
 refine am (ai (bk (1,0) _ rfl rfl) (ba rfl (aj (aq (am (bF rfl rfl rfl (cI rfl rfl rfl (eI rfl rfl rfl (cH rfl (ax rfl rfl (aK _ aa rfl rfl rfl) ?_))))))))))
 refine ax rfl rfl (aN _ aa rfl rfl (rfl:_=some (AV.v (.int _ _)))) (ax rfl rfl (bR (r:=false) _ _ rfl rfl rfl) (ai (aF _ _ _ rfl (rfl:_=AV.v (.bool _))) (cH rfl (ax rfl rfl (aK _ aa rfl rfl rfl) (ax rfl rfl (aN _ aa rfl rfl (rfl:_=some (AV.v (.int _ _)))) (ax rfl rfl (bR (r:=false) _ _ rfl rfl rfl) (ai (aF _ _ _ rfl (rfl:_=AV.v (.bool _))) (aj (aQ rfl rfl (aI ?_))))))))))
 refine aq (aq ?_)
 refine aM (σ':=aB 80 [(1,_)] [((1,0),_)] [] []) kp ?_
 refine an (bF rfl rfl rfl (cI rfl rfl rfl (eI rfl rfl rfl (aj (aQ rfl rfl (aI (aq (am (bF rfl rfl rfl (cI rfl rfl rfl ?_))))))))))
 refine ai (bY (r:=false) _ _ rfl rfl rfl) (cH rfl (aX rfl rfl ah ?_))
 refine aX rfl rfl ah ?_
 refine aX rfl rfl ah ?_
 refine ai (aF _ _ _ rfl (rfl:_=AV.v (.bool _))) (cH rfl (aX rfl rfl ah ?_))
 refine aX rfl rfl ah ?_
 refine aX rfl rfl ah ?_
 refine ai (aF _ _ _ rfl (rfl:_=AV.v (.bool _))) (aj (aQ rfl rfl (aI (aq ?_))))
 refine aM (σ':=aB 80 [(1,_)] [((1,0),_)] [] []) kp ?_
 refine an (ba rfl (aj (am (ba rfl (aj (aq (am (bF rfl rfl rfl (cI rfl rfl rfl (eI rfl rfl rfl ?_))))))))))
 refine cH rfl (aX rfl rfl ah ?_)
 refine aX rfl rfl ah ?_
 refine aX rfl rfl ah ?_
 refine ai (aF _ _ _ rfl (rfl:_=AV.v (.bool _))) (cH rfl (ax rfl rfl (aK _ aa rfl rfl rfl) (ax rfl rfl (aN _ aa rfl rfl (rfl:_=some (AV.v (.int _ _)))) (ax rfl rfl (bR (r:=false) _ _ rfl rfl rfl) (ax rfl rfl (aD _ (rfl:_=AV.v (.bool _))) (aX rfl rfl ah ?_))))))
 refine aX rfl rfl ah ?_
 refine aX rfl rfl ah ?_
 refine aX rfl rfl ah ?_
 refine ax rfl rfl (aF _ _ _ rfl (rfl:_=AV.v (.bool _))) (ai (aF _ _ _ rfl (rfl:_=AV.v (.bool _))) (aj (aQ rfl rfl (aI (aq (aq ?_))))))
 refine aM (σ':=aB 80 [(1,_),(3,_),(4,_)] [((1,0),_)] [] []) kp ?_
 refine an (bF rfl rfl rfl (cI rfl rfl rfl (eI rfl rfl rfl (cH rfl (aX rfl rfl ah ?_)))))
 refine aX rfl rfl ah ?_
 refine aX rfl rfl ah ?_
 refine ai (aF _ _ _ rfl (rfl:_=AV.v (.bool _))) (aj (aQ rfl rfl (aI (aG fun K14 hK14=> ?_))))
 refine am (ba rfl (aj (au ?_)))
 refine bC (α:=Nat) (fun j=> j≤L.length∧ ∀ q,q < j→t q=1) 80 [(1,_),(3,_),(4,_)] [((1,0),_)] (fun j=> [(5, .v (.int .i64 (j:Int)))]) (fun j=> []) [] [] (fun j=> L.length - j) 0 ?_ (by
  refine Le.mkJ [] [] rfl ?_ ?_ trivial trivial ?_
  ·exact ⟨(iP rfl),(iV rfl),(iV rfl),(cj ag),trivial⟩
  ·exact ⟨(cG rfl rfl rfl),trivial⟩
  ·kernel_rfl) ?_
 ·exact ⟨Nat.zero_le _,fun q hq=> by omega⟩
 intro j hj
 obtain ⟨hj,hall⟩:=hj
 have htj:=ht j
 refine aG fun K16 hK16=> ?_
 refine am (aR rfl (bF rfl rfl rfl (fK rfl rfl rfl (ai (bG _ aa rfl) (ai (bp _ _ rfl rfl rfl) (aj (aV rfl (fun hc67=> ?_) (fun hc67=> ?_))))))))
 ·skip
  refine bA (hK16 _ ?_)
  clear hK16;try clear K16
  refine aq (au (am (bF rfl rfl rfl (fK rfl rfl rfl (aR rfl (ai (bf _ _ aa rfl rfl _ rfl ab (by (simp only [aZ,bm,bl,bw,bv,bJ,bz];omega)) ag) ?_))))))
  refine ai (cg _ aa rfl (by exact cE _ _ ab) rfl) ?_
  refine ai (aJ aa al (h j ab) rfl rfl) ?_
  refine ba rfl (aj (am (aR rfl (aR rfl (ai (bY _ _ rfl rfl rfl) (aj (aV rfl (fun hc78=> ?_) (fun hc78=> ?_))))))))
  ·skip
   have hr:=hr0 j ab ab
   refine aq ?_
   refine aM (σ':=aB 80 [] [] [] []) kp ?_
   refine an (ba rfl (aj (aC (aY (.inr rfl) rfl (.tmp (rfl:_=AV.v (.int _ _))) (Le.out [] [] (cj ?_) rfl rfl rfl trivial trivial)))))
   rw [hr];rfl
  ·skip
   have hall1: ∀ q,q < j+1→t q=1:=fun q hq=> by
    by_cases h:q < j
    ·exact hall q h
    ·obtain rfl:q=j:=by omega
     omega
   refine cf ?_
   refine aM (σ':=aB 80 [(1,_),(3,_),(4,_),(5,_)] [((1,0),_)] [] []) kp ?_
   refine an (aR rfl (ai (bc _ _ rfl rfl (bq ab)) ?_))
   refine ba rfl (az (⟨j+1,?_,?_,?_⟩))
   ·exact ⟨by omega,hall1⟩
   ·skip
    refine Le.mkJ [] [] rfl ?_ ?_ trivial trivial ?_
    ·exact ⟨(iP rfl),(iV rfl),(iV rfl),(cj ag),trivial⟩
    ·exact ⟨(cG rfl rfl rfl),trivial⟩
    ·kernel_rfl
   ·omega
 ·skip
  have hr:=hr1 fun q hq=> hall q ab
  refine bL (id (hK14 _ ?_))
  clear hK14;try clear K14
  refine am (aR rfl (ba rfl (aj (aC (aY (.inr rfl) rfl (.tmp (rfl:_=AV.v (.int _ _))) (Le.out [] [] (cj ?_) rfl rfl rfl trivial trivial))))))
  rw [hr];rfl
theorem DC (L:List Nd) (hL:L.length≤3) (t:Nat→Nat) (ht: ∀ j,t j≤2) (h: ∀ j,j < L.length→Spec Tryz.prog 203 (bi [mQ (jA L j)] []) (aW (.v (.int .i64 (t j:Int))) [])) (r:Nat) (hr1:(∀ j,j < L.length→t j=1)→r=1) (hr0: ∀ j,j < L.length→t j≠1→r=0):
  Spec Tryz.prog 203 (bi [.agg [.v (.int .i64 17), .v (.int .i64 0), .v (bt [45]), .sl L.length (kL L)]] []) (aW (.v (.int .i64 (r:Int))) []):=by
 refine Spec.ofN Tryz.func203 rfl Tryz.ntmps203 rfl ?_
 refine am (ai (bk (1,0) _ rfl rfl) (ba rfl (aj (aq (am (bF rfl rfl rfl (cI rfl rfl rfl (eI rfl rfl rfl (cH rfl (ax rfl rfl (aK _ aa rfl rfl rfl) ?_))))))))))
 refine ax rfl rfl (aN _ aa rfl rfl (rfl:_=some (AV.v (.int _ _)))) (ax rfl rfl (bR (r:=false) _ _ rfl rfl rfl) (ai (aF _ _ _ rfl (rfl:_=AV.v (.bool _))) (cH rfl (ax rfl rfl (aK _ aa rfl rfl rfl) (ax rfl rfl (aN _ aa rfl rfl (rfl:_=some (AV.v (.int _ _)))) (ax rfl rfl (bR (r:=false) _ _ rfl rfl rfl) (ai (aF _ _ _ rfl (rfl:_=AV.v (.bool _))) (aj (aQ rfl rfl (aI ?_))))))))))
 refine aq (aq ?_)
 refine aM (σ':=aB 80 [(1,_)] [((1,0),_)] [] []) kp ?_
 refine an (bF rfl rfl rfl (cI rfl rfl rfl (eI rfl rfl rfl (aj (aQ rfl rfl (aI (aq (am (bF rfl rfl rfl (cI rfl rfl rfl ?_))))))))))
 refine ai (bY (r:=true) _ _ rfl rfl rfl) (cH rfl (ax rfl rfl (aK _ aa rfl rfl rfl) (ax rfl rfl (aN _ aa rfl rfl (rfl:_=some (AV.v (.int _ _)))) (ax rfl rfl (bY (r:=false) _ _ rfl rfl rfl) (ai (aF _ _ _ rfl (rfl:_=AV.v (.bool _))) (cH rfl (aX rfl rfl ah ?_)))))))
 refine aX rfl rfl ah ?_
 refine aX rfl rfl ah ?_
 refine ai (aF _ _ _ rfl (rfl:_=AV.v (.bool _))) (aj (aQ rfl rfl (aI (aq ?_))))
 refine aM (σ':=aB 80 [(1,_)] [((1,0),_)] [] []) kp ?_
 refine an (ba rfl (aj (am (ba rfl (aj (aq (am (bF rfl rfl rfl (cI rfl rfl rfl (jc rfl rfl rfl ?_))))))))))
 refine cH rfl (ax rfl rfl (aK _ aa rfl rfl rfl) (ax rfl rfl (aN _ aa rfl rfl (rfl:_=some (AV.v (.string _)))) (ax rfl rfl (aT (r:=false) _ _ Tryz.underlying9 rfl rfl rfl) (ai (aF _ _ _ rfl (rfl:_=AV.v (.bool _))) (cH rfl (ax rfl rfl (aK _ aa rfl rfl rfl) (ax rfl rfl (aN _ aa rfl rfl (rfl:_=some (AV.v (.int _ _)))) (ax rfl rfl (bR (r:=false) _ _ rfl rfl rfl) (ax rfl rfl (aD _ (rfl:_=AV.v (.bool _))) (aX rfl rfl ah ?_))))))))))
 refine aX rfl rfl ah ?_
 refine aX rfl rfl ah ?_
 refine aX rfl rfl ah ?_
 refine ax rfl rfl (aF _ _ _ rfl (rfl:_=AV.v (.bool _))) (ai (aF _ _ _ rfl (rfl:_=AV.v (.bool _))) (aj (aQ rfl rfl (aI (aq (aq ?_))))))
 refine aM (σ':=aB 80 [(1,_),(3,_),(4,_)] [((1,0),_)] [] []) kp ?_
 refine an (bF rfl rfl rfl (cI rfl rfl rfl (eI rfl rfl rfl (cH rfl (aX rfl rfl ah ?_)))))
 refine aX rfl rfl ah ?_
 refine aX rfl rfl ah ?_
 refine ai (aF _ _ _ rfl (rfl:_=AV.v (.bool _))) (aj (aQ rfl rfl (aI (aG fun K14 hK14=> ?_))))
 refine am (ba rfl (aj (au ?_)))
 refine bC (α:=Nat) (fun j=> j≤L.length∧ ∀ q,q < j→t q=1) 80 [(1,_),(3,_),(4,_)] [((1,0),_)] (fun j=> [(5, .v (.int .i64 (j:Int)))]) (fun j=> []) [] [] (fun j=> L.length - j) 0 ?_ (by
  refine Le.mkJ [] [] rfl ?_ ?_ trivial trivial ?_
  ·exact ⟨(iP rfl),(iV rfl),(iV rfl),(cj ag),trivial⟩
  ·exact ⟨(cG rfl rfl rfl),trivial⟩
  ·kernel_rfl) ?_
 ·exact ⟨Nat.zero_le _,fun q hq=> by omega⟩
 intro j hj
 obtain ⟨hj,hall⟩:=hj
 have htj:=ht j
 refine aG fun K16 hK16=> ?_
 refine am (aR rfl (bF rfl rfl rfl (fK rfl rfl rfl (ai (bG _ aa rfl) (ai (bp _ _ rfl rfl rfl) (aj (aV rfl (fun hc67=> ?_) (fun hc67=> ?_))))))))
 ·skip
  refine bA (hK16 _ ?_)
  clear hK16;try clear K16
  refine aq (au (am (bF rfl rfl rfl (fK rfl rfl rfl (aR rfl (ai (bf _ _ aa rfl rfl _ rfl ab (by (simp only [aZ,bm,bl,bw,bv,bJ,bz];omega)) ag) ?_))))))
  refine ai (cg _ aa rfl (by exact cE _ _ ab) rfl) ?_
  refine ai (aJ aa al (h j ab) rfl rfl) ?_
  refine ba rfl (aj (am (aR rfl (aR rfl (ai (bY _ _ rfl rfl rfl) (aj (aV rfl (fun hc78=> ?_) (fun hc78=> ?_))))))))
  ·skip
   have hr:=hr0 j ab ab
   refine aq ?_
   refine aM (σ':=aB 80 [] [] [] []) kp ?_
   refine an (ba rfl (aj (aC (aY (.inr rfl) rfl (.tmp (rfl:_=AV.v (.int _ _))) (Le.out [] [] (cj ?_) rfl rfl rfl trivial trivial)))))
   rw [hr];rfl
  ·skip
   have hall1: ∀ q,q < j+1→t q=1:=fun q hq=> by
    by_cases h:q < j
    ·exact hall q h
    ·obtain rfl:q=j:=by omega
     omega
   refine cf ?_
   refine aM (σ':=aB 80 [(1,_),(3,_),(4,_),(5,_)] [((1,0),_)] [] []) kp ?_
   refine an (aR rfl (ai (bc _ _ rfl rfl (bq ab)) ?_))
   refine ba rfl (az (⟨j+1,?_,?_,?_⟩))
   ·exact ⟨by omega,hall1⟩
   ·skip
    refine Le.mkJ [] [] rfl ?_ ?_ trivial trivial ?_
    ·exact ⟨(iP rfl),(iV rfl),(iV rfl),(cj ag),trivial⟩
    ·exact ⟨(cG rfl rfl rfl),trivial⟩
    ·kernel_rfl
   ·omega
 ·skip
  have hr:=hr1 fun q hq=> hall q ab
  refine bL (id (hK14 _ ?_))
  clear hK14;try clear K14
  refine am (aR rfl (ba rfl (aj (aC (aY (.inr rfl) rfl (.tmp (rfl:_=AV.v (.int _ _))) (Le.out [] [] (cj ?_) rfl rfl rfl trivial trivial))))))
  rw [hr];rfl
theorem Dr (L:List Nd) (hL:L.length≤3) (t:Nat→Nat) (ht: ∀ j,t j≤2) (h: ∀ j,j < L.length→Spec Tryz.prog 203 (bi [mQ (jA L j)] []) (aW (.v (.int .i64 (t j:Int))) [])) (r:Nat) (hr1:(∀ j,j < L.length→t j=2)→r=2) (hr0: ∀ j,j < L.length→t j≠2→r=0):
  Spec Tryz.prog 203 (bi [.agg [.v (.int .i64 17), .v (.int .i64 0), .v (bt [33]), .sl L.length (kL L)]] []) (aW (.v (.int .i64 (r:Int))) []):=by
 refine Spec.ofN Tryz.func203 rfl Tryz.ntmps203 rfl ?_
 refine am (ai (bk (1,0) _ rfl rfl) (ba rfl (aj (aq (am (bF rfl rfl rfl (cI rfl rfl rfl (eI rfl rfl rfl (cH rfl (ax rfl rfl (aK _ aa rfl rfl rfl) ?_))))))))))
 refine ax rfl rfl (aN _ aa rfl rfl (rfl:_=some (AV.v (.int _ _)))) (ax rfl rfl (bR (r:=false) _ _ rfl rfl rfl) (ai (aF _ _ _ rfl (rfl:_=AV.v (.bool _))) (cH rfl (ax rfl rfl (aK _ aa rfl rfl rfl) (ax rfl rfl (aN _ aa rfl rfl (rfl:_=some (AV.v (.int _ _)))) (ax rfl rfl (bR (r:=false) _ _ rfl rfl rfl) (ai (aF _ _ _ rfl (rfl:_=AV.v (.bool _))) (aj (aQ rfl rfl (aI ?_))))))))))
 refine aq (aq ?_)
 refine aM (σ':=aB 80 [(1,_)] [((1,0),_)] [] []) kp ?_
 refine an (bF rfl rfl rfl (cI rfl rfl rfl (eI rfl rfl rfl (aj (aQ rfl rfl (aI (aq (am (bF rfl rfl rfl (cI rfl rfl rfl ?_))))))))))
 refine ai (bY (r:=true) _ _ rfl rfl rfl) (cH rfl (ax rfl rfl (aK _ aa rfl rfl rfl) (ax rfl rfl (aN _ aa rfl rfl (rfl:_=some (AV.v (.int _ _)))) (ax rfl rfl (bY (r:=false) _ _ rfl rfl rfl) (ai (aF _ _ _ rfl (rfl:_=AV.v (.bool _))) (cH rfl (aX rfl rfl ah ?_)))))))
 refine aX rfl rfl ah ?_
 refine aX rfl rfl ah ?_
 refine ai (aF _ _ _ rfl (rfl:_=AV.v (.bool _))) (aj (aQ rfl rfl (aI (aq ?_))))
 refine aM (σ':=aB 80 [(1,_)] [((1,0),_)] [] []) kp ?_
 refine an (ba rfl (aj (am (ba rfl (aj (aq (am (bF rfl rfl rfl (cI rfl rfl rfl (jc rfl rfl rfl ?_))))))))))
 refine cH rfl (ax rfl rfl (aK _ aa rfl rfl rfl) (ax rfl rfl (aN _ aa rfl rfl (rfl:_=some (AV.v (.string _)))) (ax rfl rfl (aT (r:=true) _ _ Tryz.underlying9 rfl rfl rfl) (ai (aF _ _ _ rfl (rfl:_=AV.v (.bool _))) (cH rfl (aX rfl rfl ah ?_))))))
 refine aX rfl rfl ah ?_
 refine aX rfl rfl ah ?_
 refine aX rfl rfl ah ?_
 refine mJ rfl rfl (mJ rfl rfl (mJ rfl rfl (mJ rfl rfl (aX rfl rfl ah ?_))))
 refine ai (aF _ _ _ rfl (rfl:_=AV.v (.bool _))) (aj (bD rfl rfl (aq ?_)))
 refine aM (σ':=aB 80 [(1,_)] [((1,0),_)] [] []) kp ?_
 refine an (ba rfl (aj (an (ba rfl (aj (aq (am (bF rfl rfl rfl (cI rfl rfl rfl (eI rfl rfl rfl ?_))))))))))
 refine cH rfl (aX rfl rfl ah ?_)
 refine aX rfl rfl ah ?_
 refine aX rfl rfl ah ?_
 refine ai (aF _ _ _ rfl (rfl:_=AV.v (.bool _))) (aj (aQ rfl rfl (aI (aG fun K15 hK15=> ?_))))
 refine am (ba rfl (aj (au ?_)))
 refine bC (α:=Nat) (fun j=> j≤L.length∧ ∀ q,q < j→t q=2) 80 [(1,_),(3,_),(4,_)] [((1,0),_)] (fun j=> [(5, .v (.int .i64 (j:Int)))]) (fun j=> []) [] [] (fun j=> L.length - j) 0 ?_ (by
  refine Le.mkJ [] [] rfl ?_ ?_ trivial trivial ?_
  ·exact ⟨(iP rfl),(iV rfl),(iV rfl),(cj ag),trivial⟩
  ·exact ⟨(cG rfl rfl rfl),trivial⟩
  ·kernel_rfl) ?_
 ·exact ⟨Nat.zero_le _,fun q hq=> by omega⟩
 intro j hj
 obtain ⟨hj,hall⟩:=hj
 have htj:=ht j
 refine aG fun K17 hK17=> ?_
 refine am (aR rfl (bF rfl rfl rfl (fK rfl rfl rfl (ai (bG _ aa rfl) (ai (bp _ _ rfl rfl rfl) (aj (aV rfl (fun hc67=> ?_) (fun hc67=> ?_))))))))
 ·skip
  refine bA (hK17 _ ?_)
  clear hK17;try clear K17
  refine aq (au (am (bF rfl rfl rfl (fK rfl rfl rfl (aR rfl (ai (bf _ _ aa rfl rfl _ rfl ab (by (simp only [aZ,bm,bl,bw,bv,bJ,bz];omega)) ag) ?_))))))
  refine ai (cg _ aa rfl (by exact cE _ _ ab) rfl) ?_
  refine ai (aJ aa al (h j ab) rfl rfl) ?_
  refine ba rfl (aj (am (aR rfl (aR rfl (ai (bY _ _ rfl rfl rfl) (aj (aV rfl (fun hc78=> ?_) (fun hc78=> ?_))))))))
  ·skip
   have hr:=hr0 j ab ab
   refine aq ?_
   refine aM (σ':=aB 80 [] [] [] []) kp ?_
   refine an (ba rfl (aj (aC (aY (.inr rfl) rfl (.tmp (rfl:_=AV.v (.int _ _))) (Le.out [] [] (cj ?_) rfl rfl rfl trivial trivial)))))
   rw [hr];rfl
  ·skip
   have hall1: ∀ q,q < j+1→t q=2:=fun q hq=> by
    by_cases h:q < j
    ·exact hall q h
    ·obtain rfl:q=j:=by omega
     omega
   refine cf ?_
   refine aM (σ':=aB 80 [(1,_),(3,_),(4,_),(5,_)] [((1,0),_)] [] []) kp ?_
   refine an (aR rfl (ai (bc _ _ rfl rfl (bq ab)) ?_))
   refine ba rfl (az (⟨j+1,?_,?_,?_⟩))
   ·exact ⟨by omega,hall1⟩
   ·skip
    refine Le.mkJ [] [] rfl ?_ ?_ trivial trivial ?_
    ·exact ⟨(iP rfl),(iV rfl),(iV rfl),(cj ag),trivial⟩
    ·exact ⟨(cG rfl rfl rfl),trivial⟩
    ·kernel_rfl
   ·omega
 ·skip
  have hr:=hr1 fun q hq=> hall q ab
  refine bL (id (hK15 _ ?_))
  clear hK15;try clear K15
  refine am (aR rfl (ba rfl (aj (aC (aY (.inr rfl) rfl (.tmp (rfl:_=AV.v (.int _ _))) (Le.out [] [] (cj ?_) rfl rfl rfl trivial trivial))))))
  rw [hr];rfl
theorem qU (s:Tx) (hs1:s∈[[38,38],[124,124]]) (hs2:s∉vc) (L:List Nd) (hL:L.length≤3) (t:Nat→Nat) (ht: ∀ j,t j≤2) (h: ∀ j,j < L.length→Spec Tryz.prog 203 (bi [mQ (jA L j)] []) (aW (.v (.int .i64 (t j:Int))) [])) (r:Nat) (hr1:(∀ j,j < L.length→t j=2)→r=2) (hr0: ∀ j,j < L.length→t j≠2→r=0):
  Spec Tryz.prog 203 (bi [.agg [.v (.int .i64 18), .v (.int .i64 0), .v (bt s), .sl L.length (kL L)]] []) (aW (.v (.int .i64 (r:Int))) []):=by
 refine Spec.ofN Tryz.func203 rfl Tryz.ntmps203 rfl ?_
 refine am (ai (bk (1,0) _ rfl rfl) (ba rfl (aj (aq (am (bF rfl rfl rfl (cI rfl rfl rfl (eI rfl rfl rfl (cH rfl (ax rfl rfl (aK _ aa rfl rfl rfl) ?_))))))))))
 refine ax rfl rfl (aN _ aa rfl rfl (rfl:_=some (AV.v (.int _ _)))) (ax rfl rfl (bR (r:=false) _ _ rfl rfl rfl) (ai (aF _ _ _ rfl (rfl:_=AV.v (.bool _))) (cH rfl (ax rfl rfl (aK _ aa rfl rfl rfl) (ax rfl rfl (aN _ aa rfl rfl (rfl:_=some (AV.v (.int _ _)))) (ax rfl rfl (bR (r:=false) _ _ rfl rfl rfl) (ai (aF _ _ _ rfl (rfl:_=AV.v (.bool _))) (aj (aQ rfl rfl (aI ?_))))))))))
 refine aq (aq ?_)
 refine aM (σ':=aB 80 [(1,_)] [((1,0),_)] [] []) kp ?_
 refine an (bF rfl rfl rfl (cI rfl rfl rfl (eI rfl rfl rfl (aj (aQ rfl rfl (aI (aq (am (bF rfl rfl rfl (cI rfl rfl rfl ?_))))))))))
 refine ai (bY (r:=true) _ _ rfl rfl rfl) (cH rfl (ax rfl rfl (aK _ aa rfl rfl rfl) (ax rfl rfl (aN _ aa rfl rfl (rfl:_=some (AV.v (.int _ _)))) (ax rfl rfl (bY (r:=true) _ _ rfl rfl rfl) (ai (aF _ _ _ rfl (rfl:_=AV.v (.bool _))) (cH rfl (ax rfl rfl (aK _ aa rfl rfl rfl) (ax rfl rfl (aN _ aa rfl rfl (rfl:_=some (AV.v (.int _ _)))) (ax rfl rfl (bY (r:=false) _ _ rfl rfl rfl) (ai (aF _ _ _ rfl (rfl:_=AV.v (.bool _))) ?_))))))))))
 refine aj (aQ rfl rfl (aI (aq ?_)))
 refine aM (σ':=aB 80 [(1,_)] [((1,0),_)] [] []) kp ?_
 refine an (ba rfl (aj (am (ba rfl (aj (aq (am (bF rfl rfl rfl (cI rfl rfl rfl (eI rfl rfl rfl ?_))))))))))
 refine cH rfl (aX rfl rfl ah ?_)
 refine aX rfl rfl ah ?_
 refine aX rfl rfl ah ?_
 refine ai (aF _ _ _ rfl (rfl:_=AV.v (.bool _))) (cH rfl (ax rfl rfl (aK _ aa rfl rfl rfl) (ax rfl rfl (aN _ aa rfl rfl (rfl:_=some (AV.v (.int _ _)))) (ax rfl rfl (bR (r:=true) _ _ rfl rfl rfl) (ax rfl rfl (aD _ (rfl:_=AV.v (.bool _))) (ax rfl rfl (aU _ _ aa rfl ag (by (simp <;> rfl)) ah rfl) ?_))))))
 refine ax rfl rfl (aK _ aa rfl rfl rfl) (ax rfl rfl (aN _ aa rfl rfl (rfl:_=some (AV.v (.string _)))) (ax rfl rfl (aJ aa al (fI [[38,38],[124,124]] 2 rfl ab s) rfl rfl) ?_))
 refine ax rfl rfl (aF _ _ _ rfl (rfl:_=AV.v (.bool _))) (ai (aF _ _ _ rfl (rfl:_=AV.v (.bool _))) (aj (bD rfl (decide_eq_true hs1) ?_)))
 refine aq ?_
 refine aM (σ':=aB 80 [(1,_)] [((1,0),_)] [] []) kp ?_
 refine an (ba rfl (aj (an (ba rfl (aj (aq (am (bF rfl rfl rfl (cI rfl rfl rfl (jc rfl rfl rfl ?_))))))))))
 refine cH rfl (ax rfl rfl (aK _ aa rfl rfl rfl) (ax rfl rfl (aN _ aa rfl rfl (rfl:_=some (AV.v (.string _)))) (ax rfl rfl (aJ aa al (lg s) rfl rfl) ?_)))
 refine ai (aF _ _ _ rfl (rfl:_=AV.v (.bool _))) (aj (aQ rfl (decide_eq_false hs2) ?_))
 refine aI (aG fun K15 hK15=> ?_)
 refine am (ba rfl (aj (au ?_)))
 refine bC (α:=Nat) (fun j=> j≤L.length∧ ∀ q,q < j→t q=2) 80 [(1,_),(3,_),(4,_)] [((1,0),_)] (fun j=> [(5, .v (.int .i64 (j:Int)))]) (fun j=> []) [] [] (fun j=> L.length - j) 0 ?_ (by
  refine Le.mkJ [] [] rfl ?_ ?_ trivial trivial ?_
  ·exact ⟨(iP rfl),(iV rfl),(iV rfl),(cj ag),trivial⟩
  ·exact ⟨(cG rfl rfl rfl),trivial⟩
  ·kernel_rfl) ?_
 ·exact ⟨Nat.zero_le _,fun q hq=> by omega⟩
 intro j hj
 obtain ⟨hj,hall⟩:=hj
 have htj:=ht j
 refine aG fun K17 hK17=> ?_
 refine am (aR rfl (bF rfl rfl rfl (fK rfl rfl rfl (ai (bG _ aa rfl) (ai (bp _ _ rfl rfl rfl) (aj (aV rfl (fun hc67=> ?_) (fun hc67=> ?_))))))))
 ·skip
  refine bA (hK17 _ ?_)
  clear hK17;try clear K17
  refine aq (au (am (bF rfl rfl rfl (fK rfl rfl rfl (aR rfl (ai (bf _ _ aa rfl rfl _ rfl ab (by (simp only [aZ,bm,bl,bw,bv,bJ,bz];omega)) ag) ?_))))))
  refine ai (cg _ aa rfl (by exact cE _ _ ab) rfl) ?_
  refine ai (aJ aa al (h j ab) rfl rfl) ?_
  refine ba rfl (aj (am (aR rfl (aR rfl (ai (bY _ _ rfl rfl rfl) (aj (aV rfl (fun hc78=> ?_) (fun hc78=> ?_))))))))
  ·skip
   have hr:=hr0 j ab ab
   refine aq ?_
   refine aM (σ':=aB 80 [] [] [] []) kp ?_
   refine an (ba rfl (aj (aC (aY (.inr rfl) rfl (.tmp (rfl:_=AV.v (.int _ _))) (Le.out [] [] (cj ?_) rfl rfl rfl trivial trivial)))))
   rw [hr];rfl
  ·skip
   have hall1: ∀ q,q < j+1→t q=2:=fun q hq=> by
    by_cases h:q < j
    ·exact hall q h
    ·obtain rfl:q=j:=by omega
     omega
   refine cf ?_
   refine aM (σ':=aB 80 [(1,_),(3,_),(4,_),(5,_)] [((1,0),_)] [] []) kp ?_
   refine an (aR rfl (ai (bc _ _ rfl rfl (bq ab)) ?_))
   refine ba rfl (az (⟨j+1,?_,?_,?_⟩))
   ·exact ⟨by omega,hall1⟩
   ·skip
    refine Le.mkJ [] [] rfl ?_ ?_ trivial trivial ?_
    ·exact ⟨(iP rfl),(iV rfl),(iV rfl),(cj ag),trivial⟩
    ·exact ⟨(cG rfl rfl rfl),trivial⟩
    ·kernel_rfl
   ·omega
 ·skip
  have hr:=hr1 fun q hq=> hall q ab
  refine bL (id (hK15 _ ?_))
  clear hK15;try clear K15
  refine am (aR rfl (ba rfl (aj (aC (aY (.inr rfl) rfl (.tmp (rfl:_=AV.v (.int _ _))) (Le.out [] [] (cj ?_) rfl rfl rfl trivial trivial))))))
  rw [hr];rfl
theorem Ec (s:Tx) (hs1:s∉[[38,38],[124,124]]) (hs2:s∈vc) (L:List Nd) (hL:L.length≤3) (t:Nat→Nat) (ht: ∀ j,t j≤2) (h: ∀ j,j < L.length→Spec Tryz.prog 203 (bi [mQ (jA L j)] []) (aW (.v (.int .i64 (t j:Int))) [])) (r:Nat) (hr1:(∀ j,j < L.length→t j=1)→r=2) (hr0: ∀ j,j < L.length→t j≠1→r=0):
  Spec Tryz.prog 203 (bi [.agg [.v (.int .i64 18), .v (.int .i64 0), .v (bt s), .sl L.length (kL L)]] []) (aW (.v (.int .i64 (r:Int))) []):=by
 refine Spec.ofN Tryz.func203 rfl Tryz.ntmps203 rfl ?_
 refine am (ai (bk (1,0) _ rfl rfl) (ba rfl (aj (aq (am (bF rfl rfl rfl (cI rfl rfl rfl (eI rfl rfl rfl (cH rfl (ax rfl rfl (aK _ aa rfl rfl rfl) ?_))))))))))
 refine ax rfl rfl (aN _ aa rfl rfl (rfl:_=some (AV.v (.int _ _)))) (ax rfl rfl (bR (r:=false) _ _ rfl rfl rfl) (ai (aF _ _ _ rfl (rfl:_=AV.v (.bool _))) (cH rfl (ax rfl rfl (aK _ aa rfl rfl rfl) (ax rfl rfl (aN _ aa rfl rfl (rfl:_=some (AV.v (.int _ _)))) (ax rfl rfl (bR (r:=false) _ _ rfl rfl rfl) (ai (aF _ _ _ rfl (rfl:_=AV.v (.bool _))) (aj (aQ rfl rfl (aI ?_))))))))))
 refine aq (aq ?_)
 refine aM (σ':=aB 80 [(1,_)] [((1,0),_)] [] []) kp ?_
 refine an (bF rfl rfl rfl (cI rfl rfl rfl (eI rfl rfl rfl (aj (aQ rfl rfl (aI (aq (am (bF rfl rfl rfl (cI rfl rfl rfl ?_))))))))))
 refine ai (bY (r:=true) _ _ rfl rfl rfl) (cH rfl (ax rfl rfl (aK _ aa rfl rfl rfl) (ax rfl rfl (aN _ aa rfl rfl (rfl:_=some (AV.v (.int _ _)))) (ax rfl rfl (bY (r:=true) _ _ rfl rfl rfl) (ai (aF _ _ _ rfl (rfl:_=AV.v (.bool _))) (cH rfl (ax rfl rfl (aK _ aa rfl rfl rfl) (ax rfl rfl (aN _ aa rfl rfl (rfl:_=some (AV.v (.int _ _)))) (ax rfl rfl (bY (r:=false) _ _ rfl rfl rfl) (ai (aF _ _ _ rfl (rfl:_=AV.v (.bool _))) ?_))))))))))
 refine aj (aQ rfl rfl (aI (aq ?_)))
 refine aM (σ':=aB 80 [(1,_)] [((1,0),_)] [] []) kp ?_
 refine an (ba rfl (aj (am (ba rfl (aj (aq (am (bF rfl rfl rfl (cI rfl rfl rfl (eI rfl rfl rfl ?_))))))))))
 refine cH rfl (aX rfl rfl ah ?_)
 refine aX rfl rfl ah ?_
 refine aX rfl rfl ah ?_
 refine ai (aF _ _ _ rfl (rfl:_=AV.v (.bool _))) (cH rfl (ax rfl rfl (aK _ aa rfl rfl rfl) (ax rfl rfl (aN _ aa rfl rfl (rfl:_=some (AV.v (.int _ _)))) (ax rfl rfl (bR (r:=true) _ _ rfl rfl rfl) (ax rfl rfl (aD _ (rfl:_=AV.v (.bool _))) (ax rfl rfl (aU _ _ aa rfl ag (by (simp <;> rfl)) ah rfl) ?_))))))
 refine ax rfl rfl (aK _ aa rfl rfl rfl) (ax rfl rfl (aN _ aa rfl rfl (rfl:_=some (AV.v (.string _)))) (ax rfl rfl (aJ aa al (fI [[38,38],[124,124]] 2 rfl ab s) rfl rfl) ?_))
 refine ax rfl rfl (aF _ _ _ rfl (rfl:_=AV.v (.bool _))) (ai (aF _ _ _ rfl (rfl:_=AV.v (.bool _))) (aj (aQ rfl (decide_eq_false hs1) ?_)))
 refine aI (aq (aq ?_))
 refine aM (σ':=aB 80 [(1,_),(3,_),(4,_)] [((1,0),_)] [] []) kp ?_
 refine an (bF rfl rfl rfl (cI rfl rfl rfl (jc rfl rfl rfl (cH rfl (ax rfl rfl (aK _ aa rfl rfl rfl) (ax rfl rfl (aN _ aa rfl rfl (rfl:_=some (AV.v (.string _)))) (ax rfl rfl (aJ aa al (lg s) rfl rfl) ?_)))))))
 refine ai (aF _ _ _ rfl (rfl:_=AV.v (.bool _))) (aj (bD rfl (decide_eq_true hs2) ?_))
 refine an (ba rfl (aj (aG fun K14 hK14=> ?_)))
 refine am (ba rfl (aj (au ?_)))
 refine bC (α:=Nat) (fun j=> j≤L.length∧ ∀ q,q < j→t q=1) 80 [(1,_),(3,_),(4,_)] [((1,0),_)] (fun j=> [(5, .v (.int .i64 (j:Int)))]) (fun j=> []) [] [] (fun j=> L.length - j) 0 ?_ (by
  refine Le.mkJ [] [] rfl ?_ ?_ trivial trivial ?_
  ·exact ⟨(iP rfl),(iV rfl),(iV rfl),(cj ag),trivial⟩
  ·exact ⟨(cG rfl rfl rfl),trivial⟩
  ·kernel_rfl) ?_
 ·exact ⟨Nat.zero_le _,fun q hq=> by omega⟩
 intro j hj
 obtain ⟨hj,hall⟩:=hj
 have htj:=ht j
 refine aG fun K16 hK16=> ?_
 refine am (aR rfl (bF rfl rfl rfl (fK rfl rfl rfl (ai (bG _ aa rfl) (ai (bp _ _ rfl rfl rfl) (aj (aV rfl (fun hc67=> ?_) (fun hc67=> ?_))))))))
 ·skip
  refine bA (hK16 _ ?_)
  clear hK16;try clear K16
  refine aq (au (am (bF rfl rfl rfl (fK rfl rfl rfl (aR rfl (ai (bf _ _ aa rfl rfl _ rfl ab (by (simp only [aZ,bm,bl,bw,bv,bJ,bz];omega)) ag) ?_))))))
  refine ai (cg _ aa rfl (by exact cE _ _ ab) rfl) ?_
  refine ai (aJ aa al (h j ab) rfl rfl) ?_
  refine ba rfl (aj (am (aR rfl (aR rfl (ai (bY _ _ rfl rfl rfl) (aj (aV rfl (fun hc78=> ?_) (fun hc78=> ?_))))))))
  ·skip
   have hr:=hr0 j ab ab
   refine aq ?_
   refine aM (σ':=aB 80 [] [] [] []) kp ?_
   refine an (ba rfl (aj (aC (aY (.inr rfl) rfl (.tmp (rfl:_=AV.v (.int _ _))) (Le.out [] [] (cj ?_) rfl rfl rfl trivial trivial)))))
   rw [hr];rfl
  ·skip
   have hall1: ∀ q,q < j+1→t q=1:=fun q hq=> by
    by_cases h:q < j
    ·exact hall q h
    ·obtain rfl:q=j:=by omega
     omega
   refine cf ?_
   refine aM (σ':=aB 80 [(1,_),(3,_),(4,_),(5,_)] [((1,0),_)] [] []) kp ?_
   refine an (aR rfl (ai (bc _ _ rfl rfl (bq ab)) ?_))
   refine ba rfl (az (⟨j+1,?_,?_,?_⟩))
   ·exact ⟨by omega,hall1⟩
   ·skip
    refine Le.mkJ [] [] rfl ?_ ?_ trivial trivial ?_
    ·exact ⟨(iP rfl),(iV rfl),(iV rfl),(cj ag),trivial⟩
    ·exact ⟨(cG rfl rfl rfl),trivial⟩
    ·kernel_rfl
   ·omega
 ·skip
  have hr:=hr1 fun q hq=> hall q ab
  refine bL (id (hK14 _ ?_))
  clear hK14;try clear K14
  refine am (aR rfl (ba rfl (aj (aC (aY (.inr rfl) rfl (.tmp (rfl:_=AV.v (.int _ _))) (Le.out [] [] (cj ?_) rfl rfl rfl trivial trivial))))))
  rw [hr];rfl
theorem zx (s:Tx) (hs1:s∉[[38,38],[124,124]]) (hs2:s∉vc) (L:List Nd) (hL:L.length≤3) (t:Nat→Nat) (ht: ∀ j,t j≤2) (h: ∀ j,j < L.length→Spec Tryz.prog 203 (bi [mQ (jA L j)] []) (aW (.v (.int .i64 (t j:Int))) [])) (r:Nat) (hr1:(∀ j,j < L.length→t j=1)→r=1) (hr0: ∀ j,j < L.length→t j≠1→r=0):
  Spec Tryz.prog 203 (bi [.agg [.v (.int .i64 18), .v (.int .i64 0), .v (bt s), .sl L.length (kL L)]] []) (aW (.v (.int .i64 (r:Int))) []):=by
 refine Spec.ofN Tryz.func203 rfl Tryz.ntmps203 rfl ?_
 refine am (ai (bk (1,0) _ rfl rfl) (ba rfl (aj (aq (am (bF rfl rfl rfl (cI rfl rfl rfl (eI rfl rfl rfl (cH rfl (ax rfl rfl (aK _ aa rfl rfl rfl) ?_))))))))))
 refine ax rfl rfl (aN _ aa rfl rfl (rfl:_=some (AV.v (.int _ _)))) (ax rfl rfl (bR (r:=false) _ _ rfl rfl rfl) (ai (aF _ _ _ rfl (rfl:_=AV.v (.bool _))) (cH rfl (ax rfl rfl (aK _ aa rfl rfl rfl) (ax rfl rfl (aN _ aa rfl rfl (rfl:_=some (AV.v (.int _ _)))) (ax rfl rfl (bR (r:=false) _ _ rfl rfl rfl) (ai (aF _ _ _ rfl (rfl:_=AV.v (.bool _))) (aj (aQ rfl rfl (aI ?_))))))))))
 refine aq (aq ?_)
 refine aM (σ':=aB 80 [(1,_)] [((1,0),_)] [] []) kp ?_
 refine an (bF rfl rfl rfl (cI rfl rfl rfl (eI rfl rfl rfl (aj (aQ rfl rfl (aI (aq (am (bF rfl rfl rfl (cI rfl rfl rfl ?_))))))))))
 refine ai (bY (r:=true) _ _ rfl rfl rfl) (cH rfl (ax rfl rfl (aK _ aa rfl rfl rfl) (ax rfl rfl (aN _ aa rfl rfl (rfl:_=some (AV.v (.int _ _)))) (ax rfl rfl (bY (r:=true) _ _ rfl rfl rfl) (ai (aF _ _ _ rfl (rfl:_=AV.v (.bool _))) (cH rfl (ax rfl rfl (aK _ aa rfl rfl rfl) (ax rfl rfl (aN _ aa rfl rfl (rfl:_=some (AV.v (.int _ _)))) (ax rfl rfl (bY (r:=false) _ _ rfl rfl rfl) (ai (aF _ _ _ rfl (rfl:_=AV.v (.bool _))) ?_))))))))))
 refine aj (aQ rfl rfl (aI (aq ?_)))
 refine aM (σ':=aB 80 [(1,_)] [((1,0),_)] [] []) kp ?_
 refine an (ba rfl (aj (am (ba rfl (aj (aq (am (bF rfl rfl rfl (cI rfl rfl rfl (eI rfl rfl rfl ?_))))))))))
 refine cH rfl (aX rfl rfl ah ?_)
 refine aX rfl rfl ah ?_
 refine aX rfl rfl ah ?_
 refine ai (aF _ _ _ rfl (rfl:_=AV.v (.bool _))) (cH rfl (ax rfl rfl (aK _ aa rfl rfl rfl) (ax rfl rfl (aN _ aa rfl rfl (rfl:_=some (AV.v (.int _ _)))) (ax rfl rfl (bR (r:=true) _ _ rfl rfl rfl) (ax rfl rfl (aD _ (rfl:_=AV.v (.bool _))) (ax rfl rfl (aU _ _ aa rfl ag (by (simp <;> rfl)) ah rfl) ?_))))))
 refine ax rfl rfl (aK _ aa rfl rfl rfl) (ax rfl rfl (aN _ aa rfl rfl (rfl:_=some (AV.v (.string _)))) (ax rfl rfl (aJ aa al (fI [[38,38],[124,124]] 2 rfl ab s) rfl rfl) ?_))
 refine ax rfl rfl (aF _ _ _ rfl (rfl:_=AV.v (.bool _))) (ai (aF _ _ _ rfl (rfl:_=AV.v (.bool _))) (aj (aQ rfl (decide_eq_false hs1) ?_)))
 refine aI (aq (aq ?_))
 refine aM (σ':=aB 80 [(1,_),(3,_),(4,_)] [((1,0),_)] [] []) kp ?_
 refine an (bF rfl rfl rfl (cI rfl rfl rfl (jc rfl rfl rfl (cH rfl (ax rfl rfl (aK _ aa rfl rfl rfl) (ax rfl rfl (aN _ aa rfl rfl (rfl:_=some (AV.v (.string _)))) (ax rfl rfl (aJ aa al (lg s) rfl rfl) ?_)))))))
 refine ai (aF _ _ _ rfl (rfl:_=AV.v (.bool _))) (aj (aQ rfl (decide_eq_false hs2) ?_))
 refine aI (aG fun K14 hK14=> ?_)
 refine am (ba rfl (aj (au ?_)))
 refine bC (α:=Nat) (fun j=> j≤L.length∧ ∀ q,q < j→t q=1) 80 [(1,_),(3,_),(4,_)] [((1,0),_)] (fun j=> [(5, .v (.int .i64 (j:Int)))]) (fun j=> []) [] [] (fun j=> L.length - j) 0 ?_ (by
  refine Le.mkJ [] [] rfl ?_ ?_ trivial trivial ?_
  ·exact ⟨(iP rfl),(iV rfl),(iV rfl),(cj ag),trivial⟩
  ·exact ⟨(cG rfl rfl rfl),trivial⟩
  ·kernel_rfl) ?_
 ·exact ⟨Nat.zero_le _,fun q hq=> by omega⟩
 intro j hj
 obtain ⟨hj,hall⟩:=hj
 have htj:=ht j
 refine aG fun K16 hK16=> ?_
 refine am (aR rfl (bF rfl rfl rfl (fK rfl rfl rfl (ai (bG _ aa rfl) (ai (bp _ _ rfl rfl rfl) (aj (aV rfl (fun hc67=> ?_) (fun hc67=> ?_))))))))
 ·skip
  refine bA (hK16 _ ?_)
  clear hK16;try clear K16
  refine aq (au (am (bF rfl rfl rfl (fK rfl rfl rfl (aR rfl (ai (bf _ _ aa rfl rfl _ rfl ab (by (simp only [aZ,bm,bl,bw,bv,bJ,bz];omega)) ag) ?_))))))
  refine ai (cg _ aa rfl (by exact cE _ _ ab) rfl) ?_
  refine ai (aJ aa al (h j ab) rfl rfl) ?_
  refine ba rfl (aj (am (aR rfl (aR rfl (ai (bY _ _ rfl rfl rfl) (aj (aV rfl (fun hc78=> ?_) (fun hc78=> ?_))))))))
  ·skip
   have hr:=hr0 j ab ab
   refine aq ?_
   refine aM (σ':=aB 80 [] [] [] []) kp ?_
   refine an (ba rfl (aj (aC (aY (.inr rfl) rfl (.tmp (rfl:_=AV.v (.int _ _))) (Le.out [] [] (cj ?_) rfl rfl rfl trivial trivial)))))
   rw [hr];rfl
  ·skip
   have hall1: ∀ q,q < j+1→t q=1:=fun q hq=> by
    by_cases h:q < j
    ·exact hall q h
    ·obtain rfl:q=j:=by omega
     omega
   refine cf ?_
   refine aM (σ':=aB 80 [(1,_),(3,_),(4,_),(5,_)] [((1,0),_)] [] []) kp ?_
   refine an (aR rfl (ai (bc _ _ rfl rfl (bq ab)) ?_))
   refine ba rfl (az (⟨j+1,?_,?_,?_⟩))
   ·exact ⟨by omega,hall1⟩
   ·skip
    refine Le.mkJ [] [] rfl ?_ ?_ trivial trivial ?_
    ·exact ⟨(iP rfl),(iV rfl),(iV rfl),(cj ag),trivial⟩
    ·exact ⟨(cG rfl rfl rfl),trivial⟩
    ·kernel_rfl
   ·omega
 ·skip
  have hr:=hr1 fun q hq=> hall q ab
  refine bL (id (hK14 _ ?_))
  clear hK14;try clear K14
  refine am (aR rfl (ba rfl (aj (aC (aY (.inr rfl) rfl (.tmp (rfl:_=AV.v (.int _ _))) (Le.out [] [] (cj ?_) rfl rfl rfl trivial trivial))))))
  rw [hr];rfl
end Go.Proofs.YtmjnackchaahbaaGreat
