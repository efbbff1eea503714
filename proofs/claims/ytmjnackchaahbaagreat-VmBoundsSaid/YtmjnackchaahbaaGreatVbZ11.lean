/- Part 11 of the texts that the walk leans on: the machine, the walks, the plain laws. -/
import Derived.Test.YtmjnackchaahbaaGreatVbZ10
set_option linter.unusedSimpArgs false
set_option linter.unusedVariables false
namespace Go.Proofs.YtmjnackchaahbaaGreat
open Go.RowKit

abbrev Hd:=Nat×Nd
def wA (h:Hd):List PV:= .v (.int .i64 (h.1:Int))::h.2.row
def lg (l:List Hd):List PV:=l.flatMap wA
theorem bB (l:List Hd):(lg l).length=l.length*5:=ml wA 5 (fun _=> rfl) l
def mq (l:List Hd) (k:Nat):Hd:=l.getD k (0,⟨0,0,[],0,[]⟩)
theorem mn (l:List Hd) (k:Nat) (h:k < l.length):mq l k=l[k]:=by simp [mq,h]
theorem iy (l:List Hd) (k:Nat) (h:k < l.length):(lg l)[k*5]? =some (.v (.int .i64 ((mq l k).1:Int))):=by
 rw [mn l k h];exact nS wA 5 (fun _=> rfl) l k 0 h ab
theorem yP (l:List Hd) (k:Nat) (h:k < l.length):PV.ups (((lg l).drop (k*5)).take 5)=[.v (.int .i64 ((mq l k).1:Int)), .v (.int .i64 ((mq l k).2.k:Int)), .v (.int .i64 ((mq l k).2.n:Int)), .v (bt (mq l k).2.s), .sl (mq l k).2.kn (mq l k).2.kids]:=by
 rw [mn l k h,show ((lg l).drop (k*5)).take 5=wA l[k] from oo wA 5 (fun _=> rfl) l k h];rfl
theorem lA (l:List Hd) (h:Hd):lg l++wA h=lg (l++[h]):=lE wA l h
theorem tK (l m:List Hd):lg l++lg m=lg (l++m):=xw wA l m
theorem sQ (l:List Hd) (k:Nat) (h:k < l.length):l.take k++[mq l k]=l.take (k+1):=by rw [mn l k h,List.take_succ_eq_append_getElem h]
def IK:List Tx:=[mf,iL,gv,iC]
section
variable {T:List Tk} {N:List Tx}
theorem yN (hT:T.length≤100000) (i:Nat) (hi:i < T.length) (ht:(cX T i).t=mf) (l:List Hd) (hl:l.length≤100000) (hno: ∀ k,k < l.length→(mq l k).1≠0):
  Spec Tryz.prog 163 (be [.ptr (0,9) 0, .sl l.length (lg l)] (dF T i N)) (bg (.v (.int .i64 ((0:Nat):Int))) (dF T (bR T i) N) [(0,9)] [(0,9)]):=by
 have hnx:=bT T i N hi
 rw [ht] at hnx
 refine Spec.ofNI Tryz.func163 rfl Tryz.ntmps163 rfl ?_
 refine am (aZ rfl (aj (am (bi rfl (ai (aS _ rfl rfl) (bA rfl rfl rfl (cC rfl rfl rfl (aZ rfl (aj (am ?_))))))))))
 refine bi rfl (ai (br aa _ _ ar (hnx) tr rfl ae (by simp)) ?_)
 refine ja rfl (aj (am (aZ rfl (aj (ap (am (ai (aV _ _ aa rfl ag (by (simp <;> rfl)) ah rfl) ?_)))))))
 refine dK rfl (ai (aL aa al (cw IK 4 rfl ab mf) rfl rfl) ?_)
 refine ai (dc (r:=false) _ rfl rfl) (aj (aP rfl rfl (aJ (am (bi rfl (ai (aO (cq T i N hi hT)) ?_))))))
 refine aj (ap (ap ?_))
 refine aN (σ':=aB 56 [(0,_),(1,_),(5,_),(6,_),(7,_)] [((0,9),_)] [(0,9)] [(0,9)]) kp ?_
 refine an (dK rfl (ai (aU (r:=false) _ _ Tryz.underlying9 rfl rfl rfl) (aj (aP rfl rfl (aJ (ap (am (dK rfl (ai (aU (r:=false) _ _ Tryz.underlying9 rfl rfl rfl) (aj ?_))))))))))
 refine aP rfl rfl (aJ (ap (am (dK rfl (ai (aU (r:=false) _ _ Tryz.underlying9 rfl rfl rfl) (aj (aP rfl rfl (aJ (aF fun K14 hK14=> ?_)))))))))
 refine am (aZ rfl (aj (au ?_)))
 refine bw (α:=Nat) (fun k=> k≤l.length) 56 [(0,_),(1,_),(5,_),(7,_)] [((0,9),_)] (fun k=> [(8, .v (.int .i64 (k:Int)))]) (fun k=> []) [(0,9)] [(0,9)] (fun k=> l.length - k) 0 ?_ (by
  refine Le.mkJ [] [] rfl ?_ ?_ trivial tr ?_
  ·exact ⟨(iP rfl),(iS rfl),(iV rfl),(iV rfl),(ck ag),trivial⟩
  ·exact ⟨(cF rfl rfl rfl),trivial⟩
  ·kernel_rfl) ?_
 ·omega
 intro k hk
 refine aF fun K16 hK16=> ?_
 refine am (aQ rfl (eV rfl (ai (bE _ aa rfl) (ai (bo _ _ rfl rfl rfl) (aj (aT rfl (fun hc42=> ?_) (fun hc42=> ?_)))))))
 ·skip
  refine bv (hK16 _ ?_)
  clear hK16;try clear K16
  refine ap (au (am (eV rfl (aQ rfl (ai (bf _ _ aa rfl rfl _ rfl ab (by (simp only [ba,bn,bl,bC,bz,bJ,bB];omega)) ag) ?_)))))
  refine ai (di _ aa rfl rfl) (ai (bH _ aa rfl (by exact iy _ _ ab) rfl) ?_)
  refine aQ rfl (ai (bP _ _ rfl rfl rfl) (aj (aP rfl (by have:=hno k ab;exact beq_eq_false_iff_ne.2 ab) ?_)))
  refine bZ (an (aQ rfl (ai (bc _ _ rfl rfl (bq ab)) ?_)))
  refine aZ rfl (az (⟨k+1,?_,?_,?_⟩))
  ·omega
  ·skip
   refine Le.mkJ [] [] rfl ?_ ?_ trivial tr ?_
   ·exact ⟨(iP rfl),(iS rfl),(iV rfl),(iV rfl),(ck ag),trivial⟩
   ·exact ⟨(cF rfl rfl rfl),trivial⟩
   ·kernel_rfl
  ·omega
 ·skip
  refine bK (id (hK14 _ ?_))
  clear hK14;try clear K14
  exact am (aQ rfl (aZ rfl (aj (aC (aY (.inr rfl) rfl (.tmp (rfl:_=AV.v (.int _ _))) (Le.outI [] [] (ck ag) rfl rfl rfl trivial ob tr rfl))))))
theorem ta (hT:T.length≤100000) (i:Nat) (hi:i < T.length) (ht:(cX T i).t=iL) (l:List Hd) (hl:l.length≤100000) (hno: ∀ k,k < l.length→(mq l k).1≠1):
  Spec Tryz.prog 163 (be [.ptr (0,9) 0, .sl l.length (lg l)] (dF T i N)) (bg (.v (.int .i64 ((1:Nat):Int))) (dF T (bR T i) N) [(0,9)] [(0,9)]):=by
 have hnx:=bT T i N hi
 rw [ht] at hnx
 refine Spec.ofNI Tryz.func163 rfl Tryz.ntmps163 rfl ?_
 refine am (aZ rfl (aj (am (bi rfl (ai (aS _ rfl rfl) (bA rfl rfl rfl (cC rfl rfl rfl (aZ rfl (aj (am ?_))))))))))
 refine bi rfl (ai (br aa _ _ ar (hnx) tr rfl ae (by simp)) ?_)
 refine ja rfl (aj (am (aZ rfl (aj (ap (am (ai (aV _ _ aa rfl ag (by (simp <;> rfl)) ah rfl) ?_)))))))
 refine dK rfl (ai (aL aa al (cw IK 4 rfl ab iL) rfl rfl) ?_)
 refine ai (dc (r:=false) _ rfl rfl) (aj (aP rfl rfl (aJ (am (bi rfl (ai (aO (cq T i N hi hT)) ?_))))))
 refine aj (ap (ap ?_))
 refine aN (σ':=aB 56 [(0,_),(1,_),(5,_),(6,_),(7,_)] [((0,9),_)] [(0,9)] [(0,9)]) kp ?_
 refine an (dK rfl (ai (aU (r:=true) _ _ Tryz.underlying9 rfl rfl rfl) (aj (bD rfl rfl (an (aZ rfl (aj (ap (am (dK rfl ?_))))))))))
 refine ai (aU (r:=false) _ _ Tryz.underlying9 rfl rfl rfl) (aj (aP rfl rfl (aJ (ap (am (dK rfl (ai (aU (r:=false) _ _ Tryz.underlying9 rfl rfl rfl) (aj (aP rfl rfl (aJ ?_))))))))))
 refine aF fun K14 hK14=> ?_
 refine am (aZ rfl (aj (au ?_)))
 refine bw (α:=Nat) (fun k=> k≤l.length) 56 [(0,_),(1,_),(5,_),(7,_)] [((0,9),_)] (fun k=> [(8, .v (.int .i64 (k:Int)))]) (fun k=> []) [(0,9)] [(0,9)] (fun k=> l.length - k) 0 ?_ (by
  refine Le.mkJ [] [] rfl ?_ ?_ trivial tr ?_
  ·exact ⟨(iP rfl),(iS rfl),(iV rfl),(iV rfl),(ck ag),trivial⟩
  ·exact ⟨(cF rfl rfl rfl),trivial⟩
  ·kernel_rfl) ?_
 ·omega
 intro k hk
 refine aF fun K16 hK16=> ?_
 refine am (aQ rfl (eV rfl (ai (bE _ aa rfl) (ai (bo _ _ rfl rfl rfl) (aj (aT rfl (fun hc42=> ?_) (fun hc42=> ?_)))))))
 ·skip
  refine bv (hK16 _ ?_)
  clear hK16;try clear K16
  refine ap (au (am (eV rfl (aQ rfl (ai (bf _ _ aa rfl rfl _ rfl ab (by (simp only [ba,bn,bl,bC,bz,bJ,bB];omega)) ag) ?_)))))
  refine ai (di _ aa rfl rfl) (ai (bH _ aa rfl (by exact iy _ _ ab) rfl) ?_)
  refine aQ rfl (ai (bP _ _ rfl rfl rfl) (aj (aP rfl (by have:=hno k ab;exact beq_eq_false_iff_ne.2 ab) ?_)))
  refine bZ (an (aQ rfl (ai (bc _ _ rfl rfl (bq ab)) ?_)))
  refine aZ rfl (az (⟨k+1,?_,?_,?_⟩))
  ·omega
  ·skip
   refine Le.mkJ [] [] rfl ?_ ?_ trivial tr ?_
   ·exact ⟨(iP rfl),(iS rfl),(iV rfl),(iV rfl),(ck ag),trivial⟩
   ·exact ⟨(cF rfl rfl rfl),trivial⟩
   ·kernel_rfl
  ·omega
 ·skip
  refine bK (id (hK14 _ ?_))
  clear hK14;try clear K14
  exact am (aQ rfl (aZ rfl (aj (aC (aY (.inr rfl) rfl (.tmp (rfl:_=AV.v (.int _ _))) (Le.outI [] [] (ck ag) rfl rfl rfl trivial ob tr rfl))))))
theorem xQ (hT:T.length≤100000) (i:Nat) (hi:i < T.length) (ht:(cX T i).t=gv) (l:List Hd) (hl:l.length≤100000) {q j:Nat} (hq:q≤100) (h1:Spec Tryz.prog 200 (be [.ptr (0,9) 0, .v (.int .i64 7)] (dF T (bR T i) N)) (bg (.v (.int .i64 (q:Int))) (dF T j N) [(0,9)] [(0,9)])) (hno: ∀ k,k < l.length→(mq l k).1≠(2+q)):
  Spec Tryz.prog 163 (be [.ptr (0,9) 0, .sl l.length (lg l)] (dF T i N)) (bg (.v (.int .i64 (((2+q):Nat):Int))) (dF T j N) [(0,9)] [(0,9)]):=by
 have hnx:=bT T i N hi
 rw [ht] at hnx
 refine Spec.ofNI Tryz.func163 rfl Tryz.ntmps163 rfl ?_
 refine am (aZ rfl (aj (am (bi rfl (ai (aS _ rfl rfl) (bA rfl rfl rfl (cC rfl rfl rfl (aZ rfl (aj (am ?_))))))))))
 refine bi rfl (ai (br aa _ _ ar (hnx) tr rfl ae (by simp)) ?_)
 refine ja rfl (aj (am (aZ rfl (aj (ap (am (ai (aV _ _ aa rfl ag (by (simp <;> rfl)) ah rfl) ?_)))))))
 refine dK rfl (ai (aL aa al (cw IK 4 rfl ab gv) rfl rfl) ?_)
 refine ai (dc (r:=false) _ rfl rfl) (aj (aP rfl rfl (aJ (am (bi rfl (ai (aO (cq T i N hi hT)) ?_))))))
 refine aj (ap (ap ?_))
 refine aN (σ':=aB 56 [(0,_),(1,_),(5,_),(6,_),(7,_)] [((0,9),_)] [(0,9)] [(0,9)]) kp ?_
 refine an (dK rfl (ai (aU (r:=false) _ _ Tryz.underlying9 rfl rfl rfl) (aj (aP rfl rfl (aJ (aF fun K10 hK10=> ?_))))))
 refine am (dK rfl (ai (aU (r:=true) _ _ Tryz.underlying9 rfl rfl rfl) (aj (bD rfl rfl (an (bi rfl (ai (aO (h1)) (ai (bc _ _ rfl rfl (bq ab)) ?_))))))))
 refine aZ rfl (az (hK10 _ ?_))
 clear hK10;try clear K10
 refine ap (am (dK rfl (ai (aU (r:=false) _ _ Tryz.underlying9 rfl rfl rfl) (aj (aP rfl rfl (aJ (aF fun K14 hK14=> ?_)))))))
 refine am (aZ rfl (aj (au ?_)))
 refine bw (α:=Nat) (fun k=> k≤l.length) 56 [(0,_),(1,_),(5,_),(7,_)] [((0,9),_)] (fun k=> [(8, .v (.int .i64 (k:Int)))]) (fun k=> []) [(0,9)] [(0,9)] (fun k=> l.length - k) 0 ?_ (by
  refine Le.mkJ [] [] rfl ?_ ?_ trivial tr ?_
  ·exact ⟨(iP rfl),(iS rfl),(iV rfl),(iV rfl),(ck ag),trivial⟩
  ·exact ⟨(cF rfl rfl rfl),trivial⟩
  ·kernel_rfl) ?_
 ·omega
 intro k hk
 refine aF fun K16 hK16=> ?_
 refine am (aQ rfl (eV rfl (ai (bE _ aa rfl) (ai (bo _ _ rfl rfl rfl) (aj (aT rfl (fun hc42=> ?_) (fun hc42=> ?_)))))))
 ·skip
  refine bv (hK16 _ ?_)
  clear hK16;try clear K16
  refine ap (au (am (eV rfl (aQ rfl (ai (bf _ _ aa rfl rfl _ rfl ab (by (simp only [ba,bn,bl,bC,bz,bJ,bB];omega)) ag) ?_)))))
  refine ai (di _ aa rfl rfl) (ai (bH _ aa rfl (by exact iy _ _ ab) rfl) ?_)
  refine aQ rfl (ai (bP _ _ rfl rfl rfl) (aj (aP rfl (by have:=hno k ab;exact beq_eq_false_iff_ne.2 ab) ?_)))
  refine bZ (an (aQ rfl (ai (bc _ _ rfl rfl (bq ab)) ?_)))
  refine aZ rfl (az (⟨k+1,?_,?_,?_⟩))
  ·omega
  ·skip
   refine Le.mkJ [] [] rfl ?_ ?_ trivial tr ?_
   ·exact ⟨(iP rfl),(iS rfl),(iV rfl),(iV rfl),(ck ag),trivial⟩
   ·exact ⟨(cF rfl rfl rfl),trivial⟩
   ·kernel_rfl
  ·omega
 ·skip
  refine bK (id (hK14 _ ?_))
  clear hK14;try clear K14
  exact am (aQ rfl (aZ rfl (aj (aC (aY (.inr rfl) rfl (.tmp (rfl:_=AV.v (.int _ _))) (Le.outI [] [] (ck ag) rfl rfl rfl trivial ob tr rfl))))))
theorem tE (hT:T.length≤100000) (i:Nat) (hi:i < T.length) (ht:(cX T i).t=iC) (l:List Hd) (hl:l.length≤100000) {q j:Nat} (hq:q≤100) (h1:Spec Tryz.prog 200 (be [.ptr (0,9) 0, .v (.int .i64 29)] (dF T (bR T i) N)) (bg (.v (.int .i64 (q:Int))) (dF T j N) [(0,9)] [(0,9)])) (hno: ∀ k,k < l.length→(mq l k).1≠(10+q)):
  Spec Tryz.prog 163 (be [.ptr (0,9) 0, .sl l.length (lg l)] (dF T i N)) (bg (.v (.int .i64 (((10+q):Nat):Int))) (dF T j N) [(0,9)] [(0,9)]):=by
 have hnx:=bT T i N hi
 rw [ht] at hnx
 refine Spec.ofNI Tryz.func163 rfl Tryz.ntmps163 rfl ?_
 refine am (aZ rfl (aj (am (bi rfl (ai (aS _ rfl rfl) (bA rfl rfl rfl (cC rfl rfl rfl (aZ rfl (aj (am ?_))))))))))
 refine bi rfl (ai (br aa _ _ ar (hnx) tr rfl ae (by simp)) ?_)
 refine ja rfl (aj (am (aZ rfl (aj (ap (am (ai (aV _ _ aa rfl ag (by (simp <;> rfl)) ah rfl) ?_)))))))
 refine dK rfl (ai (aL aa al (cw IK 4 rfl ab iC) rfl rfl) ?_)
 refine ai (dc (r:=false) _ rfl rfl) (aj (aP rfl rfl (aJ (am (bi rfl (ai (aO (cq T i N hi hT)) ?_))))))
 refine aj (ap (ap ?_))
 refine aN (σ':=aB 56 [(0,_),(1,_),(5,_),(6,_),(7,_)] [((0,9),_)] [(0,9)] [(0,9)]) kp ?_
 refine an (dK rfl (ai (aU (r:=false) _ _ Tryz.underlying9 rfl rfl rfl) (aj (aP rfl rfl (aJ (ap (am (dK rfl (ai (aU (r:=false) _ _ Tryz.underlying9 rfl rfl rfl) (aj ?_))))))))))
 refine aP rfl rfl (aJ (aF fun K12 hK12=> ?_))
 refine am (dK rfl (ai (aU (r:=true) _ _ Tryz.underlying9 rfl rfl rfl) (aj (bD rfl rfl (an (bi rfl (ai (aO (h1)) (ai (bc _ _ rfl rfl (bq ab)) ?_))))))))
 refine aZ rfl (az (hK12 _ ?_))
 clear hK12;try clear K12
 refine aF fun K14 hK14=> ?_
 refine am (aZ rfl (aj (au ?_)))
 refine bw (α:=Nat) (fun k=> k≤l.length) 56 [(0,_),(1,_),(5,_),(7,_)] [((0,9),_)] (fun k=> [(8, .v (.int .i64 (k:Int)))]) (fun k=> []) [(0,9)] [(0,9)] (fun k=> l.length - k) 0 ?_ (by
  refine Le.mkJ [] [] rfl ?_ ?_ trivial tr ?_
  ·exact ⟨(iP rfl),(iS rfl),(iV rfl),(iV rfl),(ck ag),trivial⟩
  ·exact ⟨(cF rfl rfl rfl),trivial⟩
  ·kernel_rfl) ?_
 ·omega
 intro k hk
 refine aF fun K16 hK16=> ?_
 refine am (aQ rfl (eV rfl (ai (bE _ aa rfl) (ai (bo _ _ rfl rfl rfl) (aj (aT rfl (fun hc42=> ?_) (fun hc42=> ?_)))))))
 ·skip
  refine bv (hK16 _ ?_)
  clear hK16;try clear K16
  refine ap (au (am (eV rfl (aQ rfl (ai (bf _ _ aa rfl rfl _ rfl ab (by (simp only [ba,bn,bl,bC,bz,bJ,bB];omega)) ag) ?_)))))
  refine ai (di _ aa rfl rfl) (ai (bH _ aa rfl (by exact iy _ _ ab) rfl) ?_)
  refine aQ rfl (ai (bP _ _ rfl rfl rfl) (aj (aP rfl (by have:=hno k ab;exact beq_eq_false_iff_ne.2 ab) ?_)))
  refine bZ (an (aQ rfl (ai (bc _ _ rfl rfl (bq ab)) ?_)))
  refine aZ rfl (az (⟨k+1,?_,?_,?_⟩))
  ·omega
  ·skip
   refine Le.mkJ [] [] rfl ?_ ?_ trivial tr ?_
   ·exact ⟨(iP rfl),(iS rfl),(iV rfl),(iV rfl),(ck ag),trivial⟩
   ·exact ⟨(cF rfl rfl rfl),trivial⟩
   ·kernel_rfl
  ·omega
 ·skip
  refine bK (id (hK14 _ ?_))
  clear hK14;try clear K14
  exact am (aQ rfl (aZ rfl (aj (aC (aY (.inr rfl) rfl (.tmp (rfl:_=AV.v (.int _ _))) (Le.outI [] [] (ck ag) rfl rfl rfl trivial ob tr rfl))))))
theorem BV {l:List Hd} {n:Nat} (h:l.any (fun x=> decide (x.1=n))=false): ∀ k,k < l.length→(mq l k).1≠n:=fun k hk e=> by
 rw [List.any_eq_false] at h
 have:=h l[k] (List.getElem_mem hk)
 rw [mn l k hk] at e
 simp [e] at this
theorem qf (hT:T.length≤100000) (i:Nat) (hi:i < T.length) (l:List Hd) (hl:l.length≤100000) (r:Nat×Nat) (h:tP T i=some r) (hno:l.any (fun x=> decide (x.1=r.1))=false):
  r.2 < T.length∧r.1 < 40∧Spec Tryz.prog 163 (be [.ptr (0,9) 0, .sl l.length (lg l)] (dF T i N)) (bg (.v (.int .i64 (r.1:Int))) (dF T r.2 N) [(0,9)] [(0,9)]):=by
 have htl:=dM hi
 have hn:=BV hno
 have hmost: ∀ {most i:Nat} {q:Nat×Nat},mT T most i=some q→q.1≤most:=fun h=> by
  unfold mT at h
  split at h
  ·rename_i hx;rw [← Option.some.inj h];exact hx.2
  ·cases h
 unfold tP at h
 by_cases h1:(cX T i).t=mf
 ·rw [if_pos h1] at h
  obtain rfl:=Option.some.inj h
  exact ⟨htl,by omega,yN hT i hi h1 l hl hn⟩
 rw [if_neg h1] at h
 by_cases h2:(cX T i).t=iL
 ·rw [if_pos h2] at h
  obtain rfl:=Option.some.inj h
  exact ⟨htl,by omega,ta hT i hi h2 l hl hn⟩
 rw [if_neg h2] at h
 by_cases h3:(cX T i).t=gv
 ·rw [if_pos h3] at h
  simp only [Option.bind_eq_bind,Option.bind_eq_some_iff,Option.pure_def,Option.some.injEq] at h
  obtain ⟨⟨q,j⟩,hq,rfl⟩:=h
  have hm:=hmost hq
  exact ⟨show (q,j).2 < T.length from pW hq htl,by simp only at hm ⊢;omega,xQ hT i hi h3 l hl (by simp only at hm;omega) (jS T _ N 7 htl hT ab _ hq) hn⟩
 rw [if_neg h3] at h
 by_cases h4:(cX T i).t=iC
 ·rw [if_pos h4] at h
  simp only [Option.bind_eq_bind,Option.bind_eq_some_iff,Option.pure_def,Option.some.injEq] at h
  obtain ⟨⟨q,j⟩,hq,rfl⟩:=h
  have hm:=hmost hq
  exact ⟨show (q,j).2 < T.length from pW hq htl,by simp only at hm ⊢;omega,tE hT i hi h4 l hl (by simp only at hm;omega) (jS T _ N 29 htl hT ab _ hq) hn⟩
 rw [if_neg h4] at h
 cases h
end
theorem tL {p:Hd→Bool} {l:List Hd} {k:Nat} (h: ∀ x∈l.take k,p x=true) (he:l.length≤k∨p (mq l k)=false):l.takeWhile p=l.take k∧l.dropWhile p=l.drop k:=by
 induction l generalizing k with
 | nil=> simp
 | cons a l ih=>
  cases k with
  | zero=>
   have:p a=false:=by
    rcases he with he | he
    ·simp at he
    ·simpa [mq] using he
   simp [this]
  | succ k=>
   have ha:p a=true:=h a (by simp)
   have:=ih (k:=k) (fun x hx=> h x (by simp [hx])) (by
    rcases he with he | he
    ·left;simpa using he
    ·right;simpa [mq] using he)
   simp [ha,this]
theorem wL (l:List Hd) (hl:l.length≤100000) (h:Hd):
  Spec Tryz.prog 165 (bj [.sl l.length (lg l), .agg [.v (.int .i64 (h.1:Int)), .v (.int .i64 (h.2.k:Int)), .v (.int .i64 (h.2.n:Int)), .v (bt h.2.s), .sl h.2.kn h.2.kids]] []) (aX (.sl (nQ l h).length (lg (nQ l h))) []):=by
 refine Spec.ofN Tryz.func165 rfl Tryz.ntmps165 rfl ?_
 refine am (ai (bk (3,0) _ rfl rfl) (ai (bG _ (rfl:_=AV.v (.slice _ _ _))) (aj (am (ai (oJ (5,0) _ 73 5 rfl rfl) ?_)))))
 refine aj (am (aZ rfl (aj (aF fun K4 hK4=> ?_))))
 refine au ?_
 refine bw (α:=Nat) (fun k=> k≤l.length∧ ∀ x∈l.take k,decide (x.1 < h.1)=true) 39 [(0,_),(3,_)] [((3,0),_)] (fun k=> [(6, .v (.int .i64 (k:Int))),(5, .ref (5,0) 0 (l.take k).length)]) (fun k=> [((5,0), .row 73 5 (lg (l.take k)))]) [] [] (fun k=> l.length - k) 0 ?_ (by
  refine Le.mkJ [] [] rfl ?_ ?_ trivial trivial ?_
  ·exact ⟨(iS rfl),(iP rfl),(ck ag),(dh rfl ag),trivial⟩
  ·exact ⟨(cF rfl rfl rfl),(gM rfl rfl rfl ag),trivial⟩
  ·kernel_rfl) ?_
 ·exact ⟨Nat.zero_le _,by simp⟩
 intro k hk
 obtain ⟨hk,hall⟩:=hk
 have hlk:(l.take k).length=k:=by rw [List.length_take];omega
 refine aF fun K5 hK5=> ?_
 refine aF fun K6 hK6=> ?_
 refine bF 14 [7,8,9,10,11,12,13,14,15,16,17,18,19,20] [] ae ae rfl (aM rfl) (rfl:_=[_,_,_,_,_,_,_,_,_,_,_,_,_,_]) (rfl:_=[]) ?_
 refine aq (_,[]) (fun τ=> aE _ (rfl:_=AV.v (.int _ _))) ?_
 refine eJ rfl ?_
 refine aq (_,[]) (fun τ=> aE _ (rfl:_=AV.sl _ _)) ?_
 refine eK rfl ?_
 refine aq (_,[]) (fun τ=> bE _ aa rfl) ?_
 refine eH rfl ?_
 refine aq (_,[]) (fun τ=> bo _ _ rfl rfl rfl) ?_
 refine eS rfl ?_
 refine aq (_,[]) (fun τ=> aE _ (rfl:_=AV.v (.bool _))) ?_
 refine mw (fun hg11=> ?_) (fun hg11=> ?_)
 ·skip
  refine eZ rfl ?_
  refine bV (_,[]) rfl (fun τ=> rfl) (fun τ=> aE _ (rfl:_=AV.sl _ _)) ?_
  refine fH rfl ?_
  refine bV (_,[]) rfl (fun τ=> rfl) (fun τ=> aE _ (rfl:_=AV.v (.int _ _))) ?_
  refine gF rfl ?_
  refine bV (_,[]) rfl (fun τ=> rfl) (fun τ=> bf _ _ aa rfl rfl _ rfl ab (by (simp only [ba,bn,bl,bC,bz,bJ,bB];omega)) ag) ?_
  refine kv rfl ?_
  refine bV (_,[]) rfl (fun τ=> rfl) (fun τ=> di _ aa rfl rfl) ?_
  refine ko rfl ?_
  refine bV (_,[]) rfl (fun τ=> rfl) (fun τ=> bH _ aa rfl (by exact iy _ _ ab) rfl) ?_
  refine gj rfl ?_
  refine bV (_,[]) rfl (fun τ=> rfl) (fun τ=> aH _ aa rfl rfl rfl) ?_
  refine gH rfl ?_
  refine bV (_,[]) rfl (fun τ=> rfl) (fun τ=> aK _ aa rfl rfl (rfl:_=some (AV.v (.int _ _)))) ?_
  refine lf rfl ?_
  refine bV (_,[]) rfl (fun τ=> rfl) (fun τ=> bo _ _ rfl rfl rfl) ?_
  refine lO rfl ?_
  refine aq (_,[]) (fun τ=> aD _ _ _ rfl (rfl:_=AV.v (.bool _))) ?_
  refine pa rfl (bh ⟨rfl,?_⟩)
  refine az (hK6 _ ?_)
  clear hK6;try clear K6
  refine aT rfl (fun hc20=> ?_) (fun hc20=> ?_)
  ·skip
   have hs:=sQ l k ab
   have hlk1:(l.take (k+1)).length=(l.take k).length+1:=by rw [← hs];simp
   have hall1: ∀ x∈l.take (k+1),decide (x.1 < h.1)=true:=by
    rw [← hs]
    intro x hx
    rcases List.mem_append.1 hx with hx | hx
    ·exact hall x hx
    ·rw [List.mem_singleton.1 hx];exact decide_eq_true ab
   refine bv (hK5 _ ?_)
   clear hK5;try clear K5
   refine au (am (gG rfl (eV rfl (aQ rfl (ai (bf _ _ aa rfl rfl _ rfl ab (by (simp only [ba,bn,bl,bC,bz,bJ,bB];omega)) ag) ?_)))))
   refine ai (cd _ aa rfl (by exact yP _ _ ab) rfl) ?_
   refine ai (aV _ _ aa rfl ag (by (simp <;> rfl)) ah rfl) ?_
   refine ai (dl (27,0) _ _ aa rfl rfl (bB _).symm (.sl rfl) ab rfl ((lA _ (mq l k)).trans (by rw [hs])) hlk1.symm) ?_
   refine fa rfl (aj ?_)
   refine aN (σ':=aB 39 [(0,_),(3,_),(5,_),(6,_)] [((3,0),_),((27,0),_)] [] []) kp ?_
   refine an (aQ rfl (ai (bc _ _ rfl rfl (bq ab)) ?_))
   refine aZ rfl (az (⟨k+1,?_,?_,?_⟩))
   ·exact ⟨by omega,hall1⟩
   ·skip
    refine Le.mkJ [((5,0),(27,0))] [] rfl ?_ ?_ trivial trivial ?_
    ·exact ⟨(by repeat' (exact Lv.sl)),(dW (id:=(3,0)) rfl),(ck ag),(dh rfl ag),trivial⟩
    ·exact ⟨(fS rfl rfl rfl rfl (by repeat' (first | exact Lv.v | exact Lv.sl | exact bu | refine aI ?_ ?_))),(gM rfl rfl rfl ag),trivial⟩
    ·kernel_rfl
   ·omega
  ·skip
   have hf:=tL (p:=fun x=> decide (x.1 < h.1)) hall (.inr (decide_eq_false ab))
   refine bK (id (hK4 _ ?_))
   clear hK4;try clear K4
   refine am (gG rfl (ai (aR _ aa rfl rfl rfl rfl) (ai (aV _ _ aa rfl ag (by (simp <;> rfl)) ah rfl) ?_)))
   refine ai (dl (33,0) _ _ aa rfl rfl (bB _).symm (.sl rfl) ab rfl (lA _ h) (show (l.take k).length+1=(l.take k++[h]).length by simp)) ?_
   refine fa rfl (aj (ap ?_))
   refine aN (σ':=aB 39 [(0,_),(5,_),(6,_)] [((33,0),_)] [] []) kp ?_
   refine an (gG rfl (eV rfl (aQ rfl (ai (lc _ _ _ aa rfl k l.length (.lit rfl rfl) .dflt hk (Nat.le_refl _) (show _=lg (l.drop k) by rw [show (lg l).drop (k*5)=lg (l.drop k) from nk wA 5 (fun _=> rfl) l k];exact List.take_of_length_le (by rw [bB,List.length_drop];exact Nat.le_refl _)) rfl) ?_))))
   refine ai (dl (38,0) _ _ aa rfl rfl (bB _).symm (.sl (by rw [bB,List.length_drop])) (by simp;omega) rfl (tK _ _) (show (l.take k++[h]).length+(l.length - k)=(l.take k++[h]++l.drop k).length by simp;omega)) ?_
   refine fa rfl (aj (aC ?_))
   have hfin:l.take k++[h]++l.drop k=nQ l h:=by unfold nQ;rw [hf.1,hf.2];simp
   exact aY (.inr rfl) rfl (.tmp (rfl:_=AV.ref _ _ _)) (Le.out [] [(38,0)] (by rw [← hfin];exact iu rfl rfl (bB _).symm rfl) rfl rfl rfl tr trivial)
 ·skip
  have hf:=tL (p:=fun x=> decide (x.1 < h.1)) hall (.inl ab)
  refine eZ rfl ?_
  refine cN rfl (fun τ=> rfl) ah ?_
  refine fH rfl ?_
  refine cN rfl (fun τ=> rfl) ah ?_
  refine gF rfl ?_
  refine cN rfl (fun τ=> rfl) ah ?_
  refine kv rfl ?_
  refine cN rfl (fun τ=> rfl) ah ?_
  refine ko rfl ?_
  refine cN rfl (fun τ=> rfl) ah ?_
  refine gj rfl ?_
  refine cN rfl (fun τ=> rfl) ah ?_
  refine gH rfl ?_
  refine cN rfl (fun τ=> rfl) ah ?_
  refine lf rfl ?_
  refine cN rfl (fun τ=> rfl) ah ?_
  refine lO rfl ?_
  refine aq (_,[]) (fun τ=> aD _ _ _ rfl (rfl:_=AV.v (.bool _))) ?_
  refine pa rfl (bh ⟨rfl,?_⟩)
  refine az (hK6 _ ?_)
  clear hK6;try clear K6
  refine aP rfl rfl (bK (id (hK4 _ ?_)))
  clear hK4;try clear K4
  refine am (gG rfl (ai (aR _ aa rfl rfl rfl rfl) (ai (aV _ _ aa rfl ag (by (simp <;> rfl)) ah rfl) ?_)))
  refine ai (dl (33,0) _ _ aa rfl rfl (bB _).symm (.sl rfl) ab rfl (lA _ h) (show (l.take k).length+1=(l.take k++[h]).length by simp)) ?_
  refine fa rfl (aj (ap ?_))
  refine aN (σ':=aB 39 [(0,_),(5,_),(6,_)] [((33,0),_)] [] []) kp ?_
  refine an (gG rfl (eV rfl (aQ rfl (ai (lc _ _ _ aa rfl k l.length (.lit rfl rfl) .dflt hk (Nat.le_refl _) (show _=lg (l.drop k) by rw [show (lg l).drop (k*5)=lg (l.drop k) from nk wA 5 (fun _=> rfl) l k];exact List.take_of_length_le (by rw [bB,List.length_drop];exact Nat.le_refl _)) rfl) ?_))))
  refine ai (dl (38,0) _ _ aa rfl rfl (bB _).symm (.sl (by rw [bB,List.length_drop])) (by simp;omega) rfl (tK _ _) (show (l.take k++[h]).length+(l.length - k)=(l.take k++[h]++l.drop k).length by simp;omega)) ?_
  refine fa rfl (aj (aC ?_))
  have hfin:l.take k++[h]++l.drop k=nQ l h:=by unfold nQ;rw [hf.1,hf.2];simp
  exact aY (.inr rfl) rfl (.tmp (rfl:_=AV.ref _ _ _)) (Le.out [] [(38,0)] (by rw [← hfin];exact iu rfl rfl (bB _).symm rfl) rfl rfl rfl tr trivial)

theorem pi {s:Tx}: ∀ {f a:Nat} {l:List Tk},a≤s.length→lN f s a=some l→0 < l.length∧l.length+a≤s.length+1
  | 0,_,_,_,h=> by simp [lN] at h
  | f+1,a,l,ha,h=> by
    rcases kS h with ⟨_,rfl⟩ | ⟨hl,t,m,ht,hm,rfl⟩
    · exact ⟨by simp,by simp;omega⟩
    · obtain ⟨h1,h2⟩:=ru hl ht
      have h3:=tv (s:=s) (a:=a+t.t.length) h2 false
      obtain ⟨_,h4⟩:=pi h3.2 hm
      exact ⟨by simp,by rw [List.length_cons];omega⟩
theorem yg {s:Tx} {l:List Tk} (h:zK s=some l):0 < l.length∧l.length≤s.length+1:=by
  have:=pi (a:=qO s false) (mo s false) h
  omega
theorem kU {T:List Tk}: ∀ (f:Nat) {N M:List Tx} (i:Nat),N.Perm M→fX T f N i=fX T f M i
  | 0,_,_,_,_=> rfl
  | f+1,N,M,i,h=> by
    unfold fX
    simp only [h.mem_iff,h.length_eq,kU f _ (h.append_right [(cX T i).t])]
theorem sh {T:List Tk} {f:Nat} {d v:List Tx} {i:Nat} {r:List Tx×List Tx×Nat} (h:hX T f d v i=some r): ∃ g,f=g+1∧
    (((cX T i).t=kq∧ ∃ l j,fX T g (d++v) (bR T i)=some (l,j)∧hX T g (d++l) v j=some r)∨
     ((cX T i).t≠kq∧(cX T i).t=kN∧ ∃ l j,fX T g (d++v) (bR T i)=some (l,j)∧hX T g d (v++l) j=some r)∨
     ((cX T i).t≠kq∧(cX T i).t≠kN∧r=(d,v,i))):=by
  cases f with
  | zero=> simp [hX] at h
  | succ g=>
    refine ⟨g,rfl,?_⟩
    unfold hX at h
    split at h
    · rename_i ht
      simp only [Option.bind_eq_bind,Option.bind_eq_some_iff] at h
      obtain ⟨⟨l,j⟩,hl,h⟩:=h
      exact .inl ⟨ht,l,j,hl,h⟩
    · rename_i ht
      split at h
      · rename_i ht2
        simp only [Option.bind_eq_bind,Option.bind_eq_some_iff] at h
        obtain ⟨⟨l,j⟩,hl,h⟩:=h
        exact .inr (.inl ⟨ht,ht2,l,j,hl,h⟩)
      · rename_i ht2
        exact .inr (.inr ⟨ht,ht2,(Option.some.inj h).symm⟩)
theorem xO {T:List Tk} {f:Nat} {l:List Hd} {i:Nat} {r:List Hd} (h:DB T f l i=some r): ∃ g,f=g+1∧
    (((cX T i).k=0∧r=l)∨((cX T i).k≠0∧ ∃ j n j2 d j3,fQ T Ei i=some j∧tP T j=some (n,j2)∧l.any (fun x=> decide (x.1=n))=false∧oO T g 1 j2=some (d,j3)∧DB T g (nQ l (n,d)) j3=some r)):=by
  cases f with
  | zero=> simp [DB] at h
  | succ g=>
    refine ⟨g,rfl,?_⟩
    unfold DB at h
    split at h
    · rename_i hk;exact .inl ⟨hk,(Option.some.inj h).symm⟩
    · rename_i hk
      simp only [Option.bind_eq_bind,Option.bind_eq_some_iff] at h
      obtain ⟨j,hj,⟨n,j2⟩,hn,h⟩:=h
      simp only at h
      split at h
      · cases h
      · rename_i hno
        simp only [Option.bind_eq_some_iff] at h
        obtain ⟨⟨d,j3⟩,hd,h⟩:=h
        exact .inr ⟨hk,j,n,j2,d,j3,hj,hn,Bool.eq_false_iff.2 hno,hd,h⟩
theorem yr (l:List Hd) (h:Hd):(nQ l h).length=l.length+1:=by
  have e:=congrArg List.length (List.takeWhile_append_dropWhile (p:=fun x:Nat×Nd=> decide (x.1 < h.1)) (l:=l))
  unfold nQ
  rw [List.length_append] at e ⊢
  rw [List.length_cons]
  omega
abbrev Ez (d v:List Tx) (l:List Hd):AV:= .agg [.sl d.length (dT d), .sl v.length (dT v), .sl l.length (lg l)]
theorem og (s:Tx) (hs:s.length≤3000) (D V:List Tx) (L:List Hd) (h:pX s=some (D,V,L)):
    Spec Tryz.prog 96 (bj [.v (bt s)] []) (aX (.tup [Ez D V L, .v (.int .i64 0), .v (.int .i64 0)]) []):=by
  unfold pX at h
  simp only [Option.bind_eq_bind,Option.bind_eq_some_iff,Option.pure_def,Option.some.injEq,Prod.mk.injEq] at h
  obtain ⟨T,hT,⟨D',V',i⟩,hd,L',hL,rfl,rfl,rfl⟩:=h
  obtain ⟨hT0,hT1⟩:=yg hT
  have hTl:T.length≤100000:=by omega
  simp only at hL ⊢
  refine Spec.ofN Tryz.func96 rfl Tryz.ntmps96 rfl ?_
  refine am (ai (ay (2,0) aa rfl rfl) (aZ rfl (aZ rfl (aj (ap (am (dK rfl (ai (gq _ Tryz.underlying9 rfl) (ai (cP _ _ rfl rfl rfl) (aj ?_))))))))))
  refine aP rfl (decide_eq_false ab) ?_
  refine aJ (am (dK rfl (ai (aL aa al (rS s ab T hT) rfl rfl) ?_)))
  refine ai (aE _ (rfl:_=AV.tup _)) (ai (db _ rfl (rfl:_=some (AV.sl _ _))) (ai (db _ rfl (rfl:_=some (AV.v (.int _ _)))) (ai (db _ rfl (rfl:_=some (AV.v (.int _ _)))) (kJ rfl (aZ rfl (aZ rfl (aj (ap (ap ?_)))))))))
  refine aN (σ':=aB 114 [(2,_),(5,_),(6,_),(7,_)] [((2,0),_)] [] []) (by
    refine Le.mkJ [] [] rfl ?_ ?_ trivial trivial ?_
    · exact ⟨(iP rfl),(iS rfl),(iV rfl),(iV rfl),trivial⟩
    · exact ⟨(cF rfl rfl rfl),trivial⟩
    · kernel_rfl) ?_
  refine an (aQ rfl (ai (ca (r:=false) _ _ rfl rfl rfl) (aj (aP rfl rfl (aJ (am (eV rfl (ai (aA _ aa rfl (by exact (rfl:_=some [_,_,_,_,_]))) ?_))))))))
  refine ai (bk (29,0) _ rfl rfl) (ED rfl (aj (am (ai (ay (9,0) aa rfl rfl) (aj (aF fun K9 hK9=> ?_))))))
  refine au ?_
  refine aN (Le.nilB (29,0) 4 (60,0) 9 1 rfl rfl rfl) ?_
  refine aN (Le.nilB (9,0) 0 (61,0) 9 1 rfl rfl rfl) ?_
  refine aN (Le.nilB (9,0) 1 (62,0) 9 1 rfl rfl rfl) ?_
  refine aN (Le.nil0 (9,0) 2 rfl rfl) ?_
  refine bw (α:=Nat×List Tx×List Tx×List Tx×Nat) (fun z=> z.2.2.2.1.Perm (z.2.1++z.2.2.1)∧z.2.2.2.2 < T.length∧z.2.2.2.1.length≤16∧hX T z.1 z.2.1 z.2.2.1 z.2.2.2.2=some (D',V',i)) 114 [(2,_),(8,_),(9,_)] [((2,0),_)] (fun z=> []) (fun z=> [((29,0), .box 222 [.sl T.length (pY T), .v (.int .i64 (z.2.2.2.2:Int)), .v (.int .i64 0), .v (.int .i64 0), .ref (60,0) 0 z.2.2.2.1.length]),((60,0), .row 9 1 (dT z.2.2.2.1)),((9,0), .box 64 [.ref (61,0) 0 z.2.1.length, .ref (62,0) 0 z.2.2.1.length, .sl 0 []]),((61,0), .row 9 1 (dT z.2.1)),((62,0), .row 9 1 (dT z.2.2.1))]) [] [] (fun z=> z.1) (3*T.length+10,[],[],[],0) ?_ (by
    refine Le.mkJ [] [] rfl ?_ ?_ trivial trivial ?_
    · exact ⟨(iP rfl),(iP rfl),(iP rfl),trivial⟩
    · exact ⟨(cF rfl rfl rfl),(fS rfl rfl rfl rfl lz),(gM rfl rfl rfl ag),(fS rfl rfl rfl rfl lz),(gM rfl rfl rfl ag),(gM rfl rfl rfl ag),trivial⟩
    · kernel_rfl) ?_
  · exact ⟨.refl _,hT0,Nat.zero_le _,hd⟩
  intro z hz
  obtain ⟨z1,d,v,N,j⟩:=z
  obtain ⟨hp,hj,hNl,hz⟩:=hz
  obtain ⟨g,rfl,hm⟩:=sh hz
  simp only at hp hj hNl hm ⊢
  have hpl:=hp.length_eq
  rw [List.length_append] at hpl
  have htl:=dM hj
  refine aF fun K10 hK10=> ?_
  refine aF fun K11 hK11=> ?_
  refine an (bi rfl (ai (aS _ rfl rfl) (bA rfl rfl rfl (cC rfl rfl rfl (iY rfl rfl rfl (cJ rfl (ax rfl rfl (aE _ (rfl:_=AV.ptr _ _)) (ax rfl rfl (da aa [((0,9),(29,0)),((1,9),(60,0))] ?_ (em T j N hj) ob tr ae) ?_))))))))
  · repeat' (first | exact dt | refine cQ ?_ ?_ | exact dW rfl)
  refine ax rfl rfl (aU _ _ Tryz.underlying9 rfl rfl rfl) (ax rfl rfl (aE _ (rfl:_=AV.v (.bool _))) (dE (fun hg39=> ?_) (fun hg39=> ?_)))
  · skip
    obtain ⟨l,j',hdp,hdz⟩: ∃ l j',fX T g N (bR T j)=some (l,j')∧hX T g (d++l) v j'=some (D',V',i):=by
      rcases hm with ⟨_,l,j',h1,h2⟩ | ⟨h,_⟩ | ⟨h,_⟩
      · exact ⟨l,j',(kU g _ hp).trans h1,h2⟩
      · exact absurd hg39 h
      · exact absurd hg39 h
    obtain ⟨hda,hdb,hdc⟩:=pj hTl g N j hj (l,j') hdp
    simp only at hda hdb hdc
    have hdl:(d++l).length=d.length+l.length:=by simp
    refine aW rfl rfl ah ?_
    refine aW rfl rfl ah ?_
    refine aW rfl rfl ah ?_
    refine ax rfl rfl (aD _ _ _ rfl (rfl:_=AV.v (.bool _))) (ai (aD _ _ _ rfl (rfl:_=AV.v (.bool _))) (az (hK11 _ ?_)))
    clear hK11;try clear K11
    refine bD rfl rfl (bv (hK10 _ ?_))
    clear hK10;try clear K10
    refine au (ap ?_)
    refine aN (σ':=aB 114 [(2,_),(8,_),(9,_)] [((2,0),_),((29,0),_),((60,0),_),((9,0),_),((61,0),_),((62,0),_)] [] []) (by
      refine Le.mkJ [] [] rfl ?_ ?_ trivial trivial ?_
      · exact ⟨(iP rfl),(iP rfl),(iP rfl),trivial⟩
      · exact ⟨(cF rfl rfl rfl),(cF rfl rfl rfl),(cF rfl rfl rfl),(cF rfl rfl rfl),(cF rfl rfl rfl),(cF rfl rfl rfl),trivial⟩
      · kernel_rfl) ?_
    refine an (bi rfl (ai (da aa [((0,9),(29,0)),((1,9),(60,0))] ?_ (em T j N hj) ob tr ae) ?_))
    · repeat' (first | exact dt | refine cQ ?_ ?_ | exact dW rfl)
    refine ai (aU _ _ Tryz.underlying9 rfl rfl rfl) (aj (bD rfl (beq_iff_eq.2 hg39) ?_))
    refine aN (σ':=aB 114 [(2,_),(8,_),(9,_)] [((2,0),_),((29,0), .box 222 [.sl T.length (pY T), .v (.int .i64 (j:Int)), .v (.int .i64 0), .v (.int .i64 0), .ref (60,0) 0 N.length]),((60,0), .row 9 1 (dT N)),((9,0),_),((61,0),_),((62,0),_)] [] []) (by
      refine Le.mkJ [] [] rfl ?_ ?_ trivial trivial ?_
      · exact ⟨(iP rfl),(iP rfl),(iP rfl),trivial⟩
      · exact ⟨(cF rfl rfl rfl),(cF rfl rfl rfl),(cF rfl rfl rfl),(cF rfl rfl rfl),(cF rfl rfl rfl),(cF rfl rfl rfl),trivial⟩
      · kernel_rfl) ?_
    refine bF 4 [48,49,50,51] [(29,0),(70,0),(60,0)] ae ae rfl (aM rfl) (rfl:_=[_,_,_,_]) (rfl:_=[_,_,_]) ?_
    refine aq (_,[]) (fun τ=> aH _ aa rfl rfl rfl) ?_
    refine eJ rfl ?_
    refine aq (_,[]) (fun τ=> aK _ aa rfl rfl (rfl:_=some (AV.ref _ _ _))) ?_
    refine eK rfl ?_
    refine aq (_,[]) (fun τ=> aE _ (rfl:_=AV.ptr _ _)) ?_
    refine eH rfl ?_
    refine aq (_,[((29,0),_),((70,0),_),((60,0), .gone)]) (fun τ=> (ef aa [((0,9),(29,0)),((1,9),(60,0)),((1,8),(70,0))] ?_ (hdc) ob tr tr rfl rfl ae ae)) ?_
    · repeat' (first | exact dt | refine cQ ?_ ?_ | exact dW rfl)
    refine eS rfl (bh ⟨rfl,?_⟩)
    refine ai (dl (52,0) _ _ aa rfl rfl (by simp) (.sl (by simp)) ab rfl (oh _ _) hdl.symm) ?_
    refine bA rfl rfl rfl (bO rfl rfl rfl rfl rfl rfl (az (⟨(g,d++l,v,N++l,j'),?_,?_,?_⟩)))
    · exact ⟨(hp.append_right l).trans (by rw [List.append_assoc,List.append_assoc];exact List.perm_append_comm.append_left d),hda,by simp only [List.length_append];omega,hdz⟩
    · skip
      refine Le.mkJ [((60,0),(70,0)),((61,0),(52,0))] [] rfl ?_ ?_ trivial trivial ?_
      · exact ⟨(dW (id:=(2,0)) rfl),(dW (id:=(29,0)) rfl),(dW (id:=(9,0)) rfl),trivial⟩
      · exact ⟨(fS rfl rfl rfl rfl (by repeat' (first | exact Lv.v | exact bu | refine aI ?_ ?_))),(fS rfl rfl rfl rfl lz),(gM rfl rfl rfl ag),(fS rfl rfl rfl rfl lz),(gM rfl rfl rfl ag),(gM rfl rfl rfl ag),trivial⟩
      · kernel_rfl
    · simp only;omega
  · skip
    refine ax rfl rfl (aE _ (rfl:_=AV.ptr _ _)) (ax rfl rfl (da aa [((0,9),(29,0)),((1,9),(60,0))] ?_ (em T j N hj) ob tr ae) ?_)
    · repeat' (first | exact dt | refine cQ ?_ ?_ | exact dW rfl)
    refine ax rfl rfl (aU _ _ Tryz.underlying9 rfl rfl rfl) (ax rfl rfl (aD _ _ _ rfl (rfl:_=AV.v (.bool _))) (ai (aD _ _ _ rfl (rfl:_=AV.v (.bool _))) (az (hK11 _ ?_))))
    clear hK11;try clear K11
    refine aT rfl (fun hc44=> ?_) (fun hc44=> ?_)
    · skip
      obtain ⟨l,j',hdp,hdz⟩: ∃ l j',fX T g N (bR T j)=some (l,j')∧hX T g d (v++l) j'=some (D',V',i):=by
        rcases hm with ⟨h,_⟩ | ⟨_,_,l,j',h1,h2⟩ | ⟨_,h,_⟩
        · exact absurd h hg39
        · exact ⟨l,j',(kU g _ hp).trans h1,h2⟩
        · exact absurd hc44 h
      obtain ⟨hda,hdb,hdc⟩:=pj hTl g N j hj (l,j') hdp
      simp only at hda hdb hdc
      have hvl:(v++l).length=v.length+l.length:=by simp
      refine bv (hK10 _ ?_)
      clear hK10;try clear K10
      refine au (ap ?_)
      refine aN (σ':=aB 114 [(2,_),(8,_),(9,_)] [((2,0),_),((29,0),_),((60,0),_),((9,0),_),((61,0),_),((62,0),_)] [] []) (by
        refine Le.mkJ [] [] rfl ?_ ?_ trivial trivial ?_
        · exact ⟨(iP rfl),(iP rfl),(iP rfl),trivial⟩
        · exact ⟨(cF rfl rfl rfl),(cF rfl rfl rfl),(cF rfl rfl rfl),(cF rfl rfl rfl),(cF rfl rfl rfl),(cF rfl rfl rfl),trivial⟩
        · kernel_rfl) ?_
      refine an (bi rfl (ai (da aa [((0,9),(29,0)),((1,9),(60,0))] ?_ (em T j N hj) ob tr ae) ?_))
      · repeat' (first | exact dt | refine cQ ?_ ?_ | exact dW rfl)
      refine ai (aU _ _ Tryz.underlying9 rfl rfl rfl) (aj (aP rfl (beq_eq_false_iff_ne.2 hg39) ?_))
      refine aN (σ':=aB 114 [(2,_),(8,_),(9,_)] [((2,0),_),((29,0), .box 222 [.sl T.length (pY T), .v (.int .i64 (j:Int)), .v (.int .i64 0), .v (.int .i64 0), .ref (60,0) 0 N.length]),((60,0), .row 9 1 (dT N)),((9,0),_),((61,0),_),((62,0),_)] [] []) (by
        refine Le.mkJ [] [] rfl ?_ ?_ trivial trivial ?_
        · exact ⟨(iP rfl),(iP rfl),(iP rfl),trivial⟩
        · exact ⟨(cF rfl rfl rfl),(cF rfl rfl rfl),(cF rfl rfl rfl),(cF rfl rfl rfl),(cF rfl rfl rfl),(cF rfl rfl rfl),trivial⟩
        · kernel_rfl) ?_
      refine bF 4 [54,55,56,57] [(29,0),(71,0),(60,0)] ae ae rfl (aM rfl) (rfl:_=[_,_,_,_]) (rfl:_=[_,_,_]) ?_
      refine aq (_,[]) (fun τ=> aH _ aa rfl rfl rfl) ?_
      refine eJ rfl ?_
      refine aq (_,[]) (fun τ=> aK _ aa rfl rfl (rfl:_=some (AV.ref _ _ _))) ?_
      refine eK rfl ?_
      refine aq (_,[]) (fun τ=> aE _ (rfl:_=AV.ptr _ _)) ?_
      refine eH rfl ?_
      refine aq (_,[((29,0),_),((71,0),_),((60,0), .gone)]) (fun τ=> (ef aa [((0,9),(29,0)),((1,9),(60,0)),((1,8),(71,0))] ?_ (hdc) ob tr tr rfl rfl ae ae)) ?_
      · repeat' (first | exact dt | refine cQ ?_ ?_ | exact dW rfl)
      refine eS rfl (bh ⟨rfl,?_⟩)
      refine ai (dl (58,0) _ _ aa rfl rfl (by simp) (.sl (by simp)) ab rfl (oh _ _) hvl.symm) ?_
      refine bA rfl rfl rfl (bO rfl rfl rfl rfl rfl rfl (az (⟨(g,d,v++l,N++l,j'),?_,?_,?_⟩)))
      · exact ⟨(hp.append_right l).trans (by rw [List.append_assoc]),hda,by simp only [List.length_append];omega,hdz⟩
      · skip
        refine Le.mkJ [((60,0),(71,0)),((62,0),(58,0))] [] rfl ?_ ?_ trivial trivial ?_
        · exact ⟨(dW (id:=(2,0)) rfl),(dW (id:=(29,0)) rfl),(dW (id:=(9,0)) rfl),trivial⟩
        · exact ⟨(fS rfl rfl rfl rfl (by repeat' (first | exact Lv.v | exact bu | refine aI ?_ ?_))),(fS rfl rfl rfl rfl lz),(gM rfl rfl rfl ag),(fS rfl rfl rfl rfl lz),(gM rfl rfl rfl ag),(gM rfl rfl rfl ag),trivial⟩
        · kernel_rfl
      · simp only;omega
    · skip
      have hrd:(D',V',i)=(d,v,j):=by
        rcases hm with ⟨h,_⟩ | ⟨_,h,_⟩ | ⟨_,_,h⟩
        · exact absurd h hg39
        · exact absurd h hc44
        · exact h
      obtain ⟨e1,e2,e3⟩:D'=d∧V'=v∧i=j:=⟨congrArg (·.1) hrd,congrArg (·.2.1) hrd,congrArg (·.2.2) hrd⟩
      clear hrd hm hz
      subst e1;subst e2;subst e3
      refine bK (id (hK9 _ ?_))
      clear hK9;try clear K9
      refine aF fun K14 hK14=> ?_
      refine au ?_
      refine aN (Le.frzB (29,0) 4 rfl rfl rfl rfl (ys:=dT N) (by simp [List.take_of_length_le]) (by simp)) ?_
      refine bw (α:=Nat×List Hd×Nat) (fun y=> y.2.1.length+y.1≤10*T.length+10∧y.2.2 < T.length∧DB T y.1 y.2.1 y.2.2=some L') 114 [(2,_),(8,_),(9,_)] [((2,0),_),((61,0),_),((62,0),_)] (fun y=> []) (fun y=> [((29,0), .box 222 [.sl T.length (pY T), .v (.int .i64 (y.2.2:Int)), .v (.int .i64 0), .v (.int .i64 0), .sl N.length (dT N)]),((9,0), .box 64 [.ref (61,0) 0 D'.length, .ref (62,0) 0 V'.length, .sl y.2.1.length (lg y.2.1)])]) [] [] (fun y=> y.1) (10*T.length+10,[],i) ?_ (by
        refine Le.mkJ [] [] rfl ?_ ?_ trivial trivial ?_
        · exact ⟨(iP rfl),(iP rfl),(iP rfl),trivial⟩
        · exact ⟨(cF rfl rfl rfl),(cF rfl rfl rfl),(cF rfl rfl rfl),(fS rfl rfl rfl rfl lz),(fS rfl rfl rfl rfl lz),trivial⟩
        · kernel_rfl) ?_
      · exact ⟨by simp,hj,hL⟩
      intro y hy
      obtain ⟨y1,l,k⟩:=y
      obtain ⟨hyl,hk,hy⟩:=hy
      obtain ⟨g2,rfl,hm2⟩:=xO hy
      simp only at hyl hk hm2 ⊢
      refine aF fun K15 hK15=> ?_
      refine ap (bF 19 [60,61,62,63,64,65,66,67,68,69,70,71,72,73,74,75,76,77,78] [] ae ae rfl (aM rfl) (rfl:_=[_,_,_,_,_,_,_,_,_,_,_,_,_,_,_,_,_,_,_]) (rfl:_=[]) ?_)
      refine aq (_,[]) (fun τ=> aE _ (rfl:_=AV.ptr _ _)) ?_
      refine eJ rfl ?_
      refine aq (_,[]) (fun τ=> aS _ rfl rfl) ?_
      refine eK rfl ?_
      refine aq (_,[]) (fun τ=> aH _ aa rfl rfl rfl) ?_
      refine eH rfl ?_
      refine aq (_,[]) (fun τ=> aK _ aa rfl rfl (rfl:_=some (AV.v (.int _ _)))) ?_
      refine eS rfl ?_
      refine aq (_,[]) (fun τ=> bP (r:=true) _ _ rfl rfl rfl) ?_
      refine eZ rfl ?_
      refine aq (_,[]) (fun τ=> aE _ (rfl:_=AV.v (.bool _))) ?_
      refine fH rfl ?_
      refine bV (_,[]) rfl (fun τ=> rfl) (fun τ=> aE _ (rfl:_=AV.ptr _ _)) ?_
      refine gF rfl ?_
      refine bV (_,[]) rfl (fun τ=> rfl) (fun τ=> aS _ rfl rfl) ?_
      refine kv rfl ?_
      refine bV (_,[]) rfl (fun τ=> rfl) (fun τ=> aH _ aa rfl rfl rfl) ?_
      refine ko rfl ?_
      refine bV (_,[]) rfl (fun τ=> rfl) (fun τ=> aK _ aa rfl rfl (rfl:_=some (AV.sl _ _))) ?_
      refine gj rfl ?_
      refine bV (_,[]) rfl (fun τ=> rfl) (fun τ=> aE _ (rfl:_=AV.ptr _ _)) ?_
      refine gH rfl ?_
      refine bV (_,[]) rfl (fun τ=> rfl) (fun τ=> aS _ rfl rfl) ?_
      refine lf rfl ?_
      refine bV (_,[]) rfl (fun τ=> rfl) (fun τ=> aH _ aa rfl rfl rfl) ?_
      refine lO rfl ?_
      refine bV (_,[]) rfl (fun τ=> rfl) (fun τ=> aK _ aa rfl rfl (rfl:_=some (AV.v (.int _ _)))) ?_
      refine pa rfl ?_
      refine bV (_,[]) rfl (fun τ=> rfl) (fun τ=> bf _ _ aa rfl rfl _ rfl ab (by (simp only [ba,bn,bl,bC,bz,bJ,bB];omega)) ag) ?_
      refine wb rfl ?_
      refine bV (_,[]) rfl (fun τ=> rfl) (fun τ=> di _ aa rfl rfl) ?_
      refine vi rfl ?_
      refine bV (_,[]) rfl (fun τ=> rfl) (fun τ=> bH _ aa rfl (by exact nU _ _ ab) rfl) ?_
      refine wK rfl ?_
      refine bV (_,[]) rfl (fun τ=> rfl) (fun τ=> ca _ _ rfl rfl rfl) ?_
      refine yX rfl ?_
      refine aq (_,[]) (fun τ=> aD _ _ _ rfl (rfl:_=AV.v (.bool _))) ?_
      refine xx rfl (bh ⟨rfl,?_⟩)
      refine aj (aT rfl (fun hc78=> ?_) (fun hc78=> ?_))
      · skip
        obtain ⟨_,j1,hn,j2,dd,j3,h1,h2,h3,h4,h5⟩:=hm2.resolve_left fun x=> by omega
        have hx1:=eY T k j1 N Ei hk hTl h1
        obtain ⟨ha2,_,hx2⟩:=qf (N:=N) hTl j1 (ii h1 hk) l ab _ h2 h3
        obtain ⟨ha3,hx3⟩:=sO (N:=N) hTl ab ha2 h4
        have hx4:=wL l ab (hn,dd)
        have hpl2:=yr l (hn,dd)
        simp only at ha2 ha3 hx2 hx3 hx4
        refine bv (hK15 _ ?_)
        clear hK15;try clear K15
        refine au (ap ?_)
        refine aN (σ':=aB 114 [(2,_),(8,_),(9,_)] [((2,0),_),((61,0),_),((62,0),_),((29,0),_),((9,0),_)] [] []) (by
          refine Le.mkJ [] [] rfl ?_ ?_ trivial trivial ?_
          · exact ⟨(iP rfl),(iP rfl),(iP rfl),trivial⟩
          · exact ⟨(cF rfl rfl rfl),(cF rfl rfl rfl),(cF rfl rfl rfl),(cF rfl rfl rfl),(cF rfl rfl rfl),trivial⟩
          · kernel_rfl) ?_
        refine an (bi rfl (ai (da aa [((0,9),(29,0))] ?_ (hx1) ob tr ae) ?_))
        · repeat' (first | exact dt | refine cQ ?_ ?_ | exact Lv.v | exact dW rfl)
        refine aj (ap (am (bi rfl (ai (aS _ rfl rfl) (bA rfl rfl rfl (cC rfl rfl rfl (ai (ca (r:=false) _ _ rfl rfl rfl) (aj (aP rfl rfl (aJ ?_))))))))))
        refine aF fun K20 hK20=> ?_
        refine an (bi rfl (bA rfl rfl rfl (fh rfl rfl rfl (ai (da aa [((0,9),(29,0))] ?_ (hx2) ob tr ae) ?_))))
        · repeat' (first | exact dt | refine cQ ?_ ?_ | exact Lv.sl | exact dW rfl)
        refine aZ rfl (az (hK20 _ ?_))
        clear hK20;try clear K20
        refine aF fun K21 hK21=> ?_
        refine an (bi rfl (ai (da aa [((0,9),(29,0))] ?_ (hx3) ob tr ae) ?_))
        · repeat' (first | exact dt | refine cQ ?_ ?_ | exact Lv.v | exact dW rfl)
        refine ai (ay (11,0) aa rfl rfl) (bO rfl rfl rfl rfl rfl rfl (az (hK21 _ ?_)))
        clear hK21;try clear K21
        refine aN (σ':=aB 114 [(2,_),(8,_),(9,_),(10,_),(11,_)] [((2,0),_),((61,0),_),((62,0),_),((29,0),_),((9,0),_),((11,0),_)] [] []) (by
          refine Le.mkJ [] [] rfl ?_ ?_ trivial trivial ?_
          · exact ⟨(iP rfl),(iP rfl),(iP rfl),(iV rfl),(iP rfl),trivial⟩
          · exact ⟨(cF rfl rfl rfl),(cF rfl rfl rfl),(cF rfl rfl rfl),(cF rfl rfl rfl),(cF rfl rfl rfl),(cF rfl rfl rfl),trivial⟩
          · kernel_rfl) ?_
        refine an (bA rfl rfl rfl (fh rfl rfl rfl (aQ rfl (ai (aR _ aa rfl rfl rfl rfl) (ai (aA _ aa rfl (by exact (rfl:_=some [_,_,_,_,_]))) ?_)))))
        refine ai (aL aa al (hx4) rfl rfl) ?_
        refine bA rfl rfl rfl (bO rfl rfl rfl rfl rfl rfl (az (⟨(g2,nQ l (hn,dd),j3),?_,?_,?_⟩)))
        · exact ⟨by simp only [hpl2];omega,ha3,h5⟩
        · skip
          refine Le.mkJ [] [] rfl ?_ ?_ trivial trivial ?_
          · exact ⟨(iP rfl),(iP rfl),(iP rfl),trivial⟩
          · exact ⟨(cF rfl rfl rfl),(cF rfl rfl rfl),(cF rfl rfl rfl),(fS rfl rfl rfl rfl lz),(fS rfl rfl rfl rfl lz),trivial⟩
          · kernel_rfl
        · simp only;omega
      · skip
        have hrl:=(hm2.resolve_right fun x=> x.1 ab).2
        subst hrl
        refine bK (id (hK14 _ ?_))
        clear hK14;try clear K14
        refine ap (ap ?_)
        refine aN (σ':=aB 114 [(2,_),(8,_),(9,_)] [((2,0),_),((61,0),_),((62,0),_),((29,0),_),((9,0),_)] [] []) (by
          refine Le.mkJ [] [] rfl ?_ ?_ trivial trivial ?_
          · exact ⟨(iP rfl),(iP rfl),(iP rfl),trivial⟩
          · exact ⟨(cF rfl rfl rfl),(cF rfl rfl rfl),(cF rfl rfl rfl),(cF rfl rfl rfl),(cF rfl rfl rfl),trivial⟩
          · kernel_rfl) ?_
        refine an (bi rfl (ai (aS _ rfl rfl) (bA rfl rfl rfl (cC rfl rfl rfl (ai (ca (r:=false) _ _ rfl rfl rfl) (aj (aP rfl rfl (aJ (am (ai (aR _ aa rfl rfl rfl rfl) ?_))))))))))
        exact bO rfl rfl rfl rfl rfl rfl (aZ rfl (aZ rfl (aj (aC (By (.inr rfl) rfl (.cellA aa rfl rfl rfl) (.tmp (rfl:_=AV.v _)) (.tmp (rfl:_=AV.v _)) (Le.out [] [(61,0),(62,0)] (.tup rfl (aI (.agg rfl (aI (iu rfl rfl (by simp) rfl) (aI (iu rfl rfl (by simp) rfl) lz))) lz)) rfl rfl rfl tr trivial))))))

def jx (l:List Nd) (j:Nat):Nd:=l.getD j ⟨0,0,[],0,[]⟩
theorem CN (l:List Nd) (k:Nat) (h:k < l.length):jx l k=l[k]:=by simp [jx,h]
theorem cH (l:List Nd) (k:Nat) (h:k < l.length):PV.ups (((kB l).drop (k*4)).take 4)=[.v (.int .i64 ((jx l k).k:Int)), .v (.int .i64 ((jx l k).n:Int)), .v (bt (jx l k).s), .sl (jx l k).kn (jx l k).kids]:=by
 rw [CN l k h,show ((kB l).drop (k*4)).take 4=l[k].row from oo Nd.row 4 (fun _=> rfl) l k h];rfl
theorem fG (l:List Tx) (n:Nat) (hn:l.length=n) (h1:n≤1000) (t:Tx):Spec Tryz.prog 204 (bj [.sl n (dT l), .v (bt t)] []) (aX (.v (.bool (decide (t∈l)))) []):=by
 refine Spec.ofN Tryz.func204 rfl Tryz.ntmps204 rfl ?_
 refine am (ct rfl (aj (aF fun K2 hK2=> ?_)))
 refine am (aZ rfl (aj (au ?_)))
 refine bw (α:=Nat) (fun k=> k≤n∧t∉l.take k) 18 [(0,_),(1,_)] [] (fun k=> [(5, .v (.int .i64 (k:Int)))]) (fun k=> []) [] [] (fun k=> n - k) 0 ?_ (by
  refine Le.mkJ [] [] rfl ?_ ?_ trivial trivial ?_
  ·exact ⟨(iS rfl),(iV rfl),(ck ag),trivial⟩
  ·exact trivial
  ·kernel_rfl) ?_
 ·exact ⟨Nat.zero_le _,by simp⟩
 intro k hk
 obtain ⟨hk,hnt⟩:=hk
 refine aF fun K4 hK4=> ?_
 refine am (aQ rfl (eV rfl (ai (bE _ aa rfl) (ai (bo _ _ rfl rfl rfl) (aj (aT rfl (fun hc9=> ?_) (fun hc9=> ?_)))))))
 ·skip
  refine bv (hK4 _ ?_)
  clear hK4;try clear K4
  refine ap (au (am (eV rfl (aQ rfl (ai (bf _ _ aa rfl rfl _ rfl ab (by (simp only [ba,bn,bl,bC,bz,bJ,bB];omega)) (by exact Nat.mul_one _)) ?_)))))
  refine ai (bH _ aa rfl (by exact fx _ _ ab) rfl) ?_
  refine dK rfl (ai (aU _ _ Tryz.underlying9 rfl rfl rfl) (aj (aT rfl (fun hc17=> ?_) (fun hc17=> ?_))))
  ·skip
   refine am (ct rfl (aj (aC (aY (.inr rfl) rfl (.tmp (rfl:_=AV.v (.bool _))) (Le.out [] [] (ic ?_) rfl rfl rfl trivial trivial)))))
   exact decide_eq_true (hc17 ▸ iO ab)
  ·skip
   refine bZ (an (aQ rfl (ai (bc _ _ rfl rfl (bq ab)) ?_)))
   refine aZ rfl (az (⟨k+1,?_,?_,?_⟩))
   ·exact ⟨by omega,jc hnt ab hc17⟩
   ·skip
    refine Le.mkJ [] [] rfl ?_ ?_ trivial trivial ?_
    ·exact ⟨(iS rfl),(iV rfl),(ck ag),trivial⟩
    ·exact trivial
    ·kernel_rfl
   ·omega
 ·skip
  have hall:t∉l:=by rwa [List.take_of_length_le ab] at hnt
  refine bK (id (hK2 _ ?_))
  clear hK2;try clear K2
  refine am (ct rfl (aj (aC (aY (.inr rfl) rfl (.tmp (rfl:_=AV.v (.bool _))) (Le.out [] [] (ic ?_) rfl rfl rfl trivial trivial)))))
  exact decide_eq_false hall
def ve:List Tx:=[[60],[60,61],[62],[62,61],[61,61],[33,61]]
theorem lb (t:Tx):Spec Tryz.prog 227 (bj [.v (bt t)] []) (aX (.v (.bool (decide (t∈ve)))) []):=by
 refine Spec.ofN Tryz.func227 rfl Tryz.ntmps227 rfl ?_
 refine am (ct rfl (aj (am (ai (aV _ _ aa rfl ag (by (simp <;> rfl)) ah rfl) ?_))))
 refine dK rfl (ai (aL aa al (fG ve 6 rfl ab t) rfl rfl) ?_)
 refine ct rfl (aj (aC (aY (.inr rfl) rfl (.tmp (rfl:_=AV.v (.bool _))) (Le.out [] [] (ic ?_) rfl rfl rfl trivial trivial))))
 rfl
theorem CG (n:Nat):Spec Tryz.prog 203 (bj [mI (nd 12 n [] [])] []) (aX (.v (.int .i64 1)) []):=by
 refine Spec.ofN Tryz.func203 rfl Tryz.ntmps203 rfl ?_
 refine am (ai (bk (1,0) _ rfl rfl) (aZ rfl (aj (ap (am (bA rfl rfl rfl (cC rfl rfl rfl (iY rfl rfl rfl (cJ rfl (aW rfl rfl ah ?_))))))))))
 refine aW rfl rfl ah ?_
 refine aW rfl rfl ah ?_
 refine ai (aD _ _ _ rfl (rfl:_=AV.v (.bool _))) (cJ rfl (aW rfl rfl ah ?_))
 refine aW rfl rfl ah ?_
 refine aW rfl rfl ah ?_
 refine ai (aD _ _ _ rfl (rfl:_=AV.v (.bool _))) (aj (bD rfl rfl (ap ?_)))
 refine aN (σ':=aB 80 [] [] [] []) kp ?_
 exact an (aZ rfl (aj (aC (aY (.inr rfl) rfl (.tmp (rfl:_=AV.v _)) (Le.out [] [] .v rfl rfl rfl trivial trivial)))))
theorem DE (s:Tx):Spec Tryz.prog 203 (bj [mI (nd 14 0 s [])] []) (aX (.v (.int .i64 1)) []):=by
 refine Spec.ofN Tryz.func203 rfl Tryz.ntmps203 rfl ?_
 refine am (ai (bk (1,0) _ rfl rfl) (aZ rfl (aj (ap (am (bA rfl rfl rfl (cC rfl rfl rfl (eG rfl rfl rfl (cJ rfl (ax rfl rfl (aH _ aa rfl rfl rfl) ?_))))))))))
 refine ax rfl rfl (aK _ aa rfl rfl (rfl:_=some (AV.v (.int _ _)))) (ax rfl rfl (bP (r:=true) _ _ rfl rfl rfl) (ai (aD _ _ _ rfl (rfl:_=AV.v (.bool _))) (cJ rfl (aW rfl rfl ah ?_))))
 refine aW rfl rfl ah ?_
 refine aW rfl rfl ah ?_
 refine ai (aD _ _ _ rfl (rfl:_=AV.v (.bool _))) (aj (bD rfl rfl (ap ?_)))
 refine aN (σ':=aB 80 [] [] [] []) kp ?_
 exact an (aZ rfl (aj (aC (aY (.inr rfl) rfl (.tmp (rfl:_=AV.v _)) (Le.out [] [] .v rfl rfl rfl trivial trivial)))))
theorem BX (s:Tx):Spec Tryz.prog 203 (bj [mI (nd 15 0 s [])] []) (aX (.v (.int .i64 1)) []):=by
 refine Spec.ofN Tryz.func203 rfl Tryz.ntmps203 rfl ?_
 refine am (ai (bk (1,0) _ rfl rfl) (aZ rfl (aj (ap (am (bA rfl rfl rfl (cC rfl rfl rfl (eG rfl rfl rfl (cJ rfl (ax rfl rfl (aH _ aa rfl rfl rfl) ?_))))))))))
 refine ax rfl rfl (aK _ aa rfl rfl (rfl:_=some (AV.v (.int _ _)))) (ax rfl rfl (bP (r:=false) _ _ rfl rfl rfl) (ai (aD _ _ _ rfl (rfl:_=AV.v (.bool _))) (cJ rfl (ax rfl rfl (aH _ aa rfl rfl rfl) (ax rfl rfl (aK _ aa rfl rfl (rfl:_=some (AV.v (.int _ _)))) (ax rfl rfl (bP (r:=true) _ _ rfl rfl rfl) (ai (aD _ _ _ rfl (rfl:_=AV.v (.bool _))) (aj (bD rfl rfl (ap ?_))))))))))
 refine aN (σ':=aB 80 [] [] [] []) kp ?_
 exact an (aZ rfl (aj (aC (aY (.inr rfl) rfl (.tmp (rfl:_=AV.v _)) (Le.out [] [] .v rfl rfl rfl trivial trivial)))))
theorem AR (n:Nat):Spec Tryz.prog 203 (bj [mI (nd 13 n [] [])] []) (aX (.v (.int .i64 2)) []):=by
 refine Spec.ofN Tryz.func203 rfl Tryz.ntmps203 rfl ?_
 refine am (ai (bk (1,0) _ rfl rfl) (aZ rfl (aj (ap (am (bA rfl rfl rfl (cC rfl rfl rfl (eG rfl rfl rfl (cJ rfl (ax rfl rfl (aH _ aa rfl rfl rfl) ?_))))))))))
 refine ax rfl rfl (aK _ aa rfl rfl (rfl:_=some (AV.v (.int _ _)))) (ax rfl rfl (bP (r:=false) _ _ rfl rfl rfl) (ai (aD _ _ _ rfl (rfl:_=AV.v (.bool _))) (cJ rfl (ax rfl rfl (aH _ aa rfl rfl rfl) (ax rfl rfl (aK _ aa rfl rfl (rfl:_=some (AV.v (.int _ _)))) (ax rfl rfl (bP (r:=false) _ _ rfl rfl rfl) (ai (aD _ _ _ rfl (rfl:_=AV.v (.bool _))) (aj (aP rfl rfl (aJ ?_))))))))))
 refine ap (ap ?_)
 refine aN (σ':=aB 80 [(1,_)] [((1,0),_)] [] []) kp ?_
 exact an (bA rfl rfl rfl (cC rfl rfl rfl (iY rfl rfl rfl (aj (bD rfl rfl (am (aZ rfl (aj (aC (aY (.inr rfl) rfl (.tmp (rfl:_=AV.v _)) (Le.out [] [] .v rfl rfl rfl trivial trivial)))))))))))
theorem Ae (L:List Nd) (hL:L.length≤3) (t:Nat→Nat) (ht: ∀ j,t j≤2) (h: ∀ j,j < L.length→Spec Tryz.prog 203 (bj [mI (jx L j)] []) (aX (.v (.int .i64 (t j:Int))) [])) (r:Nat) (hr1:(∀ j,j < L.length→t j=1)→r=1) (hr0: ∀ j,j < L.length→t j≠1→r=0):
  Spec Tryz.prog 203 (bj [.agg [.v (.int .i64 16), .v (.int .i64 0), .v (bt []), .sl L.length (kB L)]] []) (aX (.v (.int .i64 (r:Int))) []):=by
 refine Spec.ofN Tryz.func203 rfl Tryz.ntmps203 rfl ?_
 refine am (ai (bk (1,0) _ rfl rfl) (aZ rfl (aj (ap (am (bA rfl rfl rfl (cC rfl rfl rfl (eG rfl rfl rfl (cJ rfl (ax rfl rfl (aH _ aa rfl rfl rfl) ?_))))))))))
 refine ax rfl rfl (aK _ aa rfl rfl (rfl:_=some (AV.v (.int _ _)))) (ax rfl rfl (bP (r:=false) _ _ rfl rfl rfl) (ai (aD _ _ _ rfl (rfl:_=AV.v (.bool _))) (cJ rfl (ax rfl rfl (aH _ aa rfl rfl rfl) (ax rfl rfl (aK _ aa rfl rfl (rfl:_=some (AV.v (.int _ _)))) (ax rfl rfl (bP (r:=false) _ _ rfl rfl rfl) (ai (aD _ _ _ rfl (rfl:_=AV.v (.bool _))) (aj (aP rfl rfl (aJ ?_))))))))))
 refine ap (ap ?_)
 refine aN (σ':=aB 80 [(1,_)] [((1,0),_)] [] []) kp ?_
 refine an (bA rfl rfl rfl (cC rfl rfl rfl (eG rfl rfl rfl (aj (aP rfl rfl (aJ (ap (am (bA rfl rfl rfl (cC rfl rfl rfl ?_))))))))))
 refine ai (ca (r:=false) _ _ rfl rfl rfl) (cJ rfl (aW rfl rfl ah ?_))
 refine aW rfl rfl ah ?_
 refine aW rfl rfl ah ?_
 refine ai (aD _ _ _ rfl (rfl:_=AV.v (.bool _))) (cJ rfl (aW rfl rfl ah ?_))
 refine aW rfl rfl ah ?_
 refine aW rfl rfl ah ?_
 refine ai (aD _ _ _ rfl (rfl:_=AV.v (.bool _))) (aj (aP rfl rfl (aJ (ap ?_))))
 refine aN (σ':=aB 80 [(1,_)] [((1,0),_)] [] []) kp ?_
 refine an (aZ rfl (aj (am (aZ rfl (aj (ap (am (bA rfl rfl rfl (cC rfl rfl rfl (eG rfl rfl rfl ?_))))))))))
 refine cJ rfl (aW rfl rfl ah ?_)
 refine aW rfl rfl ah ?_
 refine aW rfl rfl ah ?_
 refine ai (aD _ _ _ rfl (rfl:_=AV.v (.bool _))) (cJ rfl (ax rfl rfl (aH _ aa rfl rfl rfl) (ax rfl rfl (aK _ aa rfl rfl (rfl:_=some (AV.v (.int _ _)))) (ax rfl rfl (bP (r:=false) _ _ rfl rfl rfl) (ax rfl rfl (aE _ (rfl:_=AV.v (.bool _))) (aW rfl rfl ah ?_))))))
 refine aW rfl rfl ah ?_
 refine aW rfl rfl ah ?_
 refine aW rfl rfl ah ?_
 refine ax rfl rfl (aD _ _ _ rfl (rfl:_=AV.v (.bool _))) (ai (aD _ _ _ rfl (rfl:_=AV.v (.bool _))) (aj (aP rfl rfl (aJ (ap (ap ?_))))))
 refine aN (σ':=aB 80 [(1,_),(3,_),(4,_)] [((1,0),_)] [] []) kp ?_
 refine an (bA rfl rfl rfl (cC rfl rfl rfl (eG rfl rfl rfl (cJ rfl (aW rfl rfl ah ?_)))))
 refine aW rfl rfl ah ?_
 refine aW rfl rfl ah ?_
 refine ai (aD _ _ _ rfl (rfl:_=AV.v (.bool _))) (aj (aP rfl rfl (aJ (aF fun K14 hK14=> ?_))))
 refine am (aZ rfl (aj (au ?_)))
 refine bw (α:=Nat) (fun j=> j≤L.length∧ ∀ q,q < j→t q=1) 80 [(1,_),(3,_),(4,_)] [((1,0),_)] (fun j=> [(5, .v (.int .i64 (j:Int)))]) (fun j=> []) [] [] (fun j=> L.length - j) 0 ?_ (by
  refine Le.mkJ [] [] rfl ?_ ?_ trivial trivial ?_
  ·exact ⟨(iP rfl),(iV rfl),(iV rfl),(ck ag),trivial⟩
  ·exact ⟨(cF rfl rfl rfl),trivial⟩
  ·kernel_rfl) ?_
 ·exact ⟨Nat.zero_le _,fun q hq=> by omega⟩
 intro j hj
 obtain ⟨hj,hall⟩:=hj
 have htj:=ht j
 refine aF fun K16 hK16=> ?_
 refine am (aQ rfl (bA rfl rfl rfl (fh rfl rfl rfl (ai (bE _ aa rfl) (ai (bo _ _ rfl rfl rfl) (aj (aT rfl (fun hc67=> ?_) (fun hc67=> ?_))))))))
 ·skip
  refine bv (hK16 _ ?_)
  clear hK16;try clear K16
  refine ap (au (am (bA rfl rfl rfl (fh rfl rfl rfl (aQ rfl (ai (bf _ _ aa rfl rfl _ rfl ab (by (simp only [ba,bn,bl,bC,bz,bJ,bB];omega)) ag) ?_))))))
  refine ai (cd _ aa rfl (by exact cH _ _ ab) rfl) ?_
  refine ai (aL aa al (h j ab) rfl rfl) ?_
  refine aZ rfl (aj (am (aQ rfl (aQ rfl (ai (ca _ _ rfl rfl rfl) (aj (aT rfl (fun hc78=> ?_) (fun hc78=> ?_))))))))
  ·skip
   have hr:=hr0 j ab ab
   refine ap ?_
   refine aN (σ':=aB 80 [] [] [] []) kp ?_
   refine an (aZ rfl (aj (aC (aY (.inr rfl) rfl (.tmp (rfl:_=AV.v (.int _ _))) (Le.out [] [] (ck ?_) rfl rfl rfl trivial trivial)))))
   rw [hr];rfl
  ·skip
   have hall1: ∀ q,q < j+1→t q=1:=fun q hq=> by
    by_cases h:q < j
    ·exact hall q h
    ·obtain rfl:q=j:=by omega
     omega
   refine bZ ?_
   refine aN (σ':=aB 80 [(1,_),(3,_),(4,_),(5,_)] [((1,0),_)] [] []) kp ?_
   refine an (aQ rfl (ai (bc _ _ rfl rfl (bq ab)) ?_))
   refine aZ rfl (az (⟨j+1,?_,?_,?_⟩))
   ·exact ⟨by omega,hall1⟩
   ·skip
    refine Le.mkJ [] [] rfl ?_ ?_ trivial trivial ?_
    ·exact ⟨(iP rfl),(iV rfl),(iV rfl),(ck ag),trivial⟩
    ·exact ⟨(cF rfl rfl rfl),trivial⟩
    ·kernel_rfl
   ·omega
 ·skip
  have hr:=hr1 fun q hq=> hall q ab
  refine bK (id (hK14 _ ?_))
  clear hK14;try clear K14
  refine am (aQ rfl (aZ rfl (aj (aC (aY (.inr rfl) rfl (.tmp (rfl:_=AV.v (.int _ _))) (Le.out [] [] (ck ?_) rfl rfl rfl trivial trivial))))))
  rw [hr];rfl
theorem Eh (L:List Nd) (hL:L.length≤3) (t:Nat→Nat) (ht: ∀ j,t j≤2) (h: ∀ j,j < L.length→Spec Tryz.prog 203 (bj [mI (jx L j)] []) (aX (.v (.int .i64 (t j:Int))) [])) (r:Nat) (hr1:(∀ j,j < L.length→t j=1)→r=1) (hr0: ∀ j,j < L.length→t j≠1→r=0):
  Spec Tryz.prog 203 (bj [.agg [.v (.int .i64 17), .v (.int .i64 0), .v (bt [45]), .sl L.length (kB L)]] []) (aX (.v (.int .i64 (r:Int))) []):=by
 refine Spec.ofN Tryz.func203 rfl Tryz.ntmps203 rfl ?_
 refine am (ai (bk (1,0) _ rfl rfl) (aZ rfl (aj (ap (am (bA rfl rfl rfl (cC rfl rfl rfl (eG rfl rfl rfl (cJ rfl (ax rfl rfl (aH _ aa rfl rfl rfl) ?_))))))))))
 refine ax rfl rfl (aK _ aa rfl rfl (rfl:_=some (AV.v (.int _ _)))) (ax rfl rfl (bP (r:=false) _ _ rfl rfl rfl) (ai (aD _ _ _ rfl (rfl:_=AV.v (.bool _))) (cJ rfl (ax rfl rfl (aH _ aa rfl rfl rfl) (ax rfl rfl (aK _ aa rfl rfl (rfl:_=some (AV.v (.int _ _)))) (ax rfl rfl (bP (r:=false) _ _ rfl rfl rfl) (ai (aD _ _ _ rfl (rfl:_=AV.v (.bool _))) (aj (aP rfl rfl (aJ ?_))))))))))
 refine ap (ap ?_)
 refine aN (σ':=aB 80 [(1,_)] [((1,0),_)] [] []) kp ?_
 refine an (bA rfl rfl rfl (cC rfl rfl rfl (eG rfl rfl rfl (aj (aP rfl rfl (aJ (ap (am (bA rfl rfl rfl (cC rfl rfl rfl ?_))))))))))
 refine ai (ca (r:=true) _ _ rfl rfl rfl) (cJ rfl (ax rfl rfl (aH _ aa rfl rfl rfl) (ax rfl rfl (aK _ aa rfl rfl (rfl:_=some (AV.v (.int _ _)))) (ax rfl rfl (ca (r:=false) _ _ rfl rfl rfl) (ai (aD _ _ _ rfl (rfl:_=AV.v (.bool _))) (cJ rfl (aW rfl rfl ah ?_)))))))
 refine aW rfl rfl ah ?_
 refine aW rfl rfl ah ?_
 refine ai (aD _ _ _ rfl (rfl:_=AV.v (.bool _))) (aj (aP rfl rfl (aJ (ap ?_))))
 refine aN (σ':=aB 80 [(1,_)] [((1,0),_)] [] []) kp ?_
 refine an (aZ rfl (aj (am (aZ rfl (aj (ap (am (bA rfl rfl rfl (cC rfl rfl rfl (iY rfl rfl rfl ?_))))))))))
 refine cJ rfl (ax rfl rfl (aH _ aa rfl rfl rfl) (ax rfl rfl (aK _ aa rfl rfl (rfl:_=some (AV.v (.string _)))) (ax rfl rfl (aU (r:=false) _ _ Tryz.underlying9 rfl rfl rfl) (ai (aD _ _ _ rfl (rfl:_=AV.v (.bool _))) (cJ rfl (ax rfl rfl (aH _ aa rfl rfl rfl) (ax rfl rfl (aK _ aa rfl rfl (rfl:_=some (AV.v (.int _ _)))) (ax rfl rfl (bP (r:=false) _ _ rfl rfl rfl) (ax rfl rfl (aE _ (rfl:_=AV.v (.bool _))) (aW rfl rfl ah ?_))))))))))
 refine aW rfl rfl ah ?_
 refine aW rfl rfl ah ?_
 refine aW rfl rfl ah ?_
 refine ax rfl rfl (aD _ _ _ rfl (rfl:_=AV.v (.bool _))) (ai (aD _ _ _ rfl (rfl:_=AV.v (.bool _))) (aj (aP rfl rfl (aJ (ap (ap ?_))))))
 refine aN (σ':=aB 80 [(1,_),(3,_),(4,_)] [((1,0),_)] [] []) kp ?_
 refine an (bA rfl rfl rfl (cC rfl rfl rfl (eG rfl rfl rfl (cJ rfl (aW rfl rfl ah ?_)))))
 refine aW rfl rfl ah ?_
 refine aW rfl rfl ah ?_
 refine ai (aD _ _ _ rfl (rfl:_=AV.v (.bool _))) (aj (aP rfl rfl (aJ (aF fun K14 hK14=> ?_))))
 refine am (aZ rfl (aj (au ?_)))
 refine bw (α:=Nat) (fun j=> j≤L.length∧ ∀ q,q < j→t q=1) 80 [(1,_),(3,_),(4,_)] [((1,0),_)] (fun j=> [(5, .v (.int .i64 (j:Int)))]) (fun j=> []) [] [] (fun j=> L.length - j) 0 ?_ (by
  refine Le.mkJ [] [] rfl ?_ ?_ trivial trivial ?_
  ·exact ⟨(iP rfl),(iV rfl),(iV rfl),(ck ag),trivial⟩
  ·exact ⟨(cF rfl rfl rfl),trivial⟩
  ·kernel_rfl) ?_
 ·exact ⟨Nat.zero_le _,fun q hq=> by omega⟩
 intro j hj
 obtain ⟨hj,hall⟩:=hj
 have htj:=ht j
 refine aF fun K16 hK16=> ?_
 refine am (aQ rfl (bA rfl rfl rfl (fh rfl rfl rfl (ai (bE _ aa rfl) (ai (bo _ _ rfl rfl rfl) (aj (aT rfl (fun hc67=> ?_) (fun hc67=> ?_))))))))
 ·skip
  refine bv (hK16 _ ?_)
  clear hK16;try clear K16
  refine ap (au (am (bA rfl rfl rfl (fh rfl rfl rfl (aQ rfl (ai (bf _ _ aa rfl rfl _ rfl ab (by (simp only [ba,bn,bl,bC,bz,bJ,bB];omega)) ag) ?_))))))
  refine ai (cd _ aa rfl (by exact cH _ _ ab) rfl) ?_
  refine ai (aL aa al (h j ab) rfl rfl) ?_
  refine aZ rfl (aj (am (aQ rfl (aQ rfl (ai (ca _ _ rfl rfl rfl) (aj (aT rfl (fun hc78=> ?_) (fun hc78=> ?_))))))))
  ·skip
   have hr:=hr0 j ab ab
   refine ap ?_
   refine aN (σ':=aB 80 [] [] [] []) kp ?_
   refine an (aZ rfl (aj (aC (aY (.inr rfl) rfl (.tmp (rfl:_=AV.v (.int _ _))) (Le.out [] [] (ck ?_) rfl rfl rfl trivial trivial)))))
   rw [hr];rfl
  ·skip
   have hall1: ∀ q,q < j+1→t q=1:=fun q hq=> by
    by_cases h:q < j
    ·exact hall q h
    ·obtain rfl:q=j:=by omega
     omega
   refine bZ ?_
   refine aN (σ':=aB 80 [(1,_),(3,_),(4,_),(5,_)] [((1,0),_)] [] []) kp ?_
   refine an (aQ rfl (ai (bc _ _ rfl rfl (bq ab)) ?_))
   refine aZ rfl (az (⟨j+1,?_,?_,?_⟩))
   ·exact ⟨by omega,hall1⟩
   ·skip
    refine Le.mkJ [] [] rfl ?_ ?_ trivial trivial ?_
    ·exact ⟨(iP rfl),(iV rfl),(iV rfl),(ck ag),trivial⟩
    ·exact ⟨(cF rfl rfl rfl),trivial⟩
    ·kernel_rfl
   ·omega
 ·skip
  have hr:=hr1 fun q hq=> hall q ab
  refine bK (id (hK14 _ ?_))
  clear hK14;try clear K14
  refine am (aQ rfl (aZ rfl (aj (aC (aY (.inr rfl) rfl (.tmp (rfl:_=AV.v (.int _ _))) (Le.out [] [] (ck ?_) rfl rfl rfl trivial trivial))))))
  rw [hr];rfl
theorem DJ (L:List Nd) (hL:L.length≤3) (t:Nat→Nat) (ht: ∀ j,t j≤2) (h: ∀ j,j < L.length→Spec Tryz.prog 203 (bj [mI (jx L j)] []) (aX (.v (.int .i64 (t j:Int))) [])) (r:Nat) (hr1:(∀ j,j < L.length→t j=2)→r=2) (hr0: ∀ j,j < L.length→t j≠2→r=0):
  Spec Tryz.prog 203 (bj [.agg [.v (.int .i64 17), .v (.int .i64 0), .v (bt [33]), .sl L.length (kB L)]] []) (aX (.v (.int .i64 (r:Int))) []):=by
 refine Spec.ofN Tryz.func203 rfl Tryz.ntmps203 rfl ?_
 refine am (ai (bk (1,0) _ rfl rfl) (aZ rfl (aj (ap (am (bA rfl rfl rfl (cC rfl rfl rfl (eG rfl rfl rfl (cJ rfl (ax rfl rfl (aH _ aa rfl rfl rfl) ?_))))))))))
 refine ax rfl rfl (aK _ aa rfl rfl (rfl:_=some (AV.v (.int _ _)))) (ax rfl rfl (bP (r:=false) _ _ rfl rfl rfl) (ai (aD _ _ _ rfl (rfl:_=AV.v (.bool _))) (cJ rfl (ax rfl rfl (aH _ aa rfl rfl rfl) (ax rfl rfl (aK _ aa rfl rfl (rfl:_=some (AV.v (.int _ _)))) (ax rfl rfl (bP (r:=false) _ _ rfl rfl rfl) (ai (aD _ _ _ rfl (rfl:_=AV.v (.bool _))) (aj (aP rfl rfl (aJ ?_))))))))))
 refine ap (ap ?_)
 refine aN (σ':=aB 80 [(1,_)] [((1,0),_)] [] []) kp ?_
 refine an (bA rfl rfl rfl (cC rfl rfl rfl (eG rfl rfl rfl (aj (aP rfl rfl (aJ (ap (am (bA rfl rfl rfl (cC rfl rfl rfl ?_))))))))))
 refine ai (ca (r:=true) _ _ rfl rfl rfl) (cJ rfl (ax rfl rfl (aH _ aa rfl rfl rfl) (ax rfl rfl (aK _ aa rfl rfl (rfl:_=some (AV.v (.int _ _)))) (ax rfl rfl (ca (r:=false) _ _ rfl rfl rfl) (ai (aD _ _ _ rfl (rfl:_=AV.v (.bool _))) (cJ rfl (aW rfl rfl ah ?_)))))))
 refine aW rfl rfl ah ?_
 refine aW rfl rfl ah ?_
 refine ai (aD _ _ _ rfl (rfl:_=AV.v (.bool _))) (aj (aP rfl rfl (aJ (ap ?_))))
 refine aN (σ':=aB 80 [(1,_)] [((1,0),_)] [] []) kp ?_
 refine an (aZ rfl (aj (am (aZ rfl (aj (ap (am (bA rfl rfl rfl (cC rfl rfl rfl (iY rfl rfl rfl ?_))))))))))
 refine cJ rfl (ax rfl rfl (aH _ aa rfl rfl rfl) (ax rfl rfl (aK _ aa rfl rfl (rfl:_=some (AV.v (.string _)))) (ax rfl rfl (aU (r:=true) _ _ Tryz.underlying9 rfl rfl rfl) (ai (aD _ _ _ rfl (rfl:_=AV.v (.bool _))) (cJ rfl (aW rfl rfl ah ?_))))))
 refine aW rfl rfl ah ?_
 refine aW rfl rfl ah ?_
 refine aW rfl rfl ah ?_
 refine mE rfl rfl (mE rfl rfl (mE rfl rfl (mE rfl rfl (aW rfl rfl ah ?_))))
 refine ai (aD _ _ _ rfl (rfl:_=AV.v (.bool _))) (aj (bD rfl rfl (ap ?_)))
 refine aN (σ':=aB 80 [(1,_)] [((1,0),_)] [] []) kp ?_
 refine an (aZ rfl (aj (an (aZ rfl (aj (ap (am (bA rfl rfl rfl (cC rfl rfl rfl (eG rfl rfl rfl ?_))))))))))
 refine cJ rfl (aW rfl rfl ah ?_)
 refine aW rfl rfl ah ?_
 refine aW rfl rfl ah ?_
 refine ai (aD _ _ _ rfl (rfl:_=AV.v (.bool _))) (aj (aP rfl rfl (aJ (aF fun K15 hK15=> ?_))))
 refine am (aZ rfl (aj (au ?_)))
 refine bw (α:=Nat) (fun j=> j≤L.length∧ ∀ q,q < j→t q=2) 80 [(1,_),(3,_),(4,_)] [((1,0),_)] (fun j=> [(5, .v (.int .i64 (j:Int)))]) (fun j=> []) [] [] (fun j=> L.length - j) 0 ?_ (by
  refine Le.mkJ [] [] rfl ?_ ?_ trivial trivial ?_
  ·exact ⟨(iP rfl),(iV rfl),(iV rfl),(ck ag),trivial⟩
  ·exact ⟨(cF rfl rfl rfl),trivial⟩
  ·kernel_rfl) ?_
 ·exact ⟨Nat.zero_le _,fun q hq=> by omega⟩
 intro j hj
 obtain ⟨hj,hall⟩:=hj
 have htj:=ht j
 refine aF fun K17 hK17=> ?_
 refine am (aQ rfl (bA rfl rfl rfl (fh rfl rfl rfl (ai (bE _ aa rfl) (ai (bo _ _ rfl rfl rfl) (aj (aT rfl (fun hc67=> ?_) (fun hc67=> ?_))))))))
 ·skip
  refine bv (hK17 _ ?_)
  clear hK17;try clear K17
  refine ap (au (am (bA rfl rfl rfl (fh rfl rfl rfl (aQ rfl (ai (bf _ _ aa rfl rfl _ rfl ab (by (simp only [ba,bn,bl,bC,bz,bJ,bB];omega)) ag) ?_))))))
  refine ai (cd _ aa rfl (by exact cH _ _ ab) rfl) ?_
  refine ai (aL aa al (h j ab) rfl rfl) ?_
  refine aZ rfl (aj (am (aQ rfl (aQ rfl (ai (ca _ _ rfl rfl rfl) (aj (aT rfl (fun hc78=> ?_) (fun hc78=> ?_))))))))
  ·skip
   have hr:=hr0 j ab ab
   refine ap ?_
   refine aN (σ':=aB 80 [] [] [] []) kp ?_
   refine an (aZ rfl (aj (aC (aY (.inr rfl) rfl (.tmp (rfl:_=AV.v (.int _ _))) (Le.out [] [] (ck ?_) rfl rfl rfl trivial trivial)))))
   rw [hr];rfl
  ·skip
   have hall1: ∀ q,q < j+1→t q=2:=fun q hq=> by
    by_cases h:q < j
    ·exact hall q h
    ·obtain rfl:q=j:=by omega
     omega
   refine bZ ?_
   refine aN (σ':=aB 80 [(1,_),(3,_),(4,_),(5,_)] [((1,0),_)] [] []) kp ?_
   refine an (aQ rfl (ai (bc _ _ rfl rfl (bq ab)) ?_))
   refine aZ rfl (az (⟨j+1,?_,?_,?_⟩))
   ·exact ⟨by omega,hall1⟩
   ·skip
    refine Le.mkJ [] [] rfl ?_ ?_ trivial trivial ?_
    ·exact ⟨(iP rfl),(iV rfl),(iV rfl),(ck ag),trivial⟩
    ·exact ⟨(cF rfl rfl rfl),trivial⟩
    ·kernel_rfl
   ·omega
 ·skip
  have hr:=hr1 fun q hq=> hall q ab
  refine bK (id (hK15 _ ?_))
  clear hK15;try clear K15
  refine am (aQ rfl (aZ rfl (aj (aC (aY (.inr rfl) rfl (.tmp (rfl:_=AV.v (.int _ _))) (Le.out [] [] (ck ?_) rfl rfl rfl trivial trivial))))))
  rw [hr];rfl
theorem so (s:Tx) (hs1:s∈[[38,38],[124,124]]) (hs2:s∉ve) (L:List Nd) (hL:L.length≤3) (t:Nat→Nat) (ht: ∀ j,t j≤2) (h: ∀ j,j < L.length→Spec Tryz.prog 203 (bj [mI (jx L j)] []) (aX (.v (.int .i64 (t j:Int))) [])) (r:Nat) (hr1:(∀ j,j < L.length→t j=2)→r=2) (hr0: ∀ j,j < L.length→t j≠2→r=0):
  Spec Tryz.prog 203 (bj [.agg [.v (.int .i64 18), .v (.int .i64 0), .v (bt s), .sl L.length (kB L)]] []) (aX (.v (.int .i64 (r:Int))) []):=by
 refine Spec.ofN Tryz.func203 rfl Tryz.ntmps203 rfl ?_
 refine am (ai (bk (1,0) _ rfl rfl) (aZ rfl (aj (ap (am (bA rfl rfl rfl (cC rfl rfl rfl (eG rfl rfl rfl (cJ rfl (ax rfl rfl (aH _ aa rfl rfl rfl) ?_))))))))))
 refine ax rfl rfl (aK _ aa rfl rfl (rfl:_=some (AV.v (.int _ _)))) (ax rfl rfl (bP (r:=false) _ _ rfl rfl rfl) (ai (aD _ _ _ rfl (rfl:_=AV.v (.bool _))) (cJ rfl (ax rfl rfl (aH _ aa rfl rfl rfl) (ax rfl rfl (aK _ aa rfl rfl (rfl:_=some (AV.v (.int _ _)))) (ax rfl rfl (bP (r:=false) _ _ rfl rfl rfl) (ai (aD _ _ _ rfl (rfl:_=AV.v (.bool _))) (aj (aP rfl rfl (aJ ?_))))))))))
 refine ap (ap ?_)
 refine aN (σ':=aB 80 [(1,_)] [((1,0),_)] [] []) kp ?_
 refine an (bA rfl rfl rfl (cC rfl rfl rfl (eG rfl rfl rfl (aj (aP rfl rfl (aJ (ap (am (bA rfl rfl rfl (cC rfl rfl rfl ?_))))))))))
 refine ai (ca (r:=true) _ _ rfl rfl rfl) (cJ rfl (ax rfl rfl (aH _ aa rfl rfl rfl) (ax rfl rfl (aK _ aa rfl rfl (rfl:_=some (AV.v (.int _ _)))) (ax rfl rfl (ca (r:=true) _ _ rfl rfl rfl) (ai (aD _ _ _ rfl (rfl:_=AV.v (.bool _))) (cJ rfl (ax rfl rfl (aH _ aa rfl rfl rfl) (ax rfl rfl (aK _ aa rfl rfl (rfl:_=some (AV.v (.int _ _)))) (ax rfl rfl (ca (r:=false) _ _ rfl rfl rfl) (ai (aD _ _ _ rfl (rfl:_=AV.v (.bool _))) ?_))))))))))
 refine aj (aP rfl rfl (aJ (ap ?_)))
 refine aN (σ':=aB 80 [(1,_)] [((1,0),_)] [] []) kp ?_
 refine an (aZ rfl (aj (am (aZ rfl (aj (ap (am (bA rfl rfl rfl (cC rfl rfl rfl (eG rfl rfl rfl ?_))))))))))
 refine cJ rfl (aW rfl rfl ah ?_)
 refine aW rfl rfl ah ?_
 refine aW rfl rfl ah ?_
 refine ai (aD _ _ _ rfl (rfl:_=AV.v (.bool _))) (cJ rfl (ax rfl rfl (aH _ aa rfl rfl rfl) (ax rfl rfl (aK _ aa rfl rfl (rfl:_=some (AV.v (.int _ _)))) (ax rfl rfl (bP (r:=true) _ _ rfl rfl rfl) (ax rfl rfl (aE _ (rfl:_=AV.v (.bool _))) (ax rfl rfl (aV _ _ aa rfl ag (by (simp <;> rfl)) ah rfl) ?_))))))
 refine ax rfl rfl (aH _ aa rfl rfl rfl) (ax rfl rfl (aK _ aa rfl rfl (rfl:_=some (AV.v (.string _)))) (ax rfl rfl (aL aa al (fG [[38,38],[124,124]] 2 rfl ab s) rfl rfl) ?_))
 refine ax rfl rfl (aD _ _ _ rfl (rfl:_=AV.v (.bool _))) (ai (aD _ _ _ rfl (rfl:_=AV.v (.bool _))) (aj (bD rfl (decide_eq_true hs1) ?_)))
 refine ap ?_
 refine aN (σ':=aB 80 [(1,_)] [((1,0),_)] [] []) kp ?_
 refine an (aZ rfl (aj (an (aZ rfl (aj (ap (am (bA rfl rfl rfl (cC rfl rfl rfl (iY rfl rfl rfl ?_))))))))))
 refine cJ rfl (ax rfl rfl (aH _ aa rfl rfl rfl) (ax rfl rfl (aK _ aa rfl rfl (rfl:_=some (AV.v (.string _)))) (ax rfl rfl (aL aa al (lb s) rfl rfl) ?_)))
 refine ai (aD _ _ _ rfl (rfl:_=AV.v (.bool _))) (aj (aP rfl (decide_eq_false hs2) ?_))
 refine aJ (aF fun K15 hK15=> ?_)
 refine am (aZ rfl (aj (au ?_)))
 refine bw (α:=Nat) (fun j=> j≤L.length∧ ∀ q,q < j→t q=2) 80 [(1,_),(3,_),(4,_)] [((1,0),_)] (fun j=> [(5, .v (.int .i64 (j:Int)))]) (fun j=> []) [] [] (fun j=> L.length - j) 0 ?_ (by
  refine Le.mkJ [] [] rfl ?_ ?_ trivial trivial ?_
  ·exact ⟨(iP rfl),(iV rfl),(iV rfl),(ck ag),trivial⟩
  ·exact ⟨(cF rfl rfl rfl),trivial⟩
  ·kernel_rfl) ?_
 ·exact ⟨Nat.zero_le _,fun q hq=> by omega⟩
 intro j hj
 obtain ⟨hj,hall⟩:=hj
 have htj:=ht j
 refine aF fun K17 hK17=> ?_
 refine am (aQ rfl (bA rfl rfl rfl (fh rfl rfl rfl (ai (bE _ aa rfl) (ai (bo _ _ rfl rfl rfl) (aj (aT rfl (fun hc67=> ?_) (fun hc67=> ?_))))))))
 ·skip
  refine bv (hK17 _ ?_)
  clear hK17;try clear K17
  refine ap (au (am (bA rfl rfl rfl (fh rfl rfl rfl (aQ rfl (ai (bf _ _ aa rfl rfl _ rfl ab (by (simp only [ba,bn,bl,bC,bz,bJ,bB];omega)) ag) ?_))))))
  refine ai (cd _ aa rfl (by exact cH _ _ ab) rfl) ?_
  refine ai (aL aa al (h j ab) rfl rfl) ?_
  refine aZ rfl (aj (am (aQ rfl (aQ rfl (ai (ca _ _ rfl rfl rfl) (aj (aT rfl (fun hc78=> ?_) (fun hc78=> ?_))))))))
  ·skip
   have hr:=hr0 j ab ab
   refine ap ?_
   refine aN (σ':=aB 80 [] [] [] []) kp ?_
   refine an (aZ rfl (aj (aC (aY (.inr rfl) rfl (.tmp (rfl:_=AV.v (.int _ _))) (Le.out [] [] (ck ?_) rfl rfl rfl trivial trivial)))))
   rw [hr];rfl
  ·skip
   have hall1: ∀ q,q < j+1→t q=2:=fun q hq=> by
    by_cases h:q < j
    ·exact hall q h
    ·obtain rfl:q=j:=by omega
     omega
   refine bZ ?_
   refine aN (σ':=aB 80 [(1,_),(3,_),(4,_),(5,_)] [((1,0),_)] [] []) kp ?_
   refine an (aQ rfl (ai (bc _ _ rfl rfl (bq ab)) ?_))
   refine aZ rfl (az (⟨j+1,?_,?_,?_⟩))
   ·exact ⟨by omega,hall1⟩
   ·skip
    refine Le.mkJ [] [] rfl ?_ ?_ trivial trivial ?_
    ·exact ⟨(iP rfl),(iV rfl),(iV rfl),(ck ag),trivial⟩
    ·exact ⟨(cF rfl rfl rfl),trivial⟩
    ·kernel_rfl
   ·omega
 ·skip
  have hr:=hr1 fun q hq=> hall q ab
  refine bK (id (hK15 _ ?_))
  clear hK15;try clear K15
  refine am (aQ rfl (aZ rfl (aj (aC (aY (.inr rfl) rfl (.tmp (rfl:_=AV.v (.int _ _))) (Le.out [] [] (ck ?_) rfl rfl rfl trivial trivial))))))
  rw [hr];rfl
theorem CR (s:Tx) (hs1:s∉[[38,38],[124,124]]) (hs2:s∈ve) (L:List Nd) (hL:L.length≤3) (t:Nat→Nat) (ht: ∀ j,t j≤2) (h: ∀ j,j < L.length→Spec Tryz.prog 203 (bj [mI (jx L j)] []) (aX (.v (.int .i64 (t j:Int))) [])) (r:Nat) (hr1:(∀ j,j < L.length→t j=1)→r=2) (hr0: ∀ j,j < L.length→t j≠1→r=0):
  Spec Tryz.prog 203 (bj [.agg [.v (.int .i64 18), .v (.int .i64 0), .v (bt s), .sl L.length (kB L)]] []) (aX (.v (.int .i64 (r:Int))) []):=by
 refine Spec.ofN Tryz.func203 rfl Tryz.ntmps203 rfl ?_
 refine am (ai (bk (1,0) _ rfl rfl) (aZ rfl (aj (ap (am (bA rfl rfl rfl (cC rfl rfl rfl (eG rfl rfl rfl (cJ rfl (ax rfl rfl (aH _ aa rfl rfl rfl) ?_))))))))))
 refine ax rfl rfl (aK _ aa rfl rfl (rfl:_=some (AV.v (.int _ _)))) (ax rfl rfl (bP (r:=false) _ _ rfl rfl rfl) (ai (aD _ _ _ rfl (rfl:_=AV.v (.bool _))) (cJ rfl (ax rfl rfl (aH _ aa rfl rfl rfl) (ax rfl rfl (aK _ aa rfl rfl (rfl:_=some (AV.v (.int _ _)))) (ax rfl rfl (bP (r:=false) _ _ rfl rfl rfl) (ai (aD _ _ _ rfl (rfl:_=AV.v (.bool _))) (aj (aP rfl rfl (aJ ?_))))))))))
 refine ap (ap ?_)
 refine aN (σ':=aB 80 [(1,_)] [((1,0),_)] [] []) kp ?_
 refine an (bA rfl rfl rfl (cC rfl rfl rfl (eG rfl rfl rfl (aj (aP rfl rfl (aJ (ap (am (bA rfl rfl rfl (cC rfl rfl rfl ?_))))))))))
 refine ai (ca (r:=true) _ _ rfl rfl rfl) (cJ rfl (ax rfl rfl (aH _ aa rfl rfl rfl) (ax rfl rfl (aK _ aa rfl rfl (rfl:_=some (AV.v (.int _ _)))) (ax rfl rfl (ca (r:=true) _ _ rfl rfl rfl) (ai (aD _ _ _ rfl (rfl:_=AV.v (.bool _))) (cJ rfl (ax rfl rfl (aH _ aa rfl rfl rfl) (ax rfl rfl (aK _ aa rfl rfl (rfl:_=some (AV.v (.int _ _)))) (ax rfl rfl (ca (r:=false) _ _ rfl rfl rfl) (ai (aD _ _ _ rfl (rfl:_=AV.v (.bool _))) ?_))))))))))
 refine aj (aP rfl rfl (aJ (ap ?_)))
 refine aN (σ':=aB 80 [(1,_)] [((1,0),_)] [] []) kp ?_
 refine an (aZ rfl (aj (am (aZ rfl (aj (ap (am (bA rfl rfl rfl (cC rfl rfl rfl (eG rfl rfl rfl ?_))))))))))
 refine cJ rfl (aW rfl rfl ah ?_)
 refine aW rfl rfl ah ?_
 refine aW rfl rfl ah ?_
 refine ai (aD _ _ _ rfl (rfl:_=AV.v (.bool _))) (cJ rfl (ax rfl rfl (aH _ aa rfl rfl rfl) (ax rfl rfl (aK _ aa rfl rfl (rfl:_=some (AV.v (.int _ _)))) (ax rfl rfl (bP (r:=true) _ _ rfl rfl rfl) (ax rfl rfl (aE _ (rfl:_=AV.v (.bool _))) (ax rfl rfl (aV _ _ aa rfl ag (by (simp <;> rfl)) ah rfl) ?_))))))
 refine ax rfl rfl (aH _ aa rfl rfl rfl) (ax rfl rfl (aK _ aa rfl rfl (rfl:_=some (AV.v (.string _)))) (ax rfl rfl (aL aa al (fG [[38,38],[124,124]] 2 rfl ab s) rfl rfl) ?_))
 refine ax rfl rfl (aD _ _ _ rfl (rfl:_=AV.v (.bool _))) (ai (aD _ _ _ rfl (rfl:_=AV.v (.bool _))) (aj (aP rfl (decide_eq_false hs1) ?_)))
 refine aJ (ap (ap ?_))
 refine aN (σ':=aB 80 [(1,_),(3,_),(4,_)] [((1,0),_)] [] []) kp ?_
 refine an (bA rfl rfl rfl (cC rfl rfl rfl (iY rfl rfl rfl (cJ rfl (ax rfl rfl (aH _ aa rfl rfl rfl) (ax rfl rfl (aK _ aa rfl rfl (rfl:_=some (AV.v (.string _)))) (ax rfl rfl (aL aa al (lb s) rfl rfl) ?_)))))))
 refine ai (aD _ _ _ rfl (rfl:_=AV.v (.bool _))) (aj (bD rfl (decide_eq_true hs2) ?_))
 refine an (aZ rfl (aj (aF fun K14 hK14=> ?_)))
 refine am (aZ rfl (aj (au ?_)))
 refine bw (α:=Nat) (fun j=> j≤L.length∧ ∀ q,q < j→t q=1) 80 [(1,_),(3,_),(4,_)] [((1,0),_)] (fun j=> [(5, .v (.int .i64 (j:Int)))]) (fun j=> []) [] [] (fun j=> L.length - j) 0 ?_ (by
  refine Le.mkJ [] [] rfl ?_ ?_ trivial trivial ?_
  ·exact ⟨(iP rfl),(iV rfl),(iV rfl),(ck ag),trivial⟩
  ·exact ⟨(cF rfl rfl rfl),trivial⟩
  ·kernel_rfl) ?_
 ·exact ⟨Nat.zero_le _,fun q hq=> by omega⟩
 intro j hj
 obtain ⟨hj,hall⟩:=hj
 have htj:=ht j
 refine aF fun K16 hK16=> ?_
 refine am (aQ rfl (bA rfl rfl rfl (fh rfl rfl rfl (ai (bE _ aa rfl) (ai (bo _ _ rfl rfl rfl) (aj (aT rfl (fun hc67=> ?_) (fun hc67=> ?_))))))))
 ·skip
  refine bv (hK16 _ ?_)
  clear hK16;try clear K16
  refine ap (au (am (bA rfl rfl rfl (fh rfl rfl rfl (aQ rfl (ai (bf _ _ aa rfl rfl _ rfl ab (by (simp only [ba,bn,bl,bC,bz,bJ,bB];omega)) ag) ?_))))))
  refine ai (cd _ aa rfl (by exact cH _ _ ab) rfl) ?_
  refine ai (aL aa al (h j ab) rfl rfl) ?_
  refine aZ rfl (aj (am (aQ rfl (aQ rfl (ai (ca _ _ rfl rfl rfl) (aj (aT rfl (fun hc78=> ?_) (fun hc78=> ?_))))))))
  ·skip
   have hr:=hr0 j ab ab
   refine ap ?_
   refine aN (σ':=aB 80 [] [] [] []) kp ?_
   refine an (aZ rfl (aj (aC (aY (.inr rfl) rfl (.tmp (rfl:_=AV.v (.int _ _))) (Le.out [] [] (ck ?_) rfl rfl rfl trivial trivial)))))
   rw [hr];rfl
  ·skip
   have hall1: ∀ q,q < j+1→t q=1:=fun q hq=> by
    by_cases h:q < j
    ·exact hall q h
    ·obtain rfl:q=j:=by omega
     omega
   refine bZ ?_
   refine aN (σ':=aB 80 [(1,_),(3,_),(4,_),(5,_)] [((1,0),_)] [] []) kp ?_
   refine an (aQ rfl (ai (bc _ _ rfl rfl (bq ab)) ?_))
   refine aZ rfl (az (⟨j+1,?_,?_,?_⟩))
   ·exact ⟨by omega,hall1⟩
   ·skip
    refine Le.mkJ [] [] rfl ?_ ?_ trivial trivial ?_
    ·exact ⟨(iP rfl),(iV rfl),(iV rfl),(ck ag),trivial⟩
    ·exact ⟨(cF rfl rfl rfl),trivial⟩
    ·kernel_rfl
   ·omega
 ·skip
  have hr:=hr1 fun q hq=> hall q ab
  refine bK (id (hK14 _ ?_))
  clear hK14;try clear K14
  refine am (aQ rfl (aZ rfl (aj (aC (aY (.inr rfl) rfl (.tmp (rfl:_=AV.v (.int _ _))) (Le.out [] [] (ck ?_) rfl rfl rfl trivial trivial))))))
  rw [hr];rfl
theorem xK (s:Tx) (hs1:s∉[[38,38],[124,124]]) (hs2:s∉ve) (L:List Nd) (hL:L.length≤3) (t:Nat→Nat) (ht: ∀ j,t j≤2) (h: ∀ j,j < L.length→Spec Tryz.prog 203 (bj [mI (jx L j)] []) (aX (.v (.int .i64 (t j:Int))) [])) (r:Nat) (hr1:(∀ j,j < L.length→t j=1)→r=1) (hr0: ∀ j,j < L.length→t j≠1→r=0):
  Spec Tryz.prog 203 (bj [.agg [.v (.int .i64 18), .v (.int .i64 0), .v (bt s), .sl L.length (kB L)]] []) (aX (.v (.int .i64 (r:Int))) []):=by
 refine Spec.ofN Tryz.func203 rfl Tryz.ntmps203 rfl ?_
 refine am (ai (bk (1,0) _ rfl rfl) (aZ rfl (aj (ap (am (bA rfl rfl rfl (cC rfl rfl rfl (eG rfl rfl rfl (cJ rfl (ax rfl rfl (aH _ aa rfl rfl rfl) ?_))))))))))
 refine ax rfl rfl (aK _ aa rfl rfl (rfl:_=some (AV.v (.int _ _)))) (ax rfl rfl (bP (r:=false) _ _ rfl rfl rfl) (ai (aD _ _ _ rfl (rfl:_=AV.v (.bool _))) (cJ rfl (ax rfl rfl (aH _ aa rfl rfl rfl) (ax rfl rfl (aK _ aa rfl rfl (rfl:_=some (AV.v (.int _ _)))) (ax rfl rfl (bP (r:=false) _ _ rfl rfl rfl) (ai (aD _ _ _ rfl (rfl:_=AV.v (.bool _))) (aj (aP rfl rfl (aJ ?_))))))))))
 refine ap (ap ?_)
 refine aN (σ':=aB 80 [(1,_)] [((1,0),_)] [] []) kp ?_
 refine an (bA rfl rfl rfl (cC rfl rfl rfl (eG rfl rfl rfl (aj (aP rfl rfl (aJ (ap (am (bA rfl rfl rfl (cC rfl rfl rfl ?_))))))))))
 refine ai (ca (r:=true) _ _ rfl rfl rfl) (cJ rfl (ax rfl rfl (aH _ aa rfl rfl rfl) (ax rfl rfl (aK _ aa rfl rfl (rfl:_=some (AV.v (.int _ _)))) (ax rfl rfl (ca (r:=true) _ _ rfl rfl rfl) (ai (aD _ _ _ rfl (rfl:_=AV.v (.bool _))) (cJ rfl (ax rfl rfl (aH _ aa rfl rfl rfl) (ax rfl rfl (aK _ aa rfl rfl (rfl:_=some (AV.v (.int _ _)))) (ax rfl rfl (ca (r:=false) _ _ rfl rfl rfl) (ai (aD _ _ _ rfl (rfl:_=AV.v (.bool _))) ?_))))))))))
 refine aj (aP rfl rfl (aJ (ap ?_)))
 refine aN (σ':=aB 80 [(1,_)] [((1,0),_)] [] []) kp ?_
 refine an (aZ rfl (aj (am (aZ rfl (aj (ap (am (bA rfl rfl rfl (cC rfl rfl rfl (eG rfl rfl rfl ?_))))))))))
 refine cJ rfl (aW rfl rfl ah ?_)
 refine aW rfl rfl ah ?_
 refine aW rfl rfl ah ?_
 refine ai (aD _ _ _ rfl (rfl:_=AV.v (.bool _))) (cJ rfl (ax rfl rfl (aH _ aa rfl rfl rfl) (ax rfl rfl (aK _ aa rfl rfl (rfl:_=some (AV.v (.int _ _)))) (ax rfl rfl (bP (r:=true) _ _ rfl rfl rfl) (ax rfl rfl (aE _ (rfl:_=AV.v (.bool _))) (ax rfl rfl (aV _ _ aa rfl ag (by (simp <;> rfl)) ah rfl) ?_))))))
 refine ax rfl rfl (aH _ aa rfl rfl rfl) (ax rfl rfl (aK _ aa rfl rfl (rfl:_=some (AV.v (.string _)))) (ax rfl rfl (aL aa al (fG [[38,38],[124,124]] 2 rfl ab s) rfl rfl) ?_))
 refine ax rfl rfl (aD _ _ _ rfl (rfl:_=AV.v (.bool _))) (ai (aD _ _ _ rfl (rfl:_=AV.v (.bool _))) (aj (aP rfl (decide_eq_false hs1) ?_)))
 refine aJ (ap (ap ?_))
 refine aN (σ':=aB 80 [(1,_),(3,_),(4,_)] [((1,0),_)] [] []) kp ?_
 refine an (bA rfl rfl rfl (cC rfl rfl rfl (iY rfl rfl rfl (cJ rfl (ax rfl rfl (aH _ aa rfl rfl rfl) (ax rfl rfl (aK _ aa rfl rfl (rfl:_=some (AV.v (.string _)))) (ax rfl rfl (aL aa al (lb s) rfl rfl) ?_)))))))
 refine ai (aD _ _ _ rfl (rfl:_=AV.v (.bool _))) (aj (aP rfl (decide_eq_false hs2) ?_))
 refine aJ (aF fun K14 hK14=> ?_)
 refine am (aZ rfl (aj (au ?_)))
 refine bw (α:=Nat) (fun j=> j≤L.length∧ ∀ q,q < j→t q=1) 80 [(1,_),(3,_),(4,_)] [((1,0),_)] (fun j=> [(5, .v (.int .i64 (j:Int)))]) (fun j=> []) [] [] (fun j=> L.length - j) 0 ?_ (by
  refine Le.mkJ [] [] rfl ?_ ?_ trivial trivial ?_
  ·exact ⟨(iP rfl),(iV rfl),(iV rfl),(ck ag),trivial⟩
  ·exact ⟨(cF rfl rfl rfl),trivial⟩
  ·kernel_rfl) ?_
 ·exact ⟨Nat.zero_le _,fun q hq=> by omega⟩
 intro j hj
 obtain ⟨hj,hall⟩:=hj
 have htj:=ht j
 refine aF fun K16 hK16=> ?_
 refine am (aQ rfl (bA rfl rfl rfl (fh rfl rfl rfl (ai (bE _ aa rfl) (ai (bo _ _ rfl rfl rfl) (aj (aT rfl (fun hc67=> ?_) (fun hc67=> ?_))))))))
 ·skip
  refine bv (hK16 _ ?_)
  clear hK16;try clear K16
  refine ap (au (am (bA rfl rfl rfl (fh rfl rfl rfl (aQ rfl (ai (bf _ _ aa rfl rfl _ rfl ab (by (simp only [ba,bn,bl,bC,bz,bJ,bB];omega)) ag) ?_))))))
  refine ai (cd _ aa rfl (by exact cH _ _ ab) rfl) ?_
  refine ai (aL aa al (h j ab) rfl rfl) ?_
  refine aZ rfl (aj (am (aQ rfl (aQ rfl (ai (ca _ _ rfl rfl rfl) (aj (aT rfl (fun hc78=> ?_) (fun hc78=> ?_))))))))
  ·skip
   have hr:=hr0 j ab ab
   refine ap ?_
   refine aN (σ':=aB 80 [] [] [] []) kp ?_
   refine an (aZ rfl (aj (aC (aY (.inr rfl) rfl (.tmp (rfl:_=AV.v (.int _ _))) (Le.out [] [] (ck ?_) rfl rfl rfl trivial trivial)))))
   rw [hr];rfl
  ·skip
   have hall1: ∀ q,q < j+1→t q=1:=fun q hq=> by
    by_cases h:q < j
    ·exact hall q h
    ·obtain rfl:q=j:=by omega
     omega
   refine bZ ?_
   refine aN (σ':=aB 80 [(1,_),(3,_),(4,_),(5,_)] [((1,0),_)] [] []) kp ?_
   refine an (aQ rfl (ai (bc _ _ rfl rfl (bq ab)) ?_))
   refine aZ rfl (az (⟨j+1,?_,?_,?_⟩))
   ·exact ⟨by omega,hall1⟩
   ·skip
    refine Le.mkJ [] [] rfl ?_ ?_ trivial trivial ?_
    ·exact ⟨(iP rfl),(iV rfl),(iV rfl),(ck ag),trivial⟩
    ·exact ⟨(cF rfl rfl rfl),trivial⟩
    ·kernel_rfl
   ·omega
 ·skip
  have hr:=hr1 fun q hq=> hall q ab
  refine bK (id (hK14 _ ?_))
  clear hK14;try clear K14
  refine am (aQ rfl (aZ rfl (aj (aC (aY (.inr rfl) rfl (.tmp (rfl:_=AV.v (.int _ _))) (Le.out [] [] (ck ?_) rfl rfl rfl trivial trivial))))))
  rw [hr];rfl
end Go.Proofs.YtmjnackchaahbaaGreat
