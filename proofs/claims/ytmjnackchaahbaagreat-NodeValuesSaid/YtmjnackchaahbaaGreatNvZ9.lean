/- part 9 -/
import Derived.Test.YtmjnackchaahbaaGreatNvZ8
set_option linter.unusedSimpArgs false
set_option linter.unusedVariables false
set_option maxHeartbeats 2000000
namespace Go.Proofs.YtmjnackchaahbaaGreat
open Go.RowKit

abbrev pk (d:Nd):AV:= .agg [.v (.int .i64 (d.k:Int)), .v (.int .i64 (d.n:Int)), .v (bt d.s), .sl d.kn d.kids]
abbrev PO (T:List Tk) (N:List Tx) (r:Nd×Nat):St:=aO (pk r.1) (dD T r.2 N) [(0,9)] [(0,9)]
structure PE (T:List Tk) (N:List Tx) (f:Nat):Prop where
 expr: ∀ lv pr i r,lv≤20→1≤pr∧pr≤7→i < T.length→gj T f lv pr i=some r→r.2 < T.length∧Spec Tryz.prog 226 (aL [.ptr (0,9) 0, .v (.int .i64 (lv:Int)), .v (.int .i64 (pr:Int))] (dD T i N)) (PO T N r)
 un: ∀ s lv pr i r,lv≤20→1≤pr∧pr≤7→i < T.length→Jq T f s lv pr i=some r→r.2 < T.length∧Spec Tryz.prog 235 (aL [.ptr (0,9) 0, .v (bt s), .v (.int .i64 (lv:Int)), .v (.int .i64 (pr:Int))] (dD T i N)) (PO T N r)
 bin: ∀ lv pr i r,lv≤20→(1≤pr∧pr≤6∧pr≠3)→i < T.length→za T f lv pr i=some r→r.2 < T.length∧Spec Tryz.prog 236 (aL [.ptr (0,9) 0, .v (.int .i64 (lv:Int)), .v (.int .i64 (pr:Int))] (dD T i N)) (PO T N r)
 nest: ∀ lv i r,lv≤20→i < T.length→rN T f lv i=some r→r.2 < T.length∧Spec Tryz.prog 240 (aL [.ptr (0,9) 0, .v (.int .i64 (lv:Int))] (dD T i N)) (PO T N r)
 prim: ∀ lv i r,lv≤20→i < T.length→tV T f lv i=some r→r.2 < T.length∧Spec Tryz.prog 237 (aL [.ptr (0,9) 0, .v (.int .i64 (lv:Int))] (dD T i N)) (PO T N r)
section
variable {T:List Tk} {N:List Tx}
theorem zl (f:Nat) (ih:PE T N f) (lv pr i:Nat) (r:Nd×Nat) (hl:lv≤20) (hp:1≤pr∧pr≤7) (hi:i < T.length) (h:gj T (f+1) lv pr i=some r):
  r.2 < T.length∧Spec Tryz.prog 226 (aL [.ptr (0,9) 0, .v (.int .i64 (lv:Int)), .v (.int .i64 (pr:Int))] (dD T i N)) (PO T N r):=by
 unfold gj at h
 by_cases h1:pr=3∧(cN T i).t=[33]
 ·rw [if_pos h1] at h
  obtain ⟨ha,hb⟩:=ih.un _ _ _ _ _ hl ab hi h
  refine ⟨ha,?_⟩
  obtain ⟨rfl,h1⟩:=h1
  refine Spec.ofNI Tryz.func226 rfl Tryz.ntmps226 rfl ?_
  refine go 15 ?_
  refine aj (aY aa _ _ ar (bw T i N hi) tr rfl ae (by simp)) ?_
  refine go 8 ?_
  refine aZ rfl rfl (cW (r:=true) _ _ Tryz.underlying9 rfl rfl (by rw [h1];rfl)) ?_
  refine go 3 ?_
  refine aE ?_
  refine aB (σ':=an 50 [(0,_),(1,_),(6,_),(7,_)] [((0,9),_),((6,0),_)] [(0,9)] [(0,9)]) kp ?_
  refine aD (dW rfl (tP rfl (bV rfl (aj (bF (hb)) (go 2 ?_)))))
  exact au (jr [])
 rw [if_neg h1] at h
 by_cases h2:pr=3
 ·rw [if_pos h2] at h
  obtain ⟨ha,hb⟩:=ih.bin _ _ _ _ hl ab hi h
  refine ⟨ha,?_⟩
  subst h2
  have h1:(cN T i).t≠[33]:=fun e=> h1 ⟨rfl,e⟩
  refine Spec.ofNI Tryz.func226 rfl Tryz.ntmps226 rfl ?_
  refine go 15 ?_
  refine aj (aY aa _ _ ar (bw T i N hi) tr rfl ae (by simp)) ?_
  refine go 8 ?_
  refine aZ rfl rfl (cW (r:=false) _ _ Tryz.underlying9 rfl rfl (beq_eq_false_iff_ne.2 h1)) ?_
  refine go 5 ?_
  refine aE ?_
  refine aB (σ':=an 50 [(0,_),(1,_),(2,_),(6,_),(7,_)] [((0,9),_),((6,0),_)] [(0,9)] [(0,9)]) kp ?_
  refine go 8 ?_
  refine aj (bF (hb)) (go 2 ?_)
  exact au (jr [])
 rw [if_neg h2] at h
 by_cases h3:pr=7∧(cN T i).t=[45]
 ·rw [if_pos h3] at h
  obtain ⟨ha,hb⟩:=ih.un _ _ _ _ _ hl ab hi h
  refine ⟨ha,?_⟩
  obtain ⟨rfl,h3⟩:=h3
  refine Spec.ofNI Tryz.func226 rfl Tryz.ntmps226 rfl ?_
  refine go 15 ?_
  refine aj (aY aa _ _ ar (bw T i N hi) tr rfl ae (by simp)) ?_
  refine go 14 ?_
  refine aE ?_
  refine aB (σ':=an 50 [(0,_),(1,_),(2,_),(6,_),(7,_)] [((0,9),_),((6,0),_)] [(0,9)] [(0,9)]) kp ?_
  refine go 12 ?_
  refine aZ rfl rfl (cW (r:=true) _ _ Tryz.underlying9 rfl rfl (by rw [h3];rfl)) ?_
  refine go 7 ?_
  refine aj (bF (hb)) (go 2 ?_)
  exact au (jr [])
 rw [if_neg h3] at h
 by_cases h4:pr=7
 ·rw [if_pos h4] at h
  obtain ⟨ha,hb⟩:=ih.prim _ _ _ hl hi h
  refine ⟨ha,?_⟩
  subst h4
  have h3:(cN T i).t≠[45]:=fun e=> h3 ⟨rfl,e⟩
  refine Spec.ofNI Tryz.func226 rfl Tryz.ntmps226 rfl ?_
  refine go 15 ?_
  refine aj (aY aa _ _ ar (bw T i N hi) tr rfl ae (by simp)) ?_
  refine go 14 ?_
  refine aE ?_
  refine aB (σ':=an 50 [(0,_),(1,_),(2,_),(6,_),(7,_)] [((0,9),_),((6,0),_)] [(0,9)] [(0,9)]) kp ?_
  refine go 12 ?_
  refine aZ rfl rfl (cW (r:=false) _ _ Tryz.underlying9 rfl rfl (beq_eq_false_iff_ne.2 h3)) ?_
  refine go 10 ?_
  refine aF fun K13 hK13=> ?_
  refine aD (dW rfl (bV rfl (aj (bF (hb)) (JB rfl rfl rfl rfl rfl rfl (ay (hK13 _ ?_))))))
  exact au (jr [])
 rw [if_neg h4] at h
 obtain ⟨ha,hb⟩:=ih.bin _ _ _ _ hl ab hi h
 refine ⟨ha,?_⟩
 refine Spec.ofNI Tryz.func226 rfl Tryz.ntmps226 rfl ?_
 refine go 15 ?_
 refine aj (aY aa _ _ ar (bw T i N hi) tr rfl ae (by simp)) ?_
 refine HX rfl (am (aE (aG (bV rfl (Av rfl rfl (beq_eq_false_iff_ne.2 ab) ?_)))))
 refine go 8 ?_
 refine aE ?_
 refine aB (σ':=an 50 [(0,_),(1,_),(2,_),(6,_),(7,_)] [((0,9),_),((6,0),_)] [(0,9)] [(0,9)]) kp ?_
 refine aD (bV rfl (Av rfl rfl (beq_eq_false_iff_ne.2 ab) ?_))
 refine go 6 ?_
 refine Av rfl rfl (beq_eq_false_iff_ne.2 ab) ?_
 refine go 10 ?_
 refine Av rfl rfl (beq_eq_false_iff_ne.2 ab) ?_
 refine am (cP rfl rfl (cO (aF fun K13 hK13=> ?_)))
 refine aD (dW rfl (bV rfl (bV rfl (aj (bF (hb)) (JB rfl rfl rfl rfl rfl rfl (ay (hK13 _ ?_)))))))
 exact au (jr [])
theorem EM (hT:T.length≤100000) (f:Nat) (ih:PE T N f) (s:Tx) (lv pr i:Nat) (r:Nd×Nat) (hl:lv≤20) (hp:1≤pr∧pr≤7) (hi:i < T.length) (h:Jq T (f+1) s lv pr i=some r):
  r.2 < T.length∧Spec Tryz.prog 235 (aL [.ptr (0,9) 0, .v (bt s), .v (.int .i64 (lv:Int)), .v (.int .i64 (pr:Int))] (dD T i N)) (PO T N r):=by
 unfold Jq at h
 simp only [Option.bind_eq_bind,Option.bind_eq_some_iff,Option.pure_def,Option.some.injEq] at h
 obtain ⟨j,hj,⟨d,j2⟩,hd,rfl⟩:=h
 have ho:=kq hj
 have hjl:=ju ho.2 hi
 obtain ⟨ha,hb⟩:=ih.expr _ _ _ _ ho.1 hp hjl hd
 have hopen:=oN T i j N s (lv+1) hi hT hj
 refine ⟨ha,?_⟩
 refine Spec.ofNI Tryz.func235 rfl Tryz.ntmps235 rfl ?_
 refine go 8 ?_
 refine aj (bF (hopen)) (am (aF fun K3 hK3=> ?_))
 refine go 5 ?_
 refine aj (bF (hb)) (go 2 ?_)
 refine ay (hK3 _ ?_)
 refine go 7 ?_
 exact au (jr [])
theorem yu (hT:T.length≤100000) (f:Nat) (ih:PE T N f) (lv i:Nat) (r:Nd×Nat) (hl:lv≤20) (hi:i < T.length) (h:rN T (f+1) lv i=some r):
  r.2 < T.length∧Spec Tryz.prog 240 (aL [.ptr (0,9) 0, .v (.int .i64 (lv:Int))] (dD T i N)) (PO T N r):=by
 unfold rN at h
 simp only [Option.bind_eq_bind,Option.bind_eq_some_iff,Option.pure_def,Option.some.injEq] at h
 obtain ⟨j,hj,⟨d,j2⟩,hd,j3,hj3,rfl⟩:=h
 have ho:=kq hj
 have hjl:=ju ho.2 hi
 obtain ⟨ha,hb⟩:=ih.expr _ _ _ _ ho.1 ab hjl hd
 have hopen:=oN T i j N [40] (lv+1) hi hT hj
 have hexp:=fl T j2 j3 N [41] ha hT hj3
 refine ⟨ju hj3 ha,?_⟩
 refine Spec.ofNI Tryz.func240 rfl Tryz.ntmps240 rfl ?_
 refine go 7 ?_
 refine aj (bF (hopen)) (am (aF fun K3 hK3=> ?_))
 refine go 4 ?_
 refine aj (bF (hb)) (go 2 ?_)
 refine ay (hK3 _ ?_)
 refine aF fun K4 hK4=> ?_
 refine aD (dW rfl (aj (bF (hexp)) (ay (hK4 _ ?_))))
 refine go 4 ?_
 exact au (jr [])
theorem zP (hT:T.length≤100000) (f:Nat) (ih:PE T N f) (lv i:Nat) (r:Nd×Nat) (hl:lv≤20) (hi:i < T.length) (h:tV T (f+1) lv i=some r):
  r.2 < T.length∧Spec Tryz.prog 237 (aL [.ptr (0,9) 0, .v (.int .i64 (lv:Int))] (dD T i N)) (PO T N r):=by
 have htl:=dJ hi
 have htake:=bW T i N hi hT
 unfold tV at h
 simp only at h
 by_cases h1:(cN T i).t=[40]
 ·rw [if_pos h1] at h
  obtain ⟨ha,hb⟩:=ih.nest _ _ _ hl hi h
  refine ⟨ha,?_⟩
  refine Spec.ofNI Tryz.func237 rfl Tryz.ntmps237 rfl ?_
  refine go 3 ?_
  refine aE (dA 11 [(5,0)] ?_)
  refine go 16 ?_
  refine aC (_,[]) (fun τ=> aQ _ _ aa rfl rfl _ rfl ab (by (simp only [aq,aJ,aM,bf,bc];omega)) ag) ?_
  refine go 1 ?_
  refine aC (_,[]) (fun τ=> bs _ aa rfl (by exact nI _ _ hi) rfl) ?_
  refine go 1 ?_
  refine aC (_,[((5,0),_)]) (fun τ=> eB (5,0) aa rfl rfl) ?_
  refine go 8 ?_
  refine aj (cW (r:=true) _ _ Tryz.underlying9 rfl rfl (by rw [h1];rfl)) ?_
  refine am (fX rfl rfl (aE ?_))
  refine aB (σ':=an 72 [(0,_),(1,_),(4,_)] [((0,9),_),((4,0),_)] [(0,9)] [(0,9)]) kp ?_
  refine aD (dW rfl (bV rfl (aj (bF (hb)) (go 2 ?_))))
  exact au (jr [])
 rw [if_neg h1] at h
 by_cases h2:(cN T i).t=AF
 ·rw [if_pos h2] at h
  simp only [Option.bind_eq_bind,Option.bind_eq_some_iff,Option.pure_def,Option.some.injEq] at h
  obtain ⟨⟨d,j⟩,hd,rfl⟩:=h
  obtain ⟨ha,hb⟩:=ih.nest _ _ _ hl htl hd
  refine ⟨ha,?_⟩
  refine Spec.ofNI Tryz.func237 rfl Tryz.ntmps237 rfl ?_
  refine go 3 ?_
  refine aE (dA 11 [(5,0)] ?_)
  refine go 16 ?_
  refine aC (_,[]) (fun τ=> aQ _ _ aa rfl rfl _ rfl ab (by (simp only [aq,aJ,aM,bf,bc];omega)) ag) ?_
  refine go 1 ?_
  refine aC (_,[]) (fun τ=> bs _ aa rfl (by exact nI _ _ hi) rfl) ?_
  refine go 1 ?_
  refine aC (_,[((5,0),_)]) (fun τ=> eB (5,0) aa rfl rfl) ?_
  refine go 8 ?_
  refine aj (cW (r:=false) _ _ Tryz.underlying9 rfl rfl (beq_eq_false_iff_ne.2 h1)) ?_
  refine am (cP rfl rfl (cO (aE (aE ?_))))
  refine aB (σ':=an 72 [(0,_),(1,_),(4,_),(5,_)] [((0,9),_),((4,0),_),((5,0),_)] [(0,9)] [(0,9)]) kp ?_
  refine go 3 ?_
  refine aj (cW (r:=true) _ _ Tryz.underlying9 rfl rfl (by rw [h2];rfl)) ?_
  refine am (fX rfl rfl (aG (dW rfl (aj (bF (htake)) (am (aF fun K8 hK8=> ?_))))))
  refine aD (dW rfl (bV rfl (aj (bF (hb)) (go 2 ?_))))
  refine ay (hK8 _ ?_)
  refine go 6 ?_
  exact au (jr [])
 rw [if_neg h2] at h
 have hr:r.2=br T i:=by
  repeat' split at h
  all_goals first | (rw [← Option.some.inj h];done) | cases h
 refine ⟨by rw [hr];exact htl,?_⟩
 refine Spec.ofNI Tryz.func237 rfl Tryz.ntmps237 rfl ?_
 refine go 3 ?_
 refine aE (dA 11 [(5,0)] ?_)
 refine go 16 ?_
 refine aC (_,[]) (fun τ=> aQ _ _ aa rfl rfl _ rfl ab (by (simp only [aq,aJ,aM,bf,bc];omega)) ag) ?_
 refine go 1 ?_
 refine aC (_,[]) (fun τ=> bs _ aa rfl (by exact nI _ _ hi) rfl) ?_
 refine go 1 ?_
 refine aC (_,[((5,0),_)]) (fun τ=> eB (5,0) aa rfl rfl) ?_
 refine go 8 ?_
 refine aj (cW (r:=false) _ _ Tryz.underlying9 rfl rfl (beq_eq_false_iff_ne.2 h1)) ?_
 refine am (cP rfl rfl (cO (aE (aE ?_))))
 refine aB (σ':=an 72 [(0,_),(1,_),(4,_),(5,_)] [((0,9),_),((4,0),_),((5,0),_)] [(0,9)] [(0,9)]) kp ?_
 refine go 3 ?_
 refine aj (cW (r:=false) _ _ Tryz.underlying9 rfl rfl (beq_eq_false_iff_ne.2 h2)) ?_
 refine go 8 ?_
 refine aF fun K8 hK8=> ?_
 refine go 3 ?_
 refine aj (bb _ _ rfl rfl rfl) (am (ax rfl (fun hc38=> ?_) (fun hc38=> ?_)))
 ·rw [if_pos ab] at h
  obtain rfl:=Option.some.inj h
  refine go 5 ?_
  refine ay (hK8 _ ?_)
  refine aG (dW rfl (aj (bF (htake)) (am (aE ?_))))
  refine aB (σ':=an 72 [(4,_),(7,_)] [((4,0),_),((7,0),_),((0,9),_)] [(0,9)] [(0,9)]) kp ?_
  refine go 4 ?_
  exact au (jr [])
 rw [if_neg ab] at h
 refine go 3 ?_
 refine aj (cW _ _ Tryz.underlying9 rfl rfl rfl) (am (ax rfl (fun hc44=> ?_) (fun hc44=> ?_)))
 ·rw [if_pos (show (cN T i).t=xg from hc44)] at h
  obtain rfl:=Option.some.inj h
  refine go 3 ?_
  refine ay (hK8 _ ?_)
  refine aG (dW rfl (aj (bF (htake)) (am (aE ?_))))
  refine aB (σ':=an 72 [(4,_),(7,_)] [((4,0),_),((7,0),_),((0,9),_)] [(0,9)] [(0,9)]) kp ?_
  refine go 4 ?_
  exact au (jr [])
 rw [if_neg (show ¬ (cN T i).t=xg from hc44)] at h
 refine go 3 ?_
 refine aj (cW _ _ Tryz.underlying9 rfl rfl rfl) (am (ax rfl (fun hc48=> ?_) (fun hc48=> ?_)))
 ·rw [if_pos (show (cN T i).t=tz from hc48)] at h
  obtain rfl:=Option.some.inj h
  refine aB (σ':=an 72 [(0,_),(4,_),(7,_)] [((0,9),_),((4,0),_),((7,0),_)] [(0,9)] [(0,9)]) kp ?_
  refine go 3 ?_
  refine ay (hK8 _ ?_)
  refine aG (dW rfl (aj (bF (htake)) (go 5 ?_)))
  exact au (jr [])
 rw [if_neg (show ¬ (cN T i).t=tz from hc48)] at h
 refine aE ?_
 refine aB (σ':=an 72 [(0,_),(4,_),(5,_),(7,_)] [((0,9),_),((4,0),_),((5,0),_),((7,0),_)] [(0,9)] [(0,9)]) kp ?_
 refine dA 4 [] ?_
 refine aC (_,[]) (fun τ=> (ap aa (by repeat' (exact bR)) (ms) rfl rfl)) ?_
 refine go 5 ?_
 refine aC (_,[]) (fun τ=> (ap aa al (bX bltT 9 rfl ab (cN T i).t) rfl rfl)) ?_
 refine go 1 ?_
 refine ci ⟨rfl,?_⟩
 refine am (ax rfl (fun hc53=> ?_) (fun hc53=> ?_))
 ·rw [if_pos hc53] at h
  obtain rfl:=Option.some.inj h
  refine go 5 ?_
  refine ay (hK8 _ ?_)
  refine aG (dW rfl (aj (bF (htake)) (go 5 ?_)))
  exact au (jr [])
 rw [if_neg hc53] at h
 refine aG (dW rfl (aj (aY aa _ _ ar (dy T i N hi) tr rfl ae (by simp)) ?_))
 refine am (ax rfl (fun hc58=> ?_) (fun hc58=> ?_))
 ·rw [if_pos hc58] at h
  obtain rfl:=Option.some.inj h
  refine go 5 ?_
  refine ay (hK8 _ ?_)
  refine aG (dW rfl (aj (bF (htake)) (go 5 ?_)))
  exact au (jr [])
 exact absurd h (by rw [if_neg (by simp [hc58])];exact fun e=> by cases e)
theorem Fs (pr:Nat) (h:1≤pr∧pr≤6∧pr≠3):([PV.v (.slice none 0 0), .sl 1 (eM [[124,124]]), .sl 1 (eM [[38,38]]), .v (.slice none 0 0), .sl 6 (eM [[60],[60,61],[62],[62,61],[61,61],[33,61]]), .sl 2 (eM [[43],[45]]), .sl 2 (eM [[42],[47]])]:List PV)[pr]? =some (.sl (opsP.getD pr []).length (eM (opsP.getD pr []))):=by
 have:pr=1∨pr=2∨pr=4∨pr=5∨pr=6:=by omega
 rcases this with rfl | rfl | rfl | rfl | rfl <;> rfl
theorem GV (pr:Nat):(opsP.getD pr []).length≤6:=by
 unfold opsP
 match pr with
 | 0=> decide | 1=> decide | 2=> decide | 3=> decide | 4=> decide | 5=> decide | 6=> decide
 | n+7=> simp
theorem qB {f lv pr:Nat} {d:Nd} {i:Nat} {r:Nd×Nat} (h:nR T f lv pr d i=some r): ∃ g,f=g+1∧((cN T i).t∉opsP.getD pr []∧r=(d,i)∨(cN T i).t∈opsP.getD pr []∧ ∃ e j,gj T g lv (pr+1) (br T i)=some (e,j)∧
  (pr=4∧r=(nd 18 0 (cN T i).t [d,e],j)∨pr≠4∧nR T g lv pr (nd 18 0 (cN T i).t [d,e]) j=some r)):=by
 cases f with
 | zero=> simp [nR] at h
 | succ g=>
  refine ⟨g,rfl,?_⟩
  unfold nR at h
  split at h
  ·rename_i hm
   simp only [Option.bind_eq_bind,Option.bind_eq_some_iff,Option.pure_def] at h
   obtain ⟨⟨e,j⟩,he,h⟩:=h
   refine .inr ⟨hm,e,j,he,?_⟩
   split at h
   ·rename_i h4;exact .inl ⟨h4,(Option.some.inj h).symm⟩
   rename_i h4;exact .inr ⟨h4,h⟩
  rename_i hm;exact .inl ⟨hm,(Option.some.inj h).symm⟩
theorem Cf (hT:T.length≤100000) (f:Nat) (ih: ∀ g,g≤f→PE T N g) (lv pr i:Nat) (r:Nd×Nat) (hl:lv≤20) (hp:1≤pr∧pr≤6∧pr≠3) (hi:i < T.length) (h:za T (f+1) lv pr i=some r):
  r.2 < T.length∧Spec Tryz.prog 236 (aL [.ptr (0,9) 0, .v (.int .i64 (lv:Int)), .v (.int .i64 (pr:Int))] (dD T i N)) (PO T N r):=by
 unfold za at h
 simp only [Option.bind_eq_bind,Option.bind_eq_some_iff] at h
 obtain ⟨⟨d,j⟩,hd,h⟩:=h
 simp only at h
 obtain ⟨ha,hb⟩:=(ih f (Nat.le_refl _)).expr _ _ _ _ hl ab hi hd
 have hend: ∀ (g:Nat) (d:Nd) (i:Nat),g≤f→i < T.length→nR T g lv pr d i=some r→r.2 < T.length:=by
  intro g
  induction g with
  | zero=> intro d i _ _ h;simp [nR] at h
  | succ g ihg=>
   intro d i hg hi h
   obtain ⟨g',hg',h | ⟨_,e,j,he,h⟩⟩:=qB h
   ·rw [h.2];exact hi
   obtain rfl:g=g':=by omega
   have hj:=((ih g ab).expr _ _ _ _ hl ab (dJ hi) he).1
   rcases h with h | h
   ·rw [h.2];exact hj
   exact ihg _ _ ab hj h.2
 refine ⟨hend f d j (Nat.le_refl _) ha h,?_⟩
 have hol:=GV pr
 refine Spec.ofNI Tryz.func236 rfl Tryz.ntmps236 rfl ?_
 refine go 17 ?_
 refine aj (bF (hb)) (go 3 ?_)
 refine aF fun K4 hK4=> ?_
 refine aH ?_
 refine aS (α:=Nat×Nd×Nat) (fun z=> z.1≤f∧z.2.2 < T.length∧nR T z.1 lv pr z.2.1 z.2.2=some r) 53 [(0,_),(1,_),(2,_),(6,_),(7,_),(8,_)] [((6,0),_)] (fun z=> []) (fun z=> [((0,9), .box 222 [.sl T.length (tJ T), .v (.int .i64 (z.2.2:Int)), .v (.int .i64 0), .v (.int .i64 0), .sl N.length (eM N)]),((8,0), .box 71 [.v (.int .i64 (z.2.1.k:Int)), .v (.int .i64 (z.2.1.n:Int)), .v (bt z.2.1.s), .sl z.2.1.kn z.2.1.kids])]) [(0,9)] [(0,9)] (fun z=> z.1) (f,d,j) ?_ (kj [0,1,1] [] []) ?_
 ·exact ⟨Nat.le_refl _,ha,h⟩
 intro z hz
 obtain ⟨z1,z2,z3⟩:=z
 obtain ⟨hz1,hz2,hz3⟩:=hz
 obtain ⟨g,rfl,hm⟩:=qB hz3
 simp only at hz1 hz2 hm ⊢
 refine aF fun K5 hK5=> ?_
 refine aE (dA 14 [] ?_)
 refine go 16 ?_
 refine ew (_,[]) rfl (fun τ=> rfl) (fun τ=> aQ _ _ aa rfl rfl _ rfl ab ah (by exact Nat.mul_one _)) ?_
 refine go 1 ?_
 refine ew (_,[]) rfl (fun τ=> rfl) (fun τ=> bl _ aa rfl (by exact Fs pr hp) rfl) ?_
 refine go 3 ?_
 refine ew (_,[]) rfl (fun τ=> rfl) (fun τ=> (aY aa _ _ ar (bw T z3 N hz2) tr rfl ae (by simp))) ?_
 refine go 1 ?_
 refine ew (_,[]) rfl (fun τ=> rfl) (fun τ=> (ap aa al (bX (opsP.getD pr []) _ rfl ab (cN T z3).t) rfl rfl)) ?_
 refine go 5 ?_
 refine ax rfl (fun hc35=> ?_) (fun hc35=> ?_)
 ·obtain ⟨_,e,je,he,hm⟩:=hm.resolve_left fun x=> x.1 hc35
  obtain ⟨hea,heb⟩:=(ih g ab).expr _ _ _ _ hl ab (dJ hz2) he
  refine aR (hK5 _ ?_)
  refine aH (aG (dW rfl (aj (aY aa _ _ ar (bw T z3 N hz2) tr rfl ae (by simp)) ?_)))
  refine HX rfl (am (aE ?_))
  refine aB (σ':=an 53 [(0,_),(1,_),(2,_),(6,_),(7,_),(8,_),(9,_)] [((6,0),_),((0,9),_),((8,0),_)] [(0,9)] [(0,9)]) kp ?_
  refine aD (dW rfl (aj (bF (bW T z3 N hz2 hT)) ?_))
  refine am (aF fun K9 hK9=> ?_)
  refine go 5 ?_
  refine aj (bF (heb)) (go 2 ?_)
  refine ay (hK9 _ ?_)
  refine go 8 ?_
  refine aE ?_
  refine aB (σ':=an 53 [(0,_),(1,_),(2,_),(6,_),(7,_),(8,_)] [((6,0),_),((0,9),_),((8,0),_)] [(0,9)] [(0,9)]) kp ?_
  refine aD (bV rfl (aj (bb _ _ rfl rfl rfl) (am (ax rfl (fun hc51=> ?_) (fun hc51=> ?_)))))
  ·have hr:=(hm.resolve_right fun x=> x.1 ab).2
   subst hr
   refine aW (id (hK4 _ ?_))
   refine go 4 ?_
   exact au (jr [])
  have hm:=(hm.resolve_left fun x=> hc51 ab).2
  refine aR (⟨(g,nd 18 0 (cN T z3).t [z2,e],je),?_,?_,?_⟩)
  ·exact ⟨by simp only;omega,hea,hm⟩
  ·exact kj [0,1,1] [] []
  simp only;omega
 have hr:=(hm.resolve_right fun x=> hc35 x.1).2
 subst hr
 refine aW (id (hK4 _ ?_))
 refine go 4 ?_
 exact au (jr [])
theorem It (hT:T.length≤100000): ∀ f g,g≤f→PE T N g:=by
 intro f
 induction f with
 | zero=>
  intro g hg
  obtain rfl:g=0:=by omega
  exact ⟨fun _ _ _ _ _ _ _ h=> by simp [gj] at h,fun _ _ _ _ _ _ _ _ h=> by simp [Jq] at h,fun _ _ _ _ _ _ _ h=> by simp [za] at h,fun _ _ _ _ _ h=> by simp [rN] at h,fun _ _ _ _ _ h=> by simp [tV] at h⟩
 | succ f ih=>
  intro g hg
  rcases Nat.lt_or_ge g (f+1) with h | h
  ·exact ih g ab
  obtain rfl:g=f+1:=by omega
  exact ⟨zl f (ih f (Nat.le_refl _)),EM hT f (ih f (Nat.le_refl _)),Cf hT f ih,yu hT f (ih f (Nat.le_refl _)),zP hT f (ih f (Nat.le_refl _))⟩
theorem yS (hT:T.length≤100000) {f lv i:Nat} {r:Nd×Nat} (hl:lv≤20) (hi:i < T.length) (h:gj T f lv 1 i=some r):r.2 < T.length∧Spec Tryz.prog 226 (aL [.ptr (0,9) 0, .v (.int .i64 (lv:Int)), .v (.int .i64 1)] (dD T i N)) (PO T N r):=
 (It hT f f (Nat.le_refl _)).expr lv 1 i r hl ab hi h
end
end Go.Proofs.YtmjnackchaahbaaGreat

set_option maxHeartbeats 2000000
namespace Go.Proofs.YtmjnackchaahbaaGreat
open Go.RowKit

structure PS (T:List Tk) (N:List Tx) (f:Nat):Prop where
 stm: ∀ lv i r,lv≤20→i < T.length→Ai T f lv i=some r→r.2 < T.length∧Spec Tryz.prog 202 (aL [.ptr (0,9) 0, .v (.int .i64 (lv:Int))] (dD T i N)) (PO T N r)
 blk: ∀ lv i r,lv≤21→i < T.length→ra T f lv i=some r→r.2 < T.length∧Spec Tryz.prog 164 (aL [.ptr (0,9) 0, .v (.int .i64 (lv:Int))] (dD T i N)) (PO T N r)
def Ey:List Tx:=[wP,ka,pM,gU,lG,qS,nN,qd,qA]
theorem fB {T:List Tk} {i:Nat} (h:wo (cN T i).t=true):ee T i=false:=by unfold ee;rw [h];simp
section
variable {T:List Tk} {N:List Tx}
theorem zh (hT:T.length≤100000) (lv i:Nat) (hl:lv≤20) (hi:i < T.length) (hn:ee T i=true) {d:Nd} {j1 j2 j3:Nat} (h1:Spec Tryz.prog 162 (aL [.ptr (0,9) 0, .v (bt [61])] (dD T (br T i) N)) (aO (.tup []) (dD T j1 N) [(0,9)] [(0,9)])) (h2:Spec Tryz.prog 226 (aL [.ptr (0,9) 0, .v (.int .i64 (lv:Int)), .v (.int .i64 1)] (dD T j1 N)) (PO T N (d,j2))) (h3:Spec Tryz.prog 162 (aL [.ptr (0,9) 0, .v (bt [59])] (dD T j2 N)) (aO (.tup []) (dD T j3 N) [(0,9)] [(0,9)])):
  Spec Tryz.prog 202 (aL [.ptr (0,9) 0, .v (.int .i64 (lv:Int))] (dD T i N)) (PO T N (nd 1 0 (cN T i).t [d],j3)):=by
 refine Spec.ofNI Tryz.func202 rfl Tryz.ntmps202 rfl ?_
 refine go 5 ?_
 refine aj (aY aa _ _ ar (bw T i N hi) tr rfl ae (by simp)) ?_
 refine go 10 ?_
 refine aj (aY aa _ _ ar (dy T i N hi) tr rfl ae (by simp)) ?_
 refine am (fX rfl hn (aG (dW rfl (aj (bF (bW T i N hi hT)) ?_))))
 refine am (aF fun K7 hK7=> ?_)
 refine aD (dW rfl (aj (bF (h1)) (ay (hK7 _ ?_))))
 refine aF fun K8 hK8=> ?_
 refine aD (tP rfl (dW rfl (bV rfl (aj (bF (h2)) (go 3 ?_)))))
 refine ay (hK8 _ ?_)
 refine aF fun K9 hK9=> ?_
 refine aB (σ':=an 145 [(0,_),(4,_),(6,_)] [((0,9),_),((4,0),_),((6,0),_)] [(0,9)] [(0,9)]) kp ?_
 refine aD (dW rfl (aj (bF (h3)) (ay (hK9 _ ?_))))
 refine go 4 ?_
 exact au (jr [])
theorem Cr (hT:T.length≤100000) (lv i:Nat) (hl:lv≤20) (hi:i < T.length) (ht:(cN T i).t=ka) {c x:Nd} {j1 j2:Nat} (h1:Spec Tryz.prog 226 (aL [.ptr (0,9) 0, .v (.int .i64 (lv:Int)), .v (.int .i64 1)] (dD T (br T i) N)) (PO T N (c,j1))) (h2:Spec Tryz.prog 164 (aL [.ptr (0,9) 0, .v (.int .i64 ((lv+1:Nat):Int))] (dD T j1 N)) (PO T N (x,j2))):
  Spec Tryz.prog 202 (aL [.ptr (0,9) 0, .v (.int .i64 (lv:Int))] (dD T i N)) (PO T N (nd 3 0 [] [c,x],j2)):=by
 have hnx:=bw T i N hi
 have hn:ee T i=false:=fB (by rw [ht];rfl)
 rw [ht] at hnx
 refine Spec.ofNI Tryz.func202 rfl Tryz.ntmps202 rfl ?_
 refine go 5 ?_
 refine aj (aY aa _ _ ar (hnx) tr rfl ae (by simp)) ?_
 refine go 10 ?_
 refine aj (aY aa _ _ ar (dy T i N hi) tr rfl ae (by simp)) ?_
 refine am (cP rfl hn (go 5 ?_))
 refine aj (ap aa al (bX Ey 9 rfl ab ka) rfl rfl) ?_
 refine go 6 ?_
 refine aj (bF (bW T i N hi hT)) ?_
 refine am (aE (aE ?_))
 refine aB (σ':=an 145 [(0,_),(1,_),(4,_),(5,_),(6,_)] [((0,9),_),((4,0),_),((6,0),_)] [(0,9)] [(0,9)]) kp ?_
 refine go 15 ?_
 refine aF fun K13 hK13=> ?_
 refine aD (dW rfl (bV rfl (aj (bF (h1)) (go 2 ?_))))
 refine ay (hK13 _ ?_)
 refine aF fun K14 hK14=> ?_
 refine aB (σ':=an 145 [(0,_),(1,_),(4,_),(5,_),(7,_)] [((0,9),_),((4,0),_),((7,0),_)] [(0,9)] [(0,9)]) kp ?_
 refine dA 5 [(0,9)] ?_
 refine go 8 ?_
 refine aC (_,[((0,9),_)]) (fun τ=> (jF aa ar (h2) ob rfl rfl ae)) ?_
 refine go 4 ?_
 refine ay (hK14 _ ?_)
 refine go 11 ?_
 exact au (jr [])
theorem JR (hT:T.length≤100000) (lv i:Nat) (hl:lv≤20) (hi:i < T.length) (ht:(cN T i).t=wP) {c x:Nd} {j1 j2:Nat} (h1:Spec Tryz.prog 226 (aL [.ptr (0,9) 0, .v (.int .i64 (lv:Int)), .v (.int .i64 1)] (dD T (br T i) N)) (PO T N (c,j1))) (h2:Spec Tryz.prog 164 (aL [.ptr (0,9) 0, .v (.int .i64 ((lv+1:Nat):Int))] (dD T j1 N)) (PO T N (x,j2))) (hj:j2 < T.length) (he:(cN T j2).t≠sD):
  Spec Tryz.prog 202 (aL [.ptr (0,9) 0, .v (.int .i64 (lv:Int))] (dD T i N)) (PO T N (nd 2 0 [] [c,x,nd 11 0 [] []],j2)):=by
 have hnx:=bw T i N hi
 have hn:ee T i=false:=fB (by rw [ht];rfl)
 rw [ht] at hnx
 refine Spec.ofNI Tryz.func202 rfl Tryz.ntmps202 rfl ?_
 refine go 5 ?_
 refine aj (aY aa _ _ ar (hnx) tr rfl ae (by simp)) ?_
 refine go 10 ?_
 refine aj (aY aa _ _ ar (dy T i N hi) tr rfl ae (by simp)) ?_
 refine am (cP rfl hn (go 5 ?_))
 refine aj (ap aa al (bX Ey 9 rfl ab wP) rfl rfl) ?_
 refine go 6 ?_
 refine aj (bF (bW T i N hi hT)) ?_
 refine am (aE (aE ?_))
 refine aB (σ':=an 145 [(0,_),(1,_),(4,_),(5,_),(6,_)] [((0,9),_),((4,0),_),((6,0),_)] [(0,9)] [(0,9)]) kp ?_
 refine go 12 ?_
 refine aF fun K13 hK13=> ?_
 refine aD (dW rfl (bV rfl (aj (bF (h1)) (go 2 ?_))))
 refine ay (hK13 _ ?_)
 refine aF fun K14 hK14=> ?_
 refine aB (σ':=an 145 [(0,_),(1,_),(4,_),(5,_),(7,_)] [((0,9),_),((4,0),_),((7,0),_)] [(0,9)] [(0,9)]) kp ?_
 refine dA 5 [(0,9)] ?_
 refine go 8 ?_
 refine aC (_,[((0,9),_)]) (fun τ=> (jF aa ar (h2) ob rfl rfl ae)) ?_
 refine go 1 ?_
 refine ci ⟨rfl,?_⟩
 refine aj (gp (58,0) _ _ aa rfl ag (by (simp <;> rfl)) ah rfl rfl) ?_
 refine dZ rfl (ay (hK14 _ ?_))
 refine go 21 ?_
 refine aZ rfl rfl (aY aa _ _ ar (bw T j2 N hj) tr rfl ae (by simp)) ?_
 refine aZ rfl rfl (cW (r:=false) _ _ Tryz.underlying9 rfl rfl (beq_eq_false_iff_ne.2 he)) ?_
 refine go 4 ?_
 refine aE ?_
 refine aB (σ':=an 145 [(4,_),(8,_),(9,_)] [((4,0),_),((58,0),_),((9,0),_),((0,9),_)] [(0,9)] [(0,9)]) kp ?_
 refine aD (ij rfl (bA (Le.nil0 (9,0) 3 rfl rfl) ?_))
 refine go 2 ?_
 refine aj (bG (83,0) _ _ aa rfl rfl ag (by (refine .sl ?_;(simp [ba];done))) ab rfl (rfl) (rfl)) ?_
 refine go 3 ?_
 exact au (cq (.inr rfl) rfl (.cellA aa rfl rfl rfl) (Le.outI [] [(83,0)] (.agg rfl (ai .v (ai .v (ai .v (ai (dI rfl rfl rfl rfl) aK))))) rfl rfl rfl tr ob tr rfl))
theorem zy (hT:T.length≤100000) (lv i:Nat) (hl:lv≤20) (hi:i < T.length) (ht:(cN T i).t=wP) {c x y:Nd} {j1 j2 j3:Nat} (h1:Spec Tryz.prog 226 (aL [.ptr (0,9) 0, .v (.int .i64 (lv:Int)), .v (.int .i64 1)] (dD T (br T i) N)) (PO T N (c,j1))) (h2:Spec Tryz.prog 164 (aL [.ptr (0,9) 0, .v (.int .i64 ((lv+1:Nat):Int))] (dD T j1 N)) (PO T N (x,j2))) (hj:j2 < T.length) (he:(cN T j2).t=sD) (h3:Spec Tryz.prog 164 (aL [.ptr (0,9) 0, .v (.int .i64 ((lv+1:Nat):Int))] (dD T (br T j2) N)) (PO T N (y,j3))):
  Spec Tryz.prog 202 (aL [.ptr (0,9) 0, .v (.int .i64 (lv:Int))] (dD T i N)) (PO T N (nd 2 0 [] [c,x,y],j3)):=by
 have hnx:=bw T i N hi
 have hn:ee T i=false:=fB (by rw [ht];rfl)
 rw [ht] at hnx
 refine Spec.ofNI Tryz.func202 rfl Tryz.ntmps202 rfl ?_
 refine go 5 ?_
 refine aj (aY aa _ _ ar (hnx) tr rfl ae (by simp)) ?_
 refine go 10 ?_
 refine aj (aY aa _ _ ar (dy T i N hi) tr rfl ae (by simp)) ?_
 refine am (cP rfl hn (go 5 ?_))
 refine aj (ap aa al (bX Ey 9 rfl ab wP) rfl rfl) ?_
 refine go 6 ?_
 refine aj (bF (bW T i N hi hT)) ?_
 refine am (aE (aE ?_))
 refine aB (σ':=an 145 [(0,_),(1,_),(4,_),(5,_),(6,_)] [((0,9),_),((4,0),_),((6,0),_)] [(0,9)] [(0,9)]) kp ?_
 refine go 12 ?_
 refine aF fun K13 hK13=> ?_
 refine aD (dW rfl (bV rfl (aj (bF (h1)) (go 2 ?_))))
 refine ay (hK13 _ ?_)
 refine aF fun K14 hK14=> ?_
 refine aB (σ':=an 145 [(0,_),(1,_),(4,_),(5,_),(7,_)] [((0,9),_),((4,0),_),((7,0),_)] [(0,9)] [(0,9)]) kp ?_
 refine dA 5 [(0,9)] ?_
 refine go 8 ?_
 refine aC (_,[((0,9),_)]) (fun τ=> (jF aa ar (h2) ob rfl rfl ae)) ?_
 refine go 1 ?_
 refine ci ⟨rfl,?_⟩
 refine aj (gp (58,0) _ _ aa rfl ag (by (simp <;> rfl)) ah rfl rfl) ?_
 refine dZ rfl (ay (hK14 _ ?_))
 refine go 12 ?_
 refine aF fun K18 hK18=> ?_
 refine go 8 ?_
 refine aZ rfl rfl (aY aa _ _ ar (bw T j2 N hj) tr rfl ae (by simp)) ?_
 refine aZ rfl rfl (cW (r:=true) _ _ Tryz.underlying9 rfl rfl (beq_iff_eq.2 he)) ?_
 refine go 3 ?_
 refine aF fun K20 hK20=> ?_
 refine aB (σ':=an 145 [(0,_),(1,_),(4,_),(8,_),(9,_)] [((0,9),_),((4,0),_),((58,0),_),((9,0),_)] [(0,9)] [(0,9)]) kp ?_
 refine aD (dW rfl (aj (bF (bW T j2 N hj hT)) ?_))
 refine ay (hK20 _ ?_)
 refine go 4 ?_
 refine aj (bF (h3)) (JB rfl rfl rfl rfl rfl rfl (ay (hK18 _ ?_)))
 refine go 4 ?_
 refine aj (bG (83,0) _ _ aa rfl rfl ag (by (refine .sl ?_;(simp [ba];done))) ab rfl (rfl) (rfl)) ?_
 refine go 3 ?_
 exact au (cq (.inr rfl) rfl (.cellA aa rfl rfl rfl) (Le.outI [] [(83,0)] (.agg rfl (ai .v (ai .v (ai .v (ai (dI rfl rfl rfl rfl) aK))))) rfl rfl rfl tr ob tr rfl))
theorem Fw (hT:T.length≤100000) (lv i:Nat) (hl:lv≤20) (hi:i < T.length) (ht:(cN T i).t=pM) {x y z:Nd} {k j1 j2 j3 j4 j5 j6 j7 j8:Nat} (h1:Spec Tryz.prog 226 (aL [.ptr (0,9) 0, .v (.int .i64 (lv:Int)), .v (.int .i64 1)] (dD T (br T i) N)) (PO T N (x,j1))) (h2:Spec Tryz.prog 162 (aL [.ptr (0,9) 0, .v (bt [44])] (dD T j1 N)) (aO (.tup []) (dD T j2 N) [(0,9)] [(0,9)])) (h3:Spec Tryz.prog 200 (aL [.ptr (0,9) 0, .v (.int .i64 29)] (dD T j2 N)) (aO (.v (.int .i64 (k:Int))) (dD T j3 N) [(0,9)] [(0,9)])) (h4:Spec Tryz.prog 162 (aL [.ptr (0,9) 0, .v (bt [44])] (dD T j3 N)) (aO (.tup []) (dD T j4 N) [(0,9)] [(0,9)])) (h5:Spec Tryz.prog 226 (aL [.ptr (0,9) 0, .v (.int .i64 (lv:Int)), .v (.int .i64 1)] (dD T j4 N)) (PO T N (y,j5))) (h6:Spec Tryz.prog 162 (aL [.ptr (0,9) 0, .v (bt [44])] (dD T j5 N)) (aO (.tup []) (dD T j6 N) [(0,9)] [(0,9)])) (h7:Spec Tryz.prog 226 (aL [.ptr (0,9) 0, .v (.int .i64 (lv:Int)), .v (.int .i64 1)] (dD T j6 N)) (PO T N (z,j7))) (h8:Spec Tryz.prog 162 (aL [.ptr (0,9) 0, .v (bt [59])] (dD T j7 N)) (aO (.tup []) (dD T j8 N) [(0,9)] [(0,9)])):
  Spec Tryz.prog 202 (aL [.ptr (0,9) 0, .v (.int .i64 (lv:Int))] (dD T i N)) (PO T N (nd 4 k [] [x,y,z],j8)):=by
 have hnx:=bw T i N hi
 have hn:ee T i=false:=fB (by rw [ht];rfl)
 rw [ht] at hnx
 refine Spec.ofNI Tryz.func202 rfl Tryz.ntmps202 rfl ?_
 refine go 5 ?_
 refine aj (aY aa _ _ ar (hnx) tr rfl ae (by simp)) ?_
 refine go 10 ?_
 refine aj (aY aa _ _ ar (dy T i N hi) tr rfl ae (by simp)) ?_
 refine am (cP rfl hn (go 5 ?_))
 refine aj (ap aa al (bX Ey 9 rfl ab pM) rfl rfl) ?_
 refine go 6 ?_
 refine aj (bF (bW T i N hi hT)) ?_
 refine am (aF fun K9 hK9=> ?_)
 refine aE ?_
 refine aB (σ':=an 145 [(0,_),(1,_),(4,_),(5,_),(6,_)] [((0,9),_),((4,0),_),((6,0),_)] [(0,9)] [(0,9)]) kp ?_
 refine go 20 ?_
 refine aF fun K14 hK14=> ?_
 refine aD (dW rfl (bV rfl (aj (bF (h1)) (go 2 ?_))))
 refine ay (hK14 _ ?_)
 refine aF fun K15 hK15=> ?_
 refine aD (dW rfl (aj (bF (h2)) (ay (hK15 _ ?_))))
 refine aF fun K16 hK16=> ?_
 refine aD (dW rfl (aj (bF (h3)) (cp rfl (ay (hK16 _ ?_)))))
 refine aF fun K17 hK17=> ?_
 refine aB (σ':=an 145 [(0,_),(1,_),(4,_),(6,_),(10,_),(11,_)] [((0,9),_),((4,0),_),((6,0),_),((10,0),_)] [(0,9)] [(0,9)]) kp ?_
 refine aD (dW rfl (aj (bF (h4)) (ay (hK17 _ ?_))))
 refine aF fun K18 hK18=> ?_
 refine aD (dW rfl (bV rfl (aj (bF (h5)) (go 2 ?_))))
 refine ay (hK18 _ ?_)
 refine aF fun K19 hK19=> ?_
 refine aD (dW rfl (aj (bF (h6)) (ay (hK19 _ ?_))))
 refine aB (σ':=an 145 [(0,_),(1,_),(4,_),(6,_),(10,_),(11,_),(12,_)] [((0,9),_),((4,0),_),((6,0),_),((10,0),_),((12,0),_)] [(0,9)] [(0,9)]) kp ?_
 refine dA 7 [(0,9)] ?_
 refine go 10 ?_
 refine aC (_,[((0,9),_)]) (fun τ=> (jF aa ar (h7) ob rfl rfl ae)) ?_
 refine go 1 ?_
 refine aC (_,[]) (fun τ=> gK _ _ aa rfl ag (by (simp;exact ⟨rfl,rfl⟩)) ah rfl) ?_
 refine go 4 ?_
 refine ay (hK9 _ ?_)
 refine aF fun K20 hK20=> ?_
 refine aD (dW rfl (aj (bF (h8)) (ay (hK20 _ ?_))))
 refine go 4 ?_
 exact au (jr [])
theorem Dz (hT:T.length≤100000) (lv i:Nat) (hl:lv≤20) (hi:i < T.length) (ht:(cN T i).t=gU) {k j1 j2:Nat} (h1:Spec Tryz.prog 200 (aL [.ptr (0,9) 0, .v (.int .i64 7)] (dD T (br T i) N)) (aO (.v (.int .i64 (k:Int))) (dD T j1 N) [(0,9)] [(0,9)])) (h2:Spec Tryz.prog 162 (aL [.ptr (0,9) 0, .v (bt [59])] (dD T j1 N)) (aO (.tup []) (dD T j2 N) [(0,9)] [(0,9)])):
  Spec Tryz.prog 202 (aL [.ptr (0,9) 0, .v (.int .i64 (lv:Int))] (dD T i N)) (PO T N (nd 5 k [] [],j2)):=by
 have hnx:=bw T i N hi
 have hn:ee T i=false:=fB (by rw [ht];rfl)
 rw [ht] at hnx
 refine Spec.ofNI Tryz.func202 rfl Tryz.ntmps202 rfl ?_
 refine go 5 ?_
 refine aj (aY aa _ _ ar (hnx) tr rfl ae (by simp)) ?_
 refine go 10 ?_
 refine aj (aY aa _ _ ar (dy T i N hi) tr rfl ae (by simp)) ?_
 refine am (cP rfl hn (go 5 ?_))
 refine aj (ap aa al (bX Ey 9 rfl ab gU) rfl rfl) ?_
 refine go 6 ?_
 refine aj (bF (bW T i N hi hT)) ?_
 refine am (aF fun K9 hK9=> ?_)
 refine aE ?_
 refine aB (σ':=an 145 [(0,_),(1,_),(4,_),(5,_),(6,_)] [((0,9),_),((4,0),_),((6,0),_)] [(0,9)] [(0,9)]) kp ?_
 refine go 27 ?_
 refine aj (bF (h1)) (go 2 ?_)
 refine ay (hK9 _ ?_)
 refine aF fun K15 hK15=> ?_
 refine aD (dW rfl (aj (bF (h2)) (ay (hK15 _ ?_))))
 refine aE ?_
 refine aB (σ':=an 145 [(4,_),(6,_)] [((4,0),_),((6,0),_),((0,9),_)] [(0,9)] [(0,9)]) kp ?_
 refine go 4 ?_
 exact au (jr [])
theorem zj (hT:T.length≤100000) (lv i:Nat) (hl:lv≤20) (hi:i < T.length) (ht:(cN T i).t=lG) {k j1 j2:Nat} (h1:Spec Tryz.prog 200 (aL [.ptr (0,9) 0, .v (.int .i64 7)] (dD T (br T i) N)) (aO (.v (.int .i64 (k:Int))) (dD T j1 N) [(0,9)] [(0,9)])) (h2:Spec Tryz.prog 162 (aL [.ptr (0,9) 0, .v (bt [59])] (dD T j1 N)) (aO (.tup []) (dD T j2 N) [(0,9)] [(0,9)])):
  Spec Tryz.prog 202 (aL [.ptr (0,9) 0, .v (.int .i64 (lv:Int))] (dD T i N)) (PO T N (nd 6 k [] [],j2)):=by
 have hnx:=bw T i N hi
 have hn:ee T i=false:=fB (by rw [ht];rfl)
 rw [ht] at hnx
 refine Spec.ofNI Tryz.func202 rfl Tryz.ntmps202 rfl ?_
 refine go 5 ?_
 refine aj (aY aa _ _ ar (hnx) tr rfl ae (by simp)) ?_
 refine go 10 ?_
 refine aj (aY aa _ _ ar (dy T i N hi) tr rfl ae (by simp)) ?_
 refine am (cP rfl hn (go 5 ?_))
 refine aj (ap aa al (bX Ey 9 rfl ab lG) rfl rfl) ?_
 refine go 6 ?_
 refine aj (bF (bW T i N hi hT)) ?_
 refine am (aF fun K9 hK9=> ?_)
 refine aE ?_
 refine aB (σ':=an 145 [(0,_),(1,_),(4,_),(5,_),(6,_)] [((0,9),_),((4,0),_),((6,0),_)] [(0,9)] [(0,9)]) kp ?_
 refine go 32 ?_
 refine aj (bF (h1)) (go 2 ?_)
 refine ay (hK9 _ ?_)
 refine aF fun K16 hK16=> ?_
 refine aB (σ':=an 145 [(0,_),(4,_),(6,_)] [((0,9),_),((4,0),_),((6,0),_)] [(0,9)] [(0,9)]) kp ?_
 refine aD (dW rfl (aj (bF (h2)) (ay (hK16 _ ?_))))
 refine go 4 ?_
 exact au (jr [])
theorem BU (hT:T.length≤100000) (lv i:Nat) (hl:lv≤20) (hi:i < T.length) (ht:(cN T i).t=nN) {x y:Nd} {j1 j2 j3 j4:Nat} (h1:Spec Tryz.prog 226 (aL [.ptr (0,9) 0, .v (.int .i64 (lv:Int)), .v (.int .i64 1)] (dD T (br T i) N)) (PO T N (x,j1))) (h2:Spec Tryz.prog 162 (aL [.ptr (0,9) 0, .v (bt [44])] (dD T j1 N)) (aO (.tup []) (dD T j2 N) [(0,9)] [(0,9)])) (h3:Spec Tryz.prog 226 (aL [.ptr (0,9) 0, .v (.int .i64 (lv:Int)), .v (.int .i64 1)] (dD T j2 N)) (PO T N (y,j3))) (h4:Spec Tryz.prog 162 (aL [.ptr (0,9) 0, .v (bt [59])] (dD T j3 N)) (aO (.tup []) (dD T j4 N) [(0,9)] [(0,9)])):
  Spec Tryz.prog 202 (aL [.ptr (0,9) 0, .v (.int .i64 (lv:Int))] (dD T i N)) (PO T N (nd 8 0 [] [x,y],j4)):=by
 have hnx:=bw T i N hi
 have hn:ee T i=false:=fB (by rw [ht];rfl)
 rw [ht] at hnx
 refine Spec.ofNI Tryz.func202 rfl Tryz.ntmps202 rfl ?_
 refine go 5 ?_
 refine aj (aY aa _ _ ar (hnx) tr rfl ae (by simp)) ?_
 refine go 10 ?_
 refine aj (aY aa _ _ ar (dy T i N hi) tr rfl ae (by simp)) ?_
 refine am (cP rfl hn (go 5 ?_))
 refine aj (ap aa al (bX Ey 9 rfl ab nN) rfl rfl) ?_
 refine go 6 ?_
 refine aj (bF (bW T i N hi hT)) ?_
 refine am (aF fun K9 hK9=> ?_)
 refine aE ?_
 refine aB (σ':=an 145 [(0,_),(1,_),(4,_),(5,_),(6,_)] [((0,9),_),((4,0),_),((6,0),_)] [(0,9)] [(0,9)]) kp ?_
 refine go 35 ?_
 refine aF fun K17 hK17=> ?_
 refine aD (dW rfl (bV rfl (aj (bF (h1)) (go 2 ?_))))
 refine ay (hK17 _ ?_)
 refine aF fun K18 hK18=> ?_
 refine aB (σ':=an 145 [(0,_),(1,_),(4,_),(6,_),(13,_)] [((0,9),_),((4,0),_),((6,0),_),((13,0),_)] [(0,9)] [(0,9)]) kp ?_
 refine aD (dW rfl (aj (bF (h2)) (ay (hK18 _ ?_))))
 refine dA 4 [(0,9)] ?_
 refine go 6 ?_
 refine aC (_,[((0,9),_)]) (fun τ=> (jF aa ar (h3) ob rfl rfl ae)) ?_
 refine go 5 ?_
 refine ay (hK9 _ ?_)
 refine aF fun K19 hK19=> ?_
 refine aD (dW rfl (aj (bF (h4)) (ay (hK19 _ ?_))))
 refine go 4 ?_
 exact au (jr [])
theorem GA (hT:T.length≤100000) (lv i:Nat) (hl:lv≤20) (hi:i < T.length) (ht:(cN T i).t=qd) {x:Nd} {j1 j2:Nat} (h1:Spec Tryz.prog 226 (aL [.ptr (0,9) 0, .v (.int .i64 (lv:Int)), .v (.int .i64 1)] (dD T (br T i) N)) (PO T N (x,j1))) (h2:Spec Tryz.prog 162 (aL [.ptr (0,9) 0, .v (bt [59])] (dD T j1 N)) (aO (.tup []) (dD T j2 N) [(0,9)] [(0,9)])):
  Spec Tryz.prog 202 (aL [.ptr (0,9) 0, .v (.int .i64 (lv:Int))] (dD T i N)) (PO T N (nd 9 0 [] [x],j2)):=by
 have hnx:=bw T i N hi
 have hn:ee T i=false:=fB (by rw [ht];rfl)
 rw [ht] at hnx
 refine Spec.ofNI Tryz.func202 rfl Tryz.ntmps202 rfl ?_
 refine go 5 ?_
 refine aj (aY aa _ _ ar (hnx) tr rfl ae (by simp)) ?_
 refine go 10 ?_
 refine aj (aY aa _ _ ar (dy T i N hi) tr rfl ae (by simp)) ?_
 refine am (cP rfl hn (go 5 ?_))
 refine aj (ap aa al (bX Ey 9 rfl ab qd) rfl rfl) ?_
 refine go 6 ?_
 refine aj (bF (bW T i N hi hT)) ?_
 refine am (aF fun K9 hK9=> ?_)
 refine aE ?_
 refine aB (σ':=an 145 [(0,_),(1,_),(4,_),(5,_),(6,_)] [((0,9),_),((4,0),_),((6,0),_)] [(0,9)] [(0,9)]) kp ?_
 refine go 40 ?_
 refine aB (σ':=an 145 [(0,_),(1,_),(4,_),(6,_)] [((0,9),_),((4,0),_),((6,0),_)] [(0,9)] [(0,9)]) kp ?_
 refine aD (dW rfl (bV rfl (aj (bF (h1)) (go 3 ?_))))
 refine ay (hK9 _ ?_)
 refine aF fun K18 hK18=> ?_
 refine aD (dW rfl (aj (bF (h2)) (ay (hK18 _ ?_))))
 refine go 4 ?_
 exact au (jr [])
theorem GP (hT:T.length≤100000) (lv i:Nat) (hl:lv≤20) (hi:i < T.length) (ht:(cN T i).t=qS) {j1:Nat} (h1:Spec Tryz.prog 162 (aL [.ptr (0,9) 0, .v (bt [59])] (dD T (br T i) N)) (aO (.tup []) (dD T j1 N) [(0,9)] [(0,9)])):
  Spec Tryz.prog 202 (aL [.ptr (0,9) 0, .v (.int .i64 (lv:Int))] (dD T i N)) (PO T N (nd 7 0 [] [],j1)):=by
 have hnx:=bw T i N hi
 have hn:ee T i=false:=fB (by rw [ht];rfl)
 rw [ht] at hnx
 refine Spec.ofNI Tryz.func202 rfl Tryz.ntmps202 rfl ?_
 refine go 5 ?_
 refine aj (aY aa _ _ ar (hnx) tr rfl ae (by simp)) ?_
 refine go 10 ?_
 refine aj (aY aa _ _ ar (dy T i N hi) tr rfl ae (by simp)) ?_
 refine am (cP rfl hn (go 5 ?_))
 refine aj (ap aa al (bX Ey 9 rfl ab qS) rfl rfl) ?_
 refine go 6 ?_
 refine aj (bF (bW T i N hi hT)) ?_
 refine am (aE (aE ?_))
 refine aB (σ':=an 145 [(0,_),(1,_),(4,_),(5,_),(6,_)] [((0,9),_),((4,0),_),((6,0),_)] [(0,9)] [(0,9)]) kp ?_
 refine go 40 ?_
 refine aE ?_
 refine aB (σ':=an 145 [(0,_),(4,_),(6,_),(45,_)] [((0,9),_),((4,0),_),((6,0),_)] [(0,9)] [(0,9)]) kp ?_
 refine go 9 ?_
 refine aF fun K19 hK19=> ?_
 refine aD (dW rfl (aj (bF (h1)) (ay (hK19 _ ?_))))
 refine go 4 ?_
 exact au (jr [])
theorem Gz (hT:T.length≤100000) (lv i:Nat) (hl:lv≤20) (hi:i < T.length) (ht:(cN T i).t=qA) {j1:Nat} (h1:Spec Tryz.prog 162 (aL [.ptr (0,9) 0, .v (bt [59])] (dD T (br T i) N)) (aO (.tup []) (dD T j1 N) [(0,9)] [(0,9)])):
  Spec Tryz.prog 202 (aL [.ptr (0,9) 0, .v (.int .i64 (lv:Int))] (dD T i N)) (PO T N (nd 10 0 [] [],j1)):=by
 have hnx:=bw T i N hi
 have hn:ee T i=false:=fB (by rw [ht];rfl)
 rw [ht] at hnx
 refine Spec.ofNI Tryz.func202 rfl Tryz.ntmps202 rfl ?_
 refine go 5 ?_
 refine aj (aY aa _ _ ar (hnx) tr rfl ae (by simp)) ?_
 refine go 10 ?_
 refine aj (aY aa _ _ ar (dy T i N hi) tr rfl ae (by simp)) ?_
 refine am (cP rfl hn (go 5 ?_))
 refine aj (ap aa al (bX Ey 9 rfl ab qA) rfl rfl) ?_
 refine go 6 ?_
 refine aj (bF (bW T i N hi hT)) ?_
 refine am (aE (aE ?_))
 refine aB (σ':=an 145 [(0,_),(1,_),(4,_),(5,_),(6,_)] [((0,9),_),((4,0),_),((6,0),_)] [(0,9)] [(0,9)]) kp ?_
 refine go 40 ?_
 refine aE ?_
 refine aB (σ':=an 145 [(0,_),(4,_),(6,_),(45,_)] [((0,9),_),((4,0),_),((6,0),_)] [(0,9)] [(0,9)]) kp ?_
 refine go 9 ?_
 refine aF fun K19 hK19=> ?_
 refine aD (dW rfl (aj (bF (h1)) (ay (hK19 _ ?_))))
 refine go 4 ?_
 exact au (jr [])
end
end Go.Proofs.YtmjnackchaahbaaGreat

set_option maxHeartbeats 2000000
namespace Go.Proofs.YtmjnackchaahbaaGreat
open Go.RowKit

def mw (l:List Nd):List PV:=l.flatMap Nd.row
theorem bk (l:List Nd):(mw l).length=l.length*4:=gB Nd.row 4 (fun _=> rfl) l
theorem Cp (l:List Nd) (d:Nd):mw l++d.row=mw (l++[d]):=jy Nd.row l d
theorem qM {T:List Tk} {g lv i:Nat} {r:List Nd×Nat} (h:nF T g lv i=some r): ∃ f,g=f+1∧((cN T i).t=[125]∧r=([],i)∨(cN T i).t≠[125]∧ ∃ d j l k,Ai T f lv i=some (d,j)∧nF T f lv j=some (l,k)∧r=(d::l,k)):=by
 cases g with
 | zero=> simp [nF] at h
 | succ f=>
  refine ⟨f,rfl,?_⟩
  unfold nF at h
  split at h
  ·rename_i ht;exact .inl ⟨ht,(Option.some.inj h).symm⟩
  rename_i ht
  simp only [Option.bind_eq_bind,Option.bind_eq_some_iff,Option.pure_def] at h
  obtain ⟨⟨d,j⟩,hd,⟨l,k⟩,hl,h⟩:=h
  exact .inr ⟨ht,d,j,l,k,hd,hl,(Option.some.inj h).symm⟩
section
variable {T:List Tk} {N:List Tx}
theorem Bq (hT:T.length≤100000) (f:Nat) (hf:f≤2000000) (ih: ∀ g,g≤f→PS T N g) (lv i:Nat) (r:Nd×Nat) (hl:lv≤21) (hi:i < T.length) (h:ra T (f+1) lv i=some r):
  r.2 < T.length∧Spec Tryz.prog 164 (aL [.ptr (0,9) 0, .v (.int .i64 (lv:Int))] (dD T i N)) (PO T N r):=by
 unfold ra at h
 simp only [Option.bind_eq_bind,Option.bind_eq_some_iff,Option.pure_def,Option.some.injEq] at h
 obtain ⟨j,hj,⟨L,j2⟩,hL,j3,hj3,rfl⟩:=h
 have ho:=kq hj
 have hjl:=ju ho.2 hi
 have hl':=ho.1
 have hopen:=oN T i j N [123] lv hi hT hj
 simp only at hj3 ⊢
 have hend: ∀ (g i:Nat) (r:List Nd×Nat),g≤f→i < T.length→nF T g lv i=some r→r.2 < T.length:=by
  intro g
  induction g with
  | zero=> intro i r _ _ h;simp [nF] at h
  | succ g ihg=>
   intro i r hg hi h
   obtain ⟨g',hg',h | ⟨_,d,j,l,k,hd,hm,h⟩⟩:=qM h
   ·rw [h.2];exact hi
   obtain rfl:g=g':=by omega
   rw [h]
   exact ihg j (l,k) ab ((ih g ab).stm _ _ _ hl' hi hd).1 hm
 have hj2:=hend f j _ (Nat.le_refl _) hjl hL
 refine ⟨ju hj3 hj2,?_⟩
 refine Spec.ofNI Tryz.func164 rfl Tryz.ntmps164 rfl ?_
 refine go 8 ?_
 refine aE ?_
 refine aB (Le.nilB (5,0) 3 (60,0) 71 4 rfl rfl rfl) ?_
 refine aD (dW rfl (bV rfl (aj (bF (hopen)) (am (aF fun K4 hK4=> ?_)))))
 refine aH ?_
 refine aS (α:=Nat×List Nd×Nat) (fun z=> z.1≤f∧z.2.1.length+z.1=f∧z.2.2 < T.length∧ ∃ l,nF T z.1 lv z.2.2=some (l,j2)∧L=z.2.1++l) 31 [(0,_),(1,_),(4,_),(5,_)] [((4,0),_)] (fun z=> []) (fun z=> [((0,9), .box 222 [.sl T.length (tJ T), .v (.int .i64 (z.2.2:Int)), .v (.int .i64 0), .v (.int .i64 0), .sl N.length (eM N)]),((5,0), .box 71 [.v (.int .i64 11), .v (.int .i64 0), .v (bt []), .ref (60,0) 0 z.2.1.length]),((60,0), .row 71 4 (mw z.2.1))]) [(0,9)] [(0,9)] (fun z=> z.1) (f,[],j) ?_ (kj [0,1,1,2] [] []) ?_
 ·exact ⟨Nat.le_refl _,Nat.zero_add _,hjl,L,hL,rfl⟩
 intro z hz
 obtain ⟨z1,z2,z3⟩:=z
 obtain ⟨hz1,hz2,hz3,l,hz4,hz5⟩:=hz
 obtain ⟨g,rfl,hm⟩:=qM hz4
 simp only at hz1 hz2 hz3 hz5 hm ⊢
 refine aF fun K5 hK5=> ?_
 refine go 8 ?_
 refine aZ rfl rfl (aY aa _ _ ar (bw T z3 N hz3) tr rfl ae (by simp)) ?_
 refine aZ rfl rfl (sA _ _ Tryz.underlying9 rfl rfl rfl) (go 2 ?_)
 refine ax rfl (fun hc19=> ?_) (fun hc19=> ?_)
 ·obtain ⟨_,d,jd,l',k',hd,hm',hr⟩:=hm.resolve_left fun x=> hc19 x.1
  obtain ⟨rfl,rfl⟩:=Prod.mk.inj hr
  obtain ⟨hda,hdb⟩:=(ih g ab).stm _ _ _ hl' hz3 hd
  have hlen:(z2++[d]).length=z2.length+1:=by simp
  refine aR (hK5 _ ?_)
  refine aH ?_
  refine aB (σ':=an 31 [(0,_),(1,_),(4,_),(5,_)] [((4,0),_),((0,9),_),((5,0),_),((60,0),_)] [(0,9)] [(0,9)]) kp ?_
  refine dA 6 [(0,9)] ?_
  refine go 8 ?_
  refine aC (_,[((0,9),_)]) (fun τ=> (jF aa ar (hdb) ob rfl rfl ae)) ?_
  refine go 4 ?_
  refine aj (bG (26,0) _ _ aa rfl rfl (bk _).symm (.sl rfl) ab rfl (Cp _ d) hlen.symm) ?_
  refine go 2 ?_
  refine ay (⟨(g,z2++[d],jd),?_,?_,?_⟩)
  ·exact ⟨by simp only;omega,by simp only;omega,hda,l',hm',by rw [hz5];simp⟩
  ·refine Le.mkJ [((60,0),(26,0))] [] rfl ?_ ?_ trivial tr ?_
   ·exact ⟨(bv (id:=(0,9)) rfl),(by repeat' (exact Lv.v)),(bv (id:=(4,0)) rfl),(bv (id:=(5,0)) rfl),trivial⟩
   ·exact ⟨(cI rfl rfl rfl rfl (by repeat' (first | exact Lv.v | exact aK | refine ai ?_ ?_))),(cI rfl rfl rfl rfl lz),(cI rfl rfl rfl rfl (eW (eW (ai (by repeat' (exact Lv.v)) lz)))),(cD rfl rfl rfl ag),trivial⟩
   kernel_rfl
  simp only;omega
 obtain ⟨_,hr⟩:=hm.resolve_right fun x=> x.1 hc19
 obtain ⟨rfl,rfl⟩:=Prod.mk.inj hr
 rw [List.append_nil] at hz5
 subst hz5
 have hexp:=fl T j2 j3 N [125] hj2 hT hj3
 refine aW (id (hK4 _ ?_))
 refine aG (dW rfl (aj (bF (hexp)) (go 5 ?_)))
 exact au (cq (.inr rfl) rfl (.cellA aa rfl rfl rfl) (Le.outI [] [(60,0)] (.agg rfl (ai .v (ai .v (ai .v (ai (dI rfl rfl (bk _).symm rfl) aK))))) rfl rfl rfl tr ob tr rfl))
theorem te {T:List Tk} {most i:Nat} {r:Nat×Nat} (h:pq T most i=some r) (hi:i < T.length):r.2 < T.length:=by
 unfold pq at h
 split at h
 ·rw [← Option.some.inj h];exact dJ hi
 cases h
theorem Bf (hT:T.length≤100000) (f:Nat) (ih:PS T N f) (lv i:Nat) (r:Nd×Nat) (hl:lv≤20) (hi:i < T.length) (h:Ai T (f+1) lv i=some r):
  r.2 < T.length∧Spec Tryz.prog 202 (aL [.ptr (0,9) 0, .v (.int .i64 (lv:Int))] (dD T i N)) (PO T N r):=by
 have htl:=dJ hi
 have hx:=fun {i:Nat} {r:Nd×Nat} (hi:i < T.length) (h:gj T f lv 1 i=some r)=> yS (N:=N) hT hl hi h
 have hb:=fun {i:Nat} {r:Nd×Nat} (hi:i < T.length) (h:ra T f (lv+1) i=some r)=> ih.blk (lv+1) i r ab hi h
 have he:=fun {i j:Nat} {s:Tx} (hi:i < T.length) (h:gm T s i=some j)=> And.intro (ju h hi) (fl T i j N s hi hT h)
 have hn:=fun {i most:Nat} {r:Nat×Nat} (hm:most≤1000) (hi:i < T.length) (h:pq T most i=some r)=> And.intro (te h hi) (kX T i N most hi hT hm r h)
 unfold Ai at h
 simp only at h
 by_cases h0:ee T i=true
 ·rw [if_pos h0] at h
  simp only [Option.bind_eq_bind,Option.bind_eq_some_iff,Option.pure_def,Option.some.injEq] at h
  obtain ⟨j1,e1,⟨d,j2⟩,e2,j3,e3,rfl⟩:=h
  obtain ⟨a1,b1⟩:=he htl e1
  obtain ⟨a2,b2⟩:=hx a1 e2
  obtain ⟨a3,b3⟩:=he a2 e3
  exact ⟨a3,zh hT lv i hl hi h0 b1 b2 b3⟩
 rw [if_neg h0] at h
 by_cases h1:(cN T i).t=wP∨(cN T i).t=ka
 ·rw [if_pos h1] at h
  simp only [Option.bind_eq_bind,Option.bind_eq_some_iff,Option.pure_def] at h
  obtain ⟨⟨c,j1⟩,e1,⟨x,j2⟩,e2,h⟩:=h
  obtain ⟨a1,b1⟩:=hx htl e1
  obtain ⟨a2,b2⟩:=hb a1 e2
  simp only at h
  by_cases hw:(cN T i).t=ka
  ·rw [if_pos hw] at h
   obtain rfl:=Option.some.inj h
   exact ⟨a2,Cr hT lv i hl hi hw b1 b2⟩
  rw [if_neg hw] at h
  have hf:=h1.resolve_right hw
  by_cases hel:(cN T j2).t=sD
  ·rw [if_pos hel] at h
   simp only [Option.bind_eq_some_iff,Option.some.injEq] at h
   obtain ⟨⟨y,j3⟩,e3,rfl⟩:=h
   obtain ⟨a3,b3⟩:=hb (dJ a2) e3
   exact ⟨a3,zy hT lv i hl hi hf b1 b2 a2 hel b3⟩
  rw [if_neg hel] at h
  obtain rfl:=Option.some.inj h
  exact ⟨a2,JR hT lv i hl hi hf b1 b2 a2 hel⟩
 rw [if_neg h1] at h
 by_cases h2:(cN T i).t=pM
 ·rw [if_pos h2] at h
  simp only [Option.bind_eq_bind,Option.bind_eq_some_iff,Option.pure_def,Option.some.injEq] at h
  obtain ⟨⟨x,j1⟩,e1,j2,e2,⟨k,j3⟩,e3,j4,e4,⟨y,j5⟩,e5,j6,e6,⟨z,j7⟩,e7,j8,e8,rfl⟩:=h
  obtain ⟨a1,b1⟩:=hx htl e1
  obtain ⟨a2,b2⟩:=he a1 e2
  obtain ⟨a3,b3⟩:=hn ab a2 e3
  obtain ⟨a4,b4⟩:=he a3 e4
  obtain ⟨a5,b5⟩:=hx a4 e5
  obtain ⟨a6,b6⟩:=he a5 e6
  obtain ⟨a7,b7⟩:=hx a6 e7
  obtain ⟨a8,b8⟩:=he a7 e8
  exact ⟨a8,Fw hT lv i hl hi h2 b1 b2 b3 b4 b5 b6 b7 b8⟩
 rw [if_neg h2] at h
 by_cases h3:(cN T i).t=gU
 ·rw [if_pos h3] at h
  simp only [Option.bind_eq_bind,Option.bind_eq_some_iff,Option.pure_def,Option.some.injEq] at h
  obtain ⟨⟨k,j1⟩,e1,j2,e2,rfl⟩:=h
  obtain ⟨a1,b1⟩:=hn ab htl e1
  obtain ⟨a2,b2⟩:=he a1 e2
  exact ⟨a2,Dz hT lv i hl hi h3 b1 b2⟩
 rw [if_neg h3] at h
 by_cases h4:(cN T i).t=lG
 ·rw [if_pos h4] at h
  simp only [Option.bind_eq_bind,Option.bind_eq_some_iff,Option.pure_def,Option.some.injEq] at h
  obtain ⟨⟨k,j1⟩,e1,j2,e2,rfl⟩:=h
  obtain ⟨a1,b1⟩:=hn ab htl e1
  obtain ⟨a2,b2⟩:=he a1 e2
  exact ⟨a2,zj hT lv i hl hi h4 b1 b2⟩
 rw [if_neg h4] at h
 by_cases h5:(cN T i).t=nN
 ·rw [if_pos h5] at h
  simp only [Option.bind_eq_bind,Option.bind_eq_some_iff,Option.pure_def,Option.some.injEq] at h
  obtain ⟨⟨x,j1⟩,e1,j2,e2,⟨y,j3⟩,e3,j4,e4,rfl⟩:=h
  obtain ⟨a1,b1⟩:=hx htl e1
  obtain ⟨a2,b2⟩:=he a1 e2
  obtain ⟨a3,b3⟩:=hx a2 e3
  obtain ⟨a4,b4⟩:=he a3 e4
  exact ⟨a4,BU hT lv i hl hi h5 b1 b2 b3 b4⟩
 rw [if_neg h5] at h
 by_cases h6:(cN T i).t=qd
 ·rw [if_pos h6] at h
  simp only [Option.bind_eq_bind,Option.bind_eq_some_iff,Option.pure_def,Option.some.injEq] at h
  obtain ⟨⟨x,j1⟩,e1,j2,e2,rfl⟩:=h
  obtain ⟨a1,b1⟩:=hx htl e1
  obtain ⟨a2,b2⟩:=he a1 e2
  exact ⟨a2,GA hT lv i hl hi h6 b1 b2⟩
 rw [if_neg h6] at h
 by_cases h7:(cN T i).t=qS
 ·rw [if_pos h7] at h
  simp only [Option.bind_eq_bind,Option.bind_eq_some_iff,Option.pure_def,Option.some.injEq] at h
  obtain ⟨j1,e1,rfl⟩:=h
  obtain ⟨a1,b1⟩:=he htl e1
  exact ⟨a1,GP hT lv i hl hi h7 b1⟩
 rw [if_neg h7] at h
 by_cases h8:(cN T i).t=qA
 ·rw [if_pos h8] at h
  simp only [Option.bind_eq_bind,Option.bind_eq_some_iff,Option.pure_def,Option.some.injEq] at h
  obtain ⟨j1,e1,rfl⟩:=h
  obtain ⟨a1,b1⟩:=he htl e1
  exact ⟨a1,Gz hT lv i hl hi h8 b1⟩
 rw [if_neg h8] at h
 cases h
theorem HI (hT:T.length≤100000): ∀ f,f≤2000000→ ∀ g,g≤f→PS T N g:=by
 intro f
 induction f with
 | zero=>
  intro _ g hg
  obtain rfl:g=0:=by omega
  exact ⟨fun _ _ _ _ _ h=> by simp [Ai] at h,fun _ _ _ _ _ h=> by simp [ra] at h⟩
 | succ f ih=>
  intro hf g hg
  rcases Nat.lt_or_ge g (f+1) with h | h
  ·exact ih ab g ab
  obtain rfl:g=f+1:=by omega
  exact ⟨Bf hT f (ih ab f (Nat.le_refl _)),Bq hT f ab (ih ab)⟩
theorem wF (hT:T.length≤100000) {f i:Nat} {r:Nd×Nat} (hf:f≤2000000) (hi:i < T.length) (h:ra T f 1 i=some r):r.2 < T.length∧Spec Tryz.prog 164 (aL [.ptr (0,9) 0, .v (.int .i64 1)] (dD T i N)) (PO T N r):=
 (HI hT f hf f (Nat.le_refl _)).blk 1 i r ab hi h
end

class MthV (P:Program) (t:TypeId) (name:String) (f e:outParam TypeId):Prop where
 out: ∀ (ad:Addr) (w:World),(method (P.types.size+Made.depth) t (.pointer (some ad)) name).run P w=((loadVar e ad).run P w).andThen fun v w'=> .ok (f,v) w'
theorem ul {P:Program} {t:TypeId} {ad:Addr} {nm:String} {w:World}:(Builtin.ssaWrapNilChk_ #[t] t #[.pointer (some ad),strVal "",strVal nm]).run P w= .ok (.pointer (some ad)) w:=rfl
theorem Eh {P:Program} {n:Nat} {t e f:TypeId} {name:String} {i:TypeInfo} {m:Method} {ad:Addr} {w:World} (hi:P.info? t=some i) (hfind:i.methods.find? (·.name==name)=some m) (hpath:m.path= #[]) (hfunc:m.func=some (f,false))
  (hu:P.underlying t=some (.pointer e)):(method (n+1) t (.pointer (some ad)) name).run P w=((loadVar e ad).run P w).andThen fun v w'=> .ok (f,v) w':=by
 have h1:(typeInfo t).run P w= .ok i w:=by simp [typeInfo,Sem.run,hi]
 have h2:(underlying t).run P w= .ok (.pointer e) w:=by simp [underlying,Sem.run,hu]
 simp only [method,Sem.run_bind,h1,Result.andThen_ok,hfind,hpath,hfunc,follow,Sem.run_pure,receiverAt,h2,Place.get]
 simp only [Array.isEmpty_empty,if_true,Sem.run_bind,ul,Result.andThen_ok,asAddr,Sem.run_pure]
def Ho (P:Program) (t:TypeId) (name:String):Option (TypeId×TypeId):=
 match P.info? t with
 | some i=> match i.methods.find? (·.name==name) with
  | some m=> match m.path.isEmpty,m.func,P.underlying t with
   | true,some (f,false),some (.pointer e)=> some (f,e)
   | _,_,_=> none
  | none=> none
 | none=> none
theorem MthV.of {P:Program} {t e f:TypeId} {name:String} (h:Ho P t name=some (f,e)):MthV P t name f e:=by
 refine ⟨fun ad w=> ?_⟩
 obtain ⟨n,hn⟩: ∃ n,P.types.size+Made.depth=n+1:=⟨_,rfl⟩
 rw [hn]
 unfold Ho at h
 split at h
 ·rename_i i hi
  split at h
  ·rename_i m hm
   split at h
   ·rename_i f' e' hp hf hu
    cases h
    exact Eh hi hm (by simpa using hp) hf hu
   cases h
  cases h
 cases h
section
variable {P:Program} {σ:St} {o:Oper} {t:TypeId} {name:String} {f:FuncId} {x:Operand} {xs:Array Operand} {ats:Array TypeId}
end
section
variable {P:Program} {σ:St} {dd:Option Tmp} {op:Op} {ty:TypeId} {f:FuncId} {avs:List AV}
end
theorem Le.incT {σ:St} (id:az) (h:σ.ob id= .free):Le (σ.setInc id true) σ:=by
 intro K ι S a w R
 refine ⟨ι,S,R.keeps,R.S0,R.Slt,R.nt,R.df,R.fr,R.cl,R.clo,R.ob,R.dom,R.inj,fun i B g h1 h2=> ?_,R.pin,R.pf⟩
 obtain ⟨h3,h4,h5⟩:=R.sep i B g h1 h2
 refine ⟨h3,h4,fun h6=> h5 ?_⟩
 have h7:(bif gq i id then true else σ.inc i)=false:=h6
 cases hb:gq i id with
 | true=> rw [hb] at h7;cases h7
 | false=> rw [hb] at h7;exact h7
theorem kA {P:Program} {σ:St} {z:List Value} {T e:TypeId} {size bytes:Nat} {dd:Option Tmp} {ty:TypeId} (id':az) (s x:Operand) (E:Elem P T e size bytes z) {id:az} {n:Nat} {xs:List PV} (hs:σ.eval s= .ref id 0 n) (hid:σ.ob id= .obj (.row e size xs)) (hl:n*size=xs.length) {m:Nat} {news:List PV} (hx:SrcAV σ (σ.eval x) size m news) (hb:(n+m)*bytes≤140737488355328) (hid':σ.ob id'= .free)
  {b:Bool} (hi:σ.inc id=b) (hi':σ.inc id'=b) {ys:List PV} (hy:xs++news=ys) {k:Nat} (hk:n+m=k):Stp P dd (.call { callee:= .builtin .append,args:= #[s,x],argTypes:= #[T,T] }) ty σ (((σ.setOb id .gone).setOb id' (.obj (.row e size ys))).put dd (.ref id' 0 k)):=by
 have h:=bG (P:=P) (dd:=dd) (ty:=ty) id' s x E hs hid hl hx hb hid' hy hk
 rwa [hi,St.setInc_same (by exact hi')] at h
end Go.Proofs.YtmjnackchaahbaaGreat

set_option maxHeartbeats 2000000
namespace Go.Proofs.YtmjnackchaahbaaGreat
open Go.RowKit

theorem mA {T:List Tk} {f:Nat} {seen:List Tx} {i:Nat} {r:List Tx×Nat} (h:gw T f seen i=some r): ∃ g,f=g+1∧ee T i=true∧(cN T i).t∉seen∧seen.length < 16∧
  ((cN T (br T i)).t=[44]∧(∃ l j,gw T g (seen++[(cN T i).t]) (br T (br T i))=some (l,j)∧r=((cN T i).t::l,j))∨(cN T (br T i)).t≠[44]∧ ∃ j,gm T [59] (br T i)=some j∧r=([(cN T i).t],j)):=by
 cases f with
 | zero=> simp [gw] at h
 | succ g=>
  refine ⟨g,rfl,?_⟩
  unfold gw at h
  split at h
  ·cases h
  rename_i hn
  refine ⟨?_,fun hm=> hn (.inr (.inl hm)),Nat.lt_of_not_le fun hl=> hn (.inr (.inr hl)),?_⟩
  ·cases hb:ee T i with
   | true=> rfl
   | false=> exact absurd (.inl hb) hn
  split at h
  ·rename_i ht
   simp only [Option.bind_eq_bind,Option.bind_eq_some_iff,Option.pure_def] at h
   obtain ⟨⟨l,j⟩,hl,h⟩:=h
   exact .inl ⟨ht,l,j,hl,(Option.some.inj h).symm⟩
  rename_i ht
  simp only [Option.bind_eq_bind,Option.bind_eq_some_iff,Option.pure_def] at h
  obtain ⟨j,hj,h⟩:=h
  exact .inr ⟨ht,j,hj,(Option.some.inj h).symm⟩
section
variable {T:List Tk}
theorem rz (hT:T.length≤100000) (f:Nat) (N:List Tx) (i0:Nat) (hi:i0 < T.length) (r:List Tx×Nat) (h:gw T f N (br T i0)=some r):
  r.2 < T.length∧N.length+r.1.length≤16∧Spec Tryz.prog 161 (aL [.ptr (0,9) 0] (Ga T i0 N))
   (aO (.sl r.1.length (eM r.1)) [((0,9), .box 222 [.sl T.length (tJ T), .v (.int .i64 (r.2:Int)), .v (.int .i64 0), .v (.int .i64 0), .ref (1,8) 0 (N++r.1).length]),((1,8), .row 9 1 (eM (N++r.1)))] [(0,9),(1,8)] [(0,9)]):=by
 have htl:=dJ hi
 have hend: ∀ (g:Nat) (seen:List Tx) (i:Nat) (r:List Tx×Nat),i < T.length→gw T g seen i=some r→r.2 < T.length∧seen.length+r.1.length≤16:=by
  intro g
  induction g with
  | zero=> intro seen i r _ h;simp [gw] at h
  | succ g ihg=>
   intro seen i r hi h
   obtain ⟨g',hg',_,_,hs,⟨_,l,j,hl,rfl⟩ | ⟨_,j,hj,rfl⟩⟩:=mA h
   ·obtain rfl:g=g':=by omega
    obtain ⟨h1,h2⟩:=ihg _ _ _ (dJ (dJ hi)) hl
    simp only [List.length_append,List.length_cons,List.length_nil] at h2 ⊢
    exact ⟨h1,by omega⟩
   exact ⟨ju hj (dJ hi),by simp;omega⟩
 obtain ⟨ha,hb⟩:=hend f N _ r htl h
 refine ⟨ha,by omega,?_⟩
 have hNl:N.length < 16:=by obtain ⟨_,_,_,_,hs,_⟩:=mA h;exact hs
 refine Spec.ofNI Tryz.func161 rfl Tryz.ntmps161 rfl ?_
 refine aG (aj (aX _ ea) (am (aG (aj (pJ (3,0) _ 9 1 rfl rfl) ?_))))
 refine am (aG (dW rfl (aj (dC aa [] ar (kg T i0 N hi hT) ob tr ae) ?_)))
 refine am (aF fun K4 hK4=> ?_)
 refine aH ?_
 refine aS (α:=Nat×List Tx×Nat) (fun z=> (N++z.2.1).length≤16∧z.2.1.length≤16∧z.2.2 < T.length∧ ∃ l,gw T z.1 (N++z.2.1) z.2.2=some (l,r.2)∧r.1=z.2.1++l) 76 [(0,_)] [] (fun z=> [(3, .ref (3,0) 0 z.2.1.length)]) (fun z=> [((0,9), .box 222 [.sl T.length (tJ T), .v (.int .i64 (z.2.2:Int)), .v (.int .i64 0), .v (.int .i64 0), .ref (1,9) 0 (N++z.2.1).length]),((1,9), .row 9 1 (eM (N++z.2.1))),((3,0), .row 9 1 (eM z.2.1))]) [(0,9),(1,9)] [(0,9)] (fun z=> z.1) (f,[],br T i0) ?_ (by
  refine Le.mkJ [] [] rfl ?_ ?_ trivial tr ?_
  ·exact ⟨(iP rfl),(ca rfl ag),trivial⟩
  ·exact ⟨(cI rfl rfl rfl rfl (ai (cL ag ag) (eW (eW (eW (ai (ca rfl (by (simp only [List.append_nil]))) aK)))))),(cD rfl rfl rfl (by (simp only [List.append_nil]))),(cD rfl rfl rfl ag),trivial⟩
  kernel_rfl) ?_
 ·exact ⟨by simp;omega,Nat.zero_le _,htl,r.1,by rw [List.append_nil];exact h,rfl⟩
 intro z hz
 obtain ⟨z1,z2,z3⟩:=z
 obtain ⟨hz1,hz2,hz3,l,hz4,hz5⟩:=hz
 obtain ⟨g,rfl,hn,hs,hsl,hm⟩:=mA hz4
 simp only at hz1 hz2 hz3 hz5 hn hs hsl hm ⊢
 have htz:=dJ hz3
 have hl1:(z2++[(cN T z3).t]).length=z2.length+1:=by simp
 have hl2:(N++(z2++[(cN T z3).t])).length=(N++z2).length+1:=by simp;omega
 have ha2:eM (N++z2)++[PV.v (bt (cN T z3).t)]=eM (N++(z2++[(cN T z3).t])):=by rw [nH,List.append_assoc]
 refine go 14 ?_
 refine aj (aY aa _ _ ar (wQ T z3 (N++z2) hz3) tr rfl ae (by simp)) ?_
 refine aj (fI (r:=false) _ rfl (by rw [hn];rfl)) ?_
 refine am (cP rfl rfl (aE ?_))
 refine aB (σ':=an 76 [(0,_),(3,_)] [((0,9),_),((1,9),_),((3,0),_)] [(0,9),(1,9)] [(0,9)]) kp ?_
 refine dA 7 [] ?_
 refine go 10 ?_
 refine aC (_,[]) (fun τ=> (aY aa _ _ ar (eG T z3 (N++z2) hz3) tr rfl ae (by simp))) ?_
 refine go 1 ?_
 refine aC (_,[]) (fun τ=> (rK aa aw (bX (N++z2) _ rfl ab (cN T z3).t) rfl)) ?_
 refine go 1 ?_
 refine ci ⟨rfl,?_⟩
 refine am (cP rfl (decide_eq_false hs) ?_)
 refine go 8 ?_
 refine cP rfl (decide_eq_false ab) ?_
 refine go 11 ?_
 refine aE ?_
 refine aB (σ':=an 76 [(0,_),(3,_)] [((0,9),_),((1,9),_),((3,0),_)] [(0,9),(1,9)] [(0,9)]) kp ?_
 refine aD (ij rfl (dW rfl (aj (aY aa _ _ ar (eG T z3 (N++z2) hz3) tr rfl ae (by simp)) ?_)))
 refine go 1 ?_
 refine aj (bG (54,0) _ _ aa rfl rfl (by simp) (.sl rfl) ab rfl (nH _ _) hl1.symm) ?_
 refine dZ rfl (am (aE ?_))
 refine aB (σ':=an 76 [(0,_),(3,_)] [((0,9),_),((1,9),_),((54,0),_)] [(0,9),(1,9)] [(0,9)]) kp ?_
 refine aB (Le.incT (63,0) rfl) ?_
 refine jD 9 [55,56,57,58,59,60,61,62,63] [(1,9),(63,0)] [[],[],[],[(1,9)],[(1,9)],[(1,9)],[(1,9)],[(1,9)],[]] ae ae rfl (bj rfl) (rfl:_=[_,_,_,_,_,_,_,_,_]) (rfl:_=[_,_,_]) ?_
 refine go 12 ?_
 refine aC (_,[]) (fun τ=> (aY aa _ _ ar (eG T z3 (N++z2) hz3) tr rfl ae (by simp))) ?_
 refine go 3 ?_
 refine aC (_,[((1,9), .gone),((63,0),_)]) (fun τ=> kA (b:=true) (63,0) _ _ aa rfl (fE rfl (by exact eN) rfl) (by simp) (.sl rfl) ab rfl rfl rfl ha2 hl2.symm) ?_
 refine go 6 ?_
 refine aF fun K15 hK15=> ?_
 refine aB (σ':=an 76 [(0,_),(3,_)] [((0,9), .box _ [_,_,_,_, .ref (1,9) _ _]),((54,0),_),((1,9),_)] [(0,9),(1,9)] [(0,9)]) (by
  refine Le.mkJ [((1,9),(63,0))] [] rfl ?_ ?_ trivial tr ?_
  ·exact ⟨(Jv [(0,9),(54,0)] rfl uM rfl),(Jv [(0,9),(54,0)] rfl mP rfl),trivial⟩
  ·exact ⟨(cI rfl rfl rfl rfl (ai (by exact Jv [(0,9),(54,0)] rfl zq rfl) (ai (by exact Jv [(0,9),(54,0)] rfl kM rfl) (ai (by exact Jv [(0,9),(54,0)] rfl kM rfl) (ai (by exact Jv [(0,9),(54,0)] rfl kM rfl) lz))))),(cD rfl rfl rfl rfl),(cD rfl rfl rfl rfl),trivial⟩
  kernel_rfl) ?_
 refine aD (dW rfl (aj (dC aa [] ar (kg T z3 (N++(z2++[(cN T z3).t])) hz3 hT) ob tr ae) ?_))
 refine ay (hK15 _ ?_)
 refine aF fun K16 hK16=> ?_
 refine aG (dW rfl (aj (aY aa _ _ ar (eG T (br T z3) (N++(z2++[(cN T z3).t])) htz) tr rfl ae (by simp)) ?_))
 refine aj (sA _ _ Tryz.underlying9 rfl rfl rfl) (am (ax rfl (fun hc70=> ?_) (fun hc70=> ?_)))
 ·obtain ⟨_,j,hj,hr⟩:=hm.resolve_left fun x=> hc70 x.1
  obtain ⟨rfl,rfl⟩:=Prod.mk.inj hr
  have hexp:=sV T (br T z3) r.2 (N++(z2++[(cN T z3).t])) [59] htz hT hj
  refine aW (id (hK4 _ ?_))
  refine aG (dW rfl (aj (dC aa [] ar (hexp) ob tr ae) ?_))
  exact am (aG (ij rfl (dZ rfl (am (au (cq (.inr rfl) rfl (.tmp mP) (Le.outI [((1,8),(1,9))] [(54,0)] (by rw [hz5];exact dI rfl rfl (by simp) rfl) rfl rfl rfl tr ⟨⟨rfl,⟨_,rfl, .box rfl (ai .sl (ai .v (ai .v (ai .v (ai (ca rfl (by rw [hz5])) aK)))))⟩,rfl⟩,⟨rfl,⟨_,rfl, .rowE (by rw [hz5])⟩,rfl⟩,trivial⟩ tr rfl)))))))
 obtain ⟨_,l',j',hd',hr⟩:=hm.resolve_right fun x=> x.1 hc70
 obtain ⟨rfl,rfl⟩:=Prod.mk.inj hr
 refine aR (hK16 _ ?_)
 refine aD (dW rfl (aj (dC aa [] ar (kg T (br T z3) (N++(z2++[(cN T z3).t])) htz hT) ob tr ae) ?_))
 refine ay (⟨(g,z2++[(cN T z3).t],br T (br T z3)),?_,?_,?_⟩)
 ·exact ⟨by simp only [hl2];omega,by simp only [hl1];simp only [List.length_append] at hsl;omega,dJ htz,l',by rw [← List.append_assoc];exact hd',by rw [hz5];simp⟩
 ·refine Le.mkJ [((3,0),(54,0))] [] rfl ?_ ?_ trivial tr ?_
  ·exact ⟨(bv (id:=(0,9)) rfl),(ca rfl ag),trivial⟩
  ·exact ⟨(cI rfl rfl rfl rfl lz),(cD rfl rfl rfl ag),(cD rfl rfl rfl ag),trivial⟩
  kernel_rfl
 simp only;omega
end
end Go.Proofs.YtmjnackchaahbaaGreat

set_option maxHeartbeats 2000000
namespace Go.Proofs.YtmjnackchaahbaaGreat
open Go.RowKit

abbrev Hd:=Nat×Nd
def rV (h:Hd):List PV:= .v (.int .i64 (h.1:Int))::h.2.row
def me (l:List Hd):List PV:=l.flatMap rV
theorem bg (l:List Hd):(me l).length=l.length*5:=gB rV 5 (fun _=> rfl) l
def oH (l:List Hd) (k:Nat):Hd:=l.getD k (0,⟨0,0,[],0,[]⟩)
theorem oM (l:List Hd) (k:Nat) (h:k < l.length):oH l k=l[k]:=by simp [oH,h]
theorem jS (l:List Hd) (k:Nat) (h:k < l.length):(me l)[k*5]? =some (.v (.int .i64 ((oH l k).1:Int))):=by
 rw [oM l k h];exact jA rV 5 (fun _=> rfl) l k 0 h ab
theorem AY (l:List Hd) (k:Nat) (h:k < l.length):PV.ups (((me l).drop (k*5)).take 5)=[.v (.int .i64 ((oH l k).1:Int)), .v (.int .i64 ((oH l k).2.k:Int)), .v (.int .i64 ((oH l k).2.n:Int)), .v (bt (oH l k).2.s), .sl (oH l k).2.kn (oH l k).2.kids]:=by
 rw [oM l k h,show ((me l).drop (k*5)).take 5=rV l[k] from ml rV 5 (fun _=> rfl) l k h];rfl
theorem qN (l:List Hd) (h:Hd):me l++rV h=me (l++[h]):=jy rV l h
theorem ya (l m:List Hd):me l++me m=me (l++m):=DT rV l m
theorem xk (l:List Hd) (k:Nat) (h:k < l.length):l.take k++[oH l k]=l.take (k+1):=by rw [oM l k h,List.take_succ_eq_append_getElem h]
def Lh:List Tx:=[nM,jH,gU,jV]
section
variable {T:List Tk} {N:List Tx}
theorem AJ (hT:T.length≤100000) (i:Nat) (hi:i < T.length) (ht:(cN T i).t=nM) (l:List Hd) (hl:l.length≤100000) (hno: ∀ k,k < l.length→(oH l k).1≠0):
  Spec Tryz.prog 163 (aL [.ptr (0,9) 0, .sl l.length (me l)] (dD T i N)) (aO (.v (.int .i64 ((0:Nat):Int))) (dD T (br T i) N) [(0,9)] [(0,9)]):=by
 have hnx:=bw T i N hi
 rw [ht] at hnx
 refine Spec.ofNI Tryz.func163 rfl Tryz.ntmps163 rfl ?_
 refine go 12 ?_
 refine aj (aY aa _ _ ar (hnx) tr rfl ae (by simp)) ?_
 refine go 9 ?_
 refine aj (ap aa al (bX Lh 4 rfl ab nM) rfl rfl) ?_
 refine go 6 ?_
 refine aj (bF (bW T i N hi hT)) ?_
 refine am (aE (aE ?_))
 refine aB (σ':=an 56 [(0,_),(1,_),(5,_),(6,_),(7,_)] [((0,9),_)] [(0,9)] [(0,9)]) kp ?_
 refine go 20 ?_
 refine aF fun K14 hK14=> ?_
 refine aG (cp rfl (am (aH ?_)))
 refine aS (α:=Nat) (fun k=> k≤l.length) 56 [(0,_),(1,_),(5,_),(7,_)] [((0,9),_)] (fun k=> [(8, .v (.int .i64 (k:Int)))]) (fun k=> []) [(0,9)] [(0,9)] (fun k=> l.length - k) 0 ?_ (kj [0] [] []) ?_
 ·omega
 intro k hk
 refine aF fun K16 hK16=> ?_
 refine go 6 ?_
 refine ax rfl (fun hc42=> ?_) (fun hc42=> ?_)
 ·refine aR (hK16 _ ?_)
  refine aE (aH (aG (gT rfl (bV rfl (aj (aQ _ _ aa rfl rfl _ rfl ab (by (simp only [aq,aJ,aM,bf,bc,bk,bg];omega)) ag) ?_)))))
  refine aj (eJ _ aa rfl rfl) (aj (bl _ aa rfl (by exact jS _ _ ab) rfl) ?_)
  refine bV rfl (aj (bb _ _ rfl rfl rfl) (am (cP rfl (by have:=hno k ab;exact beq_eq_false_iff_ne.2 ab) ?_)))
  refine go 5 ?_
  refine ay (⟨k+1,?_,?_,?_⟩)
  ·omega
  ·exact kj [0] [] []
  omega
 refine aW (id (hK14 _ ?_))
 exact aG (bV rfl (cp rfl (am (au (cq (.inr rfl) rfl (.tmp ry) (Le.outI [] [] (aN ag) rfl rfl rfl trivial ob tr rfl))))))
theorem ww (hT:T.length≤100000) (i:Nat) (hi:i < T.length) (ht:(cN T i).t=jH) (l:List Hd) (hl:l.length≤100000) (hno: ∀ k,k < l.length→(oH l k).1≠1):
  Spec Tryz.prog 163 (aL [.ptr (0,9) 0, .sl l.length (me l)] (dD T i N)) (aO (.v (.int .i64 ((1:Nat):Int))) (dD T (br T i) N) [(0,9)] [(0,9)]):=by
 have hnx:=bw T i N hi
 rw [ht] at hnx
 refine Spec.ofNI Tryz.func163 rfl Tryz.ntmps163 rfl ?_
 refine go 12 ?_
 refine aj (aY aa _ _ ar (hnx) tr rfl ae (by simp)) ?_
 refine go 9 ?_
 refine aj (ap aa al (bX Lh 4 rfl ab jH) rfl rfl) ?_
 refine go 6 ?_
 refine aj (bF (bW T i N hi hT)) ?_
 refine am (aE (aE ?_))
 refine aB (σ':=an 56 [(0,_),(1,_),(5,_),(6,_),(7,_)] [((0,9),_)] [(0,9)] [(0,9)]) kp ?_
 refine go 22 ?_
 refine aF fun K14 hK14=> ?_
 refine aG (cp rfl (am (aH ?_)))
 refine aS (α:=Nat) (fun k=> k≤l.length) 56 [(0,_),(1,_),(5,_),(7,_)] [((0,9),_)] (fun k=> [(8, .v (.int .i64 (k:Int)))]) (fun k=> []) [(0,9)] [(0,9)] (fun k=> l.length - k) 0 ?_ (kj [0] [] []) ?_
 ·omega
 intro k hk
 refine aF fun K16 hK16=> ?_
 refine go 6 ?_
 refine ax rfl (fun hc42=> ?_) (fun hc42=> ?_)
 ·refine aR (hK16 _ ?_)
  refine aE (aH (aG (gT rfl (bV rfl (aj (aQ _ _ aa rfl rfl _ rfl ab (by (simp only [aq,aJ,aM,bf,bc,bk,bg];omega)) ag) ?_)))))
  refine aj (eJ _ aa rfl rfl) (aj (bl _ aa rfl (by exact jS _ _ ab) rfl) ?_)
  refine bV rfl (aj (bb _ _ rfl rfl rfl) (am (cP rfl (by have:=hno k ab;exact beq_eq_false_iff_ne.2 ab) ?_)))
  refine go 5 ?_
  refine ay (⟨k+1,?_,?_,?_⟩)
  ·omega
  ·exact kj [0] [] []
  omega
 refine aW (id (hK14 _ ?_))
 exact aG (bV rfl (cp rfl (am (au (cq (.inr rfl) rfl (.tmp ry) (Le.outI [] [] (aN ag) rfl rfl rfl trivial ob tr rfl))))))
theorem Dc (hT:T.length≤100000) (i:Nat) (hi:i < T.length) (ht:(cN T i).t=gU) (l:List Hd) (hl:l.length≤100000) {q j:Nat} (hq:q≤100) (h1:Spec Tryz.prog 200 (aL [.ptr (0,9) 0, .v (.int .i64 7)] (dD T (br T i) N)) (aO (.v (.int .i64 (q:Int))) (dD T j N) [(0,9)] [(0,9)])) (hno: ∀ k,k < l.length→(oH l k).1≠(2+q)):
  Spec Tryz.prog 163 (aL [.ptr (0,9) 0, .sl l.length (me l)] (dD T i N)) (aO (.v (.int .i64 (((2+q):Nat):Int))) (dD T j N) [(0,9)] [(0,9)]):=by
 have hnx:=bw T i N hi
 rw [ht] at hnx
 refine Spec.ofNI Tryz.func163 rfl Tryz.ntmps163 rfl ?_
 refine go 12 ?_
 refine aj (aY aa _ _ ar (hnx) tr rfl ae (by simp)) ?_
 refine go 9 ?_
 refine aj (ap aa al (bX Lh 4 rfl ab gU) rfl rfl) ?_
 refine go 6 ?_
 refine aj (bF (bW T i N hi hT)) ?_
 refine am (aE (aE ?_))
 refine aB (σ':=an 56 [(0,_),(1,_),(5,_),(6,_),(7,_)] [((0,9),_)] [(0,9)] [(0,9)]) kp ?_
 refine go 6 ?_
 refine aF fun K10 hK10=> ?_
 refine go 7 ?_
 refine aj (bF (h1)) (go 2 ?_)
 refine ay (hK10 _ ?_)
 refine go 7 ?_
 refine aF fun K14 hK14=> ?_
 refine aG (cp rfl (am (aH ?_)))
 refine aS (α:=Nat) (fun k=> k≤l.length) 56 [(0,_),(1,_),(5,_),(7,_)] [((0,9),_)] (fun k=> [(8, .v (.int .i64 (k:Int)))]) (fun k=> []) [(0,9)] [(0,9)] (fun k=> l.length - k) 0 ?_ (kj [0] [] []) ?_
 ·omega
 intro k hk
 refine aF fun K16 hK16=> ?_
 refine go 6 ?_
 refine ax rfl (fun hc42=> ?_) (fun hc42=> ?_)
 ·refine aR (hK16 _ ?_)
  refine aE (aH (aG (gT rfl (bV rfl (aj (aQ _ _ aa rfl rfl _ rfl ab (by (simp only [aq,aJ,aM,bf,bc,bk,bg];omega)) ag) ?_)))))
  refine aj (eJ _ aa rfl rfl) (aj (bl _ aa rfl (by exact jS _ _ ab) rfl) ?_)
  refine bV rfl (aj (bb _ _ rfl rfl rfl) (am (cP rfl (by have:=hno k ab;exact beq_eq_false_iff_ne.2 ab) ?_)))
  refine go 5 ?_
  refine ay (⟨k+1,?_,?_,?_⟩)
  ·omega
  ·exact kj [0] [] []
  omega
 refine aW (id (hK14 _ ?_))
 exact aG (bV rfl (cp rfl (am (au (cq (.inr rfl) rfl (.tmp ry) (Le.outI [] [] (aN ag) rfl rfl rfl trivial ob tr rfl))))))
theorem wy (hT:T.length≤100000) (i:Nat) (hi:i < T.length) (ht:(cN T i).t=jV) (l:List Hd) (hl:l.length≤100000) {q j:Nat} (hq:q≤100) (h1:Spec Tryz.prog 200 (aL [.ptr (0,9) 0, .v (.int .i64 29)] (dD T (br T i) N)) (aO (.v (.int .i64 (q:Int))) (dD T j N) [(0,9)] [(0,9)])) (hno: ∀ k,k < l.length→(oH l k).1≠(10+q)):
  Spec Tryz.prog 163 (aL [.ptr (0,9) 0, .sl l.length (me l)] (dD T i N)) (aO (.v (.int .i64 (((10+q):Nat):Int))) (dD T j N) [(0,9)] [(0,9)]):=by
 have hnx:=bw T i N hi
 rw [ht] at hnx
 refine Spec.ofNI Tryz.func163 rfl Tryz.ntmps163 rfl ?_
 refine go 12 ?_
 refine aj (aY aa _ _ ar (hnx) tr rfl ae (by simp)) ?_
 refine go 9 ?_
 refine aj (ap aa al (bX Lh 4 rfl ab jV) rfl rfl) ?_
 refine go 6 ?_
 refine aj (bF (bW T i N hi hT)) ?_
 refine am (aE (aE ?_))
 refine aB (σ':=an 56 [(0,_),(1,_),(5,_),(6,_),(7,_)] [((0,9),_)] [(0,9)] [(0,9)]) kp ?_
 refine go 13 ?_
 refine aF fun K12 hK12=> ?_
 refine go 7 ?_
 refine aj (bF (h1)) (go 2 ?_)
 refine ay (hK12 _ ?_)
 refine aF fun K14 hK14=> ?_
 refine aG (cp rfl (am (aH ?_)))
 refine aS (α:=Nat) (fun k=> k≤l.length) 56 [(0,_),(1,_),(5,_),(7,_)] [((0,9),_)] (fun k=> [(8, .v (.int .i64 (k:Int)))]) (fun k=> []) [(0,9)] [(0,9)] (fun k=> l.length - k) 0 ?_ (kj [0] [] []) ?_
 ·omega
 intro k hk
 refine aF fun K16 hK16=> ?_
 refine go 6 ?_
 refine ax rfl (fun hc42=> ?_) (fun hc42=> ?_)
 ·refine aR (hK16 _ ?_)
  refine aE (aH (aG (gT rfl (bV rfl (aj (aQ _ _ aa rfl rfl _ rfl ab (by (simp only [aq,aJ,aM,bf,bc,bk,bg];omega)) ag) ?_)))))
  refine aj (eJ _ aa rfl rfl) (aj (bl _ aa rfl (by exact jS _ _ ab) rfl) ?_)
  refine bV rfl (aj (bb _ _ rfl rfl rfl) (am (cP rfl (by have:=hno k ab;exact beq_eq_false_iff_ne.2 ab) ?_)))
  refine go 5 ?_
  refine ay (⟨k+1,?_,?_,?_⟩)
  ·omega
  ·exact kj [0] [] []
  omega
 refine aW (id (hK14 _ ?_))
 exact aG (bV rfl (cp rfl (am (au (cq (.inr rfl) rfl (.tmp ry) (Le.outI [] [] (aN ag) rfl rfl rfl trivial ob tr rfl))))))
theorem GI {l:List Hd} {n:Nat} (h:l.any (fun x=> decide (x.1=n))=false): ∀ k,k < l.length→(oH l k).1≠n:=fun k hk e=> by
 rw [List.any_eq_false] at h
 have:=h l[k] (List.getElem_mem hk)
 rw [oM l k hk] at e
 simp [e] at this
theorem tA (hT:T.length≤100000) (i:Nat) (hi:i < T.length) (l:List Hd) (hl:l.length≤100000) (r:Nat×Nat) (h:xH T i=some r) (hno:l.any (fun x=> decide (x.1=r.1))=false):
  r.2 < T.length∧r.1 < 40∧Spec Tryz.prog 163 (aL [.ptr (0,9) 0, .sl l.length (me l)] (dD T i N)) (aO (.v (.int .i64 (r.1:Int))) (dD T r.2 N) [(0,9)] [(0,9)]):=by
 have htl:=dJ hi
 have hn:=GI hno
 have hmost: ∀ {most i:Nat} {q:Nat×Nat},pq T most i=some q→q.1≤most:=fun h=> by
  unfold pq at h
  split at h
  ·rename_i hx;rw [← Option.some.inj h];exact hx.2
  cases h
 unfold xH at h
 by_cases h1:(cN T i).t=nM
 ·rw [if_pos h1] at h
  obtain rfl:=Option.some.inj h
  exact ⟨htl,by omega,AJ hT i hi h1 l hl hn⟩
 rw [if_neg h1] at h
 by_cases h2:(cN T i).t=jH
 ·rw [if_pos h2] at h
  obtain rfl:=Option.some.inj h
  exact ⟨htl,by omega,ww hT i hi h2 l hl hn⟩
 rw [if_neg h2] at h
 by_cases h3:(cN T i).t=gU
 ·rw [if_pos h3] at h
  simp only [Option.bind_eq_bind,Option.bind_eq_some_iff,Option.pure_def,Option.some.injEq] at h
  obtain ⟨⟨q,j⟩,hq,rfl⟩:=h
  have hm:=hmost hq
  exact ⟨show (q,j).2 < T.length from te hq htl,by simp only at hm ⊢;omega,Dc hT i hi h3 l hl (by simp only at hm;omega) (kX T _ N 7 htl hT ab _ hq) hn⟩
 rw [if_neg h3] at h
 by_cases h4:(cN T i).t=jV
 ·rw [if_pos h4] at h
  simp only [Option.bind_eq_bind,Option.bind_eq_some_iff,Option.pure_def,Option.some.injEq] at h
  obtain ⟨⟨q,j⟩,hq,rfl⟩:=h
  have hm:=hmost hq
  exact ⟨show (q,j).2 < T.length from te hq htl,by simp only at hm ⊢;omega,wy hT i hi h4 l hl (by simp only at hm;omega) (kX T _ N 29 htl hT ab _ hq) hn⟩
 rw [if_neg h4] at h
 cases h
end
theorem xP {p:Hd→Bool} {l:List Hd} {k:Nat} (h: ∀ x∈l.take k,p x=true) (he:l.length≤k∨p (oH l k)=false):l.takeWhile p=l.take k∧l.dropWhile p=l.drop k:=by
 induction l generalizing k with
 | nil=> simp
 | cons a l ih=>
  cases k with
  | zero=>
   have:p a=false:=by
    rcases he with he | he
    ·simp at he
    simpa [oH] using he
   simp [this]
  | succ k=>
   have ha:p a=true:=h a (by simp)
   have:=ih (k:=k) (fun x hx=> h x (by simp [hx])) (by
    rcases he with he | he
    ·left;simpa using he
    right;simpa [oH] using he)
   simp [ha,this]
theorem Cn (l:List Hd) (hl:l.length≤100000) (h:Hd):
  Spec Tryz.prog 165 (aI [.sl l.length (me l), .agg [.v (.int .i64 (h.1:Int)), .v (.int .i64 (h.2.k:Int)), .v (.int .i64 (h.2.n:Int)), .v (bt h.2.s), .sl h.2.kn h.2.kids]] []) (aA (.sl (pY l h).length (me (pY l h))) []):=by
 refine Spec.ofN Tryz.func165 rfl Tryz.ntmps165 rfl ?_
 refine aG (aj (dX (3,0) _ rfl rfl) (aj (aX _ ea) (am (aG (aj (pJ (5,0) _ 73 5 rfl rfl) ?_)))))
 refine am (aG (cp rfl (am (aF fun K4 hK4=> ?_))))
 refine aH ?_
 refine aS (α:=Nat) (fun k=> k≤l.length∧ ∀ x∈l.take k,decide (x.1 < h.1)=true) 39 [(0,_),(3,_)] [((3,0),_)] (fun k=> [(6, .v (.int .i64 (k:Int))),(5, .ref (5,0) 0 (l.take k).length)]) (fun k=> [((5,0), .row 73 5 (me (l.take k)))]) [] [] (fun k=> l.length - k) 0 ?_ (kj [0,2] [] []) ?_
 ·exact ⟨Nat.zero_le _,by simp⟩
 intro k hk
 obtain ⟨hk,hall⟩:=hk
 have hlk:(l.take k).length=k:=by rw [List.length_take];omega
 refine aF fun K5 hK5=> ?_
 refine aF fun K6 hK6=> ?_
 refine dA 14 [] ?_
 refine go 9 ?_
 refine nX (fun hg11=> ?_) (fun hg11=> ?_)
 ·refine go 5 ?_
  refine ew (_,[]) rfl (fun τ=> rfl) (fun τ=> aQ _ _ aa rfl rfl _ rfl ab (by (simp only [aq,aJ,aM,bf,bc,bk,bg];omega)) ag) ?_
  refine go 3 ?_
  refine ew (_,[]) rfl (fun τ=> rfl) (fun τ=> bl _ aa rfl (by exact jS _ _ ab) rfl) ?_
  refine go 10 ?_
  refine ay (hK6 _ ?_)
  refine ax rfl (fun hc20=> ?_) (fun hc20=> ?_)
  ·have hs:=xk l k ab
   have hlk1:(l.take (k+1)).length=(l.take k).length+1:=by rw [← hs];simp
   have hall1: ∀ x∈l.take (k+1),decide (x.1 < h.1)=true:=by
    rw [← hs]
    intro x hx
    rcases List.mem_append.1 hx with hx | hx
    ·exact hall x hx
    rw [List.mem_singleton.1 hx];exact decide_eq_true ab
   refine aR (hK5 _ ?_)
   refine go 5 ?_
   refine aj (aQ _ _ aa rfl rfl _ rfl ab (by (simp only [aq,aJ,aM,bf,bc,bk,bg];omega)) ag) ?_
   refine aj (bs _ aa rfl (by exact AY _ _ ab) rfl) ?_
   refine go 1 ?_
   refine aj (bG (27,0) _ _ aa rfl rfl (bg _).symm (.sl rfl) ab rfl ((qN _ (oH l k)).trans (by rw [hs])) hlk1.symm) ?_
   refine dZ rfl (am ?_)
   refine aB (σ':=an 39 [(0,_),(3,_),(5,_),(6,_)] [((3,0),_),((27,0),_)] [] []) kp ?_
   refine go 4 ?_
   refine ay (⟨k+1,?_,?_,?_⟩)
   ·exact ⟨by omega,hall1⟩
   ·refine Le.mkJ [((5,0),(27,0))] [] rfl ?_ ?_ trivial trivial ?_
    ·exact ⟨(by repeat' (exact Lv.sl)),(bv (id:=(3,0)) rfl),(aN ag),(ca rfl ag),trivial⟩
    ·exact ⟨(cI rfl rfl rfl rfl (by repeat' (first | exact Lv.v | exact Lv.sl | exact aK | refine ai ?_ ?_))),(cD rfl rfl rfl ag),trivial⟩
    kernel_rfl
   omega
  have hf:=xP (p:=fun x=> decide (x.1 < h.1)) hall (.inr (decide_eq_false ab))
  refine aW (id (hK4 _ ?_))
  refine go 4 ?_
  refine aj (bG (33,0) _ _ aa rfl rfl (bg _).symm (.sl rfl) ab rfl (qN _ h) (show (l.take k).length+1=(l.take k++[h]).length by simp)) ?_
  refine dZ rfl (am (aE ?_))
  refine aB (σ':=an 39 [(0,_),(5,_),(6,_)] [((33,0),_)] [] []) kp ?_
  refine aD (ij rfl (gT rfl (bV rfl (aj (gA _ _ _ aa rfl k l.length (.lit rfl rfl) .dflt hk (Nat.le_refl _) (show _=me (l.drop k) by rw [show (me l).drop (k*5)=me (l.drop k) from lS rV 5 (fun _=> rfl) l k];exact List.take_of_length_le (by rw [bg,List.length_drop];exact Nat.le_refl _)) rfl) ?_))))
  refine aj (bG (38,0) _ _ aa rfl rfl (bg _).symm (.sl (by rw [bg,List.length_drop])) (by simp;omega) rfl (ya _ _) (show (l.take k++[h]).length+(l.length - k)=(l.take k++[h]++l.drop k).length by simp;omega)) ?_
  refine dZ rfl (am (au ?_))
  have hfin:l.take k++[h]++l.drop k=pY l h:=by unfold pY;rw [hf.1,hf.2];simp
  exact cq (.inr rfl) rfl (.tmp mP) (Le.out [] [(38,0)] (by rw [← hfin];exact dI rfl rfl (bg _).symm rfl) rfl rfl rfl tr trivial)
 have hf:=xP (p:=fun x=> decide (x.1 < h.1)) hall (.inl ab)
 refine go 20 ?_
 refine ay (hK6 _ ?_)
 refine cP rfl rfl (aW (id (hK4 _ ?_)))
 refine go 4 ?_
 refine aj (bG (33,0) _ _ aa rfl rfl (bg _).symm (.sl rfl) ab rfl (qN _ h) (show (l.take k).length+1=(l.take k++[h]).length by simp)) ?_
 refine dZ rfl (am (aE ?_))
 refine aB (σ':=an 39 [(0,_),(5,_),(6,_)] [((33,0),_)] [] []) kp ?_
 refine aD (ij rfl (gT rfl (bV rfl (aj (gA _ _ _ aa rfl k l.length (.lit rfl rfl) .dflt hk (Nat.le_refl _) (show _=me (l.drop k) by rw [show (me l).drop (k*5)=me (l.drop k) from lS rV 5 (fun _=> rfl) l k];exact List.take_of_length_le (by rw [bg,List.length_drop];exact Nat.le_refl _)) rfl) ?_))))
 refine aj (bG (38,0) _ _ aa rfl rfl (bg _).symm (.sl (by rw [bg,List.length_drop])) (by simp;omega) rfl (ya _ _) (show (l.take k++[h]).length+(l.length - k)=(l.take k++[h]++l.drop k).length by simp;omega)) ?_
 refine dZ rfl (am (au ?_))
 have hfin:l.take k++[h]++l.drop k=pY l h:=by unfold pY;rw [hf.1,hf.2];simp
 exact cq (.inr rfl) rfl (.tmp mP) (Le.out [] [(38,0)] (by rw [← hfin];exact dI rfl rfl (bg _).symm rfl) rfl rfl rfl tr trivial)
end Go.Proofs.YtmjnackchaahbaaGreat
