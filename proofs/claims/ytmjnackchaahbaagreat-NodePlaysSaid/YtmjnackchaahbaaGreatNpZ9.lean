/- part 9 -/
import Derived.Test.YtmjnackchaahbaaGreatNpZ8
set_option linter.unusedSimpArgs false
set_option linter.unusedVariables false
set_option maxHeartbeats 2000000
namespace Go.Proofs.YtmjnackchaahbaaGreat
open Go.RowKit

abbrev pI (d:Nd):AV:= .agg [.v (.int .i64 (d.k:Int)), .v (.int .i64 (d.n:Int)), .v (bt d.s), .sl d.kn d.kids]
abbrev PO (T:List Tk) (N:List Tx) (r:Nd×Nat):St:=aN (pI r.1) (dL T r.2 N) [(0,9)] [(0,9)]
structure PE (T:List Tk) (N:List Tx) (f:Nat):Prop where
 expr: ∀ lv pr i r,lv≤20→1≤pr∧pr≤7→i < T.length→gy T f lv pr i=some r→r.2 < T.length∧Spec Tryz.prog 226 (aL [.ptr (0,9) 0, .v (.int .i64 (lv:Int)), .v (.int .i64 (pr:Int))] (dL T i N)) (PO T N r)
 un: ∀ s lv pr i r,lv≤20→1≤pr∧pr≤7→i < T.length→JT T f s lv pr i=some r→r.2 < T.length∧Spec Tryz.prog 235 (aL [.ptr (0,9) 0, .v (bt s), .v (.int .i64 (lv:Int)), .v (.int .i64 (pr:Int))] (dL T i N)) (PO T N r)
 bin: ∀ lv pr i r,lv≤20→(1≤pr∧pr≤6∧pr≠3)→i < T.length→zF T f lv pr i=some r→r.2 < T.length∧Spec Tryz.prog 236 (aL [.ptr (0,9) 0, .v (.int .i64 (lv:Int)), .v (.int .i64 (pr:Int))] (dL T i N)) (PO T N r)
 nest: ∀ lv i r,lv≤20→i < T.length→sV T f lv i=some r→r.2 < T.length∧Spec Tryz.prog 240 (aL [.ptr (0,9) 0, .v (.int .i64 (lv:Int))] (dL T i N)) (PO T N r)
 prim: ∀ lv i r,lv≤20→i < T.length→wd T f lv i=some r→r.2 < T.length∧Spec Tryz.prog 237 (aL [.ptr (0,9) 0, .v (.int .i64 (lv:Int))] (dL T i N)) (PO T N r)
section
variable {T:List Tk} {N:List Tx}
theorem Ab (f:Nat) (ih:PE T N f) (lv pr i:Nat) (r:Nd×Nat) (hl:lv≤20) (hp:1≤pr∧pr≤7) (hi:i < T.length) (h:gy T (f+1) lv pr i=some r):
  r.2 < T.length∧Spec Tryz.prog 226 (aL [.ptr (0,9) 0, .v (.int .i64 (lv:Int)), .v (.int .i64 (pr:Int))] (dL T i N)) (PO T N r):=by
 unfold gy at h
 by_cases h1:pr=3∧(cX T i).t=[33]
 ·rw [if_pos h1] at h
  obtain ⟨ha,hb⟩:=ih.un _ _ _ _ _ hl ab hi h
  refine ⟨ha,?_⟩
  obtain ⟨rfl,h1⟩:=h1
  refine Spec.ofNI Tryz.func226 rfl Tryz.ntmps226 rfl ?_
  refine go 15 ?_
  refine aj (aZ aa _ _ ar (bw T i N hi) tr rfl ae (by simp)) ?_
  refine go 8 ?_
  refine aV rfl rfl (dg (r:=true) _ _ Tryz.underlying9 rfl rfl (by rw [h1];rfl)) ?_
  refine go 3 ?_
  refine aE ?_
  refine az (σ':=an 50 [(0,_),(1,_),(6,_),(7,_)] [((0,9),_),((6,0),_)] [(0,9)] [(0,9)]) kp ?_
  refine aD (ef rfl (sZ rfl (bW rfl (aj (bF (hb)) (go 2 ?_)))))
  exact au (jF [])
 rw [if_neg h1] at h
 by_cases h2:pr=3
 ·rw [if_pos h2] at h
  obtain ⟨ha,hb⟩:=ih.bin _ _ _ _ hl ab hi h
  refine ⟨ha,?_⟩
  subst h2
  have h1:(cX T i).t≠[33]:=fun e=> h1 ⟨rfl,e⟩
  refine Spec.ofNI Tryz.func226 rfl Tryz.ntmps226 rfl ?_
  refine go 15 ?_
  refine aj (aZ aa _ _ ar (bw T i N hi) tr rfl ae (by simp)) ?_
  refine go 8 ?_
  refine aV rfl rfl (dg (r:=false) _ _ Tryz.underlying9 rfl rfl (beq_eq_false_iff_ne.2 h1)) ?_
  refine go 5 ?_
  refine aE ?_
  refine az (σ':=an 50 [(0,_),(1,_),(2,_),(6,_),(7,_)] [((0,9),_),((6,0),_)] [(0,9)] [(0,9)]) kp ?_
  refine go 8 ?_
  refine aj (bF (hb)) (go 2 ?_)
  exact au (jF [])
 rw [if_neg h2] at h
 by_cases h3:pr=7∧(cX T i).t=[45]
 ·rw [if_pos h3] at h
  obtain ⟨ha,hb⟩:=ih.un _ _ _ _ _ hl ab hi h
  refine ⟨ha,?_⟩
  obtain ⟨rfl,h3⟩:=h3
  refine Spec.ofNI Tryz.func226 rfl Tryz.ntmps226 rfl ?_
  refine go 15 ?_
  refine aj (aZ aa _ _ ar (bw T i N hi) tr rfl ae (by simp)) ?_
  refine go 14 ?_
  refine aE ?_
  refine az (σ':=an 50 [(0,_),(1,_),(2,_),(6,_),(7,_)] [((0,9),_),((6,0),_)] [(0,9)] [(0,9)]) kp ?_
  refine go 12 ?_
  refine aV rfl rfl (dg (r:=true) _ _ Tryz.underlying9 rfl rfl (by rw [h3];rfl)) ?_
  refine go 7 ?_
  refine aj (bF (hb)) (go 2 ?_)
  exact au (jF [])
 rw [if_neg h3] at h
 by_cases h4:pr=7
 ·rw [if_pos h4] at h
  obtain ⟨ha,hb⟩:=ih.prim _ _ _ hl hi h
  refine ⟨ha,?_⟩
  subst h4
  have h3:(cX T i).t≠[45]:=fun e=> h3 ⟨rfl,e⟩
  refine Spec.ofNI Tryz.func226 rfl Tryz.ntmps226 rfl ?_
  refine go 15 ?_
  refine aj (aZ aa _ _ ar (bw T i N hi) tr rfl ae (by simp)) ?_
  refine go 14 ?_
  refine aE ?_
  refine az (σ':=an 50 [(0,_),(1,_),(2,_),(6,_),(7,_)] [((0,9),_),((6,0),_)] [(0,9)] [(0,9)]) kp ?_
  refine go 12 ?_
  refine aV rfl rfl (dg (r:=false) _ _ Tryz.underlying9 rfl rfl (beq_eq_false_iff_ne.2 h3)) ?_
  refine go 10 ?_
  refine aF fun K13 hK13=> ?_
  refine aD (ef rfl (bW rfl (aj (bF (hb)) (Lc rfl rfl rfl rfl rfl rfl (ax (hK13 _ ?_))))))
  exact au (jF [])
 rw [if_neg h4] at h
 obtain ⟨ha,hb⟩:=ih.bin _ _ _ _ hl ab hi h
 refine ⟨ha,?_⟩
 refine Spec.ofNI Tryz.func226 rfl Tryz.ntmps226 rfl ?_
 refine go 15 ?_
 refine aj (aZ aa _ _ ar (bw T i N hi) tr rfl ae (by simp)) ?_
 refine IC rfl (am (aE (aG (bW rfl (yQ rfl rfl (beq_eq_false_iff_ne.2 ab) ?_)))))
 refine go 8 ?_
 refine aE ?_
 refine az (σ':=an 50 [(0,_),(1,_),(2,_),(6,_),(7,_)] [((0,9),_),((6,0),_)] [(0,9)] [(0,9)]) kp ?_
 refine aD (bW rfl (yQ rfl rfl (beq_eq_false_iff_ne.2 ab) ?_))
 refine go 6 ?_
 refine yQ rfl rfl (beq_eq_false_iff_ne.2 ab) ?_
 refine go 10 ?_
 refine yQ rfl rfl (beq_eq_false_iff_ne.2 ab) ?_
 refine am (cK rfl rfl (cE (aF fun K13 hK13=> ?_)))
 refine aD (ef rfl (bW rfl (bW rfl (aj (bF (hb)) (Lc rfl rfl rfl rfl rfl rfl (ax (hK13 _ ?_)))))))
 exact au (jF [])
theorem GD (hT:T.length≤100000) (f:Nat) (ih:PE T N f) (s:Tx) (lv pr i:Nat) (r:Nd×Nat) (hl:lv≤20) (hp:1≤pr∧pr≤7) (hi:i < T.length) (h:JT T (f+1) s lv pr i=some r):
  r.2 < T.length∧Spec Tryz.prog 235 (aL [.ptr (0,9) 0, .v (bt s), .v (.int .i64 (lv:Int)), .v (.int .i64 (pr:Int))] (dL T i N)) (PO T N r):=by
 unfold JT at h
 simp only [Option.bind_eq_bind,Option.bind_eq_some_iff,Option.pure_def,Option.some.injEq] at h
 obtain ⟨j,hj,⟨d,j2⟩,hd,rfl⟩:=h
 have ho:=ky hj
 have hjl:=jH ho.2 hi
 obtain ⟨ha,hb⟩:=ih.expr _ _ _ _ ho.1 hp hjl hd
 have hopen:=oB T i j N s (lv+1) hi hT hj
 refine ⟨ha,?_⟩
 refine Spec.ofNI Tryz.func235 rfl Tryz.ntmps235 rfl ?_
 refine go 8 ?_
 refine aj (bF (hopen)) (am (aF fun K3 hK3=> ?_))
 refine go 5 ?_
 refine aj (bF (hb)) (go 2 ?_)
 refine ax (hK3 _ ?_)
 refine go 7 ?_
 exact au (jF [])
theorem zn (hT:T.length≤100000) (f:Nat) (ih:PE T N f) (lv i:Nat) (r:Nd×Nat) (hl:lv≤20) (hi:i < T.length) (h:sV T (f+1) lv i=some r):
  r.2 < T.length∧Spec Tryz.prog 240 (aL [.ptr (0,9) 0, .v (.int .i64 (lv:Int))] (dL T i N)) (PO T N r):=by
 unfold sV at h
 simp only [Option.bind_eq_bind,Option.bind_eq_some_iff,Option.pure_def,Option.some.injEq] at h
 obtain ⟨j,hj,⟨d,j2⟩,hd,j3,hj3,rfl⟩:=h
 have ho:=ky hj
 have hjl:=jH ho.2 hi
 obtain ⟨ha,hb⟩:=ih.expr _ _ _ _ ho.1 ab hjl hd
 have hopen:=oB T i j N [40] (lv+1) hi hT hj
 have hexp:=fE T j2 j3 N [41] ha hT hj3
 refine ⟨jH hj3 ha,?_⟩
 refine Spec.ofNI Tryz.func240 rfl Tryz.ntmps240 rfl ?_
 refine go 7 ?_
 refine aj (bF (hopen)) (am (aF fun K3 hK3=> ?_))
 refine go 4 ?_
 refine aj (bF (hb)) (go 2 ?_)
 refine ax (hK3 _ ?_)
 refine aF fun K4 hK4=> ?_
 refine aD (ef rfl (aj (bF (hexp)) (ax (hK4 _ ?_))))
 refine go 4 ?_
 exact au (jF [])
theorem zu (hT:T.length≤100000) (f:Nat) (ih:PE T N f) (lv i:Nat) (r:Nd×Nat) (hl:lv≤20) (hi:i < T.length) (h:wd T (f+1) lv i=some r):
  r.2 < T.length∧Spec Tryz.prog 237 (aL [.ptr (0,9) 0, .v (.int .i64 (lv:Int))] (dL T i N)) (PO T N r):=by
 have htl:=dS hi
 have htake:=bX T i N hi hT
 unfold wd at h
 simp only at h
 by_cases h1:(cX T i).t=[40]
 ·rw [if_pos h1] at h
  obtain ⟨ha,hb⟩:=ih.nest _ _ _ hl hi h
  refine ⟨ha,?_⟩
  refine Spec.ofNI Tryz.func237 rfl Tryz.ntmps237 rfl ?_
  refine go 3 ?_
  refine aE (dA 11 [(5,0)] ?_)
  refine go 16 ?_
  refine aB (_,[]) (fun τ=> aO _ _ aa rfl rfl _ rfl ab (by (simp only [aq,aJ,aM,bh,bc];omega)) ag) ?_
  refine go 1 ?_
  refine aB (_,[]) (fun τ=> bn _ aa rfl (by exact nO _ _ hi) rfl) ?_
  refine go 1 ?_
  refine aB (_,[((5,0),_)]) (fun τ=> fq (5,0) aa rfl rfl) ?_
  refine go 8 ?_
  refine aj (dg (r:=true) _ _ Tryz.underlying9 rfl rfl (by rw [h1];rfl)) ?_
  refine am (fR rfl rfl (aE ?_))
  refine az (σ':=an 72 [(0,_),(1,_),(4,_)] [((0,9),_),((4,0),_)] [(0,9)] [(0,9)]) kp ?_
  refine aD (ef rfl (bW rfl (aj (bF (hb)) (go 2 ?_))))
  exact au (jF [])
 rw [if_neg h1] at h
 by_cases h2:(cX T i).t=Eh
 ·rw [if_pos h2] at h
  simp only [Option.bind_eq_bind,Option.bind_eq_some_iff,Option.pure_def,Option.some.injEq] at h
  obtain ⟨⟨d,j⟩,hd,rfl⟩:=h
  obtain ⟨ha,hb⟩:=ih.nest _ _ _ hl htl hd
  refine ⟨ha,?_⟩
  refine Spec.ofNI Tryz.func237 rfl Tryz.ntmps237 rfl ?_
  refine go 3 ?_
  refine aE (dA 11 [(5,0)] ?_)
  refine go 16 ?_
  refine aB (_,[]) (fun τ=> aO _ _ aa rfl rfl _ rfl ab (by (simp only [aq,aJ,aM,bh,bc];omega)) ag) ?_
  refine go 1 ?_
  refine aB (_,[]) (fun τ=> bn _ aa rfl (by exact nO _ _ hi) rfl) ?_
  refine go 1 ?_
  refine aB (_,[((5,0),_)]) (fun τ=> fq (5,0) aa rfl rfl) ?_
  refine go 8 ?_
  refine aj (dg (r:=false) _ _ Tryz.underlying9 rfl rfl (beq_eq_false_iff_ne.2 h1)) ?_
  refine am (cK rfl rfl (cE (aE (aE ?_))))
  refine az (σ':=an 72 [(0,_),(1,_),(4,_),(5,_)] [((0,9),_),((4,0),_),((5,0),_)] [(0,9)] [(0,9)]) kp ?_
  refine go 3 ?_
  refine aj (dg (r:=true) _ _ Tryz.underlying9 rfl rfl (by rw [h2];rfl)) ?_
  refine am (fR rfl rfl (aG (ef rfl (aj (bF (htake)) (am (aF fun K8 hK8=> ?_))))))
  refine aD (ef rfl (bW rfl (aj (bF (hb)) (go 2 ?_))))
  refine ax (hK8 _ ?_)
  refine go 6 ?_
  exact au (jF [])
 rw [if_neg h2] at h
 have hr:r.2=br T i:=by
  repeat' split at h
  all_goals first | (rw [← Option.some.inj h];done) | cases h
 refine ⟨by rw [hr];exact htl,?_⟩
 refine Spec.ofNI Tryz.func237 rfl Tryz.ntmps237 rfl ?_
 refine go 3 ?_
 refine aE (dA 11 [(5,0)] ?_)
 refine go 16 ?_
 refine aB (_,[]) (fun τ=> aO _ _ aa rfl rfl _ rfl ab (by (simp only [aq,aJ,aM,bh,bc];omega)) ag) ?_
 refine go 1 ?_
 refine aB (_,[]) (fun τ=> bn _ aa rfl (by exact nO _ _ hi) rfl) ?_
 refine go 1 ?_
 refine aB (_,[((5,0),_)]) (fun τ=> fq (5,0) aa rfl rfl) ?_
 refine go 8 ?_
 refine aj (dg (r:=false) _ _ Tryz.underlying9 rfl rfl (beq_eq_false_iff_ne.2 h1)) ?_
 refine am (cK rfl rfl (cE (aE (aE ?_))))
 refine az (σ':=an 72 [(0,_),(1,_),(4,_),(5,_)] [((0,9),_),((4,0),_),((5,0),_)] [(0,9)] [(0,9)]) kp ?_
 refine go 3 ?_
 refine aj (dg (r:=false) _ _ Tryz.underlying9 rfl rfl (beq_eq_false_iff_ne.2 h2)) ?_
 refine go 8 ?_
 refine aF fun K8 hK8=> ?_
 refine go 3 ?_
 refine aj (ba _ _ rfl rfl rfl) (am (ay rfl (fun hc38=> ?_) (fun hc38=> ?_)))
 ·rw [if_pos ab] at h
  obtain rfl:=Option.some.inj h
  refine go 5 ?_
  refine ax (hK8 _ ?_)
  refine aG (ef rfl (aj (bF (htake)) (am (aE ?_))))
  refine az (σ':=an 72 [(4,_),(7,_)] [((4,0),_),((7,0),_),((0,9),_)] [(0,9)] [(0,9)]) kp ?_
  refine go 4 ?_
  exact au (jF [])
 rw [if_neg ab] at h
 refine go 3 ?_
 refine aj (dg _ _ Tryz.underlying9 rfl rfl rfl) (am (ay rfl (fun hc44=> ?_) (fun hc44=> ?_)))
 ·rw [if_pos (show (cX T i).t=xE from hc44)] at h
  obtain rfl:=Option.some.inj h
  refine go 3 ?_
  refine ax (hK8 _ ?_)
  refine aG (ef rfl (aj (bF (htake)) (am (aE ?_))))
  refine az (σ':=an 72 [(4,_),(7,_)] [((4,0),_),((7,0),_),((0,9),_)] [(0,9)] [(0,9)]) kp ?_
  refine go 4 ?_
  exact au (jF [])
 rw [if_neg (show ¬ (cX T i).t=xE from hc44)] at h
 refine go 3 ?_
 refine aj (dg _ _ Tryz.underlying9 rfl rfl rfl) (am (ay rfl (fun hc48=> ?_) (fun hc48=> ?_)))
 ·rw [if_pos (show (cX T i).t=tW from hc48)] at h
  obtain rfl:=Option.some.inj h
  refine az (σ':=an 72 [(0,_),(4,_),(7,_)] [((0,9),_),((4,0),_),((7,0),_)] [(0,9)] [(0,9)]) kp ?_
  refine go 3 ?_
  refine ax (hK8 _ ?_)
  refine aG (ef rfl (aj (bF (htake)) (go 5 ?_)))
  exact au (jF [])
 rw [if_neg (show ¬ (cX T i).t=tW from hc48)] at h
 refine aE ?_
 refine az (σ':=an 72 [(0,_),(4,_),(5,_),(7,_)] [((0,9),_),((4,0),_),((5,0),_),((7,0),_)] [(0,9)] [(0,9)]) kp ?_
 refine dA 4 [] ?_
 refine aB (_,[]) (fun τ=> (ap aa (by repeat' (exact cp)) (mr) rfl rfl)) ?_
 refine go 5 ?_
 refine aB (_,[]) (fun τ=> (ap aa al (ca bltT 9 rfl ab (cX T i).t) rfl rfl)) ?_
 refine go 1 ?_
 refine cq ⟨rfl,?_⟩
 refine am (ay rfl (fun hc53=> ?_) (fun hc53=> ?_))
 ·rw [if_pos hc53] at h
  obtain rfl:=Option.some.inj h
  refine go 5 ?_
  refine ax (hK8 _ ?_)
  refine aG (ef rfl (aj (bF (htake)) (go 5 ?_)))
  exact au (jF [])
 rw [if_neg hc53] at h
 refine aG (ef rfl (aj (aZ aa _ _ ar (dG T i N hi) tr rfl ae (by simp)) ?_))
 refine am (ay rfl (fun hc58=> ?_) (fun hc58=> ?_))
 ·rw [if_pos hc58] at h
  obtain rfl:=Option.some.inj h
  refine go 5 ?_
  refine ax (hK8 _ ?_)
  refine aG (ef rfl (aj (bF (htake)) (go 5 ?_)))
  exact au (jF [])
 exact absurd h (by rw [if_neg (by simp [hc58])];exact fun e=> by cases e)
theorem Fk (pr:Nat) (h:1≤pr∧pr≤6∧pr≠3):([PV.v (.slice none 0 0), .sl 1 (fc [[124,124]]), .sl 1 (fc [[38,38]]), .v (.slice none 0 0), .sl 6 (fc [[60],[60,61],[62],[62,61],[61,61],[33,61]]), .sl 2 (fc [[43],[45]]), .sl 2 (fc [[42],[47]])]:List PV)[pr]? =some (.sl (opsP.getD pr []).length (fc (opsP.getD pr []))):=by
 have:pr=1∨pr=2∨pr=4∨pr=5∨pr=6:=by omega
 rcases this with rfl | rfl | rfl | rfl | rfl <;> rfl
theorem Hu (pr:Nat):(opsP.getD pr []).length≤6:=by
 unfold opsP
 match pr with
 | 0=> decide | 1=> decide | 2=> decide | 3=> decide | 4=> decide | 5=> decide | 6=> decide
 | n+7=> simp
theorem qg {f lv pr:Nat} {d:Nd} {i:Nat} {r:Nd×Nat} (h:nR T f lv pr d i=some r): ∃ g,f=g+1∧((cX T i).t∉opsP.getD pr []∧r=(d,i)∨(cX T i).t∈opsP.getD pr []∧ ∃ e j,gy T g lv (pr+1) (br T i)=some (e,j)∧
  (pr=4∧r=(nd 18 0 (cX T i).t [d,e],j)∨pr≠4∧nR T g lv pr (nd 18 0 (cX T i).t [d,e]) j=some r)):=by
 cases f with
 | zero=> simp [nR] at h
 | succ g=>
  refine ⟨g,rfl,?_⟩
  unfold nR at h
  split at h
  ·rename_i hm
   simp only [Option.bind_eq_bind,Option.bind_eq_some_iff,Option.pure_def] at h
   obtain ⟨⟨e,j⟩,he,h⟩:=h
   refine .inr ⟨hm,e,j,he,?_⟩
   split at h
   ·rename_i h4;exact .inl ⟨h4,(Option.some.inj h).symm⟩
   rename_i h4;exact .inr ⟨h4,h⟩
  rename_i hm;exact .inl ⟨hm,(Option.some.inj h).symm⟩
theorem Dc (hT:T.length≤100000) (f:Nat) (ih: ∀ g,g≤f→PE T N g) (lv pr i:Nat) (r:Nd×Nat) (hl:lv≤20) (hp:1≤pr∧pr≤6∧pr≠3) (hi:i < T.length) (h:zF T (f+1) lv pr i=some r):
  r.2 < T.length∧Spec Tryz.prog 236 (aL [.ptr (0,9) 0, .v (.int .i64 (lv:Int)), .v (.int .i64 (pr:Int))] (dL T i N)) (PO T N r):=by
 unfold zF at h
 simp only [Option.bind_eq_bind,Option.bind_eq_some_iff] at h
 obtain ⟨⟨d,j⟩,hd,h⟩:=h
 simp only at h
 obtain ⟨ha,hb⟩:=(ih f (Nat.le_refl _)).expr _ _ _ _ hl ab hi hd
 have hend: ∀ (g:Nat) (d:Nd) (i:Nat),g≤f→i < T.length→nR T g lv pr d i=some r→r.2 < T.length:=by
  intro g
  induction g with
  | zero=> intro d i _ _ h;simp [nR] at h
  | succ g ihg=>
   intro d i hg hi h
   obtain ⟨g',hg',h | ⟨_,e,j,he,h⟩⟩:=qg h
   ·rw [h.2];exact hi
   obtain rfl:g=g':=by omega
   have hj:=((ih g ab).expr _ _ _ _ hl ab (dS hi) he).1
   rcases h with h | h
   ·rw [h.2];exact hj
   exact ihg _ _ ab hj h.2
 refine ⟨hend f d j (Nat.le_refl _) ha h,?_⟩
 have hol:=Hu pr
 refine Spec.ofNI Tryz.func236 rfl Tryz.ntmps236 rfl ?_
 refine go 17 ?_
 refine aj (bF (hb)) (go 3 ?_)
 refine aF fun K4 hK4=> ?_
 refine aH ?_
 refine aT (α:=Nat×Nd×Nat) (fun z=> z.1≤f∧z.2.2 < T.length∧nR T z.1 lv pr z.2.1 z.2.2=some r) 53 [(0,_),(1,_),(2,_),(6,_),(7,_),(8,_)] [((6,0),_)] (fun z=> []) (fun z=> [((0,9), .box 222 [.sl T.length (um T), .v (.int .i64 (z.2.2:Int)), .v (.int .i64 0), .v (.int .i64 0), .sl N.length (fc N)]),((8,0), .box 71 [.v (.int .i64 (z.2.1.k:Int)), .v (.int .i64 (z.2.1.n:Int)), .v (bt z.2.1.s), .sl z.2.1.kn z.2.1.kids])]) [(0,9)] [(0,9)] (fun z=> z.1) (f,d,j) ?_ (kj [0,1,1] [] []) ?_
 ·exact ⟨Nat.le_refl _,ha,h⟩
 intro z hz
 obtain ⟨z1,z2,z3⟩:=z
 obtain ⟨hz1,hz2,hz3⟩:=hz
 obtain ⟨g,rfl,hm⟩:=qg hz3
 simp only at hz1 hz2 hm ⊢
 refine aF fun K5 hK5=> ?_
 refine aE (dA 14 [] ?_)
 refine go 16 ?_
 refine dM (_,[]) rfl (fun τ=> rfl) (fun τ=> aO _ _ aa rfl rfl _ rfl ab ah (by exact Nat.mul_one _)) ?_
 refine go 1 ?_
 refine dM (_,[]) rfl (fun τ=> rfl) (fun τ=> bl _ aa rfl (by exact Fk pr hp) rfl) ?_
 refine go 3 ?_
 refine dM (_,[]) rfl (fun τ=> rfl) (fun τ=> (aZ aa _ _ ar (bw T z3 N hz2) tr rfl ae (by simp))) ?_
 refine go 1 ?_
 refine dM (_,[]) rfl (fun τ=> rfl) (fun τ=> (ap aa al (ca (opsP.getD pr []) _ rfl ab (cX T z3).t) rfl rfl)) ?_
 refine go 5 ?_
 refine ay rfl (fun hc35=> ?_) (fun hc35=> ?_)
 ·obtain ⟨_,e,je,he,hm⟩:=hm.resolve_left fun x=> x.1 hc35
  obtain ⟨hea,heb⟩:=(ih g ab).expr _ _ _ _ hl ab (dS hz2) he
  refine aR (hK5 _ ?_)
  refine aH (aG (ef rfl (aj (aZ aa _ _ ar (bw T z3 N hz2) tr rfl ae (by simp)) ?_)))
  refine IC rfl (am (aE ?_))
  refine az (σ':=an 53 [(0,_),(1,_),(2,_),(6,_),(7,_),(8,_),(9,_)] [((6,0),_),((0,9),_),((8,0),_)] [(0,9)] [(0,9)]) kp ?_
  refine aD (ef rfl (aj (bF (bX T z3 N hz2 hT)) ?_))
  refine am (aF fun K9 hK9=> ?_)
  refine go 5 ?_
  refine aj (bF (heb)) (go 2 ?_)
  refine ax (hK9 _ ?_)
  refine go 8 ?_
  refine aE ?_
  refine az (σ':=an 53 [(0,_),(1,_),(2,_),(6,_),(7,_),(8,_)] [((6,0),_),((0,9),_),((8,0),_)] [(0,9)] [(0,9)]) kp ?_
  refine aD (bW rfl (aj (ba _ _ rfl rfl rfl) (am (ay rfl (fun hc51=> ?_) (fun hc51=> ?_)))))
  ·have hr:=(hm.resolve_right fun x=> x.1 ab).2
   subst hr
   refine aW (id (hK4 _ ?_))
   refine go 4 ?_
   exact au (jF [])
  have hm:=(hm.resolve_left fun x=> hc51 ab).2
  refine aR (⟨(g,nd 18 0 (cX T z3).t [z2,e],je),?_,?_,?_⟩)
  ·exact ⟨by simp only;omega,hea,hm⟩
  ·exact kj [0,1,1] [] []
  simp only;omega
 have hr:=(hm.resolve_right fun x=> hc35 x.1).2
 subst hr
 refine aW (id (hK4 _ ?_))
 refine go 4 ?_
 exact au (jF [])
theorem Je (hT:T.length≤100000): ∀ f g,g≤f→PE T N g:=by
 intro f
 induction f with
 | zero=>
  intro g hg
  obtain rfl:g=0:=by omega
  exact ⟨fun _ _ _ _ _ _ _ h=> by simp [gy] at h,fun _ _ _ _ _ _ _ _ h=> by simp [JT] at h,fun _ _ _ _ _ _ _ h=> by simp [zF] at h,fun _ _ _ _ _ h=> by simp [sV] at h,fun _ _ _ _ _ h=> by simp [wd] at h⟩
 | succ f ih=>
  intro g hg
  rcases Nat.lt_or_ge g (f+1) with h | h
  ·exact ih g ab
  obtain rfl:g=f+1:=by omega
  exact ⟨Ab f (ih f (Nat.le_refl _)),GD hT f (ih f (Nat.le_refl _)),Dc hT f ih,zn hT f (ih f (Nat.le_refl _)),zu hT f (ih f (Nat.le_refl _))⟩
theorem zV (hT:T.length≤100000) {f lv i:Nat} {r:Nd×Nat} (hl:lv≤20) (hi:i < T.length) (h:gy T f lv 1 i=some r):r.2 < T.length∧Spec Tryz.prog 226 (aL [.ptr (0,9) 0, .v (.int .i64 (lv:Int)), .v (.int .i64 1)] (dL T i N)) (PO T N r):=
 (Je hT f f (Nat.le_refl _)).expr lv 1 i r hl ab hi h
end
end Go.Proofs.YtmjnackchaahbaaGreat

set_option maxHeartbeats 2000000
namespace Go.Proofs.YtmjnackchaahbaaGreat
open Go.RowKit

structure PS (T:List Tk) (N:List Tx) (f:Nat):Prop where
 stm: ∀ lv i r,lv≤20→i < T.length→zc T f lv i=some r→r.2 < T.length∧Spec Tryz.prog 202 (aL [.ptr (0,9) 0, .v (.int .i64 (lv:Int))] (dL T i N)) (PO T N r)
 blk: ∀ lv i r,lv≤21→i < T.length→rI T f lv i=some r→r.2 < T.length∧Spec Tryz.prog 164 (aL [.ptr (0,9) 0, .v (.int .i64 (lv:Int))] (dL T i N)) (PO T N r)
def Fc:List Tx:=[wB,kG,ri,hY,lV,qo,nr,qK,qX]
theorem fQ {T:List Tk} {i:Nat} (h:xA (cX T i).t=true):et T i=false:=by unfold et;rw [h];simp
section
variable {T:List Tk} {N:List Tx}
theorem zM (hT:T.length≤100000) (lv i:Nat) (hl:lv≤20) (hi:i < T.length) (hn:et T i=true) {d:Nd} {j1 j2 j3:Nat} (h1:Spec Tryz.prog 162 (aL [.ptr (0,9) 0, .v (bt [61])] (dL T (br T i) N)) (aN (.tup []) (dL T j1 N) [(0,9)] [(0,9)])) (h2:Spec Tryz.prog 226 (aL [.ptr (0,9) 0, .v (.int .i64 (lv:Int)), .v (.int .i64 1)] (dL T j1 N)) (PO T N (d,j2))) (h3:Spec Tryz.prog 162 (aL [.ptr (0,9) 0, .v (bt [59])] (dL T j2 N)) (aN (.tup []) (dL T j3 N) [(0,9)] [(0,9)])):
  Spec Tryz.prog 202 (aL [.ptr (0,9) 0, .v (.int .i64 (lv:Int))] (dL T i N)) (PO T N (nd 1 0 (cX T i).t [d],j3)):=by
 refine Spec.ofNI Tryz.func202 rfl Tryz.ntmps202 rfl ?_
 refine go 5 ?_
 refine aj (aZ aa _ _ ar (bw T i N hi) tr rfl ae (by simp)) ?_
 refine go 10 ?_
 refine aj (aZ aa _ _ ar (dG T i N hi) tr rfl ae (by simp)) ?_
 refine am (fR rfl hn (aG (ef rfl (aj (bF (bX T i N hi hT)) ?_))))
 refine am (aF fun K7 hK7=> ?_)
 refine aD (ef rfl (aj (bF (h1)) (ax (hK7 _ ?_))))
 refine aF fun K8 hK8=> ?_
 refine aD (sZ rfl (ef rfl (bW rfl (aj (bF (h2)) (go 3 ?_)))))
 refine ax (hK8 _ ?_)
 refine aF fun K9 hK9=> ?_
 refine az (σ':=an 145 [(0,_),(4,_),(6,_)] [((0,9),_),((4,0),_),((6,0),_)] [(0,9)] [(0,9)]) kp ?_
 refine aD (ef rfl (aj (bF (h3)) (ax (hK9 _ ?_))))
 refine go 4 ?_
 exact au (jF [])
theorem CT (hT:T.length≤100000) (lv i:Nat) (hl:lv≤20) (hi:i < T.length) (ht:(cX T i).t=kG) {c x:Nd} {j1 j2:Nat} (h1:Spec Tryz.prog 226 (aL [.ptr (0,9) 0, .v (.int .i64 (lv:Int)), .v (.int .i64 1)] (dL T (br T i) N)) (PO T N (c,j1))) (h2:Spec Tryz.prog 164 (aL [.ptr (0,9) 0, .v (.int .i64 ((lv+1:Nat):Int))] (dL T j1 N)) (PO T N (x,j2))):
  Spec Tryz.prog 202 (aL [.ptr (0,9) 0, .v (.int .i64 (lv:Int))] (dL T i N)) (PO T N (nd 3 0 [] [c,x],j2)):=by
 have hnx:=bw T i N hi
 have hn:et T i=false:=fQ (by rw [ht];rfl)
 rw [ht] at hnx
 refine Spec.ofNI Tryz.func202 rfl Tryz.ntmps202 rfl ?_
 refine go 5 ?_
 refine aj (aZ aa _ _ ar (hnx) tr rfl ae (by simp)) ?_
 refine go 10 ?_
 refine aj (aZ aa _ _ ar (dG T i N hi) tr rfl ae (by simp)) ?_
 refine am (cK rfl hn (go 5 ?_))
 refine aj (ap aa al (ca Fc 9 rfl ab kG) rfl rfl) ?_
 refine go 6 ?_
 refine aj (bF (bX T i N hi hT)) ?_
 refine am (aE (aE ?_))
 refine az (σ':=an 145 [(0,_),(1,_),(4,_),(5,_),(6,_)] [((0,9),_),((4,0),_),((6,0),_)] [(0,9)] [(0,9)]) kp ?_
 refine go 15 ?_
 refine aF fun K13 hK13=> ?_
 refine aD (ef rfl (bW rfl (aj (bF (h1)) (go 2 ?_))))
 refine ax (hK13 _ ?_)
 refine aF fun K14 hK14=> ?_
 refine az (σ':=an 145 [(0,_),(1,_),(4,_),(5,_),(7,_)] [((0,9),_),((4,0),_),((7,0),_)] [(0,9)] [(0,9)]) kp ?_
 refine dA 5 [(0,9)] ?_
 refine go 8 ?_
 refine aB (_,[((0,9),_)]) (fun τ=> (jZ aa ar (h2) ob rfl rfl ae)) ?_
 refine go 4 ?_
 refine ax (hK14 _ ?_)
 refine go 11 ?_
 exact au (jF [])
theorem KD (hT:T.length≤100000) (lv i:Nat) (hl:lv≤20) (hi:i < T.length) (ht:(cX T i).t=wB) {c x:Nd} {j1 j2:Nat} (h1:Spec Tryz.prog 226 (aL [.ptr (0,9) 0, .v (.int .i64 (lv:Int)), .v (.int .i64 1)] (dL T (br T i) N)) (PO T N (c,j1))) (h2:Spec Tryz.prog 164 (aL [.ptr (0,9) 0, .v (.int .i64 ((lv+1:Nat):Int))] (dL T j1 N)) (PO T N (x,j2))) (hj:j2 < T.length) (he:(cX T j2).t≠tw):
  Spec Tryz.prog 202 (aL [.ptr (0,9) 0, .v (.int .i64 (lv:Int))] (dL T i N)) (PO T N (nd 2 0 [] [c,x,nd 11 0 [] []],j2)):=by
 have hnx:=bw T i N hi
 have hn:et T i=false:=fQ (by rw [ht];rfl)
 rw [ht] at hnx
 refine Spec.ofNI Tryz.func202 rfl Tryz.ntmps202 rfl ?_
 refine go 5 ?_
 refine aj (aZ aa _ _ ar (hnx) tr rfl ae (by simp)) ?_
 refine go 10 ?_
 refine aj (aZ aa _ _ ar (dG T i N hi) tr rfl ae (by simp)) ?_
 refine am (cK rfl hn (go 5 ?_))
 refine aj (ap aa al (ca Fc 9 rfl ab wB) rfl rfl) ?_
 refine go 6 ?_
 refine aj (bF (bX T i N hi hT)) ?_
 refine am (aE (aE ?_))
 refine az (σ':=an 145 [(0,_),(1,_),(4,_),(5,_),(6,_)] [((0,9),_),((4,0),_),((6,0),_)] [(0,9)] [(0,9)]) kp ?_
 refine go 12 ?_
 refine aF fun K13 hK13=> ?_
 refine aD (ef rfl (bW rfl (aj (bF (h1)) (go 2 ?_))))
 refine ax (hK13 _ ?_)
 refine aF fun K14 hK14=> ?_
 refine az (σ':=an 145 [(0,_),(1,_),(4,_),(5,_),(7,_)] [((0,9),_),((4,0),_),((7,0),_)] [(0,9)] [(0,9)]) kp ?_
 refine dA 5 [(0,9)] ?_
 refine go 8 ?_
 refine aB (_,[((0,9),_)]) (fun τ=> (jZ aa ar (h2) ob rfl rfl ae)) ?_
 refine go 1 ?_
 refine cq ⟨rfl,?_⟩
 refine aj (ip (58,0) _ _ aa rfl ag (by (simp <;> rfl)) ah rfl rfl) ?_
 refine eu rfl (ax (hK14 _ ?_))
 refine go 21 ?_
 refine aV rfl rfl (aZ aa _ _ ar (bw T j2 N hj) tr rfl ae (by simp)) ?_
 refine aV rfl rfl (dg (r:=false) _ _ Tryz.underlying9 rfl rfl (beq_eq_false_iff_ne.2 he)) ?_
 refine go 4 ?_
 refine aE ?_
 refine az (σ':=an 145 [(4,_),(8,_),(9,_)] [((4,0),_),((58,0),_),((9,0),_),((0,9),_)] [(0,9)] [(0,9)]) kp ?_
 refine aD (iE rfl (bu (Le.nil0 (9,0) 3 rfl rfl) ?_))
 refine go 2 ?_
 refine aj (bI (83,0) _ _ aa rfl rfl ag (by (refine .sl ?_;(simp [be];done))) ab rfl (rfl) (rfl)) ?_
 refine go 3 ?_
 exact au (cg (.inr rfl) rfl (.cellA aa rfl rfl rfl) (Le.outI [] [(83,0)] (.agg rfl (ai .v (ai .v (ai .v (ai (dH rfl rfl rfl rfl) aK))))) rfl rfl rfl tr ob tr rfl))
theorem Ar (hT:T.length≤100000) (lv i:Nat) (hl:lv≤20) (hi:i < T.length) (ht:(cX T i).t=wB) {c x y:Nd} {j1 j2 j3:Nat} (h1:Spec Tryz.prog 226 (aL [.ptr (0,9) 0, .v (.int .i64 (lv:Int)), .v (.int .i64 1)] (dL T (br T i) N)) (PO T N (c,j1))) (h2:Spec Tryz.prog 164 (aL [.ptr (0,9) 0, .v (.int .i64 ((lv+1:Nat):Int))] (dL T j1 N)) (PO T N (x,j2))) (hj:j2 < T.length) (he:(cX T j2).t=tw) (h3:Spec Tryz.prog 164 (aL [.ptr (0,9) 0, .v (.int .i64 ((lv+1:Nat):Int))] (dL T (br T j2) N)) (PO T N (y,j3))):
  Spec Tryz.prog 202 (aL [.ptr (0,9) 0, .v (.int .i64 (lv:Int))] (dL T i N)) (PO T N (nd 2 0 [] [c,x,y],j3)):=by
 have hnx:=bw T i N hi
 have hn:et T i=false:=fQ (by rw [ht];rfl)
 rw [ht] at hnx
 refine Spec.ofNI Tryz.func202 rfl Tryz.ntmps202 rfl ?_
 refine go 5 ?_
 refine aj (aZ aa _ _ ar (hnx) tr rfl ae (by simp)) ?_
 refine go 10 ?_
 refine aj (aZ aa _ _ ar (dG T i N hi) tr rfl ae (by simp)) ?_
 refine am (cK rfl hn (go 5 ?_))
 refine aj (ap aa al (ca Fc 9 rfl ab wB) rfl rfl) ?_
 refine go 6 ?_
 refine aj (bF (bX T i N hi hT)) ?_
 refine am (aE (aE ?_))
 refine az (σ':=an 145 [(0,_),(1,_),(4,_),(5,_),(6,_)] [((0,9),_),((4,0),_),((6,0),_)] [(0,9)] [(0,9)]) kp ?_
 refine go 12 ?_
 refine aF fun K13 hK13=> ?_
 refine aD (ef rfl (bW rfl (aj (bF (h1)) (go 2 ?_))))
 refine ax (hK13 _ ?_)
 refine aF fun K14 hK14=> ?_
 refine az (σ':=an 145 [(0,_),(1,_),(4,_),(5,_),(7,_)] [((0,9),_),((4,0),_),((7,0),_)] [(0,9)] [(0,9)]) kp ?_
 refine dA 5 [(0,9)] ?_
 refine go 8 ?_
 refine aB (_,[((0,9),_)]) (fun τ=> (jZ aa ar (h2) ob rfl rfl ae)) ?_
 refine go 1 ?_
 refine cq ⟨rfl,?_⟩
 refine aj (ip (58,0) _ _ aa rfl ag (by (simp <;> rfl)) ah rfl rfl) ?_
 refine eu rfl (ax (hK14 _ ?_))
 refine go 12 ?_
 refine aF fun K18 hK18=> ?_
 refine go 8 ?_
 refine aV rfl rfl (aZ aa _ _ ar (bw T j2 N hj) tr rfl ae (by simp)) ?_
 refine aV rfl rfl (dg (r:=true) _ _ Tryz.underlying9 rfl rfl (beq_iff_eq.2 he)) ?_
 refine go 3 ?_
 refine aF fun K20 hK20=> ?_
 refine az (σ':=an 145 [(0,_),(1,_),(4,_),(8,_),(9,_)] [((0,9),_),((4,0),_),((58,0),_),((9,0),_)] [(0,9)] [(0,9)]) kp ?_
 refine aD (ef rfl (aj (bF (bX T j2 N hj hT)) ?_))
 refine ax (hK20 _ ?_)
 refine go 4 ?_
 refine aj (bF (h3)) (Lc rfl rfl rfl rfl rfl rfl (ax (hK18 _ ?_)))
 refine go 4 ?_
 refine aj (bI (83,0) _ _ aa rfl rfl ag (by (refine .sl ?_;(simp [be];done))) ab rfl (rfl) (rfl)) ?_
 refine go 3 ?_
 exact au (cg (.inr rfl) rfl (.cellA aa rfl rfl rfl) (Le.outI [] [(83,0)] (.agg rfl (ai .v (ai .v (ai .v (ai (dH rfl rfl rfl rfl) aK))))) rfl rfl rfl tr ob tr rfl))
theorem GZ (hT:T.length≤100000) (lv i:Nat) (hl:lv≤20) (hi:i < T.length) (ht:(cX T i).t=ri) {x y z:Nd} {k j1 j2 j3 j4 j5 j6 j7 j8:Nat} (h1:Spec Tryz.prog 226 (aL [.ptr (0,9) 0, .v (.int .i64 (lv:Int)), .v (.int .i64 1)] (dL T (br T i) N)) (PO T N (x,j1))) (h2:Spec Tryz.prog 162 (aL [.ptr (0,9) 0, .v (bt [44])] (dL T j1 N)) (aN (.tup []) (dL T j2 N) [(0,9)] [(0,9)])) (h3:Spec Tryz.prog 200 (aL [.ptr (0,9) 0, .v (.int .i64 29)] (dL T j2 N)) (aN (.v (.int .i64 (k:Int))) (dL T j3 N) [(0,9)] [(0,9)])) (h4:Spec Tryz.prog 162 (aL [.ptr (0,9) 0, .v (bt [44])] (dL T j3 N)) (aN (.tup []) (dL T j4 N) [(0,9)] [(0,9)])) (h5:Spec Tryz.prog 226 (aL [.ptr (0,9) 0, .v (.int .i64 (lv:Int)), .v (.int .i64 1)] (dL T j4 N)) (PO T N (y,j5))) (h6:Spec Tryz.prog 162 (aL [.ptr (0,9) 0, .v (bt [44])] (dL T j5 N)) (aN (.tup []) (dL T j6 N) [(0,9)] [(0,9)])) (h7:Spec Tryz.prog 226 (aL [.ptr (0,9) 0, .v (.int .i64 (lv:Int)), .v (.int .i64 1)] (dL T j6 N)) (PO T N (z,j7))) (h8:Spec Tryz.prog 162 (aL [.ptr (0,9) 0, .v (bt [59])] (dL T j7 N)) (aN (.tup []) (dL T j8 N) [(0,9)] [(0,9)])):
  Spec Tryz.prog 202 (aL [.ptr (0,9) 0, .v (.int .i64 (lv:Int))] (dL T i N)) (PO T N (nd 4 k [] [x,y,z],j8)):=by
 have hnx:=bw T i N hi
 have hn:et T i=false:=fQ (by rw [ht];rfl)
 rw [ht] at hnx
 refine Spec.ofNI Tryz.func202 rfl Tryz.ntmps202 rfl ?_
 refine go 5 ?_
 refine aj (aZ aa _ _ ar (hnx) tr rfl ae (by simp)) ?_
 refine go 10 ?_
 refine aj (aZ aa _ _ ar (dG T i N hi) tr rfl ae (by simp)) ?_
 refine am (cK rfl hn (go 5 ?_))
 refine aj (ap aa al (ca Fc 9 rfl ab ri) rfl rfl) ?_
 refine go 6 ?_
 refine aj (bF (bX T i N hi hT)) ?_
 refine am (aF fun K9 hK9=> ?_)
 refine aE ?_
 refine az (σ':=an 145 [(0,_),(1,_),(4,_),(5,_),(6,_)] [((0,9),_),((4,0),_),((6,0),_)] [(0,9)] [(0,9)]) kp ?_
 refine go 20 ?_
 refine aF fun K14 hK14=> ?_
 refine aD (ef rfl (bW rfl (aj (bF (h1)) (go 2 ?_))))
 refine ax (hK14 _ ?_)
 refine aF fun K15 hK15=> ?_
 refine aD (ef rfl (aj (bF (h2)) (ax (hK15 _ ?_))))
 refine aF fun K16 hK16=> ?_
 refine aD (ef rfl (aj (bF (h3)) (cC rfl (ax (hK16 _ ?_)))))
 refine aF fun K17 hK17=> ?_
 refine az (σ':=an 145 [(0,_),(1,_),(4,_),(6,_),(10,_),(11,_)] [((0,9),_),((4,0),_),((6,0),_),((10,0),_)] [(0,9)] [(0,9)]) kp ?_
 refine aD (ef rfl (aj (bF (h4)) (ax (hK17 _ ?_))))
 refine aF fun K18 hK18=> ?_
 refine aD (ef rfl (bW rfl (aj (bF (h5)) (go 2 ?_))))
 refine ax (hK18 _ ?_)
 refine aF fun K19 hK19=> ?_
 refine aD (ef rfl (aj (bF (h6)) (ax (hK19 _ ?_))))
 refine az (σ':=an 145 [(0,_),(1,_),(4,_),(6,_),(10,_),(11,_),(12,_)] [((0,9),_),((4,0),_),((6,0),_),((10,0),_),((12,0),_)] [(0,9)] [(0,9)]) kp ?_
 refine dA 7 [(0,9)] ?_
 refine go 10 ?_
 refine aB (_,[((0,9),_)]) (fun τ=> (jZ aa ar (h7) ob rfl rfl ae)) ?_
 refine go 1 ?_
 refine aB (_,[]) (fun τ=> gX _ _ aa rfl ag (by (simp;exact ⟨rfl,rfl⟩)) ah rfl) ?_
 refine go 4 ?_
 refine ax (hK9 _ ?_)
 refine aF fun K20 hK20=> ?_
 refine aD (ef rfl (aj (bF (h8)) (ax (hK20 _ ?_))))
 refine go 4 ?_
 exact au (jF [])
theorem BF (hT:T.length≤100000) (lv i:Nat) (hl:lv≤20) (hi:i < T.length) (ht:(cX T i).t=hY) {k j1 j2:Nat} (h1:Spec Tryz.prog 200 (aL [.ptr (0,9) 0, .v (.int .i64 7)] (dL T (br T i) N)) (aN (.v (.int .i64 (k:Int))) (dL T j1 N) [(0,9)] [(0,9)])) (h2:Spec Tryz.prog 162 (aL [.ptr (0,9) 0, .v (bt [59])] (dL T j1 N)) (aN (.tup []) (dL T j2 N) [(0,9)] [(0,9)])):
  Spec Tryz.prog 202 (aL [.ptr (0,9) 0, .v (.int .i64 (lv:Int))] (dL T i N)) (PO T N (nd 5 k [] [],j2)):=by
 have hnx:=bw T i N hi
 have hn:et T i=false:=fQ (by rw [ht];rfl)
 rw [ht] at hnx
 refine Spec.ofNI Tryz.func202 rfl Tryz.ntmps202 rfl ?_
 refine go 5 ?_
 refine aj (aZ aa _ _ ar (hnx) tr rfl ae (by simp)) ?_
 refine go 10 ?_
 refine aj (aZ aa _ _ ar (dG T i N hi) tr rfl ae (by simp)) ?_
 refine am (cK rfl hn (go 5 ?_))
 refine aj (ap aa al (ca Fc 9 rfl ab hY) rfl rfl) ?_
 refine go 6 ?_
 refine aj (bF (bX T i N hi hT)) ?_
 refine am (aF fun K9 hK9=> ?_)
 refine aE ?_
 refine az (σ':=an 145 [(0,_),(1,_),(4,_),(5,_),(6,_)] [((0,9),_),((4,0),_),((6,0),_)] [(0,9)] [(0,9)]) kp ?_
 refine go 27 ?_
 refine aj (bF (h1)) (go 2 ?_)
 refine ax (hK9 _ ?_)
 refine aF fun K15 hK15=> ?_
 refine aD (ef rfl (aj (bF (h2)) (ax (hK15 _ ?_))))
 refine aE ?_
 refine az (σ':=an 145 [(4,_),(6,_)] [((4,0),_),((6,0),_),((0,9),_)] [(0,9)] [(0,9)]) kp ?_
 refine go 4 ?_
 exact au (jF [])
theorem AK (hT:T.length≤100000) (lv i:Nat) (hl:lv≤20) (hi:i < T.length) (ht:(cX T i).t=lV) {k j1 j2:Nat} (h1:Spec Tryz.prog 200 (aL [.ptr (0,9) 0, .v (.int .i64 7)] (dL T (br T i) N)) (aN (.v (.int .i64 (k:Int))) (dL T j1 N) [(0,9)] [(0,9)])) (h2:Spec Tryz.prog 162 (aL [.ptr (0,9) 0, .v (bt [59])] (dL T j1 N)) (aN (.tup []) (dL T j2 N) [(0,9)] [(0,9)])):
  Spec Tryz.prog 202 (aL [.ptr (0,9) 0, .v (.int .i64 (lv:Int))] (dL T i N)) (PO T N (nd 6 k [] [],j2)):=by
 have hnx:=bw T i N hi
 have hn:et T i=false:=fQ (by rw [ht];rfl)
 rw [ht] at hnx
 refine Spec.ofNI Tryz.func202 rfl Tryz.ntmps202 rfl ?_
 refine go 5 ?_
 refine aj (aZ aa _ _ ar (hnx) tr rfl ae (by simp)) ?_
 refine go 10 ?_
 refine aj (aZ aa _ _ ar (dG T i N hi) tr rfl ae (by simp)) ?_
 refine am (cK rfl hn (go 5 ?_))
 refine aj (ap aa al (ca Fc 9 rfl ab lV) rfl rfl) ?_
 refine go 6 ?_
 refine aj (bF (bX T i N hi hT)) ?_
 refine am (aF fun K9 hK9=> ?_)
 refine aE ?_
 refine az (σ':=an 145 [(0,_),(1,_),(4,_),(5,_),(6,_)] [((0,9),_),((4,0),_),((6,0),_)] [(0,9)] [(0,9)]) kp ?_
 refine go 32 ?_
 refine aj (bF (h1)) (go 2 ?_)
 refine ax (hK9 _ ?_)
 refine aF fun K16 hK16=> ?_
 refine az (σ':=an 145 [(0,_),(4,_),(6,_)] [((0,9),_),((4,0),_),((6,0),_)] [(0,9)] [(0,9)]) kp ?_
 refine aD (ef rfl (aj (bF (h2)) (ax (hK16 _ ?_))))
 refine go 4 ?_
 exact au (jF [])
theorem Ez (hT:T.length≤100000) (lv i:Nat) (hl:lv≤20) (hi:i < T.length) (ht:(cX T i).t=nr) {x y:Nd} {j1 j2 j3 j4:Nat} (h1:Spec Tryz.prog 226 (aL [.ptr (0,9) 0, .v (.int .i64 (lv:Int)), .v (.int .i64 1)] (dL T (br T i) N)) (PO T N (x,j1))) (h2:Spec Tryz.prog 162 (aL [.ptr (0,9) 0, .v (bt [44])] (dL T j1 N)) (aN (.tup []) (dL T j2 N) [(0,9)] [(0,9)])) (h3:Spec Tryz.prog 226 (aL [.ptr (0,9) 0, .v (.int .i64 (lv:Int)), .v (.int .i64 1)] (dL T j2 N)) (PO T N (y,j3))) (h4:Spec Tryz.prog 162 (aL [.ptr (0,9) 0, .v (bt [59])] (dL T j3 N)) (aN (.tup []) (dL T j4 N) [(0,9)] [(0,9)])):
  Spec Tryz.prog 202 (aL [.ptr (0,9) 0, .v (.int .i64 (lv:Int))] (dL T i N)) (PO T N (nd 8 0 [] [x,y],j4)):=by
 have hnx:=bw T i N hi
 have hn:et T i=false:=fQ (by rw [ht];rfl)
 rw [ht] at hnx
 refine Spec.ofNI Tryz.func202 rfl Tryz.ntmps202 rfl ?_
 refine go 5 ?_
 refine aj (aZ aa _ _ ar (hnx) tr rfl ae (by simp)) ?_
 refine go 10 ?_
 refine aj (aZ aa _ _ ar (dG T i N hi) tr rfl ae (by simp)) ?_
 refine am (cK rfl hn (go 5 ?_))
 refine aj (ap aa al (ca Fc 9 rfl ab nr) rfl rfl) ?_
 refine go 6 ?_
 refine aj (bF (bX T i N hi hT)) ?_
 refine am (aF fun K9 hK9=> ?_)
 refine aE ?_
 refine az (σ':=an 145 [(0,_),(1,_),(4,_),(5,_),(6,_)] [((0,9),_),((4,0),_),((6,0),_)] [(0,9)] [(0,9)]) kp ?_
 refine go 35 ?_
 refine aF fun K17 hK17=> ?_
 refine aD (ef rfl (bW rfl (aj (bF (h1)) (go 2 ?_))))
 refine ax (hK17 _ ?_)
 refine aF fun K18 hK18=> ?_
 refine az (σ':=an 145 [(0,_),(1,_),(4,_),(6,_),(13,_)] [((0,9),_),((4,0),_),((6,0),_),((13,0),_)] [(0,9)] [(0,9)]) kp ?_
 refine aD (ef rfl (aj (bF (h2)) (ax (hK18 _ ?_))))
 refine dA 4 [(0,9)] ?_
 refine go 6 ?_
 refine aB (_,[((0,9),_)]) (fun τ=> (jZ aa ar (h3) ob rfl rfl ae)) ?_
 refine go 5 ?_
 refine ax (hK9 _ ?_)
 refine aF fun K19 hK19=> ?_
 refine aD (ef rfl (aj (bF (h4)) (ax (hK19 _ ?_))))
 refine go 4 ?_
 exact au (jF [])
theorem FU (hT:T.length≤100000) (lv i:Nat) (hl:lv≤20) (hi:i < T.length) (ht:(cX T i).t=qK) {x:Nd} {j1 j2:Nat} (h1:Spec Tryz.prog 226 (aL [.ptr (0,9) 0, .v (.int .i64 (lv:Int)), .v (.int .i64 1)] (dL T (br T i) N)) (PO T N (x,j1))) (h2:Spec Tryz.prog 162 (aL [.ptr (0,9) 0, .v (bt [59])] (dL T j1 N)) (aN (.tup []) (dL T j2 N) [(0,9)] [(0,9)])):
  Spec Tryz.prog 202 (aL [.ptr (0,9) 0, .v (.int .i64 (lv:Int))] (dL T i N)) (PO T N (nd 9 0 [] [x],j2)):=by
 have hnx:=bw T i N hi
 have hn:et T i=false:=fQ (by rw [ht];rfl)
 rw [ht] at hnx
 refine Spec.ofNI Tryz.func202 rfl Tryz.ntmps202 rfl ?_
 refine go 5 ?_
 refine aj (aZ aa _ _ ar (hnx) tr rfl ae (by simp)) ?_
 refine go 10 ?_
 refine aj (aZ aa _ _ ar (dG T i N hi) tr rfl ae (by simp)) ?_
 refine am (cK rfl hn (go 5 ?_))
 refine aj (ap aa al (ca Fc 9 rfl ab qK) rfl rfl) ?_
 refine go 6 ?_
 refine aj (bF (bX T i N hi hT)) ?_
 refine am (aF fun K9 hK9=> ?_)
 refine aE ?_
 refine az (σ':=an 145 [(0,_),(1,_),(4,_),(5,_),(6,_)] [((0,9),_),((4,0),_),((6,0),_)] [(0,9)] [(0,9)]) kp ?_
 refine go 40 ?_
 refine az (σ':=an 145 [(0,_),(1,_),(4,_),(6,_)] [((0,9),_),((4,0),_),((6,0),_)] [(0,9)] [(0,9)]) kp ?_
 refine aD (ef rfl (bW rfl (aj (bF (h1)) (go 3 ?_))))
 refine ax (hK9 _ ?_)
 refine aF fun K18 hK18=> ?_
 refine aD (ef rfl (aj (bF (h2)) (ax (hK18 _ ?_))))
 refine go 4 ?_
 exact au (jF [])
theorem Gj (hT:T.length≤100000) (lv i:Nat) (hl:lv≤20) (hi:i < T.length) (ht:(cX T i).t=qo) {j1:Nat} (h1:Spec Tryz.prog 162 (aL [.ptr (0,9) 0, .v (bt [59])] (dL T (br T i) N)) (aN (.tup []) (dL T j1 N) [(0,9)] [(0,9)])):
  Spec Tryz.prog 202 (aL [.ptr (0,9) 0, .v (.int .i64 (lv:Int))] (dL T i N)) (PO T N (nd 7 0 [] [],j1)):=by
 have hnx:=bw T i N hi
 have hn:et T i=false:=fQ (by rw [ht];rfl)
 rw [ht] at hnx
 refine Spec.ofNI Tryz.func202 rfl Tryz.ntmps202 rfl ?_
 refine go 5 ?_
 refine aj (aZ aa _ _ ar (hnx) tr rfl ae (by simp)) ?_
 refine go 10 ?_
 refine aj (aZ aa _ _ ar (dG T i N hi) tr rfl ae (by simp)) ?_
 refine am (cK rfl hn (go 5 ?_))
 refine aj (ap aa al (ca Fc 9 rfl ab qo) rfl rfl) ?_
 refine go 6 ?_
 refine aj (bF (bX T i N hi hT)) ?_
 refine am (aE (aE ?_))
 refine az (σ':=an 145 [(0,_),(1,_),(4,_),(5,_),(6,_)] [((0,9),_),((4,0),_),((6,0),_)] [(0,9)] [(0,9)]) kp ?_
 refine go 40 ?_
 refine aE ?_
 refine az (σ':=an 145 [(0,_),(4,_),(6,_),(45,_)] [((0,9),_),((4,0),_),((6,0),_)] [(0,9)] [(0,9)]) kp ?_
 refine go 9 ?_
 refine aF fun K19 hK19=> ?_
 refine aD (ef rfl (aj (bF (h1)) (ax (hK19 _ ?_))))
 refine go 4 ?_
 exact au (jF [])
theorem Gy (hT:T.length≤100000) (lv i:Nat) (hl:lv≤20) (hi:i < T.length) (ht:(cX T i).t=qX) {j1:Nat} (h1:Spec Tryz.prog 162 (aL [.ptr (0,9) 0, .v (bt [59])] (dL T (br T i) N)) (aN (.tup []) (dL T j1 N) [(0,9)] [(0,9)])):
  Spec Tryz.prog 202 (aL [.ptr (0,9) 0, .v (.int .i64 (lv:Int))] (dL T i N)) (PO T N (nd 10 0 [] [],j1)):=by
 have hnx:=bw T i N hi
 have hn:et T i=false:=fQ (by rw [ht];rfl)
 rw [ht] at hnx
 refine Spec.ofNI Tryz.func202 rfl Tryz.ntmps202 rfl ?_
 refine go 5 ?_
 refine aj (aZ aa _ _ ar (hnx) tr rfl ae (by simp)) ?_
 refine go 10 ?_
 refine aj (aZ aa _ _ ar (dG T i N hi) tr rfl ae (by simp)) ?_
 refine am (cK rfl hn (go 5 ?_))
 refine aj (ap aa al (ca Fc 9 rfl ab qX) rfl rfl) ?_
 refine go 6 ?_
 refine aj (bF (bX T i N hi hT)) ?_
 refine am (aE (aE ?_))
 refine az (σ':=an 145 [(0,_),(1,_),(4,_),(5,_),(6,_)] [((0,9),_),((4,0),_),((6,0),_)] [(0,9)] [(0,9)]) kp ?_
 refine go 40 ?_
 refine aE ?_
 refine az (σ':=an 145 [(0,_),(4,_),(6,_),(45,_)] [((0,9),_),((4,0),_),((6,0),_)] [(0,9)] [(0,9)]) kp ?_
 refine go 9 ?_
 refine aF fun K19 hK19=> ?_
 refine aD (ef rfl (aj (bF (h1)) (ax (hK19 _ ?_))))
 refine go 4 ?_
 exact au (jF [])
end
end Go.Proofs.YtmjnackchaahbaaGreat

set_option maxHeartbeats 2000000
namespace Go.Proofs.YtmjnackchaahbaaGreat
open Go.RowKit

def mG (l:List Nd):List PV:=l.flatMap Nd.row
theorem bm (l:List Nd):(mG l).length=l.length*4:=gQ Nd.row 4 (fun _=> rfl) l
theorem EX (l:List Nd) (d:Nd):mG l++d.row=mG (l++[d]):=jE Nd.row l d
theorem qk {T:List Tk} {g lv i:Nat} {r:List Nd×Nat} (h:nw T g lv i=some r): ∃ f,g=f+1∧((cX T i).t=[125]∧r=([],i)∨(cX T i).t≠[125]∧ ∃ d j l k,zc T f lv i=some (d,j)∧nw T f lv j=some (l,k)∧r=(d::l,k)):=by
 cases g with
 | zero=> simp [nw] at h
 | succ f=>
  refine ⟨f,rfl,?_⟩
  unfold nw at h
  split at h
  ·rename_i ht;exact .inl ⟨ht,(Option.some.inj h).symm⟩
  rename_i ht
  simp only [Option.bind_eq_bind,Option.bind_eq_some_iff,Option.pure_def] at h
  obtain ⟨⟨d,j⟩,hd,⟨l,k⟩,hl,h⟩:=h
  exact .inr ⟨ht,d,j,l,k,hd,hl,(Option.some.inj h).symm⟩
section
variable {T:List Tk} {N:List Tx}
theorem DD (hT:T.length≤100000) (f:Nat) (hf:f≤2000000) (ih: ∀ g,g≤f→PS T N g) (lv i:Nat) (r:Nd×Nat) (hl:lv≤21) (hi:i < T.length) (h:rI T (f+1) lv i=some r):
  r.2 < T.length∧Spec Tryz.prog 164 (aL [.ptr (0,9) 0, .v (.int .i64 (lv:Int))] (dL T i N)) (PO T N r):=by
 unfold rI at h
 simp only [Option.bind_eq_bind,Option.bind_eq_some_iff,Option.pure_def,Option.some.injEq] at h
 obtain ⟨j,hj,⟨L,j2⟩,hL,j3,hj3,rfl⟩:=h
 have ho:=ky hj
 have hjl:=jH ho.2 hi
 have hl':=ho.1
 have hopen:=oB T i j N [123] lv hi hT hj
 simp only at hj3 ⊢
 have hend: ∀ (g i:Nat) (r:List Nd×Nat),g≤f→i < T.length→nw T g lv i=some r→r.2 < T.length:=by
  intro g
  induction g with
  | zero=> intro i r _ _ h;simp [nw] at h
  | succ g ihg=>
   intro i r hg hi h
   obtain ⟨g',hg',h | ⟨_,d,j,l,k,hd,hm,h⟩⟩:=qk h
   ·rw [h.2];exact hi
   obtain rfl:g=g':=by omega
   rw [h]
   exact ihg j (l,k) ab ((ih g ab).stm _ _ _ hl' hi hd).1 hm
 have hj2:=hend f j _ (Nat.le_refl _) hjl hL
 refine ⟨jH hj3 hj2,?_⟩
 refine Spec.ofNI Tryz.func164 rfl Tryz.ntmps164 rfl ?_
 refine go 8 ?_
 refine aE ?_
 refine az (Le.nilB (5,0) 3 (60,0) 71 4 rfl rfl rfl) ?_
 refine aD (ef rfl (bW rfl (aj (bF (hopen)) (am (aF fun K4 hK4=> ?_)))))
 refine aH ?_
 refine aT (α:=Nat×List Nd×Nat) (fun z=> z.1≤f∧z.2.1.length+z.1=f∧z.2.2 < T.length∧ ∃ l,nw T z.1 lv z.2.2=some (l,j2)∧L=z.2.1++l) 31 [(0,_),(1,_),(4,_),(5,_)] [((4,0),_)] (fun z=> []) (fun z=> [((0,9), .box 222 [.sl T.length (um T), .v (.int .i64 (z.2.2:Int)), .v (.int .i64 0), .v (.int .i64 0), .sl N.length (fc N)]),((5,0), .box 71 [.v (.int .i64 11), .v (.int .i64 0), .v (bt []), .ref (60,0) 0 z.2.1.length]),((60,0), .row 71 4 (mG z.2.1))]) [(0,9)] [(0,9)] (fun z=> z.1) (f,[],j) ?_ (kj [0,1,1,2] [] []) ?_
 ·exact ⟨Nat.le_refl _,Nat.zero_add _,hjl,L,hL,rfl⟩
 intro z hz
 obtain ⟨z1,z2,z3⟩:=z
 obtain ⟨hz1,hz2,hz3,l,hz4,hz5⟩:=hz
 obtain ⟨g,rfl,hm⟩:=qk hz4
 simp only at hz1 hz2 hz3 hz5 hm ⊢
 refine aF fun K5 hK5=> ?_
 refine go 8 ?_
 refine aV rfl rfl (aZ aa _ _ ar (bw T z3 N hz3) tr rfl ae (by simp)) ?_
 refine aV rfl rfl (uj _ _ Tryz.underlying9 rfl rfl rfl) (go 2 ?_)
 refine ay rfl (fun hc19=> ?_) (fun hc19=> ?_)
 ·obtain ⟨_,d,jd,l',k',hd,hm',hr⟩:=hm.resolve_left fun x=> hc19 x.1
  obtain ⟨rfl,rfl⟩:=Prod.mk.inj hr
  obtain ⟨hda,hdb⟩:=(ih g ab).stm _ _ _ hl' hz3 hd
  have hlen:(z2++[d]).length=z2.length+1:=by simp
  refine aR (hK5 _ ?_)
  refine aH ?_
  refine az (σ':=an 31 [(0,_),(1,_),(4,_),(5,_)] [((4,0),_),((0,9),_),((5,0),_),((60,0),_)] [(0,9)] [(0,9)]) kp ?_
  refine dA 6 [(0,9)] ?_
  refine go 8 ?_
  refine aB (_,[((0,9),_)]) (fun τ=> (jZ aa ar (hdb) ob rfl rfl ae)) ?_
  refine go 4 ?_
  refine aj (bI (26,0) _ _ aa rfl rfl (bm _).symm (.sl rfl) ab rfl (EX _ d) hlen.symm) ?_
  refine go 2 ?_
  refine ax (⟨(g,z2++[d],jd),?_,?_,?_⟩)
  ·exact ⟨by simp only;omega,by simp only;omega,hda,l',hm',by rw [hz5];simp⟩
  ·refine Le.mkJ [((60,0),(26,0))] [] rfl ?_ ?_ trivial tr ?_
   ·exact ⟨(bs (id:=(0,9)) rfl),(by repeat' (exact Lv.v)),(bs (id:=(4,0)) rfl),(bs (id:=(5,0)) rfl),trivial⟩
   ·exact ⟨(cT rfl rfl rfl rfl (by repeat' (first | exact Lv.v | exact aK | refine ai ?_ ?_))),(cT rfl rfl rfl rfl lz),(cT rfl rfl rfl rfl (fJ (fJ (ai (by repeat' (exact Lv.v)) lz)))),(cL rfl rfl rfl ag),trivial⟩
   kernel_rfl
  simp only;omega
 obtain ⟨_,hr⟩:=hm.resolve_right fun x=> x.1 hc19
 obtain ⟨rfl,rfl⟩:=Prod.mk.inj hr
 rw [List.append_nil] at hz5
 subst hz5
 have hexp:=fE T j2 j3 N [125] hj2 hT hj3
 refine aW (id (hK4 _ ?_))
 refine aG (ef rfl (aj (bF (hexp)) (go 5 ?_)))
 exact au (cg (.inr rfl) rfl (.cellA aa rfl rfl rfl) (Le.outI [] [(60,0)] (.agg rfl (ai .v (ai .v (ai .v (ai (dH rfl rfl (bm _).symm rfl) aK))))) rfl rfl rfl tr ob tr rfl))
theorem tF {T:List Tk} {most i:Nat} {r:Nat×Nat} (h:pH T most i=some r) (hi:i < T.length):r.2 < T.length:=by
 unfold pH at h
 split at h
 ·rw [← Option.some.inj h];exact dS hi
 cases h
theorem Cn (hT:T.length≤100000) (f:Nat) (ih:PS T N f) (lv i:Nat) (r:Nd×Nat) (hl:lv≤20) (hi:i < T.length) (h:zc T (f+1) lv i=some r):
  r.2 < T.length∧Spec Tryz.prog 202 (aL [.ptr (0,9) 0, .v (.int .i64 (lv:Int))] (dL T i N)) (PO T N r):=by
 have htl:=dS hi
 have hx:=fun {i:Nat} {r:Nd×Nat} (hi:i < T.length) (h:gy T f lv 1 i=some r)=> zV (N:=N) hT hl hi h
 have hb:=fun {i:Nat} {r:Nd×Nat} (hi:i < T.length) (h:rI T f (lv+1) i=some r)=> ih.blk (lv+1) i r ab hi h
 have he:=fun {i j:Nat} {s:Tx} (hi:i < T.length) (h:gw T s i=some j)=> And.intro (jH h hi) (fE T i j N s hi hT h)
 have hn:=fun {i most:Nat} {r:Nat×Nat} (hm:most≤1000) (hi:i < T.length) (h:pH T most i=some r)=> And.intro (tF h hi) (lN T i N most hi hT hm r h)
 unfold zc at h
 simp only at h
 by_cases h0:et T i=true
 ·rw [if_pos h0] at h
  simp only [Option.bind_eq_bind,Option.bind_eq_some_iff,Option.pure_def,Option.some.injEq] at h
  obtain ⟨j1,e1,⟨d,j2⟩,e2,j3,e3,rfl⟩:=h
  obtain ⟨a1,b1⟩:=he htl e1
  obtain ⟨a2,b2⟩:=hx a1 e2
  obtain ⟨a3,b3⟩:=he a2 e3
  exact ⟨a3,zM hT lv i hl hi h0 b1 b2 b3⟩
 rw [if_neg h0] at h
 by_cases h1:(cX T i).t=wB∨(cX T i).t=kG
 ·rw [if_pos h1] at h
  simp only [Option.bind_eq_bind,Option.bind_eq_some_iff,Option.pure_def] at h
  obtain ⟨⟨c,j1⟩,e1,⟨x,j2⟩,e2,h⟩:=h
  obtain ⟨a1,b1⟩:=hx htl e1
  obtain ⟨a2,b2⟩:=hb a1 e2
  simp only at h
  by_cases hw:(cX T i).t=kG
  ·rw [if_pos hw] at h
   obtain rfl:=Option.some.inj h
   exact ⟨a2,CT hT lv i hl hi hw b1 b2⟩
  rw [if_neg hw] at h
  have hf:=h1.resolve_right hw
  by_cases hel:(cX T j2).t=tw
  ·rw [if_pos hel] at h
   simp only [Option.bind_eq_some_iff,Option.some.injEq] at h
   obtain ⟨⟨y,j3⟩,e3,rfl⟩:=h
   obtain ⟨a3,b3⟩:=hb (dS a2) e3
   exact ⟨a3,Ar hT lv i hl hi hf b1 b2 a2 hel b3⟩
  rw [if_neg hel] at h
  obtain rfl:=Option.some.inj h
  exact ⟨a2,KD hT lv i hl hi hf b1 b2 a2 hel⟩
 rw [if_neg h1] at h
 by_cases h2:(cX T i).t=ri
 ·rw [if_pos h2] at h
  simp only [Option.bind_eq_bind,Option.bind_eq_some_iff,Option.pure_def,Option.some.injEq] at h
  obtain ⟨⟨x,j1⟩,e1,j2,e2,⟨k,j3⟩,e3,j4,e4,⟨y,j5⟩,e5,j6,e6,⟨z,j7⟩,e7,j8,e8,rfl⟩:=h
  obtain ⟨a1,b1⟩:=hx htl e1
  obtain ⟨a2,b2⟩:=he a1 e2
  obtain ⟨a3,b3⟩:=hn ab a2 e3
  obtain ⟨a4,b4⟩:=he a3 e4
  obtain ⟨a5,b5⟩:=hx a4 e5
  obtain ⟨a6,b6⟩:=he a5 e6
  obtain ⟨a7,b7⟩:=hx a6 e7
  obtain ⟨a8,b8⟩:=he a7 e8
  exact ⟨a8,GZ hT lv i hl hi h2 b1 b2 b3 b4 b5 b6 b7 b8⟩
 rw [if_neg h2] at h
 by_cases h3:(cX T i).t=hY
 ·rw [if_pos h3] at h
  simp only [Option.bind_eq_bind,Option.bind_eq_some_iff,Option.pure_def,Option.some.injEq] at h
  obtain ⟨⟨k,j1⟩,e1,j2,e2,rfl⟩:=h
  obtain ⟨a1,b1⟩:=hn ab htl e1
  obtain ⟨a2,b2⟩:=he a1 e2
  exact ⟨a2,BF hT lv i hl hi h3 b1 b2⟩
 rw [if_neg h3] at h
 by_cases h4:(cX T i).t=lV
 ·rw [if_pos h4] at h
  simp only [Option.bind_eq_bind,Option.bind_eq_some_iff,Option.pure_def,Option.some.injEq] at h
  obtain ⟨⟨k,j1⟩,e1,j2,e2,rfl⟩:=h
  obtain ⟨a1,b1⟩:=hn ab htl e1
  obtain ⟨a2,b2⟩:=he a1 e2
  exact ⟨a2,AK hT lv i hl hi h4 b1 b2⟩
 rw [if_neg h4] at h
 by_cases h5:(cX T i).t=nr
 ·rw [if_pos h5] at h
  simp only [Option.bind_eq_bind,Option.bind_eq_some_iff,Option.pure_def,Option.some.injEq] at h
  obtain ⟨⟨x,j1⟩,e1,j2,e2,⟨y,j3⟩,e3,j4,e4,rfl⟩:=h
  obtain ⟨a1,b1⟩:=hx htl e1
  obtain ⟨a2,b2⟩:=he a1 e2
  obtain ⟨a3,b3⟩:=hx a2 e3
  obtain ⟨a4,b4⟩:=he a3 e4
  exact ⟨a4,Ez hT lv i hl hi h5 b1 b2 b3 b4⟩
 rw [if_neg h5] at h
 by_cases h6:(cX T i).t=qK
 ·rw [if_pos h6] at h
  simp only [Option.bind_eq_bind,Option.bind_eq_some_iff,Option.pure_def,Option.some.injEq] at h
  obtain ⟨⟨x,j1⟩,e1,j2,e2,rfl⟩:=h
  obtain ⟨a1,b1⟩:=hx htl e1
  obtain ⟨a2,b2⟩:=he a1 e2
  exact ⟨a2,FU hT lv i hl hi h6 b1 b2⟩
 rw [if_neg h6] at h
 by_cases h7:(cX T i).t=qo
 ·rw [if_pos h7] at h
  simp only [Option.bind_eq_bind,Option.bind_eq_some_iff,Option.pure_def,Option.some.injEq] at h
  obtain ⟨j1,e1,rfl⟩:=h
  obtain ⟨a1,b1⟩:=he htl e1
  exact ⟨a1,Gj hT lv i hl hi h7 b1⟩
 rw [if_neg h7] at h
 by_cases h8:(cX T i).t=qX
 ·rw [if_pos h8] at h
  simp only [Option.bind_eq_bind,Option.bind_eq_some_iff,Option.pure_def,Option.some.injEq] at h
  obtain ⟨j1,e1,rfl⟩:=h
  obtain ⟨a1,b1⟩:=he htl e1
  exact ⟨a1,Gy hT lv i hl hi h8 b1⟩
 rw [if_neg h8] at h
 cases h
theorem IR (hT:T.length≤100000): ∀ f,f≤2000000→ ∀ g,g≤f→PS T N g:=by
 intro f
 induction f with
 | zero=>
  intro _ g hg
  obtain rfl:g=0:=by omega
  exact ⟨fun _ _ _ _ _ h=> by simp [zc] at h,fun _ _ _ _ _ h=> by simp [rI] at h⟩
 | succ f ih=>
  intro hf g hg
  rcases Nat.lt_or_ge g (f+1) with h | h
  ·exact ih ab g ab
  obtain rfl:g=f+1:=by omega
  exact ⟨Cn hT f (ih ab f (Nat.le_refl _)),DD hT f ab (ih ab)⟩
theorem xz (hT:T.length≤100000) {f i:Nat} {r:Nd×Nat} (hf:f≤2000000) (hi:i < T.length) (h:rI T f 1 i=some r):r.2 < T.length∧Spec Tryz.prog 164 (aL [.ptr (0,9) 0, .v (.int .i64 1)] (dL T i N)) (PO T N r):=
 (IR hT f hf f (Nat.le_refl _)).blk 1 i r ab hi h
end

class MthV (P:Program) (t:TypeId) (name:String) (f e:outParam TypeId):Prop where
 out: ∀ (ad:Addr) (w:World),(method (P.types.size+Made.depth) t (.pointer (some ad)) name).run P w=((loadVar e ad).run P w).andThen fun v w'=> .ok (f,v) w'
theorem uv {P:Program} {t:TypeId} {ad:Addr} {nm:String} {w:World}:(Builtin.ssaWrapNilChk_ #[t] t #[.pointer (some ad),strVal "",strVal nm]).run P w= .ok (.pointer (some ad)) w:=rfl
theorem DZ {P:Program} {n:Nat} {t e f:TypeId} {name:String} {i:TypeInfo} {m:Method} {ad:Addr} {w:World} (hi:P.info? t=some i) (hfind:i.methods.find? (·.name==name)=some m) (hpath:m.path= #[]) (hfunc:m.func=some (f,false))
  (hu:P.underlying t=some (.pointer e)):(method (n+1) t (.pointer (some ad)) name).run P w=((loadVar e ad).run P w).andThen fun v w'=> .ok (f,v) w':=by
 have h1:(typeInfo t).run P w= .ok i w:=by simp [typeInfo,Sem.run,hi]
 have h2:(underlying t).run P w= .ok (.pointer e) w:=by simp [underlying,Sem.run,hu]
 simp only [method,Sem.run_bind,h1,Result.andThen_ok,hfind,hpath,hfunc,follow,Sem.run_pure,receiverAt,h2,Place.get]
 simp only [Array.isEmpty_empty,if_true,Sem.run_bind,uv,Result.andThen_ok,asAddr,Sem.run_pure]
def HT (P:Program) (t:TypeId) (name:String):Option (TypeId×TypeId):=
 match P.info? t with
 | some i=> match i.methods.find? (·.name==name) with
  | some m=> match m.path.isEmpty,m.func,P.underlying t with
   | true,some (f,false),some (.pointer e)=> some (f,e)
   | _,_,_=> none
  | none=> none
 | none=> none
theorem MthV.of {P:Program} {t e f:TypeId} {name:String} (h:HT P t name=some (f,e)):MthV P t name f e:=by
 refine ⟨fun ad w=> ?_⟩
 obtain ⟨n,hn⟩: ∃ n,P.types.size+Made.depth=n+1:=⟨_,rfl⟩
 rw [hn]
 unfold HT at h
 split at h
 ·rename_i i hi
  split at h
  ·rename_i m hm
   split at h
   ·rename_i f' e' hp hf hu
    cases h
    exact DZ hi hm (by simpa using hp) hf hu
   cases h
  cases h
 cases h
section
variable {P:Program} {σ:St} {o:Oper} {t:TypeId} {name:String} {f:FuncId} {x:Operand} {xs:Array Operand} {ats:Array TypeId}
end
section
variable {P:Program} {σ:St} {dd:Option Tmp} {op:Op} {ty:TypeId} {f:FuncId} {avs:List AV}
end
theorem Le.incT {σ:St} (id:aA) (h:σ.ob id= .free):Le (σ.setInc id true) σ:=by
 intro K ι S a w R
 refine ⟨ι,S,R.keeps,R.S0,R.Slt,R.nt,R.df,R.fr,R.cl,R.clo,R.ob,R.dom,R.inj,fun i B g h1 h2=> ?_,R.pin,R.pf⟩
 obtain ⟨h3,h4,h5⟩:=R.sep i B g h1 h2
 refine ⟨h3,h4,fun h6=> h5 ?_⟩
 have h7:(bif gu i id then true else σ.inc i)=false:=h6
 cases hb:gu i id with
 | true=> rw [hb] at h7;cases h7
 | false=> rw [hb] at h7;exact h7
theorem kJ {P:Program} {σ:St} {z:List Value} {T e:TypeId} {size bytes:Nat} {dd:Option Tmp} {ty:TypeId} (id':aA) (s x:Operand) (E:Elem P T e size bytes z) {id:aA} {n:Nat} {xs:List PV} (hs:σ.eval s= .ref id 0 n) (hid:σ.ob id= .obj (.row e size xs)) (hl:n*size=xs.length) {m:Nat} {news:List PV} (hx:SrcAV σ (σ.eval x) size m news) (hb:(n+m)*bytes≤140737488355328) (hid':σ.ob id'= .free)
  {b:Bool} (hi:σ.inc id=b) (hi':σ.inc id'=b) {ys:List PV} (hy:xs++news=ys) {k:Nat} (hk:n+m=k):Stp P dd (.call { callee:= .builtin .append,args:= #[s,x],argTypes:= #[T,T] }) ty σ (((σ.setOb id .gone).setOb id' (.obj (.row e size ys))).put dd (.ref id' 0 k)):=by
 have h:=bI (P:=P) (dd:=dd) (ty:=ty) id' s x E hs hid hl hx hb hid' hy hk
 rwa [hi,St.setInc_same (by exact hi')] at h
end Go.Proofs.YtmjnackchaahbaaGreat

set_option maxHeartbeats 2000000
namespace Go.Proofs.YtmjnackchaahbaaGreat
open Go.RowKit

theorem mP {T:List Tk} {f:Nat} {seen:List Tx} {i:Nat} {r:List Tx×Nat} (h:gK T f seen i=some r): ∃ g,f=g+1∧et T i=true∧(cX T i).t∉seen∧seen.length < 16∧
  ((cX T (br T i)).t=[44]∧(∃ l j,gK T g (seen++[(cX T i).t]) (br T (br T i))=some (l,j)∧r=((cX T i).t::l,j))∨(cX T (br T i)).t≠[44]∧ ∃ j,gw T [59] (br T i)=some j∧r=([(cX T i).t],j)):=by
 cases f with
 | zero=> simp [gK] at h
 | succ g=>
  refine ⟨g,rfl,?_⟩
  unfold gK at h
  split at h
  ·cases h
  rename_i hn
  refine ⟨?_,fun hm=> hn (.inr (.inl hm)),Nat.lt_of_not_le fun hl=> hn (.inr (.inr hl)),?_⟩
  ·cases hb:et T i with
   | true=> rfl
   | false=> exact absurd (.inl hb) hn
  split at h
  ·rename_i ht
   simp only [Option.bind_eq_bind,Option.bind_eq_some_iff,Option.pure_def] at h
   obtain ⟨⟨l,j⟩,hl,h⟩:=h
   exact .inl ⟨ht,l,j,hl,(Option.some.inj h).symm⟩
  rename_i ht
  simp only [Option.bind_eq_bind,Option.bind_eq_some_iff,Option.pure_def] at h
  obtain ⟨j,hj,h⟩:=h
  exact .inr ⟨ht,j,hj,(Option.some.inj h).symm⟩
section
variable {T:List Tk}
theorem rT (hT:T.length≤100000) (f:Nat) (N:List Tx) (i0:Nat) (hi:i0 < T.length) (r:List Tx×Nat) (h:gK T f N (br T i0)=some r):
  r.2 < T.length∧N.length+r.1.length≤16∧Spec Tryz.prog 161 (aL [.ptr (0,9) 0] (GV T i0 N))
   (aN (.sl r.1.length (fc r.1)) [((0,9), .box 222 [.sl T.length (um T), .v (.int .i64 (r.2:Int)), .v (.int .i64 0), .v (.int .i64 0), .ref (1,8) 0 (N++r.1).length]),((1,8), .row 9 1 (fc (N++r.1)))] [(0,9),(1,8)] [(0,9)]):=by
 have htl:=dS hi
 have hend: ∀ (g:Nat) (seen:List Tx) (i:Nat) (r:List Tx×Nat),i < T.length→gK T g seen i=some r→r.2 < T.length∧seen.length+r.1.length≤16:=by
  intro g
  induction g with
  | zero=> intro seen i r _ h;simp [gK] at h
  | succ g ihg=>
   intro seen i r hi h
   obtain ⟨g',hg',_,_,hs,⟨_,l,j,hl,rfl⟩ | ⟨_,j,hj,rfl⟩⟩:=mP h
   ·obtain rfl:g=g':=by omega
    obtain ⟨h1,h2⟩:=ihg _ _ _ (dS (dS hi)) hl
    simp only [List.length_append,List.length_cons,List.length_nil] at h2 ⊢
    exact ⟨h1,by omega⟩
   exact ⟨jH hj (dS hi),by simp;omega⟩
 obtain ⟨ha,hb⟩:=hend f N _ r htl h
 refine ⟨ha,by omega,?_⟩
 have hNl:N.length < 16:=by obtain ⟨_,_,_,_,hs,_⟩:=mP h;exact hs
 refine Spec.ofNI Tryz.func161 rfl Tryz.ntmps161 rfl ?_
 refine aG (aj (aX _ eh) (am (aG (aj (qn (3,0) _ 9 1 rfl rfl) ?_))))
 refine am (aG (ef rfl (aj (dK aa [] ar (kQ T i0 N hi hT) ob tr ae) ?_)))
 refine am (aF fun K4 hK4=> ?_)
 refine aH ?_
 refine aT (α:=Nat×List Tx×Nat) (fun z=> (N++z.2.1).length≤16∧z.2.1.length≤16∧z.2.2 < T.length∧ ∃ l,gK T z.1 (N++z.2.1) z.2.2=some (l,r.2)∧r.1=z.2.1++l) 76 [(0,_)] [] (fun z=> [(3, .ref (3,0) 0 z.2.1.length)]) (fun z=> [((0,9), .box 222 [.sl T.length (um T), .v (.int .i64 (z.2.2:Int)), .v (.int .i64 0), .v (.int .i64 0), .ref (1,9) 0 (N++z.2.1).length]),((1,9), .row 9 1 (fc (N++z.2.1))),((3,0), .row 9 1 (fc z.2.1))]) [(0,9),(1,9)] [(0,9)] (fun z=> z.1) (f,[],br T i0) ?_ (by
  refine Le.mkJ [] [] rfl ?_ ?_ trivial tr ?_
  ·exact ⟨(iP rfl),(cf rfl ag),trivial⟩
  ·exact ⟨(cT rfl rfl rfl rfl (ai (de ag ag) (fJ (fJ (fJ (ai (cf rfl (by (simp only [List.append_nil]))) aK)))))),(cL rfl rfl rfl (by (simp only [List.append_nil]))),(cL rfl rfl rfl ag),trivial⟩
  kernel_rfl) ?_
 ·exact ⟨by simp;omega,Nat.zero_le _,htl,r.1,by rw [List.append_nil];exact h,rfl⟩
 intro z hz
 obtain ⟨z1,z2,z3⟩:=z
 obtain ⟨hz1,hz2,hz3,l,hz4,hz5⟩:=hz
 obtain ⟨g,rfl,hn,hs,hsl,hm⟩:=mP hz4
 simp only at hz1 hz2 hz3 hz5 hn hs hsl hm ⊢
 have htz:=dS hz3
 have hl1:(z2++[(cX T z3).t]).length=z2.length+1:=by simp
 have hl2:(N++(z2++[(cX T z3).t])).length=(N++z2).length+1:=by simp;omega
 have ha2:fc (N++z2)++[PV.v (bt (cX T z3).t)]=fc (N++(z2++[(cX T z3).t])):=by rw [nY,List.append_assoc]
 refine go 14 ?_
 refine aj (aZ aa _ _ ar (xl T z3 (N++z2) hz3) tr rfl ae (by simp)) ?_
 refine aj (ew (r:=false) _ rfl (by rw [hn];rfl)) ?_
 refine am (cK rfl rfl (aE ?_))
 refine az (σ':=an 76 [(0,_),(3,_)] [((0,9),_),((1,9),_),((3,0),_)] [(0,9),(1,9)] [(0,9)]) kp ?_
 refine dA 7 [] ?_
 refine go 10 ?_
 refine aB (_,[]) (fun τ=> (aZ aa _ _ ar (eS T z3 (N++z2) hz3) tr rfl ae (by simp))) ?_
 refine go 1 ?_
 refine aB (_,[]) (fun τ=> (rQ aa aw (ca (N++z2) _ rfl ab (cX T z3).t) rfl)) ?_
 refine go 1 ?_
 refine cq ⟨rfl,?_⟩
 refine am (cK rfl (decide_eq_false hs) ?_)
 refine go 8 ?_
 refine cK rfl (decide_eq_false ab) ?_
 refine go 11 ?_
 refine aE ?_
 refine az (σ':=an 76 [(0,_),(3,_)] [((0,9),_),((1,9),_),((3,0),_)] [(0,9),(1,9)] [(0,9)]) kp ?_
 refine aD (iE rfl (ef rfl (aj (aZ aa _ _ ar (eS T z3 (N++z2) hz3) tr rfl ae (by simp)) ?_)))
 refine go 1 ?_
 refine aj (bI (54,0) _ _ aa rfl rfl (by simp) (.sl rfl) ab rfl (nY _ _) hl1.symm) ?_
 refine eu rfl (am (aE ?_))
 refine az (σ':=an 76 [(0,_),(3,_)] [((0,9),_),((1,9),_),((54,0),_)] [(0,9),(1,9)] [(0,9)]) kp ?_
 refine az (Le.incT (63,0) rfl) ?_
 refine hG 9 [55,56,57,58,59,60,61,62,63] [(1,9),(63,0)] [[],[],[],[(1,9)],[(1,9)],[(1,9)],[(1,9)],[(1,9)],[]] ae ae rfl (bb rfl) (rfl:_=[_,_,_,_,_,_,_,_,_]) (rfl:_=[_,_,_]) ?_
 refine go 12 ?_
 refine aB (_,[]) (fun τ=> (aZ aa _ _ ar (eS T z3 (N++z2) hz3) tr rfl ae (by simp))) ?_
 refine go 3 ?_
 refine aB (_,[((1,9), .gone),((63,0),_)]) (fun τ=> kJ (b:=true) (63,0) _ _ aa rfl (em rfl (by exact dB) rfl) (by simp) (.sl rfl) ab rfl rfl rfl ha2 hl2.symm) ?_
 refine go 6 ?_
 refine aF fun K15 hK15=> ?_
 refine az (σ':=an 76 [(0,_),(3,_)] [((0,9), .box _ [_,_,_,_, .ref (1,9) _ _]),((54,0),_),((1,9),_)] [(0,9),(1,9)] [(0,9)]) (by
  refine Le.mkJ [((1,9),(63,0))] [] rfl ?_ ?_ trivial tr ?_
  ·exact ⟨(Ka [(0,9),(54,0)] rfl tz rfl),(Ka [(0,9),(54,0)] rfl mW rfl),trivial⟩
  ·exact ⟨(cT rfl rfl rfl rfl (ai (by exact Ka [(0,9),(54,0)] rfl zN rfl) (ai (by exact Ka [(0,9),(54,0)] rfl kU rfl) (ai (by exact Ka [(0,9),(54,0)] rfl kU rfl) (ai (by exact Ka [(0,9),(54,0)] rfl kU rfl) lz))))),(cL rfl rfl rfl rfl),(cL rfl rfl rfl rfl),trivial⟩
  kernel_rfl) ?_
 refine aD (ef rfl (aj (dK aa [] ar (kQ T z3 (N++(z2++[(cX T z3).t])) hz3 hT) ob tr ae) ?_))
 refine ax (hK15 _ ?_)
 refine aF fun K16 hK16=> ?_
 refine aG (ef rfl (aj (aZ aa _ _ ar (eS T (br T z3) (N++(z2++[(cX T z3).t])) htz) tr rfl ae (by simp)) ?_))
 refine aj (uj _ _ Tryz.underlying9 rfl rfl rfl) (am (ay rfl (fun hc70=> ?_) (fun hc70=> ?_)))
 ·obtain ⟨_,j,hj,hr⟩:=hm.resolve_left fun x=> hc70 x.1
  obtain ⟨rfl,rfl⟩:=Prod.mk.inj hr
  have hexp:=tA T (br T z3) r.2 (N++(z2++[(cX T z3).t])) [59] htz hT hj
  refine aW (id (hK4 _ ?_))
  refine aG (ef rfl (aj (dK aa [] ar (hexp) ob tr ae) ?_))
  exact am (aG (iE rfl (eu rfl (am (au (cg (.inr rfl) rfl (.tmp mW) (Le.outI [((1,8),(1,9))] [(54,0)] (by rw [hz5];exact dH rfl rfl (by simp) rfl) rfl rfl rfl tr ⟨⟨rfl,⟨_,rfl, .box rfl (ai .sl (ai .v (ai .v (ai .v (ai (cf rfl (by rw [hz5])) aK)))))⟩,rfl⟩,⟨rfl,⟨_,rfl, .rowE (by rw [hz5])⟩,rfl⟩,trivial⟩ tr rfl)))))))
 obtain ⟨_,l',j',hd',hr⟩:=hm.resolve_right fun x=> x.1 hc70
 obtain ⟨rfl,rfl⟩:=Prod.mk.inj hr
 refine aR (hK16 _ ?_)
 refine aD (ef rfl (aj (dK aa [] ar (kQ T (br T z3) (N++(z2++[(cX T z3).t])) htz hT) ob tr ae) ?_))
 refine ax (⟨(g,z2++[(cX T z3).t],br T (br T z3)),?_,?_,?_⟩)
 ·exact ⟨by simp only [hl2];omega,by simp only [hl1];simp only [List.length_append] at hsl;omega,dS htz,l',by rw [← List.append_assoc];exact hd',by rw [hz5];simp⟩
 ·refine Le.mkJ [((3,0),(54,0))] [] rfl ?_ ?_ trivial tr ?_
  ·exact ⟨(bs (id:=(0,9)) rfl),(cf rfl ag),trivial⟩
  ·exact ⟨(cT rfl rfl rfl rfl lz),(cL rfl rfl rfl ag),(cL rfl rfl rfl ag),trivial⟩
  kernel_rfl
 simp only;omega
end
end Go.Proofs.YtmjnackchaahbaaGreat

set_option maxHeartbeats 2000000
namespace Go.Proofs.YtmjnackchaahbaaGreat
open Go.RowKit

abbrev Hd:=Nat×Nd
def sj (h:Hd):List PV:= .v (.int .i64 (h.1:Int))::h.2.row
def lK (l:List Hd):List PV:=l.flatMap sj
theorem bi (l:List Hd):(lK l).length=l.length*5:=gQ sj 5 (fun _=> rfl) l
def oN (l:List Hd) (k:Nat):Hd:=l.getD k (0,⟨0,0,[],0,[]⟩)
theorem oG (l:List Hd) (k:Nat) (h:k < l.length):oN l k=l[k]:=by simp [oN,h]
theorem ko (l:List Hd) (k:Nat) (h:k < l.length):(lK l)[k*5]? =some (.v (.int .i64 ((oN l k).1:Int))):=by
 rw [oG l k h];exact jP sj 5 (fun _=> rfl) l k 0 h ab
theorem Cb (l:List Hd) (k:Nat) (h:k < l.length):PV.ups (((lK l).drop (k*5)).take 5)=[.v (.int .i64 ((oN l k).1:Int)), .v (.int .i64 ((oN l k).2.k:Int)), .v (.int .i64 ((oN l k).2.n:Int)), .v (bt (oN l k).2.s), .sl (oN l k).2.kn (oN l k).2.kids]:=by
 rw [oG l k h,show ((lK l).drop (k*5)).take 5=sj l[k] from kX sj 5 (fun _=> rfl) l k h];rfl
theorem ra (l:List Hd) (h:Hd):lK l++sj h=lK (l++[h]):=jE sj l h
theorem yI (l m:List Hd):lK l++lK m=lK (l++m):=BB sj l m
theorem wH (l:List Hd) (k:Nat) (h:k < l.length):l.take k++[oN l k]=l.take (k+1):=by rw [oG l k h,List.take_succ_eq_append_getElem h]
def Lx:List Tx:=[ou,kq,hY,jW]
section
variable {T:List Tk} {N:List Tx}
theorem ER (hT:T.length≤100000) (i:Nat) (hi:i < T.length) (ht:(cX T i).t=ou) (l:List Hd) (hl:l.length≤100000) (hno: ∀ k,k < l.length→(oN l k).1≠0):
  Spec Tryz.prog 163 (aL [.ptr (0,9) 0, .sl l.length (lK l)] (dL T i N)) (aN (.v (.int .i64 ((0:Nat):Int))) (dL T (br T i) N) [(0,9)] [(0,9)]):=by
 have hnx:=bw T i N hi
 rw [ht] at hnx
 refine Spec.ofNI Tryz.func163 rfl Tryz.ntmps163 rfl ?_
 refine go 12 ?_
 refine aj (aZ aa _ _ ar (hnx) tr rfl ae (by simp)) ?_
 refine go 9 ?_
 refine aj (ap aa al (ca Lx 4 rfl ab ou) rfl rfl) ?_
 refine go 6 ?_
 refine aj (bF (bX T i N hi hT)) ?_
 refine am (aE (aE ?_))
 refine az (σ':=an 56 [(0,_),(1,_),(5,_),(6,_),(7,_)] [((0,9),_)] [(0,9)] [(0,9)]) kp ?_
 refine go 20 ?_
 refine aF fun K14 hK14=> ?_
 refine aG (cC rfl (am (aH ?_)))
 refine aT (α:=Nat) (fun k=> k≤l.length) 56 [(0,_),(1,_),(5,_),(7,_)] [((0,9),_)] (fun k=> [(8, .v (.int .i64 (k:Int)))]) (fun k=> []) [(0,9)] [(0,9)] (fun k=> l.length - k) 0 ?_ (kj [0] [] []) ?_
 ·omega
 intro k hk
 refine aF fun K16 hK16=> ?_
 refine go 6 ?_
 refine ay rfl (fun hc42=> ?_) (fun hc42=> ?_)
 ·refine aR (hK16 _ ?_)
  refine aE (aH (aG (gR rfl (bW rfl (aj (aO _ _ aa rfl rfl _ rfl ab (by (simp only [aq,aJ,aM,bh,bc,bm,bi];omega)) ag) ?_)))))
  refine aj (ej _ aa rfl rfl) (aj (bl _ aa rfl (by exact ko _ _ ab) rfl) ?_)
  refine bW rfl (aj (ba _ _ rfl rfl rfl) (am (cK rfl (by have:=hno k ab;exact beq_eq_false_iff_ne.2 ab) ?_)))
  refine go 5 ?_
  refine ax (⟨k+1,?_,?_,?_⟩)
  ·omega
  ·exact kj [0] [] []
  omega
 refine aW (id (hK14 _ ?_))
 exact aG (bW rfl (cC rfl (am (au (cg (.inr rfl) rfl (.tmp rC) (Le.outI [] [] (bj ag) rfl rfl rfl trivial ob tr rfl))))))
theorem wL (hT:T.length≤100000) (i:Nat) (hi:i < T.length) (ht:(cX T i).t=kq) (l:List Hd) (hl:l.length≤100000) (hno: ∀ k,k < l.length→(oN l k).1≠1):
  Spec Tryz.prog 163 (aL [.ptr (0,9) 0, .sl l.length (lK l)] (dL T i N)) (aN (.v (.int .i64 ((1:Nat):Int))) (dL T (br T i) N) [(0,9)] [(0,9)]):=by
 have hnx:=bw T i N hi
 rw [ht] at hnx
 refine Spec.ofNI Tryz.func163 rfl Tryz.ntmps163 rfl ?_
 refine go 12 ?_
 refine aj (aZ aa _ _ ar (hnx) tr rfl ae (by simp)) ?_
 refine go 9 ?_
 refine aj (ap aa al (ca Lx 4 rfl ab kq) rfl rfl) ?_
 refine go 6 ?_
 refine aj (bF (bX T i N hi hT)) ?_
 refine am (aE (aE ?_))
 refine az (σ':=an 56 [(0,_),(1,_),(5,_),(6,_),(7,_)] [((0,9),_)] [(0,9)] [(0,9)]) kp ?_
 refine go 22 ?_
 refine aF fun K14 hK14=> ?_
 refine aG (cC rfl (am (aH ?_)))
 refine aT (α:=Nat) (fun k=> k≤l.length) 56 [(0,_),(1,_),(5,_),(7,_)] [((0,9),_)] (fun k=> [(8, .v (.int .i64 (k:Int)))]) (fun k=> []) [(0,9)] [(0,9)] (fun k=> l.length - k) 0 ?_ (kj [0] [] []) ?_
 ·omega
 intro k hk
 refine aF fun K16 hK16=> ?_
 refine go 6 ?_
 refine ay rfl (fun hc42=> ?_) (fun hc42=> ?_)
 ·refine aR (hK16 _ ?_)
  refine aE (aH (aG (gR rfl (bW rfl (aj (aO _ _ aa rfl rfl _ rfl ab (by (simp only [aq,aJ,aM,bh,bc,bm,bi];omega)) ag) ?_)))))
  refine aj (ej _ aa rfl rfl) (aj (bl _ aa rfl (by exact ko _ _ ab) rfl) ?_)
  refine bW rfl (aj (ba _ _ rfl rfl rfl) (am (cK rfl (by have:=hno k ab;exact beq_eq_false_iff_ne.2 ab) ?_)))
  refine go 5 ?_
  refine ax (⟨k+1,?_,?_,?_⟩)
  ·omega
  ·exact kj [0] [] []
  omega
 refine aW (id (hK14 _ ?_))
 exact aG (bW rfl (cC rfl (am (au (cg (.inr rfl) rfl (.tmp rC) (Le.outI [] [] (bj ag) rfl rfl rfl trivial ob tr rfl))))))
theorem EI (hT:T.length≤100000) (i:Nat) (hi:i < T.length) (ht:(cX T i).t=hY) (l:List Hd) (hl:l.length≤100000) {q j:Nat} (hq:q≤100) (h1:Spec Tryz.prog 200 (aL [.ptr (0,9) 0, .v (.int .i64 7)] (dL T (br T i) N)) (aN (.v (.int .i64 (q:Int))) (dL T j N) [(0,9)] [(0,9)])) (hno: ∀ k,k < l.length→(oN l k).1≠(2+q)):
  Spec Tryz.prog 163 (aL [.ptr (0,9) 0, .sl l.length (lK l)] (dL T i N)) (aN (.v (.int .i64 (((2+q):Nat):Int))) (dL T j N) [(0,9)] [(0,9)]):=by
 have hnx:=bw T i N hi
 rw [ht] at hnx
 refine Spec.ofNI Tryz.func163 rfl Tryz.ntmps163 rfl ?_
 refine go 12 ?_
 refine aj (aZ aa _ _ ar (hnx) tr rfl ae (by simp)) ?_
 refine go 9 ?_
 refine aj (ap aa al (ca Lx 4 rfl ab hY) rfl rfl) ?_
 refine go 6 ?_
 refine aj (bF (bX T i N hi hT)) ?_
 refine am (aE (aE ?_))
 refine az (σ':=an 56 [(0,_),(1,_),(5,_),(6,_),(7,_)] [((0,9),_)] [(0,9)] [(0,9)]) kp ?_
 refine go 6 ?_
 refine aF fun K10 hK10=> ?_
 refine go 7 ?_
 refine aj (bF (h1)) (go 2 ?_)
 refine ax (hK10 _ ?_)
 refine go 7 ?_
 refine aF fun K14 hK14=> ?_
 refine aG (cC rfl (am (aH ?_)))
 refine aT (α:=Nat) (fun k=> k≤l.length) 56 [(0,_),(1,_),(5,_),(7,_)] [((0,9),_)] (fun k=> [(8, .v (.int .i64 (k:Int)))]) (fun k=> []) [(0,9)] [(0,9)] (fun k=> l.length - k) 0 ?_ (kj [0] [] []) ?_
 ·omega
 intro k hk
 refine aF fun K16 hK16=> ?_
 refine go 6 ?_
 refine ay rfl (fun hc42=> ?_) (fun hc42=> ?_)
 ·refine aR (hK16 _ ?_)
  refine aE (aH (aG (gR rfl (bW rfl (aj (aO _ _ aa rfl rfl _ rfl ab (by (simp only [aq,aJ,aM,bh,bc,bm,bi];omega)) ag) ?_)))))
  refine aj (ej _ aa rfl rfl) (aj (bl _ aa rfl (by exact ko _ _ ab) rfl) ?_)
  refine bW rfl (aj (ba _ _ rfl rfl rfl) (am (cK rfl (by have:=hno k ab;exact beq_eq_false_iff_ne.2 ab) ?_)))
  refine go 5 ?_
  refine ax (⟨k+1,?_,?_,?_⟩)
  ·omega
  ·exact kj [0] [] []
  omega
 refine aW (id (hK14 _ ?_))
 exact aG (bW rfl (cC rfl (am (au (cg (.inr rfl) rfl (.tmp rC) (Le.outI [] [] (bj ag) rfl rfl rfl trivial ob tr rfl))))))
theorem xc (hT:T.length≤100000) (i:Nat) (hi:i < T.length) (ht:(cX T i).t=jW) (l:List Hd) (hl:l.length≤100000) {q j:Nat} (hq:q≤100) (h1:Spec Tryz.prog 200 (aL [.ptr (0,9) 0, .v (.int .i64 29)] (dL T (br T i) N)) (aN (.v (.int .i64 (q:Int))) (dL T j N) [(0,9)] [(0,9)])) (hno: ∀ k,k < l.length→(oN l k).1≠(10+q)):
  Spec Tryz.prog 163 (aL [.ptr (0,9) 0, .sl l.length (lK l)] (dL T i N)) (aN (.v (.int .i64 (((10+q):Nat):Int))) (dL T j N) [(0,9)] [(0,9)]):=by
 have hnx:=bw T i N hi
 rw [ht] at hnx
 refine Spec.ofNI Tryz.func163 rfl Tryz.ntmps163 rfl ?_
 refine go 12 ?_
 refine aj (aZ aa _ _ ar (hnx) tr rfl ae (by simp)) ?_
 refine go 9 ?_
 refine aj (ap aa al (ca Lx 4 rfl ab jW) rfl rfl) ?_
 refine go 6 ?_
 refine aj (bF (bX T i N hi hT)) ?_
 refine am (aE (aE ?_))
 refine az (σ':=an 56 [(0,_),(1,_),(5,_),(6,_),(7,_)] [((0,9),_)] [(0,9)] [(0,9)]) kp ?_
 refine go 13 ?_
 refine aF fun K12 hK12=> ?_
 refine go 7 ?_
 refine aj (bF (h1)) (go 2 ?_)
 refine ax (hK12 _ ?_)
 refine aF fun K14 hK14=> ?_
 refine aG (cC rfl (am (aH ?_)))
 refine aT (α:=Nat) (fun k=> k≤l.length) 56 [(0,_),(1,_),(5,_),(7,_)] [((0,9),_)] (fun k=> [(8, .v (.int .i64 (k:Int)))]) (fun k=> []) [(0,9)] [(0,9)] (fun k=> l.length - k) 0 ?_ (kj [0] [] []) ?_
 ·omega
 intro k hk
 refine aF fun K16 hK16=> ?_
 refine go 6 ?_
 refine ay rfl (fun hc42=> ?_) (fun hc42=> ?_)
 ·refine aR (hK16 _ ?_)
  refine aE (aH (aG (gR rfl (bW rfl (aj (aO _ _ aa rfl rfl _ rfl ab (by (simp only [aq,aJ,aM,bh,bc,bm,bi];omega)) ag) ?_)))))
  refine aj (ej _ aa rfl rfl) (aj (bl _ aa rfl (by exact ko _ _ ab) rfl) ?_)
  refine bW rfl (aj (ba _ _ rfl rfl rfl) (am (cK rfl (by have:=hno k ab;exact beq_eq_false_iff_ne.2 ab) ?_)))
  refine go 5 ?_
  refine ax (⟨k+1,?_,?_,?_⟩)
  ·omega
  ·exact kj [0] [] []
  omega
 refine aW (id (hK14 _ ?_))
 exact aG (bW rfl (cC rfl (am (au (cg (.inr rfl) rfl (.tmp rC) (Le.outI [] [] (bj ag) rfl rfl rfl trivial ob tr rfl))))))
theorem Fx {l:List Hd} {n:Nat} (h:l.any (fun x=> decide (x.1=n))=false): ∀ k,k < l.length→(oN l k).1≠n:=fun k hk e=> by
 rw [List.any_eq_false] at h
 have:=h l[k] (List.getElem_mem hk)
 rw [oG l k hk] at e
 simp [e] at this
theorem tP (hT:T.length≤100000) (i:Nat) (hi:i < T.length) (l:List Hd) (hl:l.length≤100000) (r:Nat×Nat) (h:yF T i=some r) (hno:l.any (fun x=> decide (x.1=r.1))=false):
  r.2 < T.length∧r.1 < 40∧Spec Tryz.prog 163 (aL [.ptr (0,9) 0, .sl l.length (lK l)] (dL T i N)) (aN (.v (.int .i64 (r.1:Int))) (dL T r.2 N) [(0,9)] [(0,9)]):=by
 have htl:=dS hi
 have hn:=Fx hno
 have hmost: ∀ {most i:Nat} {q:Nat×Nat},pH T most i=some q→q.1≤most:=fun h=> by
  unfold pH at h
  split at h
  ·rename_i hx;rw [← Option.some.inj h];exact hx.2
  cases h
 unfold yF at h
 by_cases h1:(cX T i).t=ou
 ·rw [if_pos h1] at h
  obtain rfl:=Option.some.inj h
  exact ⟨htl,by omega,ER hT i hi h1 l hl hn⟩
 rw [if_neg h1] at h
 by_cases h2:(cX T i).t=kq
 ·rw [if_pos h2] at h
  obtain rfl:=Option.some.inj h
  exact ⟨htl,by omega,wL hT i hi h2 l hl hn⟩
 rw [if_neg h2] at h
 by_cases h3:(cX T i).t=hY
 ·rw [if_pos h3] at h
  simp only [Option.bind_eq_bind,Option.bind_eq_some_iff,Option.pure_def,Option.some.injEq] at h
  obtain ⟨⟨q,j⟩,hq,rfl⟩:=h
  have hm:=hmost hq
  exact ⟨show (q,j).2 < T.length from tF hq htl,by simp only at hm ⊢;omega,EI hT i hi h3 l hl (by simp only at hm;omega) (lN T _ N 7 htl hT ab _ hq) hn⟩
 rw [if_neg h3] at h
 by_cases h4:(cX T i).t=jW
 ·rw [if_pos h4] at h
  simp only [Option.bind_eq_bind,Option.bind_eq_some_iff,Option.pure_def,Option.some.injEq] at h
  obtain ⟨⟨q,j⟩,hq,rfl⟩:=h
  have hm:=hmost hq
  exact ⟨show (q,j).2 < T.length from tF hq htl,by simp only at hm ⊢;omega,xc hT i hi h4 l hl (by simp only at hm;omega) (lN T _ N 29 htl hT ab _ hq) hn⟩
 rw [if_neg h4] at h
 cases h
end
theorem yl {p:Hd→Bool} {l:List Hd} {k:Nat} (h: ∀ x∈l.take k,p x=true) (he:l.length≤k∨p (oN l k)=false):l.takeWhile p=l.take k∧l.dropWhile p=l.drop k:=by
 induction l generalizing k with
 | nil=> simp
 | cons a l ih=>
  cases k with
  | zero=>
   have:p a=false:=by
    rcases he with he | he
    ·simp at he
    simpa [oN] using he
   simp [this]
  | succ k=>
   have ha:p a=true:=h a (by simp)
   have:=ih (k:=k) (fun x hx=> h x (by simp [hx])) (by
    rcases he with he | he
    ·left;simpa using he
    right;simpa [oN] using he)
   simp [ha,this]
theorem DW (l:List Hd) (hl:l.length≤100000) (h:Hd):
  Spec Tryz.prog 165 (aI [.sl l.length (lK l), .agg [.v (.int .i64 (h.1:Int)), .v (.int .i64 (h.2.k:Int)), .v (.int .i64 (h.2.n:Int)), .v (bt h.2.s), .sl h.2.kn h.2.kids]] []) (aC (.sl (ry l h).length (lK (ry l h))) []):=by
 refine Spec.ofN Tryz.func165 rfl Tryz.ntmps165 rfl ?_
 refine aG (aj (dZ (3,0) _ rfl rfl) (aj (aX _ eh) (am (aG (aj (qn (5,0) _ 73 5 rfl rfl) ?_)))))
 refine am (aG (cC rfl (am (aF fun K4 hK4=> ?_))))
 refine aH ?_
 refine aT (α:=Nat) (fun k=> k≤l.length∧ ∀ x∈l.take k,decide (x.1 < h.1)=true) 39 [(0,_),(3,_)] [((3,0),_)] (fun k=> [(6, .v (.int .i64 (k:Int))),(5, .ref (5,0) 0 (l.take k).length)]) (fun k=> [((5,0), .row 73 5 (lK (l.take k)))]) [] [] (fun k=> l.length - k) 0 ?_ (kj [0,2] [] []) ?_
 ·exact ⟨Nat.zero_le _,by simp⟩
 intro k hk
 obtain ⟨hk,hall⟩:=hk
 have hlk:(l.take k).length=k:=by rw [List.length_take];omega
 refine aF fun K5 hK5=> ?_
 refine aF fun K6 hK6=> ?_
 refine dA 14 [] ?_
 refine go 9 ?_
 refine oR (fun hg11=> ?_) (fun hg11=> ?_)
 ·refine go 5 ?_
  refine dM (_,[]) rfl (fun τ=> rfl) (fun τ=> aO _ _ aa rfl rfl _ rfl ab (by (simp only [aq,aJ,aM,bh,bc,bm,bi];omega)) ag) ?_
  refine go 3 ?_
  refine dM (_,[]) rfl (fun τ=> rfl) (fun τ=> bl _ aa rfl (by exact ko _ _ ab) rfl) ?_
  refine go 10 ?_
  refine ax (hK6 _ ?_)
  refine ay rfl (fun hc20=> ?_) (fun hc20=> ?_)
  ·have hs:=wH l k ab
   have hlk1:(l.take (k+1)).length=(l.take k).length+1:=by rw [← hs];simp
   have hall1: ∀ x∈l.take (k+1),decide (x.1 < h.1)=true:=by
    rw [← hs]
    intro x hx
    rcases List.mem_append.1 hx with hx | hx
    ·exact hall x hx
    rw [List.mem_singleton.1 hx];exact decide_eq_true ab
   refine aR (hK5 _ ?_)
   refine go 5 ?_
   refine aj (aO _ _ aa rfl rfl _ rfl ab (by (simp only [aq,aJ,aM,bh,bc,bm,bi];omega)) ag) ?_
   refine aj (bn _ aa rfl (by exact Cb _ _ ab) rfl) ?_
   refine go 1 ?_
   refine aj (bI (27,0) _ _ aa rfl rfl (bi _).symm (.sl rfl) ab rfl ((ra _ (oN l k)).trans (by rw [hs])) hlk1.symm) ?_
   refine eu rfl (am ?_)
   refine az (σ':=an 39 [(0,_),(3,_),(5,_),(6,_)] [((3,0),_),((27,0),_)] [] []) kp ?_
   refine go 4 ?_
   refine ax (⟨k+1,?_,?_,?_⟩)
   ·exact ⟨by omega,hall1⟩
   ·refine Le.mkJ [((5,0),(27,0))] [] rfl ?_ ?_ trivial trivial ?_
    ·exact ⟨(by repeat' (exact Lv.sl)),(bs (id:=(3,0)) rfl),(bj ag),(cf rfl ag),trivial⟩
    ·exact ⟨(cT rfl rfl rfl rfl (by repeat' (first | exact Lv.v | exact Lv.sl | exact aK | refine ai ?_ ?_))),(cL rfl rfl rfl ag),trivial⟩
    kernel_rfl
   omega
  have hf:=yl (p:=fun x=> decide (x.1 < h.1)) hall (.inr (decide_eq_false ab))
  refine aW (id (hK4 _ ?_))
  refine go 4 ?_
  refine aj (bI (33,0) _ _ aa rfl rfl (bi _).symm (.sl rfl) ab rfl (ra _ h) (show (l.take k).length+1=(l.take k++[h]).length by simp)) ?_
  refine eu rfl (am (aE ?_))
  refine az (σ':=an 39 [(0,_),(5,_),(6,_)] [((33,0),_)] [] []) kp ?_
  refine aD (iE rfl (gR rfl (bW rfl (aj (fW _ _ _ aa rfl k l.length (.lit rfl rfl) .dflt hk (Nat.le_refl _) (show _=lK (l.drop k) by rw [show (lK l).drop (k*5)=lK (l.drop k) from oh sj 5 (fun _=> rfl) l k];exact List.take_of_length_le (by rw [bi,List.length_drop];exact Nat.le_refl _)) rfl) ?_))))
  refine aj (bI (38,0) _ _ aa rfl rfl (bi _).symm (.sl (by rw [bi,List.length_drop])) (by simp;omega) rfl (yI _ _) (show (l.take k++[h]).length+(l.length - k)=(l.take k++[h]++l.drop k).length by simp;omega)) ?_
  refine eu rfl (am (au ?_))
  have hfin:l.take k++[h]++l.drop k=ry l h:=by unfold ry;rw [hf.1,hf.2];simp
  exact cg (.inr rfl) rfl (.tmp mW) (Le.out [] [(38,0)] (by rw [← hfin];exact dH rfl rfl (bi _).symm rfl) rfl rfl rfl tr trivial)
 have hf:=yl (p:=fun x=> decide (x.1 < h.1)) hall (.inl ab)
 refine go 20 ?_
 refine ax (hK6 _ ?_)
 refine cK rfl rfl (aW (id (hK4 _ ?_)))
 refine go 4 ?_
 refine aj (bI (33,0) _ _ aa rfl rfl (bi _).symm (.sl rfl) ab rfl (ra _ h) (show (l.take k).length+1=(l.take k++[h]).length by simp)) ?_
 refine eu rfl (am (aE ?_))
 refine az (σ':=an 39 [(0,_),(5,_),(6,_)] [((33,0),_)] [] []) kp ?_
 refine aD (iE rfl (gR rfl (bW rfl (aj (fW _ _ _ aa rfl k l.length (.lit rfl rfl) .dflt hk (Nat.le_refl _) (show _=lK (l.drop k) by rw [show (lK l).drop (k*5)=lK (l.drop k) from oh sj 5 (fun _=> rfl) l k];exact List.take_of_length_le (by rw [bi,List.length_drop];exact Nat.le_refl _)) rfl) ?_))))
 refine aj (bI (38,0) _ _ aa rfl rfl (bi _).symm (.sl (by rw [bi,List.length_drop])) (by simp;omega) rfl (yI _ _) (show (l.take k++[h]).length+(l.length - k)=(l.take k++[h]++l.drop k).length by simp;omega)) ?_
 refine eu rfl (am (au ?_))
 have hfin:l.take k++[h]++l.drop k=ry l h:=by unfold ry;rw [hf.1,hf.2];simp
 exact cg (.inr rfl) rfl (.tmp mW) (Le.out [] [(38,0)] (by rw [← hfin];exact dH rfl rfl (bi _).symm rfl) rfl rfl rfl tr trivial)
end Go.Proofs.YtmjnackchaahbaaGreat
