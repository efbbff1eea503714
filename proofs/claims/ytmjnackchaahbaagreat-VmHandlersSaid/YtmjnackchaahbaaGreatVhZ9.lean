/- part 9 -/
import Derived.Test.YtmjnackchaahbaaGreatVhZ8
set_option linter.unusedSimpArgs false
set_option linter.unusedVariables false
set_option maxHeartbeats 2000000
namespace Go.Proofs.YtmjnackchaahbaaGreat
open Go.RowKit

structure PS (T:List Tk) (N:List Tx) (f:Nat):Prop where
 stm: ∀ lv i r,lv≤20→i < T.length→yc T f lv i=some r→r.2 < T.length∧Spec Tryz.prog 202 (aE [.ptr (0,9) 0, .v (.int .i64 (lv:Int))] (de T i N)) (PO T N r)
 blk: ∀ lv i r,lv≤21→i < T.length→qi T f lv i=some r→r.2 < T.length∧Spec Tryz.prog 164 (aE [.ptr (0,9) 0, .v (.int .i64 (lv:Int))] (de T i N)) (PO T N r)
def Ch:List Tx:=[uO,jK,oT,gc,kx,pX,lW,pF,pV]
theorem eW {T:List Tk} {i:Nat} (h:vP (cu T i).t=true):dF T i=false:=by unfold dF;rw [h];simp
section
variable {T:List Tk} {N:List Tx}
theorem xS (hT:T.length≤100000) (lv i:Nat) (hl:lv≤20) (hi:i < T.length) (hn:dF T i=true) {d:Nd} {j1 j2 j3:Nat} (h1:Spec Tryz.prog 162 (aE [.ptr (0,9) 0, .v (bt [61])] (de T (bv T i) N)) (aP (.tup []) (de T j1 N) [(0,9)] [(0,9)])) (h2:Spec Tryz.prog 226 (aE [.ptr (0,9) 0, .v (.int .i64 (lv:Int)), .v (.int .i64 1)] (de T j1 N)) (PO T N (d,j2))) (h3:Spec Tryz.prog 162 (aE [.ptr (0,9) 0, .v (bt [59])] (de T j2 N)) (aP (.tup []) (de T j3 N) [(0,9)] [(0,9)])):
  Spec Tryz.prog 202 (aE [.ptr (0,9) 0, .v (.int .i64 (lv:Int))] (de T i N)) (PO T N (nd 1 0 (cu T i).t [d],j3)):=by
 refine Spec.ofNI Tryz.func202 rfl Tryz.ntmps202 rfl ?_
 refine go 5 ?_
 refine ai (be aa _ _ ar (bw T i N hi) tr rfl ae (by simp)) ?_
 refine go 10 ?_
 refine ai (be aa _ _ ar (da T i N hi) tr rfl ae (by simp)) ?_
 refine aj (dH rfl hn (aH (bN rfl (ai (aF (bS T i N hi hT)) ?_))))
 refine aj (ax fun K7 hK7=> ?_)
 refine an (bN rfl (ai (aF (h1)) (am (hK7 _ ?_))))
 refine ax fun K8 hK8=> ?_
 refine an (so rfl (bN rfl (bE rfl (ai (aF (h2)) (go 3 ?_)))))
 refine am (hK8 _ ?_)
 refine ax fun K9 hK9=> ?_
 refine az (σ':=ap 145 [(0,_),(4,_),(6,_)] [((0,9),_),((4,0),_),((6,0),_)] [(0,9)] [(0,9)]) kp ?_
 refine an (bN rfl (ai (aF (h3)) (am (hK9 _ ?_))))
 refine go 4 ?_
 exact aq (dR [])
theorem AU (hT:T.length≤100000) (lv i:Nat) (hl:lv≤20) (hi:i < T.length) (ht:(cu T i).t=jK) {c x:Nd} {j1 j2:Nat} (h1:Spec Tryz.prog 226 (aE [.ptr (0,9) 0, .v (.int .i64 (lv:Int)), .v (.int .i64 1)] (de T (bv T i) N)) (PO T N (c,j1))) (h2:Spec Tryz.prog 164 (aE [.ptr (0,9) 0, .v (.int .i64 ((lv+1:Nat):Int))] (de T j1 N)) (PO T N (x,j2))):
  Spec Tryz.prog 202 (aE [.ptr (0,9) 0, .v (.int .i64 (lv:Int))] (de T i N)) (PO T N (nd 3 0 [] [c,x],j2)):=by
 have hnx:=bw T i N hi
 have hn:dF T i=false:=eW (by rw [ht];rfl)
 rw [ht] at hnx
 refine Spec.ofNI Tryz.func202 rfl Tryz.ntmps202 rfl ?_
 refine go 5 ?_
 refine ai (be aa _ _ ar (hnx) tr rfl ae (by simp)) ?_
 refine go 10 ?_
 refine ai (be aa _ _ ar (da T i N hi) tr rfl ae (by simp)) ?_
 refine aj (cd rfl hn (go 5 ?_))
 refine ai (au aa al (bY Ch 9 rfl ab jK) rfl rfl) ?_
 refine go 6 ?_
 refine ai (aF (bS T i N hi hT)) ?_
 refine aj (aA (aA ?_))
 refine az (σ':=ap 145 [(0,_),(1,_),(4,_),(5,_),(6,_)] [((0,9),_),((4,0),_),((6,0),_)] [(0,9)] [(0,9)]) kp ?_
 refine go 15 ?_
 refine ax fun K13 hK13=> ?_
 refine an (bN rfl (bE rfl (ai (aF (h1)) (go 2 ?_))))
 refine am (hK13 _ ?_)
 refine ax fun K14 hK14=> ?_
 refine az (σ':=ap 145 [(0,_),(1,_),(4,_),(5,_),(7,_)] [((0,9),_),((4,0),_),((7,0),_)] [(0,9)] [(0,9)]) kp ?_
 refine dA 5 [(0,9)] ?_
 refine go 8 ?_
 refine aJ (_,[((0,9),_)]) (fun τ=> (bR aa ar (h2) ob rfl rfl ae)) ?_
 refine go 4 ?_
 refine am (hK14 _ ?_)
 refine go 11 ?_
 exact aq (dR [])
theorem IW (hT:T.length≤100000) (lv i:Nat) (hl:lv≤20) (hi:i < T.length) (ht:(cu T i).t=uO) {c x:Nd} {j1 j2:Nat} (h1:Spec Tryz.prog 226 (aE [.ptr (0,9) 0, .v (.int .i64 (lv:Int)), .v (.int .i64 1)] (de T (bv T i) N)) (PO T N (c,j1))) (h2:Spec Tryz.prog 164 (aE [.ptr (0,9) 0, .v (.int .i64 ((lv+1:Nat):Int))] (de T j1 N)) (PO T N (x,j2))) (hj:j2 < T.length) (he:(cu T j2).t≠rN):
  Spec Tryz.prog 202 (aE [.ptr (0,9) 0, .v (.int .i64 (lv:Int))] (de T i N)) (PO T N (nd 2 0 [] [c,x,nd 11 0 [] []],j2)):=by
 have hnx:=bw T i N hi
 have hn:dF T i=false:=eW (by rw [ht];rfl)
 rw [ht] at hnx
 refine Spec.ofNI Tryz.func202 rfl Tryz.ntmps202 rfl ?_
 refine go 5 ?_
 refine ai (be aa _ _ ar (hnx) tr rfl ae (by simp)) ?_
 refine go 10 ?_
 refine ai (be aa _ _ ar (da T i N hi) tr rfl ae (by simp)) ?_
 refine aj (cd rfl hn (go 5 ?_))
 refine ai (au aa al (bY Ch 9 rfl ab uO) rfl rfl) ?_
 refine go 6 ?_
 refine ai (aF (bS T i N hi hT)) ?_
 refine aj (aA (aA ?_))
 refine az (σ':=ap 145 [(0,_),(1,_),(4,_),(5,_),(6,_)] [((0,9),_),((4,0),_),((6,0),_)] [(0,9)] [(0,9)]) kp ?_
 refine go 12 ?_
 refine ax fun K13 hK13=> ?_
 refine an (bN rfl (bE rfl (ai (aF (h1)) (go 2 ?_))))
 refine am (hK13 _ ?_)
 refine ax fun K14 hK14=> ?_
 refine az (σ':=ap 145 [(0,_),(1,_),(4,_),(5,_),(7,_)] [((0,9),_),((4,0),_),((7,0),_)] [(0,9)] [(0,9)]) kp ?_
 refine dA 5 [(0,9)] ?_
 refine go 8 ?_
 refine aJ (_,[((0,9),_)]) (fun τ=> (bR aa ar (h2) ob rfl rfl ae)) ?_
 refine go 1 ?_
 refine cD ⟨rfl,?_⟩
 refine ai (jQ (58,0) _ _ aa rfl ag (by (simp <;> rfl)) ah rfl rfl) ?_
 refine gF rfl (am (hK14 _ ?_))
 refine go 21 ?_
 refine aZ rfl rfl (be aa _ _ ar (bw T j2 N hj) tr rfl ae (by simp)) ?_
 refine aZ rfl rfl (bJ (r:=false) _ _ Tryz.underlying9 rfl rfl (beq_eq_false_iff_ne.2 he)) ?_
 refine go 4 ?_
 refine aA ?_
 refine az (σ':=ap 145 [(4,_),(8,_),(9,_)] [((4,0),_),((58,0),_),((9,0),_),((0,9),_)] [(0,9)] [(0,9)]) kp ?_
 refine an (sR rfl (bc (Le.nil0 (9,0) 3 rfl rfl) ?_))
 refine go 2 ?_
 refine ai (cG (83,0) _ _ aa rfl rfl ag (by (refine .sl ?_;(simp [cB];done))) ab rfl (rfl) (rfl)) ?_
 refine go 3 ?_
 exact aq (dm (.inr rfl) rfl (.cellA aa rfl rfl rfl) (Le.outI [] [(83,0)] (.agg rfl (aB .v (aB .v (aB .v (aB (iO rfl rfl rfl rfl) bz))))) rfl rfl rfl tr ob tr rfl))
theorem xf (hT:T.length≤100000) (lv i:Nat) (hl:lv≤20) (hi:i < T.length) (ht:(cu T i).t=uO) {c x y:Nd} {j1 j2 j3:Nat} (h1:Spec Tryz.prog 226 (aE [.ptr (0,9) 0, .v (.int .i64 (lv:Int)), .v (.int .i64 1)] (de T (bv T i) N)) (PO T N (c,j1))) (h2:Spec Tryz.prog 164 (aE [.ptr (0,9) 0, .v (.int .i64 ((lv+1:Nat):Int))] (de T j1 N)) (PO T N (x,j2))) (hj:j2 < T.length) (he:(cu T j2).t=rN) (h3:Spec Tryz.prog 164 (aE [.ptr (0,9) 0, .v (.int .i64 ((lv+1:Nat):Int))] (de T (bv T j2) N)) (PO T N (y,j3))):
  Spec Tryz.prog 202 (aE [.ptr (0,9) 0, .v (.int .i64 (lv:Int))] (de T i N)) (PO T N (nd 2 0 [] [c,x,y],j3)):=by
 have hnx:=bw T i N hi
 have hn:dF T i=false:=eW (by rw [ht];rfl)
 rw [ht] at hnx
 refine Spec.ofNI Tryz.func202 rfl Tryz.ntmps202 rfl ?_
 refine go 5 ?_
 refine ai (be aa _ _ ar (hnx) tr rfl ae (by simp)) ?_
 refine go 10 ?_
 refine ai (be aa _ _ ar (da T i N hi) tr rfl ae (by simp)) ?_
 refine aj (cd rfl hn (go 5 ?_))
 refine ai (au aa al (bY Ch 9 rfl ab uO) rfl rfl) ?_
 refine go 6 ?_
 refine ai (aF (bS T i N hi hT)) ?_
 refine aj (aA (aA ?_))
 refine az (σ':=ap 145 [(0,_),(1,_),(4,_),(5,_),(6,_)] [((0,9),_),((4,0),_),((6,0),_)] [(0,9)] [(0,9)]) kp ?_
 refine go 12 ?_
 refine ax fun K13 hK13=> ?_
 refine an (bN rfl (bE rfl (ai (aF (h1)) (go 2 ?_))))
 refine am (hK13 _ ?_)
 refine ax fun K14 hK14=> ?_
 refine az (σ':=ap 145 [(0,_),(1,_),(4,_),(5,_),(7,_)] [((0,9),_),((4,0),_),((7,0),_)] [(0,9)] [(0,9)]) kp ?_
 refine dA 5 [(0,9)] ?_
 refine go 8 ?_
 refine aJ (_,[((0,9),_)]) (fun τ=> (bR aa ar (h2) ob rfl rfl ae)) ?_
 refine go 1 ?_
 refine cD ⟨rfl,?_⟩
 refine ai (jQ (58,0) _ _ aa rfl ag (by (simp <;> rfl)) ah rfl rfl) ?_
 refine gF rfl (am (hK14 _ ?_))
 refine go 12 ?_
 refine ax fun K18 hK18=> ?_
 refine go 8 ?_
 refine aZ rfl rfl (be aa _ _ ar (bw T j2 N hj) tr rfl ae (by simp)) ?_
 refine aZ rfl rfl (bJ (r:=true) _ _ Tryz.underlying9 rfl rfl (beq_iff_eq.2 he)) ?_
 refine go 3 ?_
 refine ax fun K20 hK20=> ?_
 refine az (σ':=ap 145 [(0,_),(1,_),(4,_),(8,_),(9,_)] [((0,9),_),((4,0),_),((58,0),_),((9,0),_)] [(0,9)] [(0,9)]) kp ?_
 refine an (bN rfl (ai (aF (bS T j2 N hj hT)) ?_))
 refine am (hK20 _ ?_)
 refine go 4 ?_
 refine ai (aF (h3)) (HG rfl rfl rfl rfl rfl rfl (am (hK18 _ ?_)))
 refine go 4 ?_
 refine ai (cG (83,0) _ _ aa rfl rfl ag (by (refine .sl ?_;(simp [cB];done))) ab rfl (rfl) (rfl)) ?_
 refine go 3 ?_
 exact aq (dm (.inr rfl) rfl (.cellA aa rfl rfl rfl) (Le.outI [] [(83,0)] (.agg rfl (aB .v (aB .v (aB .v (aB (iO rfl rfl rfl rfl) bz))))) rfl rfl rfl tr ob tr rfl))
theorem DH (hT:T.length≤100000) (lv i:Nat) (hl:lv≤20) (hi:i < T.length) (ht:(cu T i).t=oT) {x y z:Nd} {k j1 j2 j3 j4 j5 j6 j7 j8:Nat} (h1:Spec Tryz.prog 226 (aE [.ptr (0,9) 0, .v (.int .i64 (lv:Int)), .v (.int .i64 1)] (de T (bv T i) N)) (PO T N (x,j1))) (h2:Spec Tryz.prog 162 (aE [.ptr (0,9) 0, .v (bt [44])] (de T j1 N)) (aP (.tup []) (de T j2 N) [(0,9)] [(0,9)])) (h3:Spec Tryz.prog 200 (aE [.ptr (0,9) 0, .v (.int .i64 29)] (de T j2 N)) (aP (.v (.int .i64 (k:Int))) (de T j3 N) [(0,9)] [(0,9)])) (h4:Spec Tryz.prog 162 (aE [.ptr (0,9) 0, .v (bt [44])] (de T j3 N)) (aP (.tup []) (de T j4 N) [(0,9)] [(0,9)])) (h5:Spec Tryz.prog 226 (aE [.ptr (0,9) 0, .v (.int .i64 (lv:Int)), .v (.int .i64 1)] (de T j4 N)) (PO T N (y,j5))) (h6:Spec Tryz.prog 162 (aE [.ptr (0,9) 0, .v (bt [44])] (de T j5 N)) (aP (.tup []) (de T j6 N) [(0,9)] [(0,9)])) (h7:Spec Tryz.prog 226 (aE [.ptr (0,9) 0, .v (.int .i64 (lv:Int)), .v (.int .i64 1)] (de T j6 N)) (PO T N (z,j7))) (h8:Spec Tryz.prog 162 (aE [.ptr (0,9) 0, .v (bt [59])] (de T j7 N)) (aP (.tup []) (de T j8 N) [(0,9)] [(0,9)])):
  Spec Tryz.prog 202 (aE [.ptr (0,9) 0, .v (.int .i64 (lv:Int))] (de T i N)) (PO T N (nd 4 k [] [x,y,z],j8)):=by
 have hnx:=bw T i N hi
 have hn:dF T i=false:=eW (by rw [ht];rfl)
 rw [ht] at hnx
 refine Spec.ofNI Tryz.func202 rfl Tryz.ntmps202 rfl ?_
 refine go 5 ?_
 refine ai (be aa _ _ ar (hnx) tr rfl ae (by simp)) ?_
 refine go 10 ?_
 refine ai (be aa _ _ ar (da T i N hi) tr rfl ae (by simp)) ?_
 refine aj (cd rfl hn (go 5 ?_))
 refine ai (au aa al (bY Ch 9 rfl ab oT) rfl rfl) ?_
 refine go 6 ?_
 refine ai (aF (bS T i N hi hT)) ?_
 refine aj (ax fun K9 hK9=> ?_)
 refine aA ?_
 refine az (σ':=ap 145 [(0,_),(1,_),(4,_),(5,_),(6,_)] [((0,9),_),((4,0),_),((6,0),_)] [(0,9)] [(0,9)]) kp ?_
 refine go 20 ?_
 refine ax fun K14 hK14=> ?_
 refine an (bN rfl (bE rfl (ai (aF (h1)) (go 2 ?_))))
 refine am (hK14 _ ?_)
 refine ax fun K15 hK15=> ?_
 refine an (bN rfl (ai (aF (h2)) (am (hK15 _ ?_))))
 refine ax fun K16 hK16=> ?_
 refine an (bN rfl (ai (aF (h3)) (bF rfl (am (hK16 _ ?_)))))
 refine ax fun K17 hK17=> ?_
 refine az (σ':=ap 145 [(0,_),(1,_),(4,_),(6,_),(10,_),(11,_)] [((0,9),_),((4,0),_),((6,0),_),((10,0),_)] [(0,9)] [(0,9)]) kp ?_
 refine an (bN rfl (ai (aF (h4)) (am (hK17 _ ?_))))
 refine ax fun K18 hK18=> ?_
 refine an (bN rfl (bE rfl (ai (aF (h5)) (go 2 ?_))))
 refine am (hK18 _ ?_)
 refine ax fun K19 hK19=> ?_
 refine an (bN rfl (ai (aF (h6)) (am (hK19 _ ?_))))
 refine az (σ':=ap 145 [(0,_),(1,_),(4,_),(6,_),(10,_),(11,_),(12,_)] [((0,9),_),((4,0),_),((6,0),_),((10,0),_),((12,0),_)] [(0,9)] [(0,9)]) kp ?_
 refine dA 7 [(0,9)] ?_
 refine go 10 ?_
 refine aJ (_,[((0,9),_)]) (fun τ=> (bR aa ar (h7) ob rfl rfl ae)) ?_
 refine go 1 ?_
 refine aJ (_,[]) (fun τ=> iJ _ _ aa rfl ag (by (simp;exact ⟨rfl,rfl⟩)) ah rfl) ?_
 refine go 4 ?_
 refine am (hK9 _ ?_)
 refine ax fun K20 hK20=> ?_
 refine an (bN rfl (ai (aF (h8)) (am (hK20 _ ?_))))
 refine go 4 ?_
 exact aq (dR [])
theorem zf (hT:T.length≤100000) (lv i:Nat) (hl:lv≤20) (hi:i < T.length) (ht:(cu T i).t=gc) {k j1 j2:Nat} (h1:Spec Tryz.prog 200 (aE [.ptr (0,9) 0, .v (.int .i64 7)] (de T (bv T i) N)) (aP (.v (.int .i64 (k:Int))) (de T j1 N) [(0,9)] [(0,9)])) (h2:Spec Tryz.prog 162 (aE [.ptr (0,9) 0, .v (bt [59])] (de T j1 N)) (aP (.tup []) (de T j2 N) [(0,9)] [(0,9)])):
  Spec Tryz.prog 202 (aE [.ptr (0,9) 0, .v (.int .i64 (lv:Int))] (de T i N)) (PO T N (nd 5 k [] [],j2)):=by
 have hnx:=bw T i N hi
 have hn:dF T i=false:=eW (by rw [ht];rfl)
 rw [ht] at hnx
 refine Spec.ofNI Tryz.func202 rfl Tryz.ntmps202 rfl ?_
 refine go 5 ?_
 refine ai (be aa _ _ ar (hnx) tr rfl ae (by simp)) ?_
 refine go 10 ?_
 refine ai (be aa _ _ ar (da T i N hi) tr rfl ae (by simp)) ?_
 refine aj (cd rfl hn (go 5 ?_))
 refine ai (au aa al (bY Ch 9 rfl ab gc) rfl rfl) ?_
 refine go 6 ?_
 refine ai (aF (bS T i N hi hT)) ?_
 refine aj (ax fun K9 hK9=> ?_)
 refine aA ?_
 refine az (σ':=ap 145 [(0,_),(1,_),(4,_),(5,_),(6,_)] [((0,9),_),((4,0),_),((6,0),_)] [(0,9)] [(0,9)]) kp ?_
 refine go 27 ?_
 refine ai (aF (h1)) (go 2 ?_)
 refine am (hK9 _ ?_)
 refine ax fun K15 hK15=> ?_
 refine an (bN rfl (ai (aF (h2)) (am (hK15 _ ?_))))
 refine aA ?_
 refine az (σ':=ap 145 [(4,_),(6,_)] [((4,0),_),((6,0),_),((0,9),_)] [(0,9)] [(0,9)]) kp ?_
 refine go 4 ?_
 exact aq (dR [])
theorem xX (hT:T.length≤100000) (lv i:Nat) (hl:lv≤20) (hi:i < T.length) (ht:(cu T i).t=kx) {k j1 j2:Nat} (h1:Spec Tryz.prog 200 (aE [.ptr (0,9) 0, .v (.int .i64 7)] (de T (bv T i) N)) (aP (.v (.int .i64 (k:Int))) (de T j1 N) [(0,9)] [(0,9)])) (h2:Spec Tryz.prog 162 (aE [.ptr (0,9) 0, .v (bt [59])] (de T j1 N)) (aP (.tup []) (de T j2 N) [(0,9)] [(0,9)])):
  Spec Tryz.prog 202 (aE [.ptr (0,9) 0, .v (.int .i64 (lv:Int))] (de T i N)) (PO T N (nd 6 k [] [],j2)):=by
 have hnx:=bw T i N hi
 have hn:dF T i=false:=eW (by rw [ht];rfl)
 rw [ht] at hnx
 refine Spec.ofNI Tryz.func202 rfl Tryz.ntmps202 rfl ?_
 refine go 5 ?_
 refine ai (be aa _ _ ar (hnx) tr rfl ae (by simp)) ?_
 refine go 10 ?_
 refine ai (be aa _ _ ar (da T i N hi) tr rfl ae (by simp)) ?_
 refine aj (cd rfl hn (go 5 ?_))
 refine ai (au aa al (bY Ch 9 rfl ab kx) rfl rfl) ?_
 refine go 6 ?_
 refine ai (aF (bS T i N hi hT)) ?_
 refine aj (ax fun K9 hK9=> ?_)
 refine aA ?_
 refine az (σ':=ap 145 [(0,_),(1,_),(4,_),(5,_),(6,_)] [((0,9),_),((4,0),_),((6,0),_)] [(0,9)] [(0,9)]) kp ?_
 refine go 32 ?_
 refine ai (aF (h1)) (go 2 ?_)
 refine am (hK9 _ ?_)
 refine ax fun K16 hK16=> ?_
 refine az (σ':=ap 145 [(0,_),(4,_),(6,_)] [((0,9),_),((4,0),_),((6,0),_)] [(0,9)] [(0,9)]) kp ?_
 refine an (bN rfl (ai (aF (h2)) (am (hK16 _ ?_))))
 refine go 4 ?_
 exact aq (dR [])
theorem Bt (hT:T.length≤100000) (lv i:Nat) (hl:lv≤20) (hi:i < T.length) (ht:(cu T i).t=lW) {x y:Nd} {j1 j2 j3 j4:Nat} (h1:Spec Tryz.prog 226 (aE [.ptr (0,9) 0, .v (.int .i64 (lv:Int)), .v (.int .i64 1)] (de T (bv T i) N)) (PO T N (x,j1))) (h2:Spec Tryz.prog 162 (aE [.ptr (0,9) 0, .v (bt [44])] (de T j1 N)) (aP (.tup []) (de T j2 N) [(0,9)] [(0,9)])) (h3:Spec Tryz.prog 226 (aE [.ptr (0,9) 0, .v (.int .i64 (lv:Int)), .v (.int .i64 1)] (de T j2 N)) (PO T N (y,j3))) (h4:Spec Tryz.prog 162 (aE [.ptr (0,9) 0, .v (bt [59])] (de T j3 N)) (aP (.tup []) (de T j4 N) [(0,9)] [(0,9)])):
  Spec Tryz.prog 202 (aE [.ptr (0,9) 0, .v (.int .i64 (lv:Int))] (de T i N)) (PO T N (nd 8 0 [] [x,y],j4)):=by
 have hnx:=bw T i N hi
 have hn:dF T i=false:=eW (by rw [ht];rfl)
 rw [ht] at hnx
 refine Spec.ofNI Tryz.func202 rfl Tryz.ntmps202 rfl ?_
 refine go 5 ?_
 refine ai (be aa _ _ ar (hnx) tr rfl ae (by simp)) ?_
 refine go 10 ?_
 refine ai (be aa _ _ ar (da T i N hi) tr rfl ae (by simp)) ?_
 refine aj (cd rfl hn (go 5 ?_))
 refine ai (au aa al (bY Ch 9 rfl ab lW) rfl rfl) ?_
 refine go 6 ?_
 refine ai (aF (bS T i N hi hT)) ?_
 refine aj (ax fun K9 hK9=> ?_)
 refine aA ?_
 refine az (σ':=ap 145 [(0,_),(1,_),(4,_),(5,_),(6,_)] [((0,9),_),((4,0),_),((6,0),_)] [(0,9)] [(0,9)]) kp ?_
 refine go 35 ?_
 refine ax fun K17 hK17=> ?_
 refine an (bN rfl (bE rfl (ai (aF (h1)) (go 2 ?_))))
 refine am (hK17 _ ?_)
 refine ax fun K18 hK18=> ?_
 refine az (σ':=ap 145 [(0,_),(1,_),(4,_),(6,_),(13,_)] [((0,9),_),((4,0),_),((6,0),_),((13,0),_)] [(0,9)] [(0,9)]) kp ?_
 refine an (bN rfl (ai (aF (h2)) (am (hK18 _ ?_))))
 refine dA 4 [(0,9)] ?_
 refine go 6 ?_
 refine aJ (_,[((0,9),_)]) (fun τ=> (bR aa ar (h3) ob rfl rfl ae)) ?_
 refine go 5 ?_
 refine am (hK9 _ ?_)
 refine ax fun K19 hK19=> ?_
 refine an (bN rfl (ai (aF (h4)) (am (hK19 _ ?_))))
 refine go 4 ?_
 exact aq (dR [])
theorem Fk (hT:T.length≤100000) (lv i:Nat) (hl:lv≤20) (hi:i < T.length) (ht:(cu T i).t=pF) {x:Nd} {j1 j2:Nat} (h1:Spec Tryz.prog 226 (aE [.ptr (0,9) 0, .v (.int .i64 (lv:Int)), .v (.int .i64 1)] (de T (bv T i) N)) (PO T N (x,j1))) (h2:Spec Tryz.prog 162 (aE [.ptr (0,9) 0, .v (bt [59])] (de T j1 N)) (aP (.tup []) (de T j2 N) [(0,9)] [(0,9)])):
  Spec Tryz.prog 202 (aE [.ptr (0,9) 0, .v (.int .i64 (lv:Int))] (de T i N)) (PO T N (nd 9 0 [] [x],j2)):=by
 have hnx:=bw T i N hi
 have hn:dF T i=false:=eW (by rw [ht];rfl)
 rw [ht] at hnx
 refine Spec.ofNI Tryz.func202 rfl Tryz.ntmps202 rfl ?_
 refine go 5 ?_
 refine ai (be aa _ _ ar (hnx) tr rfl ae (by simp)) ?_
 refine go 10 ?_
 refine ai (be aa _ _ ar (da T i N hi) tr rfl ae (by simp)) ?_
 refine aj (cd rfl hn (go 5 ?_))
 refine ai (au aa al (bY Ch 9 rfl ab pF) rfl rfl) ?_
 refine go 6 ?_
 refine ai (aF (bS T i N hi hT)) ?_
 refine aj (ax fun K9 hK9=> ?_)
 refine aA ?_
 refine az (σ':=ap 145 [(0,_),(1,_),(4,_),(5,_),(6,_)] [((0,9),_),((4,0),_),((6,0),_)] [(0,9)] [(0,9)]) kp ?_
 refine go 40 ?_
 refine az (σ':=ap 145 [(0,_),(1,_),(4,_),(6,_)] [((0,9),_),((4,0),_),((6,0),_)] [(0,9)] [(0,9)]) kp ?_
 refine an (bN rfl (bE rfl (ai (aF (h1)) (go 3 ?_))))
 refine am (hK9 _ ?_)
 refine ax fun K18 hK18=> ?_
 refine an (bN rfl (ai (aF (h2)) (am (hK18 _ ?_))))
 refine go 4 ?_
 exact aq (dR [])
theorem Eh (hT:T.length≤100000) (lv i:Nat) (hl:lv≤20) (hi:i < T.length) (ht:(cu T i).t=pX) {j1:Nat} (h1:Spec Tryz.prog 162 (aE [.ptr (0,9) 0, .v (bt [59])] (de T (bv T i) N)) (aP (.tup []) (de T j1 N) [(0,9)] [(0,9)])):
  Spec Tryz.prog 202 (aE [.ptr (0,9) 0, .v (.int .i64 (lv:Int))] (de T i N)) (PO T N (nd 7 0 [] [],j1)):=by
 have hnx:=bw T i N hi
 have hn:dF T i=false:=eW (by rw [ht];rfl)
 rw [ht] at hnx
 refine Spec.ofNI Tryz.func202 rfl Tryz.ntmps202 rfl ?_
 refine go 5 ?_
 refine ai (be aa _ _ ar (hnx) tr rfl ae (by simp)) ?_
 refine go 10 ?_
 refine ai (be aa _ _ ar (da T i N hi) tr rfl ae (by simp)) ?_
 refine aj (cd rfl hn (go 5 ?_))
 refine ai (au aa al (bY Ch 9 rfl ab pX) rfl rfl) ?_
 refine go 6 ?_
 refine ai (aF (bS T i N hi hT)) ?_
 refine aj (aA (aA ?_))
 refine az (σ':=ap 145 [(0,_),(1,_),(4,_),(5,_),(6,_)] [((0,9),_),((4,0),_),((6,0),_)] [(0,9)] [(0,9)]) kp ?_
 refine go 40 ?_
 refine aA ?_
 refine az (σ':=ap 145 [(0,_),(4,_),(6,_),(45,_)] [((0,9),_),((4,0),_),((6,0),_)] [(0,9)] [(0,9)]) kp ?_
 refine go 9 ?_
 refine ax fun K19 hK19=> ?_
 refine an (bN rfl (ai (aF (h1)) (am (hK19 _ ?_))))
 refine go 4 ?_
 exact aq (dR [])
theorem Db (hT:T.length≤100000) (lv i:Nat) (hl:lv≤20) (hi:i < T.length) (ht:(cu T i).t=pV) {j1:Nat} (h1:Spec Tryz.prog 162 (aE [.ptr (0,9) 0, .v (bt [59])] (de T (bv T i) N)) (aP (.tup []) (de T j1 N) [(0,9)] [(0,9)])):
  Spec Tryz.prog 202 (aE [.ptr (0,9) 0, .v (.int .i64 (lv:Int))] (de T i N)) (PO T N (nd 10 0 [] [],j1)):=by
 have hnx:=bw T i N hi
 have hn:dF T i=false:=eW (by rw [ht];rfl)
 rw [ht] at hnx
 refine Spec.ofNI Tryz.func202 rfl Tryz.ntmps202 rfl ?_
 refine go 5 ?_
 refine ai (be aa _ _ ar (hnx) tr rfl ae (by simp)) ?_
 refine go 10 ?_
 refine ai (be aa _ _ ar (da T i N hi) tr rfl ae (by simp)) ?_
 refine aj (cd rfl hn (go 5 ?_))
 refine ai (au aa al (bY Ch 9 rfl ab pV) rfl rfl) ?_
 refine go 6 ?_
 refine ai (aF (bS T i N hi hT)) ?_
 refine aj (aA (aA ?_))
 refine az (σ':=ap 145 [(0,_),(1,_),(4,_),(5,_),(6,_)] [((0,9),_),((4,0),_),((6,0),_)] [(0,9)] [(0,9)]) kp ?_
 refine go 40 ?_
 refine aA ?_
 refine az (σ':=ap 145 [(0,_),(4,_),(6,_),(45,_)] [((0,9),_),((4,0),_),((6,0),_)] [(0,9)] [(0,9)]) kp ?_
 refine go 9 ?_
 refine ax fun K19 hK19=> ?_
 refine an (bN rfl (ai (aF (h1)) (am (hK19 _ ?_))))
 refine go 4 ?_
 exact aq (dR [])
end
end Go.Proofs.YtmjnackchaahbaaGreat

set_option maxHeartbeats 2000000
namespace Go.Proofs.YtmjnackchaahbaaGreat
open Go.RowKit

def iU (l:List Nd):List PV:=l.flatMap Nd.row
theorem bk (l:List Nd):(iU l).length=l.length*4:=nc Nd.row 4 (fun _=> rfl) l
theorem uj (l:List Nd) (d:Nd):iU l++d.row=iU (l++[d]):=mq Nd.row l d
theorem pY {T:List Tk} {g lv i:Nat} {r:List Nd×Nat} (h:my T g lv i=some r): ∃ f,g=f+1∧((cu T i).t=[125]∧r=([],i)∨(cu T i).t≠[125]∧ ∃ d j l k,yc T f lv i=some (d,j)∧my T f lv j=some (l,k)∧r=(d::l,k)):=by
 cases g with
 | zero=> simp [my] at h
 | succ f=>
  refine ⟨f,rfl,?_⟩
  unfold my at h
  split at h
  ·rename_i ht;exact .inl ⟨ht,(Option.some.inj h).symm⟩
  rename_i ht
  simp only [Option.bind_eq_bind,Option.bind_eq_some_iff,Option.pure_def] at h
  obtain ⟨⟨d,j⟩,hd,⟨l,k⟩,hl,h⟩:=h
  exact .inr ⟨ht,d,j,l,k,hd,hl,(Option.some.inj h).symm⟩
section
variable {T:List Tk} {N:List Tx}
theorem BU (hT:T.length≤100000) (f:Nat) (hf:f≤2000000) (ih: ∀ g,g≤f→PS T N g) (lv i:Nat) (r:Nd×Nat) (hl:lv≤21) (hi:i < T.length) (h:qi T (f+1) lv i=some r):
  r.2 < T.length∧Spec Tryz.prog 164 (aE [.ptr (0,9) 0, .v (.int .i64 (lv:Int))] (de T i N)) (PO T N r):=by
 unfold qi at h
 simp only [Option.bind_eq_bind,Option.bind_eq_some_iff,Option.pure_def,Option.some.injEq] at h
 obtain ⟨j,hj,⟨L,j2⟩,hL,j3,hj3,rfl⟩:=h
 have ho:=jJ hj
 have hjl:=ix ho.2 hi
 have hl':=ho.1
 have hopen:=na T i j N [123] lv hi hT hj
 simp only at hj3 ⊢
 have hend: ∀ (g i:Nat) (r:List Nd×Nat),g≤f→i < T.length→my T g lv i=some r→r.2 < T.length:=by
  intro g
  induction g with
  | zero=> intro i r _ _ h;simp [my] at h
  | succ g ihg=>
   intro i r hg hi h
   obtain ⟨g',hg',h | ⟨_,d,j,l,k,hd,hm,h⟩⟩:=pY h
   ·rw [h.2];exact hi
   obtain rfl:g=g':=by omega
   rw [h]
   exact ihg j (l,k) ab ((ih g ab).stm _ _ _ hl' hi hd).1 hm
 have hj2:=hend f j _ (Nat.le_refl _) hjl hL
 refine ⟨ix hj3 hj2,?_⟩
 refine Spec.ofNI Tryz.func164 rfl Tryz.ntmps164 rfl ?_
 refine go 8 ?_
 refine aA ?_
 refine az (Le.nilB (5,0) 3 (60,0) 71 4 rfl rfl rfl) ?_
 refine an (bN rfl (bE rfl (ai (aF (hopen)) (aj (ax fun K4 hK4=> ?_)))))
 refine aN ?_
 refine aX (α:=Nat×List Nd×Nat) (fun z=> z.1≤f∧z.2.1.length+z.1=f∧z.2.2 < T.length∧ ∃ l,my T z.1 lv z.2.2=some (l,j2)∧L=z.2.1++l) 31 [(0,_),(1,_),(4,_),(5,_)] [((4,0),_)] (fun z=> []) (fun z=> [((0,9), .box 222 [.sl T.length (rP T), .v (.int .i64 (z.2.2:Int)), .v (.int .i64 0), .v (.int .i64 0), .sl N.length (dh N)]),((5,0), .box 71 [.v (.int .i64 11), .v (.int .i64 0), .v (bt []), .ref (60,0) 0 z.2.1.length]),((60,0), .row 71 4 (iU z.2.1))]) [(0,9)] [(0,9)] (fun z=> z.1) (f,[],j) ?_ (kj [0,1,1,2] [] []) ?_
 ·exact ⟨Nat.le_refl _,Nat.zero_add _,hjl,L,hL,rfl⟩
 intro z hz
 obtain ⟨z1,z2,z3⟩:=z
 obtain ⟨hz1,hz2,hz3,l,hz4,hz5⟩:=hz
 obtain ⟨g,rfl,hm⟩:=pY hz4
 simp only at hz1 hz2 hz3 hz5 hm ⊢
 refine ax fun K5 hK5=> ?_
 refine go 8 ?_
 refine aZ rfl rfl (be aa _ _ ar (bw T z3 N hz3) tr rfl ae (by simp)) ?_
 refine aZ rfl rfl (sk _ _ Tryz.underlying9 rfl rfl rfl) (go 2 ?_)
 refine aD rfl (fun hc19=> ?_) (fun hc19=> ?_)
 ·obtain ⟨_,d,jd,l',k',hd,hm',hr⟩:=hm.resolve_left fun x=> hc19 x.1
  obtain ⟨rfl,rfl⟩:=Prod.mk.inj hr
  obtain ⟨hda,hdb⟩:=(ih g ab).stm _ _ _ hl' hz3 hd
  have hlen:(z2++[d]).length=z2.length+1:=by simp
  refine aU (hK5 _ ?_)
  refine aN ?_
  refine az (σ':=ap 31 [(0,_),(1,_),(4,_),(5,_)] [((4,0),_),((0,9),_),((5,0),_),((60,0),_)] [(0,9)] [(0,9)]) kp ?_
  refine dA 6 [(0,9)] ?_
  refine go 8 ?_
  refine aJ (_,[((0,9),_)]) (fun τ=> (bR aa ar (hdb) ob rfl rfl ae)) ?_
  refine go 4 ?_
  refine ai (cG (26,0) _ _ aa rfl rfl (bk _).symm (.sl rfl) ab rfl (uj _ d) hlen.symm) ?_
  refine go 2 ?_
  refine am (⟨(g,z2++[d],jd),?_,?_,?_⟩)
  ·exact ⟨by simp only;omega,by simp only;omega,hda,l',hm',by rw [hz5];simp⟩
  ·refine Le.mkJ [((60,0),(26,0))] [] rfl ?_ ?_ trivial tr ?_
   ·exact ⟨(di (id:=(0,9)) rfl),(by repeat' (exact Lv.v)),(di (id:=(4,0)) rfl),(di (id:=(5,0)) rfl),trivial⟩
   ·exact ⟨(iq rfl rfl rfl rfl (by repeat' (first | exact Lv.v | exact bz | refine aB ?_ ?_))),(iq rfl rfl rfl rfl lz),(iq rfl rfl rfl rfl (vT (vT (aB (by repeat' (exact Lv.v)) lz)))),(im rfl rfl rfl ag),trivial⟩
   kernel_rfl
  simp only;omega
 obtain ⟨_,hr⟩:=hm.resolve_right fun x=> x.1 hc19
 obtain ⟨rfl,rfl⟩:=Prod.mk.inj hr
 rw [List.append_nil] at hz5
 subst hz5
 have hexp:=eK T j2 j3 N [125] hj2 hT hj3
 refine bm (id (hK4 _ ?_))
 refine aH (bN rfl (ai (aF (hexp)) (go 5 ?_)))
 exact aq (dm (.inr rfl) rfl (.cellA aa rfl rfl rfl) (Le.outI [] [(60,0)] (.agg rfl (aB .v (aB .v (aB .v (aB (iO rfl rfl (bk _).symm rfl) bz))))) rfl rfl rfl tr ob tr rfl))
theorem rE {T:List Tk} {most i:Nat} {r:Nat×Nat} (h:nZ T most i=some r) (hi:i < T.length):r.2 < T.length:=by
 unfold nZ at h
 split at h
 ·rw [← Option.some.inj h];exact dq hi
 cases h
theorem Ag (hT:T.length≤100000) (f:Nat) (ih:PS T N f) (lv i:Nat) (r:Nd×Nat) (hl:lv≤20) (hi:i < T.length) (h:yc T (f+1) lv i=some r):
  r.2 < T.length∧Spec Tryz.prog 202 (aE [.ptr (0,9) 0, .v (.int .i64 (lv:Int))] (de T i N)) (PO T N r):=by
 have htl:=dq hi
 have hx:=fun {i:Nat} {r:Nd×Nat} (hi:i < T.length) (h:fH T f lv 1 i=some r)=> yw (N:=N) hT hl hi h
 have hb:=fun {i:Nat} {r:Nd×Nat} (hi:i < T.length) (h:qi T f (lv+1) i=some r)=> ih.blk (lv+1) i r ab hi h
 have he:=fun {i j:Nat} {s:Tx} (hi:i < T.length) (h:fG T s i=some j)=> And.intro (ix h hi) (eK T i j N s hi hT h)
 have hn:=fun {i most:Nat} {r:Nat×Nat} (hm:most≤1000) (hi:i < T.length) (h:nZ T most i=some r)=> And.intro (rE h hi) (kH T i N most hi hT hm r h)
 unfold yc at h
 simp only at h
 by_cases h0:dF T i=true
 ·rw [if_pos h0] at h
  simp only [Option.bind_eq_bind,Option.bind_eq_some_iff,Option.pure_def,Option.some.injEq] at h
  obtain ⟨j1,e1,⟨d,j2⟩,e2,j3,e3,rfl⟩:=h
  obtain ⟨a1,b1⟩:=he htl e1
  obtain ⟨a2,b2⟩:=hx a1 e2
  obtain ⟨a3,b3⟩:=he a2 e3
  exact ⟨a3,xS hT lv i hl hi h0 b1 b2 b3⟩
 rw [if_neg h0] at h
 by_cases h1:(cu T i).t=uO∨(cu T i).t=jK
 ·rw [if_pos h1] at h
  simp only [Option.bind_eq_bind,Option.bind_eq_some_iff,Option.pure_def] at h
  obtain ⟨⟨c,j1⟩,e1,⟨x,j2⟩,e2,h⟩:=h
  obtain ⟨a1,b1⟩:=hx htl e1
  obtain ⟨a2,b2⟩:=hb a1 e2
  simp only at h
  by_cases hw:(cu T i).t=jK
  ·rw [if_pos hw] at h
   obtain rfl:=Option.some.inj h
   exact ⟨a2,AU hT lv i hl hi hw b1 b2⟩
  rw [if_neg hw] at h
  have hf:=h1.resolve_right hw
  by_cases hel:(cu T j2).t=rN
  ·rw [if_pos hel] at h
   simp only [Option.bind_eq_some_iff,Option.some.injEq] at h
   obtain ⟨⟨y,j3⟩,e3,rfl⟩:=h
   obtain ⟨a3,b3⟩:=hb (dq a2) e3
   exact ⟨a3,xf hT lv i hl hi hf b1 b2 a2 hel b3⟩
  rw [if_neg hel] at h
  obtain rfl:=Option.some.inj h
  exact ⟨a2,IW hT lv i hl hi hf b1 b2 a2 hel⟩
 rw [if_neg h1] at h
 by_cases h2:(cu T i).t=oT
 ·rw [if_pos h2] at h
  simp only [Option.bind_eq_bind,Option.bind_eq_some_iff,Option.pure_def,Option.some.injEq] at h
  obtain ⟨⟨x,j1⟩,e1,j2,e2,⟨k,j3⟩,e3,j4,e4,⟨y,j5⟩,e5,j6,e6,⟨z,j7⟩,e7,j8,e8,rfl⟩:=h
  obtain ⟨a1,b1⟩:=hx htl e1
  obtain ⟨a2,b2⟩:=he a1 e2
  obtain ⟨a3,b3⟩:=hn ab a2 e3
  obtain ⟨a4,b4⟩:=he a3 e4
  obtain ⟨a5,b5⟩:=hx a4 e5
  obtain ⟨a6,b6⟩:=he a5 e6
  obtain ⟨a7,b7⟩:=hx a6 e7
  obtain ⟨a8,b8⟩:=he a7 e8
  exact ⟨a8,DH hT lv i hl hi h2 b1 b2 b3 b4 b5 b6 b7 b8⟩
 rw [if_neg h2] at h
 by_cases h3:(cu T i).t=gc
 ·rw [if_pos h3] at h
  simp only [Option.bind_eq_bind,Option.bind_eq_some_iff,Option.pure_def,Option.some.injEq] at h
  obtain ⟨⟨k,j1⟩,e1,j2,e2,rfl⟩:=h
  obtain ⟨a1,b1⟩:=hn ab htl e1
  obtain ⟨a2,b2⟩:=he a1 e2
  exact ⟨a2,zf hT lv i hl hi h3 b1 b2⟩
 rw [if_neg h3] at h
 by_cases h4:(cu T i).t=kx
 ·rw [if_pos h4] at h
  simp only [Option.bind_eq_bind,Option.bind_eq_some_iff,Option.pure_def,Option.some.injEq] at h
  obtain ⟨⟨k,j1⟩,e1,j2,e2,rfl⟩:=h
  obtain ⟨a1,b1⟩:=hn ab htl e1
  obtain ⟨a2,b2⟩:=he a1 e2
  exact ⟨a2,xX hT lv i hl hi h4 b1 b2⟩
 rw [if_neg h4] at h
 by_cases h5:(cu T i).t=lW
 ·rw [if_pos h5] at h
  simp only [Option.bind_eq_bind,Option.bind_eq_some_iff,Option.pure_def,Option.some.injEq] at h
  obtain ⟨⟨x,j1⟩,e1,j2,e2,⟨y,j3⟩,e3,j4,e4,rfl⟩:=h
  obtain ⟨a1,b1⟩:=hx htl e1
  obtain ⟨a2,b2⟩:=he a1 e2
  obtain ⟨a3,b3⟩:=hx a2 e3
  obtain ⟨a4,b4⟩:=he a3 e4
  exact ⟨a4,Bt hT lv i hl hi h5 b1 b2 b3 b4⟩
 rw [if_neg h5] at h
 by_cases h6:(cu T i).t=pF
 ·rw [if_pos h6] at h
  simp only [Option.bind_eq_bind,Option.bind_eq_some_iff,Option.pure_def,Option.some.injEq] at h
  obtain ⟨⟨x,j1⟩,e1,j2,e2,rfl⟩:=h
  obtain ⟨a1,b1⟩:=hx htl e1
  obtain ⟨a2,b2⟩:=he a1 e2
  exact ⟨a2,Fk hT lv i hl hi h6 b1 b2⟩
 rw [if_neg h6] at h
 by_cases h7:(cu T i).t=pX
 ·rw [if_pos h7] at h
  simp only [Option.bind_eq_bind,Option.bind_eq_some_iff,Option.pure_def,Option.some.injEq] at h
  obtain ⟨j1,e1,rfl⟩:=h
  obtain ⟨a1,b1⟩:=he htl e1
  exact ⟨a1,Eh hT lv i hl hi h7 b1⟩
 rw [if_neg h7] at h
 by_cases h8:(cu T i).t=pV
 ·rw [if_pos h8] at h
  simp only [Option.bind_eq_bind,Option.bind_eq_some_iff,Option.pure_def,Option.some.injEq] at h
  obtain ⟨j1,e1,rfl⟩:=h
  obtain ⟨a1,b1⟩:=he htl e1
  exact ⟨a1,Db hT lv i hl hi h8 b1⟩
 rw [if_neg h8] at h
 cases h
theorem HC (hT:T.length≤100000): ∀ f,f≤2000000→ ∀ g,g≤f→PS T N g:=by
 intro f
 induction f with
 | zero=>
  intro _ g hg
  obtain rfl:g=0:=by omega
  exact ⟨fun _ _ _ _ _ h=> by simp [yc] at h,fun _ _ _ _ _ h=> by simp [qi] at h⟩
 | succ f ih=>
  intro hf g hg
  rcases Nat.lt_or_ge g (f+1) with h | h
  ·exact ih ab g ab
  obtain rfl:g=f+1:=by omega
  exact ⟨Ag hT f (ih ab f (Nat.le_refl _)),BU hT f ab (ih ab)⟩
theorem uZ (hT:T.length≤100000) {f i:Nat} {r:Nd×Nat} (hf:f≤2000000) (hi:i < T.length) (h:qi T f 1 i=some r):r.2 < T.length∧Spec Tryz.prog 164 (aE [.ptr (0,9) 0, .v (.int .i64 1)] (de T i N)) (PO T N r):=
 (HC hT f hf f (Nat.le_refl _)).blk 1 i r ab hi h
end

class MthV (P:Program) (t:TypeId) (name:String) (f e:outParam TypeId):Prop where
 out: ∀ (ad:Addr) (w:World),(method (P.types.size+Made.depth) t (.pointer (some ad)) name).run P w=((loadVar e ad).run P w).andThen fun v w'=> .ok (f,v) w'
theorem sY {P:Program} {t:TypeId} {ad:Addr} {nm:String} {w:World}:(Builtin.ssaWrapNilChk_ #[t] t #[.pointer (some ad),strVal "",strVal nm]).run P w= .ok (.pointer (some ad)) w:=rfl
theorem BR {P:Program} {n:Nat} {t e f:TypeId} {name:String} {i:TypeInfo} {m:Method} {ad:Addr} {w:World} (hi:P.info? t=some i) (hfind:i.methods.find? (·.name==name)=some m) (hpath:m.path= #[]) (hfunc:m.func=some (f,false))
  (hu:P.underlying t=some (.pointer e)):(method (n+1) t (.pointer (some ad)) name).run P w=((loadVar e ad).run P w).andThen fun v w'=> .ok (f,v) w':=by
 have h1:(typeInfo t).run P w= .ok i w:=by simp [typeInfo,Sem.run,hi]
 have h2:(underlying t).run P w= .ok (.pointer e) w:=by simp [underlying,Sem.run,hu]
 simp only [method,Sem.run_bind,h1,Result.andThen_ok,hfind,hpath,hfunc,follow,Sem.run_pure,receiverAt,h2,Place.get]
 simp only [Array.isEmpty_empty,if_true,Sem.run_bind,sY,Result.andThen_ok,asAddr,Sem.run_pure]
def Fu (P:Program) (t:TypeId) (name:String):Option (TypeId×TypeId):=
 match P.info? t with
 | some i=> match i.methods.find? (·.name==name) with
  | some m=> match m.path.isEmpty,m.func,P.underlying t with
   | true,some (f,false),some (.pointer e)=> some (f,e)
   | _,_,_=> none
  | none=> none
 | none=> none
theorem MthV.of {P:Program} {t e f:TypeId} {name:String} (h:Fu P t name=some (f,e)):MthV P t name f e:=by
 refine ⟨fun ad w=> ?_⟩
 obtain ⟨n,hn⟩: ∃ n,P.types.size+Made.depth=n+1:=⟨_,rfl⟩
 rw [hn]
 unfold Fu at h
 split at h
 ·rename_i i hi
  split at h
  ·rename_i m hm
   split at h
   ·rename_i f' e' hp hf hu
    cases h
    exact BR hi hm (by simpa using hp) hf hu
   cases h
  cases h
 cases h
section
variable {P:Program} {σ:St} {o:Oper} {t:TypeId} {name:String} {f:FuncId} {x:Operand} {xs:Array Operand} {ats:Array TypeId}
end
section
variable {P:Program} {σ:St} {dd:Option Tmp} {op:Op} {ty:TypeId} {f:FuncId} {avs:List AV}
end
theorem Le.incT {σ:St} (id:ay) (h:σ.ob id= .free):Le (σ.setInc id true) σ:=by
 intro K ι S a w R
 refine ⟨ι,S,R.keeps,R.S0,R.Slt,R.nt,R.df,R.fr,R.cl,R.clo,R.ob,R.dom,R.inj,fun i B g h1 h2=> ?_,R.pin,R.pf⟩
 obtain ⟨h3,h4,h5⟩:=R.sep i B g h1 h2
 refine ⟨h3,h4,fun h6=> h5 ?_⟩
 have h7:(bif gh i id then true else σ.inc i)=false:=h6
 cases hb:gh i id with
 | true=> rw [hb] at h7;cases h7
 | false=> rw [hb] at h7;exact h7
theorem np {P:Program} {σ:St} {z:List Value} {T e:TypeId} {size bytes:Nat} {dd:Option Tmp} {ty:TypeId} (id':ay) (s x:Operand) (E:Elem P T e size bytes z) {id:ay} {n:Nat} {xs:List PV} (hs:σ.eval s= .ref id 0 n) (hid:σ.ob id= .obj (.row e size xs)) (hl:n*size=xs.length) {m:Nat} {news:List PV} (hx:SrcAV σ (σ.eval x) size m news) (hb:(n+m)*bytes≤140737488355328) (hid':σ.ob id'= .free)
  {b:Bool} (hi:σ.inc id=b) (hi':σ.inc id'=b) {ys:List PV} (hy:xs++news=ys) {k:Nat} (hk:n+m=k):Stp P dd (.call { callee:= .builtin .append,args:= #[s,x],argTypes:= #[T,T] }) ty σ (((σ.setOb id .gone).setOb id' (.obj (.row e size ys))).put dd (.ref id' 0 k)):=by
 have h:=cG (P:=P) (dd:=dd) (ty:=ty) id' s x E hs hid hl hx hb hid' hy hk
 rwa [hi,St.setInc_same (by exact hi')] at h
end Go.Proofs.YtmjnackchaahbaaGreat

set_option maxHeartbeats 2000000
namespace Go.Proofs.YtmjnackchaahbaaGreat
open Go.RowKit

theorem lu {T:List Tk} {f:Nat} {seen:List Tx} {i:Nat} {r:List Tx×Nat} (h:fQ T f seen i=some r): ∃ g,f=g+1∧dF T i=true∧(cu T i).t∉seen∧seen.length < 16∧
  ((cu T (bv T i)).t=[44]∧(∃ l j,fQ T g (seen++[(cu T i).t]) (bv T (bv T i))=some (l,j)∧r=((cu T i).t::l,j))∨(cu T (bv T i)).t≠[44]∧ ∃ j,fG T [59] (bv T i)=some j∧r=([(cu T i).t],j)):=by
 cases f with
 | zero=> simp [fQ] at h
 | succ g=>
  refine ⟨g,rfl,?_⟩
  unfold fQ at h
  split at h
  ·cases h
  rename_i hn
  refine ⟨?_,fun hm=> hn (.inr (.inl hm)),Nat.lt_of_not_le fun hl=> hn (.inr (.inr hl)),?_⟩
  ·cases hb:dF T i with
   | true=> rfl
   | false=> exact absurd (.inl hb) hn
  split at h
  ·rename_i ht
   simp only [Option.bind_eq_bind,Option.bind_eq_some_iff,Option.pure_def] at h
   obtain ⟨⟨l,j⟩,hl,h⟩:=h
   exact .inl ⟨ht,l,j,hl,(Option.some.inj h).symm⟩
  rename_i ht
  simp only [Option.bind_eq_bind,Option.bind_eq_some_iff,Option.pure_def] at h
  obtain ⟨j,hj,h⟩:=h
  exact .inr ⟨ht,j,hj,(Option.some.inj h).symm⟩
section
variable {T:List Tk}
theorem ra (hT:T.length≤100000) (f:Nat) (N:List Tx) (i0:Nat) (hi:i0 < T.length) (r:List Tx×Nat) (h:fQ T f N (bv T i0)=some r):
  r.2 < T.length∧N.length+r.1.length≤16∧Spec Tryz.prog 161 (aE [.ptr (0,9) 0] (EU T i0 N))
   (aP (.sl r.1.length (dh r.1)) [((0,9), .box 222 [.sl T.length (rP T), .v (.int .i64 (r.2:Int)), .v (.int .i64 0), .v (.int .i64 0), .ref (1,8) 0 (N++r.1).length]),((1,8), .row 9 1 (dh (N++r.1)))] [(0,9),(1,8)] [(0,9)]):=by
 have htl:=dq hi
 have hend: ∀ (g:Nat) (seen:List Tx) (i:Nat) (r:List Tx×Nat),i < T.length→fQ T g seen i=some r→r.2 < T.length∧seen.length+r.1.length≤16:=by
  intro g
  induction g with
  | zero=> intro seen i r _ h;simp [fQ] at h
  | succ g ihg=>
   intro seen i r hi h
   obtain ⟨g',hg',_,_,hs,⟨_,l,j,hl,rfl⟩ | ⟨_,j,hj,rfl⟩⟩:=lu h
   ·obtain rfl:g=g':=by omega
    obtain ⟨h1,h2⟩:=ihg _ _ _ (dq (dq hi)) hl
    simp only [List.length_append,List.length_cons,List.length_nil] at h2 ⊢
    exact ⟨h1,by omega⟩
   exact ⟨ix hj (dq hi),by simp;omega⟩
 obtain ⟨ha,hb⟩:=hend f N _ r htl h
 refine ⟨ha,by omega,?_⟩
 have hNl:N.length < 16:=by obtain ⟨_,_,_,_,hs,_⟩:=lu h;exact hs
 refine Spec.ofNI Tryz.func161 rfl Tryz.ntmps161 rfl ?_
 refine aH (ai (bg _ fg) (aj (aH (ai (pN (3,0) _ 9 1 rfl rfl) ?_))))
 refine aj (aH (bN rfl (ai (cC aa [] ar (jN T i0 N hi hT) ob tr ae) ?_)))
 refine aj (ax fun K4 hK4=> ?_)
 refine aN ?_
 refine aX (α:=Nat×List Tx×Nat) (fun z=> (N++z.2.1).length≤16∧z.2.1.length≤16∧z.2.2 < T.length∧ ∃ l,fQ T z.1 (N++z.2.1) z.2.2=some (l,r.2)∧r.1=z.2.1++l) 76 [(0,_)] [] (fun z=> [(3, .ref (3,0) 0 z.2.1.length)]) (fun z=> [((0,9), .box 222 [.sl T.length (rP T), .v (.int .i64 (z.2.2:Int)), .v (.int .i64 0), .v (.int .i64 0), .ref (1,9) 0 (N++z.2.1).length]),((1,9), .row 9 1 (dh (N++z.2.1))),((3,0), .row 9 1 (dh z.2.1))]) [(0,9),(1,9)] [(0,9)] (fun z=> z.1) (f,[],bv T i0) ?_ (by
  refine Le.mkJ [] [] rfl ?_ ?_ trivial tr ?_
  ·exact ⟨(iP rfl),(eH rfl ag),trivial⟩
  ·exact ⟨(iq rfl rfl rfl rfl (aB (iu ag ag) (vT (vT (vT (aB (eH rfl (by (simp only [List.append_nil]))) bz)))))),(im rfl rfl rfl (by (simp only [List.append_nil]))),(im rfl rfl rfl ag),trivial⟩
  kernel_rfl) ?_
 ·exact ⟨by simp;omega,Nat.zero_le _,htl,r.1,by rw [List.append_nil];exact h,rfl⟩
 intro z hz
 obtain ⟨z1,z2,z3⟩:=z
 obtain ⟨hz1,hz2,hz3,l,hz4,hz5⟩:=hz
 obtain ⟨g,rfl,hn,hs,hsl,hm⟩:=lu hz4
 simp only at hz1 hz2 hz3 hz5 hn hs hsl hm ⊢
 have htz:=dq hz3
 have hl1:(z2++[(cu T z3).t]).length=z2.length+1:=by simp
 have hl2:(N++(z2++[(cu T z3).t])).length=(N++z2).length+1:=by simp;omega
 have ha2:dh (N++z2)++[PV.v (bt (cu T z3).t)]=dh (N++(z2++[(cu T z3).t])):=by rw [mF,List.append_assoc]
 refine go 14 ?_
 refine ai (be aa _ _ ar (vW T z3 (N++z2) hz3) tr rfl ae (by simp)) ?_
 refine ai (lP (r:=false) _ rfl (by rw [hn];rfl)) ?_
 refine aj (cd rfl rfl (aA ?_))
 refine az (σ':=ap 76 [(0,_),(3,_)] [((0,9),_),((1,9),_),((3,0),_)] [(0,9),(1,9)] [(0,9)]) kp ?_
 refine dA 7 [] ?_
 refine go 10 ?_
 refine aJ (_,[]) (fun τ=> (be aa _ _ ar (eb T z3 (N++z2) hz3) tr rfl ae (by simp))) ?_
 refine go 1 ?_
 refine aJ (_,[]) (fun τ=> (xr aa aw (bY (N++z2) _ rfl ab (cu T z3).t) rfl)) ?_
 refine go 1 ?_
 refine cD ⟨rfl,?_⟩
 refine aj (cd rfl (decide_eq_false hs) ?_)
 refine go 8 ?_
 refine cd rfl (decide_eq_false ab) ?_
 refine go 11 ?_
 refine aA ?_
 refine az (σ':=ap 76 [(0,_),(3,_)] [((0,9),_),((1,9),_),((3,0),_)] [(0,9),(1,9)] [(0,9)]) kp ?_
 refine an (sR rfl (bN rfl (ai (be aa _ _ ar (eb T z3 (N++z2) hz3) tr rfl ae (by simp)) ?_)))
 refine go 1 ?_
 refine ai (cG (54,0) _ _ aa rfl rfl (by simp) (.sl rfl) ab rfl (mF _ _) hl1.symm) ?_
 refine gF rfl (aj (aA ?_))
 refine az (σ':=ap 76 [(0,_),(3,_)] [((0,9),_),((1,9),_),((54,0),_)] [(0,9),(1,9)] [(0,9)]) kp ?_
 refine az (Le.incT (63,0) rfl) ?_
 refine yY 9 [55,56,57,58,59,60,61,62,63] [(1,9),(63,0)] [[],[],[],[(1,9)],[(1,9)],[(1,9)],[(1,9)],[(1,9)],[]] ae ae rfl (bD rfl) (rfl:_=[_,_,_,_,_,_,_,_,_]) (rfl:_=[_,_,_]) ?_
 refine go 12 ?_
 refine aJ (_,[]) (fun τ=> (be aa _ _ ar (eb T z3 (N++z2) hz3) tr rfl ae (by simp))) ?_
 refine go 3 ?_
 refine aJ (_,[((1,9), .gone),((63,0),_)]) (fun τ=> np (b:=true) (63,0) _ _ aa rfl (wH rfl (by exact th) rfl) (by simp) (.sl rfl) ab rfl rfl rfl ha2 hl2.symm) ?_
 refine go 6 ?_
 refine ax fun K15 hK15=> ?_
 refine az (σ':=ap 76 [(0,_),(3,_)] [((0,9), .box _ [_,_,_,_, .ref (1,9) _ _]),((54,0),_),((1,9),_)] [(0,9),(1,9)] [(0,9)]) (by
  refine Le.mkJ [((1,9),(63,0))] [] rfl ?_ ?_ trivial tr ?_
  ·exact ⟨(HK [(0,9),(54,0)] rfl oz rfl),(HK [(0,9),(54,0)] rfl qj rfl),trivial⟩
  ·exact ⟨(iq rfl rfl rfl rfl (aB (by exact HK [(0,9),(54,0)] rfl qd rfl) (aB (by exact HK [(0,9),(54,0)] rfl iH rfl) (aB (by exact HK [(0,9),(54,0)] rfl iH rfl) (aB (by exact HK [(0,9),(54,0)] rfl iH rfl) lz))))),(im rfl rfl rfl rfl),(im rfl rfl rfl rfl),trivial⟩
  kernel_rfl) ?_
 refine an (bN rfl (ai (cC aa [] ar (jN T z3 (N++(z2++[(cu T z3).t])) hz3 hT) ob tr ae) ?_))
 refine am (hK15 _ ?_)
 refine ax fun K16 hK16=> ?_
 refine aH (bN rfl (ai (be aa _ _ ar (eb T (bv T z3) (N++(z2++[(cu T z3).t])) htz) tr rfl ae (by simp)) ?_))
 refine ai (sk _ _ Tryz.underlying9 rfl rfl rfl) (aj (aD rfl (fun hc70=> ?_) (fun hc70=> ?_)))
 ·obtain ⟨_,j,hj,hr⟩:=hm.resolve_left fun x=> hc70 x.1
  obtain ⟨rfl,rfl⟩:=Prod.mk.inj hr
  have hexp:=sA T (bv T z3) r.2 (N++(z2++[(cu T z3).t])) [59] htz hT hj
  refine bm (id (hK4 _ ?_))
  refine aH (bN rfl (ai (cC aa [] ar (hexp) ob tr ae) ?_))
  exact aj (aH (sR rfl (gF rfl (aj (aq (dm (.inr rfl) rfl (.tmp qj) (Le.outI [((1,8),(1,9))] [(54,0)] (by rw [hz5];exact iO rfl rfl (by simp) rfl) rfl rfl rfl tr ⟨⟨rfl,⟨_,rfl, .box rfl (aB .sl (aB .v (aB .v (aB .v (aB (eH rfl (by rw [hz5])) bz)))))⟩,rfl⟩,⟨rfl,⟨_,rfl, .rowE (by rw [hz5])⟩,rfl⟩,trivial⟩ tr rfl)))))))
 obtain ⟨_,l',j',hd',hr⟩:=hm.resolve_right fun x=> x.1 hc70
 obtain ⟨rfl,rfl⟩:=Prod.mk.inj hr
 refine aU (hK16 _ ?_)
 refine an (bN rfl (ai (cC aa [] ar (jN T (bv T z3) (N++(z2++[(cu T z3).t])) htz hT) ob tr ae) ?_))
 refine am (⟨(g,z2++[(cu T z3).t],bv T (bv T z3)),?_,?_,?_⟩)
 ·exact ⟨by simp only [hl2];omega,by simp only [hl1];simp only [List.length_append] at hsl;omega,dq htz,l',by rw [← List.append_assoc];exact hd',by rw [hz5];simp⟩
 ·refine Le.mkJ [((3,0),(54,0))] [] rfl ?_ ?_ trivial tr ?_
  ·exact ⟨(di (id:=(0,9)) rfl),(eH rfl ag),trivial⟩
  ·exact ⟨(iq rfl rfl rfl rfl lz),(im rfl rfl rfl ag),(im rfl rfl rfl ag),trivial⟩
  kernel_rfl
 simp only;omega
end
end Go.Proofs.YtmjnackchaahbaaGreat

set_option maxHeartbeats 2000000
namespace Go.Proofs.YtmjnackchaahbaaGreat
open Go.RowKit

abbrev Hd:=Nat×Nd
def wV (h:Hd):List PV:= .v (.int .i64 (h.1:Int))::h.2.row
def jr (l:List Hd):List PV:=l.flatMap wV
theorem ba (l:List Hd):(jr l).length=l.length*5:=nc wV 5 (fun _=> rfl) l
def jW (l:List Hd) (k:Nat):Hd:=l.getD k (0,⟨0,0,[],0,[]⟩)
theorem ls (l:List Hd) (k:Nat) (h:k < l.length):jW l k=l[k]:=by simp [jW,h]
theorem gY (l:List Hd) (k:Nat) (h:k < l.length):(jr l)[k*5]? =some (.v (.int .i64 ((jW l k).1:Int))):=by
 rw [ls l k h];exact oQ wV 5 (fun _=> rfl) l k 0 h ab
theorem zI (l:List Hd) (k:Nat) (h:k < l.length):PV.ups (((jr l).drop (k*5)).take 5)=[.v (.int .i64 ((jW l k).1:Int)), .v (.int .i64 ((jW l k).2.k:Int)), .v (.int .i64 ((jW l k).2.n:Int)), .v (bt (jW l k).2.s), .sl (jW l k).2.kn (jW l k).2.kids]:=by
 rw [ls l k h,show ((jr l).drop (k*5)).take 5=wV l[k] from nS wV 5 (fun _=> rfl) l k h];rfl
theorem mo (l:List Hd) (h:Hd):jr l++wV h=jr (l++[h]):=mq wV l h
theorem wF (l m:List Hd):jr l++jr m=jr (l++m):=Ai wV l m
theorem vS (l:List Hd) (k:Nat) (h:k < l.length):l.take k++[jW l k]=l.take (k+1):=by rw [ls l k h,List.take_succ_eq_append_getElem h]
def JB:List Tx:=[me,jq,gc,ji]
section
variable {T:List Tk} {N:List Tx}
theorem zg (hT:T.length≤100000) (i:Nat) (hi:i < T.length) (ht:(cu T i).t=me) (l:List Hd) (hl:l.length≤100000) (hno: ∀ k,k < l.length→(jW l k).1≠0):
  Spec Tryz.prog 163 (aE [.ptr (0,9) 0, .sl l.length (jr l)] (de T i N)) (aP (.v (.int .i64 ((0:Nat):Int))) (de T (bv T i) N) [(0,9)] [(0,9)]):=by
 have hnx:=bw T i N hi
 rw [ht] at hnx
 refine Spec.ofNI Tryz.func163 rfl Tryz.ntmps163 rfl ?_
 refine go 12 ?_
 refine ai (be aa _ _ ar (hnx) tr rfl ae (by simp)) ?_
 refine go 9 ?_
 refine ai (au aa al (bY JB 4 rfl ab me) rfl rfl) ?_
 refine go 6 ?_
 refine ai (aF (bS T i N hi hT)) ?_
 refine aj (aA (aA ?_))
 refine az (σ':=ap 56 [(0,_),(1,_),(5,_),(6,_),(7,_)] [((0,9),_)] [(0,9)] [(0,9)]) kp ?_
 refine go 20 ?_
 refine ax fun K14 hK14=> ?_
 refine aH (bF rfl (aj (aN ?_)))
 refine aX (α:=Nat) (fun k=> k≤l.length) 56 [(0,_),(1,_),(5,_),(7,_)] [((0,9),_)] (fun k=> [(8, .v (.int .i64 (k:Int)))]) (fun k=> []) [(0,9)] [(0,9)] (fun k=> l.length - k) 0 ?_ (kj [0] [] []) ?_
 ·omega
 intro k hk
 refine ax fun K16 hK16=> ?_
 refine go 6 ?_
 refine aD rfl (fun hc42=> ?_) (fun hc42=> ?_)
 ·refine aU (hK16 _ ?_)
  refine aA (aN (aH (jV rfl (bE rfl (ai (aL _ _ aa rfl rfl _ rfl ab (by (simp only [aM,aW,aV,bj,bl,bk,ba];omega)) ag) ?_)))))
  refine ai (dI _ aa rfl rfl) (ai (bh _ aa rfl (by exact gY _ _ ab) rfl) ?_)
  refine bE rfl (ai (ca _ _ rfl rfl rfl) (aj (cd rfl (by have:=hno k ab;exact beq_eq_false_iff_ne.2 ab) ?_)))
  refine go 5 ?_
  refine am (⟨k+1,?_,?_,?_⟩)
  ·omega
  ·exact kj [0] [] []
  omega
 refine bm (id (hK14 _ ?_))
 exact aH (bE rfl (bF rfl (aj (aq (dm (.inr rfl) rfl (.tmp nV) (Le.outI [] [] (eN ag) rfl rfl rfl trivial ob tr rfl))))))
theorem vw (hT:T.length≤100000) (i:Nat) (hi:i < T.length) (ht:(cu T i).t=jq) (l:List Hd) (hl:l.length≤100000) (hno: ∀ k,k < l.length→(jW l k).1≠1):
  Spec Tryz.prog 163 (aE [.ptr (0,9) 0, .sl l.length (jr l)] (de T i N)) (aP (.v (.int .i64 ((1:Nat):Int))) (de T (bv T i) N) [(0,9)] [(0,9)]):=by
 have hnx:=bw T i N hi
 rw [ht] at hnx
 refine Spec.ofNI Tryz.func163 rfl Tryz.ntmps163 rfl ?_
 refine go 12 ?_
 refine ai (be aa _ _ ar (hnx) tr rfl ae (by simp)) ?_
 refine go 9 ?_
 refine ai (au aa al (bY JB 4 rfl ab jq) rfl rfl) ?_
 refine go 6 ?_
 refine ai (aF (bS T i N hi hT)) ?_
 refine aj (aA (aA ?_))
 refine az (σ':=ap 56 [(0,_),(1,_),(5,_),(6,_),(7,_)] [((0,9),_)] [(0,9)] [(0,9)]) kp ?_
 refine go 22 ?_
 refine ax fun K14 hK14=> ?_
 refine aH (bF rfl (aj (aN ?_)))
 refine aX (α:=Nat) (fun k=> k≤l.length) 56 [(0,_),(1,_),(5,_),(7,_)] [((0,9),_)] (fun k=> [(8, .v (.int .i64 (k:Int)))]) (fun k=> []) [(0,9)] [(0,9)] (fun k=> l.length - k) 0 ?_ (kj [0] [] []) ?_
 ·omega
 intro k hk
 refine ax fun K16 hK16=> ?_
 refine go 6 ?_
 refine aD rfl (fun hc42=> ?_) (fun hc42=> ?_)
 ·refine aU (hK16 _ ?_)
  refine aA (aN (aH (jV rfl (bE rfl (ai (aL _ _ aa rfl rfl _ rfl ab (by (simp only [aM,aW,aV,bj,bl,bk,ba];omega)) ag) ?_)))))
  refine ai (dI _ aa rfl rfl) (ai (bh _ aa rfl (by exact gY _ _ ab) rfl) ?_)
  refine bE rfl (ai (ca _ _ rfl rfl rfl) (aj (cd rfl (by have:=hno k ab;exact beq_eq_false_iff_ne.2 ab) ?_)))
  refine go 5 ?_
  refine am (⟨k+1,?_,?_,?_⟩)
  ·omega
  ·exact kj [0] [] []
  omega
 refine bm (id (hK14 _ ?_))
 exact aH (bE rfl (bF rfl (aj (aq (dm (.inr rfl) rfl (.tmp nV) (Le.outI [] [] (eN ag) rfl rfl rfl trivial ob tr rfl))))))
theorem AI (hT:T.length≤100000) (i:Nat) (hi:i < T.length) (ht:(cu T i).t=gc) (l:List Hd) (hl:l.length≤100000) {q j:Nat} (hq:q≤100) (h1:Spec Tryz.prog 200 (aE [.ptr (0,9) 0, .v (.int .i64 7)] (de T (bv T i) N)) (aP (.v (.int .i64 (q:Int))) (de T j N) [(0,9)] [(0,9)])) (hno: ∀ k,k < l.length→(jW l k).1≠(2+q)):
  Spec Tryz.prog 163 (aE [.ptr (0,9) 0, .sl l.length (jr l)] (de T i N)) (aP (.v (.int .i64 (((2+q):Nat):Int))) (de T j N) [(0,9)] [(0,9)]):=by
 have hnx:=bw T i N hi
 rw [ht] at hnx
 refine Spec.ofNI Tryz.func163 rfl Tryz.ntmps163 rfl ?_
 refine go 12 ?_
 refine ai (be aa _ _ ar (hnx) tr rfl ae (by simp)) ?_
 refine go 9 ?_
 refine ai (au aa al (bY JB 4 rfl ab gc) rfl rfl) ?_
 refine go 6 ?_
 refine ai (aF (bS T i N hi hT)) ?_
 refine aj (aA (aA ?_))
 refine az (σ':=ap 56 [(0,_),(1,_),(5,_),(6,_),(7,_)] [((0,9),_)] [(0,9)] [(0,9)]) kp ?_
 refine go 6 ?_
 refine ax fun K10 hK10=> ?_
 refine go 7 ?_
 refine ai (aF (h1)) (go 2 ?_)
 refine am (hK10 _ ?_)
 refine go 7 ?_
 refine ax fun K14 hK14=> ?_
 refine aH (bF rfl (aj (aN ?_)))
 refine aX (α:=Nat) (fun k=> k≤l.length) 56 [(0,_),(1,_),(5,_),(7,_)] [((0,9),_)] (fun k=> [(8, .v (.int .i64 (k:Int)))]) (fun k=> []) [(0,9)] [(0,9)] (fun k=> l.length - k) 0 ?_ (kj [0] [] []) ?_
 ·omega
 intro k hk
 refine ax fun K16 hK16=> ?_
 refine go 6 ?_
 refine aD rfl (fun hc42=> ?_) (fun hc42=> ?_)
 ·refine aU (hK16 _ ?_)
  refine aA (aN (aH (jV rfl (bE rfl (ai (aL _ _ aa rfl rfl _ rfl ab (by (simp only [aM,aW,aV,bj,bl,bk,ba];omega)) ag) ?_)))))
  refine ai (dI _ aa rfl rfl) (ai (bh _ aa rfl (by exact gY _ _ ab) rfl) ?_)
  refine bE rfl (ai (ca _ _ rfl rfl rfl) (aj (cd rfl (by have:=hno k ab;exact beq_eq_false_iff_ne.2 ab) ?_)))
  refine go 5 ?_
  refine am (⟨k+1,?_,?_,?_⟩)
  ·omega
  ·exact kj [0] [] []
  omega
 refine bm (id (hK14 _ ?_))
 exact aH (bE rfl (bF rfl (aj (aq (dm (.inr rfl) rfl (.tmp nV) (Le.outI [] [] (eN ag) rfl rfl rfl trivial ob tr rfl))))))
theorem vE (hT:T.length≤100000) (i:Nat) (hi:i < T.length) (ht:(cu T i).t=ji) (l:List Hd) (hl:l.length≤100000) {q j:Nat} (hq:q≤100) (h1:Spec Tryz.prog 200 (aE [.ptr (0,9) 0, .v (.int .i64 29)] (de T (bv T i) N)) (aP (.v (.int .i64 (q:Int))) (de T j N) [(0,9)] [(0,9)])) (hno: ∀ k,k < l.length→(jW l k).1≠(10+q)):
  Spec Tryz.prog 163 (aE [.ptr (0,9) 0, .sl l.length (jr l)] (de T i N)) (aP (.v (.int .i64 (((10+q):Nat):Int))) (de T j N) [(0,9)] [(0,9)]):=by
 have hnx:=bw T i N hi
 rw [ht] at hnx
 refine Spec.ofNI Tryz.func163 rfl Tryz.ntmps163 rfl ?_
 refine go 12 ?_
 refine ai (be aa _ _ ar (hnx) tr rfl ae (by simp)) ?_
 refine go 9 ?_
 refine ai (au aa al (bY JB 4 rfl ab ji) rfl rfl) ?_
 refine go 6 ?_
 refine ai (aF (bS T i N hi hT)) ?_
 refine aj (aA (aA ?_))
 refine az (σ':=ap 56 [(0,_),(1,_),(5,_),(6,_),(7,_)] [((0,9),_)] [(0,9)] [(0,9)]) kp ?_
 refine go 13 ?_
 refine ax fun K12 hK12=> ?_
 refine go 7 ?_
 refine ai (aF (h1)) (go 2 ?_)
 refine am (hK12 _ ?_)
 refine ax fun K14 hK14=> ?_
 refine aH (bF rfl (aj (aN ?_)))
 refine aX (α:=Nat) (fun k=> k≤l.length) 56 [(0,_),(1,_),(5,_),(7,_)] [((0,9),_)] (fun k=> [(8, .v (.int .i64 (k:Int)))]) (fun k=> []) [(0,9)] [(0,9)] (fun k=> l.length - k) 0 ?_ (kj [0] [] []) ?_
 ·omega
 intro k hk
 refine ax fun K16 hK16=> ?_
 refine go 6 ?_
 refine aD rfl (fun hc42=> ?_) (fun hc42=> ?_)
 ·refine aU (hK16 _ ?_)
  refine aA (aN (aH (jV rfl (bE rfl (ai (aL _ _ aa rfl rfl _ rfl ab (by (simp only [aM,aW,aV,bj,bl,bk,ba];omega)) ag) ?_)))))
  refine ai (dI _ aa rfl rfl) (ai (bh _ aa rfl (by exact gY _ _ ab) rfl) ?_)
  refine bE rfl (ai (ca _ _ rfl rfl rfl) (aj (cd rfl (by have:=hno k ab;exact beq_eq_false_iff_ne.2 ab) ?_)))
  refine go 5 ?_
  refine am (⟨k+1,?_,?_,?_⟩)
  ·omega
  ·exact kj [0] [] []
  omega
 refine bm (id (hK14 _ ?_))
 exact aH (bE rfl (bF rfl (aj (aq (dm (.inr rfl) rfl (.tmp nV) (Le.outI [] [] (eN ag) rfl rfl rfl trivial ob tr rfl))))))
theorem Ev {l:List Hd} {n:Nat} (h:l.any (fun x=> decide (x.1=n))=false): ∀ k,k < l.length→(jW l k).1≠n:=fun k hk e=> by
 rw [List.any_eq_false] at h
 have:=h l[k] (List.getElem_mem hk)
 rw [ls l k hk] at e
 simp [e] at this
theorem rA (hT:T.length≤100000) (i:Nat) (hi:i < T.length) (l:List Hd) (hl:l.length≤100000) (r:Nat×Nat) (h:wt T i=some r) (hno:l.any (fun x=> decide (x.1=r.1))=false):
  r.2 < T.length∧r.1 < 40∧Spec Tryz.prog 163 (aE [.ptr (0,9) 0, .sl l.length (jr l)] (de T i N)) (aP (.v (.int .i64 (r.1:Int))) (de T r.2 N) [(0,9)] [(0,9)]):=by
 have htl:=dq hi
 have hn:=Ev hno
 have hmost: ∀ {most i:Nat} {q:Nat×Nat},nZ T most i=some q→q.1≤most:=fun h=> by
  unfold nZ at h
  split at h
  ·rename_i hx;rw [← Option.some.inj h];exact hx.2
  cases h
 unfold wt at h
 by_cases h1:(cu T i).t=me
 ·rw [if_pos h1] at h
  obtain rfl:=Option.some.inj h
  exact ⟨htl,by omega,zg hT i hi h1 l hl hn⟩
 rw [if_neg h1] at h
 by_cases h2:(cu T i).t=jq
 ·rw [if_pos h2] at h
  obtain rfl:=Option.some.inj h
  exact ⟨htl,by omega,vw hT i hi h2 l hl hn⟩
 rw [if_neg h2] at h
 by_cases h3:(cu T i).t=gc
 ·rw [if_pos h3] at h
  simp only [Option.bind_eq_bind,Option.bind_eq_some_iff,Option.pure_def,Option.some.injEq] at h
  obtain ⟨⟨q,j⟩,hq,rfl⟩:=h
  have hm:=hmost hq
  exact ⟨show (q,j).2 < T.length from rE hq htl,by simp only at hm ⊢;omega,AI hT i hi h3 l hl (by simp only at hm;omega) (kH T _ N 7 htl hT ab _ hq) hn⟩
 rw [if_neg h3] at h
 by_cases h4:(cu T i).t=ji
 ·rw [if_pos h4] at h
  simp only [Option.bind_eq_bind,Option.bind_eq_some_iff,Option.pure_def,Option.some.injEq] at h
  obtain ⟨⟨q,j⟩,hq,rfl⟩:=h
  have hm:=hmost hq
  exact ⟨show (q,j).2 < T.length from rE hq htl,by simp only at hm ⊢;omega,vE hT i hi h4 l hl (by simp only at hm;omega) (kH T _ N 29 htl hT ab _ hq) hn⟩
 rw [if_neg h4] at h
 cases h
end
theorem xc {p:Hd→Bool} {l:List Hd} {k:Nat} (h: ∀ x∈l.take k,p x=true) (he:l.length≤k∨p (jW l k)=false):l.takeWhile p=l.take k∧l.dropWhile p=l.drop k:=by
 induction l generalizing k with
 | nil=> simp
 | cons a l ih=>
  cases k with
  | zero=>
   have:p a=false:=by
    rcases he with he | he
    ·simp at he
    simpa [jW] using he
   simp [this]
  | succ k=>
   have ha:p a=true:=h a (by simp)
   have:=ih (k:=k) (fun x hx=> h x (by simp [hx])) (by
    rcases he with he | he
    ·left;simpa using he
    right;simpa [jW] using he)
   simp [ha,this]
theorem BS (l:List Hd) (hl:l.length≤100000) (h:Hd):
  Spec Tryz.prog 165 (aQ [.sl l.length (jr l), .agg [.v (.int .i64 (h.1:Int)), .v (.int .i64 (h.2.k:Int)), .v (.int .i64 (h.2.n:Int)), .v (bt h.2.s), .sl h.2.kn h.2.kids]] []) (aG (.sl (qa l h).length (jr (qa l h))) []):=by
 refine Spec.ofN Tryz.func165 rfl Tryz.ntmps165 rfl ?_
 refine aH (ai (ed (3,0) _ rfl rfl) (ai (bg _ fg) (aj (aH (ai (pN (5,0) _ 73 5 rfl rfl) ?_)))))
 refine aj (aH (bF rfl (aj (ax fun K4 hK4=> ?_))))
 refine aN ?_
 refine aX (α:=Nat) (fun k=> k≤l.length∧ ∀ x∈l.take k,decide (x.1 < h.1)=true) 39 [(0,_),(3,_)] [((3,0),_)] (fun k=> [(6, .v (.int .i64 (k:Int))),(5, .ref (5,0) 0 (l.take k).length)]) (fun k=> [((5,0), .row 73 5 (jr (l.take k)))]) [] [] (fun k=> l.length - k) 0 ?_ (kj [0,2] [] []) ?_
 ·exact ⟨Nat.zero_le _,by simp⟩
 intro k hk
 obtain ⟨hk,hall⟩:=hk
 have hlk:(l.take k).length=k:=by rw [List.length_take];omega
 refine ax fun K5 hK5=> ?_
 refine ax fun K6 hK6=> ?_
 refine dA 14 [] ?_
 refine go 9 ?_
 refine nz (fun hg11=> ?_) (fun hg11=> ?_)
 ·refine go 5 ?_
  refine eT (_,[]) rfl (fun τ=> rfl) (fun τ=> aL _ _ aa rfl rfl _ rfl ab (by (simp only [aM,aW,aV,bj,bl,bk,ba];omega)) ag) ?_
  refine go 3 ?_
  refine eT (_,[]) rfl (fun τ=> rfl) (fun τ=> bh _ aa rfl (by exact gY _ _ ab) rfl) ?_
  refine go 10 ?_
  refine am (hK6 _ ?_)
  refine aD rfl (fun hc20=> ?_) (fun hc20=> ?_)
  ·have hs:=vS l k ab
   have hlk1:(l.take (k+1)).length=(l.take k).length+1:=by rw [← hs];simp
   have hall1: ∀ x∈l.take (k+1),decide (x.1 < h.1)=true:=by
    rw [← hs]
    intro x hx
    rcases List.mem_append.1 hx with hx | hx
    ·exact hall x hx
    rw [List.mem_singleton.1 hx];exact decide_eq_true ab
   refine aU (hK5 _ ?_)
   refine go 5 ?_
   refine ai (aL _ _ aa rfl rfl _ rfl ab (by (simp only [aM,aW,aV,bj,bl,bk,ba];omega)) ag) ?_
   refine ai (bu _ aa rfl (by exact zI _ _ ab) rfl) ?_
   refine go 1 ?_
   refine ai (cG (27,0) _ _ aa rfl rfl (ba _).symm (.sl rfl) ab rfl ((mo _ (jW l k)).trans (by rw [hs])) hlk1.symm) ?_
   refine gF rfl (aj ?_)
   refine az (σ':=ap 39 [(0,_),(3,_),(5,_),(6,_)] [((3,0),_),((27,0),_)] [] []) kp ?_
   refine go 4 ?_
   refine am (⟨k+1,?_,?_,?_⟩)
   ·exact ⟨by omega,hall1⟩
   ·refine Le.mkJ [((5,0),(27,0))] [] rfl ?_ ?_ trivial trivial ?_
    ·exact ⟨(by repeat' (exact Lv.sl)),(di (id:=(3,0)) rfl),(eN ag),(eH rfl ag),trivial⟩
    ·exact ⟨(iq rfl rfl rfl rfl (by repeat' (first | exact Lv.v | exact Lv.sl | exact bz | refine aB ?_ ?_))),(im rfl rfl rfl ag),trivial⟩
    kernel_rfl
   omega
  have hf:=xc (p:=fun x=> decide (x.1 < h.1)) hall (.inr (decide_eq_false ab))
  refine bm (id (hK4 _ ?_))
  refine go 4 ?_
  refine ai (cG (33,0) _ _ aa rfl rfl (ba _).symm (.sl rfl) ab rfl (mo _ h) (show (l.take k).length+1=(l.take k++[h]).length by simp)) ?_
  refine gF rfl (aj (aA ?_))
  refine az (σ':=ap 39 [(0,_),(5,_),(6,_)] [((33,0),_)] [] []) kp ?_
  refine an (sR rfl (jV rfl (bE rfl (ai (lI _ _ _ aa rfl k l.length (.lit rfl rfl) .dflt hk (Nat.le_refl _) (show _=jr (l.drop k) by rw [show (jr l).drop (k*5)=jr (l.drop k) from oe wV 5 (fun _=> rfl) l k];exact List.take_of_length_le (by rw [ba,List.length_drop];exact Nat.le_refl _)) rfl) ?_))))
  refine ai (cG (38,0) _ _ aa rfl rfl (ba _).symm (.sl (by rw [ba,List.length_drop])) (by simp;omega) rfl (wF _ _) (show (l.take k++[h]).length+(l.length - k)=(l.take k++[h]++l.drop k).length by simp;omega)) ?_
  refine gF rfl (aj (aq ?_))
  have hfin:l.take k++[h]++l.drop k=qa l h:=by unfold qa;rw [hf.1,hf.2];simp
  exact dm (.inr rfl) rfl (.tmp qj) (Le.out [] [(38,0)] (by rw [← hfin];exact iO rfl rfl (ba _).symm rfl) rfl rfl rfl tr trivial)
 have hf:=xc (p:=fun x=> decide (x.1 < h.1)) hall (.inl ab)
 refine go 20 ?_
 refine am (hK6 _ ?_)
 refine cd rfl rfl (bm (id (hK4 _ ?_)))
 refine go 4 ?_
 refine ai (cG (33,0) _ _ aa rfl rfl (ba _).symm (.sl rfl) ab rfl (mo _ h) (show (l.take k).length+1=(l.take k++[h]).length by simp)) ?_
 refine gF rfl (aj (aA ?_))
 refine az (σ':=ap 39 [(0,_),(5,_),(6,_)] [((33,0),_)] [] []) kp ?_
 refine an (sR rfl (jV rfl (bE rfl (ai (lI _ _ _ aa rfl k l.length (.lit rfl rfl) .dflt hk (Nat.le_refl _) (show _=jr (l.drop k) by rw [show (jr l).drop (k*5)=jr (l.drop k) from oe wV 5 (fun _=> rfl) l k];exact List.take_of_length_le (by rw [ba,List.length_drop];exact Nat.le_refl _)) rfl) ?_))))
 refine ai (cG (38,0) _ _ aa rfl rfl (ba _).symm (.sl (by rw [ba,List.length_drop])) (by simp;omega) rfl (wF _ _) (show (l.take k++[h]).length+(l.length - k)=(l.take k++[h]++l.drop k).length by simp;omega)) ?_
 refine gF rfl (aj (aq ?_))
 have hfin:l.take k++[h]++l.drop k=qa l h:=by unfold qa;rw [hf.1,hf.2];simp
 exact dm (.inr rfl) rfl (.tmp qj) (Le.out [] [(38,0)] (by rw [← hfin];exact iO rfl rfl (ba _).symm rfl) rfl rfl rfl tr trivial)
end Go.Proofs.YtmjnackchaahbaaGreat

set_option maxHeartbeats 2000000
namespace Go.Proofs.YtmjnackchaahbaaGreat
open Go.RowKit

theorem ro {s:Tx}: ∀ {f a:Nat} {l:List Tk},a≤s.length→mx f s a=some l→0 < l.length∧l.length+a≤s.length+1
  | 0,_,_,_,h=> by simp [mx] at h
  | f+1,a,l,ha,h=> by
    rcases lO h with ⟨_,rfl⟩ | ⟨hl,t,m,ht,hm,rfl⟩
    · exact ⟨by simp,by simp;omega⟩
    obtain ⟨h1,h2⟩:=tq hl ht
    have h3:=uF (s:=s) (a:=a+t.t.length) h2 false
    obtain ⟨_,h4⟩:=ro h3.2 hm
    exact ⟨by simp,by rw [List.length_cons];omega⟩
theorem BT {s:Tx} {l:List Tk} (h:CK s=some l):0 < l.length∧l.length≤s.length+1:=by
  have:=ro (a:=sO s false) (mZ s false) h
  omega
theorem lF {T:List Tk}: ∀ (f:Nat) {N M:List Tx} (i:Nat),N.Perm M→fQ T f N i=fQ T f M i
  | 0,_,_,_,_=> rfl
  | f+1,N,M,i,h=> by
    unfold fQ
    simp only [h.mem_iff,h.length_eq,lF f _ (h.append_right [(cu T i).t])]
theorem tO {T:List Tk} {f:Nat} {d v:List Tx} {i:Nat} {r:List Tx×List Tx×Nat} (h:gV T f d v i=some r): ∃ g,f=g+1∧
    (((cu T i).t=kR∧ ∃ l j,fQ T g (d++v) (bv T i)=some (l,j)∧gV T g (d++l) v j=some r)∨
     ((cu T i).t≠kR∧(cu T i).t=lL∧ ∃ l j,fQ T g (d++v) (bv T i)=some (l,j)∧gV T g d (v++l) j=some r)∨
     ((cu T i).t≠kR∧(cu T i).t≠lL∧r=(d,v,i))):=by
  cases f with
  | zero=> simp [gV] at h
  | succ g=>
    refine ⟨g,rfl,?_⟩
    unfold gV at h
    split at h
    · rename_i ht
      simp only [Option.bind_eq_bind,Option.bind_eq_some_iff] at h
      obtain ⟨⟨l,j⟩,hl,h⟩:=h
      exact .inl ⟨ht,l,j,hl,h⟩
    rename_i ht
    split at h
    · rename_i ht2
      simp only [Option.bind_eq_bind,Option.bind_eq_some_iff] at h
      obtain ⟨⟨l,j⟩,hl,h⟩:=h
      exact .inr (.inl ⟨ht,ht2,l,j,hl,h⟩)
    rename_i ht2
    exact .inr (.inr ⟨ht,ht2,(Option.some.inj h).symm⟩)
theorem BB {T:List Tk} {f:Nat} {l:List Hd} {i:Nat} {r:List Hd} (h:Gs T f l i=some r): ∃ g,f=g+1∧
    (((cu T i).k=0∧r=l)∨((cu T i).k≠0∧ ∃ j n j2 d j3,fG T GU i=some j∧wt T j=some (n,j2)∧l.any (fun x=> decide (x.1=n))=false∧qi T g 1 j2=some (d,j3)∧Gs T g (qa l (n,d)) j3=some r)):=by
  cases f with
  | zero=> simp [Gs] at h
  | succ g=>
    refine ⟨g,rfl,?_⟩
    unfold Gs at h
    split at h
    · rename_i hk;exact .inl ⟨hk,(Option.some.inj h).symm⟩
    rename_i hk
    simp only [Option.bind_eq_bind,Option.bind_eq_some_iff] at h
    obtain ⟨j,hj,⟨n,j2⟩,hn,h⟩:=h
    simp only at h
    split at h
    · cases h
    rename_i hno
    simp only [Option.bind_eq_some_iff] at h
    obtain ⟨⟨d,j3⟩,hd,h⟩:=h
    exact .inr ⟨hk,j,n,j2,d,j3,hj,hn,Bool.eq_false_iff.2 hno,hd,h⟩
theorem zY (l:List Hd) (h:Hd):(qa l h).length=l.length+1:=by
  have e:=congrArg List.length (List.takeWhile_append_dropWhile (p:=fun x:Nat×Nd=> decide (x.1 < h.1)) (l:=l))
  unfold qa
  rw [List.length_append] at e ⊢
  rw [List.length_cons]
  omega
abbrev DG (d v:List Tx) (l:List Hd):AV:= .agg [.sl d.length (dh d), .sl v.length (dh v), .sl l.length (jr l)]
theorem pP (s:Tx) (hs:s.length≤3000) (D V:List Tx) (L:List Hd) (h:rR s=some (D,V,L)):
    Spec Tryz.prog 96 (aQ [.v (bt s)] []) (aG (.tup [DG D V L, .v (.int .i64 0), .v (.int .i64 0)]) []):=by
  unfold rR at h
  simp only [Option.bind_eq_bind,Option.bind_eq_some_iff,Option.pure_def,Option.some.injEq,Prod.mk.injEq] at h
  obtain ⟨T,hT,⟨D',V',i⟩,hd,L',hL,rfl,rfl,rfl⟩:=h
  obtain ⟨hT0,hT1⟩:=BT hT
  have hTl:T.length≤100000:=by omega
  simp only at hL ⊢
  refine Spec.ofN Tryz.func96 rfl Tryz.ntmps96 rfl ?_
  refine go 11 ?_
  refine cd rfl (decide_eq_false ab) ?_
  refine cX (aH (so rfl (ai (au aa al (tK s ab T hT) rfl rfl) ?_)))
  refine go 9 ?_
  refine aA ?_
  refine az (σ':=ap 114 [(2,_),(5,_),(6,_),(7,_)] [((2,0),_)] [] []) (by
    refine Le.mkJ [] [] rfl ?_ ?_ trivial trivial ?_
    · exact ⟨(iP rfl),(iS rfl),(iV rfl),(iV rfl),trivial⟩
    · exact ⟨(dc rfl rfl rfl),trivial⟩
    kernel_rfl) ?_
  refine go 15 ?_
  refine ax fun K9 hK9=> ?_
  refine aN ?_
  refine az (Le.nilB (29,0) 4 (60,0) 9 1 rfl rfl rfl) ?_
  refine az (Le.nilB (9,0) 0 (61,0) 9 1 rfl rfl rfl) ?_
  refine az (Le.nilB (9,0) 1 (62,0) 9 1 rfl rfl rfl) ?_
  refine az (Le.nil0 (9,0) 2 rfl rfl) ?_
  refine aX (α:=Nat×List Tx×List Tx×List Tx×Nat) (fun z=> z.2.2.2.1.Perm (z.2.1++z.2.2.1)∧z.2.2.2.2 < T.length∧z.2.2.2.1.length≤16∧gV T z.1 z.2.1 z.2.2.1 z.2.2.2.2=some (D',V',i)) 114 [(2,_),(8,_),(9,_)] [((2,0),_)] (fun z=> []) (fun z=> [((29,0), .box 222 [.sl T.length (rP T), .v (.int .i64 (z.2.2.2.2:Int)), .v (.int .i64 0), .v (.int .i64 0), .ref (60,0) 0 z.2.2.2.1.length]),((60,0), .row 9 1 (dh z.2.2.2.1)),((9,0), .box 64 [.ref (61,0) 0 z.2.1.length, .ref (62,0) 0 z.2.2.1.length, .sl 0 []]),((61,0), .row 9 1 (dh z.2.1)),((62,0), .row 9 1 (dh z.2.2.1))]) [] [] (fun z=> z.1) (3*T.length+10,[],[],[],0) ?_ (by
    refine Le.mkJ [] [] rfl ?_ ?_ trivial trivial ?_
    · exact ⟨(iP rfl),(iP rfl),(iP rfl),trivial⟩
    · exact ⟨(dc rfl rfl rfl),(iq rfl rfl rfl rfl lz),(im rfl rfl rfl ag),(iq rfl rfl rfl rfl lz),(im rfl rfl rfl ag),(im rfl rfl rfl ag),trivial⟩
    kernel_rfl) ?_
  · exact ⟨.refl _,hT0,Nat.zero_le _,hd⟩
  intro z hz
  obtain ⟨z1,d,v,N,j⟩:=z
  obtain ⟨hp,hj,hNl,hz⟩:=hz
  obtain ⟨g,rfl,hm⟩:=tO hz
  simp only at hp hj hNl hm ⊢
  have hpl:=hp.length_eq
  rw [List.length_append] at hpl
  have htl:=dq hj
  refine ax fun K10 hK10=> ?_
  refine ax fun K11 hK11=> ?_
  refine go 8 ?_
  refine aZ rfl rfl (cC aa [((0,9),(29,0)),((1,9),(60,0))] ?_ (eb T j N hj) ob tr ae) ?_
  · repeat' (first | exact cN | refine cq ?_ ?_ | exact di rfl)
  refine aZ rfl rfl (bJ _ _ Tryz.underlying9 rfl rfl rfl) (go 1 ?_)
  refine dn (fun hg39=> ?_) (fun hg39=> ?_)
  · skip
    obtain ⟨l,j',hdp,hdz⟩: ∃ l j',fQ T g N (bv T j)=some (l,j')∧gV T g (d++l) v j'=some (D',V',i):=by
      rcases hm with ⟨_,l,j',h1,h2⟩ | ⟨h,_⟩ | ⟨h,_⟩
      · exact ⟨l,j',(lF g _ hp).trans h1,h2⟩
      · exact absurd hg39 h
      exact absurd hg39 h
    obtain ⟨hda,hdb,hdc⟩:=ra hTl g N j hj (l,j') hdp
    simp only at hda hdb hdc
    have hdl:(d++l).length=d.length+l.length:=by simp
    refine go 5 ?_
    refine am (hK11 _ ?_)
    refine dH rfl rfl (aU (hK10 _ ?_))
    refine aN (aA ?_)
    refine az (σ':=ap 114 [(2,_),(8,_),(9,_)] [((2,0),_),((29,0),_),((60,0),_),((9,0),_),((61,0),_),((62,0),_)] [] []) (by
      refine Le.mkJ [] [] rfl ?_ ?_ trivial trivial ?_
      · exact ⟨(iP rfl),(iP rfl),(iP rfl),trivial⟩
      · exact ⟨(dc rfl rfl rfl),(dc rfl rfl rfl),(dc rfl rfl rfl),(dc rfl rfl rfl),(dc rfl rfl rfl),(dc rfl rfl rfl),trivial⟩
      kernel_rfl) ?_
    refine an (bN rfl (ai (cC aa [((0,9),(29,0)),((1,9),(60,0))] ?_ (eb T j N hj) ob tr ae) ?_))
    · repeat' (first | exact cN | refine cq ?_ ?_ | exact di rfl)
    refine ai (bJ _ _ Tryz.underlying9 rfl rfl rfl) (aj (dH rfl (beq_iff_eq.2 hg39) ?_))
    refine az (σ':=ap 114 [(2,_),(8,_),(9,_)] [((2,0),_),((29,0), .box 222 [.sl T.length (rP T), .v (.int .i64 (j:Int)), .v (.int .i64 0), .v (.int .i64 0), .ref (60,0) 0 N.length]),((60,0), .row 9 1 (dh N)),((9,0),_),((61,0),_),((62,0),_)] [] []) (by
      refine Le.mkJ [] [] rfl ?_ ?_ trivial trivial ?_
      · exact ⟨(iP rfl),(iP rfl),(iP rfl),trivial⟩
      · exact ⟨(dc rfl rfl rfl),(dc rfl rfl rfl),(dc rfl rfl rfl),(dc rfl rfl rfl),(dc rfl rfl rfl),(dc rfl rfl rfl),trivial⟩
      kernel_rfl) ?_
    refine dA 4 [(29,0),(70,0),(60,0)] ?_
    refine go 6 ?_
    refine aJ (_,[((29,0),_),((70,0),_),((60,0), .gone)]) (fun τ=> (db aa [((0,9),(29,0)),((1,9),(60,0)),((1,8),(70,0))] ?_ (hdc) ob tr tr rfl rfl ae ae)) ?_
    · repeat' (first | exact cN | refine cq ?_ ?_ | exact di rfl)
    refine go 1 ?_
    refine cD ⟨rfl,?_⟩
    refine ai (cG (52,0) _ _ aa rfl rfl (by simp) (.sl (by simp)) ab rfl (pK _ _) hdl.symm) ?_
    refine go 2 ?_
    refine am (⟨(g,d++l,v,N++l,j'),?_,?_,?_⟩)
    · exact ⟨(hp.append_right l).trans (by rw [List.append_assoc,List.append_assoc];exact List.perm_append_comm.append_left d),hda,by simp only [List.length_append];omega,hdz⟩
    · skip
      refine Le.mkJ [((60,0),(70,0)),((61,0),(52,0))] [] rfl ?_ ?_ trivial trivial ?_
      · exact ⟨(di (id:=(2,0)) rfl),(di (id:=(29,0)) rfl),(di (id:=(9,0)) rfl),trivial⟩
      · exact ⟨(iq rfl rfl rfl rfl (by repeat' (first | exact Lv.v | exact bz | refine aB ?_ ?_))),(iq rfl rfl rfl rfl lz),(im rfl rfl rfl ag),(iq rfl rfl rfl rfl lz),(im rfl rfl rfl ag),(im rfl rfl rfl ag),trivial⟩
      kernel_rfl
    simp only;omega
  refine go 1 ?_
  refine aZ rfl rfl (cC aa [((0,9),(29,0)),((1,9),(60,0))] ?_ (eb T j N hj) ob tr ae) ?_
  · repeat' (first | exact cN | refine cq ?_ ?_ | exact di rfl)
  refine aZ rfl rfl (bJ _ _ Tryz.underlying9 rfl rfl rfl) (go 2 ?_)
  refine am (hK11 _ ?_)
  refine aD rfl (fun hc44=> ?_) (fun hc44=> ?_)
  · skip
    obtain ⟨l,j',hdp,hdz⟩: ∃ l j',fQ T g N (bv T j)=some (l,j')∧gV T g d (v++l) j'=some (D',V',i):=by
      rcases hm with ⟨h,_⟩ | ⟨_,_,l,j',h1,h2⟩ | ⟨_,h,_⟩
      · exact absurd h hg39
      · exact ⟨l,j',(lF g _ hp).trans h1,h2⟩
      exact absurd hc44 h
    obtain ⟨hda,hdb,hdc⟩:=ra hTl g N j hj (l,j') hdp
    simp only at hda hdb hdc
    have hvl:(v++l).length=v.length+l.length:=by simp
    refine aU (hK10 _ ?_)
    refine aN (aA ?_)
    refine az (σ':=ap 114 [(2,_),(8,_),(9,_)] [((2,0),_),((29,0),_),((60,0),_),((9,0),_),((61,0),_),((62,0),_)] [] []) (by
      refine Le.mkJ [] [] rfl ?_ ?_ trivial trivial ?_
      · exact ⟨(iP rfl),(iP rfl),(iP rfl),trivial⟩
      · exact ⟨(dc rfl rfl rfl),(dc rfl rfl rfl),(dc rfl rfl rfl),(dc rfl rfl rfl),(dc rfl rfl rfl),(dc rfl rfl rfl),trivial⟩
      kernel_rfl) ?_
    refine an (bN rfl (ai (cC aa [((0,9),(29,0)),((1,9),(60,0))] ?_ (eb T j N hj) ob tr ae) ?_))
    · repeat' (first | exact cN | refine cq ?_ ?_ | exact di rfl)
    refine ai (bJ _ _ Tryz.underlying9 rfl rfl rfl) (aj (cd rfl (beq_eq_false_iff_ne.2 hg39) ?_))
    refine az (σ':=ap 114 [(2,_),(8,_),(9,_)] [((2,0),_),((29,0), .box 222 [.sl T.length (rP T), .v (.int .i64 (j:Int)), .v (.int .i64 0), .v (.int .i64 0), .ref (60,0) 0 N.length]),((60,0), .row 9 1 (dh N)),((9,0),_),((61,0),_),((62,0),_)] [] []) (by
      refine Le.mkJ [] [] rfl ?_ ?_ trivial trivial ?_
      · exact ⟨(iP rfl),(iP rfl),(iP rfl),trivial⟩
      · exact ⟨(dc rfl rfl rfl),(dc rfl rfl rfl),(dc rfl rfl rfl),(dc rfl rfl rfl),(dc rfl rfl rfl),(dc rfl rfl rfl),trivial⟩
      kernel_rfl) ?_
    refine dA 4 [(29,0),(71,0),(60,0)] ?_
    refine go 6 ?_
    refine aJ (_,[((29,0),_),((71,0),_),((60,0), .gone)]) (fun τ=> (db aa [((0,9),(29,0)),((1,9),(60,0)),((1,8),(71,0))] ?_ (hdc) ob tr tr rfl rfl ae ae)) ?_
    · repeat' (first | exact cN | refine cq ?_ ?_ | exact di rfl)
    refine go 1 ?_
    refine cD ⟨rfl,?_⟩
    refine ai (cG (58,0) _ _ aa rfl rfl (by simp) (.sl (by simp)) ab rfl (pK _ _) hvl.symm) ?_
    refine go 2 ?_
    refine am (⟨(g,d,v++l,N++l,j'),?_,?_,?_⟩)
    · exact ⟨(hp.append_right l).trans (by rw [List.append_assoc]),hda,by simp only [List.length_append];omega,hdz⟩
    · skip
      refine Le.mkJ [((60,0),(71,0)),((62,0),(58,0))] [] rfl ?_ ?_ trivial trivial ?_
      · exact ⟨(di (id:=(2,0)) rfl),(di (id:=(29,0)) rfl),(di (id:=(9,0)) rfl),trivial⟩
      · exact ⟨(iq rfl rfl rfl rfl (by repeat' (first | exact Lv.v | exact bz | refine aB ?_ ?_))),(iq rfl rfl rfl rfl lz),(im rfl rfl rfl ag),(iq rfl rfl rfl rfl lz),(im rfl rfl rfl ag),(im rfl rfl rfl ag),trivial⟩
      kernel_rfl
    simp only;omega
  have hrd:(D',V',i)=(d,v,j):=by
    rcases hm with ⟨h,_⟩ | ⟨_,h,_⟩ | ⟨_,_,h⟩
    · exact absurd h hg39
    · exact absurd h hc44
    exact h
  obtain ⟨e1,e2,e3⟩:D'=d∧V'=v∧i=j:=⟨congrArg (·.1) hrd,congrArg (·.2.1) hrd,congrArg (·.2.2) hrd⟩
  clear hrd hm hz
  subst e1;subst e2;subst e3
  refine bm (id (hK9 _ ?_))
  refine ax fun K14 hK14=> ?_
  refine aN ?_
  refine az (Le.frzB (29,0) 4 rfl rfl rfl rfl (ys:=dh N) (by simp [List.take_of_length_le]) (by simp)) ?_
  refine aX (α:=Nat×List Hd×Nat) (fun y=> y.2.1.length+y.1≤10*T.length+10∧y.2.2 < T.length∧Gs T y.1 y.2.1 y.2.2=some L') 114 [(2,_),(8,_),(9,_)] [((2,0),_),((61,0),_),((62,0),_)] (fun y=> []) (fun y=> [((29,0), .box 222 [.sl T.length (rP T), .v (.int .i64 (y.2.2:Int)), .v (.int .i64 0), .v (.int .i64 0), .sl N.length (dh N)]),((9,0), .box 64 [.ref (61,0) 0 D'.length, .ref (62,0) 0 V'.length, .sl y.2.1.length (jr y.2.1)])]) [] [] (fun y=> y.1) (10*T.length+10,[],i) ?_ (by
    refine Le.mkJ [] [] rfl ?_ ?_ trivial trivial ?_
    · exact ⟨(iP rfl),(iP rfl),(iP rfl),trivial⟩
    · exact ⟨(dc rfl rfl rfl),(dc rfl rfl rfl),(dc rfl rfl rfl),(iq rfl rfl rfl rfl lz),(iq rfl rfl rfl rfl lz),trivial⟩
    kernel_rfl) ?_
  · exact ⟨by simp,hj,hL⟩
  intro y hy
  obtain ⟨y1,l,k⟩:=y
  obtain ⟨hyl,hk,hy⟩:=hy
  obtain ⟨g2,rfl,hm2⟩:=BB hy
  simp only at hyl hk hm2 ⊢
  refine ax fun K15 hK15=> ?_
  refine aA (dA 19 [] ?_)
  refine go 28 ?_
  refine eT (_,[]) rfl (fun τ=> rfl) (fun τ=> aL _ _ aa rfl rfl _ rfl ab (by (simp only [aM,aW,aV,bj,bl,bk,ba];omega)) ag) ?_
  refine go 3 ?_
  refine eT (_,[]) rfl (fun τ=> rfl) (fun τ=> bh _ aa rfl (by exact pU _ _ ab) rfl) ?_
  refine go 1 ?_
  refine eT (_,[]) rfl (fun τ=> rfl) (fun τ=> dv _ _ rfl rfl rfl) ?_
  refine go 5 ?_
  refine aD rfl (fun hc78=> ?_) (fun hc78=> ?_)
  · skip
    obtain ⟨_,j1,hn,j2,dd,j3,h1,h2,h3,h4,h5⟩:=hm2.resolve_left fun x=> by omega
    have hx1:=eK T k j1 N GU hk hTl h1
    obtain ⟨ha2,_,hx2⟩:=rA (N:=N) hTl j1 (ix h1 hk) l ab _ h2 h3
    obtain ⟨ha3,hx3⟩:=uZ (N:=N) hTl ab ha2 h4
    have hx4:=BS l ab (hn,dd)
    have hpl2:=zY l (hn,dd)
    simp only at ha2 ha3 hx2 hx3 hx4
    refine aU (hK15 _ ?_)
    refine aN (aA ?_)
    refine az (σ':=ap 114 [(2,_),(8,_),(9,_)] [((2,0),_),((61,0),_),((62,0),_),((29,0),_),((9,0),_)] [] []) (by
      refine Le.mkJ [] [] rfl ?_ ?_ trivial trivial ?_
      · exact ⟨(iP rfl),(iP rfl),(iP rfl),trivial⟩
      · exact ⟨(dc rfl rfl rfl),(dc rfl rfl rfl),(dc rfl rfl rfl),(dc rfl rfl rfl),(dc rfl rfl rfl),trivial⟩
      kernel_rfl) ?_
    refine an (bN rfl (ai (cC aa [((0,9),(29,0))] ?_ (hx1) ob tr ae) ?_))
    · repeat' (first | exact cN | refine cq ?_ ?_ | exact Lv.v | exact di rfl)
    refine go 11 ?_
    refine ax fun K20 hK20=> ?_
    refine go 4 ?_
    refine ai (cC aa [((0,9),(29,0))] ?_ (hx2) ob tr ae) ?_
    · repeat' (first | exact cN | refine cq ?_ ?_ | exact Lv.sl | exact di rfl)
    refine bF rfl (am (hK20 _ ?_))
    refine ax fun K21 hK21=> ?_
    refine an (bN rfl (ai (cC aa [((0,9),(29,0))] ?_ (hx3) ob tr ae) ?_))
    · repeat' (first | exact cN | refine cq ?_ ?_ | exact Lv.v | exact di rfl)
    refine go 2 ?_
    refine am (hK21 _ ?_)
    refine az (σ':=ap 114 [(2,_),(8,_),(9,_),(10,_),(11,_)] [((2,0),_),((61,0),_),((62,0),_),((29,0),_),((9,0),_),((11,0),_)] [] []) (by
      refine Le.mkJ [] [] rfl ?_ ?_ trivial trivial ?_
      · exact ⟨(iP rfl),(iP rfl),(iP rfl),(iV rfl),(iP rfl),trivial⟩
      · exact ⟨(dc rfl rfl rfl),(dc rfl rfl rfl),(dc rfl rfl rfl),(dc rfl rfl rfl),(dc rfl rfl rfl),(dc rfl rfl rfl),trivial⟩
      kernel_rfl) ?_
    refine go 6 ?_
    refine ai (au aa al (hx4) rfl rfl) ?_
    refine go 2 ?_
    refine am (⟨(g2,qa l (hn,dd),j3),?_,?_,?_⟩)
    · exact ⟨by simp only [hpl2];omega,ha3,h5⟩
    · skip
      refine Le.mkJ [] [] rfl ?_ ?_ trivial trivial ?_
      · exact ⟨(iP rfl),(iP rfl),(iP rfl),trivial⟩
      · exact ⟨(dc rfl rfl rfl),(dc rfl rfl rfl),(dc rfl rfl rfl),(iq rfl rfl rfl rfl lz),(iq rfl rfl rfl rfl lz),trivial⟩
      kernel_rfl
    simp only;omega
  have hrl:=(hm2.resolve_right fun x=> x.1 ab).2
  subst hrl
  refine bm (id (hK14 _ ?_))
  refine aA (aA ?_)
  refine az (σ':=ap 114 [(2,_),(8,_),(9,_)] [((2,0),_),((61,0),_),((62,0),_),((29,0),_),((9,0),_)] [] []) (by
    refine Le.mkJ [] [] rfl ?_ ?_ trivial trivial ?_
    · exact ⟨(iP rfl),(iP rfl),(iP rfl),trivial⟩
    · exact ⟨(dc rfl rfl rfl),(dc rfl rfl rfl),(dc rfl rfl rfl),(dc rfl rfl rfl),(dc rfl rfl rfl),trivial⟩
    kernel_rfl) ?_
  refine go 15 ?_
  exact aq (Dm (.inr rfl) rfl (.cellA aa rfl rfl rfl) (.tmp iH) (.tmp iH) (Le.out [] [(61,0),(62,0)] (.tup rfl (aB (.agg rfl (aB (iO rfl rfl (by simp) rfl) (aB (iO rfl rfl (by simp) rfl) lz))) lz)) rfl rfl rfl tr trivial))
end Go.Proofs.YtmjnackchaahbaaGreat

set_option maxHeartbeats 2000000
namespace Go.Proofs.YtmjnackchaahbaaGreat
open Go.RowKit

def jf (l:List Nd) (j:Nat):Nd:=l.getD j ⟨0,0,[],0,[]⟩
theorem Hv (l:List Nd) (k:Nat) (h:k < l.length):jf l k=l[k]:=by simp [jf,h]
theorem bG (l:List Nd) (k:Nat) (h:k < l.length):PV.ups (((iU l).drop (k*4)).take 4)=[.v (.int .i64 ((jf l k).k:Int)), .v (.int .i64 ((jf l k).n:Int)), .v (bt (jf l k).s), .sl (jf l k).kn (jf l k).kids]:=by
 rw [Hv l k h,show ((iU l).drop (k*4)).take 4=l[k].row from nS Nd.row 4 (fun _=> rfl) l k h];rfl
theorem fx (l:List Tx) (n:Nat) (hn:l.length=n) (h1:n≤1000) (t:Tx):Spec Tryz.prog 204 (aQ [.sl n (dh l), .v (bt t)] []) (aG (.v (.bool (decide (t∈l)))) []):=by
 refine Spec.ofN Tryz.func204 rfl Tryz.ntmps204 rfl ?_
 refine aH (gP rfl (aj (ax fun K2 hK2=> ?_)))
 refine aH (bF rfl (aj (aN ?_)))
 refine aX (α:=Nat) (fun k=> k≤n∧t∉l.take k) 18 [(0,_),(1,_)] [] (fun k=> [(5, .v (.int .i64 (k:Int)))]) (fun k=> []) [] [] (fun k=> n - k) 0 ?_ (kj [] [] []) ?_
 ·exact ⟨Nat.zero_le _,by simp⟩
 intro k hk
 obtain ⟨hk,hnt⟩:=hk
 refine ax fun K4 hK4=> ?_
 refine go 6 ?_
 refine aD rfl (fun hc9=> ?_) (fun hc9=> ?_)
 ·refine aU (hK4 _ ?_)
  refine aA (aN (aH (jV rfl (bE rfl (ai (aL _ _ aa rfl rfl _ rfl ab (by (simp only [aM,aW,aV,bj,bl,bk,ba];omega)) (by exact Nat.mul_one _)) ?_)))))
  refine ai (bh _ aa rfl (by exact ew _ _ ab) rfl) ?_
  refine so rfl (ai (bJ _ _ Tryz.underlying9 rfl rfl rfl) (aj (aD rfl (fun hc17=> ?_) (fun hc17=> ?_))))
  ·refine aH (gP rfl (aj (aq (kV rfl rfl ?_))))
   exact decide_eq_true (hc17 ▸ jo ab)
  refine go 5 ?_
  refine am (⟨k+1,?_,?_,?_⟩)
  ·exact ⟨by omega,jI hnt ab hc17⟩
  ·exact kj [] [] []
  omega
 have hall:t∉l:=by rwa [List.take_of_length_le ab] at hnt
 refine bm (id (hK2 _ ?_))
 refine aH (gP rfl (aj (aq (kV rfl rfl ?_))))
 exact decide_eq_false hall
def xt:List Tx:=[[60],[60,61],[62],[62,61],[61,61],[33,61]]
theorem lB (t:Tx):Spec Tryz.prog 227 (aQ [.v (bt t)] []) (aG (.v (.bool (decide (t∈xt)))) []):=by
 refine Spec.ofN Tryz.func227 rfl Tryz.ntmps227 rfl ?_
 refine go 6 ?_
 refine ai (au aa al (fx xt 6 rfl ab t) rfl rfl) ?_
 refine gP rfl (aj (aq (kV rfl rfl ?_)))
 rfl
theorem Hq (n:Nat):Spec Tryz.prog 203 (aQ [dJ (nd 12 n [] [])] []) (aG (.v (.int .i64 1)) []):=by
 refine Spec.ofN Tryz.func203 rfl Tryz.ntmps203 rfl ?_
 refine go 21 ?_
 refine aA ?_
 refine az (σ':=ap 80 [] [] [] []) kp ?_
 exact an (bF rfl (aj (aq (eu rfl rfl))))
theorem Hf (s:Tx):Spec Tryz.prog 203 (aQ [dJ (nd 14 0 s [])] []) (aG (.v (.int .i64 1)) []):=by
 refine Spec.ofN Tryz.func203 rfl Tryz.ntmps203 rfl ?_
 refine go 21 ?_
 refine aA ?_
 refine az (σ':=ap 80 [] [] [] []) kp ?_
 exact an (bF rfl (aj (aq (eu rfl rfl))))
theorem CS (s:Tx):Spec Tryz.prog 203 (aQ [dJ (nd 15 0 s [])] []) (aG (.v (.int .i64 1)) []):=by
 refine Spec.ofN Tryz.func203 rfl Tryz.ntmps203 rfl ?_
 refine go 21 ?_
 refine aA ?_
 refine az (σ':=ap 80 [] [] [] []) kp ?_
 exact an (bF rfl (aj (aq (eu rfl rfl))))
theorem Cm (n:Nat):Spec Tryz.prog 203 (aQ [dJ (nd 13 n [] [])] []) (aG (.v (.int .i64 2)) []):=by
 refine Spec.ofN Tryz.func203 rfl Tryz.ntmps203 rfl ?_
 refine go 23 ?_
 refine aA ?_
 refine az (σ':=ap 80 [(1,_)] [((1,0),_)] [] []) kp ?_
 refine go 9 ?_
 exact aq (eu rfl rfl)
theorem CX (L:List Nd) (hL:L.length≤3) (t:Nat→Nat) (ht: ∀ j,t j≤2) (h: ∀ j,j < L.length→Spec Tryz.prog 203 (aQ [dJ (jf L j)] []) (aG (.v (.int .i64 (t j:Int))) [])) (r:Nat) (hr1:(∀ j,j < L.length→t j=1)→r=1) (hr0: ∀ j,j < L.length→t j≠1→r=0):
  Spec Tryz.prog 203 (aQ [.agg [.v (.int .i64 16), .v (.int .i64 0), .v (bt []), .sl L.length (iU L)]] []) (aG (.v (.int .i64 (r:Int))) []):=by
 refine Spec.ofN Tryz.func203 rfl Tryz.ntmps203 rfl ?_
 refine go 23 ?_
 refine aA ?_
 refine az (σ':=ap 80 [(1,_)] [((1,0),_)] [] []) kp ?_
 refine go 25 ?_
 refine aA ?_
 refine az (σ':=ap 80 [(1,_)] [((1,0),_)] [] []) kp ?_
 refine go 31 ?_
 refine aA ?_
 refine az (σ':=ap 80 [(1,_),(3,_),(4,_)] [((1,0),_)] [] []) kp ?_
 refine go 12 ?_
 refine ax fun K14 hK14=> ?_
 refine aH (bF rfl (aj (aN ?_)))
 refine aX (α:=Nat) (fun j=> j≤L.length∧ ∀ q,q < j→t q=1) 80 [(1,_),(3,_),(4,_)] [((1,0),_)] (fun j=> [(5, .v (.int .i64 (j:Int)))]) (fun j=> []) [] [] (fun j=> L.length - j) 0 ?_ (kj [0] [] []) ?_
 ·exact ⟨Nat.zero_le _,fun q hq=> by omega⟩
 intro j hj
 obtain ⟨hj,hall⟩:=hj
 have htj:=ht j
 refine ax fun K16 hK16=> ?_
 refine go 7 ?_
 refine aD rfl (fun hc67=> ?_) (fun hc67=> ?_)
 ·refine aU (hK16 _ ?_)
  refine go 6 ?_
  refine ai (aL _ _ aa rfl rfl _ rfl ab (by (simp only [aM,aW,aV,bj,bl,bk,ba];omega)) ag) ?_
  refine ai (bu _ aa rfl (by exact bG _ _ ab) rfl) ?_
  refine ai (au aa al (h j ab) rfl rfl) ?_
  refine go 5 ?_
  refine ai (dv _ _ rfl rfl rfl) (aj (aD rfl (fun hc78=> ?_) (fun hc78=> ?_)))
  ·have hr:=hr0 j ab ab
   refine aA ?_
   refine az (σ':=ap 80 [] [] [] []) kp ?_
   refine an (bF rfl (aj (aq (oB rfl rfl ?_))))
   rw [hr];rfl
  have hall1: ∀ q,q < j+1→t q=1:=fun q hq=> by
   by_cases h:q < j
   ·exact hall q h
   obtain rfl:q=j:=by omega
   omega
  refine lk ?_
  refine az (σ':=ap 80 [(1,_),(3,_),(4,_),(5,_)] [((1,0),_)] [] []) kp ?_
  refine go 4 ?_
  refine am (⟨j+1,?_,?_,?_⟩)
  ·exact ⟨by omega,hall1⟩
  ·exact kj [0] [] []
  omega
 have hr:=hr1 fun q hq=> hall q ab
 refine bm (id (hK14 _ ?_))
 refine aH (bE rfl (bF rfl (aj (aq (oB rfl rfl ?_)))))
 rw [hr];rfl
theorem Ho (L:List Nd) (hL:L.length≤3) (t:Nat→Nat) (ht: ∀ j,t j≤2) (h: ∀ j,j < L.length→Spec Tryz.prog 203 (aQ [dJ (jf L j)] []) (aG (.v (.int .i64 (t j:Int))) [])) (r:Nat) (hr1:(∀ j,j < L.length→t j=1)→r=1) (hr0: ∀ j,j < L.length→t j≠1→r=0):
  Spec Tryz.prog 203 (aQ [.agg [.v (.int .i64 17), .v (.int .i64 0), .v (bt [45]), .sl L.length (iU L)]] []) (aG (.v (.int .i64 (r:Int))) []):=by
 refine Spec.ofN Tryz.func203 rfl Tryz.ntmps203 rfl ?_
 refine go 23 ?_
 refine aA ?_
 refine az (σ':=ap 80 [(1,_)] [((1,0),_)] [] []) kp ?_
 refine go 25 ?_
 refine aA ?_
 refine az (σ':=ap 80 [(1,_)] [((1,0),_)] [] []) kp ?_
 refine go 31 ?_
 refine aA ?_
 refine az (σ':=ap 80 [(1,_),(3,_),(4,_)] [((1,0),_)] [] []) kp ?_
 refine go 12 ?_
 refine ax fun K14 hK14=> ?_
 refine aH (bF rfl (aj (aN ?_)))
 refine aX (α:=Nat) (fun j=> j≤L.length∧ ∀ q,q < j→t q=1) 80 [(1,_),(3,_),(4,_)] [((1,0),_)] (fun j=> [(5, .v (.int .i64 (j:Int)))]) (fun j=> []) [] [] (fun j=> L.length - j) 0 ?_ (kj [0] [] []) ?_
 ·exact ⟨Nat.zero_le _,fun q hq=> by omega⟩
 intro j hj
 obtain ⟨hj,hall⟩:=hj
 have htj:=ht j
 refine ax fun K16 hK16=> ?_
 refine go 7 ?_
 refine aD rfl (fun hc67=> ?_) (fun hc67=> ?_)
 ·refine aU (hK16 _ ?_)
  refine go 6 ?_
  refine ai (aL _ _ aa rfl rfl _ rfl ab (by (simp only [aM,aW,aV,bj,bl,bk,ba];omega)) ag) ?_
  refine ai (bu _ aa rfl (by exact bG _ _ ab) rfl) ?_
  refine ai (au aa al (h j ab) rfl rfl) ?_
  refine go 5 ?_
  refine ai (dv _ _ rfl rfl rfl) (aj (aD rfl (fun hc78=> ?_) (fun hc78=> ?_)))
  ·have hr:=hr0 j ab ab
   refine aA ?_
   refine az (σ':=ap 80 [] [] [] []) kp ?_
   refine an (bF rfl (aj (aq (oB rfl rfl ?_))))
   rw [hr];rfl
  have hall1: ∀ q,q < j+1→t q=1:=fun q hq=> by
   by_cases h:q < j
   ·exact hall q h
   obtain rfl:q=j:=by omega
   omega
  refine lk ?_
  refine az (σ':=ap 80 [(1,_),(3,_),(4,_),(5,_)] [((1,0),_)] [] []) kp ?_
  refine go 4 ?_
  refine am (⟨j+1,?_,?_,?_⟩)
  ·exact ⟨by omega,hall1⟩
  ·exact kj [0] [] []
  omega
 have hr:=hr1 fun q hq=> hall q ab
 refine bm (id (hK14 _ ?_))
 refine aH (bE rfl (bF rfl (aj (aq (oB rfl rfl ?_)))))
 rw [hr];rfl
theorem Gh (L:List Nd) (hL:L.length≤3) (t:Nat→Nat) (ht: ∀ j,t j≤2) (h: ∀ j,j < L.length→Spec Tryz.prog 203 (aQ [dJ (jf L j)] []) (aG (.v (.int .i64 (t j:Int))) [])) (r:Nat) (hr1:(∀ j,j < L.length→t j=2)→r=2) (hr0: ∀ j,j < L.length→t j≠2→r=0):
  Spec Tryz.prog 203 (aQ [.agg [.v (.int .i64 17), .v (.int .i64 0), .v (bt [33]), .sl L.length (iU L)]] []) (aG (.v (.int .i64 (r:Int))) []):=by
 refine Spec.ofN Tryz.func203 rfl Tryz.ntmps203 rfl ?_
 refine go 23 ?_
 refine aA ?_
 refine az (σ':=ap 80 [(1,_)] [((1,0),_)] [] []) kp ?_
 refine go 25 ?_
 refine aA ?_
 refine az (σ':=ap 80 [(1,_)] [((1,0),_)] [] []) kp ?_
 refine go 29 ?_
 refine aA ?_
 refine az (σ':=ap 80 [(1,_)] [((1,0),_)] [] []) kp ?_
 refine go 19 ?_
 refine ax fun K15 hK15=> ?_
 refine aH (bF rfl (aj (aN ?_)))
 refine aX (α:=Nat) (fun j=> j≤L.length∧ ∀ q,q < j→t q=2) 80 [(1,_),(3,_),(4,_)] [((1,0),_)] (fun j=> [(5, .v (.int .i64 (j:Int)))]) (fun j=> []) [] [] (fun j=> L.length - j) 0 ?_ (kj [0] [] []) ?_
 ·exact ⟨Nat.zero_le _,fun q hq=> by omega⟩
 intro j hj
 obtain ⟨hj,hall⟩:=hj
 have htj:=ht j
 refine ax fun K17 hK17=> ?_
 refine go 7 ?_
 refine aD rfl (fun hc67=> ?_) (fun hc67=> ?_)
 ·refine aU (hK17 _ ?_)
  refine go 6 ?_
  refine ai (aL _ _ aa rfl rfl _ rfl ab (by (simp only [aM,aW,aV,bj,bl,bk,ba];omega)) ag) ?_
  refine ai (bu _ aa rfl (by exact bG _ _ ab) rfl) ?_
  refine ai (au aa al (h j ab) rfl rfl) ?_
  refine go 5 ?_
  refine ai (dv _ _ rfl rfl rfl) (aj (aD rfl (fun hc78=> ?_) (fun hc78=> ?_)))
  ·have hr:=hr0 j ab ab
   refine aA ?_
   refine az (σ':=ap 80 [] [] [] []) kp ?_
   refine an (bF rfl (aj (aq (oB rfl rfl ?_))))
   rw [hr];rfl
  have hall1: ∀ q,q < j+1→t q=2:=fun q hq=> by
   by_cases h:q < j
   ·exact hall q h
   obtain rfl:q=j:=by omega
   omega
  refine lk ?_
  refine az (σ':=ap 80 [(1,_),(3,_),(4,_),(5,_)] [((1,0),_)] [] []) kp ?_
  refine go 4 ?_
  refine am (⟨j+1,?_,?_,?_⟩)
  ·exact ⟨by omega,hall1⟩
  ·exact kj [0] [] []
  omega
 have hr:=hr1 fun q hq=> hall q ab
 refine bm (id (hK15 _ ?_))
 refine aH (bE rfl (bF rfl (aj (aq (oB rfl rfl ?_)))))
 rw [hr];rfl
theorem uB (s:Tx) (hs1:s∈[[38,38],[124,124]]) (hs2:s∉xt) (L:List Nd) (hL:L.length≤3) (t:Nat→Nat) (ht: ∀ j,t j≤2) (h: ∀ j,j < L.length→Spec Tryz.prog 203 (aQ [dJ (jf L j)] []) (aG (.v (.int .i64 (t j:Int))) [])) (r:Nat) (hr1:(∀ j,j < L.length→t j=2)→r=2) (hr0: ∀ j,j < L.length→t j≠2→r=0):
  Spec Tryz.prog 203 (aQ [.agg [.v (.int .i64 18), .v (.int .i64 0), .v (bt s), .sl L.length (iU L)]] []) (aG (.v (.int .i64 (r:Int))) []):=by
 refine Spec.ofN Tryz.func203 rfl Tryz.ntmps203 rfl ?_
 refine go 23 ?_
 refine aA ?_
 refine az (σ':=ap 80 [(1,_)] [((1,0),_)] [] []) kp ?_
 refine go 25 ?_
 refine aA ?_
 refine az (σ':=ap 80 [(1,_)] [((1,0),_)] [] []) kp ?_
 refine go 24 ?_
 refine aZ rfl rfl (au aa al (fx [[38,38],[124,124]] 2 rfl ab s) rfl rfl) ?_
 refine go 3 ?_
 refine dH rfl (decide_eq_true hs1) ?_
 refine aA ?_
 refine az (σ':=ap 80 [(1,_)] [((1,0),_)] [] []) kp ?_
 refine go 14 ?_
 refine aZ rfl rfl (au aa al (lB s) rfl rfl) ?_
 refine go 2 ?_
 refine cd rfl (decide_eq_false hs2) ?_
 refine cX (ax fun K15 hK15=> ?_)
 refine aH (bF rfl (aj (aN ?_)))
 refine aX (α:=Nat) (fun j=> j≤L.length∧ ∀ q,q < j→t q=2) 80 [(1,_),(3,_),(4,_)] [((1,0),_)] (fun j=> [(5, .v (.int .i64 (j:Int)))]) (fun j=> []) [] [] (fun j=> L.length - j) 0 ?_ (kj [0] [] []) ?_
 ·exact ⟨Nat.zero_le _,fun q hq=> by omega⟩
 intro j hj
 obtain ⟨hj,hall⟩:=hj
 have htj:=ht j
 refine ax fun K17 hK17=> ?_
 refine go 7 ?_
 refine aD rfl (fun hc67=> ?_) (fun hc67=> ?_)
 ·refine aU (hK17 _ ?_)
  refine go 6 ?_
  refine ai (aL _ _ aa rfl rfl _ rfl ab (by (simp only [aM,aW,aV,bj,bl,bk,ba];omega)) ag) ?_
  refine ai (bu _ aa rfl (by exact bG _ _ ab) rfl) ?_
  refine ai (au aa al (h j ab) rfl rfl) ?_
  refine go 5 ?_
  refine ai (dv _ _ rfl rfl rfl) (aj (aD rfl (fun hc78=> ?_) (fun hc78=> ?_)))
  ·have hr:=hr0 j ab ab
   refine aA ?_
   refine az (σ':=ap 80 [] [] [] []) kp ?_
   refine an (bF rfl (aj (aq (oB rfl rfl ?_))))
   rw [hr];rfl
  have hall1: ∀ q,q < j+1→t q=2:=fun q hq=> by
   by_cases h:q < j
   ·exact hall q h
   obtain rfl:q=j:=by omega
   omega
  refine lk ?_
  refine az (σ':=ap 80 [(1,_),(3,_),(4,_),(5,_)] [((1,0),_)] [] []) kp ?_
  refine go 4 ?_
  refine am (⟨j+1,?_,?_,?_⟩)
  ·exact ⟨by omega,hall1⟩
  ·exact kj [0] [] []
  omega
 have hr:=hr1 fun q hq=> hall q ab
 refine bm (id (hK15 _ ?_))
 refine aH (bE rfl (bF rfl (aj (aq (oB rfl rfl ?_)))))
 rw [hr];rfl
theorem Gv (s:Tx) (hs1:s∉[[38,38],[124,124]]) (hs2:s∈xt) (L:List Nd) (hL:L.length≤3) (t:Nat→Nat) (ht: ∀ j,t j≤2) (h: ∀ j,j < L.length→Spec Tryz.prog 203 (aQ [dJ (jf L j)] []) (aG (.v (.int .i64 (t j:Int))) [])) (r:Nat) (hr1:(∀ j,j < L.length→t j=1)→r=2) (hr0: ∀ j,j < L.length→t j≠1→r=0):
  Spec Tryz.prog 203 (aQ [.agg [.v (.int .i64 18), .v (.int .i64 0), .v (bt s), .sl L.length (iU L)]] []) (aG (.v (.int .i64 (r:Int))) []):=by
 refine Spec.ofN Tryz.func203 rfl Tryz.ntmps203 rfl ?_
 refine go 23 ?_
 refine aA ?_
 refine az (σ':=ap 80 [(1,_)] [((1,0),_)] [] []) kp ?_
 refine go 25 ?_
 refine aA ?_
 refine az (σ':=ap 80 [(1,_)] [((1,0),_)] [] []) kp ?_
 refine go 24 ?_
 refine aZ rfl rfl (au aa al (fx [[38,38],[124,124]] 2 rfl ab s) rfl rfl) ?_
 refine go 3 ?_
 refine cd rfl (decide_eq_false hs1) ?_
 refine cX (aA (aA ?_))
 refine az (σ':=ap 80 [(1,_),(3,_),(4,_)] [((1,0),_)] [] []) kp ?_
 refine go 7 ?_
 refine aZ rfl rfl (au aa al (lB s) rfl rfl) ?_
 refine go 2 ?_
 refine dH rfl (decide_eq_true hs2) ?_
 refine an (bF rfl (aj (ax fun K14 hK14=> ?_)))
 refine aH (bF rfl (aj (aN ?_)))
 refine aX (α:=Nat) (fun j=> j≤L.length∧ ∀ q,q < j→t q=1) 80 [(1,_),(3,_),(4,_)] [((1,0),_)] (fun j=> [(5, .v (.int .i64 (j:Int)))]) (fun j=> []) [] [] (fun j=> L.length - j) 0 ?_ (kj [0] [] []) ?_
 ·exact ⟨Nat.zero_le _,fun q hq=> by omega⟩
 intro j hj
 obtain ⟨hj,hall⟩:=hj
 have htj:=ht j
 refine ax fun K16 hK16=> ?_
 refine go 7 ?_
 refine aD rfl (fun hc67=> ?_) (fun hc67=> ?_)
 ·refine aU (hK16 _ ?_)
  refine go 6 ?_
  refine ai (aL _ _ aa rfl rfl _ rfl ab (by (simp only [aM,aW,aV,bj,bl,bk,ba];omega)) ag) ?_
  refine ai (bu _ aa rfl (by exact bG _ _ ab) rfl) ?_
  refine ai (au aa al (h j ab) rfl rfl) ?_
  refine go 5 ?_
  refine ai (dv _ _ rfl rfl rfl) (aj (aD rfl (fun hc78=> ?_) (fun hc78=> ?_)))
  ·have hr:=hr0 j ab ab
   refine aA ?_
   refine az (σ':=ap 80 [] [] [] []) kp ?_
   refine an (bF rfl (aj (aq (oB rfl rfl ?_))))
   rw [hr];rfl
  have hall1: ∀ q,q < j+1→t q=1:=fun q hq=> by
   by_cases h:q < j
   ·exact hall q h
   obtain rfl:q=j:=by omega
   omega
  refine lk ?_
  refine az (σ':=ap 80 [(1,_),(3,_),(4,_),(5,_)] [((1,0),_)] [] []) kp ?_
  refine go 4 ?_
  refine am (⟨j+1,?_,?_,?_⟩)
  ·exact ⟨by omega,hall1⟩
  ·exact kj [0] [] []
  omega
 have hr:=hr1 fun q hq=> hall q ab
 refine bm (id (hK14 _ ?_))
 refine aH (bE rfl (bF rfl (aj (aq (oB rfl rfl ?_)))))
 rw [hr];rfl
theorem BK (s:Tx) (hs1:s∉[[38,38],[124,124]]) (hs2:s∉xt) (L:List Nd) (hL:L.length≤3) (t:Nat→Nat) (ht: ∀ j,t j≤2) (h: ∀ j,j < L.length→Spec Tryz.prog 203 (aQ [dJ (jf L j)] []) (aG (.v (.int .i64 (t j:Int))) [])) (r:Nat) (hr1:(∀ j,j < L.length→t j=1)→r=1) (hr0: ∀ j,j < L.length→t j≠1→r=0):
  Spec Tryz.prog 203 (aQ [.agg [.v (.int .i64 18), .v (.int .i64 0), .v (bt s), .sl L.length (iU L)]] []) (aG (.v (.int .i64 (r:Int))) []):=by
 refine Spec.ofN Tryz.func203 rfl Tryz.ntmps203 rfl ?_
 refine go 23 ?_
 refine aA ?_
 refine az (σ':=ap 80 [(1,_)] [((1,0),_)] [] []) kp ?_
 refine go 25 ?_
 refine aA ?_
 refine az (σ':=ap 80 [(1,_)] [((1,0),_)] [] []) kp ?_
 refine go 24 ?_
 refine aZ rfl rfl (au aa al (fx [[38,38],[124,124]] 2 rfl ab s) rfl rfl) ?_
 refine go 3 ?_
 refine cd rfl (decide_eq_false hs1) ?_
 refine cX (aA (aA ?_))
 refine az (σ':=ap 80 [(1,_),(3,_),(4,_)] [((1,0),_)] [] []) kp ?_
 refine go 7 ?_
 refine aZ rfl rfl (au aa al (lB s) rfl rfl) ?_
 refine go 2 ?_
 refine cd rfl (decide_eq_false hs2) ?_
 refine cX (ax fun K14 hK14=> ?_)
 refine aH (bF rfl (aj (aN ?_)))
 refine aX (α:=Nat) (fun j=> j≤L.length∧ ∀ q,q < j→t q=1) 80 [(1,_),(3,_),(4,_)] [((1,0),_)] (fun j=> [(5, .v (.int .i64 (j:Int)))]) (fun j=> []) [] [] (fun j=> L.length - j) 0 ?_ (kj [0] [] []) ?_
 ·exact ⟨Nat.zero_le _,fun q hq=> by omega⟩
 intro j hj
 obtain ⟨hj,hall⟩:=hj
 have htj:=ht j
 refine ax fun K16 hK16=> ?_
 refine go 7 ?_
 refine aD rfl (fun hc67=> ?_) (fun hc67=> ?_)
 ·refine aU (hK16 _ ?_)
  refine go 6 ?_
  refine ai (aL _ _ aa rfl rfl _ rfl ab (by (simp only [aM,aW,aV,bj,bl,bk,ba];omega)) ag) ?_
  refine ai (bu _ aa rfl (by exact bG _ _ ab) rfl) ?_
  refine ai (au aa al (h j ab) rfl rfl) ?_
  refine go 5 ?_
  refine ai (dv _ _ rfl rfl rfl) (aj (aD rfl (fun hc78=> ?_) (fun hc78=> ?_)))
  ·have hr:=hr0 j ab ab
   refine aA ?_
   refine az (σ':=ap 80 [] [] [] []) kp ?_
   refine an (bF rfl (aj (aq (oB rfl rfl ?_))))
   rw [hr];rfl
  have hall1: ∀ q,q < j+1→t q=1:=fun q hq=> by
   by_cases h:q < j
   ·exact hall q h
   obtain rfl:q=j:=by omega
   omega
  refine lk ?_
  refine az (σ':=ap 80 [(1,_),(3,_),(4,_),(5,_)] [((1,0),_)] [] []) kp ?_
  refine go 4 ?_
  refine am (⟨j+1,?_,?_,?_⟩)
  ·exact ⟨by omega,hall1⟩
  ·exact kj [0] [] []
  omega
 have hr:=hr1 fun q hq=> hall q ab
 refine bm (id (hK14 _ ?_))
 refine aH (bE rfl (bF rfl (aj (aq (oB rfl rfl ?_)))))
 rw [hr];rfl
end Go.Proofs.YtmjnackchaahbaaGreat
