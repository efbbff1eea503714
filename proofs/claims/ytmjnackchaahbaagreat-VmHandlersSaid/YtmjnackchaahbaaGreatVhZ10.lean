/- part 10 -/
import Derived.Test.YtmjnackchaahbaaGreatVhZ9
set_option linter.unusedSimpArgs false
set_option linter.unusedVariables false
set_option maxHeartbeats 2000000
namespace Go.Proofs.YtmjnackchaahbaaGreat
open Go.RowKit

theorem oq: ∀ e,ey e≤2
 | .int _=> by simp [ey] | .bool _=> by simp [ey] | .var _=> by simp [ey] | .name _=> by simp [ey]
 | .draw e=> by simp only [ey];split <;> omega
 | .neg e=> by simp only [ey];split <;> omega
 | .not e=> by simp only [ey];split <;> omega
 | .bin o a b=> by cases o <;> simp only [ey] <;> split <;> omega
 | .and a b=> by simp only [ey];split <;> omega
 | .or a b=> by simp only [ey];split <;> omega
def tL (a b:Ex) (j:Nat):Nat:=if j=0 then ey a else ey b
theorem oh (a b:Ex) (j:Nat):tL a b j≤2:=by unfold tL;split <;> exact oq _
theorem ol {a b:Ex} {op j:Nat} (hj:j < 2) (h:tL a b j≠op): ¬ (ey a=op∧ey b=op):=fun e=> by
 have:j=0∨j=1:=by omega
 rcases this with rfl | rfl
 ·exact h e.1
 exact h e.2
theorem tB (o:Bo):o.txt∉([[38,38],[124,124]]:List Tx):=by cases o <;> decide
def KJ:Bo→Nat | .add=> 1 | .sub=> 1 | .mul=> 1 | .div=> 1 | _=> 2
abbrev vB (d:Nd) (t:Nat):Prop:=Spec Tryz.prog 203 (aQ [dJ d] []) (aG (.v (.int .i64 (t:Int))) [])
theorem sB {d:Nd} {t:Nat} (h:vB d t): ∀ j,j < [d].length→vB (jf [d] j) t:=fun j hj=> by
 have:j=0:=by simpa using hj
 subst this
 exact h
theorem pd {d e:Nd} {a b:Ex} (h1:vB d (ey a)) (h2:vB e (ey b)): ∀ j,j < [d,e].length→vB (jf [d,e] j) (tL a b j):=fun j hj=> by
 have hj:j < 2:=hj
 have:j=0∨j=1:=by omega
 rcases this with rfl | rfl
 ·exact h1
 exact h2
theorem dD (nm:List Tx): ∀ e:Ex,vB (dk nm e) (ey e)
 | .int n=> Hq n.toNat
 | .bool b=> Cm (if b then 1 else 0)
 | .var i=> Hf (nm.getD i [])
 | .name k=> CS (bltT.getD k [])
 | .draw e=> CX [dk nm e] (by simp) (fun _=> ey e) (fun _=> oq e) (sB (dD nm e)) _ (fun h=> if_pos (h 0 (by simp))) (fun _ _ h=> if_neg h)
 | .neg e=> Ho [dk nm e] (by simp) (fun _=> ey e) (fun _=> oq e) (sB (dD nm e)) _ (fun h=> if_pos (h 0 (by simp))) (fun _ _ h=> if_neg h)
 | .not e=> Gh [dk nm e] (by simp) (fun _=> ey e) (fun _=> oq e) (sB (dD nm e)) _ (fun h=> if_pos (h 0 (by simp))) (fun _ _ h=> if_neg h)
 | .and a b=> uB [38,38] ah ah [dk nm a,dk nm b] (by simp) (tL a b) (oh a b) (pd (dD nm a) (dD nm b)) _ (fun h=> if_pos ⟨h 0 (by simp),h 1 (by simp)⟩) (fun _ hj h=> if_neg (ol hj h))
 | .or a b=> uB [124,124] ah ah [dk nm a,dk nm b] (by simp) (tL a b) (oh a b) (pd (dD nm a) (dD nm b)) _ (fun h=> if_pos ⟨h 0 (by simp),h 1 (by simp)⟩) (fun _ hj h=> if_neg (ol hj h))
 | .bin o a b=> by
  have hty:ey (.bin o a b)=if ey a=1∧ey b=1 then KJ o else 0:=by cases o <;> rfl
  have hk:=pd (dD nm a) (dD nm b)
  by_cases ho:o.txt∈xt
  ·have h2:KJ o=2:=by cases o <;> first | rfl | (exact absurd ho ah)
   rw [h2] at hty
   exact Gv o.txt (tB o) ho [dk nm a,dk nm b] (by simp) (tL a b) (oh a b) hk _ (fun h=> hty.trans (if_pos ⟨h 0 (by simp),h 1 (by simp)⟩)) (fun _ hj h=> hty.trans (if_neg (ol hj h)))
  have h2:KJ o=1:=by cases o <;> first | rfl | (exact absurd ah ho)
  rw [h2] at hty
  exact BK o.txt (tB o) ho [dk nm a,dk nm b] (by simp) (tL a b) (oh a b) hk _ (fun h=> hty.trans (if_pos ⟨h 0 (by simp),h 1 (by simp)⟩)) (fun _ hj h=> hty.trans (if_neg (ol hj h)))
theorem jL (n:Int) (s:Tx) (L:List Nd) (h: ∀ j,j < L.length→Spec Tryz.prog 166 (aQ [dJ (jf L j)] []) (aG (.v (.bool true)) [])):
  Spec Tryz.prog 166 (aQ [.agg [.v (.int .i64 11), .v (.int .i64 n), .v (bt s), .sl L.length (iU L)]] []) (aG (.v (.bool true)) []):=by
 refine Spec.ofN Tryz.func166 rfl Tryz.ntmps166 rfl ?_
 refine aA ?_
 refine jt 0 3 rfl rfl rfl fun hlen=> ?_
 unfold maxLen at hlen
 refine go 11 ?_
 refine ax fun K4 hK4=> ?_
 refine aH (bF rfl (aj (aN ?_)))
 refine aX (α:=Nat) (fun j=> j≤L.length) 73 [(1,_)] [((1,0),_)] (fun j=> [(3, .v (.int .i64 (j:Int)))]) (fun j=> []) [] [] (fun j=> L.length - j) 0 ?_ (kj [0] [] []) ?_
 ·omega
 intro j hj
 refine ax fun K6 hK6=> ?_
 refine go 7 ?_
 refine aD rfl (fun hc17=> ?_) (fun hc17=> ?_)
 ·refine aU (hK6 _ ?_)
  refine go 6 ?_
  refine ai (aL _ _ aa rfl rfl _ rfl ab (by (simp only [aM,aW,aV,bj,bl,bk,ba];omega)) ag) ?_
  refine ai (bu _ aa rfl (by exact bG _ _ ab) rfl) ?_
  refine ai (au aa al (h j ab) rfl rfl) ?_
  refine go 12 ?_
  refine am (⟨j+1,?_,?_,?_⟩)
  ·omega
  ·exact kj [0] [] []
  omega
 refine bm (id (hK4 _ ?_))
 refine aH (gP rfl (aj (aq (kV rfl rfl ?_))))
 rfl
theorem qW (k:Nat) (hk:k=2∨k=3) (n:Int) (s:Tx) (L:List Nd) (hL:0 < L.length) (ht:Spec Tryz.prog 203 (aQ [dJ (jf L 0)] []) (aG (.v (.int .i64 2)) [])) (h: ∀ j,1≤j→j < L.length→Spec Tryz.prog 166 (aQ [dJ (jf L j)] []) (aG (.v (.bool true)) [])):
  Spec Tryz.prog 166 (aQ [.agg [.v (.int .i64 (k:Int)), .v (.int .i64 n), .v (bt s), .sl L.length (iU L)]] []) (aG (.v (.bool true)) []):=by
 refine Spec.ofN Tryz.func166 rfl Tryz.ntmps166 rfl ?_
 refine aA ?_
 refine jt 0 3 rfl rfl rfl fun hlen=> ?_
 unfold maxLen at hlen
 refine go 8 ?_
 refine AP rfl rfl (beq_eq_false_iff_ne.2 ab) ?_
 refine go 7 ?_
 refine ai (ca _ _ rfl rfl rfl) (HY rfl (dn (fun hg31=> ?_) (fun hg31=> ?_)))
 ·refine go 9 ?_
  refine ai (aL _ _ aa rfl rfl 0 rfl hL (by simp only [bk];omega) rfl) ?_
  refine ai (bu _ aa rfl (by exact bG L 0 hL) rfl) ?_
  refine ai (au aa al (ht) rfl rfl) ?_
  refine bF rfl (aj (ax fun K7 hK7=> ?_))
  refine aA ?_
  refine az (σ':=ap 73 [(1,_),(5,_)] [((1,0),_)] [] []) kp ?_
  refine an (bF rfl (aj (aN ?_)))
  refine aX (α:=Nat) (fun j=> 1≤j∧j≤L.length) 73 [(1,_),(5,_)] [((1,0),_)] (fun j=> [(6, .v (.int .i64 (j:Int)))]) (fun j=> []) [] [] (fun j=> L.length - j) 1 ?_ (kj [0] [] []) ?_
  ·exact ⟨Nat.le_refl _,hL⟩
  intro j hj
  obtain ⟨hj1,hj2⟩:=hj
  refine ax fun K9 hK9=> ?_
  refine go 7 ?_
  refine aD rfl (fun hc45=> ?_) (fun hc45=> ?_)
  ·refine aU (hK9 _ ?_)
   refine go 6 ?_
   refine ai (aL _ _ aa rfl rfl _ rfl ab (by (simp only [aM,aW,aV,bj,bl,bk,ba];omega)) ag) ?_
   refine ai (bu _ aa rfl (by exact bG _ _ ab) rfl) ?_
   refine ai (au aa al (h j hj1 ab) rfl rfl) ?_
   refine go 12 ?_
   refine am (⟨j+1,?_,?_,?_⟩)
   ·omega
   ·exact kj [0] [] []
   omega
  refine bm (id (hK7 _ ?_))
  refine go 5 ?_
  refine aq (kV rfl rfl ?_)
  rfl
 have hk3:k=3:=by omega
 refine go 2 ?_
 refine aZ rfl rfl (ca (r:=true) _ _ rfl rfl (beq_iff_eq.2 ab)) ?_
 refine go 6 ?_
 refine ai (aL _ _ aa rfl rfl 0 rfl hL (by simp only [bk];omega) rfl) ?_
 refine ai (bu _ aa rfl (by exact bG L 0 hL) rfl) ?_
 refine ai (au aa al (ht) rfl rfl) ?_
 refine bF rfl (aj (ax fun K16 hK16=> ?_))
 refine aA ?_
 refine az (σ':=ap 73 [(1,_),(5,_)] [((1,0),_)] [] []) kp ?_
 refine an (bF rfl (aj (aN ?_)))
 refine aX (α:=Nat) (fun j=> 1≤j∧j≤L.length) 73 [(1,_),(5,_)] [((1,0),_)] (fun j=> [(6, .v (.int .i64 (j:Int)))]) (fun j=> []) [] [] (fun j=> L.length - j) 1 ?_ (kj [0] [] []) ?_
 ·exact ⟨Nat.le_refl _,hL⟩
 intro j hj
 obtain ⟨hj1,hj2⟩:=hj
 refine ax fun K18 hK18=> ?_
 refine go 7 ?_
 refine aD rfl (fun hc45=> ?_) (fun hc45=> ?_)
 ·refine aU (hK18 _ ?_)
  refine go 6 ?_
  refine ai (aL _ _ aa rfl rfl _ rfl ab (by (simp only [aM,aW,aV,bj,bl,bk,ba];omega)) ag) ?_
  refine ai (bu _ aa rfl (by exact bG _ _ ab) rfl) ?_
  refine ai (au aa al (h j hj1 ab) rfl rfl) ?_
  refine go 12 ?_
  refine am (⟨j+1,?_,?_,?_⟩)
  ·omega
  ·exact kj [0] [] []
  omega
 refine bm (id (hK16 _ ?_))
 refine go 5 ?_
 refine aq (kV rfl rfl ?_)
 rfl
theorem eD (k:Nat) (hk:k≠2∧k≠3∧k≠11) (n:Int) (s:Tx) (L:List Nd) (h: ∀ j,j < L.length→Spec Tryz.prog 203 (aQ [dJ (jf L j)] []) (aG (.v (.int .i64 1)) [])):
  Spec Tryz.prog 166 (aQ [.agg [.v (.int .i64 (k:Int)), .v (.int .i64 n), .v (bt s), .sl L.length (iU L)]] []) (aG (.v (.bool true)) []):=by
 refine Spec.ofN Tryz.func166 rfl Tryz.ntmps166 rfl ?_
 refine aA ?_
 refine jt 0 3 rfl rfl rfl fun hlen=> ?_
 unfold maxLen at hlen
 refine go 8 ?_
 refine AP rfl rfl (beq_eq_false_iff_ne.2 ab) ?_
 refine go 7 ?_
 refine AP rfl rfl (beq_eq_false_iff_ne.2 ab) ?_
 refine go 3 ?_
 refine aZ rfl rfl (ca (r:=false) _ _ rfl rfl (beq_eq_false_iff_ne.2 ab)) ?_
 refine go 4 ?_
 refine ax fun K6 hK6=> ?_
 refine aH (bF rfl (aj (aN ?_)))
 refine aX (α:=Nat) (fun j=> j≤L.length) 73 [(1,_)] [((1,0),_)] (fun j=> [(8, .v (.int .i64 (j:Int)))]) (fun j=> []) [] [] (fun j=> L.length - j) 0 ?_ (kj [0] [] []) ?_
 ·omega
 intro j hj
 refine ax fun K8 hK8=> ?_
 refine go 7 ?_
 refine aD rfl (fun hc62=> ?_) (fun hc62=> ?_)
 ·refine aU (hK8 _ ?_)
  refine go 6 ?_
  refine ai (aL _ _ aa rfl rfl _ rfl ab (by (simp only [aM,aW,aV,bj,bl,bk,ba];omega)) ag) ?_
  refine ai (bu _ aa rfl (by exact bG _ _ ab) rfl) ?_
  refine ai (au aa al (h j ab) rfl rfl) ?_
  refine go 12 ?_
  refine am (⟨j+1,?_,?_,?_⟩)
  ·omega
  ·exact kj [0] [] []
  omega
 refine bm (id (hK6 _ ?_))
 refine aH (gP rfl (aj (aq (kV rfl rfl ?_))))
 rfl
end Go.Proofs.YtmjnackchaahbaaGreat

set_option maxHeartbeats 2000000
namespace Go.Proofs.YtmjnackchaahbaaGreat
open Go.RowKit

abbrev Lb (d:Nd):Prop:=Spec Tryz.prog 166 (aQ [dJ d] []) (aG (.v (.bool true)) [])
theorem ii {nm:List Tx} {e:Ex} (h:nK e=true):vB (dk nm e) 1:=by
 have:=Nat.eq_of_beq_eq_true h
 have h2:=dD nm e
 rwa [this] at h2
theorem HW {P:Nd→Prop} {d:Nd} (h:P d): ∀ j,j < [d].length→P (jf [d] j):=fun j hj=> by
 have:j=0:=by simpa using hj
 subst this
 exact h
theorem KD {P:Nd→Prop} {d e:Nd} (h:P d) (h':P e): ∀ j,j < [d,e].length→P (jf [d,e] j):=fun j hj=> by
 have hj:j < 2:=hj
 have:j=0∨j=1:=by omega
 rcases this with rfl | rfl
 ·exact h
 exact h'
theorem Lr {P:Nd→Prop} {d e f:Nd} (h:P d) (h':P e) (h2:P f): ∀ j,j < [d,e,f].length→P (jf [d,e,f] j):=fun j hj=> by
 have hj:j < 3:=hj
 have:j=0∨j=1∨j=2:=by omega
 rcases this with rfl | rfl | rfl
 ·exact h
 ·exact h'
 exact h2
theorem Bc {P:Nd→Prop}: ∀ j,j < ([]:List Nd).length→P (jf [] j):=fun j hj=> by simp at hj
theorem KI {P:Nd→Prop} {d:Nd} {l:List Nd} (h:P d) (h': ∀ j,j < l.length→P (jf l j)): ∀ j,j < (d::l).length→P (jf (d::l) j):=fun j hj=> by
 cases j with
 | zero=> exact h
 | succ j=> exact h' j (by simpa using hj)
mutual
theorem DD (nm:List Tx): ∀ s:Sm,xk s=true→Lb (nU nm s)
 | .assign i e,h=> eD 1 ab 0 (nm.getD i []) [dk nm e] (HW (P:=fun d=> vB d 1) (ii h))
 | .send t k a b,h=> by
  simp only [xk,Bool.and_eq_true] at h
  exact eD 4 ab k [] [dk nm t,dk nm a,dk nm b] (Lr (P:=fun d=> vB d 1) (ii h.1.1) (ii h.1.2) (ii h.2))
 | .timer k,_=> eD 5 ab k [] [] (Bc (P:=fun d=> vB d 1))
 | .cancel k,_=> eD 6 ab k [] [] (Bc (P:=fun d=> vB d 1))
 | .sync,_=> eD 7 ab 0 [] [] (Bc (P:=fun d=> vB d 1))
 | .stop,_=> eD 10 ab 0 [] [] (Bc (P:=fun d=> vB d 1))
 | .reply a b,h=> by
  simp only [xk,Bool.and_eq_true] at h
  exact eD 8 ab 0 [] [dk nm a,dk nm b] (KD (P:=fun d=> vB d 1) (ii h.1) (ii h.2))
 | .fail e,h=> eD 9 ab 0 [] [dk nm e] (HW (P:=fun d=> vB d 1) (ii h))
 | .loop c b,h=> by
  simp only [xk,Bool.and_eq_true] at h
  have h1:=dD nm c
  rw [Nat.eq_of_beq_eq_true h.1] at h1
  refine qW 3 (.inr rfl) 0 [] [dk nm c,nd 11 0 [] (fA nm b)] (by simp) h1 fun j h1 hj=> ?_
  have hj:j < 2:=hj
  obtain rfl:j=1:=by omega
  exact jL 0 [] (fA nm b) (mm nm b h.2)
 | .ite c a b,h=> by
  simp only [xk,Bool.and_eq_true] at h
  have h1:=dD nm c
  rw [Nat.eq_of_beq_eq_true h.1.1] at h1
  refine qW 2 (.inl rfl) 0 [] [dk nm c,nd 11 0 [] (fA nm a),nd 11 0 [] (fA nm b)] (by simp) h1 fun j h1 hj=> ?_
  have hj:j < 3:=hj
  have:j=1∨j=2:=by omega
  rcases this with rfl | rfl
  ·exact jL 0 [] (fA nm a) (mm nm a h.1.2)
  exact jL 0 [] (fA nm b) (mm nm b h.2)
theorem mm (nm:List Tx): ∀ b:Bk,pt b=true→ ∀ j,j < (fA nm b).length→Lb (jf (fA nm b) j)
 | .nil,_=> Bc
 | .cons s b,h=> by
  simp only [pt,Bool.and_eq_true] at h
  exact KI (DD nm s h.1) (mm nm b h.2)
end
theorem DF (nm:List Tx) (b:Bk) (h:pt b=true):Lb (ip nm b):=jL 0 [] (fA nm b) (mm nm b h)

def gy (s:Tx) (l:List Tx):List Tx:=if s∈l then l else l++[s]
section
variable (nm:List Tx)
def rV:Ex→List Tx→List Tx
 | .int _,l=> l | .bool _,l=> l | .name _,l=> l
 | .var i,l=> gy (nm.getD i []) l
 | .draw e,l=> rV e l | .neg e,l=> rV e l | .not e,l=> rV e l
 | .bin _ a b,l=> rV b (rV a l)
 | .and a b,l=> rV b (rV a l)
 | .or a b,l=> rV b (rV a l)
mutual
def Kt:Sm→List Tx→List Tx
 | .assign i e,l=> rV nm e (gy (nm.getD i []) l)
 | .send t _ a b,l=> rV nm b (rV nm a (rV nm t l))
 | .timer _,l=> l | .cancel _,l=> l | .sync,l=> l | .stop,l=> l
 | .reply a b,l=> rV nm b (rV nm a l)
 | .fail e,l=> rV nm e l
 | .loop c b,l=> Ci b (rV nm c l)
 | .ite c a b,l=> Ci b (Ci a (rV nm c l))
def Ci:Bk→List Tx→List Tx
 | .nil,l=> l
 | .cons s b,l=> Ci b (Kt s l)
end
def GN (l:List Tx):Prop:=l.Nodup∧ ∀ x∈l,x∈nm
end
theorem GN.len {nm l:List Tx} (h:GN nm l):l.length≤nm.length:=h.1.length_le_of_subset fun x hx=> h.2 x hx
theorem GN.add {nm l:List Tx} (h:GN nm l) {i:Nat} (hi:i < nm.length):GN nm (gy (nm.getD i []) l):=by
 unfold gy
 split
 ·exact h
 rename_i hn
 refine ⟨List.nodup_append.2 ⟨h.1,by simp,fun a ha b hb e=> hn (by rw [List.mem_singleton.1 hb] at e;exact e ▸ ha)⟩,fun x hx=> ?_⟩
 rcases List.mem_append.1 hx with hx | hx
 ·exact h.2 x hx
 rw [List.mem_singleton.1 hx];exact jo hi
theorem GN.nil {nm:List Tx}:GN nm []:=⟨.nil,fun x hx=> by simp at hx⟩
theorem tU (n:Int) (s:Tx) (L:List Nd) (l:List Tx) (hs:s∉l) (hl:l.length≤1000) (F:Nat→List Tx) (hF:F 0=l++[s]) (h: ∀ j,j < L.length→Spec Tryz.prog 167 (aQ [dJ (jf L j), .sl (F j).length (dh (F j))] []) (aG (.sl (F (j+1)).length (dh (F (j+1)))) [])):
  Spec Tryz.prog 167 (aQ [.agg [.v (.int .i64 1), .v (.int .i64 n), .v (bt s), .sl L.length (iU L)], .sl l.length (dh l)] []) (aG (.sl (F L.length).length (dh (F L.length))) []):=by
 refine Spec.ofN Tryz.func167 rfl Tryz.ntmps167 rfl ?_
 refine aA ?_
 refine jt 0 3 rfl rfl rfl fun hlen=> ?_
 unfold maxLen at hlen
 refine an (ai (ed (2,0) _ rfl rfl) (ai (bg _ fg) (go 15 ?_)))
 refine aZ rfl rfl (au aa al (fx l _ rfl ab s) rfl rfl) ?_
 refine go 3 ?_
 refine dH rfl (by rw [decide_eq_false hs];rfl) ?_
 refine aA ?_
 refine az (σ':=ap 45 [(1,_),(2,_)] [((2,0),_)] [] []) kp ?_
 refine an (ai (bg _ fg) (aj (aH (ai (br _ fg) (jV rfl (ai (vy (24,0) _ _ aa rfl (.sl (by simp)) ab rfl) ?_))))))
 refine go 7 ?_
 refine ai (cG (29,0) _ _ aa rfl rfl (by simp) (.sl rfl) ab rfl (mF _ _) (show l.length+1=(l++[s]).length by simp)) ?_
 refine gF rfl (aj (ax fun K6 hK6=> ?_))
 refine aH (bF rfl (aj (aN ?_)))
 refine az (Le.frzS 1 (ys:=dh (l++[s])) rfl rfl rfl (by rw [List.drop_zero,Nat.mul_one];exact List.take_of_length_le (by simp)) (by simp)) ?_
 refine aX (α:=Nat) (fun j=> j≤L.length) 45 [(2,_)] [((2,0),_)] (fun j=> [(6, .v (.int .i64 (j:Int))),(1, .sl (F j).length (dh (F j)))]) (fun j=> []) [] [] (fun j=> L.length - j) 0 ?_ (by
  refine Le.mkJ [] [] rfl ?_ ?_ trivial trivial ?_
  ·exact ⟨(iP rfl),(eN ag),(iu (by rw [hF]) (by rw [hF])),trivial⟩
  ·exact ⟨(dc rfl rfl rfl),trivial⟩
  kernel_rfl) ?_
 ·omega
 intro j hj
 refine ax fun K8 hK8=> ?_
 refine go 7 ?_
 refine aD rfl (fun hc34=> ?_) (fun hc34=> ?_)
 ·refine aU (hK8 _ ?_)
  refine go 6 ?_
  refine ai (aL _ _ aa rfl rfl _ rfl ab (by (simp only [aM,aW,aV,bj,bl,bk,ba];omega)) ag) ?_
  refine ai (bu _ aa rfl (by exact bG _ _ ab) rfl) ?_
  refine jV rfl (ai (au aa al (h j ab) rfl rfl) ?_)
  refine go 6 ?_
  refine am (⟨j+1,?_,?_,?_⟩)
  ·omega
  ·exact kj [0] [] []
  omega
 obtain rfl:j=L.length:=by omega
 refine bm (id (hK6 _ ?_))
 exact aH (jV rfl (FQ rfl (aj (aq (tY rfl rfl)))))
theorem tp (n:Int) (s:Tx) (L:List Nd) (l:List Tx) (hs:s∈l) (hl:l.length≤1000) (F:Nat→List Tx) (hF:F 0=l) (h: ∀ j,j < L.length→Spec Tryz.prog 167 (aQ [dJ (jf L j), .sl (F j).length (dh (F j))] []) (aG (.sl (F (j+1)).length (dh (F (j+1)))) [])):
  Spec Tryz.prog 167 (aQ [.agg [.v (.int .i64 1), .v (.int .i64 n), .v (bt s), .sl L.length (iU L)], .sl l.length (dh l)] []) (aG (.sl (F L.length).length (dh (F L.length))) []):=by
 refine Spec.ofN Tryz.func167 rfl Tryz.ntmps167 rfl ?_
 refine aA ?_
 refine jt 0 3 rfl rfl rfl fun hlen=> ?_
 unfold maxLen at hlen
 refine an (ai (ed (2,0) _ rfl rfl) (ai (bg _ fg) (go 15 ?_)))
 refine aZ rfl rfl (au aa al (fx l _ rfl ab s) rfl rfl) ?_
 refine go 3 ?_
 refine cd rfl (by rw [decide_eq_true hs];rfl) ?_
 refine cX (ax fun K4 hK4=> ?_)
 refine aA ?_
 refine az (σ':=ap 45 [(1,_),(2,_)] [((2,0),_)] [] []) kp ?_
 refine an (bF rfl (aj (aN ?_)))
 refine aX (α:=Nat) (fun j=> j≤L.length) 45 [(2,_)] [((2,0),_)] (fun j=> [(6, .v (.int .i64 (j:Int))),(1, .sl (F j).length (dh (F j)))]) (fun j=> []) [] [] (fun j=> L.length - j) 0 ?_ (by
  refine Le.mkJ [] [] rfl ?_ ?_ trivial trivial ?_
  ·exact ⟨(iP rfl),(eN ag),(iu (by rw [hF]) (by rw [hF])),trivial⟩
  ·exact ⟨(dc rfl rfl rfl),trivial⟩
  kernel_rfl) ?_
 ·omega
 intro j hj
 refine ax fun K6 hK6=> ?_
 refine go 7 ?_
 refine aD rfl (fun hc34=> ?_) (fun hc34=> ?_)
 ·refine aU (hK6 _ ?_)
  refine go 6 ?_
  refine ai (aL _ _ aa rfl rfl _ rfl ab (by (simp only [aM,aW,aV,bj,bl,bk,ba];omega)) ag) ?_
  refine ai (bu _ aa rfl (by exact bG _ _ ab) rfl) ?_
  refine jV rfl (ai (au aa al (h j ab) rfl rfl) ?_)
  refine go 6 ?_
  refine am (⟨j+1,?_,?_,?_⟩)
  ·omega
  ·exact kj [0] [] []
  omega
 obtain rfl:j=L.length:=by omega
 refine bm (id (hK4 _ ?_))
 exact aH (jV rfl (FQ rfl (aj (aq (tY rfl rfl)))))
theorem sG (n:Int) (s:Tx) (L:List Nd) (l:List Tx) (hs:s∉l) (hl:l.length≤1000) (F:Nat→List Tx) (hF:F 0=l++[s]) (h: ∀ j,j < L.length→Spec Tryz.prog 167 (aQ [dJ (jf L j), .sl (F j).length (dh (F j))] []) (aG (.sl (F (j+1)).length (dh (F (j+1)))) [])):
  Spec Tryz.prog 167 (aQ [.agg [.v (.int .i64 14), .v (.int .i64 n), .v (bt s), .sl L.length (iU L)], .sl l.length (dh l)] []) (aG (.sl (F L.length).length (dh (F L.length))) []):=by
 refine Spec.ofN Tryz.func167 rfl Tryz.ntmps167 rfl ?_
 refine aA ?_
 refine jt 0 3 rfl rfl rfl fun hlen=> ?_
 unfold maxLen at hlen
 refine an (ai (ed (2,0) _ rfl rfl) (ai (bg _ fg) (go 15 ?_)))
 refine aZ rfl rfl (au aa al (fx l _ rfl ab s) rfl rfl) ?_
 refine go 3 ?_
 refine dH rfl (by rw [decide_eq_false hs];rfl) ?_
 refine aA ?_
 refine az (σ':=ap 45 [(1,_),(2,_)] [((2,0),_)] [] []) kp ?_
 refine an (ai (bg _ fg) (aj (aH (ai (br _ fg) (jV rfl (ai (vy (24,0) _ _ aa rfl (.sl (by simp)) ab rfl) ?_))))))
 refine go 7 ?_
 refine ai (cG (29,0) _ _ aa rfl rfl (by simp) (.sl rfl) ab rfl (mF _ _) (show l.length+1=(l++[s]).length by simp)) ?_
 refine gF rfl (aj (ax fun K6 hK6=> ?_))
 refine aH (bF rfl (aj (aN ?_)))
 refine az (Le.frzS 1 (ys:=dh (l++[s])) rfl rfl rfl (by rw [List.drop_zero,Nat.mul_one];exact List.take_of_length_le (by simp)) (by simp)) ?_
 refine aX (α:=Nat) (fun j=> j≤L.length) 45 [(2,_)] [((2,0),_)] (fun j=> [(6, .v (.int .i64 (j:Int))),(1, .sl (F j).length (dh (F j)))]) (fun j=> []) [] [] (fun j=> L.length - j) 0 ?_ (by
  refine Le.mkJ [] [] rfl ?_ ?_ trivial trivial ?_
  ·exact ⟨(iP rfl),(eN ag),(iu (by rw [hF]) (by rw [hF])),trivial⟩
  ·exact ⟨(dc rfl rfl rfl),trivial⟩
  kernel_rfl) ?_
 ·omega
 intro j hj
 refine ax fun K8 hK8=> ?_
 refine go 7 ?_
 refine aD rfl (fun hc34=> ?_) (fun hc34=> ?_)
 ·refine aU (hK8 _ ?_)
  refine go 6 ?_
  refine ai (aL _ _ aa rfl rfl _ rfl ab (by (simp only [aM,aW,aV,bj,bl,bk,ba];omega)) ag) ?_
  refine ai (bu _ aa rfl (by exact bG _ _ ab) rfl) ?_
  refine jV rfl (ai (au aa al (h j ab) rfl rfl) ?_)
  refine go 6 ?_
  refine am (⟨j+1,?_,?_,?_⟩)
  ·omega
  ·exact kj [0] [] []
  omega
 obtain rfl:j=L.length:=by omega
 refine bm (id (hK6 _ ?_))
 exact aH (jV rfl (FQ rfl (aj (aq (tY rfl rfl)))))
theorem rZ (n:Int) (s:Tx) (L:List Nd) (l:List Tx) (hs:s∈l) (hl:l.length≤1000) (F:Nat→List Tx) (hF:F 0=l) (h: ∀ j,j < L.length→Spec Tryz.prog 167 (aQ [dJ (jf L j), .sl (F j).length (dh (F j))] []) (aG (.sl (F (j+1)).length (dh (F (j+1)))) [])):
  Spec Tryz.prog 167 (aQ [.agg [.v (.int .i64 14), .v (.int .i64 n), .v (bt s), .sl L.length (iU L)], .sl l.length (dh l)] []) (aG (.sl (F L.length).length (dh (F L.length))) []):=by
 refine Spec.ofN Tryz.func167 rfl Tryz.ntmps167 rfl ?_
 refine aA ?_
 refine jt 0 3 rfl rfl rfl fun hlen=> ?_
 unfold maxLen at hlen
 refine an (ai (ed (2,0) _ rfl rfl) (ai (bg _ fg) (go 15 ?_)))
 refine aZ rfl rfl (au aa al (fx l _ rfl ab s) rfl rfl) ?_
 refine go 3 ?_
 refine cd rfl (by rw [decide_eq_true hs];rfl) ?_
 refine cX (ax fun K4 hK4=> ?_)
 refine aA ?_
 refine az (σ':=ap 45 [(1,_),(2,_)] [((2,0),_)] [] []) kp ?_
 refine an (bF rfl (aj (aN ?_)))
 refine aX (α:=Nat) (fun j=> j≤L.length) 45 [(2,_)] [((2,0),_)] (fun j=> [(6, .v (.int .i64 (j:Int))),(1, .sl (F j).length (dh (F j)))]) (fun j=> []) [] [] (fun j=> L.length - j) 0 ?_ (by
  refine Le.mkJ [] [] rfl ?_ ?_ trivial trivial ?_
  ·exact ⟨(iP rfl),(eN ag),(iu (by rw [hF]) (by rw [hF])),trivial⟩
  ·exact ⟨(dc rfl rfl rfl),trivial⟩
  kernel_rfl) ?_
 ·omega
 intro j hj
 refine ax fun K6 hK6=> ?_
 refine go 7 ?_
 refine aD rfl (fun hc34=> ?_) (fun hc34=> ?_)
 ·refine aU (hK6 _ ?_)
  refine go 6 ?_
  refine ai (aL _ _ aa rfl rfl _ rfl ab (by (simp only [aM,aW,aV,bj,bl,bk,ba];omega)) ag) ?_
  refine ai (bu _ aa rfl (by exact bG _ _ ab) rfl) ?_
  refine jV rfl (ai (au aa al (h j ab) rfl rfl) ?_)
  refine go 6 ?_
  refine am (⟨j+1,?_,?_,?_⟩)
  ·omega
  ·exact kj [0] [] []
  omega
 obtain rfl:j=L.length:=by omega
 refine bm (id (hK4 _ ?_))
 exact aH (jV rfl (FQ rfl (aj (aq (tY rfl rfl)))))
theorem tz (k:Nat) (hk:k≠1∧k≠14) (n:Int) (s:Tx) (L:List Nd) (l:List Tx) (hl:l.length≤1000) (F:Nat→List Tx) (hF:F 0=l) (h: ∀ j,j < L.length→Spec Tryz.prog 167 (aQ [dJ (jf L j), .sl (F j).length (dh (F j))] []) (aG (.sl (F (j+1)).length (dh (F (j+1)))) [])):
  Spec Tryz.prog 167 (aQ [.agg [.v (.int .i64 (k:Int)), .v (.int .i64 n), .v (bt s), .sl L.length (iU L)], .sl l.length (dh l)] []) (aG (.sl (F L.length).length (dh (F L.length))) []):=by
 refine Spec.ofN Tryz.func167 rfl Tryz.ntmps167 rfl ?_
 refine aA ?_
 refine jt 0 3 rfl rfl rfl fun hlen=> ?_
 unfold maxLen at hlen
 refine an (ai (ed (2,0) _ rfl rfl) (ai (bg _ fg) (go 5 ?_)))
 refine AP rfl rfl (beq_eq_false_iff_ne.2 ab) ?_
 refine go 3 ?_
 refine aZ rfl rfl (ca (r:=false) _ _ rfl rfl (beq_eq_false_iff_ne.2 ab)) ?_
 refine go 11 ?_
 refine ax fun K4 hK4=> ?_
 refine aA ?_
 refine az (σ':=ap 45 [(1,_),(2,_)] [((2,0),_)] [] []) kp ?_
 refine an (bF rfl (aj (aN ?_)))
 refine aX (α:=Nat) (fun j=> j≤L.length) 45 [(2,_)] [((2,0),_)] (fun j=> [(6, .v (.int .i64 (j:Int))),(1, .sl (F j).length (dh (F j)))]) (fun j=> []) [] [] (fun j=> L.length - j) 0 ?_ (by
  refine Le.mkJ [] [] rfl ?_ ?_ trivial trivial ?_
  ·exact ⟨(iP rfl),(eN ag),(iu (by rw [hF]) (by rw [hF])),trivial⟩
  ·exact ⟨(dc rfl rfl rfl),trivial⟩
  kernel_rfl) ?_
 ·omega
 intro j hj
 refine ax fun K6 hK6=> ?_
 refine go 7 ?_
 refine aD rfl (fun hc34=> ?_) (fun hc34=> ?_)
 ·refine aU (hK6 _ ?_)
  refine go 6 ?_
  refine ai (aL _ _ aa rfl rfl _ rfl ab (by (simp only [aM,aW,aV,bj,bl,bk,ba];omega)) ag) ?_
  refine ai (bu _ aa rfl (by exact bG _ _ ab) rfl) ?_
  refine jV rfl (ai (au aa al (h j ab) rfl rfl) ?_)
  refine go 6 ?_
  refine am (⟨j+1,?_,?_,?_⟩)
  ·omega
  ·exact kj [0] [] []
  omega
 obtain rfl:j=L.length:=by omega
 refine bm (id (hK4 _ ?_))
 exact aH (jV rfl (FQ rfl (aj (aq (tY rfl rfl)))))
def eM (fs:List (List Tx→List Tx)) (l:List Tx):List Tx:=fs.foldl (fun l f=> f l) l
theorem jv {fs:List (List Tx→List Tx)} {l:List Tx} {j:Nat} (h:j < fs.length):eM (fs.take (j+1)) l=fs.getD j id (eM (fs.take j) l):=by
 rw [List.take_succ_eq_append_getElem h]
 unfold eM
 rw [List.foldl_append,List.getD_eq_getElem?_getD,List.getElem?_eq_getElem h];rfl
abbrev yi (nm:List Tx) (d:Nd) (f:List Tx→List Tx):Prop:= ∀ l,GN nm l→Spec Tryz.prog 167 (aQ [dJ d, .sl l.length (dh l)] []) (aG (.sl (f l).length (dh (f l))) [])∧GN nm (f l)
section
variable {nm:List Tx} (hnm:nm.length≤16) {L:List Nd} {fs:List (List Tx→List Tx)} (hfs:fs.length=L.length) (h: ∀ j,j < L.length→yi nm (jf L j) (fs.getD j id))
theorem oU (hfs:fs.length=L.length) (h: ∀ j,j < L.length→yi nm (jf L j) (fs.getD j id)) {l:List Tx} (hl:GN nm l): ∀ j,j≤L.length→GN nm (eM (fs.take j) l)
 | 0,_=> by simpa [eM] using hl
 | j+1,hj=> by
  rw [jv ab]
  exact (h j ab _ (oU hfs h hl j ab)).2
theorem bX (hnm:nm.length≤16) (hfs:fs.length=L.length) (h: ∀ j,j < L.length→yi nm (jf L j) (fs.getD j id)) (k:Nat) (hk:k≠1∧k≠14) (n:Nat) (s:Tx):yi nm (nd k n s L) (eM fs):=fun l hl=> by
 have hg:=oU hfs h hl
 have he:eM (fs.take L.length) l=eM fs l:=by rw [← hfs,List.take_length]
 have hw:=tz k hk n s L l (by have:=hl.len;omega) (fun j=> eM (fs.take j) l) rfl fun j hj=> by
  rw [show eM (fs.take (j+1)) l=_ from jv ab]
  exact (h j hj _ (hg j ab)).1
 rw [he] at hw
 exact ⟨hw,he ▸ hg _ (Nat.le_refl _)⟩
theorem yF (hnm:nm.length≤16) (hfs:fs.length=L.length) (h: ∀ j,j < L.length→yi nm (jf L j) (fs.getD j id)) (n:Nat) {i:Nat} (hi:i < nm.length):yi nm (nd 1 n (nm.getD i []) L) (fun l=> eM fs (gy (nm.getD i []) l)):=fun l hl=> by
 have hg:=oU hfs h (hl.add hi)
 have he:eM (fs.take L.length) (gy (nm.getD i []) l)=eM fs (gy (nm.getD i []) l):=by rw [← hfs,List.take_length]
 have hkid: ∀ j,j < L.length→_:=fun j hj=> (h j hj _ (hg j ab)).1
 have hll:=hl.len
 show Spec _ _ _ (aG (.sl (eM fs (gy (nm.getD i []) l)).length (dh (eM fs (gy (nm.getD i []) l)))) [])∧GN nm (eM fs (gy (nm.getD i []) l))
 rw [← he]
 refine ⟨?_,hg _ (Nat.le_refl _)⟩
 by_cases hs:nm.getD i []∈l
 ·exact tp n _ L l hs ab (fun j=> eM (fs.take j) (gy (nm.getD i []) l)) (by show gy _ l=l;unfold gy;rw [if_pos hs]) fun j hj=> by
   rw [show eM (fs.take (j+1)) (gy (nm.getD i []) l)=_ from jv ab]
   exact hkid j hj
 exact tU n _ L l hs ab (fun j=> eM (fs.take j) (gy (nm.getD i []) l)) (by show gy _ l=_;unfold gy;rw [if_neg hs]) fun j hj=> by
  rw [show eM (fs.take (j+1)) (gy (nm.getD i []) l)=_ from jv ab]
  exact hkid j hj
end
theorem yr {nm:List Tx} (hnm:nm.length≤16) {i:Nat} (hi:i < nm.length):yi nm (nd 14 0 (nm.getD i []) []) (gy (nm.getD i [])):=fun l hl=> by
 have hll:=hl.len
 refine ⟨?_,hl.add hi⟩
 by_cases hs:nm.getD i []∈l
 ·exact rZ 0 _ [] l hs ab (fun _=> gy (nm.getD i []) l) (by show gy _ l=l;unfold gy;rw [if_pos hs]) fun j hj=> by simp at hj
 exact sG 0 _ [] l hs ab (fun _=> gy (nm.getD i []) l) (by show gy _ l=_;unfold gy;rw [if_neg hs]) fun j hj=> by simp at hj
section
variable {nm:List Tx}
abbrev yV (nm:List Tx) (L:List Nd) (fs:List (List Tx→List Tx)):Prop:= ∀ j,j < L.length→yi nm (jf L j) (fs.getD j id)
theorem qJ:yV nm [] []:=fun j hj=> by simp at hj
theorem qe {d:Nd} {f:List Tx→List Tx} {L:List Nd} {fs:List (List Tx→List Tx)} (h:yi nm d f) (h':yV nm L fs):yV nm (d::L) (f::fs):=fun j hj=> by
 cases j with
 | zero=> exact h
 | succ j=> exact h' j (by simpa using hj)
theorem cK (hnm:nm.length≤16): ∀ e:Ex,eQ nm.length e→yi nm (dk nm e) (rV nm e)
 | .int _,_=> bX hnm rfl qJ 12 ab _ _
 | .bool _,_=> bX hnm rfl qJ 13 ab _ _
 | .name _,_=> bX hnm rfl qJ 15 ab _ _
 | .var i,h=> yr hnm h
 | .draw e,h=> bX hnm rfl (qe (cK hnm e h) qJ) 16 ab _ _
 | .neg e,h=> bX hnm rfl (qe (cK hnm e h) qJ) 17 ab _ _
 | .not e,h=> bX hnm rfl (qe (cK hnm e h) qJ) 17 ab _ _
 | .bin _ a b,h=> bX hnm rfl (qe (cK hnm a h.1) (qe (cK hnm b h.2) qJ)) 18 ab _ _
 | .and a b,h=> bX hnm rfl (qe (cK hnm a h.1) (qe (cK hnm b h.2) qJ)) 18 ab _ _
 | .or a b,h=> bX hnm rfl (qe (cK hnm a h.1) (qe (cK hnm b h.2) qJ)) 18 ab _ _
def Fr (nm:List Tx):Bk→List (List Tx→List Tx)
 | .nil=> []
 | .cons s b=> Kt nm s::Fr nm b
theorem wE (nm:List Tx): ∀ b:Bk,(Fr nm b).length=(fA nm b).length
 | .nil=> by simp [Fr,fA]
 | .cons s b=> by simp [Fr,fA,wE nm b]
theorem uk (nm:List Tx): ∀ (b:Bk) (l:List Tx),eM (Fr nm b) l=Ci nm b l
 | .nil,l=> rfl
 | .cons s b,l=> by rw [Ci,← uk nm b];rfl
theorem kL (hnm:nm.length≤16) {b:Bk} (h:yV nm (fA nm b) (Fr nm b)):yi nm (ip nm b) (Ci nm b):=by
 have:=bX hnm (wE nm b) h 11 ab 0 []
 rwa [show eM (Fr nm b)=Ci nm b from funext (uk nm b)] at this
mutual
theorem BO (hnm:nm.length≤16): ∀ s:Sm,dV nm.length s→yi nm (nU nm s) (Kt nm s)
 | .assign i e,h=> by rw [dV] at h;exact yF hnm rfl (qe (cK hnm e h.2) qJ) 0 h.1
 | .send t k a b,h=> by rw [dV] at h;exact bX hnm rfl (qe (cK hnm t h.2.1) (qe (cK hnm a h.2.2.1) (qe (cK hnm b h.2.2.2) qJ))) 4 ab _ _
 | .timer _,_=> bX hnm rfl qJ 5 ab _ _
 | .cancel _,_=> bX hnm rfl qJ 6 ab _ _
 | .sync,_=> bX hnm rfl qJ 7 ab _ _
 | .stop,_=> bX hnm rfl qJ 10 ab _ _
 | .reply a b,h=> by rw [dV] at h;exact bX hnm rfl (qe (cK hnm a h.1) (qe (cK hnm b h.2) qJ)) 8 ab _ _
 | .fail e,h=> by rw [dV] at h;exact bX hnm rfl (qe (cK hnm e h) qJ) 9 ab _ _
 | .loop c b,h=> by rw [dV] at h;exact bX hnm rfl (qe (cK hnm c h.1) (qe (kL hnm (kq hnm b h.2)) qJ)) 3 ab _ _
 | .ite c a b,h=> by rw [dV] at h;exact bX hnm rfl (qe (cK hnm c h.1) (qe (kL hnm (kq hnm a h.2.1)) (qe (kL hnm (kq hnm b h.2.2)) qJ))) 2 ab _ _
theorem kq (hnm:nm.length≤16): ∀ b:Bk,gz nm.length b→yV nm (fA nm b) (Fr nm b)
 | .nil,_=> qJ
 | .cons s b,h=> by rw [gz] at h;exact qe (BO hnm s h.1) (kq hnm b h.2)
end
theorem zm (hnm:nm.length≤16) (b:Bk) (h:gz nm.length b):yi nm (ip nm b) (Ci nm b):=kL hnm (kq hnm b h)
end
end Go.Proofs.YtmjnackchaahbaaGreat

set_option maxHeartbeats 2000000
namespace Go.Proofs.YtmjnackchaahbaaGreat
open Go.RowKit

theorem jH {l:List Tx} (h:l.Nodup) {i j:Nat} (hi:i < l.length) (hj:j < l.length) (e:l.getD i []=l.getD j []):i=j:=by
 rw [List.getD_eq_getElem?_getD,List.getD_eq_getElem?_getD,List.getElem?_eq_getElem hi,List.getElem?_eq_getElem hj] at e
 have h:=List.pairwise_iff_getElem.1 h
 rcases Nat.lt_trichotomy i j with hlt | rfl | hlt
 ·exact absurd (Option.some.inj (by simpa using e)) (h i j hi hj hlt)
 ·rfl
 exact absurd (Option.some.inj (by simpa using e)).symm (h j i hj hi hlt)
theorem qp {a b:List Tx} {k:Nat} (h:k < a.length):a.getD k []=(a++b).getD k []:=by
 rw [List.getD_eq_getElem?_getD,List.getD_eq_getElem?_getD,List.getElem?_append_left h]
theorem getD_right {a b:List Tx} {k:Nat}:b.getD k []=(a++b).getD (a.length+k) []:=by
 rw [List.getD_eq_getElem?_getD,List.getD_eq_getElem?_getD,List.getElem?_append_right ab,Nat.add_sub_cancel_left]
theorem lC (d v:List Tx) (on:List PV) (no:Nat) (hn:(d++v).Nodup) (hl:(d++v).length≤1000) (i:Nat) (hi:i < (d++v).length):
  Spec Tryz.prog 121 (aQ [.agg [.sl d.length (dh d), .sl v.length (dh v), .sl no on], .v (bt ((d++v).getD i []))] []) (aG (.v (.int .i64 (i:Int))) []):=by
 have hl2:(d++v).length=d.length+v.length:=List.length_append
 refine Spec.ofN Tryz.func121 rfl Tryz.ntmps121 rfl ?_
 refine go 4 ?_
 refine ax fun K2 hK2=> ?_
 refine aH (bF rfl (aj (aN ?_)))
 refine aX (α:=Nat) (fun k=> k≤d.length∧k≤i) 41 [(1,_),(2,_)] [((2,0),_)] (fun k=> [(5, .v (.int .i64 (k:Int)))]) (fun k=> []) [] [] (fun k=> d.length - k) 0 ?_ (kj [0] [] []) ?_
 ·exact ⟨Nat.zero_le _,Nat.zero_le _⟩
 intro k hk
 obtain ⟨hk,hki⟩:=hk
 refine ax fun K4 hK4=> ?_
 refine go 7 ?_
 refine aD rfl (fun hc11=> ?_) (fun hc11=> ?_)
 ·refine aU (hK4 _ ?_)
  refine go 6 ?_
  refine ai (aL _ _ aa rfl rfl _ rfl ab (by (simp only [aM,aW,aV,bj,bl,bk,ba,List.length_map];omega)) (by exact Nat.mul_one _)) ?_
  refine ai (bh _ aa rfl (by exact ew _ _ ab) rfl) ?_
  refine so rfl (ai (bJ _ _ Tryz.underlying9 rfl rfl rfl) (aj (aD rfl (fun hc20=> ?_) (fun hc20=> ?_))))
  ·have he:k=i:=jH hn ab hi ((qp ab).symm.trans hc20)
   refine aH (bE rfl (bF rfl (aj (aq (oB rfl rfl ?_)))))
   rw [he]
  have he:k≠i:=fun e=> hc20 ((qp ab).trans (by rw [e]))
  refine go 5 ?_
  refine am (⟨k+1,?_,?_,?_⟩)
  ·exact ⟨by omega,by omega⟩
  ·exact kj [0] [] []
  omega
 refine bm (id (hK2 _ ?_))
 refine aA (aH (bF rfl (aj (aN ?_))))
 refine aX (α:=Nat) (fun q=> q≤v.length∧d.length+q≤i) 41 [(1,_),(2,_)] [((2,0),_)] (fun q=> [(6, .v (.int .i64 (q:Int)))]) (fun q=> []) [] [] (fun q=> v.length - q) 0 ?_ (kj [0] [] []) ?_
 ·exact ⟨Nat.zero_le _,by omega⟩
 intro q hq
 obtain ⟨hq,hqi⟩:=hq
 refine ax fun K11 hK11=> ?_
 refine go 7 ?_
 refine aD rfl (fun hc26=> ?_) (fun hc26=> ?_)
 ·refine aU (hK11 _ ?_)
  refine go 6 ?_
  refine ai (aL _ _ aa rfl rfl _ rfl ab (by (simp only [aM,aW,aV,bj,bl,bk,ba,List.length_map];omega)) (by exact Nat.mul_one _)) ?_
  refine ai (bh _ aa rfl (by exact ew _ _ ab) rfl) ?_
  refine so rfl (ai (bJ _ _ Tryz.underlying9 rfl rfl rfl) (aj (aD rfl (fun hc35=> ?_) (fun hc35=> ?_))))
  ·have he:d.length+q=i:=jH hn ab hi (getD_right.symm.trans hc35)
   refine go 8 ?_
   refine aq (oB rfl rfl ?_)
   omega
  have he:d.length+q≠i:=fun e=> hc35 (getD_right.trans (by rw [e]))
  refine go 5 ?_
  refine am (⟨q+1,?_,?_,?_⟩)
  ·exact ⟨by omega,by omega⟩
  ·exact kj [0] [] []
  omega
 exact absurd hqi ab
theorem sJ (ons:List (Nat×Bk)) (nm:List Tx) (k:Nat) (h:k < ons.length):jW (ons.map fun p=> (p.1,ip nm p.2)) k=((ons[k]).1,ip nm (ons[k]).2):=by
 rw [ls _ _ (by simpa using h),List.getElem_map]
theorem sS (l:List Hd) (k:Nat) (h:k < l.length):PV.ups (((jr l).drop (k*5+1)).take 4)=[.v (.int .i64 ((jW l k).2.k:Int)), .v (.int .i64 ((jW l k).2.n:Int)), .v (bt (jW l k).2.s), .sl (jW l k).2.kn (jW l k).2.kids]:=by
 have e:=nS wV 5 (fun _=> rfl) l k h
 have:((jr l).drop (k*5+1)).take 4=(((l.flatMap wV).drop (k*5)).take 5).drop 1:=by
  rw [List.drop_take,List.drop_drop];rfl
 rw [this,e,ls l k h];rfl
theorem oP (d v:List Tx) (ons:List (Nat×Bk)) (hn:(d++v).Nodup) (hl:(d++v).length≤16) (ho: ∀ p∈ons,gz (d++v).length p.2) (hw: ∀ p∈ons,pt p.2=true) (hc:ons.length≤1000):
  Spec Tryz.prog 97 (aQ [DG d v (ons.map fun p=> (p.1,ip (d++v) p.2))] []) (aG (.v (.int .i64 0)) []):=by
 obtain ⟨H,hH⟩: ∃ H,H=ons.map fun p=> (p.1,ip (d++v) p.2):=⟨_,rfl⟩
 have hHl:H.length=ons.length:=by rw [hH,List.length_map]
 rw [← hH]
 have hHk: ∀ k (h:k < ons.length),jW H k=((ons[k]).1,ip (d++v) (ons[k]).2):=fun k h=> by rw [hH];exact sJ ons _ k h
 clear hH
 refine Spec.ofN Tryz.func97 rfl Tryz.ntmps97 rfl ?_
 refine go 4 ?_
 refine ax fun K2 hK2=> ?_
 refine aH (bF rfl (aj (aN ?_)))
 refine aX (α:=Nat) (fun k=> k≤H.length) 43 [(1,_)] [((1,0),_)] (fun k=> [(3, .v (.int .i64 (k:Int)))]) (fun k=> []) [] [] (fun k=> H.length - k) 0 ?_ (kj [0] [] []) ?_
 ·omega
 intro k hk
 refine ax fun K4 hK4=> ?_
 refine go 7 ?_
 refine aD rfl (fun hc11=> ?_) (fun hc11=> ?_)
 ·have hk2:k < ons.length:=by omega
  obtain ⟨b,hb⟩: ∃ b,b=(ons[k]).2:=⟨_,rfl⟩
  have hkH:=hHk k hk2
  rw [← hb] at hkH
  have hwb:=DF (d++v) b (hb ▸ hw _ (List.getElem_mem hk2))
  obtain ⟨hnb,hng⟩:=zm hl b (hb ▸ ho _ (List.getElem_mem hk2)) [] GN.nil
  have hbody:=sS H k ab
  rw [hkH] at hbody
  generalize Ci (d++v) b []=M at hnb hng
  have hMl:=hng.len
  refine aU (hK4 _ ?_)
  refine ax fun K6 hK6=> ?_
  refine go 5 ?_
  refine ai (aL _ _ aa rfl rfl _ rfl ab (by (simp only [aM,aW,aV,bj,bl,bk,ba,List.length_map];omega)) ag) ?_
  refine ai (dI _ aa rfl rfl) (ai (bu _ aa rfl (by exact hbody) rfl) ?_)
  refine ai (au aa al (hwb) rfl rfl) ?_
  refine go 9 ?_
  refine aA ?_
  refine az (σ':=ap 43 [(1,_),(3,_)] [((1,0),_)] [] []) kp ?_
  refine go 4 ?_
  refine ai (aL _ _ aa rfl rfl _ rfl ab (by (simp only [aM,aW,aV,bj,bl,bk,ba,List.length_map];omega)) ag) ?_
  refine ai (dI _ aa rfl rfl) (ai (bu _ aa rfl (by exact hbody) rfl) ?_)
  refine ai (au aa al (hnb) rfl rfl) ?_
  refine go 6 ?_
  refine aX (α:=Nat) (fun q=> q≤M.length) 43 [(1,_),(3,_),(5,_)] [((1,0),_)] (fun q=> [(6, .v (.int .i64 (q:Int)))]) (fun q=> []) [] [] (fun q=> M.length - q) 0 ?_ (kj [0] [] []) ?_
  ·omega
  intro q hq
  refine ax fun K12 hK12=> ?_
  refine go 6 ?_
  refine aD rfl (fun hc33=> ?_) (fun hc33=> ?_)
  ·obtain ⟨i,hi,hiq⟩: ∃ i,i < (d++v).length∧M.getD q []=(d++v).getD i []:=by
    have hm:=hng.2 _ (jo (show q < M.length by omega))
    obtain ⟨i,hi,he⟩:=List.getElem_of_mem hm
    exact ⟨i,hi,by rw [List.getD_eq_getElem?_getD (l:=d++v),List.getElem?_eq_getElem hi,← he];rfl⟩
   have hix:=lC d v (jr H) H.length hn ab i hi
   rw [← hiq] at hix
   refine aU (hK12 _ ?_)
   refine aA (aN (aA ?_))
   refine az (σ':=ap 43 [(1,_),(3,_),(5,_),(6,_)] [((1,0),_)] [] []) kp ?_
   refine dA 7 [] ?_
   refine go 6 ?_
   refine aJ (_,[]) (fun τ=> aL _ _ aa rfl rfl _ rfl ab (by (simp only [aM,aW,aV,bj,bl,bk,ba,List.length_map];omega)) (by exact Nat.mul_one _)) ?_
   refine go 1 ?_
   refine aJ (_,[]) (fun τ=> bh _ aa rfl (by exact ew _ _ ab) rfl) ?_
   refine go 1 ?_
   refine aJ (_,[]) (fun τ=> (au aa al (hix) rfl rfl)) ?_
   refine go 1 ?_
   refine aJ (_,[]) (fun τ=> dg (r:=false) _ _ rfl rfl (decide_eq_false ab)) ?_
   refine go 9 ?_
   refine am (⟨q+1,?_,?_,?_⟩)
   ·omega
   ·exact kj [0] [] []
   omega
  refine bm (id (hK6 _ ?_))
  refine go 4 ?_
  refine am (⟨k+1,?_,?_,?_⟩)
  ·omega
  ·exact kj [0] [] []
  omega
 refine bm (id (hK2 _ ?_))
 exact aH (bF rfl (aj (aq (eu rfl rfl))))
end Go.Proofs.YtmjnackchaahbaaGreat

set_option maxHeartbeats 2000000
namespace Go.Proofs.YtmjnackchaahbaaGreat
open Go.RowKit

theorem lT (C:List bq):((inl C).drop 0).take (C.length*2)=inl C:=List.take_of_length_le (by rw [List.drop_zero,bo];exact Nat.le_refl _)
theorem kA (C:List bq):0+C.length*2≤(inl C).length:=by rw [bo,Nat.zero_add];exact Nat.le_refl _
theorem yd (l:List Tx) (n:Nat) (hn:l.length=n) (h1:n≤1000) (hd:l.Nodup) (i:Nat) (hi:i < n):Spec Tryz.prog 122 (aQ [.sl n (dh l), .v (bt (l.getD i []))] []) (aG (.v (.int .i64 (i:Int))) []):=by
 refine Spec.ofN Tryz.func122 rfl Tryz.ntmps122 rfl ?_
 refine go 8 ?_
 refine aX (α:=Nat) (fun k=> k≤n∧k≤i) 19 [(0,_),(1,_)] [] (fun k=> [(5, .v (.int .i64 (k:Int)))]) (fun k=> []) [] [] (fun k=> n - k) 0 ?_ (kj [] [] []) ?_
 ·exact ⟨Nat.zero_le _,Nat.zero_le _⟩
 intro k hk
 obtain ⟨hk,hki⟩:=hk
 refine ax fun K4 hK4=> ?_
 refine go 6 ?_
 refine aD rfl (fun hc9=> ?_) (fun hc9=> ?_)
 ·refine aU (hK4 _ ?_)
  refine aA (aN (aH (jV rfl (bE rfl (ai (aL _ _ aa rfl rfl _ rfl ab (by (simp only [aM,aW,aV,bj,bl,bk,ba,bo];omega)) (by exact Nat.mul_one _)) ?_)))))
  refine ai (bh _ aa rfl (by exact ew _ _ ab) rfl) ?_
  refine so rfl (ai (bJ _ _ Tryz.underlying9 rfl rfl rfl) (aj (aD rfl (fun hc17=> ?_) (fun hc17=> ?_))))
  ·have he:k=i:=jH hd ab ab hc17
   refine aH (bE rfl (bF rfl (aj (aq (oB rfl rfl ?_)))))
   rw [he]
  have he:k≠i:=fun e=> hc17 (by rw [e])
  refine go 5 ?_
  refine am (⟨k+1,?_,?_,?_⟩)
  ·exact ⟨by omega,by omega⟩
  ·exact kj [] [] []
  omega
 exact absurd hki ab
theorem nW:Spec Tryz.prog 123 (aQ [] []) (aG (.sl 9 (dh bltT)) []):=by
 refine Spec.ofN Tryz.func123 rfl Tryz.ntmps123 rfl ?_
 refine aH (ai (bg _ fg) (go 5 ?_))
 exact aq (tY rfl rfl)
theorem zC:Spec Tryz.prog 126 (aQ [.v (bt [43])] []) (aG (.sl (Bo.add).code.length (inl (Bo.add).code)) []):=by
 refine Spec.ofN Tryz.func126 rfl Tryz.ntmps126 rfl ?_
 refine aH (ai (bg _ fg) (go 16 ?_))
 exact aq (tY rfl rfl)
theorem Ax:Spec Tryz.prog 126 (aQ [.v (bt [45])] []) (aG (.sl (Bo.sub).code.length (inl (Bo.sub).code)) []):=by
 refine Spec.ofN Tryz.func126 rfl Tryz.ntmps126 rfl ?_
 refine aH (ai (bg _ fg) (go 21 ?_))
 exact aq (tY rfl rfl)
theorem yM:Spec Tryz.prog 126 (aQ [.v (bt [42])] []) (aG (.sl (Bo.mul).code.length (inl (Bo.mul).code)) []):=by
 refine Spec.ofN Tryz.func126 rfl Tryz.ntmps126 rfl ?_
 refine aH (ai (bg _ fg) (go 26 ?_))
 exact aq (tY rfl rfl)
theorem BH:Spec Tryz.prog 126 (aQ [.v (bt [47])] []) (aG (.sl (Bo.div).code.length (inl (Bo.div).code)) []):=by
 refine Spec.ofN Tryz.func126 rfl Tryz.ntmps126 rfl ?_
 refine aH (ai (bg _ fg) (go 31 ?_))
 exact aq (tY rfl rfl)
theorem Ff:Spec Tryz.prog 126 (aQ [.v (bt [60])] []) (aG (.sl (Bo.lt).code.length (inl (Bo.lt).code)) []):=by
 refine Spec.ofN Tryz.func126 rfl Tryz.ntmps126 rfl ?_
 refine aH (ai (bg _ fg) (go 36 ?_))
 exact aq (tY rfl rfl)
theorem Dv:Spec Tryz.prog 126 (aQ [.v (bt [60,61])] []) (aG (.sl (Bo.le).code.length (inl (Bo.le).code)) []):=by
 refine Spec.ofN Tryz.func126 rfl Tryz.ntmps126 rfl ?_
 refine aH (ai (bg _ fg) (go 41 ?_))
 exact aq (tY rfl rfl)
theorem EM:Spec Tryz.prog 126 (aQ [.v (bt [61,61])] []) (aG (.sl (Bo.eq).code.length (inl (Bo.eq).code)) []):=by
 refine Spec.ofN Tryz.func126 rfl Tryz.ntmps126 rfl ?_
 refine aH (ai (bg _ fg) (go 41 ?_))
 refine aA ?_
 refine az (σ':=ap 45 [] [] [] []) kp ?_
 refine go 5 ?_
 exact aq (tY rfl rfl)
theorem CH:Spec Tryz.prog 126 (aQ [.v (bt [62])] []) (aG (.sl (Bo.gt).code.length (inl (Bo.gt).code)) []):=by
 refine Spec.ofN Tryz.func126 rfl Tryz.ntmps126 rfl ?_
 refine aH (ai (bg _ fg) (go 41 ?_))
 refine aA ?_
 refine az (σ':=ap 45 [(3,_)] [] [] []) kp ?_
 refine go 11 ?_
 exact aq (tY rfl rfl)
theorem EX:Spec Tryz.prog 126 (aQ [.v (bt [62,61])] []) (aG (.sl (Bo.ge).code.length (inl (Bo.ge).code)) []):=by
 refine Spec.ofN Tryz.func126 rfl Tryz.ntmps126 rfl ?_
 refine aH (ai (bg _ fg) (go 41 ?_))
 refine aA ?_
 refine az (σ':=ap 45 [(3,_)] [] [] []) kp ?_
 refine go 16 ?_
 exact aq (tY rfl rfl)
theorem Cr:Spec Tryz.prog 126 (aQ [.v (bt [33,61])] []) (aG (.sl (Bo.ne).code.length (inl (Bo.ne).code)) []):=by
 refine Spec.ofN Tryz.func126 rfl Tryz.ntmps126 rfl ?_
 refine aH (ai (bg _ fg) (go 41 ?_))
 refine aA ?_
 refine az (σ':=ap 45 [(3,_)] [] [] []) kp ?_
 refine go 17 ?_
 exact aq (tY rfl rfl)
theorem yj (o:Bo):Spec Tryz.prog 126 (aQ [.v (bt o.txt)] []) (aG (.sl o.code.length (inl o.code)) []):=by
 cases o
 ·exact zC
 ·exact Ax
 ·exact yM
 ·exact BH
 ·exact Ff
 ·exact Dv
 ·exact EM
 ·exact CH
 ·exact EX
 exact Cr

abbrev Cd:=Nat→List bq
abbrev CoS (u:AV) (d:Nd) (c:Cd):Prop:= ∀ a,a+(c a).length≤1000000→Spec Tryz.prog 91 (aQ [u,dJ d, .v (.int .i64 (a:Int))] []) (aG (.ref (0,8) 0 (c a).length) [((0,8), .row 48 2 (inl (c a)))])
def bI:List Cd→Nat→List bq
 | [],_=> []
 | c::cs,a=> c a++bI cs (a+(c a).length)
theorem px: ∀ (l m:List Cd) (a:Nat),bI (l++m) a=bI l a++bI m (a+(bI l a).length)
 | [],m,a=> by simp [bI]
 | c::l,m,a=> by simp only [List.cons_append,bI,px l m,List.append_assoc,List.length_append,Nat.add_assoc]
theorem re {cs:List Cd} {j a:Nat} (h:j < cs.length):bI (cs.take (j+1)) a=bI (cs.take j) a++(cs.getD j fun _=> []) (a+(bI (cs.take j) a).length):=by
 rw [List.take_succ_eq_append_getElem h,px]
 simp [bI,h]
theorem kK {cs:List Cd} {j a:Nat}:(bI (cs.take j) a).length≤(bI cs a).length:=by
 conv=> rhs;rw [← List.take_append_drop j cs,px]
 rw [List.length_append];omega
abbrev lG (u:AV) (L:List Nd) (cs:List Cd):Prop:= ∀ j,j < L.length→CoS u (jf L j) (cs.getD j fun _=> [])
theorem Ej {u:AV}:lG u [] []:=fun j hj=> by simp at hj
theorem xH {u:AV} {d:Nd} {c:Cd} {L:List Nd} {cs:List Cd} (h:CoS u d c) (h':lG u L cs):lG u (d::L) (c::cs):=fun j hj=> by
 cases j with
 | zero=> exact h
 | succ j=> exact h' j (by simpa using hj)
section
variable {d v:List Tx} {no:Nat} {on:List PV}
abbrev uu (d v:List Tx) (no:Nat) (on:List PV):AV:= .agg [.sl d.length (dh d), .sl v.length (dh v), .sl no on]
theorem cP (L:List Nd) (cs:List Cd) (hc:cs.length=L.length) (hk:lG (uu d v no on) L cs) (a:Nat) (ha:a+(bI cs a).length≤1000000):
  Spec Tryz.prog 125 (aQ [uu d v no on, .sl L.length (iU L), .v (.int .i64 (a:Int))] []) (aG (.ref (0,8) 0 (bI cs a).length) [((0,8), .row 48 2 (inl (bI cs a)))]):=by
 refine Spec.ofN Tryz.func125 rfl Tryz.ntmps125 rfl ?_
 refine aA ?_
 refine GW 1 rfl rfl fun hlen=> ?_
 unfold maxLen at hlen
 refine an (ai (ed (3,0) _ rfl rfl) (ai (bg _ fg) (aj (aH (ai (pN (7,0) _ 48 2 rfl rfl) ?_)))))
 refine aj (ax fun K3 hK3=> ?_)
 refine aH (bF rfl (aj (aN ?_)))
 refine aX (α:=Nat) (fun j=> j≤L.length) 28 [(1,_),(2,_),(3,_)] [((3,0),_)] (fun j=> [(8, .v (.int .i64 (j:Int))),(7, .ref (7,0) 0 (bI (cs.take j) a).length)]) (fun j=> [((7,0), .row 48 2 (inl (bI (cs.take j) a)))]) [] [] (fun j=> L.length - j) 0 ?_ (kj [0,2] [] []) ?_
 ·omega
 intro j hj
 have htk:(bI (cs.take j) a).length≤(bI cs a).length:=kK
 refine ax fun K5 hK5=> ?_
 refine go 6 ?_
 refine aD rfl (fun hc12=> ?_) (fun hc12=> ?_)
 ·have hs:=re (cs:=cs) (j:=j) (a:=a) ab
  have htk1:(bI (cs.take (j+1)) a).length≤(bI cs a).length:=kK
  have hsl:=congrArg List.length hs
  rw [List.length_append] at hsl
  have hcj:=hk j ab (a+(bI (cs.take j) a).length) ab
  generalize (cs.getD j fun _=> []) (a+(bI (cs.take j) a).length)=C at hs hsl hcj
  refine aU (hK5 _ ?_)
  refine aA (aN ?_)
  refine az (σ':=ap 28 [(1,_),(2,_),(3,_),(7,_),(8,_)] [((3,0),_),((7,0),_)] [] []) kp ?_
  refine dA 11 [(50,0)] ?_
  refine go 8 ?_
  refine aJ (_,[]) (fun τ=> aL _ _ aa rfl rfl _ rfl ab (by (simp only [aM,aW,aV,bj,bl,bk,ba,bo];omega)) ag) ?_
  refine go 1 ?_
  refine aJ (_,[]) (fun τ=> bu _ aa rfl (by exact bG _ _ ab) rfl) ?_
  refine go 9 ?_
  refine aJ (_,[((50,0),_)]) (fun τ=> (db aa [((0,8),(50,0))] ar (hcj.toI) trivial tr tr rfl rfl ae ae)) ?_
  refine go 1 ?_
  refine cD ⟨rfl,?_⟩
  refine ai (cG (26,0) _ _ aa rfl rfl (bo _).symm (.ref rfl (lT _) (kA _)) ab rfl (kP _ _) hsl.symm) ?_
  refine go 6 ?_
  refine am (⟨j+1,?_,?_,?_⟩)
  ·omega
  ·refine Le.mkJ [((7,0),(26,0))] [] rfl ?_ ?_ trivial trivial ?_
   ·exact ⟨(by repeat' (exact Lv.sl)),(by repeat' (exact Lv.v)),(di (id:=(3,0)) rfl),(eN ag),(eH rfl ag),trivial⟩
   ·exact ⟨(iq rfl rfl rfl rfl (by repeat' (first | exact Lv.sl | exact bz | refine aB ?_ ?_))),(im rfl rfl rfl (by (rw [hs]))),trivial⟩
   kernel_rfl
  omega
 obtain rfl:j=cs.length:=by omega
 rw [List.take_length]
 refine bm (id (hK3 _ ?_))
 exact aH (sR rfl (gF rfl (aj (aq (nF [((0,8),(7,0))])))))
theorem oG (N:Nd) (c:Cd) (h:CoS (uu d v no on) N c) (n:Int) (a:Nat) (ha:a+(c a).length≤1000000):
  Spec Tryz.prog 187 (aQ [uu d v no on, .sl 1 (iU [N]), .v (.int .i64 n), .v (.int .i64 (a:Int))] []) (aG (.ref (0,8) 0 (c a).length) [((0,8), .row 48 2 (inl (c a)))]):=by
 have hc:=h a ha
 refine Spec.ofN Tryz.func187 rfl Tryz.ntmps187 rfl ?_
 refine aH (ai (ed (4,0) _ rfl rfl) (ai (bg _ fg) (go 8 ?_)))
 refine aA ?_
 refine az (σ':=ap 21 [(1,_),(3,_),(4,_)] [((4,0),_)] [] []) kp ?_
 refine dA 5 [] ?_
 refine go 4 ?_
 refine aJ (_,[]) (fun τ=> aL _ _ aa rfl rfl 0 rfl ab (by simp [iU,Nd.row]) rfl) ?_
 refine go 1 ?_
 refine aJ (_,[]) (fun τ=> bu _ aa rfl (by exact bG [N] 0 (by simp)) rfl) ?_
 refine go 4 ?_
 refine ai (cJ aa [((0,8),(50,0))] ar (hc.toI) trivial tr ae) ?_
 exact gF rfl (aj (aq (nF [((0,8),(50,0))])))
theorem tZ (n:Int) (a:Nat):
  Spec Tryz.prog 187 (aQ [uu d v no on, .sl 0 [], .v (.int .i64 n), .v (.int .i64 (a:Int))] []) (aG (.ref (0,8) 0 1) [((0,8), .row 48 2 (inl [{ op:= .push,n:=n }]))]):=by
 refine Spec.ofN Tryz.func187 rfl Tryz.ntmps187 rfl ?_
 refine aH (ai (ed (4,0) _ rfl rfl) (ai (bg _ fg) (go 12 ?_)))
 refine ai (jQ (20,0) _ _ aa rfl ag (by (simp <;> rfl)) ah rfl rfl) ?_
 exact gF rfl (aj (aq (nF [((0,8),(20,0))])))
def pu (c y z:Cd) (a:Nat):List bq:=
 c a++[{ op:= .unl,n:=((a+(c a).length+1+(y (a+(c a).length+1)).length+1:Nat):Int) }]++y (a+(c a).length+1)++
  [{ op:= .jump,n:=((a+(c a).length+1+(y (a+(c a).length+1)).length+1+(z (a+(c a).length+1+(y (a+(c a).length+1)).length+1)).length:Nat):Int) }]++z (a+(c a).length+1+(y (a+(c a).length+1)).length+1)
abbrev LL (u:AV) (l:AV) (n:Int) (c:Cd):Prop:= ∀ a,a+(c a).length≤1000000→Spec Tryz.prog 187 (aQ [u,l, .v (.int .i64 n), .v (.int .i64 (a:Int))] []) (aG (.ref (0,8) 0 (c a).length) [((0,8), .row 48 2 (inl (c a)))])
theorem ku (N:Nd) (c y z:Cd) (hc:CoS (uu d v no on) N c) (ly lz:Nat) (ys zs:List PV) (n:Int) (hy:LL (uu d v no on) (.sl ly ys) n y) (hz:LL (uu d v no on) (.sl lz zs) n z) (a:Nat) (ha:a+(pu c y z a).length≤1000000):
  Spec Tryz.prog 124 (aQ [uu d v no on,dJ N, .sl ly ys, .sl lz zs, .v (.int .i64 n), .v (.int .i64 (a:Int))] []) (aG (.ref (0,8) 0 (pu c y z a).length) [((0,8), .row 48 2 (inl (pu c y z a)))]):=by
 have hb: ∃ b,b=pu c y z a:=⟨_,rfl⟩
 obtain ⟨b,hb⟩:=hb
 rw [← hb] at ha ⊢
 unfold pu at hb
 have hbl:=congrArg List.length hb
 simp only [List.length_append,List.length_cons,List.length_nil] at hbl
 have h1:=hc a ab
 generalize c a=C at h1 hb hbl
 have h2:=hy (a+C.length+1) ab
 generalize y (a+C.length+1)=Y at h2 hb hbl
 obtain ⟨f,hf⟩: ∃ f,f=a+C.length+1+Y.length+1:=⟨_,rfl⟩
 rw [← hf] at hb hbl
 have h3:=hz f ab
 generalize z f=Z at h3 hb hbl
 refine Spec.ofN Tryz.func124 rfl Tryz.ntmps124 rfl ?_
 refine go 3 ?_
 refine ai (bg _ fg) (go 5 ?_)
 refine ai (cJ aa [((0,8),(50,0))] ar (h1.toI) trivial tr ae) ?_
 refine gF rfl (aj (ax fun K3 hK3=> ?_))
 refine go 9 ?_
 refine ai (cJ aa [((0,8),(51,0))] ar (h2.toI) trivial tr ae) ?_
 refine gF rfl (am (hK3 _ ?_))
 refine aA ?_
 refine az (σ':=ap 63 [(3,_),(4,_),(5,_),(6,_),(13,_),(14,_)] [((6,0),_),((50,0),_),((51,0),_)] [] []) kp ?_
 refine go 9 ?_
 refine ai (dL (r:=(f:Int)) _ _ rfl rfl ((bT ab).trans ab)) ?_
 refine bF rfl (aj (ax fun K5 hK5=> ?_))
 refine go 5 ?_
 refine ai (cJ aa [((0,8),(52,0))] ar (h3.toI) trivial tr ae) ?_
 refine gF rfl (am (hK5 _ ?_))
 refine aA ?_
 refine az (σ':=ap 63 [(13,_),(14,_),(15,_),(16,_)] [((50,0),_),((51,0),_),((52,0),_)] [] []) kp ?_
 refine go 5 ?_
 refine ai (cG (48,0) _ _ aa rfl rfl (bo _).symm (.sl rfl) ab rfl (dU _ { op:= .unl,n:=f }) (show C.length+1=(C++[({ op:= .unl,n:=f }:bq)]).length by simp)) ?_
 refine go 5 ?_
 refine ai (cG (51,1) _ _ aa rfl rfl (bo _).symm (.ref rfl (lT _) (kA _)) (by simp;omega) rfl (kP _ _) (show (C++[({ op:= .unl,n:=f }:bq)]).length+Y.length=(C++[({ op:= .unl,n:=f }:bq)]++Y).length by simp;omega)) ?_
 refine go 10 ?_
 refine ai (cG (59,0) _ _ aa rfl rfl (bo _).symm (.sl rfl) (by simp;omega) rfl (dU _ { op:= .jump,n:=((f+Z.length:Nat):Int) }) (show (C++[({ op:= .unl,n:=f }:bq)]++Y).length+1=(C++[({ op:= .unl,n:=f }:bq)]++Y++[({ op:= .jump,n:=((f+Z.length:Nat):Int) }:bq)]).length by simp;omega)) ?_
 refine gF rfl (aj (aA ?_))
 refine az (σ':=ap 63 [(13,_),(16,_)] [((52,0),_),((59,0),_)] [] []) kp ?_
 refine an (sR rfl (sR rfl (ai (cG (62,0) _ _ aa rfl rfl (bo _).symm (.ref rfl (lT _) (kA _)) (by simp;omega) rfl ((kP _ _).trans (congrArg inl hb.symm)) (show _+Z.length=b.length by simp;omega)) ?_)))
 exact gF rfl (aj (aq (nF [((0,8),(62,0))])))
end
end Go.Proofs.YtmjnackchaahbaaGreat

set_option maxHeartbeats 2000000
namespace Go.Proofs.YtmjnackchaahbaaGreat
open Go.RowKit

section
variable {d v:List Tx} {no:Nat} {on:List PV}
theorem GQ (n:Nat):CoS (uu d v no on) (nd 12 n [] []) (fun _=> [{ op:= .push,n:=(n:Int) }]):=fun a ha=> by
 refine Spec.ofN Tryz.func91 rfl Tryz.ntmps91 rfl ?_
 refine go 3 ?_
 refine ai (bg _ fg) (go 19 ?_)
 refine ai (jQ (19,0) _ _ aa rfl ag (by (simp <;> rfl)) ah rfl rfl) ?_
 exact gF rfl (aj (aq (nF [((0,8),(19,0))])))
theorem wk (n:Nat):CoS (uu d v no on) (nd 13 n [] []) (fun _=> [{ op:= .push,n:=(n:Int) }]):=fun a ha=> by
 refine Spec.ofN Tryz.func91 rfl Tryz.ntmps91 rfl ?_
 refine go 3 ?_
 refine ai (bg _ fg) (go 22 ?_)
 refine ai (jQ (19,0) _ _ aa rfl ag (by (simp <;> rfl)) ah rfl rfl) ?_
 exact gF rfl (aj (aq (nF [((0,8),(19,0))])))
theorem FR (hn:(d++v).Nodup) (hl:(d++v).length≤1000) (i:Nat) (hi:i < (d++v).length):CoS (uu d v no on) (nd 14 0 ((d++v).getD i []) []) (fun _=> [{ op:= .var,n:=(i:Int) }]):=fun a ha=> by
 refine Spec.ofN Tryz.func91 rfl Tryz.ntmps91 rfl ?_
 refine go 3 ?_
 refine ai (bg _ fg) (go 27 ?_)
 refine ai (au aa al (lC d v on no hn hl i hi) rfl rfl) ?_
 refine go 1 ?_
 refine ai (jQ (27,0) _ _ aa rfl ag (by (simp <;> rfl)) ah rfl rfl) ?_
 exact gF rfl (aj (aq (nF [((0,8),(27,0))])))
theorem Dt (k:Nat) (hk:k < 9):CoS (uu d v no on) (nd 15 0 (bltT.getD k []) []) (fun _=> [{ op:= .name,n:=(k:Int) }]):=fun a ha=> by
 refine Spec.ofN Tryz.func91 rfl Tryz.ntmps91 rfl ?_
 refine go 3 ?_
 refine ai (bg _ fg) (go 28 ?_)
 refine aA ?_
 refine az (σ':=ap 211 [(4,_)] [((4,0),_)] [] []) kp ?_
 refine dA 6 [(35,0)] ?_
 refine aJ (_,[]) (fun τ=> (au aa (by repeat' (exact cL)) (nW) rfl rfl)) ?_
 refine go 5 ?_
 refine aJ (_,[]) (fun τ=> (au aa al (yd bltT 9 rfl ab ah k hk) rfl rfl)) ?_
 refine go 3 ?_
 refine aJ (_,[((35,0),_)]) (fun τ=> jQ (35,0) _ _ aa rfl ag (by (simp <;> rfl)) ah rfl rfl) ?_
 refine go 4 ?_
 exact aq (nF [((0,8),(35,0))])
theorem zR (n:Nat):CoS (uu d v no on) (nd 5 n [] []) (fun _=> [{ op:= .timer,n:=(n:Int) }]):=fun a ha=> by
 refine Spec.ofN Tryz.func91 rfl Tryz.ntmps91 rfl ?_
 refine go 3 ?_
 refine ai (bg _ fg) (go 33 ?_)
 refine aA ?_
 refine az (σ':=ap 211 [(2,_),(3,_),(4,_),(12,_)] [((3,0),_),((4,0),_)] [] []) kp ?_
 refine go 9 ?_
 refine ai (jQ (56,0) _ _ aa rfl ag (by (simp <;> rfl)) ah rfl rfl) ?_
 exact gF rfl (aj (aq (nF [((0,8),(56,0))])))
theorem ye (n:Nat):CoS (uu d v no on) (nd 6 n [] []) (fun _=> [{ op:= .cancel,n:=(n:Int) }]):=fun a ha=> by
 refine Spec.ofN Tryz.func91 rfl Tryz.ntmps91 rfl ?_
 refine go 3 ?_
 refine ai (bg _ fg) (go 33 ?_)
 refine aA ?_
 refine az (σ':=ap 211 [(2,_),(3,_),(4,_),(12,_)] [((3,0),_),((4,0),_)] [] []) kp ?_
 refine go 14 ?_
 refine ai (jQ (62,0) _ _ aa rfl ag (by (simp <;> rfl)) ah rfl rfl) ?_
 exact gF rfl (aj (aq (nF [((0,8),(62,0))])))
theorem co_sync:CoS (uu d v no on) (nd 7 0 [] []) (fun _=> [{ op:= .sync }]):=fun a ha=> by
 refine Spec.ofN Tryz.func91 rfl Tryz.ntmps91 rfl ?_
 refine go 3 ?_
 refine ai (bg _ fg) (go 33 ?_)
 refine aA ?_
 refine az (σ':=ap 211 [(2,_),(3,_),(4,_),(12,_)] [((3,0),_),((4,0),_)] [] []) kp ?_
 refine go 17 ?_
 refine ai (jQ (66,0) _ _ aa rfl ag (by (simp <;> rfl)) ah rfl rfl) ?_
 exact gF rfl (aj (aq (nF [((0,8),(66,0))])))
theorem co_stop:CoS (uu d v no on) (nd 10 0 [] []) (fun _=> [{ op:= .stop }]):=fun a ha=> by
 refine Spec.ofN Tryz.func91 rfl Tryz.ntmps91 rfl ?_
 refine go 3 ?_
 refine ai (bg _ fg) (go 33 ?_)
 refine aA ?_
 refine az (σ':=ap 211 [(2,_),(3,_),(4,_),(12,_)] [((3,0),_),((4,0),_)] [] []) kp ?_
 refine go 22 ?_
 refine ai (jQ (70,0) _ _ aa rfl ag (by (simp <;> rfl)) ah rfl rfl) ?_
 exact gF rfl (aj (aq (nF [((0,8),(70,0))])))
theorem Hg {c y z:Nd} {cc cy cz:Cd} (hc:CoS (uu d v no on) c cc) (hy:CoS (uu d v no on) y cy) (hz:CoS (uu d v no on) z cz):CoS (uu d v no on) (nd 2 0 [] [c,y,z]) (pu cc cy cz):=fun a ha=> by
 have hb:=ku (on:=on) c cc cy cz hc 1 1 (iU [y]) (iU [z]) 0 (fun a ha=> oG y cy hy 0 a ha) (fun a ha=> oG z cz hz 0 a ha) a ha
 refine Spec.ofN Tryz.func91 rfl Tryz.ntmps91 rfl ?_
 refine go 3 ?_
 refine ai (bg _ fg) (go 33 ?_)
 refine aA ?_
 refine az (σ':=ap 211 [(2,_),(3,_),(4,_)] [((3,0),_),((4,0),_)] [] []) kp ?_
 refine dA 12 [] ?_
 refine go 6 ?_
 refine aJ (_,[]) (fun τ=> aL _ _ aa rfl rfl 0 rfl (show 0 < 3 by omega) (Nat.le_of_ble_eq_true rfl) rfl) ?_
 refine go 1 ?_
 refine aJ (_,[]) (fun τ=> bu _ aa rfl (by exact bG [c,y,z] 0 (by simp)) rfl) ?_
 refine go 5 ?_
 refine aJ (_,[]) (fun τ=> lI _ _ _ aa rfl 1 2 (.lit rfl rfl) (.lit rfl rfl) ab (show 2≤3 by omega) (show _=iU [y] from rfl) rfl) ?_
 refine go 5 ?_
 refine aJ (_,[]) (fun τ=> lI _ _ _ aa rfl 2 3 (.lit rfl rfl) (.lit rfl rfl) ab (show 3≤3 by omega) (show _=iU [z] from rfl) rfl) ?_
 refine go 4 ?_
 refine ai (cJ aa [((0,8),(50,0))] ar (hb.toI) trivial tr ae) ?_
 exact gF rfl (aj (aq (nF [((0,8),(50,0))])))
theorem GP {c y:Nd} {cc cy:Cd} (hc:CoS (uu d v no on) c cc) (hy:CoS (uu d v no on) y cy):CoS (uu d v no on) (nd 18 0 [38,38] [c,y]) (pu cc cy (fun _=> [{ op:= .push,n:=0 }])):=fun a ha=> by
 have hb:=ku (on:=on) c cc cy (fun _=> [{ op:= .push,n:=0 }]) hc 1 0 (iU [y]) [] 0 (fun a ha=> oG y cy hy 0 a ha) (fun a _=> tZ 0 a) a ha
 refine Spec.ofN Tryz.func91 rfl Tryz.ntmps91 rfl ?_
 refine go 3 ?_
 refine ai (bg _ fg) (go 33 ?_)
 refine aA ?_
 refine az (σ':=ap 211 [(2,_),(3,_),(4,_),(12,_)] [((3,0),_),((4,0),_)] [] []) kp ?_
 refine go 38 ?_
 refine aA ?_
 refine az (σ':=ap 211 [(2,_),(3,_),(4,_)] [((3,0),_),((4,0),_)] [] []) kp ?_
 refine dA 9 [] ?_
 refine go 6 ?_
 refine aJ (_,[]) (fun τ=> aL _ _ aa rfl rfl 0 rfl (show 0 < 2 by omega) (Nat.le_of_ble_eq_true rfl) rfl) ?_
 refine go 1 ?_
 refine aJ (_,[]) (fun τ=> bu _ aa rfl (by exact bG [c,y] 0 (by simp)) rfl) ?_
 refine go 5 ?_
 refine aJ (_,[]) (fun τ=> lI _ _ _ aa rfl 1 2 (.lit rfl rfl) (.lit rfl rfl) ab (show 2≤2 by omega) (show _=iU [y] from rfl) rfl) ?_
 refine go 4 ?_
 refine ai (cJ aa [((0,8),(50,0))] ar (hb.toI) trivial tr ae) ?_
 exact gF rfl (aj (aq (nF [((0,8),(50,0))])))
theorem Is {c y:Nd} {cc cy:Cd} (hc:CoS (uu d v no on) c cc) (hy:CoS (uu d v no on) y cy):CoS (uu d v no on) (nd 18 0 [124,124] [c,y]) (pu cc (fun _=> [{ op:= .push,n:=1 }]) cy):=fun a ha=> by
 have hb:=ku (on:=on) c cc (fun _=> [{ op:= .push,n:=1 }]) cy hc 0 1 [] (iU [y]) 1 (fun a _=> tZ 1 a) (fun a ha=> oG y cy hy 1 a ha) a ha
 refine Spec.ofN Tryz.func91 rfl Tryz.ntmps91 rfl ?_
 refine go 3 ?_
 refine ai (bg _ fg) (go 33 ?_)
 refine aA ?_
 refine az (σ':=ap 211 [(2,_),(3,_),(4,_),(12,_)] [((3,0),_),((4,0),_)] [] []) kp ?_
 refine go 40 ?_
 refine aA ?_
 refine az (σ':=ap 211 [(2,_),(3,_),(4,_)] [((3,0),_),((4,0),_)] [] []) kp ?_
 refine go 11 ?_
 refine aA ?_
 refine az (σ':=ap 211 [(2,_),(3,_),(4,_)] [((3,0),_),((4,0),_)] [] []) kp ?_
 refine dA 9 [] ?_
 refine go 6 ?_
 refine aJ (_,[]) (fun τ=> aL _ _ aa rfl rfl 0 rfl (show 0 < 2 by omega) (Nat.le_of_ble_eq_true rfl) rfl) ?_
 refine go 1 ?_
 refine aJ (_,[]) (fun τ=> bu _ aa rfl (by exact bG [c,y] 0 (by simp)) rfl) ?_
 refine go 5 ?_
 refine aJ (_,[]) (fun τ=> lI _ _ _ aa rfl 1 2 (.lit rfl rfl) (.lit rfl rfl) ab (show 2≤2 by omega) (show _=iU [y] from rfl) rfl) ?_
 refine go 4 ?_
 refine ai (cJ aa [((0,8),(50,0))] ar (hb.toI) trivial tr ae) ?_
 exact gF rfl (aj (aq (nF [((0,8),(50,0))])))
theorem CC {L:List Nd} {cs:List Cd} (hc:cs.length=L.length) (hk:lG (uu d v no on) L cs):CoS (uu d v no on) (nd 16 0 [] L) (fun a=> bI cs a++[{ op:= .draw }]):=fun a ha=> by
 have hl2:a+(bI cs a).length≤1000000:=by simp only [List.length_append] at ha;omega
 have hq:=cP (d:=d) (v:=v) (no:=no) (on:=on) L cs hc hk a hl2
 refine Spec.ofN Tryz.func91 rfl Tryz.ntmps91 rfl ?_
 refine go 3 ?_
 refine ai (bg _ fg) (go 33 ?_)
 refine aA ?_
 refine az (σ':=ap 211 [(2,_),(3,_),(4,_),(12,_)] [((3,0),_),((4,0),_)] [] []) kp ?_
 refine go 40 ?_
 refine aA ?_
 refine az (σ':=ap 211 [(2,_),(3,_),(4,_)] [((3,0),_),((4,0),_)] [] []) kp ?_
 refine go 17 ?_
 refine ai (cJ aa [((0,8),(50,0))] ar (hq.toI) trivial tr ae) ?_
 refine go 8 ?_
 refine aA ?_
 refine az (σ':=ap 211 [(3,_),(4,_),(10,_),(153,_)] [((3,0),_),((4,0),_),((50,0),_)] [] []) kp ?_
 refine go 14 ?_
 refine ai (cG (166,0) _ _ aa rfl rfl (bo _).symm (.sl rfl) ab rfl (dU _ { op:= .draw }) (show (bI cs a).length+1=(bI cs a++[({ op:= .draw }:bq)]).length by simp)) ?_
 exact gF rfl (aj (aq (nF [((0,8),(166,0))])))
theorem GD {L:List Nd} {cs:List Cd} (hc:cs.length=L.length) (hk:lG (uu d v no on) L cs):CoS (uu d v no on) (nd 17 0 [45] L) (fun a=> bI cs a++[{ op:= .neg }]):=fun a ha=> by
 have hl2:a+(bI cs a).length≤1000000:=by simp only [List.length_append] at ha;omega
 have hq:=cP (d:=d) (v:=v) (no:=no) (on:=on) L cs hc hk a hl2
 refine Spec.ofN Tryz.func91 rfl Tryz.ntmps91 rfl ?_
 refine go 3 ?_
 refine ai (bg _ fg) (go 33 ?_)
 refine aA ?_
 refine az (σ':=ap 211 [(2,_),(3,_),(4,_),(12,_)] [((3,0),_),((4,0),_)] [] []) kp ?_
 refine go 40 ?_
 refine aA ?_
 refine az (σ':=ap 211 [(2,_),(3,_),(4,_)] [((3,0),_),((4,0),_)] [] []) kp ?_
 refine go 17 ?_
 refine ai (cJ aa [((0,8),(50,0))] ar (hq.toI) trivial tr ae) ?_
 refine go 8 ?_
 refine aA ?_
 refine az (σ':=ap 211 [(3,_),(4,_),(10,_),(153,_)] [((3,0),_),((4,0),_),((50,0),_)] [] []) kp ?_
 refine go 26 ?_
 refine ai (cG (175,0) _ _ aa rfl rfl (bo _).symm (.sl rfl) ab rfl (dU _ { op:= .neg }) (show (bI cs a).length+1=(bI cs a++[({ op:= .neg }:bq)]).length by simp)) ?_
 exact gF rfl (aj (aq (nF [((0,8),(175,0))])))
theorem GJ {L:List Nd} {cs:List Cd} (hc:cs.length=L.length) (hk:lG (uu d v no on) L cs):CoS (uu d v no on) (nd 17 0 [33] L) (fun a=> bI cs a++[{ op:= .not }]):=fun a ha=> by
 have hl2:a+(bI cs a).length≤1000000:=by simp only [List.length_append] at ha;omega
 have hq:=cP (d:=d) (v:=v) (no:=no) (on:=on) L cs hc hk a hl2
 refine Spec.ofN Tryz.func91 rfl Tryz.ntmps91 rfl ?_
 refine go 3 ?_
 refine ai (bg _ fg) (go 33 ?_)
 refine aA ?_
 refine az (σ':=ap 211 [(2,_),(3,_),(4,_),(12,_)] [((3,0),_),((4,0),_)] [] []) kp ?_
 refine go 40 ?_
 refine aA ?_
 refine az (σ':=ap 211 [(2,_),(3,_),(4,_)] [((3,0),_),((4,0),_)] [] []) kp ?_
 refine go 17 ?_
 refine ai (cJ aa [((0,8),(50,0))] ar (hq.toI) trivial tr ae) ?_
 refine go 8 ?_
 refine aA ?_
 refine az (σ':=ap 211 [(3,_),(4,_),(10,_),(153,_)] [((3,0),_),((4,0),_),((50,0),_)] [] []) kp ?_
 refine go 27 ?_
 refine ai (cG (179,0) _ _ aa rfl rfl (bo _).symm (.sl rfl) ab rfl (dU _ { op:= .not }) (show (bI cs a).length+1=(bI cs a++[({ op:= .not }:bq)]).length by simp)) ?_
 exact gF rfl (aj (aq (nF [((0,8),(179,0))])))
theorem xz {L:List Nd} {cs:List Cd} (hc:cs.length=L.length) (hk:lG (uu d v no on) L cs) (hn:(d++v).Nodup) (hl:(d++v).length≤1000) (i:Nat) (hi:i < (d++v).length):CoS (uu d v no on) (nd 1 0 ((d++v).getD i []) L) (fun a=> bI cs a++[{ op:= .setVar,n:=(i:Int) }]):=fun a ha=> by
 have hl2:a+(bI cs a).length≤1000000:=by simp only [List.length_append] at ha;omega
 have hq:=cP (d:=d) (v:=v) (no:=no) (on:=on) L cs hc hk a hl2
 refine Spec.ofN Tryz.func91 rfl Tryz.ntmps91 rfl ?_
 refine go 3 ?_
 refine ai (bg _ fg) (go 33 ?_)
 refine aA ?_
 refine az (σ':=ap 211 [(2,_),(3,_),(4,_),(12,_)] [((3,0),_),((4,0),_)] [] []) kp ?_
 refine go 40 ?_
 refine aA ?_
 refine az (σ':=ap 211 [(2,_),(3,_),(4,_)] [((3,0),_),((4,0),_)] [] []) kp ?_
 refine go 17 ?_
 refine ai (cJ aa [((0,8),(50,0))] ar (hq.toI) trivial tr ae) ?_
 refine go 8 ?_
 refine aA ?_
 refine az (σ':=ap 211 [(3,_),(4,_),(10,_),(153,_)] [((3,0),_),((4,0),_),((50,0),_)] [] []) kp ?_
 refine go 25 ?_
 refine ai (au aa al (lC d v on no hn hl i hi) rfl rfl) ?_
 refine go 2 ?_
 refine ai (cG (189,0) _ _ aa rfl rfl (bo _).symm (.sl rfl) ab rfl (dU _ { op:= .setVar,n:=(i:Int) }) (show (bI cs a).length+1=(bI cs a++[({ op:= .setVar,n:=(i:Int) }:bq)]).length by simp)) ?_
 exact gF rfl (aj (aq (nF [((0,8),(189,0))])))
theorem Cu {L:List Nd} {cs:List Cd} (hc:cs.length=L.length) (hk:lG (uu d v no on) L cs) (n:Nat):CoS (uu d v no on) (nd 4 n [] L) (fun a=> bI cs a++[{ op:= .send,n:=(n:Int) }]):=fun a ha=> by
 have hl2:a+(bI cs a).length≤1000000:=by simp only [List.length_append] at ha;omega
 have hq:=cP (d:=d) (v:=v) (no:=no) (on:=on) L cs hc hk a hl2
 refine Spec.ofN Tryz.func91 rfl Tryz.ntmps91 rfl ?_
 refine go 3 ?_
 refine ai (bg _ fg) (go 33 ?_)
 refine aA ?_
 refine az (σ':=ap 211 [(2,_),(3,_),(4,_),(12,_)] [((3,0),_),((4,0),_)] [] []) kp ?_
 refine go 40 ?_
 refine aA ?_
 refine az (σ':=ap 211 [(2,_),(3,_),(4,_)] [((3,0),_),((4,0),_)] [] []) kp ?_
 refine go 17 ?_
 refine ai (cJ aa [((0,8),(50,0))] ar (hq.toI) trivial tr ae) ?_
 refine go 8 ?_
 refine aA ?_
 refine az (σ':=ap 211 [(3,_),(4,_),(10,_),(153,_)] [((3,0),_),((4,0),_),((50,0),_)] [] []) kp ?_
 refine go 31 ?_
 refine ai (cG (197,0) _ _ aa rfl rfl (bo _).symm (.sl rfl) ab rfl (dU _ { op:= .send,n:=(n:Int) }) (show (bI cs a).length+1=(bI cs a++[({ op:= .send,n:=(n:Int) }:bq)]).length by simp)) ?_
 exact gF rfl (aj (aq (nF [((0,8),(197,0))])))
theorem yX {L:List Nd} {cs:List Cd} (hc:cs.length=L.length) (hk:lG (uu d v no on) L cs):CoS (uu d v no on) (nd 8 0 [] L) (fun a=> bI cs a++[{ op:= .reply }]):=fun a ha=> by
 have hl2:a+(bI cs a).length≤1000000:=by simp only [List.length_append] at ha;omega
 have hq:=cP (d:=d) (v:=v) (no:=no) (on:=on) L cs hc hk a hl2
 refine Spec.ofN Tryz.func91 rfl Tryz.ntmps91 rfl ?_
 refine go 3 ?_
 refine ai (bg _ fg) (go 33 ?_)
 refine aA ?_
 refine az (σ':=ap 211 [(2,_),(3,_),(4,_),(12,_)] [((3,0),_),((4,0),_)] [] []) kp ?_
 refine go 40 ?_
 refine aA ?_
 refine az (σ':=ap 211 [(2,_),(3,_),(4,_)] [((3,0),_),((4,0),_)] [] []) kp ?_
 refine go 17 ?_
 refine ai (cJ aa [((0,8),(50,0))] ar (hq.toI) trivial tr ae) ?_
 refine go 8 ?_
 refine aA ?_
 refine az (σ':=ap 211 [(3,_),(4,_),(10,_),(153,_)] [((3,0),_),((4,0),_),((50,0),_)] [] []) kp ?_
 refine go 34 ?_
 refine ai (cG (203,0) _ _ aa rfl rfl (bo _).symm (.sl rfl) ab rfl (dU _ { op:= .reply }) (show (bI cs a).length+1=(bI cs a++[({ op:= .reply }:bq)]).length by simp)) ?_
 exact gF rfl (aj (aq (nF [((0,8),(203,0))])))
theorem Dy {L:List Nd} {cs:List Cd} (hc:cs.length=L.length) (hk:lG (uu d v no on) L cs):CoS (uu d v no on) (nd 9 0 [] L) (fun a=> bI cs a++[{ op:= .fail }]):=fun a ha=> by
 have hl2:a+(bI cs a).length≤1000000:=by simp only [List.length_append] at ha;omega
 have hq:=cP (d:=d) (v:=v) (no:=no) (on:=on) L cs hc hk a hl2
 refine Spec.ofN Tryz.func91 rfl Tryz.ntmps91 rfl ?_
 refine go 3 ?_
 refine ai (bg _ fg) (go 33 ?_)
 refine aA ?_
 refine az (σ':=ap 211 [(2,_),(3,_),(4,_),(12,_)] [((3,0),_),((4,0),_)] [] []) kp ?_
 refine go 40 ?_
 refine aA ?_
 refine az (σ':=ap 211 [(2,_),(3,_),(4,_)] [((3,0),_),((4,0),_)] [] []) kp ?_
 refine go 17 ?_
 refine ai (cJ aa [((0,8),(50,0))] ar (hq.toI) trivial tr ae) ?_
 refine go 8 ?_
 refine aA ?_
 refine az (σ':=ap 211 [(3,_),(4,_),(10,_),(153,_)] [((3,0),_),((4,0),_),((50,0),_)] [] []) kp ?_
 refine go 39 ?_
 refine ai (cG (209,0) _ _ aa rfl rfl (bo _).symm (.sl rfl) ab rfl (dU _ { op:= .fail }) (show (bI cs a).length+1=(bI cs a++[({ op:= .fail }:bq)]).length by simp)) ?_
 exact gF rfl (aj (aq (nF [((0,8),(209,0))])))
theorem AQ {L:List Nd} {cs:List Cd} (hc:cs.length=L.length) (hk:lG (uu d v no on) L cs):CoS (uu d v no on) (nd 11 0 [] L) (fun a=> bI cs a):=fun a ha=> by
 have hl2:a+(bI cs a).length≤1000000:=ha
 have hq:=cP (d:=d) (v:=v) (no:=no) (on:=on) L cs hc hk a hl2
 refine Spec.ofN Tryz.func91 rfl Tryz.ntmps91 rfl ?_
 refine go 3 ?_
 refine ai (bg _ fg) (go 33 ?_)
 refine aA ?_
 refine az (σ':=ap 211 [(2,_),(3,_),(4,_),(12,_)] [((3,0),_),((4,0),_)] [] []) kp ?_
 refine go 40 ?_
 refine aA ?_
 refine az (σ':=ap 211 [(2,_),(3,_),(4,_)] [((3,0),_),((4,0),_)] [] []) kp ?_
 refine go 17 ?_
 refine ai (cJ aa [((0,8),(50,0))] ar (hq.toI) trivial tr ae) ?_
 refine go 8 ?_
 refine aA ?_
 refine az (σ':=ap 211 [(3,_),(4,_),(10,_),(153,_)] [((3,0),_),((4,0),_),((50,0),_)] [] []) kp ?_
 refine go 40 ?_
 exact aq (nF [((0,8),(50,0))])
theorem HB {L:List Nd} {cs:List Cd} (hc:cs.length=L.length) (hk:lG (uu d v no on) L cs) (o:Bo):CoS (uu d v no on) (nd 18 0 o.txt L) (fun a=> bI cs a++o.code):=fun a ha=> by
 have hol:o.code.length≤2:=by cases o <;> decide
 have hs1:o.txt≠[38,38]:=by cases o <;> decide
 have hs2:o.txt≠[124,124]:=by cases o <;> decide
 have hl2:a+(bI cs a).length≤1000000:=by simp only [List.length_append] at ha;omega
 have hq:=cP (d:=d) (v:=v) (no:=no) (on:=on) L cs hc hk a hl2
 refine Spec.ofN Tryz.func91 rfl Tryz.ntmps91 rfl ?_
 refine go 3 ?_
 refine ai (bg _ fg) (go 33 ?_)
 refine aA ?_
 refine az (σ':=ap 211 [(2,_),(3,_),(4,_),(12,_)] [((3,0),_),((4,0),_)] [] []) kp ?_
 refine go 34 ?_
 refine aZ rfl rfl (bJ (r:=false) _ _ Tryz.underlying9 rfl rfl (beq_eq_false_iff_ne.2 hs1)) ?_
 refine go 5 ?_
 refine aA ?_
 refine az (σ':=ap 211 [(2,_),(3,_),(4,_)] [((3,0),_),((4,0),_)] [] []) kp ?_
 refine go 7 ?_
 refine aZ rfl rfl (bJ (r:=false) _ _ Tryz.underlying9 rfl rfl (beq_eq_false_iff_ne.2 hs2)) ?_
 refine go 9 ?_
 refine ai (cJ aa [((0,8),(50,0))] ar (hq.toI) trivial tr ae) ?_
 refine go 8 ?_
 refine aA ?_
 refine az (σ':=ap 211 [(3,_),(4,_),(10,_),(153,_)] [((3,0),_),((4,0),_),((50,0),_)] [] []) kp ?_
 refine go 9 ?_
 refine ai (au aa al (yj o) rfl rfl) ?_
 refine ai (cG (160,0) _ _ aa rfl rfl (bo _).symm (.sl (bo _)) ab rfl (kP _ _) (show (bI cs a).length+o.code.length=(bI cs a++o.code).length by simp)) ?_
 exact gF rfl (aj (aq (nF [((0,8),(160,0))])))
def Fw (c y:Cd) (a:Nat):List bq:=c a++[{ op:= .unl,n:=((a+(c a).length+(y (a+(c a).length+1)).length+2:Nat):Int) }]++y (a+(c a).length+1)++[{ op:= .jump,n:=(a:Int) }]
theorem zJ {c y:Nd} {cc cy:Cd} (hc:CoS (uu d v no on) c cc) (hy:CoS (uu d v no on) y cy):CoS (uu d v no on) (nd 3 0 [] [c,y]) (Fw cc cy):=fun a ha=> by
 obtain ⟨b,hb⟩: ∃ b,b=Fw cc cy a:=⟨_,rfl⟩
 rw [← hb] at ha ⊢
 unfold Fw at hb
 have hbl:=congrArg List.length hb
 simp only [List.length_append,List.length_cons,List.length_nil] at hbl
 have h1:=hc a ab
 generalize cc a=C at h1 hb hbl
 have h2:=hy (a+C.length+1) ab
 generalize cy (a+C.length+1)=Y at h2 hb hbl
 refine Spec.ofN Tryz.func91 rfl Tryz.ntmps91 rfl ?_
 refine go 3 ?_
 refine ai (bg _ fg) (go 33 ?_)
 refine aA ?_
 refine az (σ':=ap 211 [(2,_),(3,_),(4,_),(12,_)] [((3,0),_),((4,0),_)] [] []) kp ?_
 refine go 25 ?_
 refine aA ?_
 refine az (σ':=ap 211 [(2,_),(3,_),(4,_)] [((3,0),_),((4,0),_)] [] []) kp ?_
 refine dA 6 [] ?_
 refine go 6 ?_
 refine aJ (_,[]) (fun τ=> aL _ _ aa rfl rfl 0 rfl (show 0 < 2 by omega) (Nat.le_of_ble_eq_true rfl) rfl) ?_
 refine go 1 ?_
 refine aJ (_,[]) (fun τ=> bu _ aa rfl (by exact bG [c,y] 0 (by simp)) rfl) ?_
 refine go 4 ?_
 refine ai (cJ aa [((0,8),(50,0))] ar (h1.toI) trivial tr ae) ?_
 refine gF rfl (aj (ax fun K15 hK15=> ?_))
 refine az (σ':=ap 211 [(2,_),(3,_),(4,_),(7,_)] [((3,0),_),((4,0),_),((50,0),_)] [] []) kp ?_
 refine dA 10 [] ?_
 refine go 6 ?_
 refine aJ (_,[]) (fun τ=> aL _ _ aa rfl rfl 1 rfl (show 1 < 2 by omega) (Nat.le_of_ble_eq_true rfl) rfl) ?_
 refine go 1 ?_
 refine aJ (_,[]) (fun τ=> bu _ aa rfl (by exact bG [c,y] 1 (by simp)) rfl) ?_
 refine go 12 ?_
 refine ai (cJ aa [((0,8),(51,0))] ar (h2.toI) trivial tr ae) ?_
 refine gF rfl (am (hK15 _ ?_))
 refine go 9 ?_
 refine ai (dL (r:=((a+C.length+Y.length+2:Nat):Int)) _ _ rfl rfl ((bT ab).trans ab)) ?_
 refine go 2 ?_
 refine ai (cG (102,0) _ _ aa rfl rfl (bo _).symm (.sl rfl) ab rfl (dU _ { op:= .unl,n:=((a+C.length+Y.length+2:Nat):Int) }) (show C.length+1=(C++[({ op:= .unl,n:=((a+C.length+Y.length+2:Nat):Int) }:bq)]).length by simp)) ?_
 refine gF rfl (aj (aA ?_))
 refine az (σ':=ap 211 [(2,_),(8,_),(9,_)] [((51,0),_),((102,0),_)] [] []) kp ?_
 refine an (sR rfl (sR rfl (ai (cG (105,0) _ _ aa rfl rfl (bo _).symm (.ref rfl (lT _) (kA _)) (by simp;omega) rfl (kP _ _) (show (C++[({ op:= .unl,n:=((a+C.length+Y.length+2:Nat):Int) }:bq)]).length+Y.length=(C++[({ op:= .unl,n:=((a+C.length+Y.length+2:Nat):Int) }:bq)]++Y).length by simp;omega)) ?_)))
 refine go 7 ?_
 refine ai (cG (110,0) _ _ aa rfl rfl (bo _).symm (.sl rfl) (by simp;omega) rfl ((dU _ { op:= .jump,n:=(a:Int) }).trans (congrArg inl hb.symm)) (show _+1=b.length by simp;omega)) ?_
 exact gF rfl (aj (aq (nF [((0,8),(110,0))])))
end
end Go.Proofs.YtmjnackchaahbaaGreat

set_option maxHeartbeats 2000000
namespace Go.Proofs.YtmjnackchaahbaaGreat
open Go.RowKit

def fh:Ex→Bool
 | .int n=> decide (0≤n) | .bool _=> true | .var _=> true | .name _=> true
 | .draw e=> fh e | .neg e=> fh e | .not e=> fh e
 | .bin _ a b=> fh a && fh b
 | .and a b=> fh a && fh b
 | .or a b=> fh a && fh b
mutual
def lp:Sm→Bool
 | .assign _ e=> fh e
 | .send t _ a b=> fh t && fh a && fh b
 | .timer _=> true | .cancel _=> true | .sync=> true | .stop=> true
 | .reply a b=> fh a && fh b
 | .fail e=> fh e
 | .loop c b=> fh c && lN b
 | .ite c a b=> fh c && lN a && lN b
def lN:Bk→Bool
 | .nil=> true
 | .cons s b=> lp s && lN b
end
section
variable {d v:List Tx} {no:Nat} {on:List PV}
abbrev Kh (d v:List Tx) (no:Nat) (on:List PV) (N:Nd) (c:Cd):Prop:=CoS (uu d v no on) N c
theorem CoS.cong {u:AV} {N:Nd} {c c':Cd} (h:CoS u N c) (e: ∀ a,c a=c' a):CoS u N c':=by
 rw [show c'=c from funext fun a=> (e a).symm];exact h
theorem dy (hn:(d++v).Nodup) (hl:(d++v).length≤1000): ∀ e:Ex,eQ (d++v).length e→fh e=true→Kh d v no on (dk (d++v) e) (aI e)
 | .int n,_,hp=> by
  have hp:=of_decide_eq_true hp
  have:=GQ (d:=d) (v:=v) (no:=no) (on:=on) n.toNat
  exact this.cong fun a=> by rw [Int.toNat_of_nonneg hp];rfl
 | .bool b,_,_=> by
  cases b
  ·exact wk 0
  exact wk 1
 | .var i,h,_=> FR hn hl i h
 | .name k,h,_=> Dt k h
 | .draw e,h,hp=> (CC rfl (xH (dy hn hl e h hp) Ej)).cong fun a=> by simp [aI,bI]
 | .neg e,h,hp=> (GD rfl (xH (dy hn hl e h hp) Ej)).cong fun a=> by simp [aI,bI]
 | .not e,h,hp=> (GJ rfl (xH (dy hn hl e h hp) Ej)).cong fun a=> by simp [aI,bI]
 | .bin o x y,h,hp=> by
  simp only [fh,Bool.and_eq_true] at hp
  exact (HB rfl (xH (dy hn hl x h.1 hp.1) (xH (dy hn hl y h.2 hp.2) Ej)) o).cong fun a=> by simp [aI,bI]
 | .and x y,h,hp=> by
  simp only [fh,Bool.and_eq_true] at hp
  exact (GP (dy hn hl x h.1 hp.1) (dy hn hl y h.2 hp.2)).cong fun a=> rfl
 | .or x y,h,hp=> by
  simp only [fh,Bool.and_eq_true] at hp
  exact (Is (dy hn hl x h.1 hp.1) (dy hn hl y h.2 hp.2)).cong fun a=> rfl
def Am:Bk→List Cd
 | .nil=> []
 | .cons s b=> bp s::Am b
theorem rH (nm:List Tx): ∀ b:Bk,(Am b).length=(fA nm b).length
 | .nil=> by simp [Am,fA]
 | .cons s b=> by simp [Am,fA,rH nm b]
theorem rJ: ∀ (b:Bk) (a:Nat),bI (Am b) a=bK b a
 | .nil,a=> by simp [Am,bI,bK]
 | .cons s b,a=> by simp only [Am,bI,bK,rJ b]
theorem mh {b:Bk} (h:lG (uu d v no on) (fA (d++v) b) (Am b)):Kh d v no on (ip (d++v) b) (bK b):=(AQ (rH _ b) h).cong (rJ b)
mutual
theorem Fa (hn:(d++v).Nodup) (hl:(d++v).length≤1000): ∀ s:Sm,dV (d++v).length s→lp s=true→Kh d v no on (nU (d++v) s) (bp s)
 | .assign i e,h,hp=> by rw [dV] at h;exact (xz rfl (xH (dy hn hl e h.2 hp) Ej) hn hl i h.1).cong fun a=> by simp [bp,bI]
 | .send t k x y,h,hp=> by
  rw [dV] at h
  simp only [lp,Bool.and_eq_true] at hp
  exact (Cu rfl (xH (dy hn hl t h.2.1 hp.1.1) (xH (dy hn hl x h.2.2.1 hp.1.2) (xH (dy hn hl y h.2.2.2 hp.2) Ej))) k).cong fun a=> by simp [bp,bI,Nat.add_assoc]
 | .timer k,_,_=> (zR k).cong fun a=> by rw [bp]
 | .cancel k,_,_=> (ye k).cong fun a=> by rw [bp]
 | .sync,_,_=> co_sync.cong fun a=> by rw [bp]
 | .stop,_,_=> co_stop.cong fun a=> by rw [bp]
 | .reply x y,h,hp=> by
  rw [dV] at h
  simp only [lp,Bool.and_eq_true] at hp
  exact (yX rfl (xH (dy hn hl x h.1 hp.1) (xH (dy hn hl y h.2 hp.2) Ej))).cong fun a=> by simp [bp,bI]
 | .fail e,h,hp=> by rw [dV] at h;exact (Dy rfl (xH (dy hn hl e h hp) Ej)).cong fun a=> by simp [bp,bI]
 | .loop c b,h,hp=> by
  rw [dV] at h
  simp only [lp,Bool.and_eq_true] at hp
  exact (zJ (dy hn hl c h.1 hp.1) (mh (mw hn hl b h.2 hp.2))).cong fun a=> by rw [bp];rfl
 | .ite c x y,h,hp=> by
  rw [dV] at h
  simp only [lp,Bool.and_eq_true] at hp
  exact (Hg (dy hn hl c h.1 hp.1.1) (mh (mw hn hl x h.2.1 hp.1.2)) (mh (mw hn hl y h.2.2 hp.2))).cong fun a=> by rw [bp];rfl
theorem mw (hn:(d++v).Nodup) (hl:(d++v).length≤1000): ∀ b:Bk,gz (d++v).length b→lN b=true→lG (uu d v no on) (fA (d++v) b) (Am b)
 | .nil,_,_=> Ej
 | .cons s b,h,hp=> by
  rw [gz] at h
  simp only [lN,Bool.and_eq_true] at hp
  exact xH (Fa hn hl s h.1 hp.1) (mw hn hl b h.2 hp.2)
end
theorem DR (hn:(d++v).Nodup) (hl:(d++v).length≤1000) (b:Bk) (h:gz (d++v).length b) (hp:lN b=true):Kh d v no on (ip (d++v) b) (bK b):=mh (mw hn hl b h hp)
end
end Go.Proofs.YtmjnackchaahbaaGreat
