/- part 13 -/
import Derived.Test.YtmjnackchaahbaaGreatVhZ12
set_option linter.unusedSimpArgs false
set_option linter.unusedVariables false
set_option maxHeartbeats 2000000
namespace Go.Proofs.YtmjnackchaahbaaGreat
open Go.RowKit

abbrev MU (d v:List Tx) (l:List Hd) (n:Nat) (r:ay):Cells:= .box 143 [.sl d.length (dh d), .sl v.length (dh v), .sl l.length (jr l), .ref r 0 n]
abbrev ek (d v:List Tx) (l:List Hd) (c:List bq):List (ay×Cells):=[((1,9),MU d v l c.length (2,9)),((2,9), .row 48 2 (inl c))]
abbrev Mq (d v:List Tx) (l:List Hd) (c:List bq):List (ay×Cells):=[((1,9),MU d v l c.length (2,8)),((2,8), .row 48 2 (inl c))]
abbrev fv (r:AV) (d v:List Tx) (l:List Hd) (c:List bq):St:=aP r (Mq d v l c) [(1,9),(2,8)] [(1,9)]
def hG (c:List bq) (k:Nat) (x:Int):List bq:=c.set k ⟨(bC c k).op,x⟩
theorem hX (c:List bq) (k:Nat) (x:Int):(hG c k x).length=c.length:=List.length_set
theorem uy: ∀ (c:List bq) (k:Nat) (x:Int),k < c.length→ez (inl c) (k*2+1) [.v (.int .i64 x)]=inl (hG c k x)
 | [],k,x,h=> absurd h (Nat.not_lt_zero _)
 | i::c,0,x,_=> by
  show ez (PV.v (.int .i64 (i.op.num:Int))::PV.v (.int .i64 i.n)::inl c) 1 [PV.v (.int .i64 x)]=_
  simp [ez,hG,bC,inl,inr]
 | i::c,k+1,x,h=> by
  have ih:=uy c k x (by simpa using h)
  show ez (inr i++inl c) ((k+1)*2+1) [PV.v (.int .i64 x)]=inr i++inl (hG c k x)
  rw [← ih]
  simp [ez,inr,show (k+1)*2+1=k*2+1+1+1 by omega]
section
variable (d v:List Tx) (l:List Hd) (c:List bq)
theorem cp (o:Opc) (n:Int) (hc:c.length≤1000000):Spec Tryz.prog 69 (aE [.ptr (1,9) 0, .v (.int .i64 o.num), .v (.int .i64 n)] (ek d v l c)) (fv (.v (.int .i64 (c.length:Int))) d v l (c++[⟨o,n⟩]))∧SpecD Tryz.prog 69 (aE [.ptr (1,9) 0, .v (.int .i64 o.num), .v (.int .i64 n)] (ek d v l c)) (fv (.v (.int .i64 (c.length:Int))) d v l (c++[⟨o,n⟩])):=by
 have hl:(c++[(⟨o,n⟩:bq)]).length=c.length+1:=by simp
 refine Spec2.ofNI Tryz.func69 rfl Tryz.ntmps69 rfl ?_
 refine go 13 ?_
 refine bc (Le.incT (16,0) rfl) ?_
 refine ai (np (b:=true) (16,0) _ _ aa rfl rfl (bo _).symm (.sl rfl) ab rfl rfl rfl (dU _ ⟨o,n⟩) hl.symm) ?_
 refine go 10 ?_
 refine ai (bB (r:=(c.length:Int)) _ _ rfl rfl ((bT ab).trans ab)) ?_
 exact bF rfl (aj (aq (dm (.inr rfl) rfl (.tmp iH) (Le.outI [((2,8),(16,0))] [] .v rfl rfl rfl trivial ob tr rfl))))
theorem lq (at':Nat) (ha:at' < c.length) (hc:c.length≤1000000):Spec Tryz.prog 177 (aE [.ptr (1,9) 0, .v (.int .i64 (at':Int))] (ek d v l c)) (fv (.tup []) d v l (hG c at' c.length))∧SpecD Tryz.prog 177 (aE [.ptr (1,9) 0, .v (.int .i64 (at':Int))] (ek d v l c)) (fv (.tup []) d v l (hG c at' c.length)):=by
 have hp:=uy c at' (c.length:Int) ha
 have hl:=hX c at' (c.length:Int)
 refine Spec2.ofNI Tryz.func177 rfl Tryz.ntmps177 rfl ?_
 refine dA 12 [] ?_
 refine go 20 ?_
 refine aJ (_,[]) (fun τ=> fM _ _ aa rfl rfl rfl _ rfl ab (by exact Nat.zero_add _)) ?_
 refine go 4 ?_
 refine ai (nh _ _ aa rfl rfl rfl rfl rfl (by (simp only [aM,aW,aV,bo,List.length_cons,List.length_nil];omega)) rfl) ?_
 exact am (rt (.inl rfl) rfl (Le.outI [((2,8),(2,9))] [] (.tup rfl bz) rfl rfl rfl trivial ⟨⟨rfl,⟨_,rfl, .box rfl (aB .sl (aB .sl (aB .sl (aB (eH rfl hl) bz))))⟩,rfl⟩,⟨rfl,⟨_,rfl, .rowE hp⟩,rfl⟩,trivial⟩ tr rfl))
end
end Go.Proofs.YtmjnackchaahbaaGreat

set_option maxHeartbeats 2000000
namespace Go.Proofs.YtmjnackchaahbaaGreat
open Go.RowKit

abbrev uH (x:Nd):List (ay×Cells):=[((3,9), .box 141 [.ptr (1,9) 0]),((4,9), .box 71 [.v (.int .i64 (x.k:Int)), .v (.int .i64 (x.n:Int)), .v (bt x.s), .sl x.kn x.kids])]
abbrev wx (x:Nd) (d v:List Tx) (l:List Hd) (c:List bq):St:=aP (.tup []) (Mq d v l c++uH x) [(1,9),(2,8),(3,9),(4,9)] [(1,9),(3,9),(4,9)]
section
variable (d v:List Tx) (l:List Hd) (x y:Nd) (C C1 C3 C6:List bq)
set_option maxHeartbeats 1000000 in
theorem vU (h1:C1.length≤900000) (h3:C3.length≤900000) (h5:C1.length < C3.length) (h6:C6.length≤900000) (h7:C3.length < C6.length)
  (hA:Spec Tryz.prog 68 (aE [.ptr (1,9) 0,dJ y] (ek d v l C)) (fv (.tup []) d v l C1))
  (hB:Spec Tryz.prog 175 (aE [.ptr (3,9) 0, .ptr (4,9) 0] (ek d v l (C1++[(⟨.unl,0⟩:bq)])++uH x)) (wx x d v l C3))
  (hZ:Spec Tryz.prog 176 (aE [.ptr (3,9) 0, .ptr (4,9) 0] (ek d v l (hG (C3++[(⟨.jump,0⟩:bq)]) C1.length ((C3++[(⟨.jump,0⟩:bq)]).length:Int))++uH x)) (wx x d v l C6)):
  Spec Tryz.prog 172 (aE [.ptr (1,9) 0,dJ y, .fn (.func 175) [] [.ptr (3,9) 0, .ptr (4,9) 0], .fn (.func 176) [] [.ptr (3,9) 0, .ptr (4,9) 0]] (ek d v l C++uH x)) (wx x d v l (hG C6 C3.length (C6.length:Int))):=by
 have ha:=(cp d v l C1 .unl 0 ab).1
 have hb:=(cp d v l C3 .jump 0 ab).1
 have hl4:(C3++[(⟨.jump,0⟩:bq)]).length=C3.length+1:=by simp
 have hc:=(lq d v l (C3++[(⟨.jump,0⟩:bq)]) C1.length ab ab).1
 have he:=(lq d v l C6 C3.length ab ab).2
 refine Spec.ofNIB Tryz.func172 rfl Tryz.ntmps172 rfl ?_
 refine dZ fun K1 hK1=> ?_
 refine an (ai (ed (5,0) _ rfl rfl) (am (hK1 _ ?_)))
 refine dZ fun K2 hK2=> ?_
 refine go 3 ?_
 refine bc (Le.incT (12,0) rfl) ?_
 refine ai (aC aa [((2,9),(2,9)),((2,8),(12,0))] ar (hA) ob tr tr rfl ae ae) ?_
 refine am (hK2 _ ?_)
 refine dZ fun K3 hK3=> ?_
 refine an (bN rfl (bc (Le.incT (14,0) rfl) ?_))
 refine ai (aC aa [((2,9),(12,0)),((2,8),(14,0))] ar (ha) ob tr tr rfl ae ae) ?_
 refine bF rfl (am (hK3 _ ?_))
 refine dZ fun K4 hK4=> ?_
 refine go 2 ?_
 refine bc (Le.incT (16,0) rfl) ?_
 refine ai (dN rfl aa [((2,9),(14,0)),((2,8),(16,0))] ar (hB) ob tr tr rfl ae ae) ?_
 refine am (hK4 _ ?_)
 refine dZ fun K5 hK5=> ?_
 refine an (bN rfl (bc (Le.incT (18,0) rfl) ?_))
 refine ai (aC aa [((2,9),(16,0)),((2,8),(18,0))] ar (hb) ob tr tr rfl ae ae) ?_
 refine bF rfl (am (hK5 _ ?_))
 refine fu (dl (br _ oz) (dl (br _ nV) (tu (gl (fu (dl (br _ oz) (dl (br _ nV) (lR (Le.incT (23,0) rfl) ?_))))))))
 refine dl (aC aa [((2,9),(18,0)),((2,8),(23,0))] ar (hc) ob tr tr rfl ae ae) ?_
 refine gl ?_
 refine wQ (σ':=ap 26 [(3,_),(19,_),(20,_)] [((1,9),_),((3,9),_),((4,9),_),((23,0),_)] [(1,9),(3,9),(4,9),(23,0)] [(1,9),(3,9),(4,9)]) kp ?_
 refine od (dl (br _ Cf) (lR (Le.trans (Le.incT (26,0) rfl) (Le.incT (25,0) rfl)) ?_))
 refine dl (dN rfl aa [((2,9),(23,0)),((2,8),(25,0))] ar (hZ) ob tr tr rfl ae ae) ?_
 refine oH (DEnd.cons (km aa [((2,9),(25,0)),((2,8),(26,0))] ar he ob tr tr rfl ae ae) (DEnd.ret (fw [((2,8),(26,0))])))
set_option maxHeartbeats 1000000 in
theorem uC (h1:C1.length≤900000) (h3:C3.length≤900000) (h5:C1.length < C3.length) (h6:C6.length≤900000) (h7:C3.length < C6.length)
  (hA:Spec Tryz.prog 68 (aE [.ptr (1,9) 0,dJ y] (ek d v l C)) (fv (.tup []) d v l C1))
  (hB:Spec Tryz.prog 171 (aE [.ptr (3,9) 0, .ptr (4,9) 0] (ek d v l (C1++[(⟨.unl,0⟩:bq)])++uH x)) (wx x d v l C3))
  (hZ:Spec Tryz.prog 173 (aE [.ptr (3,9) 0] (ek d v l (hG (C3++[(⟨.jump,0⟩:bq)]) C1.length ((C3++[(⟨.jump,0⟩:bq)]).length:Int))++uH x)) (wx x d v l C6)):
  Spec Tryz.prog 172 (aE [.ptr (1,9) 0,dJ y, .fn (.func 171) [] [.ptr (3,9) 0, .ptr (4,9) 0], .fn (.func 173) [] [.ptr (3,9) 0]] (ek d v l C++uH x)) (wx x d v l (hG C6 C3.length (C6.length:Int))):=by
 have ha:=(cp d v l C1 .unl 0 ab).1
 have hb:=(cp d v l C3 .jump 0 ab).1
 have hl4:(C3++[(⟨.jump,0⟩:bq)]).length=C3.length+1:=by simp
 have hc:=(lq d v l (C3++[(⟨.jump,0⟩:bq)]) C1.length ab ab).1
 have he:=(lq d v l C6 C3.length ab ab).2
 refine Spec.ofNIB Tryz.func172 rfl Tryz.ntmps172 rfl ?_
 refine dZ fun K1 hK1=> ?_
 refine an (ai (ed (5,0) _ rfl rfl) (am (hK1 _ ?_)))
 refine dZ fun K2 hK2=> ?_
 refine go 3 ?_
 refine bc (Le.incT (12,0) rfl) ?_
 refine ai (aC aa [((2,9),(2,9)),((2,8),(12,0))] ar (hA) ob tr tr rfl ae ae) ?_
 refine am (hK2 _ ?_)
 refine dZ fun K3 hK3=> ?_
 refine an (bN rfl (bc (Le.incT (14,0) rfl) ?_))
 refine ai (aC aa [((2,9),(12,0)),((2,8),(14,0))] ar (ha) ob tr tr rfl ae ae) ?_
 refine bF rfl (am (hK3 _ ?_))
 refine dZ fun K4 hK4=> ?_
 refine go 2 ?_
 refine bc (Le.incT (16,0) rfl) ?_
 refine ai (dN rfl aa [((2,9),(14,0)),((2,8),(16,0))] ar (hB) ob tr tr rfl ae ae) ?_
 refine am (hK4 _ ?_)
 refine dZ fun K5 hK5=> ?_
 refine an (bN rfl (bc (Le.incT (18,0) rfl) ?_))
 refine ai (aC aa [((2,9),(16,0)),((2,8),(18,0))] ar (hb) ob tr tr rfl ae ae) ?_
 refine bF rfl (am (hK5 _ ?_))
 refine fu (dl (br _ oz) (dl (br _ nV) (tu (gl (fu (dl (br _ oz) (dl (br _ nV) (lR (Le.incT (23,0) rfl) ?_))))))))
 refine dl (aC aa [((2,9),(18,0)),((2,8),(23,0))] ar (hc) ob tr tr rfl ae ae) ?_
 refine gl ?_
 refine wQ (σ':=ap 26 [(3,_),(19,_),(20,_)] [((1,9),_),((3,9),_),((23,0),_),((4,9),_)] [(1,9),(3,9),(4,9),(23,0)] [(1,9),(3,9),(4,9)]) kp ?_
 refine od (dl (br _ Cf) (lR (Le.trans (Le.incT (26,0) rfl) (Le.incT (25,0) rfl)) ?_))
 refine dl (dN rfl aa [((2,9),(23,0)),((2,8),(25,0))] ar (hZ) ob tr tr rfl ae ae) ?_
 refine oH (DEnd.cons (km aa [((2,9),(25,0)),((2,8),(26,0))] ar he ob tr tr rfl ae ae) (DEnd.ret (fw [((2,8),(26,0))])))
set_option maxHeartbeats 1000000 in
theorem uK (h1:C1.length≤900000) (h3:C3.length≤900000) (h5:C1.length < C3.length) (h6:C6.length≤900000) (h7:C3.length < C6.length)
  (hA:Spec Tryz.prog 68 (aE [.ptr (1,9) 0,dJ y] (ek d v l C)) (fv (.tup []) d v l C1))
  (hB:Spec Tryz.prog 174 (aE [.ptr (3,9) 0] (ek d v l (C1++[(⟨.unl,0⟩:bq)])++uH x)) (wx x d v l C3))
  (hZ:Spec Tryz.prog 171 (aE [.ptr (3,9) 0, .ptr (4,9) 0] (ek d v l (hG (C3++[(⟨.jump,0⟩:bq)]) C1.length ((C3++[(⟨.jump,0⟩:bq)]).length:Int))++uH x)) (wx x d v l C6)):
  Spec Tryz.prog 172 (aE [.ptr (1,9) 0,dJ y, .fn (.func 174) [] [.ptr (3,9) 0], .fn (.func 171) [] [.ptr (3,9) 0, .ptr (4,9) 0]] (ek d v l C++uH x)) (wx x d v l (hG C6 C3.length (C6.length:Int))):=by
 have ha:=(cp d v l C1 .unl 0 ab).1
 have hb:=(cp d v l C3 .jump 0 ab).1
 have hl4:(C3++[(⟨.jump,0⟩:bq)]).length=C3.length+1:=by simp
 have hc:=(lq d v l (C3++[(⟨.jump,0⟩:bq)]) C1.length ab ab).1
 have he:=(lq d v l C6 C3.length ab ab).2
 refine Spec.ofNIB Tryz.func172 rfl Tryz.ntmps172 rfl ?_
 refine dZ fun K1 hK1=> ?_
 refine an (ai (ed (5,0) _ rfl rfl) (am (hK1 _ ?_)))
 refine dZ fun K2 hK2=> ?_
 refine go 3 ?_
 refine bc (Le.incT (12,0) rfl) ?_
 refine ai (aC aa [((2,9),(2,9)),((2,8),(12,0))] ar (hA) ob tr tr rfl ae ae) ?_
 refine am (hK2 _ ?_)
 refine dZ fun K3 hK3=> ?_
 refine an (bN rfl (bc (Le.incT (14,0) rfl) ?_))
 refine ai (aC aa [((2,9),(12,0)),((2,8),(14,0))] ar (ha) ob tr tr rfl ae ae) ?_
 refine bF rfl (am (hK3 _ ?_))
 refine dZ fun K4 hK4=> ?_
 refine go 2 ?_
 refine bc (Le.incT (16,0) rfl) ?_
 refine ai (dN rfl aa [((2,9),(14,0)),((2,8),(16,0))] ar (hB) ob tr tr rfl ae ae) ?_
 refine am (hK4 _ ?_)
 refine dZ fun K5 hK5=> ?_
 refine an (bN rfl (bc (Le.incT (18,0) rfl) ?_))
 refine ai (aC aa [((2,9),(16,0)),((2,8),(18,0))] ar (hb) ob tr tr rfl ae ae) ?_
 refine bF rfl (am (hK5 _ ?_))
 refine fu (dl (br _ oz) (dl (br _ nV) (tu (gl (fu (dl (br _ oz) (dl (br _ nV) (lR (Le.incT (23,0) rfl) ?_))))))))
 refine dl (aC aa [((2,9),(18,0)),((2,8),(23,0))] ar (hc) ob tr tr rfl ae ae) ?_
 refine gl ?_
 refine wQ (σ':=ap 26 [(3,_),(19,_),(20,_)] [((1,9),_),((3,9),_),((4,9),_),((23,0),_)] [(1,9),(3,9),(4,9),(23,0)] [(1,9),(3,9),(4,9)]) kp ?_
 refine od (dl (br _ Cf) (lR (Le.trans (Le.incT (26,0) rfl) (Le.incT (25,0) rfl)) ?_))
 refine dl (dN rfl aa [((2,9),(23,0)),((2,8),(25,0))] ar (hZ) ob tr tr rfl ae ae) ?_
 refine oH (DEnd.cons (km aa [((2,9),(25,0)),((2,8),(26,0))] ar he ob tr tr rfl ae ae) (DEnd.ret (fw [((2,8),(26,0))])))
end
end Go.Proofs.YtmjnackchaahbaaGreat

set_option maxHeartbeats 2000000
namespace Go.Proofs.YtmjnackchaahbaaGreat
open Go.RowKit

abbrev CnS (d v:List Tx) (l:List Hd) (N:Nd) (c:Cd):Prop:= ∀ C:List bq,C.length+(c C.length).length≤800000→Spec Tryz.prog 68 (aE [.ptr (1,9) 0,dJ N] (ek d v l C)) (fv (.tup []) d v l (C++c C.length))
section
variable (d v:List Tx) (l:List Hd) (C C1:List bq)
theorem xd (L:List Nd) (s:Tx) (K n:Nat) (hL:1 < L.length) (hA:Spec Tryz.prog 68 (aE [.ptr (1,9) 0,dJ (jf L 1)] (ek d v l C)) (fv (.tup []) d v l C1)):
  Spec Tryz.prog 171 (aE [.ptr (3,9) 0, .ptr (4,9) 0] (ek d v l C++uH (nd K n s L))) (wx (nd K n s L) d v l C1):=by
 refine Spec.ofNI Tryz.func171 rfl Tryz.ntmps171 rfl ?_
 refine az (Le.incT (7,0) rfl) ?_
 refine dA 5 [] ?_
 refine go 6 ?_
 refine aJ (_,[]) (fun τ=> aL _ _ aa rfl rfl 1 rfl (by exact hL) (by show 0 < (iU L).length;rw [bk];omega) rfl) ?_
 refine go 1 ?_
 refine aJ (_,[]) (fun τ=> bu _ aa rfl (by exact bG _ _ hL) rfl) ?_
 refine go 1 ?_
 refine cD ⟨rfl,?_⟩
 refine ai (aC aa [((2,9),(2,9)),((2,8),(7,0))] ar (hA) ob tr tr rfl ae ae) ?_
 exact am (fw [((2,8),(7,0))])
theorem Dd (L:List Nd) (s:Tx) (K n:Nat) (hL:1 < L.length) (hA:Spec Tryz.prog 68 (aE [.ptr (1,9) 0,dJ (jf L 1)] (ek d v l C)) (fv (.tup []) d v l C1)):
  Spec Tryz.prog 175 (aE [.ptr (3,9) 0, .ptr (4,9) 0] (ek d v l C++uH (nd K n s L))) (wx (nd K n s L) d v l C1):=by
 refine Spec.ofNI Tryz.func175 rfl Tryz.ntmps175 rfl ?_
 refine az (Le.incT (7,0) rfl) ?_
 refine dA 5 [] ?_
 refine go 6 ?_
 refine aJ (_,[]) (fun τ=> aL _ _ aa rfl rfl 1 rfl (by exact hL) (by show 0 < (iU L).length;rw [bk];omega) rfl) ?_
 refine go 1 ?_
 refine aJ (_,[]) (fun τ=> bu _ aa rfl (by exact bG _ _ hL) rfl) ?_
 refine go 1 ?_
 refine cD ⟨rfl,?_⟩
 refine ai (aC aa [((2,9),(2,9)),((2,8),(7,0))] ar (hA) ob tr tr rfl ae ae) ?_
 exact am (fw [((2,8),(7,0))])
theorem Fb (L:List Nd) (s:Tx) (K n:Nat) (hL:2 < L.length) (hA:Spec Tryz.prog 68 (aE [.ptr (1,9) 0,dJ (jf L 2)] (ek d v l C)) (fv (.tup []) d v l C1)):
  Spec Tryz.prog 176 (aE [.ptr (3,9) 0, .ptr (4,9) 0] (ek d v l C++uH (nd K n s L))) (wx (nd K n s L) d v l C1):=by
 refine Spec.ofNI Tryz.func176 rfl Tryz.ntmps176 rfl ?_
 refine az (Le.incT (7,0) rfl) ?_
 refine dA 5 [] ?_
 refine go 6 ?_
 refine aJ (_,[]) (fun τ=> aL _ _ aa rfl rfl 2 rfl (by exact hL) (by show 0 < (iU L).length;rw [bk];omega) rfl) ?_
 refine go 1 ?_
 refine aJ (_,[]) (fun τ=> bu _ aa rfl (by exact bG _ _ hL) rfl) ?_
 refine go 1 ?_
 refine cD ⟨rfl,?_⟩
 refine ai (aC aa [((2,9),(2,9)),((2,8),(7,0))] ar (hA) ob tr tr rfl ae ae) ?_
 exact am (fw [((2,8),(7,0))])
theorem Au (y:Nd) (hc:C.length≤1000000):Spec Tryz.prog 173 (aE [.ptr (3,9) 0] (ek d v l C++uH y)) (wx y d v l (C++[(⟨.push,0⟩:bq)])):=by
 have ha:=(cp d v l C .push 0 hc).1
 refine Spec.ofNI Tryz.func173 rfl Tryz.ntmps173 rfl ?_
 refine go 2 ?_
 refine bc (Le.incT (2,0) rfl) ?_
 refine ai (aC aa [((2,9),(2,9)),((2,8),(2,0))] ar (ha) ob tr tr rfl ae ae) ?_
 exact am (fw [((2,8),(2,0))])
theorem Bp (y:Nd) (hc:C.length≤1000000):Spec Tryz.prog 174 (aE [.ptr (3,9) 0] (ek d v l C++uH y)) (wx y d v l (C++[(⟨.push,1⟩:bq)])):=by
 have ha:=(cp d v l C .push 1 hc).1
 refine Spec.ofNI Tryz.func174 rfl Tryz.ntmps174 rfl ?_
 refine go 2 ?_
 refine bc (Le.incT (2,0) rfl) ?_
 refine ai (aC aa [((2,9),(2,9)),((2,8),(2,0))] ar (ha) ob tr tr rfl ae ae) ?_
 exact am (fw [((2,8),(2,0))])
end
end Go.Proofs.YtmjnackchaahbaaGreat

set_option maxHeartbeats 2000000
namespace Go.Proofs.YtmjnackchaahbaaGreat
open Go.RowKit

theorem oK (A B:List bq) (i:bq) (x:Int):hG (A++i::B) A.length x=A++⟨i.op,x⟩::B:=by
 unfold hG bC
 rw [List.getD_eq_getElem?_getD,List.getElem?_append_right (Nat.le_refl _),List.set_append_right _ _ (Nat.le_refl _),Nat.sub_self];rfl
theorem Gz (A X Y Z:List bq) (p q:Int):hG (hG (A++X++[(⟨.unl,0⟩:bq)]++Y++[(⟨.jump,0⟩:bq)]) (A++X).length p++Z) (A++X++[(⟨.unl,0⟩:bq)]++Y).length q=A++(X++[{ op:= .unl,n:=p }]++Y++[{ op:= .jump,n:=q }]++Z):=by
 have e1:A++X++[(⟨.unl,0⟩:bq)]++Y++[(⟨.jump,0⟩:bq)]=(A++X)++⟨.unl,0⟩::(Y++[⟨.jump,0⟩]):=by simp
 rw [e1,oK]
 have e2:(A++X)++⟨.unl,p⟩::(Y++[⟨.jump,0⟩])++Z=((A++X)++⟨.unl,p⟩::Y)++(⟨.jump,0⟩:bq)::Z:=by simp
 have e3:(A++X++[(⟨.unl,0⟩:bq)]++Y).length=((A++X)++(⟨.unl,p⟩:bq)::Y).length:=by simp
 rw [e2,e3,oK]
 simp
section
variable (d v:List Tx) (l:List Hd) (C C1:List bq)
theorem sF (C X Y Z:List bq) (p q:Int) (hp:p=((C.length+X.length+1+Y.length+1:Nat):Int)) (hq:q=((C.length+X.length+1+Y.length+1+Z.length:Nat):Int)):hG (hG (C++X++[(⟨.unl,0⟩:bq)]++Y++[(⟨.jump,0⟩:bq)]) (C++X).length p++Z) (C++X++[(⟨.unl,0⟩:bq)]++Y).length q=
  C++(X++[{ op:= .unl,n:=((C.length+X.length+1+Y.length+1:Nat):Int) }]++Y++[{ op:= .jump,n:=((C.length+X.length+1+Y.length+1+Z.length:Nat):Int) }]++Z):=by
 subst hp;subst hq
 exact Gz _ _ _ _ _ _
theorem Hy {D Z:List bq} {k n:Nat} {x:Int} (h:D.length=n):(hG D k x++Z).length=n+Z.length:=by rw [List.length_append,hX,h]
theorem Di (c y z:Nd) (cc cy cz:Cd) (hc:CnS d v l c cc) (hy:CnS d v l y cy) (hz:CnS d v l z cz) (hC:C.length+(pu cc cy cz C.length).length≤800000):
  Spec Tryz.prog 101 (aE [.ptr (1,9) 0,dJ (nd 2 0 [] [c,y,z])] (ek d v l C)) (fv (.tup []) d v l (C++pu cc cy cz C.length)):=by
 obtain ⟨b,hb⟩: ∃ b,b=pu cc cy cz C.length:=⟨_,rfl⟩
 rw [← hb] at hC ⊢
 unfold pu at hb
 have hbl:=congrArg List.length hb
 simp only [List.length_append,List.length_cons,List.length_nil] at hbl
 have h1:=hc C ab
 generalize cc C.length=X at h1 hb hbl
 have l2:(C++X++[(⟨.unl,0⟩:bq)]).length=C.length+X.length+1:=by simp;omega
 have h2:=hy (C++X++[(⟨.unl,0⟩:bq)]) (by rw [l2];omega)
 rw [l2] at h2
 generalize cy (C.length+X.length+1)=Y at h2 hb hbl
 have l4:(C++X++[(⟨.unl,0⟩:bq)]++Y++[(⟨.jump,0⟩:bq)]).length=C.length+X.length+1+Y.length+1:=by simp;omega
 have h3:=hz (hG (C++X++[(⟨.unl,0⟩:bq)]++Y++[(⟨.jump,0⟩:bq)]) (C++X).length ((C++X++[(⟨.unl,0⟩:bq)]++Y++[(⟨.jump,0⟩:bq)]).length:Int)) (by rw [hX,l4];omega)
 rw [hX,l4] at h3
 generalize cz (C.length+X.length+1+Y.length+1)=Z at h3 hb hbl
 have l6:=Hy (Z:=Z) (k:=(C++X).length) (x:=((C++X++[(⟨.unl,0⟩:bq)]++Y++[(⟨.jump,0⟩:bq)]).length:Int)) l4
 have hA:=sF C X Y Z _ _ (congrArg Nat.cast l4) (congrArg Nat.cast l6)
 rw [← hb] at hA
 rw [← l4] at h3
 have k3:=Dd d v l (C++X++[(⟨.unl,0⟩:bq)]) (C++X++[(⟨.unl,0⟩:bq)]++Y) [c,y,z] [] 2 0 (by simp) h2
 have k6:=Fb d v l _ _ [c,y,z] [] 2 0 (by simp) h3
 have hch:=vU d v l (nd 2 0 [] [c,y,z]) c C (C++X) (C++X++[(⟨.unl,0⟩:bq)]++Y) _ (by simp;omega) (by simp;omega) (by simp;try omega) (by rw [l6];omega) (by rw [l6];simp;omega) h1 k3 k6
 rw [hA] at hch
 clear hA k3 k6 h1 h2 h3 hb
 refine Spec.ofNI Tryz.func101 rfl Tryz.ntmps101 rfl ?_
 refine go 4 ?_
 refine az (Le.incT (11,0) rfl) ?_
 refine dA 7 [] ?_
 refine go 6 ?_
 refine aJ (_,[]) (fun τ=> aL _ _ aa rfl rfl 0 rfl (by show 0 < [c,y,z].length;simp) (by show 0 < (iU [c,y,z]).length;rw [bk];simp) rfl) ?_
 refine go 1 ?_
 refine aJ (_,[]) (fun τ=> bu _ aa rfl (by exact bG [c,y,z] 0 (by simp)) rfl) ?_
 refine go 1 ?_
 refine aJ (_,[]) (fun τ=> gD _ _ (rfl:_=[]) (rfl:_=[AV.ptr _ _,AV.ptr _ _])) ?_
 refine go 1 ?_
 refine aJ (_,[]) (fun τ=> gD _ _ (rfl:_=[]) (rfl:_=[AV.ptr _ _,AV.ptr _ _])) ?_
 refine go 1 ?_
 refine cD ⟨rfl,?_⟩
 refine ai (aC aa [((3,9),(2,0)),((4,9),(3,0)),((2,9),(2,9)),((2,8),(11,0))] ar (hch) ob tr tr rfl ae ae) ?_
 exact am (fw [((2,8),(11,0))])
theorem Gw (C X Y:List bq):hG (C++X++[(⟨.unl,0⟩:bq)]++Y++[(⟨.jump,(C.length:Int)⟩:bq)]) (C++X).length ((C++X++[(⟨.unl,0⟩:bq)]++Y++[(⟨.jump,(C.length:Int)⟩:bq)]).length:Int)=
  C++(X++[{ op:= .unl,n:=((C.length+X.length+Y.length+2:Nat):Int) }]++Y++[{ op:= .jump,n:=(C.length:Int) }]):=by
 have e0:(C++X++[(⟨.unl,0⟩:bq)]++Y++[(⟨.jump,(C.length:Int)⟩:bq)]).length=C.length+X.length+Y.length+2:=by simp;omega
 rw [e0]
 have e1:C++X++[(⟨.unl,0⟩:bq)]++Y++[(⟨.jump,(C.length:Int)⟩:bq)]=(C++X)++⟨.unl,0⟩::(Y++[⟨.jump,(C.length:Int)⟩]):=by simp
 rw [e1,oK]
 simp
theorem It (c y:Nd) (cc cy:Cd) (hc:CnS d v l c cc) (hy:CnS d v l y cy) (hC:C.length+(Fw cc cy C.length).length≤800000):
  Spec Tryz.prog 102 (aE [.ptr (1,9) 0,dJ (nd 3 0 [] [c,y])] (ek d v l C)) (fv (.tup []) d v l (C++Fw cc cy C.length)):=by
 obtain ⟨b,hb⟩: ∃ b,b=Fw cc cy C.length:=⟨_,rfl⟩
 rw [← hb] at hC ⊢
 unfold Fw at hb
 have hbl:=congrArg List.length hb
 simp only [List.length_append,List.length_cons,List.length_nil] at hbl
 have h1:=hc C ab
 generalize cc C.length=X at h1 hb hbl
 have l2:(C++X++[(⟨.unl,0⟩:bq)]).length=C.length+X.length+1:=by simp;omega
 have h2:=hy (C++X++[(⟨.unl,0⟩:bq)]) (by rw [l2];omega)
 rw [l2] at h2
 generalize cy (C.length+X.length+1)=Y at h2 hb hbl
 have hA:=Gw C X Y
 rw [← hb] at hA
 have l3:(C++X++[(⟨.unl,0⟩:bq)]++Y).length=C.length+X.length+1+Y.length:=by simp;omega
 have ha:=(cp d v l (C++X) .unl 0 (by simp;omega)).1
 have he:=(cp d v l (C++X++[(⟨.unl,0⟩:bq)]++Y) .jump (C.length:Int) (by rw [l3];omega)).2
 have hh:=(lq d v l (C++X++[(⟨.unl,0⟩:bq)]++Y++[(⟨.jump,(C.length:Int)⟩:bq)]) (C++X).length (by simp;try omega) (by rw [List.length_append,l3];simp;omega)).2
 rw [hA] at hh
 clear hA hb
 refine Spec.ofNIB Tryz.func102 rfl Tryz.ntmps102 rfl ?_
 refine dZ fun K1 hK1=> ?_
 refine an (ai (ed (3,0) _ rfl rfl) (am (hK1 _ ?_)))
 refine dZ fun K2 hK2=> ?_
 refine go 7 ?_
 refine am (hK2 _ ?_)
 refine dZ fun K3 hK3=> ?_
 refine go 4 ?_
 refine ai (aL _ _ aa rfl rfl 0 rfl (by show 0 < [c,y].length;simp) (by show 0 < (iU [c,y]).length;rw [bk];simp) rfl) ?_
 refine ai (bu _ aa rfl (by exact bG [c,y] 0 (by simp)) rfl) ?_
 refine bc (Le.incT (16,0) rfl) ?_
 refine ai (aC aa [((2,9),(2,9)),((2,8),(16,0))] ar (h1) ob tr tr rfl ae ae) ?_
 refine am (hK3 _ ?_)
 refine dZ fun K4 hK4=> ?_
 refine an (bN rfl (bc (Le.incT (18,0) rfl) ?_))
 refine ai (aC aa [((2,9),(16,0)),((2,8),(18,0))] ar (ha) ob tr tr rfl ae ae) ?_
 refine bF rfl (am (hK4 _ ?_))
 refine wQ (σ':=ap 29 [(0,_),(3,_),(4,_),(5,_)] [((1,9),_),((3,0),_),((18,0),_)] [(1,9),(18,0)] [(1,9)]) kp ?_
 refine fu (dl (br _ oz) (dl (br _ nV) (tu (gl (fu (dl (br _ oz) (dl (et _ aa rfl rfl rfl) (dl (bM _ aa rfl rfl nn) (dl (aL _ _ aa rfl rfl 1 rfl (by show 1 < [c,y].length;simp) (by show 0 < (iU [c,y]).length;rw [bk];simp) rfl) ?_)))))))))
 refine dl (bu _ aa rfl (by exact bG [c,y] 1 (by simp)) rfl) ?_
 refine lR (Le.trans (Le.incT (41,0) rfl) (Le.trans (Le.incT (40,0) rfl) (Le.incT (26,0) rfl))) ?_
 refine dl (aC aa [((2,9),(18,0)),((2,8),(26,0))] ar (h2) ob tr tr rfl ae ae) ?_
 refine gl (od (dl (br _ oz) (dl (br _ nV) (tu (oH (DEnd.cons (km aa [((2,9),(26,0)),((2,8),(40,0))] ar he ob tr tr rfl ae ae) (DEnd.cons (km aa [((2,9),(40,0)),((2,8),(41,0))] ar hh ob tr tr rfl ae ae) (DEnd.ret (fw [((2,8),(41,0))])))))))))
abbrev kZ (d v:List Tx) (l:List Hd) (L:List Nd) (cs:List Cd):Prop:= ∀ j,j < L.length→CnS d v l (jf L j) (cs.getD j fun _=> [])
set_option maxHeartbeats 1000000 in
theorem Fo (L:List Nd) (cs:List Cd) (s:Tx) (K n:Nat) (hcs:cs.length=L.length) (hk:kZ d v l L cs) (hC:C.length+(bI cs C.length).length≤800000):
  Spec Tryz.prog 103 (aE [.ptr (1,9) 0,dJ (nd K n s L)] (ek d v l C)) (fv (.tup []) d v l (C++bI cs C.length)):=by
 have hn:(nd K n s L).kn=L.length:=rfl
 have hq:(nd K n s L).kids=iU L:=rfl
 refine Spec.ofNI Tryz.func103 rfl Tryz.ntmps103 rfl ?_
 refine aA ?_
 refine jt 1 3 rfl rfl rfl fun hlen=> ?_
 unfold maxLen at hlen
 refine go 10 ?_
 refine aX (α:=Nat) (fun j=> j≤L.length) 17 [(0,_),(7,_),(8,_)] [] (fun j=> [(9, .v (.int .i64 (j:Int)))]) (fun j=> [((1,9), .box 143 [.sl d.length (dh d), .sl v.length (dh v), .sl l.length (jr l), .ref (2,9) 0 (C++bI (cs.take j) C.length).length]),((2,9), .row 48 2 (inl (C++bI (cs.take j) C.length)))]) [(1,9),(2,9)] [(1,9)] (fun j=> L.length - j) 0 ?_ (by
  refine Le.mkJ [] [] rfl ?_ ?_ trivial tr ?_
  ·exact ⟨(iP rfl),(iS rfl),(iV rfl),(eN ag),trivial⟩
  ·exact ⟨(iq rfl rfl rfl rfl (aB (iu ag ag) (aB (iu ag ag) (aB (iu ag ag) (aB (eH rfl (by (simp [bI]))) bz))))),(im rfl rfl rfl (by (simp [bI]))),trivial⟩
  kernel_rfl) ?_
 ·omega
 intro j hj
 have htk:(bI (cs.take j) C.length).length≤(bI cs C.length).length:=kK
 refine go 3 ?_
 refine ax fun K4 hK4=> ?_
 refine aD rfl (fun hc10=> ?_) (fun hc10=> ?_)
 ·have hs:=re (cs:=cs) (j:=j) (a:=C.length) ab
  have htk1:(bI (cs.take (j+1)) C.length).length≤(bI cs C.length).length:=kK
  have hsl:=congrArg List.length hs
  rw [List.length_append] at hsl
  have hcj:=hk j ab (C++bI (cs.take j) C.length)
  rw [List.length_append] at hcj
  have hcj:=hcj ab
  rw [List.append_assoc,← hs] at hcj
  refine aU (hK4 _ ?_)
  refine aA (aN (aH (ai (aL _ _ aa rfl rfl j rfl ab (by show 0 < (iU L).length;rw [bk];omega) rfl) ?_)))
  refine ai (bu _ aa rfl (by exact bG _ _ ab) rfl) ?_
  refine go 6 ?_
  refine bc (Le.incT (15,0) rfl) ?_
  refine ai (aC aa [((2,9),(2,9)),((2,8),(15,0))] ar (hcj) ob tr tr rfl ae ae) ?_
  refine go 4 ?_
  refine am (⟨j+1,?_,?_,?_⟩)
  ·omega
  ·refine Le.mkJ [((2,9),(15,0))] [] rfl ?_ ?_ trivial tr ?_
   ·exact ⟨(di (id:=(1,9)) rfl),(by repeat' (exact Lv.sl)),(by repeat' (exact Lv.v)),(eN ag),trivial⟩
   ·exact ⟨(iq rfl rfl rfl rfl lz),(im rfl rfl rfl ag),trivial⟩
   kernel_rfl
  omega
 obtain rfl:j=cs.length:=by omega
 rw [List.take_length]
 exact bm (id (fw [((2,8),(2,9))]))
end

inductive VL:List AV→List Value→Prop where
 | nil:VL [] []
 | cons {x:Value} {xs:List AV} {us:List Value} (h:x.oneCell'=true) (t:VL xs us):VL (.v x::xs) (x::us)
inductive VOf:AV→Value→Prop where
 | v {x:Value}:VOf (.v x) x
 | fn {f:Fn}:VOf (.fn f [] []) (.func f #[] #[])
 | agg {xs:List AV} {us:List Value} (h:VL xs us):VOf (.agg xs) (.agg us.toArray)
theorem VL.len {xs:List AV} {us:List Value} (h:VL xs us):us.length=xs.length:=by
 induction h with
 | nil=> rfl
 | cons h t ih=> simp [ih]
theorem VL.one {xs:List AV} {us:List Value} (h:VL xs us): ∀ u∈us,u.oneCell'=true:=by
 induction h with
 | nil=> intro u hu;cases hu
 | cons h t ih=> intro u hu;rcases List.mem_cons.1 hu with rfl | hu <;> first | exact h | exact ih u hu
theorem VL.at {xs:List AV} {us:List Value} (h:VL xs us): ∀ (j:Nat) a,xs[j]? =some a→ ∃ x,a= .v x∧us[j]? =some x:=by
 induction h with
 | nil=> intro j a ha;simp at ha
 | cons h t ih=>
  intro j a ha
  cases j with
  | zero=> simp at ha;exact ⟨_,ha.symm,rfl⟩
  | succ j=> simp at ha;simpa using ih j a ha
theorem VOf.rep {ι:ay→Option dX} {S:Nat→Prop} {w:World} {a:AV} {x:Value} (h:VOf a x):Rep ι S w a x:=by
 cases h with
 | v=> exact .v
 | fn=> exact .fn rfl rfl (fun j p hp=> by cases j <;> cases hp) fun j p hp=> by cases j <;> cases hp
 | agg h=>
  refine .agg (by simp [h.len]) (fun u hu=> h.one u (by simpa using hu)) fun j a ha=> ?_
  obtain ⟨x,rfl,hx⟩:=h.at j a ha
  have: ∀ (l:List Value),l[j]? =some x→l.toArray.getD j undef=x:=fun l hl=> by
   obtain ⟨h1,h2⟩:=List.getElem?_eq_some_iff.1 hl
   simp [Array.getD,h1,h2]
  rw [this _ hx];exact .v
theorem VOf.eq {ι:ay→Option dX} {S:Nat→Prop} {w:World} {a:AV} {x u:Value} (h:VOf a x) (hr:Rep ι S w a u):u=x:=by
 cases h with
 | v=> cases hr;rfl
 | fn=>
  cases hr with
  | fn h1 h2 h3 h4=>
   rename_i us vs
   obtain rfl:us= #[]:=Array.size_eq_zero_iff.1 (by simpa using h1)
   obtain rfl:vs= #[]:=Array.size_eq_zero_iff.1 (by simpa using h2)
   rfl
 | agg h=>
  rename_i xs us
  cases hr with
  | agg h1 h2 h3=>
   rename_i vs
   refine congrArg Value.agg (Array.ext (by simp [h1,h.len]) fun j hj hj'=> ?_)
   have hj2:j < us.length:=by simpa using hj'
   have hj3:j < xs.length:=by rw [← h.len];exact hj2
   obtain ⟨x,hx,hu⟩:=h.at j _ (List.getElem?_eq_getElem hj3)
   have h4:=h3 j _ (List.getElem?_eq_getElem hj3)
   rw [hx] at h4
   generalize hg:vs.getD j undef=q at h4
   cases h4
   simp only [Array.getD,hj,dif_pos] at hg
   obtain ⟨_,h6⟩:=List.getElem?_eq_some_iff.1 hu
   refine Eq.trans ?_ h6.symm
   rw [← hg];rfl
theorem VOf.no {a:AV} {x:Value} {i:ay} (h:VOf a x): ¬ Has i a:=fun hi=> by
 cases h with
 | v=> cases hi
 | fn=> cases hi with | fn1 hm=> cases hm | fn2 hm=> cases hm
 | agg h=>
  cases hi with
  | agg hm ha=>
   obtain ⟨j,hj⟩:=List.mem_iff_getElem?.1 hm
   obtain ⟨x,rfl,_⟩:=h.at j _ hj
   cases ha
def vY:TypeDesc→Bool
 | .int _=> true
 | .string=> true
 | _=> false
variable {P:Program} {T k e:TypeId} {d:TypeDesc}
theorem uA {w:World} {b:Bool} {v:Value} (hk:P.underlying k=some d) (hd:vY d=true):(Instr.checkKey b 10000 k v).run P w= .ok () w:=by
 rw [show (10000:Nat)=9999+1 from rfl,Instr.checkKey]
 cases d <;> first | (simp [run_underlying hk];done) | cases hd
theorem lV {w:World} {es:List MapEntry} {x:Value} {r:Option (Nat×Value)} (hk:P.underlying k=some d) (hf:Instr.findNow d x es 0=some r):(Instr.findKey k x es).run P w= .ok r w:=by
 simp [Instr.findKey,run_underlying hk,hf]
theorem qu {w:World} {g:Nat} {es:List MapEntry} {c:Nat} {x z:Value} (ok:Bool) {r:Option (Nat×Value)} (hT:P.underlying T=some (.map k e)) (hk:P.underlying k=some d) (hd:vY d=true) (hz:(zeroValue e).run P w= .ok z w) (hb:w.heap[g]? =some (.map es.toArray c)) (hf:Instr.findNow d x es 0=some r):
  (Instr.lookup T (.map (some g)) x ok).run P w= .ok (if ok then .tuple #[(r.map (·.2)).getD z, .bool r.isSome] else (r.map (·.2)).getD z) w:=by
 simp only [Instr.lookup,Sem.run_bind,run_underlying hT,Result.andThen_ok,getObj,Sem.run,hb,Result.andThen,uA hk hd,lV hk hf]
 cases r with
 | none=> simp [hz,lV hk hf,Sem.run_map]
 | some p=> obtain ⟨i,v⟩:=p;simp [lV hk hf]
theorem AE {w:World} {g:Nat} {es:List MapEntry} {c:Nat} {x v:Value} (hT:P.underlying T=some (.map k e)) (hk:P.underlying k=some d) (hd:vY d=true) (hb:w.heap[g]? =some (.map es.toArray c)) (hf:Instr.findNow d x es 0=some none):
  (Instr.mapUpdate T (.map (some g)) x v).run P w= .ok () (w.putObj g (.map (es++[(⟨x,v,c⟩:MapEntry)]).toArray (c+1))):=by
 simp only [Instr.mapUpdate,Sem.run_bind,run_underlying hT,Result.andThen_ok,getObj,setObj,Sem.run,hb,Result.andThen,uA hk hd,lV hk hf]
 simp [World.putObj]
section
variable {σ:St}
theorem FX {ik:IntKind} {n:Nat} {dd:Option Tmp} {ty:TypeId} (x y:Operand) (E:Arr P T n 1) (hT:P.underlying T=some (.array n e)) (he:P.underlying e=some (.int ik)) {xs:List AV} (hx:σ.eval x= .agg xs) {k:IntKind} {I:Int} (hy:σ.eval y= .v (.int k I)) (j:Nat) (hI:I=(j:Int)) (hj:j < n) {av:AV} (hv:xs[j]? =some av):Stp P dd (.index T x y) ty σ (σ.put dd av):=by
 intro o hd ho ht
 subst hd;subst hI
 obtain ⟨e',inf,hu,hinf,hs⟩:=E.out
 obtain rfl:e=e':=by rw [hT] at hu;cases hu;rfl
 refine bs fun _ ι S a w R=> ?_
 have hi:=(hy ▸ R.eval y:Rep ι S w (.v (.int k (j:Int))) (a.eval y)).toV
 have hp:=R.eval x
 rw [hx] at hp
 generalize hve:a.eval x=v at hp
 cases hp with
 | agg a1 a2 a3=>
  rename_i us
  have hjs:j < us.size:=by rw [a1];exact (List.getElem?_eq_some_iff.1 hv).1
  have hg:us[j]? =some us[j]:=Array.getElem?_eq_getElem hjs
  have hgd:us.getD j undef=us[j]:=by simp [Array.getD,hjs]
  have hpt:(part e us j).run P w= .ok us[j] w:=by simp [part,isAgg,run_underlying he,hg]
  refine ⟨us[j],?_,hgd ▸ a3 j av hv,fun i h=> R.evalHas x (by rw [hx];exact .agg (List.mem_of_getElem? hv) h)⟩
  simp [execOp,ho,Instr.index,hve,hi,asIntOf,run_underlying hT,sizeOf,typeInfo,hinf,hs,hj,hpt]
theorem eC {dd:Option Tmp} {ty:TypeId} (x y:Operand) (hT:P.underlying T=some (.map k e)) (hk:P.underlying k=some d) (hd:vY d=true) {z:Value} (hz: ∀ w,(zeroValue e).run P w= .ok z w) {id:ay} {es:List MapEntry} {c:Nat} (hx:σ.eval x= .mp id) (hid:σ.ob id= .obj (.mp es c))
  {n:Value} (hy:σ.eval y= .v n) {r:Option (Nat×Value)} (hf:Instr.findNow d n es 0=some r) {u:Value} (hu:(r.map (·.2)).getD z=u) {av:AV} (hv:VOf av u):Stp P dd (.lookup T x y false) ty σ (σ.put dd av):=by
 intro o ho1 ho ht
 subst ho1;subst hu
 refine bs fun K ι S a w R=> ?_
 obtain ⟨B,g,h1,h2,h3,h4⟩:=R.mapAt hx hid
 have hi:=R.eval y
 rw [hy] at hi
 have hi:=hi.toV
 exact ⟨_,by simp only [execOp,ho,h3,hi,qu false hT hk hd (hz w) h4 hf,Sem.run_map,Sem.run_bind,Sem.run_pure,Result.andThen_ok,if_false];rfl,hv.rep,fun i hi=> (hv.no hi).elim⟩
theorem qI {dd:Option Tmp} {ty:TypeId} (x y:Operand) (hT:P.underlying T=some (.map k e)) (hk:P.underlying k=some d) (hd:vY d=true) {z:Value} (hz: ∀ w,(zeroValue e).run P w= .ok z w) {id:ay} {es:List MapEntry} {c:Nat} (hx:σ.eval x= .mp id) (hid:σ.ob id= .obj (.mp es c))
  {n:Value} (hy:σ.eval y= .v n) {r:Option (Nat×Value)} (hf:Instr.findNow d n es 0=some r) {u:Value} (hu:(r.map (·.2)).getD z=u) {av:AV} (hv:VOf av u) {b:Bool} (hb:r.isSome=b):Stp P dd (.lookup T x y true) ty σ (σ.put dd (.tup [av, .v (.bool b)])):=by
 intro o ho1 ho ht
 subst ho1;subst hu;subst hb
 refine bs fun K ι S a w R=> ?_
 obtain ⟨B,g,h1,h2,h3,h4⟩:=R.mapAt hx hid
 have hi:=R.eval y
 rw [hy] at hi
 have hi:=hi.toV
 refine ⟨_,by simp only [execOp,ho,h3,hi,qu true hT hk hd (hz w) h4 hf,Sem.run_map,Sem.run_bind,Sem.run_pure,Result.andThen_ok,if_true];rfl, .tup rfl fun j b hb=> ?_,fun i hi=> ?_⟩
 ·match j,hb with
  | 0,hb=> cases hb;exact hv.rep
  | 1,hb=> cases hb;exact .v
  | j+2,hb=> simp at hb
 cases hi with
 | tup hm h=> simp at hm;rcases hm with rfl | rfl <;> first | exact (hv.no h).elim | cases h
theorem Dp {ty:TypeId} {op:Op} (x y v:Operand) (hop:op= .mapUpdate T x y v∨op= .insert T x y v) (hT:P.underlying T=some (.map k e)) (hk:P.underlying k=some d) (hd:vY d=true) {id:ay} {es es':List MapEntry} {c:Nat} (hx:σ.eval x= .mp id) (hid:σ.ob id= .obj (.mp es c))
  {n:Value} (hy:σ.eval y= .v n) {av:AV} (hav:σ.eval v=av) {u:Value} (hv:VOf av u) (hf:Instr.findNow d n es 0=some none) (he:es++[(⟨n,u,c⟩:MapEntry)]=es'):Stp P none op ty σ ((σ.setOb id (.obj (.mp es' (c+1)))).put none .dead):=by
 intro o ho1 ho ht
 subst he;subst hav
 intro K ι S a w R
 obtain ⟨B,g,h1,h2,h3,h4⟩:=R.mapAt hx hid
 have hi:=R.eval y
 rw [hy] at hi
 have hi:=hi.toV
 have hu:=hv.eq (R.eval v)
 have hrun:(execOp a.eval o).run P w= .ok .skip (w.putObj g (.map (es++[(⟨n,u,c⟩:MapEntry)]).toArray (c+1))):=by
  rcases hop with rfl | rfl <;> simp only [execOp,ho,h3,hi,hu,AE hT hk hd h4 hf,Sem.run_map,Sem.run_bind,Sem.run_pure,Result.andThen_ok]
 have hot: ∀ k,k≠g→(w.putObj g (.map (es++[(⟨n,u,c⟩:MapEntry)]).toArray (c+1))).heap[k]? =w.heap[k]? :=fun k hk=> World.putObj_heap_other hk
 have hk':Keeps (fun k=> B.g=some k) w (w.putObj g (.map (es++[(⟨n,u,c⟩:MapEntry)]).toArray (c+1))):=⟨rfl,rfl,rfl,by simp,fun k _ hn=> hot k fun e=> hn (e ▸ h2)⟩
 have R1:=R.upd (o':= .mp (es++[(⟨n,u,c⟩:MapEntry)]) (c+1)) hid h1 hk' ⟨B,g,h1,h2,by
  have:=(Array.getElem?_eq_some_iff.1 h4).1
  simp [World.putObj,this]⟩ (fun i hi=> hi.elim)
 refine gj hrun ⟨ι,S,?_⟩
 rw [ho1]
 exact R1.put none .dead fun i hi=> by cases hi
theorem aK {ty:TypeId} (x y v:Operand) (hT:P.underlying T=some (.map k e)) (hk:P.underlying k=some d) (hd:vY d=true) {id:ay} {es es':List MapEntry} {c:Nat} (hx:σ.eval x= .mp id) (hid:σ.ob id= .obj (.mp es c))
  {n:Value} (hy:σ.eval y= .v n) {av:AV} (hav:σ.eval v=av) {u:Value} (hv:VOf av u) (hf:Instr.findNow d n es 0=some none) (he:es++[(⟨n,u,c⟩:MapEntry)]=es'):Stp P none (.insert T x y v) ty σ ((σ.setOb id (.obj (.mp es' (c+1)))).put none .dead):=
 Dp x y v (.inr rfl) hT hk hd hx hid hy hav hv hf he
end
end Go.Proofs.YtmjnackchaahbaaGreat

set_option maxHeartbeats 2000000
namespace Go.Proofs.YtmjnackchaahbaaGreat
open Go.RowKit

theorem tf (l:List Tx) (n:Nat) (hn:l.length=n) (h1:n≤1000) (hd:l.Nodup) (i:Nat) (hi:i < n):Spec Tryz.prog 206 (aQ [.sl n (dh l), .v (bt (l.getD i []))] []) (aG (.v (.int .i64 (i:Int))) []):=by
 refine Spec.ofN Tryz.func206 rfl Tryz.ntmps206 rfl ?_
 refine go 10 ?_
 refine aX (α:=Nat) (fun k=> k≤n∧k≤i) 19 [(0,_),(1,_),(7,_)] [] (fun k=> [(8, .v (.int .i64 (k:Int)))]) (fun k=> []) [] [] (fun k=> n - k) 0 ?_ (kj [] [] []) ?_
 ·exact ⟨Nat.zero_le _,Nat.zero_le _⟩
 intro k hk
 obtain ⟨hk,hki⟩:=hk
 refine go 3 ?_
 refine ax fun K5 hK5=> ?_
 refine aD rfl (fun hc9=> ?_) (fun hc9=> ?_)
 ·refine aU (hK5 _ ?_)
  refine go 10 ?_
  refine ai (aL _ _ aa rfl rfl _ rfl ab (by (simp only [aM,aW,aV,bo,bj];omega)) (by exact Nat.mul_one _)) ?_
  refine ai (bh _ aa rfl (by exact ew _ _ ab) rfl) ?_
  refine ai (bJ _ _ Tryz.underlying9 rfl rfl rfl) (aj (aD rfl (fun hc16=> ?_) (fun hc16=> ?_)))
  ·have he:i=k:=jH hd ab ab hc16
   refine aH (bE rfl (bF rfl (aj (aq (oB rfl rfl ?_)))))
   rw [he]
  have he:i≠k:=fun e=> hc16 (by rw [e])
  refine go 4 ?_
  refine am (⟨k+1,?_,?_,?_⟩)
  ·exact ⟨by omega,by omega⟩
  ·exact kj [] [] []
  omega
 exact absurd hki ab
theorem BV (l:List Tx) (n:Nat) (hn:l.length=n) (h1:n≤1000) (t:Tx) (ht:t∉l):Spec Tryz.prog 206 (aQ [.sl n (dh l), .v (bt t)] []) (aG (.v (.int .i64 (-1))) []):=by
 refine Spec.ofN Tryz.func206 rfl Tryz.ntmps206 rfl ?_
 refine aH (bF rfl (aj (ax fun K2 hK2=> ?_)))
 refine go 6 ?_
 refine aX (α:=Nat) (fun k=> k≤n) 19 [(0,_),(1,_),(7,_)] [] (fun k=> [(8, .v (.int .i64 (k:Int)))]) (fun k=> []) [] [] (fun k=> n - k) 0 ?_ (kj [] [] []) ?_
 ·omega
 intro k hk
 refine go 3 ?_
 refine ax fun K5 hK5=> ?_
 refine aD rfl (fun hc9=> ?_) (fun hc9=> ?_)
 ·have hk1:k < l.length:=by omega
  have hkm:l.getD k []∈l:=by rw [List.getD_eq_getElem?_getD,List.getElem?_eq_getElem hk1];exact List.getElem_mem hk1
  have hne:(t==l.getD k [])=false:=beq_eq_false_iff_ne.2 fun e=> ht (e ▸ hkm)
  refine aU (hK5 _ ?_)
  refine go 10 ?_
  refine ai (aL _ _ aa rfl rfl _ rfl ab (by (simp only [aM,aW,aV,bo,bj];omega)) (by exact Nat.mul_one _)) ?_
  refine ai (bh _ aa rfl (by exact ew _ _ ab) rfl) ?_
  refine ai (bJ (r:=false) _ _ Tryz.underlying9 rfl rfl hne) ?_
  refine go 6 ?_
  refine am (⟨k+1,?_,?_,?_⟩)
  ·omega
  ·exact kj [] [] []
  omega
 refine bm (id (hK2 _ ?_))
 refine aH (bF rfl (aj (aq (oB rfl rfl ?_))))
 rfl
theorem nG (d v:List Tx) (no:Nat) (on:List PV) (hn:(d++v).Nodup) (hl:(d++v).length≤1000) (i:Nat) (hi:i < (d++v).length):
  Spec Tryz.prog 178 (aQ [uu d v no on, .v (bt ((d++v).getD i []))] []) (aG (.v (.int .i64 (i:Int))) []):=by
 have hdl:d.length≤1000∧v.length≤1000:=by rw [List.length_append] at hl;omega
 obtain ⟨n1,n2,n3⟩:=List.nodup_append.1 hn
 by_cases h:i < d.length
 ·have e:(d++v).getD i []=d.getD i []:=by rw [List.getD_eq_getElem?_getD,List.getElem?_append_left h,← List.getD_eq_getElem?_getD]
  rw [e]
  have ha:=tf d _ rfl hdl.1 n1 i h
  refine Spec.ofN Tryz.func178 rfl Tryz.ntmps178 rfl ?_
  refine go 9 ?_
  refine ai (au aa al (ha) rfl rfl) ?_
  refine go 11 ?_
  refine aq (oB rfl rfl ?_)
  rfl
 rw [List.length_append] at hi
 obtain ⟨j,rfl⟩: ∃ j,i=d.length+j:=⟨i - d.length,by omega⟩
 have e:(d++v).getD (d.length+j) []=v.getD j []:=by rw [List.getD_eq_getElem?_getD,List.getElem?_append_right ab,Nat.add_sub_cancel_left,← List.getD_eq_getElem?_getD]
 rw [e]
 have hm:v.getD j []∈v:=by rw [List.getD_eq_getElem?_getD,List.getElem?_eq_getElem ab];exact List.getElem_mem ab
 have ha:=BV d _ rfl hdl.1 (v.getD j []) fun hd=> n3 _ hd _ hm rfl
 have hb:=tf v _ rfl hdl.2 n2 j ab
 refine Spec.ofN Tryz.func178 rfl Tryz.ntmps178 rfl ?_
 refine go 9 ?_
 refine ai (au aa al (ha) rfl rfl) ?_
 refine bF rfl (aj (aH (bE rfl (ai (cf (r:=false) _ _ rfl rfl rfl) (go 8 ?_)))))
 refine ai (au aa al (hb) rfl rfl) ?_
 refine go 7 ?_
 refine aA ?_
 refine az (σ':=ap 25 [(2,_),(6,_)] [((2,0),_)] [] []) kp ?_
 refine go 5 ?_
 refine ai (dL (r:=((d.length+j:Nat):Int)) _ _ rfl rfl ((bT ab).trans ab)) ?_
 refine bF rfl (aj (aq (oB rfl rfl ?_)))
 rfl
abbrev KG:List MapEntry:=[⟨bt [115,101,108,102], .int .i64 0,0⟩,⟨bt [110,111,100,101,115], .int .i64 1,1⟩,⟨bt [110,111,119], .int .i64 2,2⟩,⟨bt [102,114,111,109], .int .i64 3,3⟩,⟨bt [97], .int .i64 4,4⟩,⟨bt [98], .int .i64 5,5⟩,⟨bt [105,100], .int .i64 6,6⟩,⟨bt [111,112], .int .i64 7,7⟩,⟨bt [107,101,121], .int .i64 8,8⟩]
theorem AB (k:Nat) (hk:k < 9):Instr.findNow .string (bt (bltT.getD k [])) KG 0=some (some (k, .int .i64 (k:Int))):=by
 rcases k with _ | _ | _ | _ | _ | _ | _ | _ | _ | k
 all_goals first | omega | kernel_rfl
theorem si (k:Nat) (hk:k < 9):Spec Tryz.prog 179 (aQ [.v (bt (bltT.getD k []))] []) (aG (.v (.int .i64 (k:Int))) []):=by
 have hf:=AB k hk
 refine Spec.ofN Tryz.func179 rfl Tryz.ntmps179 rfl ?_
 refine aH (bF rfl (aj (aH (ai (fm (3,0) rfl) (ai (aK _ _ _ Tryz.underlying232 Tryz.underlying9 rfl rfl rfl rfl rfl (.v) ae (rfl:_=[_])) ?_)))))
 refine ai (aK _ _ _ Tryz.underlying232 Tryz.underlying9 rfl rfl rfl rfl rfl (.v) ae (rfl:_=[_,_])) ?_
 refine ai (aK _ _ _ Tryz.underlying232 Tryz.underlying9 rfl rfl rfl rfl rfl (.v) ae (rfl:_=[_,_,_])) ?_
 refine ai (aK _ _ _ Tryz.underlying232 Tryz.underlying9 rfl rfl rfl rfl rfl (.v) ae (rfl:_=[_,_,_,_])) ?_
 refine ai (aK _ _ _ Tryz.underlying232 Tryz.underlying9 rfl rfl rfl rfl rfl (.v) ae (rfl:_=[_,_,_,_,_])) ?_
 refine ai (aK _ _ _ Tryz.underlying232 Tryz.underlying9 rfl rfl rfl rfl rfl (.v) ae (rfl:_=[_,_,_,_,_,_])) ?_
 refine ai (aK _ _ _ Tryz.underlying232 Tryz.underlying9 rfl rfl rfl rfl rfl (.v) ae (rfl:_=[_,_,_,_,_,_,_])) ?_
 refine ai (aK _ _ _ Tryz.underlying232 Tryz.underlying9 rfl rfl rfl rfl rfl (.v) ae (rfl:_=[_,_,_,_,_,_,_,_])) ?_
 refine ai (aK _ _ _ Tryz.underlying232 Tryz.underlying9 rfl rfl rfl rfl rfl (.v) ae (rfl:_=[_,_,_,_,_,_,_,_,_])) ?_
 refine go 2 ?_
 refine ai (eC _ _ Tryz.underlying232 Tryz.underlying9 rfl Tryz.zeroValue3 rfl rfl rfl hf rfl .v) ?_
 exact bF rfl (aj (aq (eu rfl rfl)))
section
variable (d v:List Tx) (l:List Hd) (C C1:List bq)
theorem yf (n:Nat) (L:List Nd) (hc:C1.length≤900000) (hK:Spec Tryz.prog 103 (aE [.ptr (1,9) 0,dJ (nd 12 n [] L)] (ek d v l C)) (fv (.tup []) d v l C1)):
  Spec Tryz.prog 104 (aE [.ptr (1,9) 0,dJ (nd 12 n [] L)] (ek d v l C)) (fv (.tup []) d v l (C1++[(⟨.push,(n:Int)⟩:bq)])):=by
 have ha:=(cp d v l C1 .push (n:Int) ab).1
 refine Spec.ofNI Tryz.func104 rfl Tryz.ntmps104 rfl ?_
 refine go 6 ?_
 refine bc (Le.incT (6,0) rfl) ?_
 refine ai (aC aa [((2,9),(2,9)),((2,8),(6,0))] ar (hK) ob tr tr rfl ae ae) ?_
 refine go 18 ?_
 refine bc (Le.incT (22,0) rfl) ?_
 refine ai (aC aa [((2,9),(6,0)),((2,8),(22,0))] ar (ha) ob tr tr rfl ae ae) ?_
 exact am (fw [((2,8),(22,0))])
theorem vd (n:Nat) (L:List Nd) (hc:C1.length≤900000) (hK:Spec Tryz.prog 103 (aE [.ptr (1,9) 0,dJ (nd 13 n [] L)] (ek d v l C)) (fv (.tup []) d v l C1)):
  Spec Tryz.prog 104 (aE [.ptr (1,9) 0,dJ (nd 13 n [] L)] (ek d v l C)) (fv (.tup []) d v l (C1++[(⟨.push,(n:Int)⟩:bq)])):=by
 have ha:=(cp d v l C1 .push (n:Int) ab).1
 refine Spec.ofNI Tryz.func104 rfl Tryz.ntmps104 rfl ?_
 refine go 6 ?_
 refine bc (Le.incT (6,0) rfl) ?_
 refine ai (aC aa [((2,9),(2,9)),((2,8),(6,0))] ar (hK) ob tr tr rfl ae ae) ?_
 refine go 21 ?_
 refine bc (Le.incT (22,0) rfl) ?_
 refine ai (aC aa [((2,9),(6,0)),((2,8),(22,0))] ar (ha) ob tr tr rfl ae ae) ?_
 exact am (fw [((2,8),(22,0))])
theorem vD (n:Nat) (L:List Nd) (hc:C1.length≤900000) (hK:Spec Tryz.prog 103 (aE [.ptr (1,9) 0,dJ (nd 4 n [] L)] (ek d v l C)) (fv (.tup []) d v l C1)):
  Spec Tryz.prog 104 (aE [.ptr (1,9) 0,dJ (nd 4 n [] L)] (ek d v l C)) (fv (.tup []) d v l (C1++[(⟨.send,(n:Int)⟩:bq)])):=by
 have ha:=(cp d v l C1 .send (n:Int) ab).1
 refine Spec.ofNI Tryz.func104 rfl Tryz.ntmps104 rfl ?_
 refine go 6 ?_
 refine bc (Le.incT (6,0) rfl) ?_
 refine ai (aC aa [((2,9),(2,9)),((2,8),(6,0))] ar (hK) ob tr tr rfl ae ae) ?_
 refine go 32 ?_
 refine aA ?_
 refine az (σ':=ap 70 [(0,_),(3,_),(8,_)] [((1,9),_),((3,0),_),((6,0),_)] [(1,9),(6,0)] [(1,9)]) kp ?_
 refine go 9 ?_
 refine bc (Le.incT (57,0) rfl) ?_
 refine ai (aC aa [((2,9),(6,0)),((2,8),(57,0))] ar (ha) ob tr tr rfl ae ae) ?_
 exact am (fw [((2,8),(57,0))])
theorem tG (n:Nat) (L:List Nd) (hc:C1.length≤900000) (hK:Spec Tryz.prog 103 (aE [.ptr (1,9) 0,dJ (nd 5 n [] L)] (ek d v l C)) (fv (.tup []) d v l C1)):
  Spec Tryz.prog 104 (aE [.ptr (1,9) 0,dJ (nd 5 n [] L)] (ek d v l C)) (fv (.tup []) d v l (C1++[(⟨.timer,(n:Int)⟩:bq)])):=by
 have ha:=(cp d v l C1 .timer (n:Int) ab).1
 refine Spec.ofNI Tryz.func104 rfl Tryz.ntmps104 rfl ?_
 refine go 6 ?_
 refine bc (Le.incT (6,0) rfl) ?_
 refine ai (aC aa [((2,9),(2,9)),((2,8),(6,0))] ar (hK) ob tr tr rfl ae ae) ?_
 refine go 32 ?_
 refine aA ?_
 refine az (σ':=ap 70 [(0,_),(3,_),(8,_)] [((1,9),_),((3,0),_),((6,0),_)] [(1,9),(6,0)] [(1,9)]) kp ?_
 refine go 14 ?_
 refine bc (Le.incT (63,0) rfl) ?_
 refine ai (aC aa [((2,9),(6,0)),((2,8),(63,0))] ar (ha) ob tr tr rfl ae ae) ?_
 exact am (fw [((2,8),(63,0))])
theorem ry (n:Nat) (L:List Nd) (hc:C1.length≤900000) (hK:Spec Tryz.prog 103 (aE [.ptr (1,9) 0,dJ (nd 6 n [] L)] (ek d v l C)) (fv (.tup []) d v l C1)):
  Spec Tryz.prog 104 (aE [.ptr (1,9) 0,dJ (nd 6 n [] L)] (ek d v l C)) (fv (.tup []) d v l (C1++[(⟨.cancel,(n:Int)⟩:bq)])):=by
 have ha:=(cp d v l C1 .cancel (n:Int) ab).1
 refine Spec.ofNI Tryz.func104 rfl Tryz.ntmps104 rfl ?_
 refine go 6 ?_
 refine bc (Le.incT (6,0) rfl) ?_
 refine ai (aC aa [((2,9),(2,9)),((2,8),(6,0))] ar (hK) ob tr tr rfl ae ae) ?_
 refine go 32 ?_
 refine aA ?_
 refine az (σ':=ap 70 [(0,_),(3,_),(8,_)] [((1,9),_),((3,0),_),((6,0),_)] [(1,9),(6,0)] [(1,9)]) kp ?_
 refine go 19 ?_
 refine bc (Le.incT (69,0) rfl) ?_
 refine ai (aC aa [((2,9),(6,0)),((2,8),(69,0))] ar (ha) ob tr tr rfl ae ae) ?_
 exact am (fw [((2,8),(69,0))])
theorem yG (hn:(d++v).Nodup) (hl:(d++v).length≤1000) (i:Nat) (hi:i < (d++v).length) (L:List Nd) (hc:C1.length≤900000) (hK:Spec Tryz.prog 103 (aE [.ptr (1,9) 0,dJ (nd 14 0 ((d++v).getD i []) L)] (ek d v l C)) (fv (.tup []) d v l C1)):
  Spec Tryz.prog 104 (aE [.ptr (1,9) 0,dJ (nd 14 0 ((d++v).getD i []) L)] (ek d v l C)) (fv (.tup []) d v l (C1++[(⟨.var,(i:Int)⟩:bq)])):=by
 have ha:=(cp d v l C1 .var (i:Int) ab).1
 have hx:=nG d v l.length (jr l) hn hl i hi
 refine Spec.ofNI Tryz.func104 rfl Tryz.ntmps104 rfl ?_
 refine go 6 ?_
 refine bc (Le.incT (6,0) rfl) ?_
 refine ai (aC aa [((2,9),(2,9)),((2,8),(6,0))] ar (hK) ob tr tr rfl ae ae) ?_
 refine go 22 ?_
 refine az (Le.incT (33,0) rfl) ?_
 refine dA 8 [] ?_
 refine go 14 ?_
 refine aJ (_,[]) (fun τ=> (au aa al (hx) rfl rfl)) ?_
 refine go 1 ?_
 refine cD ⟨rfl,?_⟩
 refine ai (aC aa [((2,9),(6,0)),((2,8),(33,0))] ar (ha) ob tr tr rfl ae ae) ?_
 exact am (fw [((2,8),(33,0))])
theorem rx (hn:(d++v).Nodup) (hl:(d++v).length≤1000) (i:Nat) (hi:i < (d++v).length) (L:List Nd) (hc:C1.length≤900000) (hK:Spec Tryz.prog 103 (aE [.ptr (1,9) 0,dJ (nd 1 0 ((d++v).getD i []) L)] (ek d v l C)) (fv (.tup []) d v l C1)):
  Spec Tryz.prog 104 (aE [.ptr (1,9) 0,dJ (nd 1 0 ((d++v).getD i []) L)] (ek d v l C)) (fv (.tup []) d v l (C1++[(⟨.setVar,(i:Int)⟩:bq)])):=by
 have ha:=(cp d v l C1 .setVar (i:Int) ab).1
 have hx:=nG d v l.length (jr l) hn hl i hi
 refine Spec.ofNI Tryz.func104 rfl Tryz.ntmps104 rfl ?_
 refine go 6 ?_
 refine bc (Le.incT (6,0) rfl) ?_
 refine ai (aC aa [((2,9),(2,9)),((2,8),(6,0))] ar (hK) ob tr tr rfl ae ae) ?_
 refine go 32 ?_
 refine az (Le.incT (51,0) rfl) ?_
 refine dA 8 [] ?_
 refine go 14 ?_
 refine aJ (_,[]) (fun τ=> (au aa al (hx) rfl rfl)) ?_
 refine go 1 ?_
 refine cD ⟨rfl,?_⟩
 refine ai (aC aa [((2,9),(6,0)),((2,8),(51,0))] ar (ha) ob tr tr rfl ae ae) ?_
 exact am (fw [((2,8),(51,0))])
theorem uQ (k:Nat) (hk:k < 9) (L:List Nd) (hc:C1.length≤900000) (hK:Spec Tryz.prog 103 (aE [.ptr (1,9) 0,dJ (nd 15 0 (bltT.getD k []) L)] (ek d v l C)) (fv (.tup []) d v l C1)):
  Spec Tryz.prog 104 (aE [.ptr (1,9) 0,dJ (nd 15 0 (bltT.getD k []) L)] (ek d v l C)) (fv (.tup []) d v l (C1++[(⟨.name,(k:Int)⟩:bq)])):=by
 have ha:=(cp d v l C1 .name (k:Int) ab).1
 have hx:=si k hk
 refine Spec.ofNI Tryz.func104 rfl Tryz.ntmps104 rfl ?_
 refine go 6 ?_
 refine bc (Le.incT (6,0) rfl) ?_
 refine ai (aC aa [((2,9),(2,9)),((2,8),(6,0))] ar (hK) ob tr tr rfl ae ae) ?_
 refine go 31 ?_
 refine ai (au aa al (hx) rfl rfl) ?_
 refine bc (Le.incT (40,0) rfl) ?_
 refine ai (aC aa [((2,9),(6,0)),((2,8),(40,0))] ar (ha) ob tr tr rfl ae ae) ?_
 exact am (fw [((2,8),(40,0))])
theorem vm (L:List Nd) (hc:C1.length≤900000) (hK:Spec Tryz.prog 103 (aE [.ptr (1,9) 0,dJ (nd 16 0 [] L)] (ek d v l C)) (fv (.tup []) d v l C1)):
  Spec Tryz.prog 104 (aE [.ptr (1,9) 0,dJ (nd 16 0 [] L)] (ek d v l C)) (fv (.tup []) d v l (C1++[(⟨.draw,0⟩:bq)])):=by
 have ha:=(cp d v l C1 .draw 0 ab).1
 refine Spec.ofNI Tryz.func104 rfl Tryz.ntmps104 rfl ?_
 refine go 6 ?_
 refine bc (Le.incT (6,0) rfl) ?_
 refine ai (aC aa [((2,9),(2,9)),((2,8),(6,0))] ar (hK) ob tr tr rfl ae ae) ?_
 refine go 32 ?_
 refine aA ?_
 refine az (σ':=ap 70 [(0,_),(3,_),(8,_)] [((1,9),_),((3,0),_),((6,0),_)] [(1,9),(6,0)] [(1,9)]) kp ?_
 refine go 17 ?_
 refine ai (fm (10,0) rfl) (ai (aK _ _ _ Tryz.underlying190 Tryz.underlying3 rfl rfl rfl rfl rfl (.v) ae (rfl:_=[_])) ?_)
 refine ai (aK _ _ _ Tryz.underlying190 Tryz.underlying3 rfl rfl rfl rfl rfl (.v) ae (rfl:_=[_,_])) ?_
 refine ai (aK _ _ _ Tryz.underlying190 Tryz.underlying3 rfl rfl rfl rfl rfl (.v) ae (rfl:_=[_,_,_])) ?_
 refine ai (aK _ _ _ Tryz.underlying190 Tryz.underlying3 rfl rfl rfl rfl rfl (.v) ae (rfl:_=[_,_,_,_])) ?_
 refine ai (aK _ _ _ Tryz.underlying190 Tryz.underlying3 rfl rfl rfl rfl rfl (.v) ae (rfl:_=[_,_,_,_,_])) ?_
 refine go 3 ?_
 refine ai (eC (r:=some (0, .int .i64 5)) _ _ Tryz.underlying190 Tryz.underlying3 rfl Tryz.zeroValue3 rfl rfl rfl ae rfl .v) ?_
 refine bc (Le.incT (15,0) rfl) ?_
 refine ai (aC aa [((2,9),(6,0)),((2,8),(15,0))] ar (ha) ob tr tr rfl ae ae) ?_
 exact am (fw [((2,8),(15,0))])
theorem vX (L:List Nd) (hc:C1.length≤900000) (hK:Spec Tryz.prog 103 (aE [.ptr (1,9) 0,dJ (nd 7 0 [] L)] (ek d v l C)) (fv (.tup []) d v l C1)):
  Spec Tryz.prog 104 (aE [.ptr (1,9) 0,dJ (nd 7 0 [] L)] (ek d v l C)) (fv (.tup []) d v l (C1++[(⟨.sync,0⟩:bq)])):=by
 have ha:=(cp d v l C1 .sync 0 ab).1
 refine Spec.ofNI Tryz.func104 rfl Tryz.ntmps104 rfl ?_
 refine go 6 ?_
 refine bc (Le.incT (6,0) rfl) ?_
 refine ai (aC aa [((2,9),(2,9)),((2,8),(6,0))] ar (hK) ob tr tr rfl ae ae) ?_
 refine go 32 ?_
 refine aA ?_
 refine az (σ':=ap 70 [(0,_),(3,_),(8,_)] [((1,9),_),((3,0),_),((6,0),_)] [(1,9),(6,0)] [(1,9)]) kp ?_
 refine go 17 ?_
 refine ai (fm (10,0) rfl) (ai (aK _ _ _ Tryz.underlying190 Tryz.underlying3 rfl rfl rfl rfl rfl (.v) ae (rfl:_=[_])) ?_)
 refine ai (aK _ _ _ Tryz.underlying190 Tryz.underlying3 rfl rfl rfl rfl rfl (.v) ae (rfl:_=[_,_])) ?_
 refine ai (aK _ _ _ Tryz.underlying190 Tryz.underlying3 rfl rfl rfl rfl rfl (.v) ae (rfl:_=[_,_,_])) ?_
 refine ai (aK _ _ _ Tryz.underlying190 Tryz.underlying3 rfl rfl rfl rfl rfl (.v) ae (rfl:_=[_,_,_,_])) ?_
 refine ai (aK _ _ _ Tryz.underlying190 Tryz.underlying3 rfl rfl rfl rfl rfl (.v) ae (rfl:_=[_,_,_,_,_])) ?_
 refine go 3 ?_
 refine ai (eC (r:=some (1, .int .i64 20)) _ _ Tryz.underlying190 Tryz.underlying3 rfl Tryz.zeroValue3 rfl rfl rfl ae rfl .v) ?_
 refine bc (Le.incT (15,0) rfl) ?_
 refine ai (aC aa [((2,9),(6,0)),((2,8),(15,0))] ar (ha) ob tr tr rfl ae ae) ?_
 exact am (fw [((2,8),(15,0))])
theorem uU (L:List Nd) (hc:C1.length≤900000) (hK:Spec Tryz.prog 103 (aE [.ptr (1,9) 0,dJ (nd 10 0 [] L)] (ek d v l C)) (fv (.tup []) d v l C1)):
  Spec Tryz.prog 104 (aE [.ptr (1,9) 0,dJ (nd 10 0 [] L)] (ek d v l C)) (fv (.tup []) d v l (C1++[(⟨.stop,0⟩:bq)])):=by
 have ha:=(cp d v l C1 .stop 0 ab).1
 refine Spec.ofNI Tryz.func104 rfl Tryz.ntmps104 rfl ?_
 refine go 6 ?_
 refine bc (Le.incT (6,0) rfl) ?_
 refine ai (aC aa [((2,9),(2,9)),((2,8),(6,0))] ar (hK) ob tr tr rfl ae ae) ?_
 refine go 32 ?_
 refine aA ?_
 refine az (σ':=ap 70 [(0,_),(3,_),(8,_)] [((1,9),_),((3,0),_),((6,0),_)] [(1,9),(6,0)] [(1,9)]) kp ?_
 refine go 17 ?_
 refine ai (fm (10,0) rfl) (ai (aK _ _ _ Tryz.underlying190 Tryz.underlying3 rfl rfl rfl rfl rfl (.v) ae (rfl:_=[_])) ?_)
 refine ai (aK _ _ _ Tryz.underlying190 Tryz.underlying3 rfl rfl rfl rfl rfl (.v) ae (rfl:_=[_,_])) ?_
 refine ai (aK _ _ _ Tryz.underlying190 Tryz.underlying3 rfl rfl rfl rfl rfl (.v) ae (rfl:_=[_,_,_])) ?_
 refine ai (aK _ _ _ Tryz.underlying190 Tryz.underlying3 rfl rfl rfl rfl rfl (.v) ae (rfl:_=[_,_,_,_])) ?_
 refine ai (aK _ _ _ Tryz.underlying190 Tryz.underlying3 rfl rfl rfl rfl rfl (.v) ae (rfl:_=[_,_,_,_,_])) ?_
 refine go 3 ?_
 refine ai (eC (r:=some (2, .int .i64 23)) _ _ Tryz.underlying190 Tryz.underlying3 rfl Tryz.zeroValue3 rfl rfl rfl ae rfl .v) ?_
 refine bc (Le.incT (15,0) rfl) ?_
 refine ai (aC aa [((2,9),(6,0)),((2,8),(15,0))] ar (ha) ob tr tr rfl ae ae) ?_
 exact am (fw [((2,8),(15,0))])
theorem uq (L:List Nd) (hc:C1.length≤900000) (hK:Spec Tryz.prog 103 (aE [.ptr (1,9) 0,dJ (nd 8 0 [] L)] (ek d v l C)) (fv (.tup []) d v l C1)):
  Spec Tryz.prog 104 (aE [.ptr (1,9) 0,dJ (nd 8 0 [] L)] (ek d v l C)) (fv (.tup []) d v l (C1++[(⟨.reply,0⟩:bq)])):=by
 have ha:=(cp d v l C1 .reply 0 ab).1
 refine Spec.ofNI Tryz.func104 rfl Tryz.ntmps104 rfl ?_
 refine go 6 ?_
 refine bc (Le.incT (6,0) rfl) ?_
 refine ai (aC aa [((2,9),(2,9)),((2,8),(6,0))] ar (hK) ob tr tr rfl ae ae) ?_
 refine go 32 ?_
 refine aA ?_
 refine az (σ':=ap 70 [(0,_),(3,_),(8,_)] [((1,9),_),((3,0),_),((6,0),_)] [(1,9),(6,0)] [(1,9)]) kp ?_
 refine go 17 ?_
 refine ai (fm (10,0) rfl) (ai (aK _ _ _ Tryz.underlying190 Tryz.underlying3 rfl rfl rfl rfl rfl (.v) ae (rfl:_=[_])) ?_)
 refine ai (aK _ _ _ Tryz.underlying190 Tryz.underlying3 rfl rfl rfl rfl rfl (.v) ae (rfl:_=[_,_])) ?_
 refine ai (aK _ _ _ Tryz.underlying190 Tryz.underlying3 rfl rfl rfl rfl rfl (.v) ae (rfl:_=[_,_,_])) ?_
 refine ai (aK _ _ _ Tryz.underlying190 Tryz.underlying3 rfl rfl rfl rfl rfl (.v) ae (rfl:_=[_,_,_,_])) ?_
 refine ai (aK _ _ _ Tryz.underlying190 Tryz.underlying3 rfl rfl rfl rfl rfl (.v) ae (rfl:_=[_,_,_,_,_])) ?_
 refine go 3 ?_
 refine ai (eC (r:=some (3, .int .i64 21)) _ _ Tryz.underlying190 Tryz.underlying3 rfl Tryz.zeroValue3 rfl rfl rfl ae rfl .v) ?_
 refine bc (Le.incT (15,0) rfl) ?_
 refine ai (aC aa [((2,9),(6,0)),((2,8),(15,0))] ar (ha) ob tr tr rfl ae ae) ?_
 exact am (fw [((2,8),(15,0))])
theorem vJ (L:List Nd) (hc:C1.length≤900000) (hK:Spec Tryz.prog 103 (aE [.ptr (1,9) 0,dJ (nd 9 0 [] L)] (ek d v l C)) (fv (.tup []) d v l C1)):
  Spec Tryz.prog 104 (aE [.ptr (1,9) 0,dJ (nd 9 0 [] L)] (ek d v l C)) (fv (.tup []) d v l (C1++[(⟨.fail,0⟩:bq)])):=by
 have ha:=(cp d v l C1 .fail 0 ab).1
 refine Spec.ofNI Tryz.func104 rfl Tryz.ntmps104 rfl ?_
 refine go 6 ?_
 refine bc (Le.incT (6,0) rfl) ?_
 refine ai (aC aa [((2,9),(2,9)),((2,8),(6,0))] ar (hK) ob tr tr rfl ae ae) ?_
 refine go 32 ?_
 refine aA ?_
 refine az (σ':=ap 70 [(0,_),(3,_),(8,_)] [((1,9),_),((3,0),_),((6,0),_)] [(1,9),(6,0)] [(1,9)]) kp ?_
 refine go 17 ?_
 refine ai (fm (10,0) rfl) (ai (aK _ _ _ Tryz.underlying190 Tryz.underlying3 rfl rfl rfl rfl rfl (.v) ae (rfl:_=[_])) ?_)
 refine ai (aK _ _ _ Tryz.underlying190 Tryz.underlying3 rfl rfl rfl rfl rfl (.v) ae (rfl:_=[_,_])) ?_
 refine ai (aK _ _ _ Tryz.underlying190 Tryz.underlying3 rfl rfl rfl rfl rfl (.v) ae (rfl:_=[_,_,_])) ?_
 refine ai (aK _ _ _ Tryz.underlying190 Tryz.underlying3 rfl rfl rfl rfl rfl (.v) ae (rfl:_=[_,_,_,_])) ?_
 refine ai (aK _ _ _ Tryz.underlying190 Tryz.underlying3 rfl rfl rfl rfl rfl (.v) ae (rfl:_=[_,_,_,_,_])) ?_
 refine go 3 ?_
 refine ai (eC (r:=some (4, .int .i64 22)) _ _ Tryz.underlying190 Tryz.underlying3 rfl Tryz.zeroValue3 rfl rfl rfl ae rfl .v) ?_
 refine bc (Le.incT (15,0) rfl) ?_
 refine ai (aC aa [((2,9),(6,0)),((2,8),(15,0))] ar (ha) ob tr tr rfl ae ae) ?_
 exact am (fw [((2,8),(15,0))])
theorem vA (L:List Nd) (hc:C1.length≤900000) (hK:Spec Tryz.prog 103 (aE [.ptr (1,9) 0,dJ (nd 17 0 [45] L)] (ek d v l C)) (fv (.tup []) d v l C1)):
  Spec Tryz.prog 99 (aE [.ptr (1,9) 0,dJ (nd 17 0 [45] L)] (ek d v l C)) (fv (.tup []) d v l (C1++[(⟨.neg,0⟩:bq)])):=by
 have ha:=(cp d v l C1 .neg 0 ab).1
 refine Spec.ofNI Tryz.func99 rfl Tryz.ntmps99 rfl ?_
 refine go 6 ?_
 refine bc (Le.incT (6,0) rfl) ?_
 refine ai (aC aa [((2,9),(2,9)),((2,8),(6,0))] ar (hK) ob tr tr rfl ae ae) ?_
 refine go 9 ?_
 refine bc (Le.incT (11,0) rfl) ?_
 refine ai (aC aa [((2,9),(6,0)),((2,8),(11,0))] ar (ha) ob tr tr rfl ae ae) ?_
 exact am (fw [((2,8),(11,0))])
theorem vg (L:List Nd) (hc:C1.length≤900000) (hK:Spec Tryz.prog 103 (aE [.ptr (1,9) 0,dJ (nd 17 0 [33] L)] (ek d v l C)) (fv (.tup []) d v l C1)):
  Spec Tryz.prog 99 (aE [.ptr (1,9) 0,dJ (nd 17 0 [33] L)] (ek d v l C)) (fv (.tup []) d v l (C1++[(⟨.not,0⟩:bq)])):=by
 have ha:=(cp d v l C1 .not 0 ab).1
 refine Spec.ofNI Tryz.func99 rfl Tryz.ntmps99 rfl ?_
 refine go 6 ?_
 refine bc (Le.incT (6,0) rfl) ?_
 refine ai (aC aa [((2,9),(2,9)),((2,8),(6,0))] ar (hK) ob tr tr rfl ae ae) ?_
 refine go 9 ?_
 refine bc (Le.incT (13,0) rfl) ?_
 refine ai (aC aa [((2,9),(6,0)),((2,8),(13,0))] ar (ha) ob tr tr rfl ae ae) ?_
 exact am (fw [((2,8),(13,0))])
abbrev Kd:List MapEntry:=[⟨bt [43], .int .i64 6,0⟩,⟨bt [45], .int .i64 7,1⟩,⟨bt [42], .int .i64 8,2⟩,⟨bt [47], .int .i64 9,3⟩,⟨bt [60], .int .i64 11,4⟩,⟨bt [62,61], .int .i64 11,5⟩,⟨bt [60,61], .int .i64 12,6⟩,⟨bt [62], .int .i64 12,7⟩,⟨bt [61,61], .int .i64 13,8⟩,⟨bt [33,61], .int .i64 13,9⟩]
theorem lH (t:Tx) (o:Opc) (i:Nat) (h1:(t==[38,38])=false) (h2:(t==[124,124])=false) (hf:Instr.findNow .string (bt t) Kd 0=some (some (i, .int .i64 (o.num:Int)))) (g0:(t==[62])=false) (g1:(t==[62,61])=false) (g2:(t==[33,61])=false) (L:List Nd) (hc:C1.length≤900000) (hK:Spec Tryz.prog 103 (aE [.ptr (1,9) 0,dJ (nd 18 0 t L)] (ek d v l C)) (fv (.tup []) d v l C1)):
  Spec Tryz.prog 100 (aE [.ptr (1,9) 0,dJ (nd 18 0 t L)] (ek d v l C)) (fv (.tup []) d v l (C1++[(⟨o,0⟩:bq)])):=by
 have ha:=(cp d v l C1 o 0 ab).1
 refine Spec.ofNI Tryz.func100 rfl Tryz.ntmps100 rfl ?_
 refine go 5 ?_
 refine ai (gD _ _ (rfl:_=[]) (rfl:_=[AV.ptr _ _,AV.ptr _ _])) ?_
 refine go 9 ?_
 refine ai (bJ (r:=false) _ _ Tryz.underlying9 rfl rfl h1) ?_
 refine gP rfl (aj (cd rfl rfl (aH (ai (bJ (r:=false) _ _ Tryz.underlying9 rfl rfl h2) ?_))))
 refine go 7 ?_
 refine bc (Le.incT (30,0) rfl) ?_
 refine ai (aC aa [((2,9),(2,9)),((2,8),(30,0))] ar (hK) ob tr tr rfl ae ae) ?_
 refine aj (ax fun K8 hK8=> ?_)
 refine go 2 ?_
 refine ai (fm (32,0) rfl) (ai (aK _ _ _ Tryz.underlying232 Tryz.underlying9 rfl rfl rfl rfl rfl (.v) ae (rfl:_=[_])) ?_)
 refine ai (aK _ _ _ Tryz.underlying232 Tryz.underlying9 rfl rfl rfl rfl rfl (.v) ae (rfl:_=[_,_])) ?_
 refine ai (aK _ _ _ Tryz.underlying232 Tryz.underlying9 rfl rfl rfl rfl rfl (.v) ae (rfl:_=[_,_,_])) ?_
 refine ai (aK _ _ _ Tryz.underlying232 Tryz.underlying9 rfl rfl rfl rfl rfl (.v) ae (rfl:_=[_,_,_,_])) ?_
 refine ai (aK _ _ _ Tryz.underlying232 Tryz.underlying9 rfl rfl rfl rfl rfl (.v) ae (rfl:_=[_,_,_,_,_])) ?_
 refine ai (aK _ _ _ Tryz.underlying232 Tryz.underlying9 rfl rfl rfl rfl rfl (.v) ae (rfl:_=[_,_,_,_,_,_])) ?_
 refine ai (aK _ _ _ Tryz.underlying232 Tryz.underlying9 rfl rfl rfl rfl rfl (.v) ae (rfl:_=[_,_,_,_,_,_,_])) ?_
 refine ai (aK _ _ _ Tryz.underlying232 Tryz.underlying9 rfl rfl rfl rfl rfl (.v) ae (rfl:_=[_,_,_,_,_,_,_,_])) ?_
 refine ai (aK _ _ _ Tryz.underlying232 Tryz.underlying9 rfl rfl rfl rfl rfl (.v) ae (rfl:_=[_,_,_,_,_,_,_,_,_])) ?_
 refine ai (aK _ _ _ Tryz.underlying232 Tryz.underlying9 rfl rfl rfl rfl rfl (.v) ae (rfl:_=[_,_,_,_,_,_,_,_,_,_])) ?_
 refine go 3 ?_
 refine ai (eC _ _ Tryz.underlying232 Tryz.underlying9 rfl Tryz.zeroValue3 rfl rfl rfl hf rfl .v) ?_
 refine bc (Le.incT (37,0) rfl) ?_
 refine ai (aC aa [((2,9),(30,0)),((2,8),(37,0))] ar (ha) ob tr tr rfl ae ae) ?_
 refine am (hK8 _ ?_)
 refine aA ?_
 refine az (σ':=ap 46 [(2,_),(3,_)] [((1,9),_),((2,0),_),((3,0),_),((37,0),_)] [(1,9),(37,0)] [(1,9)]) kp ?_
 refine go 7 ?_
 refine ai (bJ (r:=false) _ _ Tryz.underlying9 rfl rfl g0) ?_
 refine gP rfl (aj (cd rfl rfl (aH (ai (bJ (r:=false) _ _ Tryz.underlying9 rfl rfl g1) ?_))))
 refine gP rfl (aj (cd rfl rfl (an (ai (bJ (r:=false) _ _ Tryz.underlying9 rfl rfl g2) ?_))))
 exact gP rfl (aj (cd rfl rfl (aU (fw [((2,8),(37,0))]))))
theorem EP (t:Tx) (o:Opc) (i:Nat) (h1:(t==[38,38])=false) (h2:(t==[124,124])=false) (hf:Instr.findNow .string (bt t) Kd 0=some (some (i, .int .i64 (o.num:Int)))) (g0:(t==[62])=true) (L:List Nd) (hc:C1.length≤900000) (hK:Spec Tryz.prog 103 (aE [.ptr (1,9) 0,dJ (nd 18 0 t L)] (ek d v l C)) (fv (.tup []) d v l C1)):
  Spec Tryz.prog 100 (aE [.ptr (1,9) 0,dJ (nd 18 0 t L)] (ek d v l C)) (fv (.tup []) d v l (C1++[(⟨o,0⟩:bq)]++[(⟨.not,0⟩:bq)])):=by
 have ha:=(cp d v l C1 o 0 ab).1
 have hb:=(cp d v l (C1++[(⟨o,0⟩:bq)]) .not 0 (by simp;omega)).1
 refine Spec.ofNI Tryz.func100 rfl Tryz.ntmps100 rfl ?_
 refine go 5 ?_
 refine ai (gD _ _ (rfl:_=[]) (rfl:_=[AV.ptr _ _,AV.ptr _ _])) ?_
 refine go 9 ?_
 refine ai (bJ (r:=false) _ _ Tryz.underlying9 rfl rfl h1) ?_
 refine gP rfl (aj (cd rfl rfl (aH (ai (bJ (r:=false) _ _ Tryz.underlying9 rfl rfl h2) ?_))))
 refine go 7 ?_
 refine bc (Le.incT (30,0) rfl) ?_
 refine ai (aC aa [((2,9),(2,9)),((2,8),(30,0))] ar (hK) ob tr tr rfl ae ae) ?_
 refine aj (ax fun K8 hK8=> ?_)
 refine go 2 ?_
 refine ai (fm (32,0) rfl) (ai (aK _ _ _ Tryz.underlying232 Tryz.underlying9 rfl rfl rfl rfl rfl (.v) ae (rfl:_=[_])) ?_)
 refine ai (aK _ _ _ Tryz.underlying232 Tryz.underlying9 rfl rfl rfl rfl rfl (.v) ae (rfl:_=[_,_])) ?_
 refine ai (aK _ _ _ Tryz.underlying232 Tryz.underlying9 rfl rfl rfl rfl rfl (.v) ae (rfl:_=[_,_,_])) ?_
 refine ai (aK _ _ _ Tryz.underlying232 Tryz.underlying9 rfl rfl rfl rfl rfl (.v) ae (rfl:_=[_,_,_,_])) ?_
 refine ai (aK _ _ _ Tryz.underlying232 Tryz.underlying9 rfl rfl rfl rfl rfl (.v) ae (rfl:_=[_,_,_,_,_])) ?_
 refine ai (aK _ _ _ Tryz.underlying232 Tryz.underlying9 rfl rfl rfl rfl rfl (.v) ae (rfl:_=[_,_,_,_,_,_])) ?_
 refine ai (aK _ _ _ Tryz.underlying232 Tryz.underlying9 rfl rfl rfl rfl rfl (.v) ae (rfl:_=[_,_,_,_,_,_,_])) ?_
 refine ai (aK _ _ _ Tryz.underlying232 Tryz.underlying9 rfl rfl rfl rfl rfl (.v) ae (rfl:_=[_,_,_,_,_,_,_,_])) ?_
 refine ai (aK _ _ _ Tryz.underlying232 Tryz.underlying9 rfl rfl rfl rfl rfl (.v) ae (rfl:_=[_,_,_,_,_,_,_,_,_])) ?_
 refine ai (aK _ _ _ Tryz.underlying232 Tryz.underlying9 rfl rfl rfl rfl rfl (.v) ae (rfl:_=[_,_,_,_,_,_,_,_,_,_])) ?_
 refine go 3 ?_
 refine ai (eC _ _ Tryz.underlying232 Tryz.underlying9 rfl Tryz.zeroValue3 rfl rfl rfl hf rfl .v) ?_
 refine bc (Le.incT (37,0) rfl) ?_
 refine ai (aC aa [((2,9),(30,0)),((2,8),(37,0))] ar (ha) ob tr tr rfl ae ae) ?_
 refine am (hK8 _ ?_)
 refine aA ?_
 refine az (σ':=ap 46 [(2,_),(3,_)] [((1,9),_),((2,0),_),((3,0),_),((37,0),_)] [(1,9),(37,0)] [(1,9)]) kp ?_
 refine go 7 ?_
 refine ai (bJ (r:=true) _ _ Tryz.underlying9 rfl rfl g0) ?_
 refine go 7 ?_
 refine bc (Le.incT (45,0) rfl) ?_
 refine ai (aC aa [((2,9),(37,0)),((2,8),(45,0))] ar (hb) ob tr tr rfl ae ae) ?_
 exact am (fw [((2,8),(45,0))])
theorem Da (t:Tx) (o:Opc) (i:Nat) (h1:(t==[38,38])=false) (h2:(t==[124,124])=false) (hf:Instr.findNow .string (bt t) Kd 0=some (some (i, .int .i64 (o.num:Int)))) (g0:(t==[62])=false) (g1:(t==[62,61])=true) (L:List Nd) (hc:C1.length≤900000) (hK:Spec Tryz.prog 103 (aE [.ptr (1,9) 0,dJ (nd 18 0 t L)] (ek d v l C)) (fv (.tup []) d v l C1)):
  Spec Tryz.prog 100 (aE [.ptr (1,9) 0,dJ (nd 18 0 t L)] (ek d v l C)) (fv (.tup []) d v l (C1++[(⟨o,0⟩:bq)]++[(⟨.not,0⟩:bq)])):=by
 have ha:=(cp d v l C1 o 0 ab).1
 have hb:=(cp d v l (C1++[(⟨o,0⟩:bq)]) .not 0 (by simp;omega)).1
 refine Spec.ofNI Tryz.func100 rfl Tryz.ntmps100 rfl ?_
 refine go 5 ?_
 refine ai (gD _ _ (rfl:_=[]) (rfl:_=[AV.ptr _ _,AV.ptr _ _])) ?_
 refine go 9 ?_
 refine ai (bJ (r:=false) _ _ Tryz.underlying9 rfl rfl h1) ?_
 refine gP rfl (aj (cd rfl rfl (aH (ai (bJ (r:=false) _ _ Tryz.underlying9 rfl rfl h2) ?_))))
 refine go 7 ?_
 refine bc (Le.incT (30,0) rfl) ?_
 refine ai (aC aa [((2,9),(2,9)),((2,8),(30,0))] ar (hK) ob tr tr rfl ae ae) ?_
 refine aj (ax fun K8 hK8=> ?_)
 refine go 2 ?_
 refine ai (fm (32,0) rfl) (ai (aK _ _ _ Tryz.underlying232 Tryz.underlying9 rfl rfl rfl rfl rfl (.v) ae (rfl:_=[_])) ?_)
 refine ai (aK _ _ _ Tryz.underlying232 Tryz.underlying9 rfl rfl rfl rfl rfl (.v) ae (rfl:_=[_,_])) ?_
 refine ai (aK _ _ _ Tryz.underlying232 Tryz.underlying9 rfl rfl rfl rfl rfl (.v) ae (rfl:_=[_,_,_])) ?_
 refine ai (aK _ _ _ Tryz.underlying232 Tryz.underlying9 rfl rfl rfl rfl rfl (.v) ae (rfl:_=[_,_,_,_])) ?_
 refine ai (aK _ _ _ Tryz.underlying232 Tryz.underlying9 rfl rfl rfl rfl rfl (.v) ae (rfl:_=[_,_,_,_,_])) ?_
 refine ai (aK _ _ _ Tryz.underlying232 Tryz.underlying9 rfl rfl rfl rfl rfl (.v) ae (rfl:_=[_,_,_,_,_,_])) ?_
 refine ai (aK _ _ _ Tryz.underlying232 Tryz.underlying9 rfl rfl rfl rfl rfl (.v) ae (rfl:_=[_,_,_,_,_,_,_])) ?_
 refine ai (aK _ _ _ Tryz.underlying232 Tryz.underlying9 rfl rfl rfl rfl rfl (.v) ae (rfl:_=[_,_,_,_,_,_,_,_])) ?_
 refine ai (aK _ _ _ Tryz.underlying232 Tryz.underlying9 rfl rfl rfl rfl rfl (.v) ae (rfl:_=[_,_,_,_,_,_,_,_,_])) ?_
 refine ai (aK _ _ _ Tryz.underlying232 Tryz.underlying9 rfl rfl rfl rfl rfl (.v) ae (rfl:_=[_,_,_,_,_,_,_,_,_,_])) ?_
 refine go 3 ?_
 refine ai (eC _ _ Tryz.underlying232 Tryz.underlying9 rfl Tryz.zeroValue3 rfl rfl rfl hf rfl .v) ?_
 refine bc (Le.incT (37,0) rfl) ?_
 refine ai (aC aa [((2,9),(30,0)),((2,8),(37,0))] ar (ha) ob tr tr rfl ae ae) ?_
 refine am (hK8 _ ?_)
 refine aA ?_
 refine az (σ':=ap 46 [(2,_),(3,_)] [((1,9),_),((2,0),_),((3,0),_),((37,0),_)] [(1,9),(37,0)] [(1,9)]) kp ?_
 refine go 7 ?_
 refine ai (bJ (r:=false) _ _ Tryz.underlying9 rfl rfl g0) ?_
 refine gP rfl (aj (cd rfl rfl (aH (ai (bJ (r:=true) _ _ Tryz.underlying9 rfl rfl g1) ?_))))
 refine go 7 ?_
 refine bc (Le.incT (45,0) rfl) ?_
 refine ai (aC aa [((2,9),(37,0)),((2,8),(45,0))] ar (hb) ob tr tr rfl ae ae) ?_
 exact am (fw [((2,8),(45,0))])
theorem CR (t:Tx) (o:Opc) (i:Nat) (h1:(t==[38,38])=false) (h2:(t==[124,124])=false) (hf:Instr.findNow .string (bt t) Kd 0=some (some (i, .int .i64 (o.num:Int)))) (g0:(t==[62])=false) (g1:(t==[62,61])=false) (g2:(t==[33,61])=true) (L:List Nd) (hc:C1.length≤900000) (hK:Spec Tryz.prog 103 (aE [.ptr (1,9) 0,dJ (nd 18 0 t L)] (ek d v l C)) (fv (.tup []) d v l C1)):
  Spec Tryz.prog 100 (aE [.ptr (1,9) 0,dJ (nd 18 0 t L)] (ek d v l C)) (fv (.tup []) d v l (C1++[(⟨o,0⟩:bq)]++[(⟨.not,0⟩:bq)])):=by
 have ha:=(cp d v l C1 o 0 ab).1
 have hb:=(cp d v l (C1++[(⟨o,0⟩:bq)]) .not 0 (by simp;omega)).1
 refine Spec.ofNI Tryz.func100 rfl Tryz.ntmps100 rfl ?_
 refine go 5 ?_
 refine ai (gD _ _ (rfl:_=[]) (rfl:_=[AV.ptr _ _,AV.ptr _ _])) ?_
 refine go 9 ?_
 refine ai (bJ (r:=false) _ _ Tryz.underlying9 rfl rfl h1) ?_
 refine gP rfl (aj (cd rfl rfl (aH (ai (bJ (r:=false) _ _ Tryz.underlying9 rfl rfl h2) ?_))))
 refine go 7 ?_
 refine bc (Le.incT (30,0) rfl) ?_
 refine ai (aC aa [((2,9),(2,9)),((2,8),(30,0))] ar (hK) ob tr tr rfl ae ae) ?_
 refine aj (ax fun K8 hK8=> ?_)
 refine go 2 ?_
 refine ai (fm (32,0) rfl) (ai (aK _ _ _ Tryz.underlying232 Tryz.underlying9 rfl rfl rfl rfl rfl (.v) ae (rfl:_=[_])) ?_)
 refine ai (aK _ _ _ Tryz.underlying232 Tryz.underlying9 rfl rfl rfl rfl rfl (.v) ae (rfl:_=[_,_])) ?_
 refine ai (aK _ _ _ Tryz.underlying232 Tryz.underlying9 rfl rfl rfl rfl rfl (.v) ae (rfl:_=[_,_,_])) ?_
 refine ai (aK _ _ _ Tryz.underlying232 Tryz.underlying9 rfl rfl rfl rfl rfl (.v) ae (rfl:_=[_,_,_,_])) ?_
 refine ai (aK _ _ _ Tryz.underlying232 Tryz.underlying9 rfl rfl rfl rfl rfl (.v) ae (rfl:_=[_,_,_,_,_])) ?_
 refine ai (aK _ _ _ Tryz.underlying232 Tryz.underlying9 rfl rfl rfl rfl rfl (.v) ae (rfl:_=[_,_,_,_,_,_])) ?_
 refine ai (aK _ _ _ Tryz.underlying232 Tryz.underlying9 rfl rfl rfl rfl rfl (.v) ae (rfl:_=[_,_,_,_,_,_,_])) ?_
 refine ai (aK _ _ _ Tryz.underlying232 Tryz.underlying9 rfl rfl rfl rfl rfl (.v) ae (rfl:_=[_,_,_,_,_,_,_,_])) ?_
 refine ai (aK _ _ _ Tryz.underlying232 Tryz.underlying9 rfl rfl rfl rfl rfl (.v) ae (rfl:_=[_,_,_,_,_,_,_,_,_])) ?_
 refine ai (aK _ _ _ Tryz.underlying232 Tryz.underlying9 rfl rfl rfl rfl rfl (.v) ae (rfl:_=[_,_,_,_,_,_,_,_,_,_])) ?_
 refine go 3 ?_
 refine ai (eC _ _ Tryz.underlying232 Tryz.underlying9 rfl Tryz.zeroValue3 rfl rfl rfl hf rfl .v) ?_
 refine bc (Le.incT (37,0) rfl) ?_
 refine ai (aC aa [((2,9),(30,0)),((2,8),(37,0))] ar (ha) ob tr tr rfl ae ae) ?_
 refine am (hK8 _ ?_)
 refine aA ?_
 refine az (σ':=ap 46 [(2,_),(3,_)] [((1,9),_),((2,0),_),((3,0),_),((37,0),_)] [(1,9),(37,0)] [(1,9)]) kp ?_
 refine go 7 ?_
 refine ai (bJ (r:=false) _ _ Tryz.underlying9 rfl rfl g0) ?_
 refine gP rfl (aj (cd rfl rfl (aH (ai (bJ (r:=false) _ _ Tryz.underlying9 rfl rfl g1) ?_))))
 refine gP rfl (aj (cd rfl rfl (an (ai (bJ (r:=true) _ _ Tryz.underlying9 rfl rfl g2) ?_))))
 refine go 5 ?_
 refine bc (Le.incT (45,0) rfl) ?_
 refine ai (aC aa [((2,9),(37,0)),((2,8),(45,0))] ar (hb) ob tr tr rfl ae ae) ?_
 exact am (fw [((2,8),(45,0))])
end
end Go.Proofs.YtmjnackchaahbaaGreat

set_option maxHeartbeats 2000000
namespace Go.Proofs.YtmjnackchaahbaaGreat
open Go.RowKit

abbrev Nl:List MapEntry:=[⟨.int .i64 17, .func (.func 99) #[] #[],0⟩,⟨.int .i64 18, .func (.func 100) #[] #[],1⟩,⟨.int .i64 2, .func (.func 101) #[] #[],2⟩,⟨.int .i64 3, .func (.func 102) #[] #[],3⟩,⟨.int .i64 11, .func (.func 103) #[] #[],4⟩]
section
variable (d v:List Tx) (l:List Hd) (C C1:List bq)
theorem iz (N:Nd) (f i:Nat) [ce Tryz.prog f] (hf:Instr.findNow (.int .i64) (.int .i64 (N.k:Int)) Nl 0=some (some (i, .func (.func f) #[] #[]))) (hB:Spec Tryz.prog f (aE [.ptr (1,9) 0,dJ N] (ek d v l C)) (fv (.tup []) d v l C1)):
  Spec Tryz.prog 68 (aE [.ptr (1,9) 0,dJ N] (ek d v l C)) (fv (.tup []) d v l C1):=by
 refine Spec.ofNI Tryz.func68 rfl Tryz.ntmps68 rfl ?_
 refine go 4 ?_
 refine ai (fm (7,0) rfl) (ai (aK _ _ _ Tryz.underlying187 Tryz.underlying3 rfl rfl rfl rfl rfl (.fn) ae (rfl:_=[_])) ?_)
 refine ai (aK _ _ _ Tryz.underlying187 Tryz.underlying3 rfl rfl rfl rfl rfl (.fn) ae (rfl:_=[_,_])) ?_
 refine ai (aK _ _ _ Tryz.underlying187 Tryz.underlying3 rfl rfl rfl rfl rfl (.fn) ae (rfl:_=[_,_,_])) ?_
 refine ai (aK _ _ _ Tryz.underlying187 Tryz.underlying3 rfl rfl rfl rfl rfl (.fn) ae (rfl:_=[_,_,_,_])) ?_
 refine ai (aK _ _ _ Tryz.underlying187 Tryz.underlying3 rfl rfl rfl rfl rfl (.fn) ae (rfl:_=[_,_,_,_,_])) ?_
 refine go 3 ?_
 refine ai (qI _ _ Tryz.underlying187 Tryz.underlying3 rfl Tryz.zeroValue185 rfl rfl rfl hf rfl .fn rfl) ?_
 refine go 7 ?_
 refine aA ?_
 refine az (σ':=ap 20 [(0,_),(3,_),(4,_),(5,_)] [((1,9),_),((2,9),_),((3,0),_)] [(1,9),(2,9)] [(1,9)]) kp ?_
 refine go 10 ?_
 refine bc (Le.incT (19,0) rfl) ?_
 refine ai (dN rfl aa [((2,9),(2,9)),((2,8),(19,0))] ar (hB) ob tr tr rfl ae ae) ?_
 exact am (fw [((2,8),(19,0))])
theorem eL (N:Nd) (hf:Instr.findNow (.int .i64) (.int .i64 (N.k:Int)) Nl 0=some none) (hB:Spec Tryz.prog 104 (aE [.ptr (1,9) 0,dJ N] (ek d v l C)) (fv (.tup []) d v l C1)):
  Spec Tryz.prog 68 (aE [.ptr (1,9) 0,dJ N] (ek d v l C)) (fv (.tup []) d v l C1):=by
 refine Spec.ofNI Tryz.func68 rfl Tryz.ntmps68 rfl ?_
 refine go 4 ?_
 refine ai (fm (7,0) rfl) (ai (aK _ _ _ Tryz.underlying187 Tryz.underlying3 rfl rfl rfl rfl rfl (.fn) ae (rfl:_=[_])) ?_)
 refine ai (aK _ _ _ Tryz.underlying187 Tryz.underlying3 rfl rfl rfl rfl rfl (.fn) ae (rfl:_=[_,_])) ?_
 refine ai (aK _ _ _ Tryz.underlying187 Tryz.underlying3 rfl rfl rfl rfl rfl (.fn) ae (rfl:_=[_,_,_])) ?_
 refine ai (aK _ _ _ Tryz.underlying187 Tryz.underlying3 rfl rfl rfl rfl rfl (.fn) ae (rfl:_=[_,_,_,_])) ?_
 refine ai (aK _ _ _ Tryz.underlying187 Tryz.underlying3 rfl rfl rfl rfl rfl (.fn) ae (rfl:_=[_,_,_,_,_])) ?_
 refine go 3 ?_
 refine ai (qI _ _ Tryz.underlying187 Tryz.underlying3 rfl Tryz.zeroValue185 rfl rfl rfl hf rfl .v rfl) ?_
 refine go 7 ?_
 refine aA ?_
 refine az (σ':=ap 20 [(0,_),(3,_),(4,_),(5,_)] [((1,9),_),((2,9),_),((3,0),_)] [(1,9),(2,9)] [(1,9)]) (by
  refine Le.mkJ [] [] rfl ?_ ?_ trivial tr ?_
  ·exact ⟨(iP rfl),(iP rfl),(by exact iV rfl),(iV rfl),trivial⟩
  ·exact ⟨(dc rfl rfl rfl),(dc rfl rfl rfl),(dc rfl rfl rfl),trivial⟩
  kernel_rfl) ?_
 refine go 12 ?_
 refine bc (Le.incT (19,0) rfl) ?_
 refine ai (dN rfl aa [((2,9),(2,9)),((2,8),(19,0))] ar (hB) ob tr tr rfl ae ae) ?_
 exact am (fw [((2,8),(19,0))])
theorem BW (c y:Nd) (cc cy:Cd) (hc:CnS d v l c cc) (hy:CnS d v l y cy) (hC:C.length+(pu cc cy (fun _=> [{ op:= .push,n:=0 }]) C.length).length≤800000):
  Spec Tryz.prog 100 (aE [.ptr (1,9) 0,dJ (nd 18 0 [38,38] [c,y])] (ek d v l C)) (fv (.tup []) d v l (C++pu cc cy (fun _=> [{ op:= .push,n:=0 }]) C.length)):=by
 obtain ⟨b,hb⟩: ∃ b,b=pu cc cy (fun _=> [{ op:= .push,n:=0 }]) C.length:=⟨_,rfl⟩
 rw [← hb] at hC ⊢
 unfold pu at hb
 dsimp only at hb
 have hbl:=congrArg List.length hb
 simp only [List.length_append,List.length_cons,List.length_nil] at hbl
 have h1:=hc C ab
 generalize cc C.length=X at h1 hb hbl
 have l2:(C++X++[(⟨.unl,0⟩:bq)]).length=C.length+X.length+1:=by simp;omega
 have h2:=hy (C++X++[(⟨.unl,0⟩:bq)]) (by rw [l2];omega)
 rw [l2] at h2
 generalize cy (C.length+X.length+1)=Y at h2 hb hbl
 have k3:=xd d v l (C++X++[(⟨.unl,0⟩:bq)]) (C++X++[(⟨.unl,0⟩:bq)]++Y) [c,y] [38,38] 18 0 (by simp) h2
 have l4:(C++X++[(⟨.unl,0⟩:bq)]++Y++[(⟨.jump,0⟩:bq)]).length=C.length+X.length+1+Y.length+1:=by simp;omega
 have k6:=Au d v l (hG (C++X++[(⟨.unl,0⟩:bq)]++Y++[(⟨.jump,0⟩:bq)]) (C++X).length ((C++X++[(⟨.unl,0⟩:bq)]++Y++[(⟨.jump,0⟩:bq)]).length:Int)) (nd 18 0 [38,38] [c,y]) (by rw [hX,l4];omega)
 have l6:=Hy (Z:=[(⟨.push,0⟩:bq)]) (k:=(C++X).length) (x:=((C++X++[(⟨.unl,0⟩:bq)]++Y++[(⟨.jump,0⟩:bq)]).length:Int)) l4
 have hA:=sF C X Y [(⟨.push,0⟩:bq)] _ _ (congrArg Nat.cast l4) (congrArg Nat.cast l6)
 rw [← hb] at hA
 have hch:=uC d v l (nd 18 0 [38,38] [c,y]) c C (C++X) (C++X++[(⟨.unl,0⟩:bq)]++Y) _ (by simp;omega) (by simp;omega) (by simp;try omega) (by rw [l6];(simp;omega)) (by rw [l6];simp;omega) h1 k3 k6
 rw [hA] at hch
 clear hA k3 k6 h1 hb
 refine Spec.ofNI Tryz.func100 rfl Tryz.ntmps100 rfl ?_
 refine go 5 ?_
 refine ai (gD _ _ (rfl:_=[]) (rfl:_=[AV.ptr _ _,AV.ptr _ _])) ?_
 refine go 13 ?_
 refine aA ?_
 refine az (Le.incT (17,0) rfl) ?_
 refine dA 7 [] ?_
 refine go 6 ?_
 refine aJ (_,[]) (fun τ=> aL _ _ aa rfl rfl 0 rfl (by show 0 < [c,y].length;simp) (by show 0 < (iU [c,y]).length;rw [bk];simp) rfl) ?_
 refine go 1 ?_
 refine aJ (_,[]) (fun τ=> bu _ aa rfl (by exact bG [c,y] 0 (by simp)) rfl) ?_
 refine go 3 ?_
 refine aJ (_,[]) (fun τ=> gD _ _ (rfl:_=[]) (rfl:_=[AV.ptr _ _])) ?_
 refine go 1 ?_
 refine cD ⟨rfl,?_⟩
 refine ai (aC aa [((3,9),(2,0)),((4,9),(3,0)),((2,9),(2,9)),((2,8),(17,0))] ar (hch) ob tr tr rfl ae ae) ?_
 exact aj (aq (rt (.inr rfl) rfl (Le.outI [((2,8),(17,0))] [] (.tup rfl bz) rfl rfl rfl trivial ob tr rfl)))
theorem CD (c y:Nd) (cc cy:Cd) (hc:CnS d v l c cc) (hy:CnS d v l y cy) (hC:C.length+(pu cc (fun _=> [{ op:= .push,n:=1 }]) cy C.length).length≤800000):
  Spec Tryz.prog 100 (aE [.ptr (1,9) 0,dJ (nd 18 0 [124,124] [c,y])] (ek d v l C)) (fv (.tup []) d v l (C++pu cc (fun _=> [{ op:= .push,n:=1 }]) cy C.length)):=by
 obtain ⟨Y,hY⟩: ∃ Y:List bq,Y=[{ op:= .push,n:=1 }]:=⟨_,rfl⟩
 have hyl:Y.length=1:=by rw [hY];rfl
 rw [← hY] at hC ⊢
 obtain ⟨b,hb⟩: ∃ b,b=pu cc (fun _=> Y) cy C.length:=⟨_,rfl⟩
 rw [← hb] at hC ⊢
 unfold pu at hb
 dsimp only at hb
 have hbl:=congrArg List.length hb
 simp only [List.length_append,List.length_cons,List.length_nil] at hbl
 have h1:=hc C ab
 generalize cc C.length=X at h1 hb hbl
 have l2:(C++X++[(⟨.unl,0⟩:bq)]).length=C.length+X.length+1:=by simp;omega
 have k3:=Bp d v l (C++X++[(⟨.unl,0⟩:bq)]) (nd 18 0 [124,124] [c,y]) (by rw [l2];omega)
 rw [show ([(⟨.push,1⟩:bq)]:List bq)=[{ op:= .push,n:=1 }] from rfl,← hY] at k3
 have l4:(C++X++[(⟨.unl,0⟩:bq)]++Y++[(⟨.jump,0⟩:bq)]).length=C.length+X.length+1+Y.length+1:=by simp;omega
 have h3:=hy (hG (C++X++[(⟨.unl,0⟩:bq)]++Y++[(⟨.jump,0⟩:bq)]) (C++X).length ((C++X++[(⟨.unl,0⟩:bq)]++Y++[(⟨.jump,0⟩:bq)]).length:Int)) (by rw [hX,l4];omega)
 rw [hX,l4] at h3
 generalize cy (C.length+X.length+1+Y.length+1)=Z at h3 hb hbl
 rw [← l4] at h3
 have k6:=xd d v l _ _ [c,y] [124,124] 18 0 (by simp) h3
 have l6:=Hy (Z:=Z) (k:=(C++X).length) (x:=((C++X++[(⟨.unl,0⟩:bq)]++Y++[(⟨.jump,0⟩:bq)]).length:Int)) l4
 have hA:=sF C X Y Z _ _ (congrArg Nat.cast l4) (congrArg Nat.cast l6)
 rw [← hb] at hA
 have hch:=uK d v l (nd 18 0 [124,124] [c,y]) c C (C++X) (C++X++[(⟨.unl,0⟩:bq)]++Y) _ (by simp;omega) (by simp;omega) (by simp;try omega) (by rw [l6];omega) (by rw [l6];simp;omega) h1 k3 k6
 rw [hA] at hch
 clear hA k3 k6 h1 hb
 refine Spec.ofNI Tryz.func100 rfl Tryz.ntmps100 rfl ?_
 refine go 5 ?_
 refine ai (gD _ _ (rfl:_=[]) (rfl:_=[AV.ptr _ _,AV.ptr _ _])) ?_
 refine go 18 ?_
 refine aA ?_
 refine az (Le.incT (27,0) rfl) ?_
 refine dA 7 [] ?_
 refine go 6 ?_
 refine aJ (_,[]) (fun τ=> aL _ _ aa rfl rfl 0 rfl (by show 0 < [c,y].length;simp) (by show 0 < (iU [c,y]).length;rw [bk];simp) rfl) ?_
 refine go 1 ?_
 refine aJ (_,[]) (fun τ=> bu _ aa rfl (by exact bG [c,y] 0 (by simp)) rfl) ?_
 refine go 1 ?_
 refine aJ (_,[]) (fun τ=> gD _ _ (rfl:_=[]) (rfl:_=[AV.ptr _ _])) ?_
 refine go 4 ?_
 refine ai (aC aa [((3,9),(2,0)),((4,9),(3,0)),((2,9),(2,9)),((2,8),(27,0))] ar (hch) ob tr tr rfl ae ae) ?_
 exact aj (aq (rt (.inr rfl) rfl (Le.outI [((2,8),(27,0))] [] (.tup rfl bz) rfl rfl rfl trivial ob tr rfl)))
theorem CnS.cong {N:Nd} {c c':Cd} (h:CnS d v l N c) (e: ∀ a,c a=c' a):CnS d v l N c':=by
 rw [show c'=c from funext fun a=> (e a).symm];exact h
theorem tE:kZ d v l [] []:=fun j hj=> by simp at hj
theorem xM {N:Nd} {c:Cd} {L:List Nd} {cs:List Cd} (h:CnS d v l N c) (h':kZ d v l L cs):kZ d v l (N::L) (c::cs):=fun j hj=> by
 cases j with
 | zero=> exact h
 | succ j=> exact h' j (by simpa using hj)
theorem dQ (f:Nat) {N:Nd} {K n:Nat} {s:Tx} {L:List Nd} {cs:List Cd} {X:List bq} (hN:N=nd K n s L) (hd: ∀ C C1:List bq,Spec Tryz.prog f (aE [.ptr (1,9) 0,dJ N] (ek d v l C)) (fv (.tup []) d v l C1)→Spec Tryz.prog 68 (aE [.ptr (1,9) 0,dJ N] (ek d v l C)) (fv (.tup []) d v l C1))
  (hcs:cs.length=L.length) (hk:kZ d v l L cs) (h: ∀ C C1:List bq,C1.length≤900000→Spec Tryz.prog 103 (aE [.ptr (1,9) 0,dJ N] (ek d v l C)) (fv (.tup []) d v l C1)→Spec Tryz.prog f (aE [.ptr (1,9) 0,dJ N] (ek d v l C)) (fv (.tup []) d v l (C1++X))):CnS d v l N (fun a=> bI cs a++X):=fun C hC=> by
 subst hN
 rw [List.length_append] at hC
 refine hd C _ ?_
 rw [← List.append_assoc]
 exact h C _ (by rw [List.length_append];omega) (Fo d v l C L cs s K n hcs hk ab)
theorem Gj (n:Nat):CnS d v l (nd 12 n [] []) (fun _=> [{ op:= .push,n:=(n:Int) }]):=(dQ d v l 104 rfl (fun C C1 h=> eL d v l C C1 _ ae h) rfl (tE d v l) (fun C C1 h1 h2=> yf d v l C C1 n [] h1 h2)).cong d v l fun a=> rfl
theorem wz (n:Nat):CnS d v l (nd 13 n [] []) (fun _=> [{ op:= .push,n:=(n:Int) }]):=(dQ d v l 104 rfl (fun C C1 h=> eL d v l C C1 _ ae h) rfl (tE d v l) (fun C C1 h1 h2=> vd d v l C C1 n [] h1 h2)).cong d v l fun a=> rfl
theorem GS (hn:(d++v).Nodup) (hl:(d++v).length≤1000) (i:Nat) (hi:i < (d++v).length):CnS d v l (nd 14 0 ((d++v).getD i []) []) (fun _=> [{ op:= .var,n:=(i:Int) }]):=(dQ d v l 104 rfl (fun C C1 h=> eL d v l C C1 _ ae h) rfl (tE d v l) (fun C C1 h1 h2=> yG d v l C C1 hn hl i hi [] h1 h2)).cong d v l fun a=> rfl
theorem CZ (k:Nat) (hk:k < 9):CnS d v l (nd 15 0 (bltT.getD k []) []) (fun _=> [{ op:= .name,n:=(k:Int) }]):=(dQ d v l 104 rfl (fun C C1 h=> eL d v l C C1 _ ae h) rfl (tE d v l) (fun C C1 h1 h2=> uQ d v l C C1 k hk [] h1 h2)).cong d v l fun a=> rfl
theorem AX (n:Nat):CnS d v l (nd 5 n [] []) (fun _=> [{ op:= .timer,n:=(n:Int) }]):=(dQ d v l 104 rfl (fun C C1 h=> eL d v l C C1 _ ae h) rfl (tE d v l) (fun C C1 h1 h2=> tG d v l C C1 n [] h1 h2)).cong d v l fun a=> rfl
theorem xj (n:Nat):CnS d v l (nd 6 n [] []) (fun _=> [{ op:= .cancel,n:=(n:Int) }]):=(dQ d v l 104 rfl (fun C C1 h=> eL d v l C C1 _ ae h) rfl (tE d v l) (fun C C1 h1 h2=> ry d v l C C1 n [] h1 h2)).cong d v l fun a=> rfl
theorem ET:CnS d v l (nd 7 0 [] []) (fun _=> [{ op:= .sync }]):=(dQ d v l 104 rfl (fun C C1 h=> eL d v l C C1 _ ae h) rfl (tE d v l) (fun C C1 h1 h2=> vX d v l C C1 [] h1 h2)).cong d v l fun a=> rfl
theorem DJ:CnS d v l (nd 10 0 [] []) (fun _=> [{ op:= .stop }]):=(dQ d v l 104 rfl (fun C C1 h=> eL d v l C C1 _ ae h) rfl (tE d v l) (fun C C1 h1 h2=> uU d v l C C1 [] h1 h2)).cong d v l fun a=> rfl
theorem DK {L:List Nd} {cs:List Cd} (hc:cs.length=L.length) (hk:kZ d v l L cs):CnS d v l (nd 16 0 [] L) (fun a=> bI cs a++[{ op:= .draw }]):=dQ d v l 104 rfl (fun C C1 h=> eL d v l C C1 _ ae h) hc hk (fun C C1 h1 h2=> vm d v l C C1 L h1 h2)
theorem zk {L:List Nd} {cs:List Cd} (hc:cs.length=L.length) (hk:kZ d v l L cs):CnS d v l (nd 8 0 [] L) (fun a=> bI cs a++[{ op:= .reply }]):=dQ d v l 104 rfl (fun C C1 h=> eL d v l C C1 _ ae h) hc hk (fun C C1 h1 h2=> uq d v l C C1 L h1 h2)
theorem DP {L:List Nd} {cs:List Cd} (hc:cs.length=L.length) (hk:kZ d v l L cs):CnS d v l (nd 9 0 [] L) (fun a=> bI cs a++[{ op:= .fail }]):=dQ d v l 104 rfl (fun C C1 h=> eL d v l C C1 _ ae h) hc hk (fun C C1 h1 h2=> vJ d v l C C1 L h1 h2)
theorem EE {L:List Nd} {cs:List Cd} (hc:cs.length=L.length) (hk:kZ d v l L cs) (n:Nat):CnS d v l (nd 4 n [] L) (fun a=> bI cs a++[{ op:= .send,n:=(n:Int) }]):=dQ d v l 104 rfl (fun C C1 h=> eL d v l C C1 _ ae h) hc hk (fun C C1 h1 h2=> vD d v l C C1 n L h1 h2)
theorem xv {L:List Nd} {cs:List Cd} (hc:cs.length=L.length) (hk:kZ d v l L cs) (hn:(d++v).Nodup) (hl:(d++v).length≤1000) (i:Nat) (hi:i < (d++v).length):CnS d v l (nd 1 0 ((d++v).getD i []) L) (fun a=> bI cs a++[{ op:= .setVar,n:=(i:Int) }]):=dQ d v l 104 rfl (fun C C1 h=> eL d v l C C1 _ ae h) hc hk (fun C C1 h1 h2=> rx d v l C C1 hn hl i hi L h1 h2)
theorem FL {L:List Nd} {cs:List Cd} (hc:cs.length=L.length) (hk:kZ d v l L cs):CnS d v l (nd 17 0 [45] L) (fun a=> bI cs a++[{ op:= .neg }]):=dQ d v l 99 rfl (fun C C1 h=> iz d v l C C1 _ 99 0 ae h) hc hk (fun C C1 h1 h2=> vA d v l C C1 L h1 h2)
theorem Hp {L:List Nd} {cs:List Cd} (hc:cs.length=L.length) (hk:kZ d v l L cs):CnS d v l (nd 17 0 [33] L) (fun a=> bI cs a++[{ op:= .not }]):=dQ d v l 99 rfl (fun C C1 h=> iz d v l C C1 _ 99 0 ae h) hc hk (fun C C1 h1 h2=> vg d v l C C1 L h1 h2)
theorem Hk {L:List Nd} {cs:List Cd} (hc:cs.length=L.length) (hk:kZ d v l L cs) (o:Bo):CnS d v l (nd 18 0 o.txt L) (fun a=> bI cs a++o.code):=by
 refine dQ d v l 100 rfl (fun C C1 h=> iz d v l C C1 _ 100 1 ae h) hc hk fun C C1 h1 h2=> ?_
 cases o
 ·exact lH d v l C C1 _ .add 0 rfl rfl ae rfl rfl rfl L h1 h2
 ·exact lH d v l C C1 _ .sub 1 rfl rfl ae rfl rfl rfl L h1 h2
 ·exact lH d v l C C1 _ .mul 2 rfl rfl ae rfl rfl rfl L h1 h2
 ·exact lH d v l C C1 _ .div 3 rfl rfl ae rfl rfl rfl L h1 h2
 ·exact lH d v l C C1 _ .lt 4 rfl rfl ae rfl rfl rfl L h1 h2
 ·exact lH d v l C C1 _ .le 6 rfl rfl ae rfl rfl rfl L h1 h2
 ·exact lH d v l C C1 _ .eq 8 rfl rfl ae rfl rfl rfl L h1 h2
 ·have:=EP d v l C C1 _ .le 7 rfl rfl ae rfl L h1 h2
  rwa [List.append_assoc] at this
 ·have:=Da d v l C C1 _ .lt 5 rfl rfl ae rfl rfl L h1 h2
  rwa [List.append_assoc] at this
 have:=CR d v l C C1 _ .eq 9 rfl rfl ae rfl rfl rfl L h1 h2
 rwa [List.append_assoc] at this
theorem Aq {L:List Nd} {cs:List Cd} (hc:cs.length=L.length) (hk:kZ d v l L cs):CnS d v l (nd 11 0 [] L) (bI cs):=fun C hC=> iz d v l C _ _ 103 4 ae (Fo d v l C L cs [] 11 0 hc hk hC)
theorem Gp {c y z:Nd} {cc cy cz:Cd} (hc:CnS d v l c cc) (hy:CnS d v l y cy) (hz:CnS d v l z cz):CnS d v l (nd 2 0 [] [c,y,z]) (pu cc cy cz):=fun C hC=> iz d v l C _ _ 101 2 ae (Di d v l C c y z cc cy cz hc hy hz hC)
theorem zT {c y:Nd} {cc cy:Cd} (hc:CnS d v l c cc) (hy:CnS d v l y cy):CnS d v l (nd 3 0 [] [c,y]) (Fw cc cy):=fun C hC=> iz d v l C _ _ 102 3 ae (It d v l C c y cc cy hc hy hC)
theorem Gu {c y:Nd} {cc cy:Cd} (hc:CnS d v l c cc) (hy:CnS d v l y cy):CnS d v l (nd 18 0 [38,38] [c,y]) (pu cc cy (fun _=> [{ op:= .push,n:=0 }])):=fun C hC=> iz d v l C _ _ 100 1 ae (BW d v l C c y cc cy hc hy hC)
theorem HX {c y:Nd} {cc cy:Cd} (hc:CnS d v l c cc) (hy:CnS d v l y cy):CnS d v l (nd 18 0 [124,124] [c,y]) (pu cc (fun _=> [{ op:= .push,n:=1 }]) cy):=fun C hC=> iz d v l C _ _ 100 1 ae (CD d v l C c y cc cy hc hy hC)
end
section
variable {d v:List Tx} {l:List Hd}
theorem eo (hn:(d++v).Nodup) (hl:(d++v).length≤1000): ∀ e:Ex,eQ (d++v).length e→fh e=true→CnS d v l (dk (d++v) e) (aI e)
 | .int n,_,hp=> by
  have hp:=of_decide_eq_true hp
  have:=Gj d v l n.toNat
  exact this.cong d v l fun a=> by rw [Int.toNat_of_nonneg hp];rfl
 | .bool b,_,_=> by
  cases b
  ·exact (wz d v l) 0
  exact (wz d v l) 1
 | .var i,h,_=> (GS d v l) hn hl i h
 | .name k,h,_=> (CZ d v l) k h
 | .draw e,h,hp=> ((DK d v l) rfl (xM d v l (eo hn hl e h hp) (tE d v l))).cong d v l fun a=> by simp [aI,bI]
 | .neg e,h,hp=> ((FL d v l) rfl (xM d v l (eo hn hl e h hp) (tE d v l))).cong d v l fun a=> by simp [aI,bI]
 | .not e,h,hp=> ((Hp d v l) rfl (xM d v l (eo hn hl e h hp) (tE d v l))).cong d v l fun a=> by simp [aI,bI]
 | .bin o x y,h,hp=> by
  simp only [fh,Bool.and_eq_true] at hp
  exact ((Hk d v l) rfl (xM d v l (eo hn hl x h.1 hp.1) (xM d v l (eo hn hl y h.2 hp.2) (tE d v l))) o).cong d v l fun a=> by simp [aI,bI]
 | .and x y,h,hp=> by
  simp only [fh,Bool.and_eq_true] at hp
  exact ((Gu d v l) (eo hn hl x h.1 hp.1) (eo hn hl y h.2 hp.2)).cong d v l fun a=> rfl
 | .or x y,h,hp=> by
  simp only [fh,Bool.and_eq_true] at hp
  exact ((HX d v l) (eo hn hl x h.1 hp.1) (eo hn hl y h.2 hp.2)).cong d v l fun a=> rfl
theorem oa {b:Bk} (h:kZ d v l (fA (d++v) b) (Am b)):CnS d v l (ip (d++v) b) (bK b):=((Aq d v l) (rH _ b) h).cong d v l (rJ b)
mutual
theorem GR (hn:(d++v).Nodup) (hl:(d++v).length≤1000): ∀ s:Sm,dV (d++v).length s→lp s=true→CnS d v l (nU (d++v) s) (bp s)
 | .assign i e,h,hp=> by rw [dV] at h;exact ((xv d v l) rfl (xM d v l (eo hn hl e h.2 hp) (tE d v l)) hn hl i h.1).cong d v l fun a=> by simp [bp,bI]
 | .send t k x y,h,hp=> by
  rw [dV] at h
  simp only [lp,Bool.and_eq_true] at hp
  exact ((EE d v l) rfl (xM d v l (eo hn hl t h.2.1 hp.1.1) (xM d v l (eo hn hl x h.2.2.1 hp.1.2) (xM d v l (eo hn hl y h.2.2.2 hp.2) (tE d v l)))) k).cong d v l fun a=> by simp [bp,bI,Nat.add_assoc]
 | .timer k,_,_=> ((AX d v l) k).cong d v l fun a=> by rw [bp]
 | .cancel k,_,_=> ((xj d v l) k).cong d v l fun a=> by rw [bp]
 | .sync,_,_=> (ET d v l).cong d v l fun a=> by rw [bp]
 | .stop,_,_=> (DJ d v l).cong d v l fun a=> by rw [bp]
 | .reply x y,h,hp=> by
  rw [dV] at h
  simp only [lp,Bool.and_eq_true] at hp
  exact ((zk d v l) rfl (xM d v l (eo hn hl x h.1 hp.1) (xM d v l (eo hn hl y h.2 hp.2) (tE d v l)))).cong d v l fun a=> by simp [bp,bI]
 | .fail e,h,hp=> by rw [dV] at h;exact ((DP d v l) rfl (xM d v l (eo hn hl e h hp) (tE d v l))).cong d v l fun a=> by simp [bp,bI]
 | .loop c b,h,hp=> by
  rw [dV] at h
  simp only [lp,Bool.and_eq_true] at hp
  exact ((zT d v l) (eo hn hl c h.1 hp.1) (oa (pn hn hl b h.2 hp.2))).cong d v l fun a=> by rw [bp];rfl
 | .ite c x y,h,hp=> by
  rw [dV] at h
  simp only [lp,Bool.and_eq_true] at hp
  exact ((Gp d v l) (eo hn hl c h.1 hp.1.1) (oa (pn hn hl x h.2.1 hp.1.2)) (oa (pn hn hl y h.2.2 hp.2))).cong d v l fun a=> by rw [bp];rfl
theorem pn (hn:(d++v).Nodup) (hl:(d++v).length≤1000): ∀ b:Bk,gz (d++v).length b→lN b=true→kZ d v l (fA (d++v) b) (Am b)
 | .nil,_,_=> (tE d v l)
 | .cons s b,h,hp=> by
  rw [gz] at h
  simp only [lN,Bool.and_eq_true] at hp
  exact xM d v l (GR hn hl s h.1 hp.1) (pn hn hl b h.2 hp.2)
end
theorem FP (hn:(d++v).Nodup) (hl:(d++v).length≤1000) (b:Bk) (h:gz (d++v).length b) (hp:lN b=true):CnS d v l (ip (d++v) b) (bK b):=oa (pn hn hl b h hp)
end
end Go.Proofs.YtmjnackchaahbaaGreat
