/- part 15 -/
import Derived.Test.YtmjnackchaahbaaGreatNqZ14
set_option linter.unusedSimpArgs false
set_option linter.unusedVariables false
namespace Go.Proofs.YtmjnackchaahbaaGreat
open Go.RowKit

section
variable (M:Mk) (s:Ms) (dr se:Int)
set_option maxHeartbeats 2000000 in
theorem DZ (n:Int) (hs:s.stack.length≤90000) (ha:s.acts.length≤90000) (h0:3≤s.stack.length) (hse: -100≤se) (h1:0≤s.top 2) (h2:s.top 2 < M.nm 1) (h3:se < 20):
  Spec Tryz.prog 149 (aY [.ptr (0,9) 0, .v (.int .i64 n)] (mN M s dr se)) (bc (.tup []) (mD M { s with stack:=s.pop 3,acts:=s.acts++[{ k:=3,a:=s.top 2,b:=n,c:=s.top 1,d:=s.top 0 }] } dr (se+1) (2,8) (3,8) (5,8)) [(0,9),(1,9),(2,8),(3,8),(4,9),(5,8),(6,9)] [(0,9),(1,9),(4,9),(6,9)]):=by
 have h2x:=ca M { s with stack:=s.pop 1 } dr se (by have:=cF s 1;simp only;omega) (by have:=cF s 1;simp only;omega)
 rw [fK s 0 1 ab,fG,Nat.zero_add] at h2x
 have h3x:=ca M { s with stack:=s.pop 2 } dr se (by have:=cF s 2;simp only;omega) (by have:=cF s 2;simp only;omega)
 rw [fK s 0 2 ab,fG,Nat.zero_add] at h3x
 refine Spec.ofNI Tryz.func149 rfl Tryz.ntmps149 rfl ?_
 refine am ?_
 refine bR rfl ?_
 refine cA (Le.incT (8,0) rfl) ?_
 refine ai (bi aa [((3,8),(8,0))] ar (ca M s dr se ab ab) ob tr tr rfl ae ae) ?_
 refine bR rfl ?_
 refine cA (Le.incT (10,0) rfl) ?_
 refine ai (bi aa [((3,9),(8,0)),((3,8),(10,0))] ar (h2x) ob tr tr rfl ae ae) ?_
 refine bR rfl ?_
 refine cA (Le.incT (12,0) rfl) ?_
 refine ai (bi aa [((3,9),(10,0)),((3,8),(12,0))] ar (h3x) ob tr tr rfl ae ae) ?_
 refine be rfl ?_
 refine be rfl ?_
 refine be rfl ?_
 refine aj ?_
 refine am ?_
 refine aX rfl ?_
 refine ai (fw (r:=true) _ _ rfl rfl (decide_eq_true ab)) ?_
 refine cE rfl ?_
 refine au rfl rfl (aH _ eg) ?_
 refine au rfl rfl (aH _ bX) ?_
 refine au rfl rfl (aS _ rfl rfl) ?_
 refine au rfl rfl (aA _ aa rfl rfl rfl) ?_
 refine au rfl rfl (aA _ aa rfl rfl rfl) ?_
 refine au rfl rfl (da _ _ aa rfl rfl rfl 1 rfl ab ag) ?_
 refine au rfl rfl (aF _ aa rfl rfl ee) ?_
 refine au rfl rfl (bl (r:=true) _ _ rfl rfl (decide_eq_true ab)) ?_
 refine ai (aB _ _ _ rfl bJ) ?_
 refine cE rfl ?_
 refine au rfl rfl (aH _ bX) ?_
 refine au rfl rfl (aS _ rfl rfl) ?_
 refine au rfl rfl (aA _ aa rfl rfl rfl) ?_
 refine au rfl rfl (aF _ aa rfl rfl ee) ?_
 refine au rfl rfl (bl (r:=true) _ _ rfl rfl (decide_eq_true ab)) ?_
 refine ai (aB _ _ _ rfl bJ) ?_
 refine aj ?_
 refine bM rfl rfl ?_
 refine aq ?_
 refine aM (σ':=aE 45 [(0,_),(1,_),(4,_),(5,_),(6,_)] [((0,9),_),((1,9),_),((2,9),_),((4,9),_),((5,9),_),((6,9),_),((12,0),_)] [(0,9),(1,9),(2,9),(4,9),(5,9),(6,9),(12,0)] [(0,9),(1,9),(4,9),(6,9)]) kp ?_
 refine an ?_
 refine bR rfl ?_
 refine ai (aS _ rfl rfl) ?_
 refine bb rfl rfl rfl ?_
 refine cf rfl rfl rfl ?_
 refine ai (aZ (r:=se+1) _ _ rfl rfl (bD ab)) ?_
 refine ai (aS _ rfl rfl) ?_
 refine bb rfl rfl rfl ?_
 refine bG rfl rfl rfl rfl rfl rfl ?_
 refine aj ?_
 refine an ?_
 refine bR rfl ?_
 refine aX rfl ?_
 refine aX rfl ?_
 refine aX rfl ?_
 refine aX rfl ?_
 refine cA (Le.incT (44,0) rfl) ?_
 refine ai (bi aa [((3,9),(12,0)),((2,8),(44,0))] ar (gC M { s with stack:=s.pop 3 } dr (se+1) 3 (s.top 2) n (s.top 1) (s.top 0) (by simp only;omega)) ob tr tr rfl ae ae) ?_
 refine aJ ?_
 exact fB (.inl rfl) rfl (Le.outI [((2,8),(44,0)),((3,8),(12,0)),((5,8),(5,9))] [] (.tup rfl bf) rfl rfl rfl trivial ob tr rfl)
set_option maxHeartbeats 2000000 in
theorem Be (n:Int) (hs:s.stack.length≤90000) (ha:s.acts.length≤90000) (h0:3≤s.stack.length) (hse: -100≤se) (h1:s.top 2 < 0):
  Spec Tryz.prog 149 (aY [.ptr (0,9) 0, .v (.int .i64 n)] (mN M s dr se)) (bc (.tup []) (mD M { s with stack:=s.pop 3 } dr se (2,8) (3,8) (5,8)) [(0,9),(1,9),(2,8),(3,8),(4,9),(5,8),(6,9)] [(0,9),(1,9),(4,9),(6,9)]):=by
 have h2x:=ca M { s with stack:=s.pop 1 } dr se (by have:=cF s 1;simp only;omega) (by have:=cF s 1;simp only;omega)
 rw [fK s 0 1 ab,fG,Nat.zero_add] at h2x
 have h3x:=ca M { s with stack:=s.pop 2 } dr se (by have:=cF s 2;simp only;omega) (by have:=cF s 2;simp only;omega)
 rw [fK s 0 2 ab,fG,Nat.zero_add] at h3x
 refine Spec.ofNI Tryz.func149 rfl Tryz.ntmps149 rfl ?_
 refine am ?_
 refine bR rfl ?_
 refine cA (Le.incT (8,0) rfl) ?_
 refine ai (bi aa [((3,8),(8,0))] ar (ca M s dr se ab ab) ob tr tr rfl ae ae) ?_
 refine bR rfl ?_
 refine cA (Le.incT (10,0) rfl) ?_
 refine ai (bi aa [((3,9),(8,0)),((3,8),(10,0))] ar (h2x) ob tr tr rfl ae ae) ?_
 refine bR rfl ?_
 refine cA (Le.incT (12,0) rfl) ?_
 refine ai (bi aa [((3,9),(10,0)),((3,8),(12,0))] ar (h3x) ob tr tr rfl ae ae) ?_
 refine be rfl ?_
 refine be rfl ?_
 refine be rfl ?_
 refine aj ?_
 refine am ?_
 refine aX rfl ?_
 refine ai (fw (r:=false) _ _ rfl rfl (decide_eq_false ab)) ?_
 refine cE rfl ?_
 refine aK rfl rfl ah ?_
 refine aK rfl rfl ah ?_
 refine aK rfl rfl ah ?_
 refine aK rfl rfl ah ?_
 refine aK rfl rfl ah ?_
 refine aK rfl rfl ah ?_
 refine aK rfl rfl ah ?_
 refine aK rfl rfl ah ?_
 refine ai (aB _ _ _ rfl bJ) ?_
 refine cE rfl ?_
 refine aK rfl rfl ah ?_
 refine aK rfl rfl ah ?_
 refine aK rfl rfl ah ?_
 refine aK rfl rfl ah ?_
 refine aK rfl rfl ah ?_
 refine ai (aB _ _ _ rfl bJ) ?_
 refine aj ?_
 refine aW rfl rfl ?_
 refine bs ?_
 exact fB (.inl rfl) rfl (Le.outI [((2,8),(2,9)),((3,8),(12,0)),((5,8),(5,9))] [] (.tup rfl bf) rfl rfl rfl trivial ob tr rfl)
set_option maxHeartbeats 2000000 in
theorem BG (n:Int) (hs:s.stack.length≤90000) (ha:s.acts.length≤90000) (h0:3≤s.stack.length) (hse: -100≤se) (h1:0≤s.top 2) (h2:M.nm 1≤s.top 2):
  Spec Tryz.prog 149 (aY [.ptr (0,9) 0, .v (.int .i64 n)] (mN M s dr se)) (bc (.tup []) (mD M { s with stack:=s.pop 3 } dr se (2,8) (3,8) (5,8)) [(0,9),(1,9),(2,8),(3,8),(4,9),(5,8),(6,9)] [(0,9),(1,9),(4,9),(6,9)]):=by
 have h2x:=ca M { s with stack:=s.pop 1 } dr se (by have:=cF s 1;simp only;omega) (by have:=cF s 1;simp only;omega)
 rw [fK s 0 1 ab,fG,Nat.zero_add] at h2x
 have h3x:=ca M { s with stack:=s.pop 2 } dr se (by have:=cF s 2;simp only;omega) (by have:=cF s 2;simp only;omega)
 rw [fK s 0 2 ab,fG,Nat.zero_add] at h3x
 refine Spec.ofNI Tryz.func149 rfl Tryz.ntmps149 rfl ?_
 refine am ?_
 refine bR rfl ?_
 refine cA (Le.incT (8,0) rfl) ?_
 refine ai (bi aa [((3,8),(8,0))] ar (ca M s dr se ab ab) ob tr tr rfl ae ae) ?_
 refine bR rfl ?_
 refine cA (Le.incT (10,0) rfl) ?_
 refine ai (bi aa [((3,9),(8,0)),((3,8),(10,0))] ar (h2x) ob tr tr rfl ae ae) ?_
 refine bR rfl ?_
 refine cA (Le.incT (12,0) rfl) ?_
 refine ai (bi aa [((3,9),(10,0)),((3,8),(12,0))] ar (h3x) ob tr tr rfl ae ae) ?_
 refine be rfl ?_
 refine be rfl ?_
 refine be rfl ?_
 refine aj ?_
 refine am ?_
 refine aX rfl ?_
 refine ai (fw (r:=true) _ _ rfl rfl (decide_eq_true ab)) ?_
 refine cE rfl ?_
 refine au rfl rfl (aH _ eg) ?_
 refine au rfl rfl (aH _ bX) ?_
 refine au rfl rfl (aS _ rfl rfl) ?_
 refine au rfl rfl (aA _ aa rfl rfl rfl) ?_
 refine au rfl rfl (aA _ aa rfl rfl rfl) ?_
 refine au rfl rfl (da _ _ aa rfl rfl rfl 1 rfl ab ag) ?_
 refine au rfl rfl (aF _ aa rfl rfl ee) ?_
 refine au rfl rfl (bl (r:=false) _ _ rfl rfl (decide_eq_false ab)) ?_
 refine ai (aB _ _ _ rfl bJ) ?_
 refine cE rfl ?_
 refine aK rfl rfl ah ?_
 refine aK rfl rfl ah ?_
 refine aK rfl rfl ah ?_
 refine aK rfl rfl ah ?_
 refine aK rfl rfl ah ?_
 refine ai (aB _ _ _ rfl bJ) ?_
 refine aj ?_
 refine aW rfl rfl ?_
 refine bs ?_
 exact fB (.inl rfl) rfl (Le.outI [((2,8),(2,9)),((3,8),(12,0)),((5,8),(5,9))] [] (.tup rfl bf) rfl rfl rfl trivial ob tr rfl)
set_option maxHeartbeats 2000000 in
theorem Ae (n:Int) (hs:s.stack.length≤90000) (ha:s.acts.length≤90000) (h0:3≤s.stack.length) (hse: -100≤se) (h1:0≤s.top 2) (h2:s.top 2 < M.nm 1) (h3:20≤se):
  Spec Tryz.prog 149 (aY [.ptr (0,9) 0, .v (.int .i64 n)] (mN M s dr se)) (bc (.tup []) (mD M { s with stack:=s.pop 3 } dr se (2,8) (3,8) (5,8)) [(0,9),(1,9),(2,8),(3,8),(4,9),(5,8),(6,9)] [(0,9),(1,9),(4,9),(6,9)]):=by
 have h2x:=ca M { s with stack:=s.pop 1 } dr se (by have:=cF s 1;simp only;omega) (by have:=cF s 1;simp only;omega)
 rw [fK s 0 1 ab,fG,Nat.zero_add] at h2x
 have h3x:=ca M { s with stack:=s.pop 2 } dr se (by have:=cF s 2;simp only;omega) (by have:=cF s 2;simp only;omega)
 rw [fK s 0 2 ab,fG,Nat.zero_add] at h3x
 refine Spec.ofNI Tryz.func149 rfl Tryz.ntmps149 rfl ?_
 refine am ?_
 refine bR rfl ?_
 refine cA (Le.incT (8,0) rfl) ?_
 refine ai (bi aa [((3,8),(8,0))] ar (ca M s dr se ab ab) ob tr tr rfl ae ae) ?_
 refine bR rfl ?_
 refine cA (Le.incT (10,0) rfl) ?_
 refine ai (bi aa [((3,9),(8,0)),((3,8),(10,0))] ar (h2x) ob tr tr rfl ae ae) ?_
 refine bR rfl ?_
 refine cA (Le.incT (12,0) rfl) ?_
 refine ai (bi aa [((3,9),(10,0)),((3,8),(12,0))] ar (h3x) ob tr tr rfl ae ae) ?_
 refine be rfl ?_
 refine be rfl ?_
 refine be rfl ?_
 refine aj ?_
 refine am ?_
 refine aX rfl ?_
 refine ai (fw (r:=true) _ _ rfl rfl (decide_eq_true ab)) ?_
 refine cE rfl ?_
 refine au rfl rfl (aH _ eg) ?_
 refine au rfl rfl (aH _ bX) ?_
 refine au rfl rfl (aS _ rfl rfl) ?_
 refine au rfl rfl (aA _ aa rfl rfl rfl) ?_
 refine au rfl rfl (aA _ aa rfl rfl rfl) ?_
 refine au rfl rfl (da _ _ aa rfl rfl rfl 1 rfl ab ag) ?_
 refine au rfl rfl (aF _ aa rfl rfl ee) ?_
 refine au rfl rfl (bl (r:=true) _ _ rfl rfl (decide_eq_true ab)) ?_
 refine ai (aB _ _ _ rfl bJ) ?_
 refine cE rfl ?_
 refine au rfl rfl (aH _ bX) ?_
 refine au rfl rfl (aS _ rfl rfl) ?_
 refine au rfl rfl (aA _ aa rfl rfl rfl) ?_
 refine au rfl rfl (aF _ aa rfl rfl ee) ?_
 refine au rfl rfl (bl (r:=false) _ _ rfl rfl (decide_eq_false ab)) ?_
 refine ai (aB _ _ _ rfl bJ) ?_
 refine aj ?_
 refine aW rfl rfl ?_
 refine bs ?_
 exact fB (.inl rfl) rfl (Le.outI [((2,8),(2,9)),((3,8),(12,0)),((5,8),(5,9))] [] (.tup rfl bf) rfl rfl rfl trivial ob tr rfl)
abbrev sB (t:Tl) (kind idx k r:Int):Prop:=Spec Tryz.prog 87 (ba [.sl t.na t.A, .agg [.v (.int .i64 t.c1), .v (.int .i64 t.c2), .v (.int .i64 t.c3), .v (.int .i64 kind), .v (.int .i64 idx)], .v (.int .i64 k)] []) (aP (.v (.int .i64 r)) [])
structure yh (M:Mk):Prop where
 np:M.t.np≤10
 pl:M.t.pre.length=M.t.np*7
 lk: ∀ (i:Nat) (k:Int),i≤100000→2≤k→k≤4→sB M.t 1 (i:Int) k (gv M.ans i k)
end
theorem oM (t:Tl) (kind idx k r:Int) (n:Nat) (L:List PV) (hL:L.length=n*7) (hn:n≤200000) (hk:0 < k) (hlk:sB t kind idx k r):
  Spec Tryz.prog 54 (aY [.ptr (4,9) 0, .v (.int .i64 kind), .v (.int .i64 idx), .v (.int .i64 k)] (pu t n L (5,9))) (bc (.v (.int .i64 r)) (pu t (n+1) (L++rA t kind idx k r) (5,8)) [(4,9),(5,8)] [(4,9)]):=by
 refine Spec.ofNI Tryz.func54 rfl Tryz.ntmps54 rfl ?_
 refine am ?_
 refine be rfl ?_
 refine aj ?_
 refine am ?_
 refine bR rfl ?_
 refine ai (aS _ rfl rfl) ?_
 refine bb rfl rfl rfl ?_
 refine ai (az _ aa rfl rfl rfl rfl) ?_
 refine aX rfl ?_
 refine aX rfl ?_
 refine ai (aN _ aa rfl (by exact sU)) ?_
 refine ai (aD (9,0) aa rfl rfl) ?_
 refine bG rfl rfl rfl rfl rfl rfl ?_
 refine aj ?_
 refine am ?_
 refine be rfl ?_
 refine aj ?_
 refine aq ?_
 refine am ?_
 refine aX rfl ?_
 refine ai (fM _ _ rfl rfl rfl) ?_
 refine aj ?_
 refine bM rfl (decide_eq_true ab) ?_
 refine aM (σ':=aE 41 [(0,_),(3,_),(9,_)] [((4,9),_),((5,9),_),((9,0),_)] [(4,9),(5,9)] [(4,9)]) kp ?_
 refine bO 8 [20,21,22,23,24,25,26,10] [] ae ae rfl (aL rfl) (rfl:_=[_,_,_,_,_,_,_,_]) (rfl:_=[]) ?_
 refine ap (_,[]) (fun τ=> aH _ bX) ?_
 refine fP rfl ?_
 refine ap (_,[]) (fun τ=> aS _ rfl rfl) ?_
 refine fQ rfl ?_
 refine ap (_,[]) (fun τ=> aA _ aa rfl rfl rfl) ?_
 refine fU rfl ?_
 refine ap (_,[]) (fun τ=> aF _ aa rfl rfl eG) ?_
 refine fY rfl ?_
 refine ap (_,[]) (fun τ=> az _ aa rfl rfl rfl rfl) ?_
 refine gz rfl ?_
 refine ap (_,[]) (fun τ=> aH _ eg) ?_
 refine gZ rfl ?_
 refine ap (_,[]) (fun τ=> (aI aa al (hlk) rfl rfl)) ?_
 refine jg rfl ?_
 refine ap (_,[]) (fun τ=> bp _ eg) ?_
 refine ka rfl ?_
 refine bm ⟨rfl,?_⟩
 refine aj ?_
 refine aq ?_
 refine aM (σ':=aE 41 [(0,_),(3,_),(9,_),(10,_)] [((4,9),_),((5,9),_),((9,0),_)] [(4,9),(5,9)] [(4,9)]) kp ?_
 refine aM (Le.incT (37,0) rfl) ?_
 refine gX 11 [27,28,29,30,31,32,33,34,35,36,37] [(5,9),(37,0)] [[],[],[],[(5,9)],[(5,9)],[],[],[],[(5,9)],[(5,9)],[]] ae ae rfl (aL rfl) (rfl:_=[_,_,_,_,_,_,_,_,_,_,_]) (rfl:_=[_,_,_]) ?_
 refine ap (_,[]) (fun τ=> aH _ bX) ?_
 refine fP rfl ?_
 refine ap (_,[]) (fun τ=> aH _ bX) ?_
 refine fQ rfl ?_
 refine ap (_,[]) (fun τ=> aS _ rfl rfl) ?_
 refine fU rfl ?_
 refine ap (_,[]) (fun τ=> aA _ aa rfl rfl rfl) ?_
 refine fY rfl ?_
 refine ap (_,[]) (fun τ=> aF _ aa rfl rfl ei) ?_
 refine gz rfl ?_
 refine ap (_,[]) (fun τ=> az _ aa rfl rfl rfl rfl) ?_
 refine gZ rfl ?_
 refine ap (_,[]) (fun τ=> aH _ eg) ?_
 refine jg rfl ?_
 refine ap (_,[]) (fun τ=> aH _ eg) ?_
 refine ka rfl ?_
 refine ap (_,[]) (fun τ=> aN _ aa rfl (by exact (rfl:_=some [_,_,_,_,_,_,_]))) ?_
 refine kG rfl ?_
 refine ap (_,[]) (fun τ=> bh _ _ aa rfl ag (by (simp <;> rfl)) ah rfl) ?_
 refine fW rfl ?_
 refine ap (_,[((5,9), .gone),((37,0),_)]) (fun τ=> mZ (b:=true) (37,0) _ _ aa rfl (eL rfl (by exact dO) rfl) hL.symm (.sl rfl) ab rfl rfl rfl rfl rfl) ?_
 refine gL rfl ?_
 refine bm ⟨⟨rfl,by kernel_rfl⟩,?_⟩
 refine ai (aS _ rfl rfl) ?_
 refine bb rfl rfl rfl ?_
 refine bG rfl rfl rfl rfl rfl rfl ?_
 refine aj ?_
 refine am ?_
 refine aX rfl ?_
 refine be rfl ?_
 refine aj ?_
 refine aG ?_
 exact bI (.inr rfl) rfl (.tmp lb) (Le.outI [((5,8),(37,0))] [] .v rfl rfl rfl trivial ob tr rfl)
theorem CH (t:Tl) (idx k r:Int) (n:Nat) (L:List PV) (hL:L.length=n*7) (hn:n≤200000) (hk:0 < k) (hlk:sB t 1 idx k r):
  Spec Tryz.prog 113 (aY [.v (.int .i64 idx), .v (.int .i64 k), .ptr (6,9) 0] (zC t n L (5,9))) (bc (.v (.int .i64 r)) (zC t (n+1) (L++rA t 1 idx k r) (5,8)) [(4,9),(5,8),(6,9)] [(4,9),(6,9)]):=by
 have h:=oM t 1 idx k r n L hL hn hk hlk
 refine Spec.ofNI Tryz.func113 rfl Tryz.ntmps113 rfl ?_
 refine am ?_
 refine be rfl ?_
 refine aj ?_
 refine am ?_
 refine ai (aF _ aa rfl rfl (rfl:_=some (AV.fn _ _ _))) ?_
 refine aX rfl ?_
 refine aX rfl ?_
 refine cA (Le.incT (9,0) rfl) ?_
 refine ai (jp rfl aa [((5,8),(9,0))] ar (h) ob tr tr rfl ae ae) ?_
 refine be rfl ?_
 refine aj ?_
 refine aG ?_
 exact bI (.inr rfl) rfl (.tmp lb) (Le.outI [((5,8),(9,0))] [] .v rfl rfl rfl trivial ob tr rfl)

structure An where
 a:Int
 b:Int
 c:Int
 k:Int
 i:Int
 n:Int
def Gp (x:An):List PV:=[.v (.int .i64 x.a), .v (.int .i64 x.b), .v (.int .i64 x.c), .v (.int .i64 x.k), .v (.int .i64 x.i), .v (.int .i64 x.n)]
def ri (l:List An):List PV:=l.flatMap Gp
def vz (l:List An) (k:Nat):An:=l.getD k ⟨0,0,0,0,0,0⟩
theorem ij (l:List An):(ri l).length=l.length*6:=iW Gp 6 (fun _=> rfl) l
theorem vR (l:List An) (k:Nat) (h:k < l.length):vz l k=l[k]:=by unfold vz;rw [List.getD_eq_getElem?_getD,List.getElem?_eq_getElem h];rfl
theorem zy (l:List An) (k:Nat) (h:k < l.length):(ri l)[k*6+5]? =some (.v (.int .i64 (vz l k).n)):=by
 rw [vR l k h];exact lx Gp 6 (fun _=> rfl) l k 5 h ab
theorem Fb (l:List An) (k:Nat) (h:k < l.length):((ri l).drop (k*6)).take 6=Gp (vz l k):=by
 rw [vR l k h];exact lU Gp 6 (fun _=> rfl) l k h
theorem AW (l:List An) (k:Nat) (h:k < l.length):PV.ups (((ri l).drop (k*6+0)).take 5)=[.v (.int .i64 (vz l k).a), .v (.int .i64 (vz l k).b), .v (.int .i64 (vz l k).c), .v (.int .i64 (vz l k).k), .v (.int .i64 (vz l k).i)]:=by
 have e:((ri l).drop (k*6+0)).take 5=(((ri l).drop (k*6)).take 6).take 5:=by rw [List.take_take];rfl
 rw [e,Fb l k h];rfl
theorem Cw (l:List An) (x:An):ri l++Gp x=ri (l++[x]):=jR Gp l x
def ow (l:List An) (a b c k i:Int):Int:=l.foldl (fun n x=> if (x.a=a∧x.b=b∧x.c=c)∧x.k=k∧x.i=i then max x.n 0 else n) 0
theorem xF (l:List An) (a b c k i:Int) {j:Nat} (h:j < l.length):ow (l.take (j+1)) a b c k i=if ((vz l j).a=a∧(vz l j).b=b∧(vz l j).c=c)∧(vz l j).k=k∧(vz l j).i=i then max (vz l j).n 0 else ow (l.take j) a b c k i:=by
 have e:l.take (j+1)=l.take j++[vz l j]:=by rw [List.take_add_one,List.getElem?_eq_getElem h,vR l j h];rfl
 rw [e];unfold ow;rw [List.foldl_append];rfl
theorem wV (a b c k i:Int): ∀ (l:List An) (n:Int),0≤n→0≤l.foldl (fun n x=> if (x.a=a∧x.b=b∧x.c=c)∧x.k=k∧x.i=i then max x.n 0 else n) n
 | [],_,h=> h
 | x::l,n,h=> wV a b c k i l _ (by simp only;split <;> omega)
theorem sG (l:List An) (hl:l.length≤1000000) (a b c k i:Int):
  Spec Tryz.prog 119 (ba [.sl l.length (ri l), .agg [.v (.int .i64 a), .v (.int .i64 b), .v (.int .i64 c), .v (.int .i64 k), .v (.int .i64 i)]] []) (aP (.v (.int .i64 (ow l a b c k i))) []):=by
 refine Spec.ofN Tryz.func119 rfl Tryz.ntmps119 rfl ?_
 refine am (ai (aQ (3,0) _ rfl rfl) (be rfl (aj (am (be rfl (aj (aU fun K3 hK3=> ?_)))))))
 refine am (be rfl (aj (ay ?_)))
 refine bq (α:=Nat) (fun j=> j≤l.length) 27 [(0,_),(3,_)] [((3,0),_)] (fun j=> [(5, .v (.int .i64 (ow (l.take j) a b c k i))),(6, .v (.int .i64 (j:Int)))]) (fun j=> []) [] [] (fun j=> l.length - j) 0 ?_ (by
  refine Le.mkJ [] [] rfl ?_ ?_ trivial trivial ?_
  ·exact ⟨(iS rfl),(iP rfl),(co ag),(co ag),trivial⟩
  ·exact ⟨(bF rfl rfl rfl),trivial⟩
  kernel_rfl) ?_
 ·omega
 intro j hj
 refine aU fun K5 hK5=> ?_
 refine am (aX rfl (eY rfl (ai (bo _ aa rfl) (ai (bl _ _ rfl rfl rfl) (aj (aR rfl (fun hc10=> ?_) (fun hc10=> ?_)))))))
 ·skip
  have hq:=AW l j ab
  have hv:=xF l a b c k i (j:=j) ab
  refine bs (hK5 _ ?_)
  clear hK5;try clear K5
  refine aq (ay (aq ?_))
  refine aM (σ':=aE 27 [(0,_),(3,_),(5,_),(6,_)] [((3,0),_)] [] []) kp ?_
  refine bO 7 [13,14,15,16,17,18,19] [] ae ae rfl (aL rfl) (rfl:_=[_,_,_,_,_,_,_]) (rfl:_=[]) ?_
  refine ap (_,[]) (fun τ=> aH _ mL) ?_
  refine fP rfl ?_
  refine ap (_,[]) (fun τ=> aH _ eg) ?_
  refine fQ rfl ?_
  refine ap (_,[]) (fun τ=> bn _ _ aa rfl rfl _ rfl ab (by (simp only [aO,bg,bj,aO,ij];omega)) ag) ?_
  refine fU rfl ?_
  refine ap (_,[]) (fun τ=> di _ aa rfl rfl) ?_
  refine fY rfl ?_
  refine ap (_,[]) (fun τ=> cg _ aa rfl (by exact hq) rfl) ?_
  refine gz rfl ?_
  refine ap (_,[]) (fun τ=> az _ aa rfl rfl rfl rfl) ?_
  refine gZ rfl ?_
  refine ap (_,[]) (fun τ=> HL _ _ rfl rfl rfl) ?_
  refine jg rfl (bm ⟨rfl,?_⟩)
  refine aj (aR rfl (fun hc19=> ?_) (fun hc19=> ?_))
  ·skip
   rw [if_pos hc19] at hv
   refine an (eY rfl (aX rfl (ai (bn _ _ aa rfl rfl _ rfl ab (by (simp only [aO,bg,bj,aO,ij];omega)) ag) ?_)))
   refine ai (di _ aa rfl rfl) (ai (bT _ aa rfl (by exact zy _ _ ab) rfl) ?_)
   refine ai (Co _ _ rfl rfl rfl) (be rfl (ek (an (aX rfl (ai (aZ _ _ rfl rfl (bD ab)) ?_)))))
   refine be rfl (aJ (⟨j+1,?_,?_,?_⟩))
   ·omega
   ·skip
    refine Le.mkJ [] [] rfl ?_ ?_ trivial trivial ?_
    ·exact ⟨(iS rfl),(iP rfl),(co ab),(co ag),trivial⟩
    ·exact ⟨(bF rfl rfl rfl),trivial⟩
    kernel_rfl
   omega
  rw [if_neg hc19] at hv
  refine cp (an (aX rfl (ai (aZ _ _ rfl rfl (bD ab)) ?_)))
  refine be rfl (aJ (⟨j+1,?_,?_,?_⟩))
  ·omega
  ·skip
   refine Le.mkJ [] [] rfl ?_ ?_ trivial trivial ?_
   ·exact ⟨(iS rfl),(iP rfl),(co ab),(co ag),trivial⟩
   ·exact ⟨(bF rfl rfl rfl),trivial⟩
   kernel_rfl
  omega
 obtain rfl:j=l.length:=by omega
 refine bB (id (hK3 _ ?_))
 clear hK3;try clear K3
 exact am (aX rfl (be rfl (aj (aG (bI (.inr rfl) rfl (.tmp eg) (Le.out [] [] (co (by rw [List.take_length])) rfl rfl rfl trivial trivial))))))
theorem iq (l:List An) (hl:l.length≤1000000) (a b c k i:Int) (q:Int) (hq:0 < q):
  Spec Tryz.prog 87 (ba [.sl l.length (ri l), .agg [.v (.int .i64 a), .v (.int .i64 b), .v (.int .i64 c), .v (.int .i64 k), .v (.int .i64 i)], .v (.int .i64 q)] []) (aP (.v (.int .i64 (ow l a b c k i % q))) []):=by
 have hv:=sG l hl a b c k i
 have h0:=wV a b c k i l 0 (Int.le_refl 0)
 refine Spec.ofN Tryz.func87 rfl Tryz.ntmps87 rfl ?_
 refine am (ai (aQ (4,0) _ rfl rfl) (be rfl (aj (am (eY rfl (ai (az _ aa rfl rfl rfl rfl) (ai (aI aa al (hv) rfl rfl) ?_)))))))
 refine aX rfl (ai (dX _ _ rfl rfl ab (Int.tmod_eq_emod_of_nonneg h0)) ?_)
 exact be rfl (aj (aG (fv rfl rfl)))
def kq (a b c k:Int) (l:List Int):List An:=(List.range l.length).map fun (i:Nat)=> ⟨a,b,c,k,(i:Int),l.getD i 0⟩
def ll (a b c tick:Int) (draws keeps:List Int):List An:=[⟨a,b,c,2,0,tick⟩]++kq a b c 1 draws++kq a b c 3 keeps
theorem kh (a b c k:Int) (l:List Int):(kq a b c k l).length=l.length:=by simp [kq]
theorem nh (a b c tick:Int) (draws keeps:List Int):(ll a b c tick draws keeps).length=1+draws.length+keeps.length:=by simp [ll,kh];omega
theorem oK (a b c k:Int) (l:List Int) {j:Nat} (h:j < l.length):kq a b c k (l.take (j+1))=kq a b c k (l.take j)++[⟨a,b,c,k,(j:Int),l.getD j 0⟩]:=by
 have e1:(l.take (j+1)).length=j+1:=by rw [List.length_take];omega
 have e2:(l.take j).length=j:=by rw [List.length_take];omega
 unfold kq
 rw [e1,e2,List.range_succ,List.map_append]
 congr 1
 ·apply List.map_congr_left
  intro i hi
  have hi:=List.mem_range.1 hi
  have e:(l.take (j+1)).getD i 0=(l.take j).getD i 0:=by
   rw [List.getD_eq_getElem?_getD,List.getD_eq_getElem?_getD,List.getElem?_take_of_lt ab,List.getElem?_take_of_lt hi]
  rw [e]
 have e:(l.take (j+1)).getD j 0=l.getD j 0:=by
  rw [List.getD_eq_getElem?_getD,List.getD_eq_getElem?_getD,List.getElem?_take_of_lt ab]
 simp [e]
theorem kU {a b c k k' i:Int} (hk:k'≠k): ∀ (l:List Int) (n:Int),(kq a b c k' l).foldl (fun n x=> if (x.a=a∧x.b=b∧x.c=c)∧x.k=k∧x.i=i then max x.n 0 else n) n=n:=by
 intro l n
 have: ∀ (L:List An),(∀ x∈L,x.k≠k)→ ∀ n:Int,L.foldl (fun n x=> if (x.a=a∧x.b=b∧x.c=c)∧x.k=k∧x.i=i then max x.n 0 else n) n=n:=by
  intro L
  induction L with
  | nil=> intros;rfl
  | cons x L ih=> intro h n;rw [List.foldl_cons,if_neg (fun e=> h x List.mem_cons_self e.2.1)];exact ih (fun y hy=> h y (List.mem_cons_of_mem _ hy)) n
 refine this _ (fun x hx=> ?_) n
 obtain ⟨j,_,rfl⟩:=List.mem_map.1 hx
 exact hk
theorem oB {a b c k:Int} (l:List Int) (i:Nat): ∀ (m:Nat) (n:Int),m≤l.length→(kq a b c k (l.take m)).foldl (fun n x=> if (x.a=a∧x.b=b∧x.c=c)∧x.k=k∧x.i=(i:Int) then max x.n 0 else n) n=if i < m then max (l.getD i 0) 0 else n
 | 0,n,_=> by simp [kq]
 | m+1,n,h=> by
  rw [oK a b c k l ab,List.foldl_append,oB l i m n ab]
  simp only [List.foldl_cons,List.foldl_nil]
  by_cases e:i=m
  ·subst e;simp
  have e2: ¬ ((m:Int)=(i:Int)):=by omega
  rw [if_neg (fun h=> e2 h.2.2)]
  by_cases h2:i < m
  ·rw [if_pos h2,if_pos ab]
  rw [if_neg h2,if_neg ab]
theorem yQ {a b c tick:Int} {draws keeps:List Int} (i:Nat) (hd: ∀ x∈draws,0≤x):ow (ll a b c tick draws keeps) a b c 1 (i:Int)=draws.getD i 0:=by
 unfold ow ll
 rw [List.foldl_append,List.foldl_append,kU ah]
 have h:=oB (a:=a) (b:=b) (c:=c) (k:=1) draws i draws.length (0:Int) (Nat.le_refl _)
 rw [List.take_length] at h
 simp only [List.foldl_cons,List.foldl_nil]
 rw [if_neg (fun h=> absurd h.2.1 ah),h]
 split
 ·rename_i hi
  have:0≤draws.getD i 0:=by rw [List.getD_eq_getElem?_getD,List.getElem?_eq_getElem hi];exact hd _ (List.getElem_mem hi)
  omega
 rename_i hi
 rw [List.getD_eq_getElem?_getD,List.getElem?_eq_none ab];rfl
theorem ya {a b c tick:Int} {draws keeps:List Int} (i:Nat) (hd: ∀ x∈keeps,0≤x):ow (ll a b c tick draws keeps) a b c 3 (i:Int)=keeps.getD i 0:=by
 unfold ow ll
 rw [List.foldl_append,List.foldl_append]
 have h:=fun n:Int=> oB (a:=a) (b:=b) (c:=c) (k:=3) keeps i keeps.length n (Nat.le_refl _)
 rw [List.take_length] at h
 rw [h,kU ah]
 simp only [List.foldl_cons,List.foldl_nil]
 split
 ·rename_i hi
  have:0≤keeps.getD i 0:=by rw [List.getD_eq_getElem?_getD,List.getElem?_eq_getElem hi];exact hd _ (List.getElem_mem hi)
  omega
 rename_i hi
 rw [if_neg (fun h=> absurd h.2.1 ah),List.getD_eq_getElem?_getD,List.getElem?_eq_none ab];rfl
theorem xY {a b c tick:Int} {draws keeps:List Int} (ht:0≤tick):ow (ll a b c tick draws keeps) a b c 2 0=tick:=by
 unfold ow ll
 rw [List.foldl_append,List.foldl_append,kU ah,kU ah]
 simp only [List.foldl_cons,List.foldl_nil]
 simp only [and_self,if_true];omega

theorem JR (v k:Int) (hk:1≤k): -k < v.tmod k∧v.tmod k < k∧(v.tmod k+k).tmod k=v % k:=by
 have h1:v.tmod k < k:=Int.tmod_lt_of_pos v ab
 have h2: -k < v.tmod k:=by
  have:=Int.tmod_lt_of_pos (-v) (show 0 < k by omega)
  rw [Int.neg_tmod] at this;omega
 refine ⟨h2,h1,?_⟩
 rw [Int.tmod_eq_emod_of_nonneg ab,Int.add_emod_right,Int.tmod_def,Int.sub_mul_emod_self_left]
section
variable (M:Mk) (s:Ms) (dr se:Int)
theorem HC (hs:s.stack.length≤90000) (h0:0 < s.stack.length) (hk:max 1 (min (s.top 0) 4)=1):
  Spec Tryz.prog 135 (aY [.ptr (0,9) 0] (mN M s (s.asked.length:Int) se)) (bc (.v (.int .i64 0)) (mD M { s with stack:=s.pop 1 } (s.asked.length:Int) se (2,9) (3,8) (5,8)) [(0,9),(1,9),(2,9),(3,8),(4,9),(5,8),(6,9)] [(0,9),(1,9),(2,9),(4,9),(6,9)]):=by
 have hc:=nb (s.top 0) 1 4
 rw [hk] at hc
 refine Spec.ofNI Tryz.func135 rfl Tryz.ntmps135 rfl ?_
 refine am (be rfl (aj (am (bR rfl (cA (Le.incT (6,0) rfl) ?_)))))
 refine ai (bi aa [((3,8),(6,0))] ar (ca M s (s.asked.length:Int) se ab h0) ob tr tr rfl ae ae) ?_
 refine ai (aI aa al (hc) rfl rfl) ?_
 refine be rfl (aj (aq (am (aX rfl (kf rfl rfl rfl (aj (bM rfl rfl (am (be rfl (aj ?_))))))))))
 exact aG (bI (.inr rfl) rfl (.tmp lb) (Le.outI [((3,8),(6,0)),((5,8),(5,9))] [] .v rfl rfl rfl trivial ob tr rfl))
theorem Hm (hs:s.stack.length≤90000) (h0:0 < s.stack.length) (hq:s.asked.length≤90000) (hn:yh M) {k:Int} (hk:max 1 (min (s.top 0) 4)=k) (hk1:k≠1):
  Spec Tryz.prog 135 (aY [.ptr (0,9) 0] (mN M s (s.asked.length:Int) se)) (bc (.v (.int .i64 (gv M.ans s.asked.length k))) (mD M { s with stack:=s.pop 1,asked:=s.asked++[k] } ((s.asked++[k]).length:Int) se (2,9) (3,8) (5,8)) [(0,9),(1,9),(2,9),(3,8),(4,9),(5,8),(6,9)] [(0,9),(1,9),(2,9),(4,9),(6,9)]):=by
 have hk2:1≤k∧k≤4:=by omega
 have hc:=nb (s.top 0) 1 4
 rw [hk] at hc
 have hask:=CH M.t (s.asked.length:Int) k (gv M.ans s.asked.length k) (M.t.np+s.asked.length) (EP M.t M.ans s.asked) (FT hn.pl _ _) (by have:=hn.np;omega) ab (hn.lk s.asked.length k ab ab hk2.2)
 rw [CT,show M.t.np+s.asked.length+1=M.t.np+(s.asked++[k]).length by rw [List.length_append];rfl] at hask
 have htm:=JR (gv M.ans s.asked.length k) k hk2.1
 have htm2:((gv M.ans s.asked.length k).tmod k+k).tmod k=gv M.ans s.asked.length k:=by rw [htm.2.2];unfold gv;rw [Int.emod_emod_of_dvd _ (Int.dvd_refl k)]
 refine Spec.ofNI Tryz.func135 rfl Tryz.ntmps135 rfl ?_
 refine am (be rfl (aj (am (bR rfl (cA (Le.incT (6,0) rfl) ?_)))))
 refine ai (bi aa [((3,8),(6,0))] ar (ca M s (s.asked.length:Int) se ab h0) ob tr tr rfl ae ae) ?_
 refine ai (aI aa al (hc) rfl rfl) ?_
 refine be rfl (aj (aq (am (aX rfl (gM rfl rfl (beq_eq_false_iff_ne.2 hk1) ?_)))))
 refine aj (aW rfl rfl (aT (aU fun K5 hK5=> ?_)))
 refine aM (Le.incT (19,0) rfl) ?_
 refine bO 13 [10,11,12,13,14,15,16,17,18,19,20,21,4] [(4,9),(19,0),(6,9),(5,9)] ae ae rfl (aL rfl) (rfl:_=[_,_,_,_,_,_,_,_,_,_,_,_,_]) (rfl:_=[]) ?_
 refine ap (_,[]) (fun τ=> aH _ bX) ?_
 refine fP rfl ?_
 refine ap (_,[]) (fun τ=> aS _ rfl rfl) ?_
 refine fQ rfl ?_
 refine ap (_,[]) (fun τ=> aA _ aa rfl rfl rfl) ?_
 refine fU rfl ?_
 refine ap (_,[]) (fun τ=> aF _ aa rfl rfl (rfl:_=some (AV.fn _ _ _))) ?_
 refine fY rfl ?_
 refine ap (_,[]) (fun τ=> aH _ bX) ?_
 refine gz rfl ?_
 refine ap (_,[]) (fun τ=> aS _ rfl rfl) ?_
 refine gZ rfl ?_
 refine ap (_,[]) (fun τ=> aA _ aa rfl rfl rfl) ?_
 refine jg rfl ?_
 refine ap (_,[]) (fun τ=> aF _ aa rfl rfl ee) ?_
 refine ka rfl ?_
 refine ap (_,[]) (fun τ=> aH _ eg) ?_
 refine kG rfl ?_
 refine ap (_,[((4,9),_),((19,0),_),((6,9),_),((5,9), .gone)]) (fun τ=> (jp rfl aa [((5,8),(19,0))] ar (hask) ob tr tr rfl ae ae)) ?_
 refine fW rfl ?_
 refine ap (_,[]) (fun τ=> aH _ eg) ?_
 refine gL rfl ?_
 refine ap (_,[]) (fun τ=> dX _ _ rfl rfl ab rfl) ?_
 refine kP rfl ?_
 refine ap (_,[]) (fun τ=> bp _ eg) ?_
 refine mt rfl (bm ⟨rfl,?_⟩)
 refine aJ (hK5 _ ?_)
 clear hK5;try clear K5
 refine aq ?_
 refine aM (σ':=aE 34 [(0,_),(3,_),(4,_)] [((0,9),_),((1,9),_),((2,9),_),((4,9),_),((6,9),_),((6,0),_),((19,0),_)] [(0,9),(1,9),(2,9),(4,9),(6,9),(6,0),(19,0)] [(0,9),(1,9),(2,9),(4,9),(6,9)]) kp ?_
 refine an (bR rfl (ai (aS _ rfl rfl) (bb rfl rfl rfl (cf rfl rfl rfl (ai (aZ (r:=((s.asked++[k]).length:Int)) _ _ rfl rfl ((bD ab).trans (by simp))) ?_)))))
 refine ai (aS _ rfl rfl) (bb rfl rfl rfl (bG rfl rfl rfl rfl rfl rfl (aj (am (aX rfl (aX rfl (ai (aZ (r:=(gv M.ans s.asked.length k).tmod k+k) _ _ rfl rfl (bD ab)) ?_)))))))
 refine aX rfl (ai (dX (r:=gv M.ans s.asked.length k) _ _ rfl rfl ab htm2) ?_)
 exact be rfl (aj (aG (bI (.inr rfl) rfl (.tmp lb) (Le.outI [((3,8),(6,0)),((5,8),(19,0))] [] .v rfl rfl rfl trivial ob tr rfl))))
theorem sw (n:Int) (hs:s.stack.length≤90000) (h2:2≤s.stack.length) {g:FuncId} [cR Tryz.prog g] {r:Int} (hg:Spec Tryz.prog g (ba ([.v (.int .i64 (s.top 1)), .v (.int .i64 (s.top 0))]++[]) []) (aP (.v (.int .i64 r)) [])):
  Spec Tryz.prog 189 (aY [.ptr (0,9) 0, .v (.int .i64 n), .fp 0 [.fn (.func g) [] []]] (mN M s dr se)) (bc (.tup []) (mD M { s with stack:=s.pop 2++[oT r] } dr se (2,8) (3,8) (5,8)) [(0,9),(1,9),(2,8),(3,8),(4,9),(5,8),(6,9)] [(0,9),(1,9),(4,9),(6,9)]):=by
 have h2x:=ca M { s with stack:=s.pop 1 } dr se (by have:=cF s 1;simp only;omega) (by have:=cF s 1;simp only;omega)
 rw [fK s 0 1 ab,fG,Nat.zero_add] at h2x
 refine Spec.ofNI Tryz.func189 rfl Tryz.ntmps189 rfl ?_
 refine am (bR rfl (cA (Le.incT (7,0) rfl) ?_))
 refine ai (bi aa [((3,8),(7,0))] ar (ca M s dr se ab ab) ob tr tr rfl ae ae) ?_
 refine be rfl (aj ?_)
 refine aM (Le.incT (11,0) rfl) ?_
 refine bO 6 [8,9,10,11,12,13] [(0,9),(1,9),(2,9),(11,0),(4,9),(5,9),(6,9),(7,0)] ae ae rfl (aL rfl) (rfl:_=[_,_,_,_,_,_]) (rfl:_=[_]) ?_
 refine ap (_,[]) (fun τ=> aH _ bX) ?_
 refine fP rfl ?_
 refine ap (_,[]) (fun τ=> bT _ aa rfl ag rfl) ?_
 refine fQ rfl ?_
 refine ap (_,[]) (fun τ=> aH _ bX) ?_
 refine fU rfl ?_
 refine ap (_,[((0,9),_),((1,9),_),((2,9),_),((11,0),_),((4,9),_),((5,9),_),((6,9),_),((7,0), .gone)]) (fun τ=> (bi aa [((3,9),(7,0)),((3,8),(11,0))] ar (h2x) ob tr tr rfl ae ae)) ?_
 refine fY rfl ?_
 refine ap (_,[]) (fun τ=> aH _ eg) ?_
 refine gz rfl ?_
 refine ap (_,[]) (fun τ=> (me rfl aa al (hg) rfl rfl)) ?_
 refine gZ rfl (bm ⟨rfl,?_⟩)
 refine cA (Le.incT (14,0) rfl) ?_
 refine ai (bi aa [((3,9),(11,0)),((3,8),(14,0))] ar (eM M { s with stack:=s.pop 2 } dr se r (by have:=cF s 2;simp only;omega)) ob tr tr rfl ae ae) ?_
 exact aJ (fB (.inl rfl) rfl (Le.outI [((2,8),(2,9)),((3,8),(14,0)),((5,8),(5,9))] [] (.tup rfl bf) rfl rfl rfl trivial ob tr rfl))
theorem wB (n:Int) (hs:s.stack.length≤90000) (h2:2≤s.stack.length) {g:FuncId} [cR Tryz.prog g] {f:FuncId} {r:Int} (hg:Spec Tryz.prog g (ba ([.v (.int .i64 (s.top 1)), .v (.int .i64 (s.top 0))]++[.fp 0 [.fn (.func f) [] []]]) []) (aP (.v (.int .i64 r)) [])):
  Spec Tryz.prog 189 (aY [.ptr (0,9) 0, .v (.int .i64 n), .fp 0 [.fn (.func g) [] [.ptr 0 [.fn (.func f) [] []]]]] (mN M s dr se)) (bc (.tup []) (mD M { s with stack:=s.pop 2++[oT r] } dr se (2,8) (3,8) (5,8)) [(0,9),(1,9),(2,8),(3,8),(4,9),(5,8),(6,9)] [(0,9),(1,9),(4,9),(6,9)]):=by
 have h2x:=ca M { s with stack:=s.pop 1 } dr se (by have:=cF s 1;simp only;omega) (by have:=cF s 1;simp only;omega)
 rw [fK s 0 1 ab,fG,Nat.zero_add] at h2x
 refine Spec.ofNI Tryz.func189 rfl Tryz.ntmps189 rfl ?_
 refine am (bR rfl (cA (Le.incT (7,0) rfl) ?_))
 refine ai (bi aa [((3,8),(7,0))] ar (ca M s dr se ab ab) ob tr tr rfl ae ae) ?_
 refine be rfl (aj ?_)
 refine aM (Le.incT (11,0) rfl) ?_
 refine bO 6 [8,9,10,11,12,13] [(0,9),(1,9),(2,9),(11,0),(4,9),(5,9),(6,9),(7,0)] ae ae rfl (aL rfl) (rfl:_=[_,_,_,_,_,_]) (rfl:_=[_]) ?_
 refine ap (_,[]) (fun τ=> aH _ bX) ?_
 refine fP rfl ?_
 refine ap (_,[]) (fun τ=> bT _ aa rfl ag rfl) ?_
 refine fQ rfl ?_
 refine ap (_,[]) (fun τ=> aH _ bX) ?_
 refine fU rfl ?_
 refine ap (_,[((0,9),_),((1,9),_),((2,9),_),((11,0),_),((4,9),_),((5,9),_),((6,9),_),((7,0), .gone)]) (fun τ=> (bi aa [((3,9),(7,0)),((3,8),(11,0))] ar (h2x) ob tr tr rfl ae ae)) ?_
 refine fY rfl ?_
 refine ap (_,[]) (fun τ=> aH _ eg) ?_
 refine gz rfl ?_
 refine ap (_,[]) (fun τ=> (me rfl aa al (hg) rfl rfl)) ?_
 refine gZ rfl (bm ⟨rfl,?_⟩)
 refine cA (Le.incT (14,0) rfl) ?_
 refine ai (bi aa [((3,9),(11,0)),((3,8),(14,0))] ar (eM M { s with stack:=s.pop 2 } dr se r (by have:=cF s 2;simp only;omega)) ob tr tr rfl ae ae) ?_
 exact aJ (fB (.inl rfl) rfl (Le.outI [((2,8),(2,9)),((3,8),(14,0)),((5,8),(5,9))] [] (.tup rfl bf) rfl rfl rfl trivial ob tr rfl))
end

theorem Iw {x y:Int} (hx:Rg x) (hy:Rg y): -9223372036854775808≤x*y∧x*y≤9223372036854775807:=by
 unfold Rg at hx hy
 have h1:(x*y).natAbs≤2147483647*2147483647:=by
  rw [Int.natAbs_mul]
  exact Nat.mul_le_mul ab ab
 omega
theorem Fk {x y:Int} (hx:Rg x): -2147483647≤x.tdiv y∧x.tdiv y≤2147483647:=by
 unfold Rg at hx
 have h1:(x.tdiv y).natAbs≤x.natAbs:=by
  rw [Int.natAbs_tdiv]
  exact Nat.div_le_self _ _
 omega
section
variable (M:Mk) (s:Ms) (dr se:Int)
theorem Aj (n:Int) (hs:s.stack.length≤90000) (h0:0 < s.stack.length) (hk:max 1 (min (s.top 0) 4)=1):
  Spec Tryz.prog 134 (aY [.ptr (0,9) 0, .v (.int .i64 n)] (mN M s (s.asked.length:Int) se)) (bc (.tup []) (mD M { s with stack:=s.pop 1++[0] } (s.asked.length:Int) se (2,8) (3,8) (5,8)) [(0,9),(1,9),(2,8),(3,8),(4,9),(5,8),(6,9)] [(0,9),(1,9),(4,9),(6,9)]):=by
 rw [show (0:Int)=oT 0 from ah]
 refine Spec.ofNI Tryz.func134 rfl Tryz.ntmps134 rfl ?_
 refine an (bR rfl (bR rfl (cA ((Le.incT (6,1) rfl).trans (Le.incT (6,0) rfl)) ?_)))
 refine ai (bi aa [((3,8),(6,0)),((5,8),(6,1))] ar (HC M s se ab h0 hk) ob tr tr rfl ae ae) ?_
 refine cA (Le.incT (7,0) rfl) ?_
 refine ai (bi aa [((3,9),(6,0)),((5,9),(6,1)),((3,8),(7,0))] ar (eM M { s with stack:=s.pop 1 } (s.asked.length:Int) se 0 (by have:=cF s 1;simp only;omega)) ob tr tr rfl ae ae) ?_
 exact aJ (fB (.inl rfl) rfl (Le.outI [((2,8),(2,9)),((3,8),(7,0)),((5,8),(6,1))] [] (.tup rfl bf) rfl rfl rfl trivial ob tr rfl))
theorem CJ (n:Int) (hs:s.stack.length≤90000) (h0:0 < s.stack.length) (hq:s.asked.length≤80000) (hn:yh M) {k:Int} (hk:max 1 (min (s.top 0) 4)=k) (hk1:k≠1):
  Spec Tryz.prog 134 (aY [.ptr (0,9) 0, .v (.int .i64 n)] (mN M s (s.asked.length:Int) se)) (bc (.tup []) (mD M { s with stack:=s.pop 1++[gv M.ans s.asked.length k],asked:=s.asked++[k] } ((s.asked++[k]).length:Int) se (2,8) (3,8) (5,8)) [(0,9),(1,9),(2,8),(3,8),(4,9),(5,8),(6,9)] [(0,9),(1,9),(4,9),(6,9)]):=by
 have ha:gv M.ans s.asked.length k=oT (gv M.ans s.asked.length k):=by
  have h1:=Int.emod_nonneg (M.ans.getD s.asked.length 0) (show k≠0 by omega)
  have h2:=Int.emod_lt_of_pos (M.ans.getD s.asked.length 0) (show 0 < k by omega)
  unfold gv oT;omega
 rw [ha]
 refine Spec.ofNI Tryz.func134 rfl Tryz.ntmps134 rfl ?_
 refine an (bR rfl (bR rfl (cA ((Le.incT (6,1) rfl).trans (Le.incT (6,0) rfl)) ?_)))
 refine ai (bi aa [((3,8),(6,0)),((5,8),(6,1))] ar (Hm M s se ab h0 ab hn hk hk1) ob tr tr rfl ae ae) ?_
 refine cA (Le.incT (7,0) rfl) ?_
 refine ai (bi aa [((3,9),(6,0)),((5,9),(6,1)),((3,8),(7,0))] ar (eM M { s with stack:=s.pop 1,asked:=s.asked++[k] } ((s.asked++[k]).length:Int) se (gv M.ans s.asked.length k) (by have:=cF s 1;simp only;omega)) ob tr tr rfl ae ae) ?_
 exact aJ (fB (.inl rfl) rfl (Le.outI [((2,8),(2,9)),((3,8),(7,0)),((5,8),(6,1))] [] (.tup rfl bf) rfl rfl rfl trivial ob tr rfl))
end
theorem Jb {y x:Int} (hy:Rg y) (hx:Rg x):Spec Tryz.prog 137 (ba [.v (.int .i64 y), .v (.int .i64 x)] []) (aP (.v (.int .i64 (y+x))) []):=by
 refine Spec.ofN Tryz.func137 rfl Tryz.ntmps137 rfl ?_
 refine am (be rfl (aj (am (aX rfl (aX rfl (ai (aZ (r:=y+x) _ _ rfl rfl (bD (by unfold Rg at hy hx;omega))) ?_))))))
 exact be rfl (aj (aG (fv rfl rfl)))
theorem JC {y x:Int} (hy:Rg y) (hx:Rg x):Spec Tryz.prog 138 (ba [.v (.int .i64 y), .v (.int .i64 x)] []) (aP (.v (.int .i64 (y - x))) []):=by
 refine Spec.ofN Tryz.func138 rfl Tryz.ntmps138 rfl ?_
 refine am (be rfl (aj (am (aX rfl (aX rfl (ai (jt (r:=y - x) _ _ rfl rfl (bD (by unfold Rg at hy hx;omega))) ?_))))))
 exact be rfl (aj (aG (fv rfl rfl)))
theorem JQ {y x:Int} (hy:Rg y) (hx:Rg x):Spec Tryz.prog 139 (ba [.v (.int .i64 y), .v (.int .i64 x)] []) (aP (.v (.int .i64 (y*x))) []):=by
 refine Spec.ofN Tryz.func139 rfl Tryz.ntmps139 rfl ?_
 refine am (be rfl (aj (am (aX rfl (aX rfl (ai (BH (r:=y*x) _ _ rfl rfl (bD (Iw hy hx))) ?_))))))
 exact be rfl (aj (aG (fv rfl rfl)))
theorem JL {y x:Int} (hy:Rg y):Spec Tryz.prog 140 (ba [.v (.int .i64 y), .v (.int .i64 x)] []) (aP (.v (.int .i64 (if x=0 then 0 else y.tdiv x))) []):=by
 have hd:=Fk (y:=x) hy
 by_cases h0:x=0
 ·rw [if_pos h0]
  refine Spec.ofN Tryz.func140 rfl Tryz.ntmps140 rfl ?_
  refine am (be rfl (aj (aq (am (aX rfl (ai (bC _ _ rfl rfl rfl) (aj (bM rfl (decide_eq_true h0) ?_))))))))
  exact am (be rfl (aj (aG (fv rfl rfl))))
 rw [if_neg h0]
 refine Spec.ofN Tryz.func140 rfl Tryz.ntmps140 rfl ?_
 refine am (be rfl (aj (aq (am (aX rfl (ai (bC _ _ rfl rfl rfl) (aj (aW rfl (decide_eq_false h0) ?_))))))))
 refine aT (am (aX rfl (aX rfl (ai (ez (r:=y.tdiv x) _ _ rfl rfl h0 (bD ab)) ?_))))
 exact be rfl (aj (aG (fv rfl rfl)))
theorem KZ (y x:Int):Spec Tryz.prog 143 (ba [.v (.int .i64 y), .v (.int .i64 x)] []) (aP (.v (.bool (decide (y < x)))) []):=by
 refine Spec.ofN Tryz.func143 rfl Tryz.ntmps143 rfl ?_
 exact am (cu rfl (aj (am (aX rfl (aX rfl (ai (bl _ _ rfl rfl rfl) (cu rfl (aj (aG (fv rfl rfl))))))))))
theorem LN (y x:Int):Spec Tryz.prog 144 (ba [.v (.int .i64 y), .v (.int .i64 x)] []) (aP (.v (.bool (decide (y≤x)))) []):=by
 refine Spec.ofN Tryz.func144 rfl Tryz.ntmps144 rfl ?_
 exact am (cu rfl (aj (am (aX rfl (aX rfl (ai (wv _ _ rfl rfl rfl) (cu rfl (aj (aG (fv rfl rfl))))))))))
theorem Li (y x:Int):Spec Tryz.prog 145 (ba [.v (.int .i64 y), .v (.int .i64 x)] []) (aP (.v (.bool (decide (y=x)))) []):=by
 refine Spec.ofN Tryz.func145 rfl Tryz.ntmps145 rfl ?_
 exact am (cu rfl (aj (am (aX rfl (aX rfl (ai (bC _ _ rfl rfl rfl) (cu rfl (aj (aG (fv rfl rfl))))))))))
theorem BM {f:FuncId} [cR Tryz.prog f] {y x:Int} {b:Bool} (hg:Spec Tryz.prog f (ba [.v (.int .i64 y), .v (.int .i64 x)] []) (aP (.v (.bool b)) [])):Spec Tryz.prog 190 (ba [.v (.int .i64 y), .v (.int .i64 x), .fp 0 [.fn (.func f) [] []]] []) (aP (.v (.int .i64 (flag b))) []):=by
 cases b
 ·skip
  refine Spec.ofN Tryz.func190 rfl Tryz.ntmps190 rfl ?_
  refine am (be rfl (aj (aq (am (ai (bT _ aa rfl ag rfl) ?_)))))
  refine aX rfl (aX rfl (ai (me rfl aa al (hg) rfl rfl) ?_))
  exact aj (aW rfl rfl (aT (am (be rfl (aj (aG (fv rfl rfl)))))))
 refine Spec.ofN Tryz.func190 rfl Tryz.ntmps190 rfl ?_
 refine am (be rfl (aj (aq (am (ai (bT _ aa rfl ag rfl) ?_)))))
 refine aX rfl (aX rfl (ai (me rfl aa al (hg) rfl rfl) ?_))
 exact aj (bM rfl rfl (am (be rfl (aj (aG (fv rfl rfl))))))
theorem nF (g:FuncId):Spec Tryz.prog 136 (ba [.fn (.func g) [] []] []) (aP (.fn (.func 189) [] [.fp 0 [.fn (.func g) [] []]]) []):=by
 refine Spec.ofN Tryz.func136 rfl Tryz.ntmps136 rfl ?_
 refine am (ai (aQ (1,0) _ rfl rfl) (ai (bp _ lb) (aj (am (ai (jM _ _ (rfl:_=[]) (rfl:_=[_])) ?_)))))
 exact ai (bp _ lp) (aj (aG (bI (.inr rfl) rfl (.tmp lp) (Le.out [] [(1,0)] (.fn rfl bf rfl (ax (Lv.frzP rfl rfl rfl) bf)) rfl rfl rfl tr trivial))))
theorem xV (g:FuncId) (f:FuncId):Spec Tryz.prog 136 (ba [.fn (.func g) [] [.fp 0 [.fn (.func f) [] []]]] []) (aP (.fn (.func 189) [] [.fp 0 [.fn (.func g) [] [.ptr 0 [.fn (.func f) [] []]]]]) []):=by
 refine Spec.ofN Tryz.func136 rfl Tryz.ntmps136 rfl ?_
 refine am (ai (aQ (1,0) _ rfl rfl) (ai (bp _ lb) (aj (am (ai (jM _ _ (rfl:_=[]) (rfl:_=[_])) ?_)))))
 exact ai (bp _ lp) (aj (aG (bI (.inr rfl) rfl (.tmp lp) (Le.out [] [(1,0)] (.fn rfl bf rfl (ax (Lv.frzP rfl rfl rfl) bf)) rfl rfl rfl tr trivial))))
theorem pZ (f:FuncId):Spec Tryz.prog 142 (ba [.fn (.func f) [] []] []) (aP (.fn (.func 189) [] [.fp 0 [.fn (.func 190) [] [.ptr 0 [.fn (.func f) [] []]]]]) []):=by
 have hb:=xV 190 f
 refine Spec.ofN Tryz.func142 rfl Tryz.ntmps142 rfl ?_
 refine am (ai (aQ (1,0) _ rfl rfl) (ai (bp _ lb) (aj (aq ?_))))
 refine aM (Le.frzPt 1 rfl rfl rfl rfl) ?_
 refine an (ai (jM _ _ (rfl:_=[]) (rfl:_=[_])) ?_)
 refine ai (aI aa al (hb) rfl rfl) ?_
 exact ai (bp _ lp) (aj (aG (bI (.inr rfl) rfl (.tmp lp) (Le.out [] [] (.fn rfl bf rfl lz) rfl rfl rfl trivial trivial))))

def KA:Opc→FuncId
 | .push=> 127
 | .var=> 128
 | .setVar=> 130
 | .name=> 133
 | .draw=> 134
 | .add=> 189
 | .sub=> 189
 | .mul=> 189
 | .div=> 189
 | .neg=> 141
 | .lt=> 189
 | .le=> 189
 | .eq=> 189
 | .not=> 146
 | .jump=> 147
 | .unl=> 148
 | .send=> 149
 | .timer=> 150
 | .cancel=> 151
 | .sync=> 152
 | .reply=> 153
 | .fail=> 154
 | .stop=> 155
def Kf:Opc→List PV
 | .push=> []
 | .var=> []
 | .setVar=> []
 | .name=> []
 | .draw=> []
 | .add=> [.ptr 0 [.fn (.func 137) [] []]]
 | .sub=> [.ptr 0 [.fn (.func 138) [] []]]
 | .mul=> [.ptr 0 [.fn (.func 139) [] []]]
 | .div=> [.ptr 0 [.fn (.func 140) [] []]]
 | .neg=> []
 | .lt=> [.ptr 0 [.fn (.func 190) [] [.ptr 0 [.fn (.func 143) [] []]]]]
 | .le=> [.ptr 0 [.fn (.func 190) [] [.ptr 0 [.fn (.func 144) [] []]]]]
 | .eq=> [.ptr 0 [.fn (.func 190) [] [.ptr 0 [.fn (.func 145) [] []]]]]
 | .not=> []
 | .jump=> []
 | .unl=> []
 | .send=> []
 | .timer=> []
 | .cancel=> []
 | .sync=> []
 | .reply=> []
 | .fail=> []
 | .stop=> []
abbrev JH:List AV:=[.v .nilFunc, .fn (.func 127) [] [], .fn (.func 128) [] [], .fn (.func 130) [] [], .fn (.func 133) [] [], .fn (.func 134) [] [], .fn (.func 189) [] [.fp 0 [.fn (.func 137) [] []]], .fn (.func 189) [] [.fp 0 [.fn (.func 138) [] []]], .fn (.func 189) [] [.fp 0 [.fn (.func 139) [] []]], .fn (.func 189) [] [.fp 0 [.fn (.func 140) [] []]], .fn (.func 141) [] [], .fn (.func 189) [] [.fp 0 [.fn (.func 190) [] [.ptr 0 [.fn (.func 143) [] []]]]], .fn (.func 189) [] [.fp 0 [.fn (.func 190) [] [.ptr 0 [.fn (.func 144) [] []]]]], .fn (.func 189) [] [.fp 0 [.fn (.func 190) [] [.ptr 0 [.fn (.func 145) [] []]]]], .fn (.func 146) [] [], .fn (.func 147) [] [], .fn (.func 148) [] [], .fn (.func 149) [] [], .fn (.func 150) [] [], .fn (.func 151) [] [], .fn (.func 152) [] [], .fn (.func 153) [] [], .fn (.func 154) [] [], .fn (.func 155) [] []]
theorem FZ (o:Opc):JH[o.num]? =some (.fn (.func (KA o)) [] (PV.ups (Kf o))):=by cases o <;> rfl
instance KT (o:Opc):cR Tryz.prog (KA o):=by cases o <;> (unfold KA;infer_instance)
theorem Bd:Spec Tryz.prog 93 (ba [] []) (aP (.agg JH) []):=by
 refine Spec.ofN Tryz.func93 rfl Tryz.ntmps93 rfl ?_
 refine am (ai (aD (0,0) aa rfl rfl) (aj (am (ai (aI aa al (nF 137) rfl rfl) ?_))))
 refine ai (aI aa al (nF 138) rfl rfl) ?_
 refine ai (aI aa al (nF 139) rfl rfl) ?_
 refine ai (aI aa al (nF 140) rfl rfl) ?_
 refine ai (aI aa al (pZ 143) rfl rfl) ?_
 refine ai (aI aa al (pZ 144) rfl rfl) ?_
 refine ai (aI aa al (pZ 145) rfl rfl) ?_
 refine ai (aN _ aa rfl (by exact (rfl:_=some [_,_,_,_,_,_,_,_,_,_,_,_,_,_,_,_,_,_,_,_,_,_,_,_]))) ?_
 exact bG rfl rfl rfl rfl rfl rfl (aj (aG (bI (.inr rfl) rfl (.cellA aa rfl rfl rfl) (Le.out [] [] (.agg rfl lz) rfl rfl rfl trivial trivial))))
theorem gD (l:List Ac) (a:Ac):cG (l++[a])=if a.k=3 then cG l+1 else cG l:=by
 unfold cG
 rw [List.countP_append,List.countP_singleton]
 by_cases h:a.k=3 <;> simp [h]
theorem qc (b:Bool):oT (flag b)=flag b:=by cases b <;> decide
theorem Ii (M:Mk) (s:Ms) (x:eW) (nv:Nat) (hx:dj nv x) (hv:IV M.cx nv s) (hp:x.op.pops≤s.stack.length) (hs:s.stack.length≤80000) (ha:s.acts.length≤80000) (hq:s.asked.length≤80000) (hn:yh M):
  Spec Tryz.prog (KA x.op) (aY ([.ptr (0,9) 0, .v (.int .i64 x.n)]++PV.ups (Kf x.op)) (mN M s (s.asked.length:Int) (cG s.acts:Int))) (bc (.tup []) (mD M (dA M.cx x s) ((dA M.cx x s).asked.length:Int) (cG (dA M.cx x s).acts:Int) (2,8) (3,8) (5,8)) [(0,9),(1,9),(2,8),(3,8),(4,9),(5,8),(6,9)] [(0,9),(1,9),(4,9),(6,9)]):=by
 have rs0:=wh hv.rs 0
 have rs1:=wh hv.rs 1
 have hvl:=hv.vl
 have hsn:=hv.sn
 have hnat: ∀ n:Int,0≤n→ ∃ k:Nat,n=k:=fun n h=> ⟨n.toNat,by omega⟩
 obtain ⟨o,n⟩:=x
 have hpp:o.pops≤s.stack.length:=hp
 cases o
 case push=> exact FH M s _ _ n ab
 case var=>
  obtain ⟨k,rfl⟩:=hnat n hx.1
  have hk:(k:Int) < nv:=hx.2
  exact EJ M s _ _ k ab ab
 case setVar=>
  obtain ⟨k,rfl⟩:=hnat n hx.1
  have hk:(k:Int) < nv:=hx.2
  by_cases hd:k < M.P.d
  ·have h:=AG M s (s.asked.length:Int) (cG s.acts:Int) k ab ab ab hpp hd
   have e:dA M.cx ⟨.setVar,(k:Int)⟩ s={ s with vars:=s.vars.set k (s.top 0),stack:=s.pop 1,acts:=s.acts++[{ k:=1,a:=k,b:=s.top 0 }] }:=by
    simp only [dA,Int.toNat_natCast]
    rw [if_pos (show (k:Int) < ((M.P.d:Nat):Int) by omega)]
   rw [e]
   rw [show cG (s.acts++[{ k:=1,a:=k,b:=s.top 0 }])=cG s.acts from gD _ _]
   exact h
  have h:=Dd M s (s.asked.length:Int) (cG s.acts:Int) k ab ab hpp ab
  have e:dA M.cx ⟨.setVar,(k:Int)⟩ s={ s with vars:=s.vars.set k (s.top 0),stack:=s.pop 1 }:=by
   simp only [dA,Int.toNat_natCast]
   rw [if_neg (show ¬ (k:Int) < ((M.P.d:Nat):Int) by omega)]
  rw [e]
  exact h
 case name=>
  obtain ⟨k,rfl⟩:=hnat n hx.1
  have hk:(k:Int) < 9:=hx.2
  exact AN M s _ _ k ab ab
 case draw=>
  by_cases hk:max 1 (min (s.top 0) 4)=1
  ·have h:=Aj M s (cG s.acts:Int) n ab hpp hk
   have e:dA M.cx ⟨.draw,n⟩ s={ s with stack:=s.pop 1++[0] }:=if_pos hk
   rw [e];exact h
  have h:=CJ M s (cG s.acts:Int) n ab hpp hq hn rfl hk
  have e:dA M.cx ⟨.draw,n⟩ s={ s with stack:=s.pop 1++[gv M.ans s.asked.length (max 1 (min (s.top 0) 4))],asked:=s.asked++[max 1 (min (s.top 0) 4)] }:=if_neg hk
  rw [e];exact h
 case add=> exact sw M s _ _ n ab hpp (Jb rs1 rs0)
 case sub=> exact sw M s _ _ n ab hpp (JC rs1 rs0)
 case mul=> exact sw M s _ _ n ab hpp (JQ rs1 rs0)
 case div=>
  have h:=sw M s (s.asked.length:Int) (cG s.acts:Int) n ab hpp (JL (x:=s.top 0) rs1)
  have e:dA M.cx ⟨.div,n⟩ s={ s with stack:=s.pop 2++[oT (if s.top 0=0 then 0 else (s.top 1).tdiv (s.top 0))] }:=by
   show { s with stack:=s.pop 2++[if s.top 0=0 then 0 else oT ((s.top 1).tdiv (s.top 0))] }=_
   split <;> rfl
  rw [e];exact h
 case neg=> exact Ea M s _ _ n ab hpp rs0
 case not=>
  by_cases h0:s.top 0=0
  ·have h:=FC M s (s.asked.length:Int) (cG s.acts:Int) n ab hpp h0
   have e:dA M.cx ⟨.not,n⟩ s={ s with stack:=s.pop 1++[1] }:=by simp only [dA,h0,decide_true];rfl
   rw [e];exact h
  have h:=Ge M s (s.asked.length:Int) (cG s.acts:Int) n ab hpp h0
  have e:dA M.cx ⟨.not,n⟩ s={ s with stack:=s.pop 1++[0] }:=by simp only [dA,h0,decide_false];rfl
  rw [e];exact h
 case jump=>
  obtain ⟨k,rfl⟩:=hnat n hx
  exact EL M s _ _ k
 case unl=>
  obtain ⟨k,rfl⟩:=hnat n hx
  by_cases h0:s.top 0=0
  ·have h:=Fm M s (s.asked.length:Int) (cG s.acts:Int) k ab hpp h0
   have e:dA M.cx ⟨.unl,(k:Int)⟩ s={ s with stack:=s.pop 1,pc:=k }:=by simp only [dA,Int.toNat_natCast];rw [if_pos h0]
   rw [e];exact h
  have h:=Eu M s (s.asked.length:Int) (cG s.acts:Int) k ab hpp h0
  have e:dA M.cx ⟨.unl,(k:Int)⟩ s={ s with stack:=s.pop 1 }:=by simp only [dA,Int.toNat_natCast];rw [if_neg h0]
  rw [e];exact h
 case send=>
  by_cases hc:0≤s.top 2∧s.top 2 < M.cx.names.getD 1 0∧cG s.acts < 20
  ·have h:=DZ M s (s.asked.length:Int) (cG s.acts:Int) n ab ab hpp ab hc.1 hc.2.1 ab
   have e:dA M.cx ⟨.send,n⟩ s={ s with stack:=s.pop 3,acts:=s.acts++[{ k:=3,a:=s.top 2,b:=n,c:=s.top 1,d:=s.top 0 }] }:=by simp only [dA];rw [if_pos hc]
   rw [e]
   rw [show cG (s.acts++[{ k:=3,a:=s.top 2,b:=n,c:=s.top 1,d:=s.top 0 }])=cG s.acts+1 from gD _ _]
   exact h
  have e:dA M.cx ⟨.send,n⟩ s={ s with stack:=s.pop 3 }:=by simp only [dA];rw [if_neg hc]
  rw [e]
  by_cases h1:0≤s.top 2
  ·by_cases h2:s.top 2 < M.nm 1
   ·exact Ae M s (s.asked.length:Int) (cG s.acts:Int) n ab ab hpp ab h1 h2 (by
     have: ¬ cG s.acts < 20:=fun h=> hc ⟨h1,h2,h⟩
     omega)
   exact BG M s (s.asked.length:Int) (cG s.acts:Int) n ab ab hpp ab h1 ab
  exact Be M s (s.asked.length:Int) (cG s.acts:Int) n ab ab hpp ab ab
 case timer=>
  have h:=Bg M s (s.asked.length:Int) (cG s.acts:Int) n ab
  have e:cG (dA M.cx ⟨.timer,n⟩ s).acts=cG s.acts:=gD _ _
  rw [e];exact h
 case cancel=>
  have h:=xR M s (s.asked.length:Int) (cG s.acts:Int) n ab
  have e:cG (dA M.cx ⟨.cancel,n⟩ s).acts=cG s.acts:=gD _ _
  rw [e];exact h
 case sync=>
  have h:=EY M s (s.asked.length:Int) (cG s.acts:Int) n ab
  have e:cG (dA M.cx ⟨.sync,n⟩ s).acts=cG s.acts:=gD _ _
  rw [e];exact h
 case reply=>
  have h:=Av M s (s.asked.length:Int) (cG s.acts:Int) n ab ab hpp
  have e:cG (dA M.cx ⟨.reply,n⟩ s).acts=cG s.acts:=gD _ _
  rw [e];exact h
 case fail=>
  have h:=Ci M s (s.asked.length:Int) (cG s.acts:Int) n ab ab hpp
  have e:cG (dA M.cx ⟨.fail,n⟩ s).acts=cG s.acts:=gD _ _
  rw [e];exact h
 case stop=> exact DM M s _ _ n
 case lt=>
  have h:=wB M s (s.asked.length:Int) (cG s.acts:Int) n ab hpp (BM (KZ (s.top 1) (s.top 0)))
  rw [qc] at h
  exact h
 case le=>
  have h:=wB M s (s.asked.length:Int) (cG s.acts:Int) n ab hpp (BM (LN (s.top 1) (s.top 0)))
  rw [qc] at h
  exact h
 case eq=>
  have h:=wB M s (s.asked.length:Int) (cG s.acts:Int) n ab hpp (BM (Li (s.top 1) (s.top 0)))
  rw [qc] at h
  exact h

theorem uj (l:List Int) (h0:0 < l.length) (h1:l.length≤1000000):
  Spec Tryz.prog 92 (ba [.sl l.length (cw l)] []) (aP (.ref (0,8) 0 l.length) [((0,8), .row 3 1 (cw l))]):=by
 refine Spec.ofN Tryz.func92 rfl Tryz.ntmps92 rfl ?_
 refine am (ai (bp _ fC) (aj (aq (am (eY rfl (ai (sK _ _ Tryz.underlying22 (.inl ⟨_,rfl⟩) h0 rfl) ?_))))))
 refine aj (aW rfl rfl (aT (am (ai (qM _ aa rfl) (eY rfl (ai (Fc (7,0) _ _ aa rfl h0 (.sl (by simp)) ab rfl) ?_))))))
 exact fk rfl (aj (aG (bI (.inr rfl) rfl (.tmp dW) (Le.out [((0,8),(7,0))] [] (cP rfl rfl) rfl rfl rfl trivial ob))))
theorem IZ {P:Program} {fn:Func} {σ σ1 σ':St} {e:Exit} (h:Le σ1 σ) (q:oV P fn σ' e σ1):oV P fn σ' e σ:=⟨q.1,fun K ι S a w R=> let ⟨ι1,S1,R1⟩:=h K ι S a w R;q.2 K ι1 S1 a w R1⟩
theorem uK:Spec Tryz.prog 92 (ba [.sl 0 (cw [])] []) (aP (.ref (0,8) 0 0) [((0,8), .row 3 1 (cw []))]):=by
 refine Spec.ofN Tryz.func92 rfl Tryz.ntmps92 rfl ?_
 refine am (ai (bp _ fC) (aj (aq (am (eY rfl (AY (tB _ _ Tryz.underlying22 rfl rfl) ?_))))))
 rintro _ ⟨b4,rfl⟩
 refine aj (aR rfl (fun hc4=> ?_) (fun hc4=> ?_))
 ·skip
  exact am (ai (bp _ fC) (aj (aG (IZ (Le.nilS 2 (60,0) 3 1 rfl rfl) (bI (.inr rfl) rfl (.tmp dW) (Le.out [((0,8),(60,0))] [] (cP rfl rfl) rfl rfl rfl trivial ob))))))
 refine aT (am (ai (kv (5,0) _ _ aa rfl ag (by (simp <;> rfl)) ah rfl rfl) ?_))
 refine eY rfl (ai (du (7,0) _ _ aa rfl rfl rfl (.sl rfl) ab rfl rfl rfl) ?_)
 exact fk rfl (aj (aG (bI (.inr rfl) rfl (.tmp dW) (Le.out [((0,8),(7,0))] [] (cP rfl rfl) rfl rfl rfl trivial ob))))
theorem qh (l:List Int) (h1:l.length≤1000000):
  Spec Tryz.prog 92 (ba [.sl l.length (cw l)] []) (aP (.ref (0,8) 0 l.length) [((0,8), .row 3 1 (cw l))]):=by
 by_cases h0:0 < l.length
 ·exact uj l h0 h1
 obtain rfl:l=[]:=List.eq_nil_of_length_eq_zero ab
 exact uK
def kI (l:List Nat):List (Int×Value):=l.foldl (fun M (i:Nat)=> jK M (i:Int) (.agg #[])) []
theorem Dp (l:List Nat) (i:Nat):kI (l++[i])=jK (kI l) (i:Int) (.agg #[]):=by simp [kI,List.foldl_append]
theorem zQ {M:List (Int×Value)} {n:Int} {u:Value} (h:oP M n=some u):(n,u)∈M:=by
 unfold oP at h
 cases hf:nA n M 0 with
 | none=> rw [hf] at h;cases h
 | some p=>
  obtain ⟨i,v⟩:=p
  rw [hf] at h
  obtain rfl:v=u:=Option.some.inj h
  obtain ⟨q,_,hq⟩:=tx hf
  exact List.mem_of_getElem? hq
theorem uf {M:List (Int×Value)} {n:Int} {u:Value} {p:Int×Value} (h:p∈jK M n u):p∈M∨p=(n,u):=by
 unfold jK at h
 split at h
 ·exact .inl h
 rcases List.mem_append.1 h with h | h
 ·exact .inl h
 exact .inr (List.mem_singleton.1 h)
theorem vg: ∀ (l:List Nat) (M:List (Int×Value)),(∀ p∈M,p.2= .agg #[])→ ∀ p∈l.foldl (fun M (i:Nat)=> jK M (i:Int) (.agg #[])) M,p.2= .agg #[]
 | [],_,h=> h
 | i::l,M,h=> vg l _ fun p hp=> by
  rcases uf hp with hp | rfl
  ·exact h p hp
  rfl
theorem sM (l:List Nat): ∀ p∈kI l,p.2= .agg #[]:=vg l [] fun p hp=> by cases hp
theorem DB {M:List (Int×Value)} {n:Int} (h:oP M n=none):n∉M.map (·.1):=by
 intro hm
 obtain ⟨p,hp,he⟩:=List.mem_map.1 hm
 unfold oP at h
 cases hf:nA n M 0 with
 | some q=> rw [hf] at h;cases h
 | none=>
  clear h hm
  have: ∀ (M:List (Int×Value)) (i:Nat),nA n M i=none→ ∀ p∈M,p.1≠n:=by
   intro M
   induction M with
   | nil=> intro i _ p hp;cases hp
   | cons a l ih=>
    intro i h p hp
    unfold nA at h
    split at h
    ·cases h
    rename_i hne
    rcases List.mem_cons.1 hp with rfl | hp
    ·exact fun e=> hne e.symm
    exact ih _ h p hp
  exact this M 0 hf p hp he
theorem Gi {M:List (Int×Value)} {n:Int} {u:Value} (h:(M.map (·.1)).Nodup):((jK M n u).map (·.1)).Nodup:=by
 unfold jK
 cases hg:oP M n with
 | some v=> exact h
 | none=>
  simp only [Option.isSome_none,Bool.false_eq_true,if_false,List.map_append,List.map_cons,List.map_nil]
  exact List.nodup_append.2 ⟨h,by simp,fun a ha b hb e=> DB hg (by rw [List.mem_singleton.1 hb] at e;exact e ▸ ha)⟩
theorem xm: ∀ (l:List Nat) (M:List (Int×Value)),(M.map (·.1)).Nodup→((l.foldl (fun M (i:Nat)=> jK M (i:Int) (.agg #[])) M).map (·.1)).Nodup
 | [],_,h=> h
 | _::l,_,h=> xm l _ (Gi h)
theorem CD (l:List Nat):((kI l).map (·.1)).Nodup:=xm l [] List.nodup_nil
theorem xf {N:Int}: ∀ (l:List Nat) (M:List (Int×Value)),(∀ i∈l,(i:Int)≤N)→(∀ p∈M,0≤p.1∧p.1≤N)→ ∀ p∈l.foldl (fun M (i:Nat)=> jK M (i:Int) (.agg #[])) M,0≤p.1∧p.1≤N
 | [],_,_,h=> h
 | i::l,M,hl,h=> xf l _ (fun j hj=> hl j (List.mem_cons_of_mem _ hj)) fun p hp=> by
  rcases uf hp with hp | rfl
  ·exact h p hp
  exact ⟨by simp only;omega,hl i List.mem_cons_self⟩
theorem BJ (l:List Nat) (h: ∀ i∈l,i≤1000000): ∀ p∈kI l,0≤p.1∧p.1≤1000000:=xf l [] (fun i hi=> by have:=h i hi;omega) fun p hp=> by cases hp
theorem Ej (l:List Nat) (n:Int): ∀ u,oP (kI l) n=some u→u= .agg #[]:=fun u h=> sM l _ (zQ h)
structure Sz (s:Ms):Prop where
 st:s.stack.length≤s.steps
 ac:s.acts.length≤s.steps
 ak:s.asked.length≤s.steps
theorem DR (K:Cx) (x:eW) (s:Ms):(dA K x s).stack.length≤s.stack.length+1∧(dA K x s).acts.length≤s.acts.length+1∧(dA K x s).asked.length≤s.asked.length+1∧(dA K x s).steps=s.steps:=by
 have hp:=cF s
 unfold dA
 cases x.op <;> simp only [List.length_append,List.length_cons,List.length_nil,hp]
 case setVar=> split <;> simp <;> omega
 case draw=> split <;> simp [hp] <;> omega
 case send=> split <;> simp <;> omega
 all_goals (refine ⟨?_,?_,?_,?_⟩ <;> first | trivial | omega)
theorem sk {K:Cx} {s:Ms} (h:Sz s):Sz (jf K s):=by
 obtain ⟨h1,h2,h3,h4⟩:=DR K (K.code.getD s.pc { op:= .stop }) { s with pc:=s.pc+1,steps:=s.steps+1,cov:=s.cov++[s.pc] }
 have:=h.st;have:=h.ac;have:=h.ak
 exact ⟨by unfold jf;rw [h4];simp only at h1 ⊢;omega,by unfold jf;rw [h4];simp only at h2 ⊢;omega,by unfold jf;rw [h4];simp only at h3 ⊢;omega⟩
theorem Di {ρ:aC→aC} {σ:St} {F:aC→Bool} {id id':aC} (h:ρ id=id'):Lv ρ σ F (.mp id) (.mp id'):=by subst h;exact .mp
def fz (M:List (Int×Value)):List Int:=(M.map (·.1)).mergeSort (fun x y=> decide (x≤y))
theorem rH (es:List MapEntry) (c:Nat):Spec Tryz.prog 95 (aY [.mp (0,9)] [((0,9), .mp es c)]) (bc (.fn (.func 158) [] [.ptr (1,8) 0]) [((0,9), .mp es c),((1,8), .box 175 [.mp (0,9)])] [(0,9)] [(0,9)]):=by
 refine Spec.ofNI Tryz.func95 rfl Tryz.ntmps95 rfl ?_
 refine am (ai (aQ (1,0) _ rfl rfl) (ai (bp _ lb) (aj (am (ai (jM _ _ (rfl:_=[]) (rfl:_=[_])) ?_)))))
 exact ai (bp _ lp) (aj (aG (bI (.inr rfl) rfl (.tmp lp) (Le.outI [((1,8),(1,0))] [] (.fn rfl bf rfl lz) rfl rfl rfl trivial ⟨⟨rfl,⟨_,rfl, .mp⟩,rfl⟩,⟨rfl,⟨_,rfl, .box rfl (ax (Di rfl) bf)⟩,rfl⟩,trivial⟩ tr rfl))))
theorem Da {σ:St} {rn:List (aC×aC)} (o:Opc):gH σ rn (PV.ups (Kf o)) (PV.ups (Kf o)):=by
 cases o <;> first | exact dI | exact dg .fp dI
theorem Ia (o:Opc):o.num < 24:=by cases o <;> decide
theorem Ab (M:List (Int×Value)) (n:Int) (u:Value):(jK M n u).length≤M.length+1:=by unfold jK;split <;> simp
theorem uy: ∀ (l:List Nat) (M:List (Int×Value)),(l.foldl (fun M (i:Nat)=> jK M (i:Int) (.agg #[])) M).length≤M.length+l.length
 | [],M=> Nat.le_refl _
 | i::l,M=> by have:=uy l (jK M i (.agg #[]));have:=Ab M i (.agg #[]);simp only [List.foldl_cons,List.length_cons];omega
theorem xo (l:List Nat):(kI l).length≤l.length:=by have:=uy l [];simpa [kI] using this
theorem CA (K:Cx) (x:eW) (s:Ms):(dA K x s).cov=s.cov:=by
 unfold dA
 cases x.op <;> simp only
 all_goals (split <;> rfl)
theorem Ff {K:Cx} {s:Ms} (h:s.fin=true): ∀ k,kV K k s=s
 | 0=> rfl
 | k+1=> by rw [kV,if_pos h]
abbrev Jl (M:Mk) (l:List Int) (ak:aC):List (aC×Cells):=zC M.t (M.t.np+l.length) (EP M.t M.ans l) ak
abbrev zY:Prop:= ∀ (M:List (Int×Value)),M.length≤1000000→(∀ p∈M,p.2= .agg #[])→(M.map (·.1)).Nodup→(∀ p∈M,0≤p.1∧p.1≤1000000)→Spec Tryz.prog 94 (aY [.fn (.func 158) [] [.ptr (1,9) 0]] [((0,9), .mp (eO M) M.length),((1,9), .box 175 [.mp (0,9)])]) (bc (.sl (fz M).length (cw (fz M))) [((0,9), .mp (eO M) M.length),((1,9), .box 175 [.mp (0,9)])] [(0,9),(1,9)] [(0,9),(1,9)])
set_option maxHeartbeats 1000000 in
theorem yd (M:Mk) (hS:zY) (D:Nat→Nat) (nv:Nat) (hK:PG M.cx D nv) (h:Nat) (hh:h < 40) (e0:Nat) (he:M.P.e h=(e0:Int)) (he2:e0 < M.P.c.length) (hD:D e0=0) (hiv:M.iv.length=nv) (hir: ∀ v∈M.iv,Rg v) (hc:M.P.c.length≤1000000) (hn:yh M) (R:Ms) (hR:R=kV M.cx 500 (dV M.iv e0)):
  Spec Tryz.prog 59 (aY [il M.P, .v (.int .i64 (h:Int)), .agg [.sl M.iv.length (cw M.iv), .v (.int .i64 (M.nm 0)), .v (.int .i64 (M.nm 1)), .v (.int .i64 (M.nm 2)), .v (.int .i64 (M.nm 3)), .v (.int .i64 (M.nm 4)), .v (.int .i64 (M.nm 5)), .v (.int .i64 (M.nm 6)), .v (.int .i64 (M.nm 7)), .v (.int .i64 (M.nm 8))],wo (6,9)] (Jl M [] (5,9))) (bc (.agg [.sl R.vars.length (cw R.vars), .ref (2,8) 0 R.acts.length, .v (.int .i64 (R.steps:Int)), .v (.bool (!R.fin)), .sl (fz (kI R.cov)).length (cw (fz (kI R.cov)))]) (((2,8), .row 57 5 (vA R.acts))::Jl M R.asked (5,8)) [(2,8),(4,9),(5,8),(6,9)] [(4,9),(6,9)]):=by
 have hnv:=hK.nv
 have hcl:=qh M.iv ab
 have hg:=tJ M.P.c.length (inl M.P.c) M.P.e (M.P.d:Int) (M.P.v:Int) h hh
 rw [he] at hg
 refine Spec.ofNI Tryz.func59 rfl Tryz.ntmps59 rfl ?_
 refine am (ai (aQ (4,0) _ rfl rfl) (ai (aQ (6,0) _ rfl rfl) (ai (aD (8,0) aa rfl rfl) (aj (aq (bO 11 [13,14,15,16,17,18,19,20,21,22,23] [(22,0)] ae ae rfl (aL rfl) (rfl:_=[_,_,_,_,_,_,_,_,_,_,_]) (rfl:_=[_,_,_]) ?_))))))
 refine ap (_,[]) (fun τ=> az _ aa rfl rfl rfl rfl) ?_
 refine fP rfl ?_
 refine ap (_,[]) (fun τ=> az _ aa rfl rfl rfl rfl) ?_
 refine fQ rfl ?_
 refine ap (_,[]) (fun τ=> aH _ lp) ?_
 refine fU rfl ?_
 refine ap (_,[]) (fun τ=> aH _ eg) ?_
 refine fY rfl ?_
 refine ap (_,[]) (fun τ=> aA _ aa rfl rfl rfl) ?_
 refine gz rfl ?_
 refine ap (_,[]) (fun τ=> da _ _ aa rfl rfl rfl h rfl ab (by exact congrArg (fun z=> 0+1+z) (Nat.mul_one h))) ?_
 refine gZ rfl ?_
 refine ap (_,[]) (fun τ=> aF _ aa rfl rfl (by exact (congrArg (fun z=> (DF M.P.c.length (inl M.P.c) M.P.e (M.P.d:Int) (M.P.v:Int))[z]?) ab).trans hg)) ?_
 refine jg rfl ?_
 refine ap (_,[]) (fun τ=> aA _ aa rfl rfl rfl) ?_
 refine ka rfl ?_
 refine ap (_,[]) (fun τ=> aF _ aa rfl rfl eG) ?_
 refine kG rfl ?_
 refine ap (_,[((22,0),_)]) (fun τ=> (bW aa [((0,8),(22,0))] ar (hcl.toI) trivial tr tr rfl rfl ae ae)) ?_
 refine fW rfl ?_
 refine ap (_,[]) (fun τ=> aN _ aa rfl (by exact (rfl:_=some [AV.ref (22,0) 0 M.iv.length,AV.v (.slice none 0 0),AV.v (.int .i64 0),AV.v (.bool false),AV.v (.slice none 0 0)]))) ?_
 refine gL rfl (bm ⟨rfl,?_⟩)
 refine ai (aN _ aa rfl (by exact (rfl:_=some [_,_,_,_,_,_,_,_,_,_,_,_,_,_,_,_,_,_,_,_,_,_,_,_,_,_,_,_,_,_,_,_,_,_,_,_,_,_,_,_,_,_,_,_,_,_,_,_,_,_,_,_,_,_,_,_,_,_,_,_,_,_,_,_]))) ?_
 refine ai (aQ (25,0) _ rfl rfl) (wG rfl (aj (aq (aq ?_))))
 refine aM (σ':=aE 108 [(4,_),(8,_),(9,_)] [((4,9),_),((5,9),_),((6,9),_),((4,0),_),((8,0),_),((22,0),_),((25,0),_)] [(4,9),(5,9),(6,9)] [(4,9),(6,9)]) kp ?_
 refine an (bR rfl (ai (aS _ rfl rfl) (bb rfl rfl rfl (cf rfl rfl rfl (ai (bl _ _ rfl rfl rfl) (aj (aW rfl (decide_eq_false ab) ?_)))))))
 refine aT (am (ai (aI aa (by repeat' (exact cX)) (Bd) rfl rfl) ?_))
 refine ai (aD (10,0) aa rfl rfl) (bG rfl rfl rfl rfl rfl rfl (aj (am (ai (Hn (36,0) rfl) (ai (bp _ (rfl:_=AV.mp _)) (aj (aU fun K7 hK7=> ?_)))))))
 refine ay ?_
 refine aM (Le.incT (60,0) rfl) ?_
 refine aM (Le.incT (61,0) rfl) ?_
 refine aM (Le.nilB (25,0) 55 (60,0) 57 5 rfl rfl rfl) ?_
 refine aM (Le.nilB (25,0) 59 (61,0) 3 1 rfl rfl rfl) ?_
 refine bq (α:=Nat×Ms) (fun z=> R=kV M.cx z.1 z.2∧z.1+z.2.steps=500∧At M.cx D nv z.2∧Sz z.2) 108 [(4,_),(8,_),(9,_),(10,_),(11,_)] [((4,0),_),((8,0),_),((10,0),_),((6,9),_)] (fun z=> []) (fun z=> [((25,0), .box 171 [.sl M.P.c.length (inl M.P.c), .v (.int .i64 (M.P.e 0)), .v (.int .i64 (M.P.e 1)), .v (.int .i64 (M.P.e 2)), .v (.int .i64 (M.P.e 3)), .v (.int .i64 (M.P.e 4)), .v (.int .i64 (M.P.e 5)), .v (.int .i64 (M.P.e 6)), .v (.int .i64 (M.P.e 7)), .v (.int .i64 (M.P.e 8)), .v (.int .i64 (M.P.e 9)), .v (.int .i64 (M.P.e 10)), .v (.int .i64 (M.P.e 11)), .v (.int .i64 (M.P.e 12)), .v (.int .i64 (M.P.e 13)), .v (.int .i64 (M.P.e 14)), .v (.int .i64 (M.P.e 15)), .v (.int .i64 (M.P.e 16)), .v (.int .i64 (M.P.e 17)), .v (.int .i64 (M.P.e 18)), .v (.int .i64 (M.P.e 19)), .v (.int .i64 (M.P.e 20)), .v (.int .i64 (M.P.e 21)), .v (.int .i64 (M.P.e 22)), .v (.int .i64 (M.P.e 23)), .v (.int .i64 (M.P.e 24)), .v (.int .i64 (M.P.e 25)), .v (.int .i64 (M.P.e 26)), .v (.int .i64 (M.P.e 27)), .v (.int .i64 (M.P.e 28)), .v (.int .i64 (M.P.e 29)), .v (.int .i64 (M.P.e 30)), .v (.int .i64 (M.P.e 31)), .v (.int .i64 (M.P.e 32)), .v (.int .i64 (M.P.e 33)), .v (.int .i64 (M.P.e 34)), .v (.int .i64 (M.P.e 35)), .v (.int .i64 (M.P.e 36)), .v (.int .i64 (M.P.e 37)), .v (.int .i64 (M.P.e 38)), .v (.int .i64 (M.P.e 39)), .v (.int .i64 (M.P.d:Int)), .v (.int .i64 (M.P.v:Int)), .sl M.iv.length (cw M.iv), .v (.int .i64 (M.nm 0)), .v (.int .i64 (M.nm 1)), .v (.int .i64 (M.nm 2)), .v (.int .i64 (M.nm 3)), .v (.int .i64 (M.nm 4)), .v (.int .i64 (M.nm 5)), .v (.int .i64 (M.nm 6)), .v (.int .i64 (M.nm 7)), .v (.int .i64 (M.nm 8)),wo (6,9), .ref (22,0) 0 z.2.vars.length, .ref (60,0) 0 z.2.acts.length, .v (.int .i64 (z.2.steps:Int)), .v (.bool false), .v (.slice none 0 0), .ref (61,0) 0 z.2.stack.length, .v (.int .i64 (z.2.pc:Int)), .v (.int .i64 (z.2.asked.length:Int)), .v (.int .i64 (cG z.2.acts:Int)), .v (.bool z.2.fin)]),((22,0), .row 3 1 (cw z.2.vars)),((60,0), .row 57 5 (vA z.2.acts)),((61,0), .row 3 1 (cw z.2.stack)),((36,0), .mp (eO (kI z.2.cov)) (kI z.2.cov).length),((4,9), .box 103 [.v (.int .i64 M.t.c1), .v (.int .i64 M.t.c2), .v (.int .i64 M.t.c3), .sl M.t.na M.t.A, .ref (5,9) 0 (M.t.np+z.2.asked.length)]),((5,9), .row 111 7 (EP M.t M.ans z.2.asked))]) [(4,9),(5,9),(6,9),(60,0),(61,0)] [(4,9),(6,9)] (fun z=> z.1) (500,dV M.iv e0) ?_ (by
  refine Le.mkJ [] [] rfl ?_ ?_ trivial tr ?_
  ·exact ⟨(iP rfl),(iP rfl),(iP rfl),(iP rfl),(iM rfl),trivial⟩
  ·exact ⟨(bF rfl rfl rfl),(bF rfl rfl rfl),(bF rfl rfl rfl),(bF rfl rfl rfl),(fu rfl rfl rfl rfl (ax (jl ag ag) (pq (pq (pq (pq (nC (nC (ax (jl ag ag) (EB (EB (nC (ax (by repeat' (first | exact dJ rfl | refine Lv.fn rfl ?_ rfl ?_ | exact bf | refine ax ?_ ?_)) (ax (cP rfl ag) (ax (cP rfl ag) (nC (ax (mw ag) (ax (by repeat' (exact Lv.v)) lz)))))))))))))))))),(fj rfl rfl rfl ag),(fj rfl rfl rfl ag),(fj rfl rfl rfl ag),(Ph rfl rfl rfl ag ag),(fu rfl rfl rfl rfl lz),(fj rfl rfl rfl ag),trivial⟩
  kernel_rfl) ?_
 ·exact ⟨hR,rfl,tX hiv hir he2 hD,⟨Nat.le_refl _,Nat.le_refl _,Nat.le_refl _⟩⟩
 intro z hz
 obtain ⟨k,s⟩:=z
 obtain ⟨hz1,hz2,hz3,hz4⟩:=hz
 simp only at hz1 hz2 hz3 hz4 ⊢
 have hl1:=hz4.st
 have hl2:=hz4.ac
 have hl3:=hz4.ak
 have hcn:=hz3.cn
 refine aU fun K8 hK8=> ?_
 refine aU fun K9 hK9=> ?_
 refine an (bR rfl (ai (aS _ rfl rfl) (bb rfl rfl rfl (Af rfl rfl rfl (ai (cj (r:= !s.fin) _ rfl rfl) ?_)))))
 refine cE rfl (dw (fun hg42=> ?_) (fun hg42=> ?_))
 ·skip
  have hf:s.fin=false:=by simpa using hg42
  refine au rfl rfl (aH _ bX) (au rfl rfl (aS _ rfl rfl) (au rfl rfl (aA _ aa rfl rfl rfl) (au rfl rfl (aA _ aa rfl rfl rfl) (au rfl rfl (aF _ aa rfl rfl ee) (au rfl rfl (bl (r:=decide ((s.steps:Int) < 500)) _ _ rfl rfl rfl) ?_)))))
  refine ai (aB _ _ _ rfl bJ) (aJ (hK9 _ ?_))
  clear hK9;try clear K9
  refine aR rfl (fun hc49=> ?_) (fun hc49=> ?_)
  ·skip
   obtain ⟨k,rfl⟩: ∃ q,k=q+1:=⟨k - 1,by omega⟩
   obtain ⟨hp,hd⟩:=hz3.go hf
   obtain ⟨⟨o,n⟩,hx⟩: ∃ x,M.cx.code[s.pc]? =some x:=⟨_,List.getElem?_eq_getElem hp⟩
   obtain ⟨g1,g2,_⟩:=hK.good s.pc ⟨o,n⟩ hx
   rw [Nat.zero_add] at g2
   have g2:o.pops≤D s.pc:=g2
   have hgx:M.cx.code.getD s.pc { op:= .stop }=⟨o,n⟩:=by rw [List.getD_eq_getElem?_getD,hx];rfl
   have hst:jf M.cx s=dA M.cx ⟨o,n⟩ { s with pc:=s.pc+1,steps:=s.steps+1,cov:=s.cov++[s.pc] }:=by unfold jf;rw [hgx]
   have hat:=sV hK hz3 hf
   have hsz:=sk (K:=M.cx) hz4
   have hss:=(stepM_steps (K:=M.cx) (s:=s)).1
   rw [kV,if_neg (by rw [hf];decide)] at hz1
   have hop:=Ii M { s with pc:=s.pc+1,steps:=s.steps+1,cov:=s.cov++[s.pc] } ⟨o,n⟩ nv g1 ⟨hz3.iv.vl,hz3.iv.rv,hz3.iv.rs,hz3.iv.ac,hz3.iv.sn,hz3.iv.ar⟩ (show o.pops≤s.stack.length by omega) (by simp only;omega) (by simp only;omega) (by simp only;omega) hn
   have hcov:=CA M.cx ⟨o,n⟩ { s with pc:=s.pc+1,steps:=s.steps+1,cov:=s.cov++[s.pc] }
   rw [hst] at hz1 hat hsz hss
   have hmp:jK (kI s.cov) (s.pc:Int) (.agg #[])=kI (dA M.cx ⟨o,n⟩ { s with pc:=s.pc+1,steps:=s.steps+1,cov:=s.cov++[s.pc] }).cov:=by rw [hcov,Dp]
   have hia:=CI M.P.c s.pc hp
   rw [show cZ M.P.c s.pc=⟨o,n⟩ from hgx] at hia
   have hn24:=Ia o
   have hpcl:s.pc < M.P.c.length:=hp
   generalize dA M.cx ⟨o,n⟩ { s with pc:=s.pc+1,steps:=s.steps+1,cov:=s.cov++[s.pc] }=E at hz1 hat hsz hss hop hcov hmp
   refine bs (hK8 _ ?_)
   clear hK8;try clear K8
   refine ay (am (ai (aH _ (rfl:_=AV.mp _)) (bR rfl (ai (aS _ rfl rfl) (bb rfl rfl rfl (cf rfl rfl rfl (ai (aN _ aa rfl (by exact (rfl:_=some []))) ?_)))))))
   refine ai (DU _ _ _ Tryz.underlying175 Tryz.underlying3 rfl rfl rfl rfl rfl (Ej _ _) hmp rfl) ?_
   refine aj (aq ?_)
   refine aM (σ':=aE 108 [(4,_),(8,_),(9,_),(10,_),(11,_)] [((4,0),_),((8,0),_),((10,0),_),((25,0),_),((22,0),_),((60,0),_),((61,0),_),((36,0),_),((6,9),_),((4,9),_),((5,9),_)] [(4,9),(5,9),(6,9),(60,0),(61,0)] [(4,9),(6,9)]) kp ?_
   refine bO 9 [56,57,58,59,60,61,62,63,12] [(12,0)] ae ae rfl (aL rfl) (rfl:_=[_,_,_,_,_,_,_,_,_]) (rfl:_=[_]) ?_
   refine ap (_,[]) (fun τ=> aA _ aa rfl rfl rfl) ?_
   refine fP rfl ?_
   refine ap (_,[]) (fun τ=> aF _ aa rfl rfl eG) ?_
   refine fQ rfl ?_
   refine ap (_,[]) (fun τ=> aH _ bX) ?_
   refine fU rfl ?_
   refine ap (_,[]) (fun τ=> aS _ rfl rfl) ?_
   refine fY rfl ?_
   refine ap (_,[]) (fun τ=> aA _ aa rfl rfl rfl) ?_
   refine gz rfl ?_
   refine ap (_,[]) (fun τ=> aF _ aa rfl rfl ee) ?_
   refine gZ rfl ?_
   refine ap (_,[]) (fun τ=> bn _ _ aa rfl rfl _ rfl ab (by (simp only [aO,bg,bj,aO,bP,gk];omega)) ag) ?_
   refine jg rfl ?_
   refine ap (_,[]) (fun τ=> cg _ aa rfl (by exact hia) rfl) ?_
   refine ka rfl ?_
   refine ap (_,[((12,0),_)]) (fun τ=> aD (12,0) aa rfl rfl) ?_
   refine kG rfl (bm ⟨rfl,?_⟩)
   refine bG rfl rfl rfl rfl rfl rfl (aj (am (bR rfl (ai (aS _ rfl rfl) (bb rfl rfl rfl (cf rfl rfl rfl (ai (aZ (r:=((s.pc+1:Nat):Int)) _ _ rfl rfl ((bD ab).trans ab)) ?_)))))))
   refine ai (aS _ rfl rfl) (bb rfl rfl rfl (bG rfl rfl rfl rfl rfl rfl (aj (aq ?_))))
   refine aM (σ':=aE 108 [(4,_),(8,_),(9,_),(10,_),(11,_),(12,_)] [((4,0),_),((8,0),_),((10,0),_),((25,0),_),((22,0),_),((60,0),_),((61,0),_),((36,0),_),((12,0),_),((6,9),_),((4,9),_),((5,9),_)] [(4,9),(5,9),(6,9),(60,0),(61,0)] [(4,9),(6,9)]) kp ?_
   refine an (bR rfl (ai (aS _ rfl rfl) (bb rfl rfl rfl (bb rfl rfl rfl (cf rfl rfl rfl (ai (aZ (r:=((s.steps+1:Nat):Int)) _ _ rfl rfl ((bD ab).trans ab)) ?_))))))
   refine ai (aS _ rfl rfl) (bb rfl rfl rfl (bb rfl rfl rfl (bG rfl rfl rfl rfl rfl rfl (aj ?_))))
   refine aM (σ':=aE 108 [(4,_),(8,_),(9,_),(10,_),(11,_),(12,_)] [((4,0),_),((8,0),_),((10,0),_),((25,0),_),((22,0),_),((60,0),_),((61,0),_),((36,0),_),((12,0),_),((6,9),_),((4,9),_),((5,9),_)] [(4,9),(5,9),(6,9),(60,0),(61,0)] [(4,9),(6,9)]) kp ?_
   refine bO 7 [80,81,82,83,84,85,86] [] ae ae rfl (aL rfl) (rfl:_=[_,_,_,_,_,_,_]) (rfl:_=[_]) ?_
   refine ap (_,[]) (fun τ=> aA _ aa rfl rfl rfl) ?_
   refine fP rfl ?_
   refine ap (_,[]) (fun τ=> aF _ aa rfl rfl ee) ?_
   refine fQ rfl ?_
   refine ap (_,[]) (fun τ=> da _ _ aa rfl rfl rfl o.num rfl ab (by exact (Nat.zero_add _).trans (Nat.mul_one _))) ?_
   refine fU rfl ?_
   refine ap (_,[]) (fun τ=> aF _ aa rfl rfl (by exact FZ o)) ?_
   refine fY rfl ?_
   refine ap (_,[]) (fun τ=> aH _ bX) ?_
   refine gz rfl ?_
   refine ap (_,[]) (fun τ=> aA _ aa rfl rfl rfl) ?_
   refine gZ rfl ?_
   refine ap (_,[]) (fun τ=> aF _ aa rfl rfl ee) ?_
   refine jg rfl (bm ⟨rfl,?_⟩)
   refine cA ((Le.incT (87,0) rfl).trans ((Le.incT (87,1) rfl).trans (Le.incT (87,2) rfl))) ?_
   refine ai (jp rfl aa [((0,9),(25,0)),((1,9),(22,0)),((2,9),(60,0)),((3,9),(61,0)),((2,8),(87,0)),((3,8),(87,1)),((5,8),(87,2))] ?_ (hop) ob tr tr rfl (by clear hS hg hia hop;cases o <;> kernel_rfl) ae) ?_
   ·exact dg (dJ rfl) (dg .v (Da o))
   refine aJ (⟨(k,E),?_,?_,?_⟩)
   ·exact ⟨hz1,by simp only;omega,hat,hsz⟩
   ·skip
    refine Le.mkJ [((60,0),(87,0)),((61,0),(87,1)),((5,9),(87,2))] [] rfl ?_ ?_ trivial tr ?_
    ·exact ⟨(dJ (id:=(4,0)) rfl),(dJ (id:=(8,0)) rfl),(dJ (id:=(25,0)) rfl),(dJ (id:=(10,0)) rfl),(by repeat' (exact Lv.mp)),trivial⟩
    ·exact ⟨(fu rfl rfl rfl rfl (by repeat' (first | exact Lv.v | exact Lv.sl | exact bf | refine ax ?_ ?_))),(fu rfl rfl rfl rfl (by repeat' (first | exact Lv.v | exact bf | refine ax ?_ ?_))),(fu rfl rfl rfl rfl (by repeat' (first | exact Lv.v | exact Lv.fp | refine Lv.fn rfl ?_ rfl ?_ | exact bf | refine ax ?_ ?_))),(fu rfl rfl rfl rfl (by repeat' (first | exact dJ (id:=(4,9)) rfl | refine Lv.fn rfl ?_ rfl ?_ | exact bf | refine ax ?_ ?_))),(fu rfl rfl rfl rfl (ax (jl ag ag) (pq (pq (pq (pq (nC (nC (ax (jl ag ag) (EB (EB (nC (ax (by repeat' (first | exact dJ (id:=(6,9)) rfl | refine Lv.fn rfl ?_ rfl ?_ | exact bf | refine ax ?_ ?_)) (ax (cP rfl ag) (ax (cP rfl ag) (nC (ax (mw ag) (ax (by repeat' (exact Lv.v)) lz)))))))))))))))))),(fj rfl rfl rfl ag),(fj rfl rfl rfl ag),(fj rfl rfl rfl ag),(Ph rfl rfl rfl ag ag),(fu rfl rfl rfl rfl lz),(fj rfl rfl rfl ag),trivial⟩
    kernel_rfl
   simp only;omega
  obtain rfl:k=0:=by omega
  obtain rfl:R=s:=hz1
  refine bB (id (hK7 _ ?_))
  clear hK7;try clear K7
  refine am (bR rfl (bR rfl (ai (aS _ rfl rfl) (bb rfl rfl rfl (Af rfl rfl rfl (ai (cj (r:= !R.fin) _ rfl rfl) ?_))))))
  refine ai (aS _ rfl rfl) (bb rfl rfl rfl (bb rfl rfl rfl (bG rfl rfl rfl rfl rfl rfl (aj (aq ?_)))))
  refine aM (σ':=aE 108 [(8,_),(9,_),(11,_)] [((8,0),_),((25,0),_),((22,0),_),((60,0),_),((61,0),_),((36,0),_),((6,9),_),((4,9),_),((5,9),_)] [(4,9),(5,9),(6,9),(60,0),(61,0)] [(4,9),(6,9)]) kp ?_
  refine an (bR rfl (ai (aH _ (rfl:_=AV.mp _)) (ai (bW aa [((0,9),(36,0)),((1,8),(99,0))] ?_ (rH _ _) ⟨⟨rfl,⟨_,rfl, .mp⟩,rfl⟩,trivial⟩ tr tr rfl rfl ae ae) ?_)))
  ·exact dg (Di rfl) dI
  refine ai (bW aa [((0,9),(36,0)),((1,9),(99,0))] ar (hS (kI R.cov) (by have:=xo R.cov;omega) (sM _) (CD _) (BJ _ fun i hi=> Nat.le_trans (Nat.le_of_lt (hz3.cl i hi)) hc)) ⟨⟨rfl,⟨_,rfl, .mp⟩,rfl⟩,⟨rfl,⟨_,rfl, .box ag (ax (Di (id:=(0,9)) (id':=(36,0)) rfl) bf)⟩,rfl⟩,trivial⟩ tr tr rfl rfl ae ae) ?_
  refine ai (aS _ rfl rfl) (bb rfl rfl rfl (bb rfl rfl rfl (bG rfl rfl rfl rfl rfl rfl (aj (am (bR rfl (ai (aS _ rfl rfl) (bb rfl rfl rfl (ai (az _ aa rfl rfl rfl rfl) (bG rfl rfl rfl rfl rfl rfl ?_))))))))))
  exact aj (aG (bI (.inr rfl) rfl (.cellA aa rfl rfl rfl) (Le.outI [((2,8),(60,0)),((5,8),(5,9))] [(22,0)] (.agg rfl (ax (fi rfl rfl (by simp) rfl) lz)) rfl rfl rfl tr ob tr rfl)))
 have hf:s.fin=true:=by simpa using hg42
 obtain rfl:R=s:=hz1.trans (Ff hf k)
 refine aK rfl rfl ah ?_
 refine aK rfl rfl ah ?_
 refine aK rfl rfl ah ?_
 refine aK rfl rfl ah ?_
 refine aK rfl rfl ah ?_
 refine aK rfl rfl ah ?_
 refine ai (aB _ _ _ rfl bJ) (aJ (hK9 _ ?_))
 clear hK9;try clear K9
 refine aW rfl rfl (bB (id (hK7 _ ?_)))
 clear hK7;try clear K7
 refine am (bR rfl (bR rfl (ai (aS _ rfl rfl) (bb rfl rfl rfl (Af rfl rfl rfl (ai (cj (r:= !R.fin) _ rfl rfl) ?_))))))
 refine ai (aS _ rfl rfl) (bb rfl rfl rfl (bb rfl rfl rfl (bG rfl rfl rfl rfl rfl rfl (aj (aq ?_)))))
 refine aM (σ':=aE 108 [(8,_),(9,_),(11,_)] [((8,0),_),((25,0),_),((22,0),_),((60,0),_),((61,0),_),((36,0),_),((6,9),_),((4,9),_),((5,9),_)] [(4,9),(5,9),(6,9),(60,0),(61,0)] [(4,9),(6,9)]) kp ?_
 refine an (bR rfl (ai (aH _ (rfl:_=AV.mp _)) (ai (bW aa [((0,9),(36,0)),((1,8),(99,0))] ?_ (rH _ _) ⟨⟨rfl,⟨_,rfl, .mp⟩,rfl⟩,trivial⟩ tr tr rfl rfl ae ae) ?_)))
 ·exact dg (Di rfl) dI
 refine ai (bW aa [((0,9),(36,0)),((1,9),(99,0))] ar (hS (kI R.cov) (by have:=xo R.cov;omega) (sM _) (CD _) (BJ _ fun i hi=> Nat.le_trans (Nat.le_of_lt (hz3.cl i hi)) hc)) ⟨⟨rfl,⟨_,rfl, .mp⟩,rfl⟩,⟨rfl,⟨_,rfl, .box ag (ax (Di (id:=(0,9)) (id':=(36,0)) rfl) bf)⟩,rfl⟩,trivial⟩ tr tr rfl rfl ae ae) ?_
 refine ai (aS _ rfl rfl) (bb rfl rfl rfl (bb rfl rfl rfl (bG rfl rfl rfl rfl rfl rfl (aj (am (bR rfl (ai (aS _ rfl rfl) (bb rfl rfl rfl (ai (az _ aa rfl rfl rfl rfl) (bG rfl rfl rfl rfl rfl rfl ?_))))))))))
 exact aj (aG (bI (.inr rfl) rfl (.cellA aa rfl rfl rfl) (Le.outI [((2,8),(60,0)),((5,8),(5,9))] [(22,0)] (.agg rfl (ax (fi rfl rfl (by simp) rfl) lz)) rfl rfl rfl tr ob tr rfl)))

abbrev Gz:Prop:= ∀ (M:List (Int×Value)) (g b:Nat) (w:World),M.length≤1000000→(M.map (·.1)).Nodup→(∀ p∈M,0≤p.1∧p.1≤1000000)→g < w.heap.size→w.cell? ⟨g,0,none⟩=some (.map (some b))→w.heap[b]? =some (.map (eO M).toArray M.length)→
  Calls Tryz.prog 94 #[.func (.func 158) #[] #[.pointer (some ⟨g,0,none⟩)]] w fun e w'=> ∃ (v:Value) (ss:List Int),e= .returned v∧ss.Perm (M.map (·.1))∧
    w'.ownsRow w.heap.size 3 1 v ss.length ((ss.mergeSort (fun x y=> decide (x≤y))).map fun x=> Value.int .i64 x)∧Below w.heap.size w w'
theorem Ap {l m:List Int} (h:l.Perm m):l.mergeSort (fun x y=> decide (x≤y))=m.mergeSort (fun x y=> decide (x≤y)):=by
  have tr: ∀ a b c:Int,decide (a≤b)=true→decide (b≤c)=true→decide (a≤c)=true:=fun a b c h1 h2=> by
    simp only [decide_eq_true_eq] at*;omega
  have tt: ∀ a b:Int,(decide (a≤b) || decide (b≤a))=true:=fun a b=> by simp only [Bool.or_eq_true,decide_eq_true_eq];omega
  have p1:=List.pairwise_mergeSort (le:=fun x y:Int=> decide (x≤y)) tr tt l
  have p2:=List.pairwise_mergeSort (le:=fun x y:Int=> decide (x≤y)) tr tt m
  exact ((List.mergeSort_perm l _).trans (h.trans (List.mergeSort_perm m _).symm)).eq_of_pairwise (le:=fun x y:Int=> decide (x≤y)=true) (fun a b _ _ h1 h2=> by simp only [decide_eq_true_eq] at h1 h2;omega) p1 p2
theorem Cu (hC:Gz):zY:=by
  intro M hlen hval hnd hrg K ι S vs w hw0 hrd R
  obtain ⟨B1,g1,b1,b2,b3,b4⟩:=R.ob (1,9) (.box 175 [.mp (0,9)]) rfl
  obtain ⟨B0,g0,c1,c2,c3⟩:=R.ob (0,9) (.mp (eO M) M.length) rfl
  have hnt:vs.size=1:=R.nt
  have hf:Rep ι S w (.fn (.func 158) [] [.ptr (1,9) 0]) (vs.getD 0 undef):=R.fr 0 (by show 0 < 1;omega)
  have hvs:vs= #[.func (.func 158) #[] #[.pointer (some ⟨g1,0,none⟩)]]:=by
    generalize hx:vs.getD 0 undef=x at hf
    have hvx:vs= #[x]:=by
      apply Array.ext
      · rw [hnt];rfl
      intro i h1 h2
      have:i=0:=by omega
      subst this
      simp only [Array.getD_eq_getD_getElem?,Array.getElem?_eq_getElem h1,Option.getD_some] at hx
      rw [hx];rfl
    rw [hvx]
    cases hf with
    | fn a1 a2 a3 a4=>
    rename_i us ws
    obtain rfl:us= #[]:=Array.size_eq_zero_iff.1 (by simpa using a1)
    have h0:=a4 0 (.ptr (1,9) 0) rfl
    have hws:ws.size=1:=a2
    generalize hy:ws.getD 0 undef=y at h0
    have hwy:ws= #[y]:=by
      apply Array.ext
      · rw [hws];rfl
      intro i h1 h2
      have:i=0:=by omega
      subst this
      simp only [Array.getD_eq_getD_getElem?,Array.getElem?_eq_getElem h1,Option.getD_some] at hy
      rw [hy];rfl
    rw [hwy]
    cases h0 with
    | ptr h _=>
    obtain ⟨g',hg',rfl⟩:=h B1 b1
    rw [b2] at hg'
    obtain rfl:=Option.some.inj hg'
    rfl
  have hbox: ∃ cur e,w.heap[g1]? =some (.cells cur e (0,0))∧cur[0]? =some (.map (some g0)):=by
    rcases b4 with ⟨d1,_⟩ | ⟨g,cur,d1,d2,d3,d4,d5⟩
    · rw [b2] at d1;cases d1
    rw [b2] at d1
    obtain rfl:=Option.some.inj d1
    obtain ⟨u,u1,u2,u3⟩:=d5 0 (by simp)
    have:=u3 (.mp (0,9)) rfl
    cases this with
    | mp h _=>
    obtain ⟨g',hg',rfl⟩:=h B0 c1
    rw [c2] at hg'
    obtain rfl:=Option.some.inj hg'
    exact ⟨cur,_,d2,u1⟩
  obtain ⟨cur1,e1,hh1,hc1⟩:=hbox
  have hlt:g1 < w.heap.size:=(Array.getElem?_eq_some_iff.1 hh1).1
  subst hvs
  refine (hC M g1 g0 w hlen hnd hrg hlt (eI hh1 hc1) c3).mono ?_
  rintro e w' ⟨v,ss,rfl,hp,hrow,hbl⟩
  have hsrt:ss.mergeSort (fun x y=> decide (x≤y))=fz M:=Ap hp
  have hsl:ss.length=(fz M).length:=by rw [← hsrt,List.length_mergeSort]
  rw [hsrt,hsl] at hrow
  have fin: ∀ (S':Nat→Prop),(∀ g,S g→S' g)→(∀ g,S' g→S g∨w.heap.size≤g)→(∀ g,S' g→g < w'.heap.size)→Rd S' w' (.sl (fz M).length (cw (fz M))) v→ ∃ v2 ι' S',Ending.returned v=Ending.returned v2∧RelI K ι' S' (bc (.sl (fz M).length (cw (fz M))) [((0,9), .mp (eO M) M.length),((1,9), .box 175 [.mp (0,9)])] [(0,9),(1,9)] [(0,9),(1,9)]) ⟨#[v2],[]⟩ w':=by
    intro S' g1 g2 g3 hrd
    have R3:=R.gen (ι':=ι) (S':=S') (w':=w') (ob':=(aY [.fn (.func 158) [] [.ptr (1,9) 0]] [((0,9), .mp (eO M) M.length),((1,9), .box 175 [.mp (0,9)])]).ob) (inc':=(aY [.fn (.func 158) [] [.ptr (1,9) 0]] [((0,9), .mp (eO M) M.length),((1,9), .box 175 [.mp (0,9)])]).inc) (fun _=> False) (.of_below hbl) (fun _ _=> rfl) (fun _ _=> rfl) (fun _ _=> rfl) (fun _ h=> h) g1
      (fun g h=> by rcases g2 g h with h | h; · exact .inl h
                    exact .inr (.inl h)) g3
      (fun _ _ h=> h.elim) (fun _ _ h=> h.elim) (fun _ _ h=> h.elim) (fun _ _ _ _ _ h=> h.elim) (fun _ _ _ h=> h.elim) (fun _ _ _ h=> h.elim)
    refine ⟨v,ι,S',rfl,R3.keeps,R3.S0,R3.Slt,rfl,R3.df,fun t ht=> ?_,fun t id hh=> ?_,R3.clo,R3.ob,R3.dom,R3.inj,R3.sep,R3.pin,R3.pf⟩
    · obtain rfl:t=0:=by have:t < 1:=ht;omega
      exact .sl hrd
    cases t with
    | zero=> exact absurd hh oL
    | succ t=> exact absurd hh (fun h=> by cases h)
  rcases hrow.2 with ⟨hv,hz⟩ | ⟨g,cap,cur,hv,hbase,hg,r1,r2,r3,r4⟩
  · subst hv
    have hn:fz M=[]:=List.eq_nil_of_length_eq_zero hz
    refine fin S (fun _ h=> h) (fun _ h=> .inl h) (fun g h=> Nat.lt_of_lt_of_le (R.Slt g h) hbl.size) ?_
    rw [hn]
    exact .sl0 (Nat.le_refl _) (by unfold maxLen;omega) fun _=> ⟨rfl,rfl⟩
  subst hv
  refine fin (fun k=> S k∨k=g) (fun _ h=> .inl h) (fun k h=> ?_) (fun k h=> ?_) ?_
  · rcases h with h | h
    · exact .inl h
    exact .inr (by rw [h];exact hbase)
  · rcases h with h | h
    · exact Nat.lt_of_lt_of_le (R.Slt k h) hbl.size
    rw [h];exact (Array.getElem?_eq_some_iff.1 hg).1
  have key: ∀ (j:Nat) (p:PV),(cw (fz M))[j]? =some p→ ∃ x:Int,p= .v (.int .i64 x)∧cur[j]? =some (.int .i64 x):=by
    intro j p hj
    rw [cw,List.getElem?_map] at hj
    obtain ⟨x,hx,rfl⟩:=Option.map_eq_some_iff.1 hj
    refine ⟨x,rfl,?_⟩
    have h5:(cur.toList.take ((fz M).length*1))[j]? =some (.int .i64 x):=by rw [r4,List.getElem?_map,hx];rfl
    rw [List.getElem?_take] at h5
    split at h5
    · simpa using h5
    cases h5
  refine Rd.sl (o:=0) (fun j=> cur.getD j undef) r1 r2 (.mk (.inr rfl) hg) (fun j p hj=> ?_) (fun j p hj=> ?_)
  · obtain ⟨x,_,hu⟩:=key j p hj
    simp only [Nat.zero_add,Array.getD_eq_getD_getElem?,hu,Option.getD_some]
    exact eI hg hu
  obtain ⟨x,rfl,hu⟩:=key j p hj
  simp only [Array.getD_eq_getD_getElem?,hu,Option.getD_some]
  exact .v rfl
end Go.Proofs.YtmjnackchaahbaaGreat
