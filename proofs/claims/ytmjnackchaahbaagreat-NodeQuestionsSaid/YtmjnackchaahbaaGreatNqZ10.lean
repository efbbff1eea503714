/- part 10 -/
import Derived.Test.YtmjnackchaahbaaGreatNqZ9
set_option linter.unusedSimpArgs false
set_option linter.unusedVariables false
namespace Go.Proofs.YtmjnackchaahbaaGreat
open Go.RowKit

def nc (l:List Nd):List PV:=l.flatMap Nd.row
theorem bH (l:List Nd):(nc l).length=l.length*4:=iW Nd.row 4 (fun _=> rfl) l
theorem AL (l:List Nd) (d:Nd):nc l++d.row=nc (l++[d]):=jR Nd.row l d
theorem qG {T:List Tk} {g lv i:Nat} {r:List Nd×Nat} (h:nY T g lv i=some r): ∃ f,g=f+1∧((dm T i).t=[125]∧r=([],i)∨(dm T i).t≠[125]∧ ∃ d j l k,yU T f lv i=some (d,j)∧nY T f lv j=some (l,k)∧r=(d::l,k)):=by
 cases g with
 | zero=> simp [nY] at h
 | succ f=>
  refine ⟨f,rfl,?_⟩
  unfold nY at h
  split at h
  ·rename_i ht;exact .inl ⟨ht,(Option.some.inj h).symm⟩
  rename_i ht
  simp only [Option.bind_eq_bind,Option.bind_eq_some_iff,Option.pure_def] at h
  obtain ⟨⟨d,j⟩,hd,⟨l,k⟩,hl,h⟩:=h
  exact .inr ⟨ht,d,j,l,k,hd,hl,(Option.some.inj h).symm⟩
section
variable {T:List Tk} {N:List Tx}
theorem Bw (hT:T.length≤100000) (f:Nat) (hf:f≤2000000) (ih: ∀ g,g≤f→PS T N g) (lv i:Nat) (r:Nd×Nat) (hl:lv≤21) (hi:i < T.length) (h:re T (f+1) lv i=some r):
  r.2 < T.length∧Spec Tryz.prog 164 (aY [.ptr (0,9) 0, .v (.int .i64 (lv:Int))] (ea T i N)) (PO T N r):=by
 unfold re at h
 simp only [Option.bind_eq_bind,Option.bind_eq_some_iff,Option.pure_def,Option.some.injEq] at h
 obtain ⟨j,hj,⟨L,j2⟩,hL,j3,hj3,rfl⟩:=h
 have ho:=kR hj
 have hjl:=jN ho.2 hi
 have hl':=ho.1
 have hopen:=oN T i j N [123] lv hi hT hj
 simp only at hj3 ⊢
 have hend: ∀ (g i:Nat) (r:List Nd×Nat),g≤f→i < T.length→nY T g lv i=some r→r.2 < T.length:=by
  intro g
  induction g with
  | zero=> intro i r _ _ h;simp [nY] at h
  | succ g ihg=>
   intro i r hg hi h
   obtain ⟨g',hg',h | ⟨_,d,j,l,k,hd,hm,h⟩⟩:=qG h
   ·rw [h.2];exact hi
   obtain rfl:g=g':=by omega
   rw [h]
   exact ihg j (l,k) ab ((ih g ab).stm _ _ _ hl' hi hd).1 hm
 have hj2:=hend f j _ (Nat.le_refl _) hjl hL
 refine ⟨jN hj3 hj2,?_⟩
 refine Spec.ofNI Tryz.func164 rfl Tryz.ntmps164 rfl ?_
 refine am (ai (aD (4,0) aa rfl rfl) (aj (am (ai (aN _ aa rfl (by exact kK)) ?_))))
 refine ai (aD (5,0) aa rfl rfl) (bG rfl rfl rfl rfl rfl rfl (aj (aq ?_)))
 refine aM (Le.nilB (5,0) 3 (60,0) 71 4 rfl rfl rfl) ?_
 refine an (bR rfl (aX rfl (ai (bU (hopen)) (aj (aU fun K4 hK4=> ?_)))))
 refine ay ?_
 refine bq (α:=Nat×List Nd×Nat) (fun z=> z.1≤f∧z.2.1.length+z.1=f∧z.2.2 < T.length∧ ∃ l,nY T z.1 lv z.2.2=some (l,j2)∧L=z.2.1++l) 31 [(0,_),(1,_),(4,_),(5,_)] [((4,0),_)] (fun z=> []) (fun z=> [((0,9), .box 222 [.sl T.length (tF T), .v (.int .i64 (z.2.2:Int)), .v (.int .i64 0), .v (.int .i64 0), .sl N.length (fo N)]),((5,0), .box 71 [.v (.int .i64 11), .v (.int .i64 0), .v (bt []), .ref (60,0) 0 z.2.1.length]),((60,0), .row 71 4 (nc z.2.1))]) [(0,9)] [(0,9)] (fun z=> z.1) (f,[],j) ?_ (by
  refine Le.mkJ [] [] rfl ?_ ?_ trivial tr ?_
  ·exact ⟨(iP rfl),(iV rfl),(iP rfl),(iP rfl),trivial⟩
  ·exact ⟨(bF rfl rfl rfl),(fu rfl rfl rfl rfl lz),(fu rfl rfl rfl rfl (nC (nC (ax (by repeat' (exact Lv.v)) lz)))),(fj rfl rfl rfl ag),trivial⟩
  kernel_rfl) ?_
 ·exact ⟨Nat.le_refl _,Nat.zero_add _,hjl,L,hL,rfl⟩
 intro z hz
 obtain ⟨z1,z2,z3⟩:=z
 obtain ⟨hz1,hz2,hz3,l,hz4,hz5⟩:=hz
 obtain ⟨g,rfl,hm⟩:=qG hz4
 simp only at hz1 hz2 hz3 hz5 hm ⊢
 refine aU fun K5 hK5=> ?_
 refine am (bR rfl (ai (aS _ rfl rfl) (bb rfl rfl rfl (cf rfl rfl rfl (kf rfl rfl rfl (cE rfl (au rfl rfl (aH _ bX) (au rfl rfl (br aa _ _ ar (bQ T z3 N hz3) tr rfl ae (by simp)) ?_))))))))
 refine au rfl rfl (sN _ _ Tryz.underlying9 rfl rfl rfl) (ai (aB _ _ _ rfl bJ) (aj (aR rfl (fun hc19=> ?_) (fun hc19=> ?_))))
 ·skip
  obtain ⟨_,d,jd,l',k',hd,hm',hr⟩:=hm.resolve_left fun x=> hc19 x.1
  obtain ⟨rfl,rfl⟩:=Prod.mk.inj hr
  obtain ⟨hda,hdb⟩:=(ih g ab).stm _ _ _ hl' hz3 hd
  have hlen:(z2++[d]).length=z2.length+1:=by simp
  refine bs (hK5 _ ?_)
  clear hK5;try clear K5
  refine ay ?_
  refine aM (σ':=aE 31 [(0,_),(1,_),(4,_),(5,_)] [((4,0),_),((0,9),_),((5,0),_),((60,0),_)] [(0,9)] [(0,9)]) kp ?_
  refine bO 6 [20,21,22,23,24,25] [(0,9)] ae ae rfl (aL rfl) (rfl:_=[_,_,_,_,_,_]) (rfl:_=[_,_,_]) ?_
  refine ap (_,[]) (fun τ=> aA _ aa rfl rfl rfl) ?_
  refine fP rfl ?_
  refine ap (_,[]) (fun τ=> aF _ aa rfl rfl ei) ?_
  refine fQ rfl ?_
  refine ap (_,[]) (fun τ=> aH _ bX) ?_
  refine fU rfl ?_
  refine ap (_,[]) (fun τ=> aH _ eg) ?_
  refine fY rfl ?_
  refine ap (_,[((0,9),_)]) (fun τ=> (kE aa ar (hdb) ob rfl rfl ae)) ?_
  refine gz rfl ?_
  refine ap (_,[]) (fun τ=> bh _ _ aa rfl ag (by (simp <;> rfl)) ah rfl) ?_
  refine gZ rfl (bm ⟨rfl,?_⟩)
  refine ai (du (26,0) _ _ aa rfl rfl (bH _).symm (.sl rfl) ab rfl (AL _ d) hlen.symm) ?_
  refine bb rfl rfl rfl (bG rfl rfl rfl rfl rfl rfl (aJ (⟨(g,z2++[d],jd),?_,?_,?_⟩)))
  ·exact ⟨by simp only;omega,by simp only;omega,hda,l',hm',by rw [hz5];simp⟩
  ·skip
   refine Le.mkJ [((60,0),(26,0))] [] rfl ?_ ?_ trivial tr ?_
   ·exact ⟨(dJ (id:=(0,9)) rfl),(by repeat' (exact Lv.v)),(dJ (id:=(4,0)) rfl),(dJ (id:=(5,0)) rfl),trivial⟩
   ·exact ⟨(fu rfl rfl rfl rfl (by repeat' (first | exact Lv.v | exact bf | refine ax ?_ ?_))),(fu rfl rfl rfl rfl lz),(fu rfl rfl rfl rfl (nC (nC (ax (by repeat' (exact Lv.v)) lz)))),(fj rfl rfl rfl ag),trivial⟩
   kernel_rfl
  simp only;omega
 obtain ⟨_,hr⟩:=hm.resolve_right fun x=> x.1 hc19
 obtain ⟨rfl,rfl⟩:=Prod.mk.inj hr
 rw [List.append_nil] at hz5
 subst hz5
 have hexp:=fS T j2 j3 N [125] hj2 hT hj3
 refine bB (id (hK4 _ ?_))
 clear hK4;try clear K4
 exact am (bR rfl (ai (bU (hexp)) (aj (am (ai (az _ aa rfl rfl rfl rfl) (bG rfl rfl rfl rfl rfl rfl (aj (aG (bI (.inr rfl) rfl (.cellA aa rfl rfl rfl) (Le.outI [] [(60,0)] (.agg rfl (ax .v (ax .v (ax .v (ax (fi rfl rfl (bH _).symm rfl) bf))))) rfl rfl rfl tr ob tr rfl))))))))))
theorem sF {T:List Tk} {most i:Nat} {r:Nat×Nat} (h:py T most i=some r) (hi:i < T.length):r.2 < T.length:=by
 unfold py at h
 split at h
 ·rw [← Option.some.inj h];exact em hi
 cases h
theorem De (hT:T.length≤100000) (f:Nat) (ih:PS T N f) (lv i:Nat) (r:Nd×Nat) (hl:lv≤20) (hi:i < T.length) (h:yU T (f+1) lv i=some r):
  r.2 < T.length∧Spec Tryz.prog 202 (aY [.ptr (0,9) 0, .v (.int .i64 (lv:Int))] (ea T i N)) (PO T N r):=by
 have htl:=em hi
 have hx:=fun {i:Nat} {r:Nd×Nat} (hi:i < T.length) (h:gO T f lv 1 i=some r)=> zc (N:=N) hT hl hi h
 have hb:=fun {i:Nat} {r:Nd×Nat} (hi:i < T.length) (h:re T f (lv+1) i=some r)=> ih.blk (lv+1) i r ab hi h
 have he:=fun {i j:Nat} {s:Tx} (hi:i < T.length) (h:gR T s i=some j)=> And.intro (jN h hi) (fS T i j N s hi hT h)
 have hn:=fun {i most:Nat} {r:Nat×Nat} (hm:most≤1000) (hi:i < T.length) (h:py T most i=some r)=> And.intro (sF h hi) (lW T i N most hi hT hm r h)
 unfold yU at h
 simp only at h
 by_cases h0:eK T i=true
 ·rw [if_pos h0] at h
  simp only [Option.bind_eq_bind,Option.bind_eq_some_iff,Option.pure_def,Option.some.injEq] at h
  obtain ⟨j1,e1,⟨d,j2⟩,e2,j3,e3,rfl⟩:=h
  obtain ⟨a1,b1⟩:=he htl e1
  obtain ⟨a2,b2⟩:=hx a1 e2
  obtain ⟨a3,b3⟩:=he a2 e3
  exact ⟨a3,xQ hT lv i hl hi h0 b1 b2 b3⟩
 rw [if_neg h0] at h
 by_cases h1:(dm T i).t=vG∨(dm T i).t=kJ
 ·rw [if_pos h1] at h
  simp only [Option.bind_eq_bind,Option.bind_eq_some_iff,Option.pure_def] at h
  obtain ⟨⟨c,j1⟩,e1,⟨x,j2⟩,e2,h⟩:=h
  obtain ⟨a1,b1⟩:=hx htl e1
  obtain ⟨a2,b2⟩:=hb a1 e2
  simp only at h
  by_cases hw:(dm T i).t=kJ
  ·rw [if_pos hw] at h
   obtain rfl:=Option.some.inj h
   exact ⟨a2,Dn hT lv i hl hi hw b1 b2⟩
  rw [if_neg hw] at h
  have hf:=h1.resolve_right hw
  by_cases hel:(dm T j2).t=tb
  ·rw [if_pos hel] at h
   simp only [Option.bind_eq_some_iff,Option.some.injEq] at h
   obtain ⟨⟨y,j3⟩,e3,rfl⟩:=h
   obtain ⟨a3,b3⟩:=hb (em a2) e3
   exact ⟨a3,yt hT lv i hl hi hf b1 b2 a2 hel b3⟩
  rw [if_neg hel] at h
  obtain rfl:=Option.some.inj h
  exact ⟨a2,Jt hT lv i hl hi hf b1 b2 a2 hel⟩
 rw [if_neg h1] at h
 by_cases h2:(dm T i).t=qz
 ·rw [if_pos h2] at h
  simp only [Option.bind_eq_bind,Option.bind_eq_some_iff,Option.pure_def,Option.some.injEq] at h
  obtain ⟨⟨x,j1⟩,e1,j2,e2,⟨k,j3⟩,e3,j4,e4,⟨y,j5⟩,e5,j6,e6,⟨z,j7⟩,e7,j8,e8,rfl⟩:=h
  obtain ⟨a1,b1⟩:=hx htl e1
  obtain ⟨a2,b2⟩:=he a1 e2
  obtain ⟨a3,b3⟩:=hn ab a2 e3
  obtain ⟨a4,b4⟩:=he a3 e4
  obtain ⟨a5,b5⟩:=hx a4 e5
  obtain ⟨a6,b6⟩:=he a5 e6
  obtain ⟨a7,b7⟩:=hx a6 e7
  obtain ⟨a8,b8⟩:=he a7 e8
  exact ⟨a8,Fp hT lv i hl hi h2 b1 b2 b3 b4 b5 b6 b7 b8⟩
 rw [if_neg h2] at h
 by_cases h3:(dm T i).t=im
 ·rw [if_pos h3] at h
  simp only [Option.bind_eq_bind,Option.bind_eq_some_iff,Option.pure_def,Option.some.injEq] at h
  obtain ⟨⟨k,j1⟩,e1,j2,e2,rfl⟩:=h
  obtain ⟨a1,b1⟩:=hn ab htl e1
  obtain ⟨a2,b2⟩:=he a1 e2
  exact ⟨a2,Cb hT lv i hl hi h3 b1 b2⟩
 rw [if_neg h3] at h
 by_cases h4:(dm T i).t=lq
 ·rw [if_pos h4] at h
  simp only [Option.bind_eq_bind,Option.bind_eq_some_iff,Option.pure_def,Option.some.injEq] at h
  obtain ⟨⟨k,j1⟩,e1,j2,e2,rfl⟩:=h
  obtain ⟨a1,b1⟩:=hn ab htl e1
  obtain ⟨a2,b2⟩:=he a1 e2
  exact ⟨a2,yK hT lv i hl hi h4 b1 b2⟩
 rw [if_neg h4] at h
 by_cases h5:(dm T i).t=nP
 ·rw [if_pos h5] at h
  simp only [Option.bind_eq_bind,Option.bind_eq_some_iff,Option.pure_def,Option.some.injEq] at h
  obtain ⟨⟨x,j1⟩,e1,j2,e2,⟨y,j3⟩,e3,j4,e4,rfl⟩:=h
  obtain ⟨a1,b1⟩:=hx htl e1
  obtain ⟨a2,b2⟩:=he a1 e2
  obtain ⟨a3,b3⟩:=hx a2 e3
  obtain ⟨a4,b4⟩:=he a3 e4
  exact ⟨a4,zZ hT lv i hl hi h5 b1 b2 b3 b4⟩
 rw [if_neg h5] at h
 by_cases h6:(dm T i).t=qQ
 ·rw [if_pos h6] at h
  simp only [Option.bind_eq_bind,Option.bind_eq_some_iff,Option.pure_def,Option.some.injEq] at h
  obtain ⟨⟨x,j1⟩,e1,j2,e2,rfl⟩:=h
  obtain ⟨a1,b1⟩:=hx htl e1
  obtain ⟨a2,b2⟩:=he a1 e2
  exact ⟨a2,DY hT lv i hl hi h6 b1 b2⟩
 rw [if_neg h6] at h
 by_cases h7:(dm T i).t=qr
 ·rw [if_pos h7] at h
  simp only [Option.bind_eq_bind,Option.bind_eq_some_iff,Option.pure_def,Option.some.injEq] at h
  obtain ⟨j1,e1,rfl⟩:=h
  obtain ⟨a1,b1⟩:=he htl e1
  exact ⟨a1,FB hT lv i hl hi h7 b1⟩
 rw [if_neg h7] at h
 by_cases h8:(dm T i).t=pR
 ·rw [if_pos h8] at h
  simp only [Option.bind_eq_bind,Option.bind_eq_some_iff,Option.pure_def,Option.some.injEq] at h
  obtain ⟨j1,e1,rfl⟩:=h
  obtain ⟨a1,b1⟩:=he htl e1
  exact ⟨a1,Ez hT lv i hl hi h8 b1⟩
 rw [if_neg h8] at h
 cases h
theorem HU (hT:T.length≤100000): ∀ f,f≤2000000→ ∀ g,g≤f→PS T N g:=by
 intro f
 induction f with
 | zero=>
  intro _ g hg
  obtain rfl:g=0:=by omega
  exact ⟨fun _ _ _ _ _ h=> by simp [yU] at h,fun _ _ _ _ _ h=> by simp [re] at h⟩
 | succ f ih=>
  intro hf g hg
  rcases Nat.lt_or_ge g (f+1) with h | h
  ·exact ih ab g ab
  obtain rfl:g=f+1:=by omega
  exact ⟨De hT f (ih ab f (Nat.le_refl _)),Bw hT f ab (ih ab)⟩
theorem vM (hT:T.length≤100000) {f i:Nat} {r:Nd×Nat} (hf:f≤2000000) (hi:i < T.length) (h:re T f 1 i=some r):r.2 < T.length∧Spec Tryz.prog 164 (aY [.ptr (0,9) 0, .v (.int .i64 1)] (ea T i N)) (PO T N r):=
 (HU hT f hf f (Nat.le_refl _)).blk 1 i r ab hi h
end

class MthV (P:Program) (t:TypeId) (name:String) (f e:outParam TypeId):Prop where
 out: ∀ (ad:Addr) (w:World),(method (P.types.size+Made.depth) t (.pointer (some ad)) name).run P w=((loadVar e ad).run P w).andThen fun v w'=> .ok (f,v) w'
theorem ua {P:Program} {t:TypeId} {ad:Addr} {nm:String} {w:World}:(Builtin.ssaWrapNilChk_ #[t] t #[.pointer (some ad),strVal "",strVal nm]).run P w= .ok (.pointer (some ad)) w:=rfl
theorem Cc {P:Program} {n:Nat} {t e f:TypeId} {name:String} {i:TypeInfo} {m:Method} {ad:Addr} {w:World} (hi:P.info? t=some i) (hfind:i.methods.find? (·.name==name)=some m) (hpath:m.path= #[]) (hfunc:m.func=some (f,false))
  (hu:P.underlying t=some (.pointer e)):(method (n+1) t (.pointer (some ad)) name).run P w=((loadVar e ad).run P w).andThen fun v w'=> .ok (f,v) w':=by
 have h1:(typeInfo t).run P w= .ok i w:=by simp [typeInfo,Sem.run,hi]
 have h2:(underlying t).run P w= .ok (.pointer e) w:=by simp [underlying,Sem.run,hu]
 simp only [method,Sem.run_bind,h1,Result.andThen_ok,hfind,hpath,hfunc,follow,Sem.run_pure,receiverAt,h2,Place.get]
 simp only [Array.isEmpty_empty,if_true,Sem.run_bind,ua,Result.andThen_ok,asAddr,Sem.run_pure]
def Gw (P:Program) (t:TypeId) (name:String):Option (TypeId×TypeId):=
 match P.info? t with
 | some i=> match i.methods.find? (·.name==name) with
  | some m=> match m.path.isEmpty,m.func,P.underlying t with
   | true,some (f,false),some (.pointer e)=> some (f,e)
   | _,_,_=> none
  | none=> none
 | none=> none
theorem MthV.of {P:Program} {t e f:TypeId} {name:String} (h:Gw P t name=some (f,e)):MthV P t name f e:=by
 refine ⟨fun ad w=> ?_⟩
 obtain ⟨n,hn⟩: ∃ n,P.types.size+Made.depth=n+1:=⟨_,rfl⟩
 rw [hn]
 unfold Gw at h
 split at h
 ·rename_i i hi
  split at h
  ·rename_i m hm
   split at h
   ·rename_i f' e' hp hf hu
    cases h
    exact Cc hi hm (by simpa using hp) hf hu
   cases h
  cases h
 cases h
section
variable {P:Program} {σ:St} {o:Oper} {t:TypeId} {name:String} {f:FuncId} {x:Operand} {xs:Array Operand} {ats:Array TypeId}
end
section
variable {P:Program} {σ:St} {dd:Option Tmp} {op:Op} {ty:TypeId} {f:FuncId} {avs:List AV}
end
theorem Le.incT {σ:St} (id:aC) (h:σ.ob id= .free):Le (σ.setInc id true) σ:=by
 intro K ι S a w R
 refine ⟨ι,S,R.keeps,R.S0,R.Slt,R.nt,R.df,R.fr,R.cl,R.clo,R.ob,R.dom,R.inj,fun i B g h1 h2=> ?_,R.pin,R.pf⟩
 obtain ⟨h3,h4,h5⟩:=R.sep i B g h1 h2
 refine ⟨h3,h4,fun h6=> h5 ?_⟩
 have h7:(bif gN i id then true else σ.inc i)=false:=h6
 cases hb:gN i id with
 | true=> rw [hb] at h7;cases h7
 | false=> rw [hb] at h7;exact h7
theorem mZ {P:Program} {σ:St} {z:List Value} {T e:TypeId} {size bytes:Nat} {dd:Option Tmp} {ty:TypeId} (id':aC) (s x:Operand) (E:Elem P T e size bytes z) {id:aC} {n:Nat} {xs:List PV} (hs:σ.eval s= .ref id 0 n) (hid:σ.ob id= .obj (.row e size xs)) (hl:n*size=xs.length) {m:Nat} {news:List PV} (hx:SrcAV σ (σ.eval x) size m news) (hb:(n+m)*bytes≤140737488355328) (hid':σ.ob id'= .free)
  {b:Bool} (hi:σ.inc id=b) (hi':σ.inc id'=b) {ys:List PV} (hy:xs++news=ys) {k:Nat} (hk:n+m=k):Stp P dd (.call { callee:= .builtin .append,args:= #[s,x],argTypes:= #[T,T] }) ty σ (((σ.setOb id .gone).setOb id' (.obj (.row e size ys))).put dd (.ref id' 0 k)):=by
 have h:=du (P:=P) (dd:=dd) (ty:=ty) id' s x E hs hid hl hx hb hid' hy hk
 rwa [hi,St.setInc_same (by exact hi')] at h

theorem mV {T:List Tk} {f:Nat} {seen:List Tx} {i:Nat} {r:List Tx×Nat} (h:gU T f seen i=some r): ∃ g,f=g+1∧eK T i=true∧(dm T i).t∉seen∧seen.length < 16∧
  ((dm T (bK T i)).t=[44]∧(∃ l j,gU T g (seen++[(dm T i).t]) (bK T (bK T i))=some (l,j)∧r=((dm T i).t::l,j))∨(dm T (bK T i)).t≠[44]∧ ∃ j,gR T [59] (bK T i)=some j∧r=([(dm T i).t],j)):=by
 cases f with
 | zero=> simp [gU] at h
 | succ g=>
  refine ⟨g,rfl,?_⟩
  unfold gU at h
  split at h
  ·cases h
  rename_i hn
  refine ⟨?_,fun hm=> hn (.inr (.inl hm)),Nat.lt_of_not_le fun hl=> hn (.inr (.inr hl)),?_⟩
  ·cases hb:eK T i with
   | true=> rfl
   | false=> exact absurd (.inl hb) hn
  split at h
  ·rename_i ht
   simp only [Option.bind_eq_bind,Option.bind_eq_some_iff,Option.pure_def] at h
   obtain ⟨⟨l,j⟩,hl,h⟩:=h
   exact .inl ⟨ht,l,j,hl,(Option.some.inj h).symm⟩
  rename_i ht
  simp only [Option.bind_eq_bind,Option.bind_eq_some_iff,Option.pure_def] at h
  obtain ⟨j,hj,h⟩:=h
  exact .inr ⟨ht,j,hj,(Option.some.inj h).symm⟩
section
variable {T:List Tk}
theorem rE (hT:T.length≤100000) (f:Nat) (N:List Tx) (i0:Nat) (hi:i0 < T.length) (r:List Tx×Nat) (h:gU T f N (bK T i0)=some r):
  r.2 < T.length∧N.length+r.1.length≤16∧Spec Tryz.prog 161 (aY [.ptr (0,9) 0] (ET T i0 N))
   (bc (.sl r.1.length (fo r.1)) [((0,9), .box 222 [.sl T.length (tF T), .v (.int .i64 (r.2:Int)), .v (.int .i64 0), .v (.int .i64 0), .ref (1,8) 0 (N++r.1).length]),((1,8), .row 9 1 (fo (N++r.1)))] [(0,9),(1,8)] [(0,9)]):=by
 have htl:=em hi
 have hend: ∀ (g:Nat) (seen:List Tx) (i:Nat) (r:List Tx×Nat),i < T.length→gU T g seen i=some r→r.2 < T.length∧seen.length+r.1.length≤16:=by
  intro g
  induction g with
  | zero=> intro seen i r _ h;simp [gU] at h
  | succ g ihg=>
   intro seen i r hi h
   obtain ⟨g',hg',_,_,hs,⟨_,l,j,hl,rfl⟩ | ⟨_,j,hj,rfl⟩⟩:=mV h
   ·obtain rfl:g=g':=by omega
    obtain ⟨h1,h2⟩:=ihg _ _ _ (em (em hi)) hl
    simp only [List.length_append,List.length_cons,List.length_nil] at h2 ⊢
    exact ⟨h1,by omega⟩
   exact ⟨jN hj (em hi),by simp;omega⟩
 obtain ⟨ha,hb⟩:=hend f N _ r htl h
 refine ⟨ha,by omega,?_⟩
 have hNl:N.length < 16:=by obtain ⟨_,_,_,_,hs,_⟩:=mV h;exact hs
 refine Spec.ofNI Tryz.func161 rfl Tryz.ntmps161 rfl ?_
 refine am (ai (bp _ fC) (aj (am (ai (so (3,0) _ 9 1 rfl rfl) ?_))))
 refine aj (am (bR rfl (ai (dY aa [] ar (kY T i0 N hi hT) ob tr ae) ?_)))
 refine aj (aU fun K4 hK4=> ?_)
 refine ay ?_
 refine bq (α:=Nat×List Tx×Nat) (fun z=> (N++z.2.1).length≤16∧z.2.1.length≤16∧z.2.2 < T.length∧ ∃ l,gU T z.1 (N++z.2.1) z.2.2=some (l,r.2)∧r.1=z.2.1++l) 76 [(0,_)] [] (fun z=> [(3, .ref (3,0) 0 z.2.1.length)]) (fun z=> [((0,9), .box 222 [.sl T.length (tF T), .v (.int .i64 (z.2.2:Int)), .v (.int .i64 0), .v (.int .i64 0), .ref (1,9) 0 (N++z.2.1).length]),((1,9), .row 9 1 (fo (N++z.2.1))),((3,0), .row 9 1 (fo z.2.1))]) [(0,9),(1,9)] [(0,9)] (fun z=> z.1) (f,[],bK T i0) ?_ (by
  refine Le.mkJ [] [] rfl ?_ ?_ trivial tr ?_
  ·exact ⟨(iP rfl),(cP rfl ag),trivial⟩
  ·exact ⟨(fu rfl rfl rfl rfl (ax (jl ag ag) (nC (nC (nC (ax (cP rfl (by (simp only [List.append_nil]))) bf)))))),(fj rfl rfl rfl (by (simp only [List.append_nil]))),(fj rfl rfl rfl ag),trivial⟩
  kernel_rfl) ?_
 ·exact ⟨by simp;omega,Nat.zero_le _,htl,r.1,by rw [List.append_nil];exact h,rfl⟩
 intro z hz
 obtain ⟨z1,z2,z3⟩:=z
 obtain ⟨hz1,hz2,hz3,l,hz4,hz5⟩:=hz
 obtain ⟨g,rfl,hn,hs,hsl,hm⟩:=mV hz4
 simp only at hz1 hz2 hz3 hz5 hn hs hsl hm ⊢
 have htz:=em hz3
 have hl1:(z2++[(dm T z3).t]).length=z2.length+1:=by simp
 have hl2:(N++(z2++[(dm T z3).t])).length=(N++z2).length+1:=by simp;omega
 have ha2:fo (N++z2)++[PV.v (bt (dm T z3).t)]=fo (N++(z2++[(dm T z3).t])):=by rw [nJ,List.append_assoc]
 refine aq (am (bR rfl (ai (aS _ rfl rfl) (bb rfl rfl rfl (cf rfl rfl rfl (kf rfl rfl rfl (aj (bM rfl rfl (aT (ay ?_))))))))))
 refine aq (am (bR rfl (ai (br aa _ _ ar (ww T z3 (N++z2) hz3) tr rfl ae (by simp)) ?_)))
 refine ai (cj (r:=false) _ rfl (by rw [hn];rfl)) ?_
 refine aj (aW rfl rfl (aq ?_))
 refine aM (σ':=aE 76 [(0,_),(3,_)] [((0,9),_),((1,9),_),((3,0),_)] [(0,9),(1,9)] [(0,9)]) kp ?_
 refine bO 7 [20,21,22,23,24,25,26] [] ae ae rfl (aL rfl) (rfl:_=[_,_,_,_,_,_,_]) (rfl:_=[]) ?_
 refine ap (_,[]) (fun τ=> aH _ bX) ?_
 refine fP rfl ?_
 refine ap (_,[]) (fun τ=> aS _ rfl rfl) ?_
 refine fQ rfl ?_
 refine ap (_,[]) (fun τ=> aA _ aa rfl rfl rfl) ?_
 refine fU rfl ?_
 refine ap (_,[]) (fun τ=> aF _ aa rfl rfl ei) ?_
 refine fY rfl ?_
 refine ap (_,[]) (fun τ=> aH _ bX) ?_
 refine gz rfl ?_
 refine ap (_,[]) (fun τ=> (br aa _ _ ar (ff T z3 (N++z2) hz3) tr rfl ae (by simp))) ?_
 refine gZ rfl ?_
 refine ap (_,[]) (fun τ=> (yI aa aw (cI (N++z2) _ rfl ab (dm T z3).t) rfl)) ?_
 refine jg rfl (bm ⟨rfl,?_⟩)
 refine aj (aW rfl (decide_eq_false hs) ?_)
 refine am (bR rfl (ai (aS _ rfl rfl) (bb rfl rfl rfl (ai (aF _ aa rfl rfl ei) (ai (cV _ aa rfl rfl) (ai (fw _ _ rfl rfl rfl) (aj (aW rfl (decide_eq_false ab) ?_))))))))
 refine aT (aq (am (bR rfl (ai (aS _ rfl rfl) (bb rfl rfl rfl (cf rfl rfl rfl (ai (bL (r:=false) _ _ rfl rfl rfl) (aj (aW rfl rfl (aT ?_))))))))))
 refine aq ?_
 refine aM (σ':=aE 76 [(0,_),(3,_)] [((0,9),_),((1,9),_),((3,0),_)] [(0,9),(1,9)] [(0,9)]) kp ?_
 refine an (gI rfl (bR rfl (ai (br aa _ _ ar (ff T z3 (N++z2) hz3) tr rfl ae (by simp)) ?_)))
 refine ai (bh _ _ aa rfl ag (by (simp <;> rfl)) ah rfl) ?_
 refine ai (du (54,0) _ _ aa rfl rfl (by simp) (.sl rfl) ab rfl (nJ _ _) hl1.symm) ?_
 refine fk rfl (aj (aq ?_))
 refine aM (σ':=aE 76 [(0,_),(3,_)] [((0,9),_),((1,9),_),((54,0),_)] [(0,9),(1,9)] [(0,9)]) kp ?_
 refine aM (Le.incT (63,0) rfl) ?_
 refine gX 9 [55,56,57,58,59,60,61,62,63] [(1,9),(63,0)] [[],[],[],[(1,9)],[(1,9)],[(1,9)],[(1,9)],[(1,9)],[]] ae ae rfl (aL rfl) (rfl:_=[_,_,_,_,_,_,_,_,_]) (rfl:_=[_,_,_]) ?_
 refine ap (_,[]) (fun τ=> aH _ bX) ?_
 refine fP rfl ?_
 refine ap (_,[]) (fun τ=> aH _ bX) ?_
 refine fQ rfl ?_
 refine ap (_,[]) (fun τ=> aS _ rfl rfl) ?_
 refine fU rfl ?_
 refine ap (_,[]) (fun τ=> aA _ aa rfl rfl rfl) ?_
 refine fY rfl ?_
 refine ap (_,[]) (fun τ=> aF _ aa rfl rfl ei) ?_
 refine gz rfl ?_
 refine ap (_,[]) (fun τ=> aH _ bX) ?_
 refine gZ rfl ?_
 refine ap (_,[]) (fun τ=> (br aa _ _ ar (ff T z3 (N++z2) hz3) tr rfl ae (by simp))) ?_
 refine jg rfl ?_
 refine ap (_,[]) (fun τ=> bh _ _ aa rfl ag (by (simp <;> rfl)) ah rfl) ?_
 refine ka rfl ?_
 refine ap (_,[((1,9), .gone),((63,0),_)]) (fun τ=> mZ (b:=true) (63,0) _ _ aa rfl (eL rfl (by exact dO) rfl) (by simp) (.sl rfl) ab rfl rfl rfl ha2 hl2.symm) ?_
 refine kG rfl (bm ⟨⟨rfl,by kernel_rfl⟩,?_⟩)
 refine ai (aS _ rfl rfl) (bb rfl rfl rfl (bG rfl rfl rfl rfl rfl rfl (aj (aU fun K15 hK15=> ?_))))
 refine aM (σ':=aE 76 [(0,_),(3,_)] [((0,9), .box _ [_,_,_,_, .ref (1,9) _ _]),((54,0),_),((1,9),_)] [(0,9),(1,9)] [(0,9)]) (by
  refine Le.mkJ [((1,9),(63,0))] [] rfl ?_ ?_ trivial tr ?_
  ·exact ⟨(IT [(0,9),(54,0)] rfl bX rfl),(IT [(0,9),(54,0)] rfl dW rfl),trivial⟩
  ·exact ⟨(fu rfl rfl rfl rfl (ax (by exact IT [(0,9),(54,0)] rfl mL rfl) (ax (by exact IT [(0,9),(54,0)] rfl lb rfl) (ax (by exact IT [(0,9),(54,0)] rfl lb rfl) (ax (by exact IT [(0,9),(54,0)] rfl lb rfl) lz))))),(fj rfl rfl rfl rfl),(fj rfl rfl rfl rfl),trivial⟩
  kernel_rfl) ?_
 refine an (bR rfl (ai (dY aa [] ar (kY T z3 (N++(z2++[(dm T z3).t])) hz3 hT) ob tr ae) ?_))
 refine aJ (hK15 _ ?_)
 clear hK15;try clear K15
 refine aU fun K16 hK16=> ?_
 refine am (bR rfl (ai (br aa _ _ ar (ff T (bK T z3) (N++(z2++[(dm T z3).t])) htz) tr rfl ae (by simp)) ?_))
 refine ai (sN _ _ Tryz.underlying9 rfl rfl rfl) (aj (aR rfl (fun hc70=> ?_) (fun hc70=> ?_)))
 ·skip
  obtain ⟨_,j,hj,hr⟩:=hm.resolve_left fun x=> hc70 x.1
  obtain ⟨rfl,rfl⟩:=Prod.mk.inj hr
  have hexp:=th T (bK T z3) r.2 (N++(z2++[(dm T z3).t])) [59] htz hT hj
  refine bB (id (hK4 _ ?_))
  clear hK4;try clear K4
  refine am (bR rfl (ai (dY aa [] ar (hexp) ob tr ae) ?_))
  exact aj (am (gI rfl (fk rfl (aj (aG (bI (.inr rfl) rfl (.tmp dW) (Le.outI [((1,8),(1,9))] [(54,0)] (by rw [hz5];exact fi rfl rfl (by simp) rfl) rfl rfl rfl tr ⟨⟨rfl,⟨_,rfl, .box rfl (ax .sl (ax .v (ax .v (ax .v (ax (cP rfl (by rw [hz5])) bf)))))⟩,rfl⟩,⟨rfl,⟨_,rfl, .rowE (by rw [hz5])⟩,rfl⟩,trivial⟩ tr rfl)))))))
 obtain ⟨_,l',j',hd',hr⟩:=hm.resolve_right fun x=> x.1 hc70
 obtain ⟨rfl,rfl⟩:=Prod.mk.inj hr
 refine bs (hK16 _ ?_)
 clear hK16;try clear K16
 refine an (bR rfl (ai (dY aa [] ar (kY T (bK T z3) (N++(z2++[(dm T z3).t])) htz hT) ob tr ae) ?_))
 refine aJ (⟨(g,z2++[(dm T z3).t],bK T (bK T z3)),?_,?_,?_⟩)
 ·exact ⟨by simp only [hl2];omega,by simp only [hl1];simp only [List.length_append] at hsl;omega,em htz,l',by rw [← List.append_assoc];exact hd',by rw [hz5];simp⟩
 ·skip
  refine Le.mkJ [((3,0),(54,0))] [] rfl ?_ ?_ trivial tr ?_
  ·exact ⟨(dJ (id:=(0,9)) rfl),(cP rfl ag),trivial⟩
  ·exact ⟨(fu rfl rfl rfl rfl lz),(fj rfl rfl rfl ag),(fj rfl rfl rfl ag),trivial⟩
  kernel_rfl
 simp only;omega
end

abbrev Hd:=Nat×Nd
def wO (h:Hd):List PV:= .v (.int .i64 (h.1:Int))::h.2.row
def mb (l:List Hd):List PV:=l.flatMap wO
theorem bw (l:List Hd):(mb l).length=l.length*5:=iW wO 5 (fun _=> rfl) l
def oO (l:List Hd) (k:Nat):Hd:=l.getD k (0,⟨0,0,[],0,[]⟩)
theorem oJ (l:List Hd) (k:Nat) (h:k < l.length):oO l k=l[k]:=by simp [oO,h]
theorem kb (l:List Hd) (k:Nat) (h:k < l.length):(mb l)[k*5]? =some (.v (.int .i64 ((oO l k).1:Int))):=by
 rw [oJ l k h];exact lx wO 5 (fun _=> rfl) l k 0 h ab
theorem zO (l:List Hd) (k:Nat) (h:k < l.length):PV.ups (((mb l).drop (k*5)).take 5)=[.v (.int .i64 ((oO l k).1:Int)), .v (.int .i64 ((oO l k).2.k:Int)), .v (.int .i64 ((oO l k).2.n:Int)), .v (bt (oO l k).2.s), .sl (oO l k).2.kn (oO l k).2.kids]:=by
 rw [oJ l k h,show ((mb l).drop (k*5)).take 5=wO l[k] from lU wO 5 (fun _=> rfl) l k h];rfl
theorem qI (l:List Hd) (h:Hd):mb l++wO h=mb (l++[h]):=jR wO l h
theorem wW (l m:List Hd):mb l++mb m=mb (l++m):=CU wO l m
theorem vO (l:List Hd) (k:Nat) (h:k < l.length):l.take k++[oO l k]=l.take (k+1):=by rw [oJ l k h,List.take_succ_eq_append_getElem h]
def KG:List Tx:=[nQ,kr,im,ku]
section
variable {T:List Tk} {N:List Tx}
theorem CR (hT:T.length≤100000) (i:Nat) (hi:i < T.length) (ht:(dm T i).t=nQ) (l:List Hd) (hl:l.length≤100000) (hno: ∀ k,k < l.length→(oO l k).1≠0):
  Spec Tryz.prog 163 (aY [.ptr (0,9) 0, .sl l.length (mb l)] (ea T i N)) (bc (.v (.int .i64 ((0:Nat):Int))) (ea T (bK T i) N) [(0,9)] [(0,9)]):=by
 have hnx:=bQ T i N hi
 rw [ht] at hnx
 refine Spec.ofNI Tryz.func163 rfl Tryz.ntmps163 rfl ?_
 refine am (be rfl (aj (am (bR rfl (ai (aS _ rfl rfl) (bb rfl rfl rfl (cf rfl rfl rfl (be rfl (aj (am ?_))))))))))
 refine bR rfl (ai (br aa _ _ ar (hnx) tr rfl ae (by simp)) ?_)
 refine oH rfl (aj (am (be rfl (aj (aq (am (ai (bh _ _ aa rfl ag (by (simp <;> rfl)) ah rfl) ?_)))))))
 refine ej rfl (ai (aI aa al (cI KG 4 rfl ab nQ) rfl rfl) ?_)
 refine ai (cj (r:=false) _ rfl rfl) (aj (aW rfl rfl (aT (am (bR rfl (ai (bU (cC T i N hi hT)) ?_))))))
 refine aj (aq (aq ?_))
 refine aM (σ':=aE 56 [(0,_),(1,_),(5,_),(6,_),(7,_)] [((0,9),_)] [(0,9)] [(0,9)]) kp ?_
 refine an (ej rfl (ai (aV (r:=false) _ _ Tryz.underlying9 rfl rfl rfl) (aj (aW rfl rfl (aT (aq (am (ej rfl (ai (aV (r:=false) _ _ Tryz.underlying9 rfl rfl rfl) (aj ?_))))))))))
 refine aW rfl rfl (aT (aq (am (ej rfl (ai (aV (r:=false) _ _ Tryz.underlying9 rfl rfl rfl) (aj (aW rfl rfl (aT (aU fun K14 hK14=> ?_)))))))))
 refine am (be rfl (aj (ay ?_)))
 refine bq (α:=Nat) (fun k=> k≤l.length) 56 [(0,_),(1,_),(5,_),(7,_)] [((0,9),_)] (fun k=> [(8, .v (.int .i64 (k:Int)))]) (fun k=> []) [(0,9)] [(0,9)] (fun k=> l.length - k) 0 ?_ (by
  refine Le.mkJ [] [] rfl ?_ ?_ trivial tr ?_
  ·exact ⟨(iP rfl),(iS rfl),(iV rfl),(iV rfl),(co ag),trivial⟩
  ·exact ⟨(bF rfl rfl rfl),trivial⟩
  kernel_rfl) ?_
 ·omega
 intro k hk
 refine aU fun K16 hK16=> ?_
 refine am (aX rfl (eY rfl (ai (bo _ aa rfl) (ai (bl _ _ rfl rfl rfl) (aj (aR rfl (fun hc42=> ?_) (fun hc42=> ?_)))))))
 ·skip
  refine bs (hK16 _ ?_)
  clear hK16;try clear K16
  refine aq (ay (am (eY rfl (aX rfl (ai (bn _ _ aa rfl rfl _ rfl ab (by (simp only [aO,bg,bj,bv,bu,bH,bw];omega)) ag) ?_)))))
  refine ai (di _ aa rfl rfl) (ai (bT _ aa rfl (by exact kb _ _ ab) rfl) ?_)
  refine aX rfl (ai (bC _ _ rfl rfl rfl) (aj (aW rfl (by have:=hno k ab;exact beq_eq_false_iff_ne.2 ab) ?_)))
  refine cp (an (aX rfl (ai (aZ _ _ rfl rfl (bD ab)) ?_)))
  refine be rfl (aJ (⟨k+1,?_,?_,?_⟩))
  ·omega
  ·skip
   refine Le.mkJ [] [] rfl ?_ ?_ trivial tr ?_
   ·exact ⟨(iP rfl),(iS rfl),(iV rfl),(iV rfl),(co ag),trivial⟩
   ·exact ⟨(bF rfl rfl rfl),trivial⟩
   kernel_rfl
  omega
 refine bB (id (hK14 _ ?_))
 clear hK14;try clear K14
 exact am (aX rfl (be rfl (aj (aG (bI (.inr rfl) rfl (.tmp eg) (Le.outI [] [] (co ag) rfl rfl rfl trivial ob tr rfl))))))
theorem vL (hT:T.length≤100000) (i:Nat) (hi:i < T.length) (ht:(dm T i).t=kr) (l:List Hd) (hl:l.length≤100000) (hno: ∀ k,k < l.length→(oO l k).1≠1):
  Spec Tryz.prog 163 (aY [.ptr (0,9) 0, .sl l.length (mb l)] (ea T i N)) (bc (.v (.int .i64 ((1:Nat):Int))) (ea T (bK T i) N) [(0,9)] [(0,9)]):=by
 have hnx:=bQ T i N hi
 rw [ht] at hnx
 refine Spec.ofNI Tryz.func163 rfl Tryz.ntmps163 rfl ?_
 refine am (be rfl (aj (am (bR rfl (ai (aS _ rfl rfl) (bb rfl rfl rfl (cf rfl rfl rfl (be rfl (aj (am ?_))))))))))
 refine bR rfl (ai (br aa _ _ ar (hnx) tr rfl ae (by simp)) ?_)
 refine oH rfl (aj (am (be rfl (aj (aq (am (ai (bh _ _ aa rfl ag (by (simp <;> rfl)) ah rfl) ?_)))))))
 refine ej rfl (ai (aI aa al (cI KG 4 rfl ab kr) rfl rfl) ?_)
 refine ai (cj (r:=false) _ rfl rfl) (aj (aW rfl rfl (aT (am (bR rfl (ai (bU (cC T i N hi hT)) ?_))))))
 refine aj (aq (aq ?_))
 refine aM (σ':=aE 56 [(0,_),(1,_),(5,_),(6,_),(7,_)] [((0,9),_)] [(0,9)] [(0,9)]) kp ?_
 refine an (ej rfl (ai (aV (r:=true) _ _ Tryz.underlying9 rfl rfl rfl) (aj (bM rfl rfl (an (be rfl (aj (aq (am (ej rfl ?_))))))))))
 refine ai (aV (r:=false) _ _ Tryz.underlying9 rfl rfl rfl) (aj (aW rfl rfl (aT (aq (am (ej rfl (ai (aV (r:=false) _ _ Tryz.underlying9 rfl rfl rfl) (aj (aW rfl rfl (aT ?_))))))))))
 refine aU fun K14 hK14=> ?_
 refine am (be rfl (aj (ay ?_)))
 refine bq (α:=Nat) (fun k=> k≤l.length) 56 [(0,_),(1,_),(5,_),(7,_)] [((0,9),_)] (fun k=> [(8, .v (.int .i64 (k:Int)))]) (fun k=> []) [(0,9)] [(0,9)] (fun k=> l.length - k) 0 ?_ (by
  refine Le.mkJ [] [] rfl ?_ ?_ trivial tr ?_
  ·exact ⟨(iP rfl),(iS rfl),(iV rfl),(iV rfl),(co ag),trivial⟩
  ·exact ⟨(bF rfl rfl rfl),trivial⟩
  kernel_rfl) ?_
 ·omega
 intro k hk
 refine aU fun K16 hK16=> ?_
 refine am (aX rfl (eY rfl (ai (bo _ aa rfl) (ai (bl _ _ rfl rfl rfl) (aj (aR rfl (fun hc42=> ?_) (fun hc42=> ?_)))))))
 ·skip
  refine bs (hK16 _ ?_)
  clear hK16;try clear K16
  refine aq (ay (am (eY rfl (aX rfl (ai (bn _ _ aa rfl rfl _ rfl ab (by (simp only [aO,bg,bj,bv,bu,bH,bw];omega)) ag) ?_)))))
  refine ai (di _ aa rfl rfl) (ai (bT _ aa rfl (by exact kb _ _ ab) rfl) ?_)
  refine aX rfl (ai (bC _ _ rfl rfl rfl) (aj (aW rfl (by have:=hno k ab;exact beq_eq_false_iff_ne.2 ab) ?_)))
  refine cp (an (aX rfl (ai (aZ _ _ rfl rfl (bD ab)) ?_)))
  refine be rfl (aJ (⟨k+1,?_,?_,?_⟩))
  ·omega
  ·skip
   refine Le.mkJ [] [] rfl ?_ ?_ trivial tr ?_
   ·exact ⟨(iP rfl),(iS rfl),(iV rfl),(iV rfl),(co ag),trivial⟩
   ·exact ⟨(bF rfl rfl rfl),trivial⟩
   kernel_rfl
  omega
 refine bB (id (hK14 _ ?_))
 clear hK14;try clear K14
 exact am (aX rfl (be rfl (aj (aG (bI (.inr rfl) rfl (.tmp eg) (Le.outI [] [] (co ag) rfl rfl rfl trivial ob tr rfl))))))
theorem Cn (hT:T.length≤100000) (i:Nat) (hi:i < T.length) (ht:(dm T i).t=im) (l:List Hd) (hl:l.length≤100000) {q j:Nat} (hq:q≤100) (h1:Spec Tryz.prog 200 (aY [.ptr (0,9) 0, .v (.int .i64 7)] (ea T (bK T i) N)) (bc (.v (.int .i64 (q:Int))) (ea T j N) [(0,9)] [(0,9)])) (hno: ∀ k,k < l.length→(oO l k).1≠(2+q)):
  Spec Tryz.prog 163 (aY [.ptr (0,9) 0, .sl l.length (mb l)] (ea T i N)) (bc (.v (.int .i64 (((2+q):Nat):Int))) (ea T j N) [(0,9)] [(0,9)]):=by
 have hnx:=bQ T i N hi
 rw [ht] at hnx
 refine Spec.ofNI Tryz.func163 rfl Tryz.ntmps163 rfl ?_
 refine am (be rfl (aj (am (bR rfl (ai (aS _ rfl rfl) (bb rfl rfl rfl (cf rfl rfl rfl (be rfl (aj (am ?_))))))))))
 refine bR rfl (ai (br aa _ _ ar (hnx) tr rfl ae (by simp)) ?_)
 refine oH rfl (aj (am (be rfl (aj (aq (am (ai (bh _ _ aa rfl ag (by (simp <;> rfl)) ah rfl) ?_)))))))
 refine ej rfl (ai (aI aa al (cI KG 4 rfl ab im) rfl rfl) ?_)
 refine ai (cj (r:=false) _ rfl rfl) (aj (aW rfl rfl (aT (am (bR rfl (ai (bU (cC T i N hi hT)) ?_))))))
 refine aj (aq (aq ?_))
 refine aM (σ':=aE 56 [(0,_),(1,_),(5,_),(6,_),(7,_)] [((0,9),_)] [(0,9)] [(0,9)]) kp ?_
 refine an (ej rfl (ai (aV (r:=false) _ _ Tryz.underlying9 rfl rfl rfl) (aj (aW rfl rfl (aT (aU fun K10 hK10=> ?_))))))
 refine am (ej rfl (ai (aV (r:=true) _ _ Tryz.underlying9 rfl rfl rfl) (aj (bM rfl rfl (an (bR rfl (ai (bU (h1)) (ai (aZ _ _ rfl rfl (bD ab)) ?_))))))))
 refine be rfl (aJ (hK10 _ ?_))
 clear hK10;try clear K10
 refine aq (am (ej rfl (ai (aV (r:=false) _ _ Tryz.underlying9 rfl rfl rfl) (aj (aW rfl rfl (aT (aU fun K14 hK14=> ?_)))))))
 refine am (be rfl (aj (ay ?_)))
 refine bq (α:=Nat) (fun k=> k≤l.length) 56 [(0,_),(1,_),(5,_),(7,_)] [((0,9),_)] (fun k=> [(8, .v (.int .i64 (k:Int)))]) (fun k=> []) [(0,9)] [(0,9)] (fun k=> l.length - k) 0 ?_ (by
  refine Le.mkJ [] [] rfl ?_ ?_ trivial tr ?_
  ·exact ⟨(iP rfl),(iS rfl),(iV rfl),(iV rfl),(co ag),trivial⟩
  ·exact ⟨(bF rfl rfl rfl),trivial⟩
  kernel_rfl) ?_
 ·omega
 intro k hk
 refine aU fun K16 hK16=> ?_
 refine am (aX rfl (eY rfl (ai (bo _ aa rfl) (ai (bl _ _ rfl rfl rfl) (aj (aR rfl (fun hc42=> ?_) (fun hc42=> ?_)))))))
 ·skip
  refine bs (hK16 _ ?_)
  clear hK16;try clear K16
  refine aq (ay (am (eY rfl (aX rfl (ai (bn _ _ aa rfl rfl _ rfl ab (by (simp only [aO,bg,bj,bv,bu,bH,bw];omega)) ag) ?_)))))
  refine ai (di _ aa rfl rfl) (ai (bT _ aa rfl (by exact kb _ _ ab) rfl) ?_)
  refine aX rfl (ai (bC _ _ rfl rfl rfl) (aj (aW rfl (by have:=hno k ab;exact beq_eq_false_iff_ne.2 ab) ?_)))
  refine cp (an (aX rfl (ai (aZ _ _ rfl rfl (bD ab)) ?_)))
  refine be rfl (aJ (⟨k+1,?_,?_,?_⟩))
  ·omega
  ·skip
   refine Le.mkJ [] [] rfl ?_ ?_ trivial tr ?_
   ·exact ⟨(iP rfl),(iS rfl),(iV rfl),(iV rfl),(co ag),trivial⟩
   ·exact ⟨(bF rfl rfl rfl),trivial⟩
   kernel_rfl
  omega
 refine bB (id (hK14 _ ?_))
 clear hK14;try clear K14
 exact am (aX rfl (be rfl (aj (aG (bI (.inr rfl) rfl (.tmp eg) (Le.outI [] [] (co ag) rfl rfl rfl trivial ob tr rfl))))))
theorem wb (hT:T.length≤100000) (i:Nat) (hi:i < T.length) (ht:(dm T i).t=ku) (l:List Hd) (hl:l.length≤100000) {q j:Nat} (hq:q≤100) (h1:Spec Tryz.prog 200 (aY [.ptr (0,9) 0, .v (.int .i64 29)] (ea T (bK T i) N)) (bc (.v (.int .i64 (q:Int))) (ea T j N) [(0,9)] [(0,9)])) (hno: ∀ k,k < l.length→(oO l k).1≠(10+q)):
  Spec Tryz.prog 163 (aY [.ptr (0,9) 0, .sl l.length (mb l)] (ea T i N)) (bc (.v (.int .i64 (((10+q):Nat):Int))) (ea T j N) [(0,9)] [(0,9)]):=by
 have hnx:=bQ T i N hi
 rw [ht] at hnx
 refine Spec.ofNI Tryz.func163 rfl Tryz.ntmps163 rfl ?_
 refine am (be rfl (aj (am (bR rfl (ai (aS _ rfl rfl) (bb rfl rfl rfl (cf rfl rfl rfl (be rfl (aj (am ?_))))))))))
 refine bR rfl (ai (br aa _ _ ar (hnx) tr rfl ae (by simp)) ?_)
 refine oH rfl (aj (am (be rfl (aj (aq (am (ai (bh _ _ aa rfl ag (by (simp <;> rfl)) ah rfl) ?_)))))))
 refine ej rfl (ai (aI aa al (cI KG 4 rfl ab ku) rfl rfl) ?_)
 refine ai (cj (r:=false) _ rfl rfl) (aj (aW rfl rfl (aT (am (bR rfl (ai (bU (cC T i N hi hT)) ?_))))))
 refine aj (aq (aq ?_))
 refine aM (σ':=aE 56 [(0,_),(1,_),(5,_),(6,_),(7,_)] [((0,9),_)] [(0,9)] [(0,9)]) kp ?_
 refine an (ej rfl (ai (aV (r:=false) _ _ Tryz.underlying9 rfl rfl rfl) (aj (aW rfl rfl (aT (aq (am (ej rfl (ai (aV (r:=false) _ _ Tryz.underlying9 rfl rfl rfl) (aj ?_))))))))))
 refine aW rfl rfl (aT (aU fun K12 hK12=> ?_))
 refine am (ej rfl (ai (aV (r:=true) _ _ Tryz.underlying9 rfl rfl rfl) (aj (bM rfl rfl (an (bR rfl (ai (bU (h1)) (ai (aZ _ _ rfl rfl (bD ab)) ?_))))))))
 refine be rfl (aJ (hK12 _ ?_))
 clear hK12;try clear K12
 refine aU fun K14 hK14=> ?_
 refine am (be rfl (aj (ay ?_)))
 refine bq (α:=Nat) (fun k=> k≤l.length) 56 [(0,_),(1,_),(5,_),(7,_)] [((0,9),_)] (fun k=> [(8, .v (.int .i64 (k:Int)))]) (fun k=> []) [(0,9)] [(0,9)] (fun k=> l.length - k) 0 ?_ (by
  refine Le.mkJ [] [] rfl ?_ ?_ trivial tr ?_
  ·exact ⟨(iP rfl),(iS rfl),(iV rfl),(iV rfl),(co ag),trivial⟩
  ·exact ⟨(bF rfl rfl rfl),trivial⟩
  kernel_rfl) ?_
 ·omega
 intro k hk
 refine aU fun K16 hK16=> ?_
 refine am (aX rfl (eY rfl (ai (bo _ aa rfl) (ai (bl _ _ rfl rfl rfl) (aj (aR rfl (fun hc42=> ?_) (fun hc42=> ?_)))))))
 ·skip
  refine bs (hK16 _ ?_)
  clear hK16;try clear K16
  refine aq (ay (am (eY rfl (aX rfl (ai (bn _ _ aa rfl rfl _ rfl ab (by (simp only [aO,bg,bj,bv,bu,bH,bw];omega)) ag) ?_)))))
  refine ai (di _ aa rfl rfl) (ai (bT _ aa rfl (by exact kb _ _ ab) rfl) ?_)
  refine aX rfl (ai (bC _ _ rfl rfl rfl) (aj (aW rfl (by have:=hno k ab;exact beq_eq_false_iff_ne.2 ab) ?_)))
  refine cp (an (aX rfl (ai (aZ _ _ rfl rfl (bD ab)) ?_)))
  refine be rfl (aJ (⟨k+1,?_,?_,?_⟩))
  ·omega
  ·skip
   refine Le.mkJ [] [] rfl ?_ ?_ trivial tr ?_
   ·exact ⟨(iP rfl),(iS rfl),(iV rfl),(iV rfl),(co ag),trivial⟩
   ·exact ⟨(bF rfl rfl rfl),trivial⟩
   kernel_rfl
  omega
 refine bB (id (hK14 _ ?_))
 clear hK14;try clear K14
 exact am (aX rfl (be rfl (aj (aG (bI (.inr rfl) rfl (.tmp eg) (Le.outI [] [] (co ag) rfl rfl rfl trivial ob tr rfl))))))
theorem Fi {l:List Hd} {n:Nat} (h:l.any (fun x=> decide (x.1=n))=false): ∀ k,k < l.length→(oO l k).1≠n:=fun k hk e=> by
 rw [List.any_eq_false] at h
 have:=h l[k] (List.getElem_mem hk)
 rw [oJ l k hk] at e
 simp [e] at this
theorem sR (hT:T.length≤100000) (i:Nat) (hi:i < T.length) (l:List Hd) (hl:l.length≤100000) (r:Nat×Nat) (h:xu T i=some r) (hno:l.any (fun x=> decide (x.1=r.1))=false):
  r.2 < T.length∧r.1 < 40∧Spec Tryz.prog 163 (aY [.ptr (0,9) 0, .sl l.length (mb l)] (ea T i N)) (bc (.v (.int .i64 (r.1:Int))) (ea T r.2 N) [(0,9)] [(0,9)]):=by
 have htl:=em hi
 have hn:=Fi hno
 have hmost: ∀ {most i:Nat} {q:Nat×Nat},py T most i=some q→q.1≤most:=fun h=> by
  unfold py at h
  split at h
  ·rename_i hx;rw [← Option.some.inj h];exact hx.2
  cases h
 unfold xu at h
 by_cases h1:(dm T i).t=nQ
 ·rw [if_pos h1] at h
  obtain rfl:=Option.some.inj h
  exact ⟨htl,by omega,CR hT i hi h1 l hl hn⟩
 rw [if_neg h1] at h
 by_cases h2:(dm T i).t=kr
 ·rw [if_pos h2] at h
  obtain rfl:=Option.some.inj h
  exact ⟨htl,by omega,vL hT i hi h2 l hl hn⟩
 rw [if_neg h2] at h
 by_cases h3:(dm T i).t=im
 ·rw [if_pos h3] at h
  simp only [Option.bind_eq_bind,Option.bind_eq_some_iff,Option.pure_def,Option.some.injEq] at h
  obtain ⟨⟨q,j⟩,hq,rfl⟩:=h
  have hm:=hmost hq
  exact ⟨show (q,j).2 < T.length from sF hq htl,by simp only at hm ⊢;omega,Cn hT i hi h3 l hl (by simp only at hm;omega) (lW T _ N 7 htl hT ab _ hq) hn⟩
 rw [if_neg h3] at h
 by_cases h4:(dm T i).t=ku
 ·rw [if_pos h4] at h
  simp only [Option.bind_eq_bind,Option.bind_eq_some_iff,Option.pure_def,Option.some.injEq] at h
  obtain ⟨⟨q,j⟩,hq,rfl⟩:=h
  have hm:=hmost hq
  exact ⟨show (q,j).2 < T.length from sF hq htl,by simp only at hm ⊢;omega,wb hT i hi h4 l hl (by simp only at hm;omega) (lW T _ N 29 htl hT ab _ hq) hn⟩
 rw [if_neg h4] at h
 cases h
end
theorem xw {p:Hd→Bool} {l:List Hd} {k:Nat} (h: ∀ x∈l.take k,p x=true) (he:l.length≤k∨p (oO l k)=false):l.takeWhile p=l.take k∧l.dropWhile p=l.drop k:=by
 induction l generalizing k with
 | nil=> simp
 | cons a l ih=>
  cases k with
  | zero=>
   have:p a=false:=by
    rcases he with he | he
    ·simp at he
    simpa [oO] using he
   simp [this]
  | succ k=>
   have ha:p a=true:=h a (by simp)
   have:=ih (k:=k) (fun x hx=> h x (by simp [hx])) (by
    rcases he with he | he
    ·left;simpa using he
    right;simpa [oO] using he)
   simp [ha,this]
theorem AS (l:List Hd) (hl:l.length≤100000) (h:Hd):
  Spec Tryz.prog 165 (ba [.sl l.length (mb l), .agg [.v (.int .i64 (h.1:Int)), .v (.int .i64 (h.2.k:Int)), .v (.int .i64 (h.2.n:Int)), .v (bt h.2.s), .sl h.2.kn h.2.kids]] []) (aP (.sl (pQ l h).length (mb (pQ l h))) []):=by
 refine Spec.ofN Tryz.func165 rfl Tryz.ntmps165 rfl ?_
 refine am (ai (aQ (3,0) _ rfl rfl) (ai (bp _ fC) (aj (am (ai (so (5,0) _ 73 5 rfl rfl) ?_)))))
 refine aj (am (be rfl (aj (aU fun K4 hK4=> ?_))))
 refine ay ?_
 refine bq (α:=Nat) (fun k=> k≤l.length∧ ∀ x∈l.take k,decide (x.1 < h.1)=true) 39 [(0,_),(3,_)] [((3,0),_)] (fun k=> [(6, .v (.int .i64 (k:Int))),(5, .ref (5,0) 0 (l.take k).length)]) (fun k=> [((5,0), .row 73 5 (mb (l.take k)))]) [] [] (fun k=> l.length - k) 0 ?_ (by
  refine Le.mkJ [] [] rfl ?_ ?_ trivial trivial ?_
  ·exact ⟨(iS rfl),(iP rfl),(co ag),(cP rfl ag),trivial⟩
  ·exact ⟨(bF rfl rfl rfl),(fj rfl rfl rfl ag),trivial⟩
  kernel_rfl) ?_
 ·exact ⟨Nat.zero_le _,by simp⟩
 intro k hk
 obtain ⟨hk,hall⟩:=hk
 have hlk:(l.take k).length=k:=by rw [List.length_take];omega
 refine aU fun K5 hK5=> ?_
 refine aU fun K6 hK6=> ?_
 refine bO 14 [7,8,9,10,11,12,13,14,15,16,17,18,19,20] [] ae ae rfl (aL rfl) (rfl:_=[_,_,_,_,_,_,_,_,_,_,_,_,_,_]) (rfl:_=[]) ?_
 refine ap (_,[]) (fun τ=> aH _ eg) ?_
 refine fP rfl ?_
 refine ap (_,[]) (fun τ=> aH _ mL) ?_
 refine fQ rfl ?_
 refine ap (_,[]) (fun τ=> bo _ aa rfl) ?_
 refine fU rfl ?_
 refine ap (_,[]) (fun τ=> bl _ _ rfl rfl rfl) ?_
 refine fY rfl ?_
 refine ap (_,[]) (fun τ=> aH _ bJ) ?_
 refine oI (fun hg11=> ?_) (fun hg11=> ?_)
 ·skip
  refine gz rfl ?_
  refine bN (_,[]) rfl (fun τ=> rfl) (fun τ=> aH _ mL) ?_
  refine gZ rfl ?_
  refine bN (_,[]) rfl (fun τ=> rfl) (fun τ=> aH _ eg) ?_
  refine jg rfl ?_
  refine bN (_,[]) rfl (fun τ=> rfl) (fun τ=> bn _ _ aa rfl rfl _ rfl ab (by (simp only [aO,bg,bj,bv,bu,bH,bw];omega)) ag) ?_
  refine ka rfl ?_
  refine bN (_,[]) rfl (fun τ=> rfl) (fun τ=> di _ aa rfl rfl) ?_
  refine kG rfl ?_
  refine bN (_,[]) rfl (fun τ=> rfl) (fun τ=> bT _ aa rfl (by exact kb _ _ ab) rfl) ?_
  refine fW rfl ?_
  refine bN (_,[]) rfl (fun τ=> rfl) (fun τ=> aA _ aa rfl rfl rfl) ?_
  refine gL rfl ?_
  refine bN (_,[]) rfl (fun τ=> rfl) (fun τ=> aF _ aa rfl rfl ee) ?_
  refine kP rfl ?_
  refine bN (_,[]) rfl (fun τ=> rfl) (fun τ=> bl _ _ rfl rfl rfl) ?_
  refine mt rfl ?_
  refine ap (_,[]) (fun τ=> aB _ _ _ rfl bJ) ?_
  refine pw rfl (bm ⟨rfl,?_⟩)
  refine aJ (hK6 _ ?_)
  clear hK6;try clear K6
  refine aR rfl (fun hc20=> ?_) (fun hc20=> ?_)
  ·skip
   have hs:=vO l k ab
   have hlk1:(l.take (k+1)).length=(l.take k).length+1:=by rw [← hs];simp
   have hall1: ∀ x∈l.take (k+1),decide (x.1 < h.1)=true:=by
    rw [← hs]
    intro x hx
    rcases List.mem_append.1 hx with hx | hx
    ·exact hall x hx
    rw [List.mem_singleton.1 hx];exact decide_eq_true ab
   refine bs (hK5 _ ?_)
   clear hK5;try clear K5
   refine ay (am (gI rfl (eY rfl (aX rfl (ai (bn _ _ aa rfl rfl _ rfl ab (by (simp only [aO,bg,bj,bv,bu,bH,bw];omega)) ag) ?_)))))
   refine ai (cg _ aa rfl (by exact zO _ _ ab) rfl) ?_
   refine ai (bh _ _ aa rfl ag (by (simp <;> rfl)) ah rfl) ?_
   refine ai (du (27,0) _ _ aa rfl rfl (bw _).symm (.sl rfl) ab rfl ((qI _ (oO l k)).trans (by rw [hs])) hlk1.symm) ?_
   refine fk rfl (aj ?_)
   refine aM (σ':=aE 39 [(0,_),(3,_),(5,_),(6,_)] [((3,0),_),((27,0),_)] [] []) kp ?_
   refine an (aX rfl (ai (aZ _ _ rfl rfl (bD ab)) ?_))
   refine be rfl (aJ (⟨k+1,?_,?_,?_⟩))
   ·exact ⟨by omega,hall1⟩
   ·skip
    refine Le.mkJ [((5,0),(27,0))] [] rfl ?_ ?_ trivial trivial ?_
    ·exact ⟨(by repeat' (exact Lv.sl)),(dJ (id:=(3,0)) rfl),(co ag),(cP rfl ag),trivial⟩
    ·exact ⟨(fu rfl rfl rfl rfl (by repeat' (first | exact Lv.v | exact Lv.sl | exact bf | refine ax ?_ ?_))),(fj rfl rfl rfl ag),trivial⟩
    kernel_rfl
   omega
  have hf:=xw (p:=fun x=> decide (x.1 < h.1)) hall (.inr (decide_eq_false ab))
  refine bB (id (hK4 _ ?_))
  clear hK4;try clear K4
  refine am (gI rfl (ai (az _ aa rfl rfl rfl rfl) (ai (bh _ _ aa rfl ag (by (simp <;> rfl)) ah rfl) ?_)))
  refine ai (du (33,0) _ _ aa rfl rfl (bw _).symm (.sl rfl) ab rfl (qI _ h) (show (l.take k).length+1=(l.take k++[h]).length by simp)) ?_
  refine fk rfl (aj (aq ?_))
  refine aM (σ':=aE 39 [(0,_),(5,_),(6,_)] [((33,0),_)] [] []) kp ?_
  refine an (gI rfl (eY rfl (aX rfl (ai (lc _ _ _ aa rfl k l.length (.lit rfl rfl) .dflt hk (Nat.le_refl _) (show _=mb (l.drop k) by rw [show (mb l).drop (k*5)=mb (l.drop k) from pJ wO 5 (fun _=> rfl) l k];exact List.take_of_length_le (by rw [bw,List.length_drop];exact Nat.le_refl _)) rfl) ?_))))
  refine ai (du (38,0) _ _ aa rfl rfl (bw _).symm (.sl (by rw [bw,List.length_drop])) (by simp;omega) rfl (wW _ _) (show (l.take k++[h]).length+(l.length - k)=(l.take k++[h]++l.drop k).length by simp;omega)) ?_
  refine fk rfl (aj (aG ?_))
  have hfin:l.take k++[h]++l.drop k=pQ l h:=by unfold pQ;rw [hf.1,hf.2];simp
  exact bI (.inr rfl) rfl (.tmp dW) (Le.out [] [(38,0)] (by rw [← hfin];exact fi rfl rfl (bw _).symm rfl) rfl rfl rfl tr trivial)
 have hf:=xw (p:=fun x=> decide (x.1 < h.1)) hall (.inl ab)
 refine gz rfl ?_
 refine cY rfl (fun τ=> rfl) ah ?_
 refine gZ rfl ?_
 refine cY rfl (fun τ=> rfl) ah ?_
 refine jg rfl ?_
 refine cY rfl (fun τ=> rfl) ah ?_
 refine ka rfl ?_
 refine cY rfl (fun τ=> rfl) ah ?_
 refine kG rfl ?_
 refine cY rfl (fun τ=> rfl) ah ?_
 refine fW rfl ?_
 refine cY rfl (fun τ=> rfl) ah ?_
 refine gL rfl ?_
 refine cY rfl (fun τ=> rfl) ah ?_
 refine kP rfl ?_
 refine cY rfl (fun τ=> rfl) ah ?_
 refine mt rfl ?_
 refine ap (_,[]) (fun τ=> aB _ _ _ rfl bJ) ?_
 refine pw rfl (bm ⟨rfl,?_⟩)
 refine aJ (hK6 _ ?_)
 clear hK6;try clear K6
 refine aW rfl rfl (bB (id (hK4 _ ?_)))
 clear hK4;try clear K4
 refine am (gI rfl (ai (az _ aa rfl rfl rfl rfl) (ai (bh _ _ aa rfl ag (by (simp <;> rfl)) ah rfl) ?_)))
 refine ai (du (33,0) _ _ aa rfl rfl (bw _).symm (.sl rfl) ab rfl (qI _ h) (show (l.take k).length+1=(l.take k++[h]).length by simp)) ?_
 refine fk rfl (aj (aq ?_))
 refine aM (σ':=aE 39 [(0,_),(5,_),(6,_)] [((33,0),_)] [] []) kp ?_
 refine an (gI rfl (eY rfl (aX rfl (ai (lc _ _ _ aa rfl k l.length (.lit rfl rfl) .dflt hk (Nat.le_refl _) (show _=mb (l.drop k) by rw [show (mb l).drop (k*5)=mb (l.drop k) from pJ wO 5 (fun _=> rfl) l k];exact List.take_of_length_le (by rw [bw,List.length_drop];exact Nat.le_refl _)) rfl) ?_))))
 refine ai (du (38,0) _ _ aa rfl rfl (bw _).symm (.sl (by rw [bw,List.length_drop])) (by simp;omega) rfl (wW _ _) (show (l.take k++[h]).length+(l.length - k)=(l.take k++[h]++l.drop k).length by simp;omega)) ?_
 refine fk rfl (aj (aG ?_))
 have hfin:l.take k++[h]++l.drop k=pQ l h:=by unfold pQ;rw [hf.1,hf.2];simp
 exact bI (.inr rfl) rfl (.tmp dW) (Le.out [] [(38,0)] (by rw [← hfin];exact fi rfl rfl (bw _).symm rfl) rfl rfl rfl tr trivial)

theorem rX {s:Tx}: ∀ {f a:Nat} {l:List Tk},a≤s.length→nV f s a=some l→0 < l.length∧l.length+a≤s.length+1
  | 0,_,_,_,h=> by simp [nV] at h
  | f+1,a,l,ha,h=> by
    rcases mT h with ⟨_,rfl⟩ | ⟨hl,t,m,ht,hm,rfl⟩
    · exact ⟨by simp,by simp;omega⟩
    obtain ⟨h1,h2⟩:=um hl ht
    have h3:=wI (s:=s) (a:=a+t.t.length) h2 false
    obtain ⟨_,h4⟩:=rX h3.2 hm
    exact ⟨by simp,by rw [List.length_cons];omega⟩
theorem AF {s:Tx} {l:List Tk} (h:EN s=some l):0 < l.length∧l.length≤s.length+1:=by
  have:=rX (a:=tP s false) (oR s false) h
  omega
theorem mU {T:List Tk}: ∀ (f:Nat) {N M:List Tx} (i:Nat),N.Perm M→gU T f N i=gU T f M i
  | 0,_,_,_,_=> rfl
  | f+1,N,M,i,h=> by
    unfold gU
    simp only [h.mem_iff,h.length_eq,mU f _ (h.append_right [(dm T i).t])]
theorem uS {T:List Tk} {f:Nat} {d v:List Tx} {i:Nat} {r:List Tx×List Tx×Nat} (h:jq T f d v i=some r): ∃ g,f=g+1∧
    (((dm T i).t=mf∧ ∃ l j,gU T g (d++v) (bK T i)=some (l,j)∧jq T g (d++l) v j=some r)∨
     ((dm T i).t≠mf∧(dm T i).t=mI∧ ∃ l j,gU T g (d++v) (bK T i)=some (l,j)∧jq T g d (v++l) j=some r)∨
     ((dm T i).t≠mf∧(dm T i).t≠mI∧r=(d,v,i))):=by
  cases f with
  | zero=> simp [jq] at h
  | succ g=>
    refine ⟨g,rfl,?_⟩
    unfold jq at h
    split at h
    · rename_i ht
      simp only [Option.bind_eq_bind,Option.bind_eq_some_iff] at h
      obtain ⟨⟨l,j⟩,hl,h⟩:=h
      exact .inl ⟨ht,l,j,hl,h⟩
    rename_i ht
    split at h
    · rename_i ht2
      simp only [Option.bind_eq_bind,Option.bind_eq_some_iff] at h
      obtain ⟨⟨l,j⟩,hl,h⟩:=h
      exact .inr (.inl ⟨ht,ht2,l,j,hl,h⟩)
    rename_i ht2
    exact .inr (.inr ⟨ht,ht2,(Option.some.inj h).symm⟩)
theorem zM {T:List Tk} {f:Nat} {l:List Hd} {i:Nat} {r:List Hd} (h:Iq T f l i=some r): ∃ g,f=g+1∧
    (((dm T i).k=0∧r=l)∨((dm T i).k≠0∧ ∃ j n j2 d j3,gR T GY i=some j∧xu T j=some (n,j2)∧l.any (fun x=> decide (x.1=n))=false∧re T g 1 j2=some (d,j3)∧Iq T g (pQ l (n,d)) j3=some r)):=by
  cases f with
  | zero=> simp [Iq] at h
  | succ g=>
    refine ⟨g,rfl,?_⟩
    unfold Iq at h
    split at h
    · rename_i hk;exact .inl ⟨hk,(Option.some.inj h).symm⟩
    rename_i hk
    simp only [Option.bind_eq_bind,Option.bind_eq_some_iff] at h
    obtain ⟨j,hj,⟨n,j2⟩,hn,h⟩:=h
    simp only at h
    split at h
    · cases h
    rename_i hno
    simp only [Option.bind_eq_some_iff] at h
    obtain ⟨⟨d,j3⟩,hd,h⟩:=h
    exact .inr ⟨hk,j,n,j2,d,j3,hj,hn,Bool.eq_false_iff.2 hno,hd,h⟩
theorem BS (l:List Hd) (h:Hd):(pQ l h).length=l.length+1:=by
  have e:=congrArg List.length (List.takeWhile_append_dropWhile (p:=fun x:Nat×Nd=> decide (x.1 < h.1)) (l:=l))
  unfold pQ
  rw [List.length_append] at e ⊢
  rw [List.length_cons]
  omega
abbrev JJ (d v:List Tx) (l:List Hd):AV:= .agg [.sl d.length (fo d), .sl v.length (fo v), .sl l.length (mb l)]
theorem qm (s:Tx) (hs:s.length≤3000) (D V:List Tx) (L:List Hd) (h:gx s=some (D,V,L)):
    Spec Tryz.prog 96 (ba [.v (bt s)] []) (aP (.tup [JJ D V L, .v (.int .i64 0), .v (.int .i64 0)]) []):=by
  unfold gx at h
  simp only [Option.bind_eq_bind,Option.bind_eq_some_iff,Option.pure_def,Option.some.injEq,Prod.mk.injEq] at h
  obtain ⟨T,hT,⟨D',V',i⟩,hd,L',hL,rfl,rfl,rfl⟩:=h
  obtain ⟨hT0,hT1⟩:=AF hT
  have hTl:T.length≤100000:=by omega
  simp only at hL ⊢
  refine Spec.ofN Tryz.func96 rfl Tryz.ntmps96 rfl ?_
  refine am (ai (aD (2,0) aa rfl rfl) (be rfl (be rfl (aj (aq (am (ej rfl (ai (ii _ Tryz.underlying9 rfl) (ai (fM _ _ rfl rfl rfl) (aj ?_))))))))))
  refine aW rfl (decide_eq_false ab) ?_
  refine aT (am (ej rfl (ai (aI aa al (ve s ab T hT) rfl rfl) ?_)))
  refine ai (aH _ tQ) (ai (cq _ rfl eG) (ai (cq _ rfl ee) (ai (cq _ rfl ee) (kH rfl (be rfl (be rfl (aj (aq (aq ?_)))))))))
  refine aM (σ':=aE 114 [(2,_),(5,_),(6,_),(7,_)] [((2,0),_)] [] []) (by
    refine Le.mkJ [] [] rfl ?_ ?_ trivial trivial ?_
    · exact ⟨(iP rfl),(iS rfl),(iV rfl),(iV rfl),trivial⟩
    · exact ⟨(bF rfl rfl rfl),trivial⟩
    kernel_rfl) ?_
  refine an (aX rfl (ai (bL (r:=false) _ _ rfl rfl rfl) (aj (aW rfl rfl (aT (am (eY rfl (ai (aN _ aa rfl (by exact sU)) ?_))))))))
  refine ai (aQ (29,0) _ rfl rfl) (wG rfl (aj (am (ai (aD (9,0) aa rfl rfl) (aj (aU fun K9 hK9=> ?_))))))
  refine ay ?_
  refine aM (Le.nilB (29,0) 4 (60,0) 9 1 rfl rfl rfl) ?_
  refine aM (Le.nilB (9,0) 0 (61,0) 9 1 rfl rfl rfl) ?_
  refine aM (Le.nilB (9,0) 1 (62,0) 9 1 rfl rfl rfl) ?_
  refine aM (Le.nil0 (9,0) 2 rfl rfl) ?_
  refine bq (α:=Nat×List Tx×List Tx×List Tx×Nat) (fun z=> z.2.2.2.1.Perm (z.2.1++z.2.2.1)∧z.2.2.2.2 < T.length∧z.2.2.2.1.length≤16∧jq T z.1 z.2.1 z.2.2.1 z.2.2.2.2=some (D',V',i)) 114 [(2,_),(8,_),(9,_)] [((2,0),_)] (fun z=> []) (fun z=> [((29,0), .box 222 [.sl T.length (tF T), .v (.int .i64 (z.2.2.2.2:Int)), .v (.int .i64 0), .v (.int .i64 0), .ref (60,0) 0 z.2.2.2.1.length]),((60,0), .row 9 1 (fo z.2.2.2.1)),((9,0), .box 64 [.ref (61,0) 0 z.2.1.length, .ref (62,0) 0 z.2.2.1.length, .sl 0 []]),((61,0), .row 9 1 (fo z.2.1)),((62,0), .row 9 1 (fo z.2.2.1))]) [] [] (fun z=> z.1) (3*T.length+10,[],[],[],0) ?_ (by
    refine Le.mkJ [] [] rfl ?_ ?_ trivial trivial ?_
    · exact ⟨(iP rfl),(iP rfl),(iP rfl),trivial⟩
    · exact ⟨(bF rfl rfl rfl),(fu rfl rfl rfl rfl lz),(fj rfl rfl rfl ag),(fu rfl rfl rfl rfl lz),(fj rfl rfl rfl ag),(fj rfl rfl rfl ag),trivial⟩
    kernel_rfl) ?_
  · exact ⟨.refl _,hT0,Nat.zero_le _,hd⟩
  intro z hz
  obtain ⟨z1,d,v,N,j⟩:=z
  obtain ⟨hp,hj,hNl,hz⟩:=hz
  obtain ⟨g,rfl,hm⟩:=uS hz
  simp only at hp hj hNl hm ⊢
  have hpl:=hp.length_eq
  rw [List.length_append] at hpl
  have htl:=em hj
  refine aU fun K10 hK10=> ?_
  refine aU fun K11 hK11=> ?_
  refine an (bR rfl (ai (aS _ rfl rfl) (bb rfl rfl rfl (cf rfl rfl rfl (kf rfl rfl rfl (cE rfl (au rfl rfl (aH _ bX) (au rfl rfl (dY aa [((0,9),(29,0)),((1,9),(60,0))] ?_ (ff T j N hj) ob tr ae) ?_))))))))
  · repeat' (first | exact dI | refine dg ?_ ?_ | exact dJ rfl)
  refine au rfl rfl (aV _ _ Tryz.underlying9 rfl rfl rfl) (au rfl rfl (aH _ bJ) (dw (fun hg39=> ?_) (fun hg39=> ?_)))
  · skip
    obtain ⟨l,j',hdp,hdz⟩: ∃ l j',gU T g N (bK T j)=some (l,j')∧jq T g (d++l) v j'=some (D',V',i):=by
      rcases hm with ⟨_,l,j',h1,h2⟩ | ⟨h,_⟩ | ⟨h,_⟩
      · exact ⟨l,j',(mU g _ hp).trans h1,h2⟩
      · exact absurd hg39 h
      exact absurd hg39 h
    obtain ⟨hda,hdb,hdc⟩:=rE hTl g N j hj (l,j') hdp
    simp only at hda hdb hdc
    have hdl:(d++l).length=d.length+l.length:=by simp
    refine aK rfl rfl ah ?_
    refine aK rfl rfl ah ?_
    refine aK rfl rfl ah ?_
    refine au rfl rfl (aB _ _ _ rfl bJ) (ai (aB _ _ _ rfl bJ) (aJ (hK11 _ ?_)))
    clear hK11;try clear K11
    refine bM rfl rfl (bs (hK10 _ ?_))
    clear hK10;try clear K10
    refine ay (aq ?_)
    refine aM (σ':=aE 114 [(2,_),(8,_),(9,_)] [((2,0),_),((29,0),_),((60,0),_),((9,0),_),((61,0),_),((62,0),_)] [] []) (by
      refine Le.mkJ [] [] rfl ?_ ?_ trivial trivial ?_
      · exact ⟨(iP rfl),(iP rfl),(iP rfl),trivial⟩
      · exact ⟨(bF rfl rfl rfl),(bF rfl rfl rfl),(bF rfl rfl rfl),(bF rfl rfl rfl),(bF rfl rfl rfl),(bF rfl rfl rfl),trivial⟩
      kernel_rfl) ?_
    refine an (bR rfl (ai (dY aa [((0,9),(29,0)),((1,9),(60,0))] ?_ (ff T j N hj) ob tr ae) ?_))
    · repeat' (first | exact dI | refine dg ?_ ?_ | exact dJ rfl)
    refine ai (aV _ _ Tryz.underlying9 rfl rfl rfl) (aj (bM rfl (beq_iff_eq.2 hg39) ?_))
    refine aM (σ':=aE 114 [(2,_),(8,_),(9,_)] [((2,0),_),((29,0), .box 222 [.sl T.length (tF T), .v (.int .i64 (j:Int)), .v (.int .i64 0), .v (.int .i64 0), .ref (60,0) 0 N.length]),((60,0), .row 9 1 (fo N)),((9,0),_),((61,0),_),((62,0),_)] [] []) (by
      refine Le.mkJ [] [] rfl ?_ ?_ trivial trivial ?_
      · exact ⟨(iP rfl),(iP rfl),(iP rfl),trivial⟩
      · exact ⟨(bF rfl rfl rfl),(bF rfl rfl rfl),(bF rfl rfl rfl),(bF rfl rfl rfl),(bF rfl rfl rfl),(bF rfl rfl rfl),trivial⟩
      kernel_rfl) ?_
    refine bO 4 [48,49,50,51] [(29,0),(70,0),(60,0)] ae ae rfl (aL rfl) (rfl:_=[_,_,_,_]) (rfl:_=[_,_,_]) ?_
    refine ap (_,[]) (fun τ=> aA _ aa rfl rfl rfl) ?_
    refine fP rfl ?_
    refine ap (_,[]) (fun τ=> aF _ aa rfl rfl ei) ?_
    refine fQ rfl ?_
    refine ap (_,[]) (fun τ=> aH _ bX) ?_
    refine fU rfl ?_
    refine ap (_,[((29,0),_),((70,0),_),((60,0), .gone)]) (fun τ=> (bW aa [((0,9),(29,0)),((1,9),(60,0)),((1,8),(70,0))] ?_ (hdc) ob tr tr rfl rfl ae ae)) ?_
    · repeat' (first | exact dI | refine dg ?_ ?_ | exact dJ rfl)
    refine fY rfl (bm ⟨rfl,?_⟩)
    refine ai (du (52,0) _ _ aa rfl rfl (by simp) (.sl (by simp)) ab rfl (pT _ _) hdl.symm) ?_
    refine bb rfl rfl rfl (bG rfl rfl rfl rfl rfl rfl (aJ (⟨(g,d++l,v,N++l,j'),?_,?_,?_⟩)))
    · exact ⟨(hp.append_right l).trans (by rw [List.append_assoc,List.append_assoc];exact List.perm_append_comm.append_left d),hda,by simp only [List.length_append];omega,hdz⟩
    · skip
      refine Le.mkJ [((60,0),(70,0)),((61,0),(52,0))] [] rfl ?_ ?_ trivial trivial ?_
      · exact ⟨(dJ (id:=(2,0)) rfl),(dJ (id:=(29,0)) rfl),(dJ (id:=(9,0)) rfl),trivial⟩
      · exact ⟨(fu rfl rfl rfl rfl (by repeat' (first | exact Lv.v | exact bf | refine ax ?_ ?_))),(fu rfl rfl rfl rfl lz),(fj rfl rfl rfl ag),(fu rfl rfl rfl rfl lz),(fj rfl rfl rfl ag),(fj rfl rfl rfl ag),trivial⟩
      kernel_rfl
    simp only;omega
  refine au rfl rfl (aH _ bX) (au rfl rfl (dY aa [((0,9),(29,0)),((1,9),(60,0))] ?_ (ff T j N hj) ob tr ae) ?_)
  · repeat' (first | exact dI | refine dg ?_ ?_ | exact dJ rfl)
  refine au rfl rfl (aV _ _ Tryz.underlying9 rfl rfl rfl) (au rfl rfl (aB _ _ _ rfl bJ) (ai (aB _ _ _ rfl bJ) (aJ (hK11 _ ?_))))
  clear hK11;try clear K11
  refine aR rfl (fun hc44=> ?_) (fun hc44=> ?_)
  · skip
    obtain ⟨l,j',hdp,hdz⟩: ∃ l j',gU T g N (bK T j)=some (l,j')∧jq T g d (v++l) j'=some (D',V',i):=by
      rcases hm with ⟨h,_⟩ | ⟨_,_,l,j',h1,h2⟩ | ⟨_,h,_⟩
      · exact absurd h hg39
      · exact ⟨l,j',(mU g _ hp).trans h1,h2⟩
      exact absurd hc44 h
    obtain ⟨hda,hdb,hdc⟩:=rE hTl g N j hj (l,j') hdp
    simp only at hda hdb hdc
    have hvl:(v++l).length=v.length+l.length:=by simp
    refine bs (hK10 _ ?_)
    clear hK10;try clear K10
    refine ay (aq ?_)
    refine aM (σ':=aE 114 [(2,_),(8,_),(9,_)] [((2,0),_),((29,0),_),((60,0),_),((9,0),_),((61,0),_),((62,0),_)] [] []) (by
      refine Le.mkJ [] [] rfl ?_ ?_ trivial trivial ?_
      · exact ⟨(iP rfl),(iP rfl),(iP rfl),trivial⟩
      · exact ⟨(bF rfl rfl rfl),(bF rfl rfl rfl),(bF rfl rfl rfl),(bF rfl rfl rfl),(bF rfl rfl rfl),(bF rfl rfl rfl),trivial⟩
      kernel_rfl) ?_
    refine an (bR rfl (ai (dY aa [((0,9),(29,0)),((1,9),(60,0))] ?_ (ff T j N hj) ob tr ae) ?_))
    · repeat' (first | exact dI | refine dg ?_ ?_ | exact dJ rfl)
    refine ai (aV _ _ Tryz.underlying9 rfl rfl rfl) (aj (aW rfl (beq_eq_false_iff_ne.2 hg39) ?_))
    refine aM (σ':=aE 114 [(2,_),(8,_),(9,_)] [((2,0),_),((29,0), .box 222 [.sl T.length (tF T), .v (.int .i64 (j:Int)), .v (.int .i64 0), .v (.int .i64 0), .ref (60,0) 0 N.length]),((60,0), .row 9 1 (fo N)),((9,0),_),((61,0),_),((62,0),_)] [] []) (by
      refine Le.mkJ [] [] rfl ?_ ?_ trivial trivial ?_
      · exact ⟨(iP rfl),(iP rfl),(iP rfl),trivial⟩
      · exact ⟨(bF rfl rfl rfl),(bF rfl rfl rfl),(bF rfl rfl rfl),(bF rfl rfl rfl),(bF rfl rfl rfl),(bF rfl rfl rfl),trivial⟩
      kernel_rfl) ?_
    refine bO 4 [54,55,56,57] [(29,0),(71,0),(60,0)] ae ae rfl (aL rfl) (rfl:_=[_,_,_,_]) (rfl:_=[_,_,_]) ?_
    refine ap (_,[]) (fun τ=> aA _ aa rfl rfl rfl) ?_
    refine fP rfl ?_
    refine ap (_,[]) (fun τ=> aF _ aa rfl rfl ei) ?_
    refine fQ rfl ?_
    refine ap (_,[]) (fun τ=> aH _ bX) ?_
    refine fU rfl ?_
    refine ap (_,[((29,0),_),((71,0),_),((60,0), .gone)]) (fun τ=> (bW aa [((0,9),(29,0)),((1,9),(60,0)),((1,8),(71,0))] ?_ (hdc) ob tr tr rfl rfl ae ae)) ?_
    · repeat' (first | exact dI | refine dg ?_ ?_ | exact dJ rfl)
    refine fY rfl (bm ⟨rfl,?_⟩)
    refine ai (du (58,0) _ _ aa rfl rfl (by simp) (.sl (by simp)) ab rfl (pT _ _) hvl.symm) ?_
    refine bb rfl rfl rfl (bG rfl rfl rfl rfl rfl rfl (aJ (⟨(g,d,v++l,N++l,j'),?_,?_,?_⟩)))
    · exact ⟨(hp.append_right l).trans (by rw [List.append_assoc]),hda,by simp only [List.length_append];omega,hdz⟩
    · skip
      refine Le.mkJ [((60,0),(71,0)),((62,0),(58,0))] [] rfl ?_ ?_ trivial trivial ?_
      · exact ⟨(dJ (id:=(2,0)) rfl),(dJ (id:=(29,0)) rfl),(dJ (id:=(9,0)) rfl),trivial⟩
      · exact ⟨(fu rfl rfl rfl rfl (by repeat' (first | exact Lv.v | exact bf | refine ax ?_ ?_))),(fu rfl rfl rfl rfl lz),(fj rfl rfl rfl ag),(fu rfl rfl rfl rfl lz),(fj rfl rfl rfl ag),(fj rfl rfl rfl ag),trivial⟩
      kernel_rfl
    simp only;omega
  have hrd:(D',V',i)=(d,v,j):=by
    rcases hm with ⟨h,_⟩ | ⟨_,h,_⟩ | ⟨_,_,h⟩
    · exact absurd h hg39
    · exact absurd h hc44
    exact h
  obtain ⟨e1,e2,e3⟩:D'=d∧V'=v∧i=j:=⟨congrArg (·.1) hrd,congrArg (·.2.1) hrd,congrArg (·.2.2) hrd⟩
  clear hrd hm hz
  subst e1;subst e2;subst e3
  refine bB (id (hK9 _ ?_))
  clear hK9;try clear K9
  refine aU fun K14 hK14=> ?_
  refine ay ?_
  refine aM (Le.frzB (29,0) 4 rfl rfl rfl rfl (ys:=fo N) (by simp [List.take_of_length_le]) (by simp)) ?_
  refine bq (α:=Nat×List Hd×Nat) (fun y=> y.2.1.length+y.1≤10*T.length+10∧y.2.2 < T.length∧Iq T y.1 y.2.1 y.2.2=some L') 114 [(2,_),(8,_),(9,_)] [((2,0),_),((61,0),_),((62,0),_)] (fun y=> []) (fun y=> [((29,0), .box 222 [.sl T.length (tF T), .v (.int .i64 (y.2.2:Int)), .v (.int .i64 0), .v (.int .i64 0), .sl N.length (fo N)]),((9,0), .box 64 [.ref (61,0) 0 D'.length, .ref (62,0) 0 V'.length, .sl y.2.1.length (mb y.2.1)])]) [] [] (fun y=> y.1) (10*T.length+10,[],i) ?_ (by
    refine Le.mkJ [] [] rfl ?_ ?_ trivial trivial ?_
    · exact ⟨(iP rfl),(iP rfl),(iP rfl),trivial⟩
    · exact ⟨(bF rfl rfl rfl),(bF rfl rfl rfl),(bF rfl rfl rfl),(fu rfl rfl rfl rfl lz),(fu rfl rfl rfl rfl lz),trivial⟩
    kernel_rfl) ?_
  · exact ⟨by simp,hj,hL⟩
  intro y hy
  obtain ⟨y1,l,k⟩:=y
  obtain ⟨hyl,hk,hy⟩:=hy
  obtain ⟨g2,rfl,hm2⟩:=zM hy
  simp only at hyl hk hm2 ⊢
  refine aU fun K15 hK15=> ?_
  refine aq (bO 19 [60,61,62,63,64,65,66,67,68,69,70,71,72,73,74,75,76,77,78] [] ae ae rfl (aL rfl) (rfl:_=[_,_,_,_,_,_,_,_,_,_,_,_,_,_,_,_,_,_,_]) (rfl:_=[]) ?_)
  refine ap (_,[]) (fun τ=> aH _ bX) ?_
  refine fP rfl ?_
  refine ap (_,[]) (fun τ=> aS _ rfl rfl) ?_
  refine fQ rfl ?_
  refine ap (_,[]) (fun τ=> aA _ aa rfl rfl rfl) ?_
  refine fU rfl ?_
  refine ap (_,[]) (fun τ=> aF _ aa rfl rfl ee) ?_
  refine fY rfl ?_
  refine ap (_,[]) (fun τ=> bC (r:=true) _ _ rfl rfl rfl) ?_
  refine gz rfl ?_
  refine ap (_,[]) (fun τ=> aH _ bJ) ?_
  refine gZ rfl ?_
  refine bN (_,[]) rfl (fun τ=> rfl) (fun τ=> aH _ bX) ?_
  refine jg rfl ?_
  refine bN (_,[]) rfl (fun τ=> rfl) (fun τ=> aS _ rfl rfl) ?_
  refine ka rfl ?_
  refine bN (_,[]) rfl (fun τ=> rfl) (fun τ=> aA _ aa rfl rfl rfl) ?_
  refine kG rfl ?_
  refine bN (_,[]) rfl (fun τ=> rfl) (fun τ=> aF _ aa rfl rfl eG) ?_
  refine fW rfl ?_
  refine bN (_,[]) rfl (fun τ=> rfl) (fun τ=> aH _ bX) ?_
  refine gL rfl ?_
  refine bN (_,[]) rfl (fun τ=> rfl) (fun τ=> aS _ rfl rfl) ?_
  refine kP rfl ?_
  refine bN (_,[]) rfl (fun τ=> rfl) (fun τ=> aA _ aa rfl rfl rfl) ?_
  refine mt rfl ?_
  refine bN (_,[]) rfl (fun τ=> rfl) (fun τ=> aF _ aa rfl rfl ee) ?_
  refine pw rfl ?_
  refine bN (_,[]) rfl (fun τ=> rfl) (fun τ=> bn _ _ aa rfl rfl _ rfl ab (by (simp only [aO,bg,bj,bv,bu,bH,bw];omega)) ag) ?_
  refine vZ rfl ?_
  refine bN (_,[]) rfl (fun τ=> rfl) (fun τ=> di _ aa rfl rfl) ?_
  refine wJ rfl ?_
  refine bN (_,[]) rfl (fun τ=> rfl) (fun τ=> bT _ aa rfl (by exact pW _ _ ab) rfl) ?_
  refine yf rfl ?_
  refine bN (_,[]) rfl (fun τ=> rfl) (fun τ=> bL _ _ rfl rfl rfl) ?_
  refine zT rfl ?_
  refine ap (_,[]) (fun τ=> aB _ _ _ rfl bJ) ?_
  refine CN rfl (bm ⟨rfl,?_⟩)
  refine aj (aR rfl (fun hc78=> ?_) (fun hc78=> ?_))
  · skip
    obtain ⟨_,j1,hn,j2,dd,j3,h1,h2,h3,h4,h5⟩:=hm2.resolve_left fun x=> by omega
    have hx1:=fS T k j1 N GY hk hTl h1
    obtain ⟨ha2,_,hx2⟩:=sR (N:=N) hTl j1 (jN h1 hk) l ab _ h2 h3
    obtain ⟨ha3,hx3⟩:=vM (N:=N) hTl ab ha2 h4
    have hx4:=AS l ab (hn,dd)
    have hpl2:=BS l (hn,dd)
    simp only at ha2 ha3 hx2 hx3 hx4
    refine bs (hK15 _ ?_)
    clear hK15;try clear K15
    refine ay (aq ?_)
    refine aM (σ':=aE 114 [(2,_),(8,_),(9,_)] [((2,0),_),((61,0),_),((62,0),_),((29,0),_),((9,0),_)] [] []) (by
      refine Le.mkJ [] [] rfl ?_ ?_ trivial trivial ?_
      · exact ⟨(iP rfl),(iP rfl),(iP rfl),trivial⟩
      · exact ⟨(bF rfl rfl rfl),(bF rfl rfl rfl),(bF rfl rfl rfl),(bF rfl rfl rfl),(bF rfl rfl rfl),trivial⟩
      kernel_rfl) ?_
    refine an (bR rfl (ai (dY aa [((0,9),(29,0))] ?_ (hx1) ob tr ae) ?_))
    · repeat' (first | exact dI | refine dg ?_ ?_ | exact Lv.v | exact dJ rfl)
    refine aj (aq (am (bR rfl (ai (aS _ rfl rfl) (bb rfl rfl rfl (cf rfl rfl rfl (ai (bL (r:=false) _ _ rfl rfl rfl) (aj (aW rfl rfl (aT ?_))))))))))
    refine aU fun K20 hK20=> ?_
    refine an (bR rfl (bb rfl rfl rfl (eZ rfl rfl rfl (ai (dY aa [((0,9),(29,0))] ?_ (hx2) ob tr ae) ?_))))
    · repeat' (first | exact dI | refine dg ?_ ?_ | exact Lv.sl | exact dJ rfl)
    refine be rfl (aJ (hK20 _ ?_))
    clear hK20;try clear K20
    refine aU fun K21 hK21=> ?_
    refine an (bR rfl (ai (dY aa [((0,9),(29,0))] ?_ (hx3) ob tr ae) ?_))
    · repeat' (first | exact dI | refine dg ?_ ?_ | exact Lv.v | exact dJ rfl)
    refine ai (aD (11,0) aa rfl rfl) (bG rfl rfl rfl rfl rfl rfl (aJ (hK21 _ ?_)))
    clear hK21;try clear K21
    refine aM (σ':=aE 114 [(2,_),(8,_),(9,_),(10,_),(11,_)] [((2,0),_),((61,0),_),((62,0),_),((29,0),_),((9,0),_),((11,0),_)] [] []) (by
      refine Le.mkJ [] [] rfl ?_ ?_ trivial trivial ?_
      · exact ⟨(iP rfl),(iP rfl),(iP rfl),(iV rfl),(iP rfl),trivial⟩
      · exact ⟨(bF rfl rfl rfl),(bF rfl rfl rfl),(bF rfl rfl rfl),(bF rfl rfl rfl),(bF rfl rfl rfl),(bF rfl rfl rfl),trivial⟩
      kernel_rfl) ?_
    refine an (bb rfl rfl rfl (eZ rfl rfl rfl (aX rfl (ai (az _ aa rfl rfl rfl rfl) (ai (aN _ aa rfl (by exact sU)) ?_)))))
    refine ai (aI aa al (hx4) rfl rfl) ?_
    refine bb rfl rfl rfl (bG rfl rfl rfl rfl rfl rfl (aJ (⟨(g2,pQ l (hn,dd),j3),?_,?_,?_⟩)))
    · exact ⟨by simp only [hpl2];omega,ha3,h5⟩
    · skip
      refine Le.mkJ [] [] rfl ?_ ?_ trivial trivial ?_
      · exact ⟨(iP rfl),(iP rfl),(iP rfl),trivial⟩
      · exact ⟨(bF rfl rfl rfl),(bF rfl rfl rfl),(bF rfl rfl rfl),(fu rfl rfl rfl rfl lz),(fu rfl rfl rfl rfl lz),trivial⟩
      kernel_rfl
    simp only;omega
  have hrl:=(hm2.resolve_right fun x=> x.1 ab).2
  subst hrl
  refine bB (id (hK14 _ ?_))
  clear hK14;try clear K14
  refine aq (aq ?_)
  refine aM (σ':=aE 114 [(2,_),(8,_),(9,_)] [((2,0),_),((61,0),_),((62,0),_),((29,0),_),((9,0),_)] [] []) (by
    refine Le.mkJ [] [] rfl ?_ ?_ trivial trivial ?_
    · exact ⟨(iP rfl),(iP rfl),(iP rfl),trivial⟩
    · exact ⟨(bF rfl rfl rfl),(bF rfl rfl rfl),(bF rfl rfl rfl),(bF rfl rfl rfl),(bF rfl rfl rfl),trivial⟩
    kernel_rfl) ?_
  refine an (bR rfl (ai (aS _ rfl rfl) (bb rfl rfl rfl (cf rfl rfl rfl (ai (bL (r:=false) _ _ rfl rfl rfl) (aj (aW rfl rfl (aT (am (ai (az _ aa rfl rfl rfl rfl) ?_))))))))))
  exact bG rfl rfl rfl rfl rfl rfl (be rfl (be rfl (aj (aG (vE (.inr rfl) rfl (.cellA aa rfl rfl rfl) (.tmp lb) (.tmp lb) (Le.out [] [(61,0),(62,0)] (.tup rfl (ax (.agg rfl (ax (fi rfl rfl (by simp) rfl) (ax (fi rfl rfl (by simp) rfl) lz))) lz)) rfl rfl rfl tr trivial))))))
end Go.Proofs.YtmjnackchaahbaaGreat
