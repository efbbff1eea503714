/- Part 10 of the texts that the walk leans on: the machine, the walks, the plain laws. -/
import Derived.Test.YtmjnackchaahbaaGreatNyZ9
set_option linter.unusedSimpArgs false
set_option linter.unusedVariables false
namespace Go.Proofs.YtmjnackchaahbaaGreat
open Go.RowKit

def mN (l:List Nd):List PV:=l.flatMap Nd.row
theorem bH (l:List Nd):(mN l).length=l.length*4:=iG Nd.row 4 (fun _=> rfl) l
theorem zC (l:List Nd) (d:Nd):mN l++d.row=mN (l++[d]):=jT Nd.row l d
theorem qe {T:List Tk} {g lv i:Nat} {r:List Nd×Nat} (h:nA T g lv i=some r): ∃ f,g=f+1∧((di T i).t=[125]∧r=([],i)∨(di T i).t≠[125]∧ ∃ d j l k,xR T f lv i=some (d,j)∧nA T f lv j=some (l,k)∧r=(d::l,k)):=by
 cases g with
 | zero=> simp [nA] at h
 | succ f=>
  refine ⟨f,rfl,?_⟩
  unfold nA at h
  split at h
  ·rename_i ht;exact .inl ⟨ht,(Option.some.inj h).symm⟩
  rename_i ht
  simp only [Option.bind_eq_bind,Option.bind_eq_some_iff,Option.pure_def] at h
  obtain ⟨⟨d,j⟩,hd,⟨l,k⟩,hl,h⟩:=h
  exact .inr ⟨ht,d,j,l,k,hd,hl,(Option.some.inj h).symm⟩
section
variable {T:List Tk} {N:List Tx}
theorem zM (hT:T.length≤100000) (f:Nat) (hf:f≤2000000) (ih: ∀ g,g≤f→PS T N g) (lv i:Nat) (r:Nd×Nat) (hl:lv≤21) (hi:i < T.length) (h:rk T (f+1) lv i=some r):
  r.2 < T.length∧Spec Tryz.prog 164 (aY [.ptr (0,9) 0, .v (.int .i64 (lv:Int))] (ea T i N)) (PO T N r):=by
 unfold rk at h
 simp only [Option.bind_eq_bind,Option.bind_eq_some_iff,Option.pure_def,Option.some.injEq] at h
 obtain ⟨j,hj,⟨L,j2⟩,hL,j3,hj3,rfl⟩:=h
 have ho:=kV hj
 have hjl:=jO ho.2 hi
 have hl':=ho.1
 have hopen:=oM T i j N [123] lv hi hT hj
 simp only at hj3 ⊢
 have hend: ∀ (g i:Nat) (r:List Nd×Nat),g≤f→i < T.length→nA T g lv i=some r→r.2 < T.length:=by
  intro g
  induction g with
  | zero=> intro i r _ _ h;simp [nA] at h
  | succ g ihg=>
   intro i r hg hi h
   obtain ⟨g',hg',h | ⟨_,d,j,l,k,hd,hm,h⟩⟩:=qe h
   ·rw [h.2];exact hi
   obtain rfl:g=g':=by omega
   rw [h]
   exact ihg j (l,k) ab ((ih g ab).stm _ _ _ hl' hi hd).1 hm
 have hj2:=hend f j _ (Nat.le_refl _) hjl hL
 refine ⟨jO hj3 hj2,?_⟩
 refine Spec.ofNI Tryz.func164 rfl Tryz.ntmps164 rfl ?_
 refine am (ai (aC (4,0) aa rfl rfl) (aj (am (ai (aL _ aa rfl (by exact kQ)) ?_))))
 refine ai (aC (5,0) aa rfl rfl) (bG rfl rfl rfl rfl rfl rfl (aj (aq ?_)))
 refine aM (Le.nilB (5,0) 3 (60,0) 71 4 rfl rfl rfl) ?_
 refine an (bQ rfl (aX rfl (ai (bU (hopen)) (aj (aU fun K4 hK4=> ?_)))))
 refine ax ?_
 refine bq (α:=Nat×List Nd×Nat) (fun z=> z.1≤f∧z.2.1.length+z.1=f∧z.2.2 < T.length∧ ∃ l,nA T z.1 lv z.2.2=some (l,j2)∧L=z.2.1++l) 31 [(0,_),(1,_),(4,_),(5,_)] [((4,0),_)] (fun z=> []) (fun z=> [((0,9), .box 222 [.sl T.length (sY T), .v (.int .i64 (z.2.2:Int)), .v (.int .i64 0), .v (.int .i64 0), .sl N.length (fl N)]),((5,0), .box 71 [.v (.int .i64 11), .v (.int .i64 0), .v (bt []), .ref (60,0) 0 z.2.1.length]),((60,0), .row 71 4 (mN z.2.1))]) [(0,9)] [(0,9)] (fun z=> z.1) (f,[],j) ?_ (by
  refine Le.mkJ [] [] rfl ?_ ?_ trivial tr ?_
  ·exact ⟨(iP rfl),(iV rfl),(iP rfl),(iP rfl),trivial⟩
  ·exact ⟨(ca rfl rfl rfl),(fm rfl rfl rfl rfl lz),(fm rfl rfl rfl rfl (nQ (nQ (au (by repeat' (exact Lv.v)) lz)))),(fg rfl rfl rfl ag),trivial⟩
  kernel_rfl) ?_
 ·exact ⟨Nat.le_refl _,Nat.zero_add _,hjl,L,hL,rfl⟩
 intro z hz
 obtain ⟨z1,z2,z3⟩:=z
 obtain ⟨hz1,hz2,hz3,l,hz4,hz5⟩:=hz
 obtain ⟨g,rfl,hm⟩:=qe hz4
 simp only at hz1 hz2 hz3 hz5 hm ⊢
 refine aU fun K5 hK5=> ?_
 refine am (bQ rfl (ai (aT _ rfl rfl) (bb rfl rfl rfl (cf rfl rfl rfl (jY rfl rfl rfl (cL rfl (ay rfl rfl (aI _ bW) (ay rfl rfl (br aa _ _ ar (bN T z3 N hz3) tr rfl ae (by simp)) ?_))))))))
 refine ay rfl rfl (tI _ _ Tryz.underlying9 rfl rfl rfl) (ai (aE _ _ _ rfl bR) (aj (aP rfl (fun hc19=> ?_) (fun hc19=> ?_))))
 ·skip
  obtain ⟨_,d,jd,l',k',hd,hm',hr⟩:=hm.resolve_left fun x=> hc19 x.1
  obtain ⟨rfl,rfl⟩:=Prod.mk.inj hr
  obtain ⟨hda,hdb⟩:=(ih g ab).stm _ _ _ hl' hz3 hd
  have hlen:(z2++[d]).length=z2.length+1:=by simp
  refine bs (hK5 _ ?_)
  clear hK5;try clear K5
  refine ax ?_
  refine aM (σ':=aD 31 [(0,_),(1,_),(4,_),(5,_)] [((4,0),_),((0,9),_),((5,0),_),((60,0),_)] [(0,9)] [(0,9)]) kp ?_
  refine bK 6 [20,21,22,23,24,25] [(0,9)] ae ae rfl (aK rfl) (rfl:_=[_,_,_,_,_,_]) (rfl:_=[_,_,_]) ?_
  refine ap (_,[]) (fun τ=> aA _ aa rfl rfl rfl) ?_
  refine fF rfl ?_
  refine ap (_,[]) (fun τ=> aF _ aa rfl rfl eN) ?_
  refine fL rfl ?_
  refine ap (_,[]) (fun τ=> aI _ bW) ?_
  refine fA rfl ?_
  refine ap (_,[]) (fun τ=> aI _ eu) ?_
  refine fT rfl ?_
  refine ap (_,[((0,9),_)]) (fun τ=> (ke aa ar (hdb) ob rfl rfl ae)) ?_
  refine gj rfl ?_
  refine ap (_,[]) (fun τ=> bh _ _ aa rfl ag (by (simp <;> rfl)) ah rfl) ?_
  refine gU rfl (bl ⟨rfl,?_⟩)
  refine ai (dt (26,0) _ _ aa rfl rfl (bH _).symm (.sl rfl) ab rfl (zC _ d) hlen.symm) ?_
  refine bb rfl rfl rfl (bG rfl rfl rfl rfl rfl rfl (aJ (⟨(g,z2++[d],jd),?_,?_,?_⟩)))
  ·exact ⟨by simp only;omega,by simp only;omega,hda,l',hm',by rw [hz5];simp⟩
  ·skip
   refine Le.mkJ [((60,0),(26,0))] [] rfl ?_ ?_ trivial tr ?_
   ·exact ⟨(dI (id:=(0,9)) rfl),(by repeat' (exact Lv.v)),(dI (id:=(4,0)) rfl),(dI (id:=(5,0)) rfl),trivial⟩
   ·exact ⟨(fm rfl rfl rfl rfl (by repeat' (first | exact Lv.v | exact bf | refine au ?_ ?_))),(fm rfl rfl rfl rfl lz),(fm rfl rfl rfl rfl (nQ (nQ (au (by repeat' (exact Lv.v)) lz)))),(fg rfl rfl rfl ag),trivial⟩
   kernel_rfl
  simp only;omega
 obtain ⟨_,hr⟩:=hm.resolve_right fun x=> x.1 hc19
 obtain ⟨rfl,rfl⟩:=Prod.mk.inj hr
 rw [List.append_nil] at hz5
 subst hz5
 have hexp:=fP T j2 j3 N [125] hj2 hT hj3
 refine bD (id (hK4 _ ?_))
 clear hK4;try clear K4
 exact am (bQ rfl (ai (bU (hexp)) (aj (am (ai (az _ aa rfl rfl rfl rfl) (bG rfl rfl rfl rfl rfl rfl (aj (aG (bI (.inr rfl) rfl (.cellA aa rfl rfl rfl) (Le.outI [] [(60,0)] (.agg rfl (au .v (au .v (au .v (au (ff rfl rfl (bH _).symm rfl) bf))))) rfl rfl rfl tr ob tr rfl))))))))))
theorem sA {T:List Tk} {most i:Nat} {r:Nat×Nat} (h:pz T most i=some r) (hi:i < T.length):r.2 < T.length:=by
 unfold pz at h
 split at h
 ·rw [← Option.some.inj h];exact ej hi
 cases h
theorem Ca (hT:T.length≤100000) (f:Nat) (ih:PS T N f) (lv i:Nat) (r:Nd×Nat) (hl:lv≤20) (hi:i < T.length) (h:xR T (f+1) lv i=some r):
  r.2 < T.length∧Spec Tryz.prog 202 (aY [.ptr (0,9) 0, .v (.int .i64 (lv:Int))] (ea T i N)) (PO T N r):=by
 have htl:=ej hi
 have hx:=fun {i:Nat} {r:Nd×Nat} (hi:i < T.length) (h:gR T f lv 1 i=some r)=> yL (N:=N) hT hl hi h
 have hb:=fun {i:Nat} {r:Nd×Nat} (hi:i < T.length) (h:rk T f (lv+1) i=some r)=> ih.blk (lv+1) i r ab hi h
 have he:=fun {i j:Nat} {s:Tx} (hi:i < T.length) (h:gQ T s i=some j)=> And.intro (jO h hi) (fP T i j N s hi hT h)
 have hn:=fun {i most:Nat} {r:Nat×Nat} (hm:most≤1000) (hi:i < T.length) (h:pz T most i=some r)=> And.intro (sA h hi) (lw T i N most hi hT hm r h)
 unfold xR at h
 simp only at h
 by_cases h0:eG T i=true
 ·rw [if_pos h0] at h
  simp only [Option.bind_eq_bind,Option.bind_eq_some_iff,Option.pure_def,Option.some.injEq] at h
  obtain ⟨j1,e1,⟨d,j2⟩,e2,j3,e3,rfl⟩:=h
  obtain ⟨a1,b1⟩:=he htl e1
  obtain ⟨a2,b2⟩:=hx a1 e2
  obtain ⟨a3,b3⟩:=he a2 e3
  exact ⟨a3,yR hT lv i hl hi h0 b1 b2 b3⟩
 rw [if_neg h0] at h
 by_cases h1:(di T i).t=vH∨(di T i).t=kN
 ·rw [if_pos h1] at h
  simp only [Option.bind_eq_bind,Option.bind_eq_some_iff,Option.pure_def] at h
  obtain ⟨⟨c,j1⟩,e1,⟨x,j2⟩,e2,h⟩:=h
  obtain ⟨a1,b1⟩:=hx htl e1
  obtain ⟨a2,b2⟩:=hb a1 e2
  simp only at h
  by_cases hw:(di T i).t=kN
  ·rw [if_pos hw] at h
   obtain rfl:=Option.some.inj h
   exact ⟨a2,zJ hT lv i hl hi hw b1 b2⟩
  rw [if_neg hw] at h
  have hf:=h1.resolve_right hw
  by_cases hel:(di T j2).t=sO
  ·rw [if_pos hel] at h
   simp only [Option.bind_eq_some_iff,Option.some.injEq] at h
   obtain ⟨⟨y,j3⟩,e3,rfl⟩:=h
   obtain ⟨a3,b3⟩:=hb (ej a2) e3
   exact ⟨a3,yl hT lv i hl hi hf b1 b2 a2 hel b3⟩
  rw [if_neg hel] at h
  obtain rfl:=Option.some.inj h
  exact ⟨a2,Jg hT lv i hl hi hf b1 b2 a2 hel⟩
 rw [if_neg h1] at h
 by_cases h2:(di T i).t=qw
 ·rw [if_pos h2] at h
  simp only [Option.bind_eq_bind,Option.bind_eq_some_iff,Option.pure_def,Option.some.injEq] at h
  obtain ⟨⟨x,j1⟩,e1,j2,e2,⟨k,j3⟩,e3,j4,e4,⟨y,j5⟩,e5,j6,e6,⟨z,j7⟩,e7,j8,e8,rfl⟩:=h
  obtain ⟨a1,b1⟩:=hx htl e1
  obtain ⟨a2,b2⟩:=he a1 e2
  obtain ⟨a3,b3⟩:=hn ab a2 e3
  obtain ⟨a4,b4⟩:=he a3 e4
  obtain ⟨a5,b5⟩:=hx a4 e5
  obtain ⟨a6,b6⟩:=he a5 e6
  obtain ⟨a7,b7⟩:=hx a6 e7
  obtain ⟨a8,b8⟩:=he a7 e8
  exact ⟨a8,FX hT lv i hl hi h2 b1 b2 b3 b4 b5 b6 b7 b8⟩
 rw [if_neg h2] at h
 by_cases h3:(di T i).t=ij
 ·rw [if_pos h3] at h
  simp only [Option.bind_eq_bind,Option.bind_eq_some_iff,Option.pure_def,Option.some.injEq] at h
  obtain ⟨⟨k,j1⟩,e1,j2,e2,rfl⟩:=h
  obtain ⟨a1,b1⟩:=hn ab htl e1
  obtain ⟨a2,b2⟩:=he a1 e2
  exact ⟨a2,AN hT lv i hl hi h3 b1 b2⟩
 rw [if_neg h3] at h
 by_cases h4:(di T i).t=ll
 ·rw [if_pos h4] at h
  simp only [Option.bind_eq_bind,Option.bind_eq_some_iff,Option.pure_def,Option.some.injEq] at h
  obtain ⟨⟨k,j1⟩,e1,j2,e2,rfl⟩:=h
  obtain ⟨a1,b1⟩:=hn ab htl e1
  obtain ⟨a2,b2⟩:=he a1 e2
  exact ⟨a2,yG hT lv i hl hi h4 b1 b2⟩
 rw [if_neg h4] at h
 by_cases h5:(di T i).t=nP
 ·rw [if_pos h5] at h
  simp only [Option.bind_eq_bind,Option.bind_eq_some_iff,Option.pure_def,Option.some.injEq] at h
  obtain ⟨⟨x,j1⟩,e1,j2,e2,⟨y,j3⟩,e3,j4,e4,rfl⟩:=h
  obtain ⟨a1,b1⟩:=hx htl e1
  obtain ⟨a2,b2⟩:=he a1 e2
  obtain ⟨a3,b3⟩:=hx a2 e3
  obtain ⟨a4,b4⟩:=he a3 e4
  exact ⟨a4,CI hT lv i hl hi h5 b1 b2 b3 b4⟩
 rw [if_neg h5] at h
 by_cases h6:(di T i).t=qL
 ·rw [if_pos h6] at h
  simp only [Option.bind_eq_bind,Option.bind_eq_some_iff,Option.pure_def,Option.some.injEq] at h
  obtain ⟨⟨x,j1⟩,e1,j2,e2,rfl⟩:=h
  obtain ⟨a1,b1⟩:=hx htl e1
  obtain ⟨a2,b2⟩:=he a1 e2
  exact ⟨a2,Gi hT lv i hl hi h6 b1 b2⟩
 rw [if_neg h6] at h
 by_cases h7:(di T i).t=pX
 ·rw [if_pos h7] at h
  simp only [Option.bind_eq_bind,Option.bind_eq_some_iff,Option.pure_def,Option.some.injEq] at h
  obtain ⟨j1,e1,rfl⟩:=h
  obtain ⟨a1,b1⟩:=he htl e1
  exact ⟨a1,Ev hT lv i hl hi h7 b1⟩
 rw [if_neg h7] at h
 by_cases h8:(di T i).t=qN
 ·rw [if_pos h8] at h
  simp only [Option.bind_eq_bind,Option.bind_eq_some_iff,Option.pure_def,Option.some.injEq] at h
  obtain ⟨j1,e1,rfl⟩:=h
  obtain ⟨a1,b1⟩:=he htl e1
  exact ⟨a1,Fc hT lv i hl hi h8 b1⟩
 rw [if_neg h8] at h
 cases h
theorem In (hT:T.length≤100000): ∀ f,f≤2000000→ ∀ g,g≤f→PS T N g:=by
 intro f
 induction f with
 | zero=>
  intro _ g hg
  obtain rfl:g=0:=by omega
  exact ⟨fun _ _ _ _ _ h=> by simp [xR] at h,fun _ _ _ _ _ h=> by simp [rk] at h⟩
 | succ f ih=>
  intro hf g hg
  rcases Nat.lt_or_ge g (f+1) with h | h
  ·exact ih ab g ab
  obtain rfl:g=f+1:=by omega
  exact ⟨Ca hT f (ih ab f (Nat.le_refl _)),zM hT f ab (ih ab)⟩
theorem vD (hT:T.length≤100000) {f i:Nat} {r:Nd×Nat} (hf:f≤2000000) (hi:i < T.length) (h:rk T f 1 i=some r):r.2 < T.length∧Spec Tryz.prog 164 (aY [.ptr (0,9) 0, .v (.int .i64 1)] (ea T i N)) (PO T N r):=
 (In hT f hf f (Nat.le_refl _)).blk 1 i r ab hi h
end

class MthV (P:Program) (t:TypeId) (name:String) (f e:outParam TypeId):Prop where
 out: ∀ (ad:Addr) (w:World),(method (P.types.size+Made.depth) t (.pointer (some ad)) name).run P w=((loadVar e ad).run P w).andThen fun v w'=> .ok (f,v) w'
theorem uQ {P:Program} {t:TypeId} {ad:Addr} {nm:String} {w:World}:(Builtin.ssaWrapNilChk_ #[t] t #[.pointer (some ad),strVal "",strVal nm]).run P w= .ok (.pointer (some ad)) w:=rfl
theorem CJ {P:Program} {n:Nat} {t e f:TypeId} {name:String} {i:TypeInfo} {m:Method} {ad:Addr} {w:World} (hi:P.info? t=some i) (hfind:i.methods.find? (·.name==name)=some m) (hpath:m.path= #[]) (hfunc:m.func=some (f,false))
  (hu:P.underlying t=some (.pointer e)):(method (n+1) t (.pointer (some ad)) name).run P w=((loadVar e ad).run P w).andThen fun v w'=> .ok (f,v) w':=by
 have h1:(typeInfo t).run P w= .ok i w:=by simp [typeInfo,Sem.run,hi]
 have h2:(underlying t).run P w= .ok (.pointer e) w:=by simp [underlying,Sem.run,hu]
 simp only [method,Sem.run_bind,h1,Result.andThen_ok,hfind,hpath,hfunc,follow,Sem.run_pure,receiverAt,h2,Place.get]
 simp only [Array.isEmpty_empty,if_true,Sem.run_bind,uQ,Result.andThen_ok,asAddr,Sem.run_pure]
def GG (P:Program) (t:TypeId) (name:String):Option (TypeId×TypeId):=
 match P.info? t with
 | some i=> match i.methods.find? (·.name==name) with
  | some m=> match m.path.isEmpty,m.func,P.underlying t with
   | true,some (f,false),some (.pointer e)=> some (f,e)
   | _,_,_=> none
  | none=> none
 | none=> none
theorem MthV.of {P:Program} {t e f:TypeId} {name:String} (h:GG P t name=some (f,e)):MthV P t name f e:=by
 refine ⟨fun ad w=> ?_⟩
 obtain ⟨n,hn⟩: ∃ n,P.types.size+Made.depth=n+1:=⟨_,rfl⟩
 rw [hn]
 unfold GG at h
 split at h
 ·rename_i i hi
  split at h
  ·rename_i m hm
   split at h
   ·rename_i f' e' hp hf hu
    cases h
    exact CJ hi hm (by simpa using hp) hf hu
   cases h
  cases h
 cases h
section
variable {P:Program} {σ:St} {o:Oper} {t:TypeId} {name:String} {f:FuncId} {x:Operand} {xs:Array Operand} {ats:Array TypeId}
end
section
variable {P:Program} {σ:St} {dd:Option Tmp} {op:Op} {ty:TypeId} {f:FuncId} {avs:List AV}
end
theorem Le.incT {σ:St} (id:aB) (h:σ.ob id= .free):Le (σ.setInc id true) σ:=by
 intro K ι S a w R
 refine ⟨ι,S,R.keeps,R.S0,R.Slt,R.nt,R.df,R.fr,R.cl,R.clo,R.ob,R.dom,R.inj,fun i B g h1 h2=> ?_,R.pin,R.pf⟩
 obtain ⟨h3,h4,h5⟩:=R.sep i B g h1 h2
 refine ⟨h3,h4,fun h6=> h5 ?_⟩
 have h7:(bif gJ i id then true else σ.inc i)=false:=h6
 cases hb:gJ i id with
 | true=> rw [hb] at h7;cases h7
 | false=> rw [hb] at h7;exact h7
theorem mT {P:Program} {σ:St} {z:List Value} {T e:TypeId} {size bytes:Nat} {dd:Option Tmp} {ty:TypeId} (id':aB) (s x:Operand) (E:Elem P T e size bytes z) {id:aB} {n:Nat} {xs:List PV} (hs:σ.eval s= .ref id 0 n) (hid:σ.ob id= .obj (.row e size xs)) (hl:n*size=xs.length) {m:Nat} {news:List PV} (hx:SrcAV σ (σ.eval x) size m news) (hb:(n+m)*bytes≤140737488355328) (hid':σ.ob id'= .free)
  {b:Bool} (hi:σ.inc id=b) (hi':σ.inc id'=b) {ys:List PV} (hy:xs++news=ys) {k:Nat} (hk:n+m=k):Stp P dd (.call { callee:= .builtin .append,args:= #[s,x],argTypes:= #[T,T] }) ty σ (((σ.setOb id .gone).setOb id' (.obj (.row e size ys))).put dd (.ref id' 0 k)):=by
 have h:=dt (P:=P) (dd:=dd) (ty:=ty) id' s x E hs hid hl hx hb hid' hy hk
 rwa [hi,St.setInc_same (by exact hi')] at h

theorem mQ {T:List Tk} {f:Nat} {seen:List Tx} {i:Nat} {r:List Tx×Nat} (h:gX T f seen i=some r): ∃ g,f=g+1∧eG T i=true∧(di T i).t∉seen∧seen.length < 16∧
  ((di T (bJ T i)).t=[44]∧(∃ l j,gX T g (seen++[(di T i).t]) (bJ T (bJ T i))=some (l,j)∧r=((di T i).t::l,j))∨(di T (bJ T i)).t≠[44]∧ ∃ j,gQ T [59] (bJ T i)=some j∧r=([(di T i).t],j)):=by
 cases f with
 | zero=> simp [gX] at h
 | succ g=>
  refine ⟨g,rfl,?_⟩
  unfold gX at h
  split at h
  ·cases h
  rename_i hn
  refine ⟨?_,fun hm=> hn (.inr (.inl hm)),Nat.lt_of_not_le fun hl=> hn (.inr (.inr hl)),?_⟩
  ·cases hb:eG T i with
   | true=> rfl
   | false=> exact absurd (.inl hb) hn
  split at h
  ·rename_i ht
   simp only [Option.bind_eq_bind,Option.bind_eq_some_iff,Option.pure_def] at h
   obtain ⟨⟨l,j⟩,hl,h⟩:=h
   exact .inl ⟨ht,l,j,hl,(Option.some.inj h).symm⟩
  rename_i ht
  simp only [Option.bind_eq_bind,Option.bind_eq_some_iff,Option.pure_def] at h
  obtain ⟨j,hj,h⟩:=h
  exact .inr ⟨ht,j,hj,(Option.some.inj h).symm⟩
section
variable {T:List Tk}
theorem rm (hT:T.length≤100000) (f:Nat) (N:List Tx) (i0:Nat) (hi:i0 < T.length) (r:List Tx×Nat) (h:gX T f N (bJ T i0)=some r):
  r.2 < T.length∧N.length+r.1.length≤16∧Spec Tryz.prog 161 (aY [.ptr (0,9) 0] (Gf T i0 N))
   (bc (.sl r.1.length (fl r.1)) [((0,9), .box 222 [.sl T.length (sY T), .v (.int .i64 (r.2:Int)), .v (.int .i64 0), .v (.int .i64 0), .ref (1,8) 0 (N++r.1).length]),((1,8), .row 9 1 (fl (N++r.1)))] [(0,9),(1,8)] [(0,9)]):=by
 have htl:=ej hi
 have hend: ∀ (g:Nat) (seen:List Tx) (i:Nat) (r:List Tx×Nat),i < T.length→gX T g seen i=some r→r.2 < T.length∧seen.length+r.1.length≤16:=by
  intro g
  induction g with
  | zero=> intro seen i r _ h;simp [gX] at h
  | succ g ihg=>
   intro seen i r hi h
   obtain ⟨g',hg',_,_,hs,⟨_,l,j,hl,rfl⟩ | ⟨_,j,hj,rfl⟩⟩:=mQ h
   ·obtain rfl:g=g':=by omega
    obtain ⟨h1,h2⟩:=ihg _ _ _ (ej (ej hi)) hl
    simp only [List.length_append,List.length_cons,List.length_nil] at h2 ⊢
    exact ⟨h1,by omega⟩
   exact ⟨jO hj (ej hi),by simp;omega⟩
 obtain ⟨ha,hb⟩:=hend f N _ r htl h
 refine ⟨ha,by omega,?_⟩
 have hNl:N.length < 16:=by obtain ⟨_,_,_,_,hs,_⟩:=mQ h;exact hs
 refine Spec.ofNI Tryz.func161 rfl Tryz.ntmps161 rfl ?_
 refine am (ai (bp _ fz) (aj (am (ai (si (3,0) _ 9 1 rfl rfl) ?_))))
 refine aj (am (bQ rfl (ai (dY aa [] ar (kM T i0 N hi hT) ob tr ae) ?_)))
 refine aj (aU fun K4 hK4=> ?_)
 refine ax ?_
 refine bq (α:=Nat×List Tx×Nat) (fun z=> (N++z.2.1).length≤16∧z.2.1.length≤16∧z.2.2 < T.length∧ ∃ l,gX T z.1 (N++z.2.1) z.2.2=some (l,r.2)∧r.1=z.2.1++l) 76 [(0,_)] [] (fun z=> [(3, .ref (3,0) 0 z.2.1.length)]) (fun z=> [((0,9), .box 222 [.sl T.length (sY T), .v (.int .i64 (z.2.2:Int)), .v (.int .i64 0), .v (.int .i64 0), .ref (1,9) 0 (N++z.2.1).length]),((1,9), .row 9 1 (fl (N++z.2.1))),((3,0), .row 9 1 (fl z.2.1))]) [(0,9),(1,9)] [(0,9)] (fun z=> z.1) (f,[],bJ T i0) ?_ (by
  refine Le.mkJ [] [] rfl ?_ ?_ trivial tr ?_
  ·exact ⟨(iP rfl),(cP rfl ag),trivial⟩
  ·exact ⟨(fm rfl rfl rfl rfl (au (jf ag ag) (nQ (nQ (nQ (au (cP rfl (by (simp only [List.append_nil]))) bf)))))),(fg rfl rfl rfl (by (simp only [List.append_nil]))),(fg rfl rfl rfl ag),trivial⟩
  kernel_rfl) ?_
 ·exact ⟨by simp;omega,Nat.zero_le _,htl,r.1,by rw [List.append_nil];exact h,rfl⟩
 intro z hz
 obtain ⟨z1,z2,z3⟩:=z
 obtain ⟨hz1,hz2,hz3,l,hz4,hz5⟩:=hz
 obtain ⟨g,rfl,hn,hs,hsl,hm⟩:=mQ hz4
 simp only at hz1 hz2 hz3 hz5 hn hs hsl hm ⊢
 have htz:=ej hz3
 have hl1:(z2++[(di T z3).t]).length=z2.length+1:=by simp
 have hl2:(N++(z2++[(di T z3).t])).length=(N++z2).length+1:=by simp;omega
 have ha2:fl (N++z2)++[PV.v (bt (di T z3).t)]=fl (N++(z2++[(di T z3).t])):=by rw [mY,List.append_assoc]
 refine aq (am (bQ rfl (ai (aT _ rfl rfl) (bb rfl rfl rfl (cf rfl rfl rfl (jY rfl rfl rfl (aj (bL rfl rfl (aS (ax ?_))))))))))
 refine aq (am (bQ rfl (ai (br aa _ _ ar (vF T z3 (N++z2) hz3) tr rfl ae (by simp)) ?_)))
 refine ai (cu (r:=false) _ rfl (by rw [hn];rfl)) ?_
 refine aj (aW rfl rfl (aq ?_))
 refine aM (σ':=aD 76 [(0,_),(3,_)] [((0,9),_),((1,9),_),((3,0),_)] [(0,9),(1,9)] [(0,9)]) kp ?_
 refine bK 7 [20,21,22,23,24,25,26] [] ae ae rfl (aK rfl) (rfl:_=[_,_,_,_,_,_,_]) (rfl:_=[]) ?_
 refine ap (_,[]) (fun τ=> aI _ bW) ?_
 refine fF rfl ?_
 refine ap (_,[]) (fun τ=> aT _ rfl rfl) ?_
 refine fL rfl ?_
 refine ap (_,[]) (fun τ=> aA _ aa rfl rfl rfl) ?_
 refine fA rfl ?_
 refine ap (_,[]) (fun τ=> aF _ aa rfl rfl eN) ?_
 refine fT rfl ?_
 refine ap (_,[]) (fun τ=> aI _ bW) ?_
 refine gj rfl ?_
 refine ap (_,[]) (fun τ=> (br aa _ _ ar (fc T z3 (N++z2) hz3) tr rfl ae (by simp))) ?_
 refine gU rfl ?_
 refine ap (_,[]) (fun τ=> (zd aa aw (cF (N++z2) _ rfl ab (di T z3).t) rfl)) ?_
 refine iC rfl (bl ⟨rfl,?_⟩)
 refine aj (aW rfl (decide_eq_false hs) ?_)
 refine am (bQ rfl (ai (aT _ rfl rfl) (bb rfl rfl rfl (ai (aF _ aa rfl rfl eN) (ai (dg _ aa rfl rfl) (ai (fq _ _ rfl rfl rfl) (aj (aW rfl (decide_eq_false ab) ?_))))))))
 refine aS (aq (am (bQ rfl (ai (aT _ rfl rfl) (bb rfl rfl rfl (cf rfl rfl rfl (ai (bY (r:=false) _ _ rfl rfl rfl) (aj (aW rfl rfl (aS ?_))))))))))
 refine aq ?_
 refine aM (σ':=aD 76 [(0,_),(3,_)] [((0,9),_),((1,9),_),((3,0),_)] [(0,9),(1,9)] [(0,9)]) kp ?_
 refine an (gG rfl (bQ rfl (ai (br aa _ _ ar (fc T z3 (N++z2) hz3) tr rfl ae (by simp)) ?_)))
 refine ai (bh _ _ aa rfl ag (by (simp <;> rfl)) ah rfl) ?_
 refine ai (dt (54,0) _ _ aa rfl rfl (by simp) (.sl rfl) ab rfl (mY _ _) hl1.symm) ?_
 refine fh rfl (aj (aq ?_))
 refine aM (σ':=aD 76 [(0,_),(3,_)] [((0,9),_),((1,9),_),((54,0),_)] [(0,9),(1,9)] [(0,9)]) kp ?_
 refine aM (Le.incT (63,0) rfl) ?_
 refine hG 9 [55,56,57,58,59,60,61,62,63] [(1,9),(63,0)] [[],[],[],[(1,9)],[(1,9)],[(1,9)],[(1,9)],[(1,9)],[]] ae ae rfl (aK rfl) (rfl:_=[_,_,_,_,_,_,_,_,_]) (rfl:_=[_,_,_]) ?_
 refine ap (_,[]) (fun τ=> aI _ bW) ?_
 refine fF rfl ?_
 refine ap (_,[]) (fun τ=> aI _ bW) ?_
 refine fL rfl ?_
 refine ap (_,[]) (fun τ=> aT _ rfl rfl) ?_
 refine fA rfl ?_
 refine ap (_,[]) (fun τ=> aA _ aa rfl rfl rfl) ?_
 refine fT rfl ?_
 refine ap (_,[]) (fun τ=> aF _ aa rfl rfl eN) ?_
 refine gj rfl ?_
 refine ap (_,[]) (fun τ=> aI _ bW) ?_
 refine gU rfl ?_
 refine ap (_,[]) (fun τ=> (br aa _ _ ar (fc T z3 (N++z2) hz3) tr rfl ae (by simp))) ?_
 refine iC rfl ?_
 refine ap (_,[]) (fun τ=> bh _ _ aa rfl ag (by (simp <;> rfl)) ah rfl) ?_
 refine jM rfl ?_
 refine ap (_,[((1,9), .gone),((63,0),_)]) (fun τ=> mT (b:=true) (63,0) _ _ aa rfl (eF rfl (by exact dJ) rfl) (by simp) (.sl rfl) ab rfl rfl rfl ha2 hl2.symm) ?_
 refine jX rfl (bl ⟨⟨rfl,by kernel_rfl⟩,?_⟩)
 refine ai (aT _ rfl rfl) (bb rfl rfl rfl (bG rfl rfl rfl rfl rfl rfl (aj (aU fun K15 hK15=> ?_))))
 refine aM (σ':=aD 76 [(0,_),(3,_)] [((0,9), .box _ [_,_,_,_, .ref (1,9) _ _]),((54,0),_),((1,9),_)] [(0,9),(1,9)] [(0,9)]) (by
  refine Le.mkJ [((1,9),(63,0))] [] rfl ?_ ?_ trivial tr ?_
  ·exact ⟨(IT [(0,9),(54,0)] rfl bW rfl),(IT [(0,9),(54,0)] rfl dT rfl),trivial⟩
  ·exact ⟨(fm rfl rfl rfl rfl (au (by exact IT [(0,9),(54,0)] rfl nB rfl) (au (by exact IT [(0,9),(54,0)] rfl kU rfl) (au (by exact IT [(0,9),(54,0)] rfl kU rfl) (au (by exact IT [(0,9),(54,0)] rfl kU rfl) lz))))),(fg rfl rfl rfl rfl),(fg rfl rfl rfl rfl),trivial⟩
  kernel_rfl) ?_
 refine an (bQ rfl (ai (dY aa [] ar (kM T z3 (N++(z2++[(di T z3).t])) hz3 hT) ob tr ae) ?_))
 refine aJ (hK15 _ ?_)
 clear hK15;try clear K15
 refine aU fun K16 hK16=> ?_
 refine am (bQ rfl (ai (br aa _ _ ar (fc T (bJ T z3) (N++(z2++[(di T z3).t])) htz) tr rfl ae (by simp)) ?_))
 refine ai (tI _ _ Tryz.underlying9 rfl rfl rfl) (aj (aP rfl (fun hc70=> ?_) (fun hc70=> ?_)))
 ·skip
  obtain ⟨_,j,hj,hr⟩:=hm.resolve_left fun x=> hc70 x.1
  obtain ⟨rfl,rfl⟩:=Prod.mk.inj hr
  have hexp:=tx T (bJ T z3) r.2 (N++(z2++[(di T z3).t])) [59] htz hT hj
  refine bD (id (hK4 _ ?_))
  clear hK4;try clear K4
  refine am (bQ rfl (ai (dY aa [] ar (hexp) ob tr ae) ?_))
  exact aj (am (gG rfl (fh rfl (aj (aG (bI (.inr rfl) rfl (.tmp dT) (Le.outI [((1,8),(1,9))] [(54,0)] (by rw [hz5];exact ff rfl rfl (by simp) rfl) rfl rfl rfl tr ⟨⟨rfl,⟨_,rfl, .box rfl (au .sl (au .v (au .v (au .v (au (cP rfl (by rw [hz5])) bf)))))⟩,rfl⟩,⟨rfl,⟨_,rfl, .rowE (by rw [hz5])⟩,rfl⟩,trivial⟩ tr rfl)))))))
 obtain ⟨_,l',j',hd',hr⟩:=hm.resolve_right fun x=> x.1 hc70
 obtain ⟨rfl,rfl⟩:=Prod.mk.inj hr
 refine bs (hK16 _ ?_)
 clear hK16;try clear K16
 refine an (bQ rfl (ai (dY aa [] ar (kM T (bJ T z3) (N++(z2++[(di T z3).t])) htz hT) ob tr ae) ?_))
 refine aJ (⟨(g,z2++[(di T z3).t],bJ T (bJ T z3)),?_,?_,?_⟩)
 ·exact ⟨by simp only [hl2];omega,by simp only [hl1];simp only [List.length_append] at hsl;omega,ej htz,l',by rw [← List.append_assoc];exact hd',by rw [hz5];simp⟩
 ·skip
  refine Le.mkJ [((3,0),(54,0))] [] rfl ?_ ?_ trivial tr ?_
  ·exact ⟨(dI (id:=(0,9)) rfl),(cP rfl ag),trivial⟩
  ·exact ⟨(fm rfl rfl rfl rfl lz),(fg rfl rfl rfl ag),(fg rfl rfl rfl ag),trivial⟩
  kernel_rfl
 simp only;omega
end

abbrev Hd:=Nat×Nd
def ww (h:Hd):List PV:= .v (.int .i64 (h.1:Int))::h.2.row
def mo (l:List Hd):List PV:=l.flatMap ww
theorem bz (l:List Hd):(mo l).length=l.length*5:=iG ww 5 (fun _=> rfl) l
def oD (l:List Hd) (k:Nat):Hd:=l.getD k (0,⟨0,0,[],0,[]⟩)
theorem ox (l:List Hd) (k:Nat) (h:k < l.length):oD l k=l[k]:=by simp [oD,h]
theorem ki (l:List Hd) (k:Nat) (h:k < l.length):(mo l)[k*5]? =some (.v (.int .i64 ((oD l k).1:Int))):=by
 rw [ox l k h];exact lA ww 5 (fun _=> rfl) l k 0 h ab
theorem Aa (l:List Hd) (k:Nat) (h:k < l.length):PV.ups (((mo l).drop (k*5)).take 5)=[.v (.int .i64 ((oD l k).1:Int)), .v (.int .i64 ((oD l k).2.k:Int)), .v (.int .i64 ((oD l k).2.n:Int)), .v (bt (oD l k).2.s), .sl (oD l k).2.kn (oD l k).2.kids]:=by
 rw [ox l k h,show ((mo l).drop (k*5)).take 5=ww l[k] from ms ww 5 (fun _=> rfl) l k h];rfl
theorem qz (l:List Hd) (h:Hd):mo l++ww h=mo (l++[h]):=jT ww l h
theorem xr (l m:List Hd):mo l++mo m=mo (l++m):=CA ww l m
theorem wA (l:List Hd) (k:Nat) (h:k < l.length):l.take k++[oD l k]=l.take (k+1):=by rw [ox l k h,List.take_succ_eq_append_getElem h]
def KU:List Tx:=[nD,ko,ij,kC]
section
variable {T:List Tk} {N:List Tx}
theorem Bf (hT:T.length≤100000) (i:Nat) (hi:i < T.length) (ht:(di T i).t=nD) (l:List Hd) (hl:l.length≤100000) (hno: ∀ k,k < l.length→(oD l k).1≠0):
  Spec Tryz.prog 163 (aY [.ptr (0,9) 0, .sl l.length (mo l)] (ea T i N)) (bc (.v (.int .i64 ((0:Nat):Int))) (ea T (bJ T i) N) [(0,9)] [(0,9)]):=by
 have hnx:=bN T i N hi
 rw [ht] at hnx
 refine Spec.ofNI Tryz.func163 rfl Tryz.ntmps163 rfl ?_
 refine am (be rfl (aj (am (bQ rfl (ai (aT _ rfl rfl) (bb rfl rfl rfl (cf rfl rfl rfl (be rfl (aj (am ?_))))))))))
 refine bQ rfl (ai (br aa _ _ ar (hnx) tr rfl ae (by simp)) ?_)
 refine oO rfl (aj (am (be rfl (aj (aq (am (ai (bh _ _ aa rfl ag (by (simp <;> rfl)) ah rfl) ?_)))))))
 refine eh rfl (ai (aH aa al (cF KU 4 rfl ab nD) rfl rfl) ?_)
 refine ai (cu (r:=false) _ rfl rfl) (aj (aW rfl rfl (aS (am (bQ rfl (ai (bU (cA T i N hi hT)) ?_))))))
 refine aj (aq (aq ?_))
 refine aM (σ':=aD 56 [(0,_),(1,_),(5,_),(6,_),(7,_)] [((0,9),_)] [(0,9)] [(0,9)]) kp ?_
 refine an (eh rfl (ai (aV (r:=false) _ _ Tryz.underlying9 rfl rfl rfl) (aj (aW rfl rfl (aS (aq (am (eh rfl (ai (aV (r:=false) _ _ Tryz.underlying9 rfl rfl rfl) (aj ?_))))))))))
 refine aW rfl rfl (aS (aq (am (eh rfl (ai (aV (r:=false) _ _ Tryz.underlying9 rfl rfl rfl) (aj (aW rfl rfl (aS (aU fun K14 hK14=> ?_)))))))))
 refine am (be rfl (aj (ax ?_)))
 refine bq (α:=Nat) (fun k=> k≤l.length) 56 [(0,_),(1,_),(5,_),(7,_)] [((0,9),_)] (fun k=> [(8, .v (.int .i64 (k:Int)))]) (fun k=> []) [(0,9)] [(0,9)] (fun k=> l.length - k) 0 ?_ (by
  refine Le.mkJ [] [] rfl ?_ ?_ trivial tr ?_
  ·exact ⟨(iP rfl),(iS rfl),(iV rfl),(iV rfl),(co ag),trivial⟩
  ·exact ⟨(ca rfl rfl rfl),trivial⟩
  kernel_rfl) ?_
 ·omega
 intro k hk
 refine aU fun K16 hK16=> ?_
 refine am (aX rfl (eW rfl (ai (bn _ aa rfl) (ai (bm _ _ rfl rfl rfl) (aj (aP rfl (fun hc42=> ?_) (fun hc42=> ?_)))))))
 ·skip
  refine bs (hK16 _ ?_)
  clear hK16;try clear K16
  refine aq (ax (am (eW rfl (aX rfl (ai (bo _ _ aa rfl rfl _ rfl ab (by (simp only [aN,bg,bj,bv,bu,bH,bz];omega)) ag) ?_)))))
  refine ai (cX _ aa rfl rfl) (ai (bO _ aa rfl (by exact ki _ _ ab) rfl) ?_)
  refine aX rfl (ai (bB _ _ rfl rfl rfl) (aj (aW rfl (by have:=hno k ab;exact beq_eq_false_iff_ne.2 ab) ?_)))
  refine cr (an (aX rfl (ai (aZ _ _ rfl rfl (bE ab)) ?_)))
  refine be rfl (aJ (⟨k+1,?_,?_,?_⟩))
  ·omega
  ·skip
   refine Le.mkJ [] [] rfl ?_ ?_ trivial tr ?_
   ·exact ⟨(iP rfl),(iS rfl),(iV rfl),(iV rfl),(co ag),trivial⟩
   ·exact ⟨(ca rfl rfl rfl),trivial⟩
   kernel_rfl
  omega
 refine bD (id (hK14 _ ?_))
 clear hK14;try clear K14
 exact am (aX rfl (be rfl (aj (aG (bI (.inr rfl) rfl (.tmp eu) (Le.outI [] [] (co ag) rfl rfl rfl trivial ob tr rfl))))))
theorem vY (hT:T.length≤100000) (i:Nat) (hi:i < T.length) (ht:(di T i).t=ko) (l:List Hd) (hl:l.length≤100000) (hno: ∀ k,k < l.length→(oD l k).1≠1):
  Spec Tryz.prog 163 (aY [.ptr (0,9) 0, .sl l.length (mo l)] (ea T i N)) (bc (.v (.int .i64 ((1:Nat):Int))) (ea T (bJ T i) N) [(0,9)] [(0,9)]):=by
 have hnx:=bN T i N hi
 rw [ht] at hnx
 refine Spec.ofNI Tryz.func163 rfl Tryz.ntmps163 rfl ?_
 refine am (be rfl (aj (am (bQ rfl (ai (aT _ rfl rfl) (bb rfl rfl rfl (cf rfl rfl rfl (be rfl (aj (am ?_))))))))))
 refine bQ rfl (ai (br aa _ _ ar (hnx) tr rfl ae (by simp)) ?_)
 refine oO rfl (aj (am (be rfl (aj (aq (am (ai (bh _ _ aa rfl ag (by (simp <;> rfl)) ah rfl) ?_)))))))
 refine eh rfl (ai (aH aa al (cF KU 4 rfl ab ko) rfl rfl) ?_)
 refine ai (cu (r:=false) _ rfl rfl) (aj (aW rfl rfl (aS (am (bQ rfl (ai (bU (cA T i N hi hT)) ?_))))))
 refine aj (aq (aq ?_))
 refine aM (σ':=aD 56 [(0,_),(1,_),(5,_),(6,_),(7,_)] [((0,9),_)] [(0,9)] [(0,9)]) kp ?_
 refine an (eh rfl (ai (aV (r:=true) _ _ Tryz.underlying9 rfl rfl rfl) (aj (bL rfl rfl (an (be rfl (aj (aq (am (eh rfl ?_))))))))))
 refine ai (aV (r:=false) _ _ Tryz.underlying9 rfl rfl rfl) (aj (aW rfl rfl (aS (aq (am (eh rfl (ai (aV (r:=false) _ _ Tryz.underlying9 rfl rfl rfl) (aj (aW rfl rfl (aS ?_))))))))))
 refine aU fun K14 hK14=> ?_
 refine am (be rfl (aj (ax ?_)))
 refine bq (α:=Nat) (fun k=> k≤l.length) 56 [(0,_),(1,_),(5,_),(7,_)] [((0,9),_)] (fun k=> [(8, .v (.int .i64 (k:Int)))]) (fun k=> []) [(0,9)] [(0,9)] (fun k=> l.length - k) 0 ?_ (by
  refine Le.mkJ [] [] rfl ?_ ?_ trivial tr ?_
  ·exact ⟨(iP rfl),(iS rfl),(iV rfl),(iV rfl),(co ag),trivial⟩
  ·exact ⟨(ca rfl rfl rfl),trivial⟩
  kernel_rfl) ?_
 ·omega
 intro k hk
 refine aU fun K16 hK16=> ?_
 refine am (aX rfl (eW rfl (ai (bn _ aa rfl) (ai (bm _ _ rfl rfl rfl) (aj (aP rfl (fun hc42=> ?_) (fun hc42=> ?_)))))))
 ·skip
  refine bs (hK16 _ ?_)
  clear hK16;try clear K16
  refine aq (ax (am (eW rfl (aX rfl (ai (bo _ _ aa rfl rfl _ rfl ab (by (simp only [aN,bg,bj,bv,bu,bH,bz];omega)) ag) ?_)))))
  refine ai (cX _ aa rfl rfl) (ai (bO _ aa rfl (by exact ki _ _ ab) rfl) ?_)
  refine aX rfl (ai (bB _ _ rfl rfl rfl) (aj (aW rfl (by have:=hno k ab;exact beq_eq_false_iff_ne.2 ab) ?_)))
  refine cr (an (aX rfl (ai (aZ _ _ rfl rfl (bE ab)) ?_)))
  refine be rfl (aJ (⟨k+1,?_,?_,?_⟩))
  ·omega
  ·skip
   refine Le.mkJ [] [] rfl ?_ ?_ trivial tr ?_
   ·exact ⟨(iP rfl),(iS rfl),(iV rfl),(iV rfl),(co ag),trivial⟩
   ·exact ⟨(ca rfl rfl rfl),trivial⟩
   kernel_rfl
  omega
 refine bD (id (hK14 _ ?_))
 clear hK14;try clear K14
 exact am (aX rfl (be rfl (aj (aG (bI (.inr rfl) rfl (.tmp eu) (Le.outI [] [] (co ag) rfl rfl rfl trivial ob tr rfl))))))
theorem CQ (hT:T.length≤100000) (i:Nat) (hi:i < T.length) (ht:(di T i).t=ij) (l:List Hd) (hl:l.length≤100000) {q j:Nat} (hq:q≤100) (h1:Spec Tryz.prog 200 (aY [.ptr (0,9) 0, .v (.int .i64 7)] (ea T (bJ T i) N)) (bc (.v (.int .i64 (q:Int))) (ea T j N) [(0,9)] [(0,9)])) (hno: ∀ k,k < l.length→(oD l k).1≠(2+q)):
  Spec Tryz.prog 163 (aY [.ptr (0,9) 0, .sl l.length (mo l)] (ea T i N)) (bc (.v (.int .i64 (((2+q):Nat):Int))) (ea T j N) [(0,9)] [(0,9)]):=by
 have hnx:=bN T i N hi
 rw [ht] at hnx
 refine Spec.ofNI Tryz.func163 rfl Tryz.ntmps163 rfl ?_
 refine am (be rfl (aj (am (bQ rfl (ai (aT _ rfl rfl) (bb rfl rfl rfl (cf rfl rfl rfl (be rfl (aj (am ?_))))))))))
 refine bQ rfl (ai (br aa _ _ ar (hnx) tr rfl ae (by simp)) ?_)
 refine oO rfl (aj (am (be rfl (aj (aq (am (ai (bh _ _ aa rfl ag (by (simp <;> rfl)) ah rfl) ?_)))))))
 refine eh rfl (ai (aH aa al (cF KU 4 rfl ab ij) rfl rfl) ?_)
 refine ai (cu (r:=false) _ rfl rfl) (aj (aW rfl rfl (aS (am (bQ rfl (ai (bU (cA T i N hi hT)) ?_))))))
 refine aj (aq (aq ?_))
 refine aM (σ':=aD 56 [(0,_),(1,_),(5,_),(6,_),(7,_)] [((0,9),_)] [(0,9)] [(0,9)]) kp ?_
 refine an (eh rfl (ai (aV (r:=false) _ _ Tryz.underlying9 rfl rfl rfl) (aj (aW rfl rfl (aS (aU fun K10 hK10=> ?_))))))
 refine am (eh rfl (ai (aV (r:=true) _ _ Tryz.underlying9 rfl rfl rfl) (aj (bL rfl rfl (an (bQ rfl (ai (bU (h1)) (ai (aZ _ _ rfl rfl (bE ab)) ?_))))))))
 refine be rfl (aJ (hK10 _ ?_))
 clear hK10;try clear K10
 refine aq (am (eh rfl (ai (aV (r:=false) _ _ Tryz.underlying9 rfl rfl rfl) (aj (aW rfl rfl (aS (aU fun K14 hK14=> ?_)))))))
 refine am (be rfl (aj (ax ?_)))
 refine bq (α:=Nat) (fun k=> k≤l.length) 56 [(0,_),(1,_),(5,_),(7,_)] [((0,9),_)] (fun k=> [(8, .v (.int .i64 (k:Int)))]) (fun k=> []) [(0,9)] [(0,9)] (fun k=> l.length - k) 0 ?_ (by
  refine Le.mkJ [] [] rfl ?_ ?_ trivial tr ?_
  ·exact ⟨(iP rfl),(iS rfl),(iV rfl),(iV rfl),(co ag),trivial⟩
  ·exact ⟨(ca rfl rfl rfl),trivial⟩
  kernel_rfl) ?_
 ·omega
 intro k hk
 refine aU fun K16 hK16=> ?_
 refine am (aX rfl (eW rfl (ai (bn _ aa rfl) (ai (bm _ _ rfl rfl rfl) (aj (aP rfl (fun hc42=> ?_) (fun hc42=> ?_)))))))
 ·skip
  refine bs (hK16 _ ?_)
  clear hK16;try clear K16
  refine aq (ax (am (eW rfl (aX rfl (ai (bo _ _ aa rfl rfl _ rfl ab (by (simp only [aN,bg,bj,bv,bu,bH,bz];omega)) ag) ?_)))))
  refine ai (cX _ aa rfl rfl) (ai (bO _ aa rfl (by exact ki _ _ ab) rfl) ?_)
  refine aX rfl (ai (bB _ _ rfl rfl rfl) (aj (aW rfl (by have:=hno k ab;exact beq_eq_false_iff_ne.2 ab) ?_)))
  refine cr (an (aX rfl (ai (aZ _ _ rfl rfl (bE ab)) ?_)))
  refine be rfl (aJ (⟨k+1,?_,?_,?_⟩))
  ·omega
  ·skip
   refine Le.mkJ [] [] rfl ?_ ?_ trivial tr ?_
   ·exact ⟨(iP rfl),(iS rfl),(iV rfl),(iV rfl),(co ag),trivial⟩
   ·exact ⟨(ca rfl rfl rfl),trivial⟩
   kernel_rfl
  omega
 refine bD (id (hK14 _ ?_))
 clear hK14;try clear K14
 exact am (aX rfl (be rfl (aj (aG (bI (.inr rfl) rfl (.tmp eu) (Le.outI [] [] (co ag) rfl rfl rfl trivial ob tr rfl))))))
theorem vV (hT:T.length≤100000) (i:Nat) (hi:i < T.length) (ht:(di T i).t=kC) (l:List Hd) (hl:l.length≤100000) {q j:Nat} (hq:q≤100) (h1:Spec Tryz.prog 200 (aY [.ptr (0,9) 0, .v (.int .i64 29)] (ea T (bJ T i) N)) (bc (.v (.int .i64 (q:Int))) (ea T j N) [(0,9)] [(0,9)])) (hno: ∀ k,k < l.length→(oD l k).1≠(10+q)):
  Spec Tryz.prog 163 (aY [.ptr (0,9) 0, .sl l.length (mo l)] (ea T i N)) (bc (.v (.int .i64 (((10+q):Nat):Int))) (ea T j N) [(0,9)] [(0,9)]):=by
 have hnx:=bN T i N hi
 rw [ht] at hnx
 refine Spec.ofNI Tryz.func163 rfl Tryz.ntmps163 rfl ?_
 refine am (be rfl (aj (am (bQ rfl (ai (aT _ rfl rfl) (bb rfl rfl rfl (cf rfl rfl rfl (be rfl (aj (am ?_))))))))))
 refine bQ rfl (ai (br aa _ _ ar (hnx) tr rfl ae (by simp)) ?_)
 refine oO rfl (aj (am (be rfl (aj (aq (am (ai (bh _ _ aa rfl ag (by (simp <;> rfl)) ah rfl) ?_)))))))
 refine eh rfl (ai (aH aa al (cF KU 4 rfl ab kC) rfl rfl) ?_)
 refine ai (cu (r:=false) _ rfl rfl) (aj (aW rfl rfl (aS (am (bQ rfl (ai (bU (cA T i N hi hT)) ?_))))))
 refine aj (aq (aq ?_))
 refine aM (σ':=aD 56 [(0,_),(1,_),(5,_),(6,_),(7,_)] [((0,9),_)] [(0,9)] [(0,9)]) kp ?_
 refine an (eh rfl (ai (aV (r:=false) _ _ Tryz.underlying9 rfl rfl rfl) (aj (aW rfl rfl (aS (aq (am (eh rfl (ai (aV (r:=false) _ _ Tryz.underlying9 rfl rfl rfl) (aj ?_))))))))))
 refine aW rfl rfl (aS (aU fun K12 hK12=> ?_))
 refine am (eh rfl (ai (aV (r:=true) _ _ Tryz.underlying9 rfl rfl rfl) (aj (bL rfl rfl (an (bQ rfl (ai (bU (h1)) (ai (aZ _ _ rfl rfl (bE ab)) ?_))))))))
 refine be rfl (aJ (hK12 _ ?_))
 clear hK12;try clear K12
 refine aU fun K14 hK14=> ?_
 refine am (be rfl (aj (ax ?_)))
 refine bq (α:=Nat) (fun k=> k≤l.length) 56 [(0,_),(1,_),(5,_),(7,_)] [((0,9),_)] (fun k=> [(8, .v (.int .i64 (k:Int)))]) (fun k=> []) [(0,9)] [(0,9)] (fun k=> l.length - k) 0 ?_ (by
  refine Le.mkJ [] [] rfl ?_ ?_ trivial tr ?_
  ·exact ⟨(iP rfl),(iS rfl),(iV rfl),(iV rfl),(co ag),trivial⟩
  ·exact ⟨(ca rfl rfl rfl),trivial⟩
  kernel_rfl) ?_
 ·omega
 intro k hk
 refine aU fun K16 hK16=> ?_
 refine am (aX rfl (eW rfl (ai (bn _ aa rfl) (ai (bm _ _ rfl rfl rfl) (aj (aP rfl (fun hc42=> ?_) (fun hc42=> ?_)))))))
 ·skip
  refine bs (hK16 _ ?_)
  clear hK16;try clear K16
  refine aq (ax (am (eW rfl (aX rfl (ai (bo _ _ aa rfl rfl _ rfl ab (by (simp only [aN,bg,bj,bv,bu,bH,bz];omega)) ag) ?_)))))
  refine ai (cX _ aa rfl rfl) (ai (bO _ aa rfl (by exact ki _ _ ab) rfl) ?_)
  refine aX rfl (ai (bB _ _ rfl rfl rfl) (aj (aW rfl (by have:=hno k ab;exact beq_eq_false_iff_ne.2 ab) ?_)))
  refine cr (an (aX rfl (ai (aZ _ _ rfl rfl (bE ab)) ?_)))
  refine be rfl (aJ (⟨k+1,?_,?_,?_⟩))
  ·omega
  ·skip
   refine Le.mkJ [] [] rfl ?_ ?_ trivial tr ?_
   ·exact ⟨(iP rfl),(iS rfl),(iV rfl),(iV rfl),(co ag),trivial⟩
   ·exact ⟨(ca rfl rfl rfl),trivial⟩
   kernel_rfl
  omega
 refine bD (id (hK14 _ ?_))
 clear hK14;try clear K14
 exact am (aX rfl (be rfl (aj (aG (bI (.inr rfl) rfl (.tmp eu) (Le.outI [] [] (co ag) rfl rfl rfl trivial ob tr rfl))))))
theorem EV {l:List Hd} {n:Nat} (h:l.any (fun x=> decide (x.1=n))=false): ∀ k,k < l.length→(oD l k).1≠n:=fun k hk e=> by
 rw [List.any_eq_false] at h
 have:=h l[k] (List.getElem_mem hk)
 rw [ox l k hk] at e
 simp [e] at this
theorem sh (hT:T.length≤100000) (i:Nat) (hi:i < T.length) (l:List Hd) (hl:l.length≤100000) (r:Nat×Nat) (h:xD T i=some r) (hno:l.any (fun x=> decide (x.1=r.1))=false):
  r.2 < T.length∧r.1 < 40∧Spec Tryz.prog 163 (aY [.ptr (0,9) 0, .sl l.length (mo l)] (ea T i N)) (bc (.v (.int .i64 (r.1:Int))) (ea T r.2 N) [(0,9)] [(0,9)]):=by
 have htl:=ej hi
 have hn:=EV hno
 have hmost: ∀ {most i:Nat} {q:Nat×Nat},pz T most i=some q→q.1≤most:=fun h=> by
  unfold pz at h
  split at h
  ·rename_i hx;rw [← Option.some.inj h];exact hx.2
  cases h
 unfold xD at h
 by_cases h1:(di T i).t=nD
 ·rw [if_pos h1] at h
  obtain rfl:=Option.some.inj h
  exact ⟨htl,by omega,Bf hT i hi h1 l hl hn⟩
 rw [if_neg h1] at h
 by_cases h2:(di T i).t=ko
 ·rw [if_pos h2] at h
  obtain rfl:=Option.some.inj h
  exact ⟨htl,by omega,vY hT i hi h2 l hl hn⟩
 rw [if_neg h2] at h
 by_cases h3:(di T i).t=ij
 ·rw [if_pos h3] at h
  simp only [Option.bind_eq_bind,Option.bind_eq_some_iff,Option.pure_def,Option.some.injEq] at h
  obtain ⟨⟨q,j⟩,hq,rfl⟩:=h
  have hm:=hmost hq
  exact ⟨show (q,j).2 < T.length from sA hq htl,by simp only at hm ⊢;omega,CQ hT i hi h3 l hl (by simp only at hm;omega) (lw T _ N 7 htl hT ab _ hq) hn⟩
 rw [if_neg h3] at h
 by_cases h4:(di T i).t=kC
 ·rw [if_pos h4] at h
  simp only [Option.bind_eq_bind,Option.bind_eq_some_iff,Option.pure_def,Option.some.injEq] at h
  obtain ⟨⟨q,j⟩,hq,rfl⟩:=h
  have hm:=hmost hq
  exact ⟨show (q,j).2 < T.length from sA hq htl,by simp only at hm ⊢;omega,vV hT i hi h4 l hl (by simp only at hm;omega) (lw T _ N 29 htl hT ab _ hq) hn⟩
 rw [if_neg h4] at h
 cases h
end
theorem xh {p:Hd→Bool} {l:List Hd} {k:Nat} (h: ∀ x∈l.take k,p x=true) (he:l.length≤k∨p (oD l k)=false):l.takeWhile p=l.take k∧l.dropWhile p=l.drop k:=by
 induction l generalizing k with
 | nil=> simp
 | cons a l ih=>
  cases k with
  | zero=>
   have:p a=false:=by
    rcases he with he | he
    ·simp at he
    simpa [oD] using he
   simp [this]
  | succ k=>
   have ha:p a=true:=h a (by simp)
   have:=ih (k:=k) (fun x hx=> h x (by simp [hx])) (by
    rcases he with he | he
    ·left;simpa using he
    right;simpa [oD] using he)
   simp [ha,this]
theorem BS (l:List Hd) (hl:l.length≤100000) (h:Hd):
  Spec Tryz.prog 165 (ba [.sl l.length (mo l), .agg [.v (.int .i64 (h.1:Int)), .v (.int .i64 (h.2.k:Int)), .v (.int .i64 (h.2.n:Int)), .v (bt h.2.s), .sl h.2.kn h.2.kids]] []) (aO (.sl (pS l h).length (mo (pS l h))) []):=by
 refine Spec.ofN Tryz.func165 rfl Tryz.ntmps165 rfl ?_
 refine am (ai (aR (3,0) _ rfl rfl) (ai (bp _ fz) (aj (am (ai (si (5,0) _ 73 5 rfl rfl) ?_)))))
 refine aj (am (be rfl (aj (aU fun K4 hK4=> ?_))))
 refine ax ?_
 refine bq (α:=Nat) (fun k=> k≤l.length∧ ∀ x∈l.take k,decide (x.1 < h.1)=true) 39 [(0,_),(3,_)] [((3,0),_)] (fun k=> [(6, .v (.int .i64 (k:Int))),(5, .ref (5,0) 0 (l.take k).length)]) (fun k=> [((5,0), .row 73 5 (mo (l.take k)))]) [] [] (fun k=> l.length - k) 0 ?_ (by
  refine Le.mkJ [] [] rfl ?_ ?_ trivial trivial ?_
  ·exact ⟨(iS rfl),(iP rfl),(co ag),(cP rfl ag),trivial⟩
  ·exact ⟨(ca rfl rfl rfl),(fg rfl rfl rfl ag),trivial⟩
  kernel_rfl) ?_
 ·exact ⟨Nat.zero_le _,by simp⟩
 intro k hk
 obtain ⟨hk,hall⟩:=hk
 have hlk:(l.take k).length=k:=by rw [List.length_take];omega
 refine aU fun K5 hK5=> ?_
 refine aU fun K6 hK6=> ?_
 refine bK 14 [7,8,9,10,11,12,13,14,15,16,17,18,19,20] [] ae ae rfl (aK rfl) (rfl:_=[_,_,_,_,_,_,_,_,_,_,_,_,_,_]) (rfl:_=[]) ?_
 refine ap (_,[]) (fun τ=> aI _ eu) ?_
 refine fF rfl ?_
 refine ap (_,[]) (fun τ=> aI _ nB) ?_
 refine fL rfl ?_
 refine ap (_,[]) (fun τ=> bn _ aa rfl) ?_
 refine fA rfl ?_
 refine ap (_,[]) (fun τ=> bm _ _ rfl rfl rfl) ?_
 refine fT rfl ?_
 refine ap (_,[]) (fun τ=> aI _ bR) ?_
 refine od (fun hg11=> ?_) (fun hg11=> ?_)
 ·skip
  refine gj rfl ?_
  refine bw (_,[]) rfl (fun τ=> rfl) (fun τ=> aI _ nB) ?_
  refine gU rfl ?_
  refine bw (_,[]) rfl (fun τ=> rfl) (fun τ=> aI _ eu) ?_
  refine iC rfl ?_
  refine bw (_,[]) rfl (fun τ=> rfl) (fun τ=> bo _ _ aa rfl rfl _ rfl ab (by (simp only [aN,bg,bj,bv,bu,bH,bz];omega)) ag) ?_
  refine jM rfl ?_
  refine bw (_,[]) rfl (fun τ=> rfl) (fun τ=> cX _ aa rfl rfl) ?_
  refine jX rfl ?_
  refine bw (_,[]) rfl (fun τ=> rfl) (fun τ=> bO _ aa rfl (by exact ki _ _ ab) rfl) ?_
  refine fI rfl ?_
  refine bw (_,[]) rfl (fun τ=> rfl) (fun τ=> aA _ aa rfl rfl rfl) ?_
  refine gh rfl ?_
  refine bw (_,[]) rfl (fun τ=> rfl) (fun τ=> aF _ aa rfl rfl eg) ?_
  refine jW rfl ?_
  refine bw (_,[]) rfl (fun τ=> rfl) (fun τ=> bm _ _ rfl rfl rfl) ?_
  refine li rfl ?_
  refine ap (_,[]) (fun τ=> aE _ _ _ rfl bR) ?_
  refine nh rfl (bl ⟨rfl,?_⟩)
  refine aJ (hK6 _ ?_)
  clear hK6;try clear K6
  refine aP rfl (fun hc20=> ?_) (fun hc20=> ?_)
  ·skip
   have hs:=wA l k ab
   have hlk1:(l.take (k+1)).length=(l.take k).length+1:=by rw [← hs];simp
   have hall1: ∀ x∈l.take (k+1),decide (x.1 < h.1)=true:=by
    rw [← hs]
    intro x hx
    rcases List.mem_append.1 hx with hx | hx
    ·exact hall x hx
    rw [List.mem_singleton.1 hx];exact decide_eq_true ab
   refine bs (hK5 _ ?_)
   clear hK5;try clear K5
   refine ax (am (gG rfl (eW rfl (aX rfl (ai (bo _ _ aa rfl rfl _ rfl ab (by (simp only [aN,bg,bj,bv,bu,bH,bz];omega)) ag) ?_)))))
   refine ai (cd _ aa rfl (by exact Aa _ _ ab) rfl) ?_
   refine ai (bh _ _ aa rfl ag (by (simp <;> rfl)) ah rfl) ?_
   refine ai (dt (27,0) _ _ aa rfl rfl (bz _).symm (.sl rfl) ab rfl ((qz _ (oD l k)).trans (by rw [hs])) hlk1.symm) ?_
   refine fh rfl (aj ?_)
   refine aM (σ':=aD 39 [(0,_),(3,_),(5,_),(6,_)] [((3,0),_),((27,0),_)] [] []) kp ?_
   refine an (aX rfl (ai (aZ _ _ rfl rfl (bE ab)) ?_))
   refine be rfl (aJ (⟨k+1,?_,?_,?_⟩))
   ·exact ⟨by omega,hall1⟩
   ·skip
    refine Le.mkJ [((5,0),(27,0))] [] rfl ?_ ?_ trivial trivial ?_
    ·exact ⟨(by repeat' (exact Lv.sl)),(dI (id:=(3,0)) rfl),(co ag),(cP rfl ag),trivial⟩
    ·exact ⟨(fm rfl rfl rfl rfl (by repeat' (first | exact Lv.v | exact Lv.sl | exact bf | refine au ?_ ?_))),(fg rfl rfl rfl ag),trivial⟩
    kernel_rfl
   omega
  have hf:=xh (p:=fun x=> decide (x.1 < h.1)) hall (.inr (decide_eq_false ab))
  refine bD (id (hK4 _ ?_))
  clear hK4;try clear K4
  refine am (gG rfl (ai (az _ aa rfl rfl rfl rfl) (ai (bh _ _ aa rfl ag (by (simp <;> rfl)) ah rfl) ?_)))
  refine ai (dt (33,0) _ _ aa rfl rfl (bz _).symm (.sl rfl) ab rfl (qz _ h) (show (l.take k).length+1=(l.take k++[h]).length by simp)) ?_
  refine fh rfl (aj (aq ?_))
  refine aM (σ':=aD 39 [(0,_),(5,_),(6,_)] [((33,0),_)] [] []) kp ?_
  refine an (gG rfl (eW rfl (aX rfl (ai (jx _ _ _ aa rfl k l.length (.lit rfl rfl) .dflt hk (Nat.le_refl _) (show _=mo (l.drop k) by rw [show (mo l).drop (k*5)=mo (l.drop k) from pG ww 5 (fun _=> rfl) l k];exact List.take_of_length_le (by rw [bz,List.length_drop];exact Nat.le_refl _)) rfl) ?_))))
  refine ai (dt (38,0) _ _ aa rfl rfl (bz _).symm (.sl (by rw [bz,List.length_drop])) (by simp;omega) rfl (xr _ _) (show (l.take k++[h]).length+(l.length - k)=(l.take k++[h]++l.drop k).length by simp;omega)) ?_
  refine fh rfl (aj (aG ?_))
  have hfin:l.take k++[h]++l.drop k=pS l h:=by unfold pS;rw [hf.1,hf.2];simp
  exact bI (.inr rfl) rfl (.tmp dT) (Le.out [] [(38,0)] (by rw [← hfin];exact ff rfl rfl (bz _).symm rfl) rfl rfl rfl tr trivial)
 have hf:=xh (p:=fun x=> decide (x.1 < h.1)) hall (.inl ab)
 refine gj rfl ?_
 refine cW rfl (fun τ=> rfl) ah ?_
 refine gU rfl ?_
 refine cW rfl (fun τ=> rfl) ah ?_
 refine iC rfl ?_
 refine cW rfl (fun τ=> rfl) ah ?_
 refine jM rfl ?_
 refine cW rfl (fun τ=> rfl) ah ?_
 refine jX rfl ?_
 refine cW rfl (fun τ=> rfl) ah ?_
 refine fI rfl ?_
 refine cW rfl (fun τ=> rfl) ah ?_
 refine gh rfl ?_
 refine cW rfl (fun τ=> rfl) ah ?_
 refine jW rfl ?_
 refine cW rfl (fun τ=> rfl) ah ?_
 refine li rfl ?_
 refine ap (_,[]) (fun τ=> aE _ _ _ rfl bR) ?_
 refine nh rfl (bl ⟨rfl,?_⟩)
 refine aJ (hK6 _ ?_)
 clear hK6;try clear K6
 refine aW rfl rfl (bD (id (hK4 _ ?_)))
 clear hK4;try clear K4
 refine am (gG rfl (ai (az _ aa rfl rfl rfl rfl) (ai (bh _ _ aa rfl ag (by (simp <;> rfl)) ah rfl) ?_)))
 refine ai (dt (33,0) _ _ aa rfl rfl (bz _).symm (.sl rfl) ab rfl (qz _ h) (show (l.take k).length+1=(l.take k++[h]).length by simp)) ?_
 refine fh rfl (aj (aq ?_))
 refine aM (σ':=aD 39 [(0,_),(5,_),(6,_)] [((33,0),_)] [] []) kp ?_
 refine an (gG rfl (eW rfl (aX rfl (ai (jx _ _ _ aa rfl k l.length (.lit rfl rfl) .dflt hk (Nat.le_refl _) (show _=mo (l.drop k) by rw [show (mo l).drop (k*5)=mo (l.drop k) from pG ww 5 (fun _=> rfl) l k];exact List.take_of_length_le (by rw [bz,List.length_drop];exact Nat.le_refl _)) rfl) ?_))))
 refine ai (dt (38,0) _ _ aa rfl rfl (bz _).symm (.sl (by rw [bz,List.length_drop])) (by simp;omega) rfl (xr _ _) (show (l.take k++[h]).length+(l.length - k)=(l.take k++[h]++l.drop k).length by simp;omega)) ?_
 refine fh rfl (aj (aG ?_))
 have hfin:l.take k++[h]++l.drop k=pS l h:=by unfold pS;rw [hf.1,hf.2];simp
 exact bI (.inr rfl) rfl (.tmp dT) (Le.out [] [(38,0)] (by rw [← hfin];exact ff rfl rfl (bz _).symm rfl) rfl rfl rfl tr trivial)

theorem rW {s:Tx}: ∀ {f a:Nat} {l:List Tk},a≤s.length→nb f s a=some l→0 < l.length∧l.length+a≤s.length+1
  | 0,_,_,_,h=> by simp [nb] at h
  | f+1,a,l,ha,h=> by
    rcases mB h with ⟨_,rfl⟩ | ⟨hl,t,m,ht,hm,rfl⟩
    · exact ⟨by simp,by simp;omega⟩
    obtain ⟨h1,h2⟩:=uR hl ht
    have h3:=vZ (s:=s) (a:=a+t.t.length) h2 false
    obtain ⟨_,h4⟩:=rW h3.2 hm
    exact ⟨by simp,by rw [List.length_cons];omega⟩
theorem Bv {s:Tx} {l:List Tk} (h:Fw s=some l):0 < l.length∧l.length≤s.length+1:=by
  have:=rW (a:=tL s false) (oJ s false) h
  omega
theorem mE {T:List Tk}: ∀ (f:Nat) {N M:List Tx} (i:Nat),N.Perm M→gX T f N i=gX T f M i
  | 0,_,_,_,_=> rfl
  | f+1,N,M,i,h=> by
    unfold gX
    simp only [h.mem_iff,h.length_eq,mE f _ (h.append_right [(di T i).t])]
theorem vf {T:List Tk} {f:Nat} {d v:List Tx} {i:Nat} {r:List Tx×List Tx×Nat} (h:jm T f d v i=some r): ∃ g,f=g+1∧
    (((di T i).t=mb∧ ∃ l j,gX T g (d++v) (bJ T i)=some (l,j)∧jm T g (d++l) v j=some r)∨
     ((di T i).t≠mb∧(di T i).t=mR∧ ∃ l j,gX T g (d++v) (bJ T i)=some (l,j)∧jm T g d (v++l) j=some r)∨
     ((di T i).t≠mb∧(di T i).t≠mR∧r=(d,v,i))):=by
  cases f with
  | zero=> simp [jm] at h
  | succ g=>
    refine ⟨g,rfl,?_⟩
    unfold jm at h
    split at h
    · rename_i ht
      simp only [Option.bind_eq_bind,Option.bind_eq_some_iff] at h
      obtain ⟨⟨l,j⟩,hl,h⟩:=h
      exact .inl ⟨ht,l,j,hl,h⟩
    rename_i ht
    split at h
    · rename_i ht2
      simp only [Option.bind_eq_bind,Option.bind_eq_some_iff] at h
      obtain ⟨⟨l,j⟩,hl,h⟩:=h
      exact .inr (.inl ⟨ht,ht2,l,j,hl,h⟩)
    rename_i ht2
    exact .inr (.inr ⟨ht,ht2,(Option.some.inj h).symm⟩)
theorem zQ {T:List Tk} {f:Nat} {l:List Hd} {i:Nat} {r:List Hd} (h:GV T f l i=some r): ∃ g,f=g+1∧
    (((di T i).k=0∧r=l)∨((di T i).k≠0∧ ∃ j n j2 d j3,gQ T Iy i=some j∧xD T j=some (n,j2)∧l.any (fun x=> decide (x.1=n))=false∧rk T g 1 j2=some (d,j3)∧GV T g (pS l (n,d)) j3=some r)):=by
  cases f with
  | zero=> simp [GV] at h
  | succ g=>
    refine ⟨g,rfl,?_⟩
    unfold GV at h
    split at h
    · rename_i hk;exact .inl ⟨hk,(Option.some.inj h).symm⟩
    rename_i hk
    simp only [Option.bind_eq_bind,Option.bind_eq_some_iff] at h
    obtain ⟨j,hj,⟨n,j2⟩,hn,h⟩:=h
    simp only at h
    split at h
    · cases h
    rename_i hno
    simp only [Option.bind_eq_some_iff] at h
    obtain ⟨⟨d,j3⟩,hd,h⟩:=h
    exact .inr ⟨hk,j,n,j2,d,j3,hj,hn,Bool.eq_false_iff.2 hno,hd,h⟩
theorem AY (l:List Hd) (h:Hd):(pS l h).length=l.length+1:=by
  have e:=congrArg List.length (List.takeWhile_append_dropWhile (p:=fun x:Nat×Nd=> decide (x.1 < h.1)) (l:=l))
  unfold pS
  rw [List.length_append] at e ⊢
  rw [List.length_cons]
  omega
abbrev JJ (d v:List Tx) (l:List Hd):AV:= .agg [.sl d.length (fl d), .sl v.length (fl v), .sl l.length (mo l)]
theorem pV (s:Tx) (hs:s.length≤3000) (D V:List Tx) (L:List Hd) (h:gB s=some (D,V,L)):
    Spec Tryz.prog 96 (ba [.v (bt s)] []) (aO (.tup [JJ D V L, .v (.int .i64 0), .v (.int .i64 0)]) []):=by
  unfold gB at h
  simp only [Option.bind_eq_bind,Option.bind_eq_some_iff,Option.pure_def,Option.some.injEq,Prod.mk.injEq] at h
  obtain ⟨T,hT,⟨D',V',i⟩,hd,L',hL,rfl,rfl,rfl⟩:=h
  obtain ⟨hT0,hT1⟩:=Bv hT
  have hTl:T.length≤100000:=by omega
  simp only at hL ⊢
  refine Spec.ofN Tryz.func96 rfl Tryz.ntmps96 rfl ?_
  refine am (ai (aC (2,0) aa rfl rfl) (be rfl (be rfl (aj (aq (am (eh rfl (ai (ig _ Tryz.underlying9 rfl) (ai (gA _ _ rfl rfl rfl) (aj ?_))))))))))
  refine aW rfl (decide_eq_false ab) ?_
  refine aS (am (eh rfl (ai (aH aa al (vt s ab T hT) rfl rfl) ?_)))
  refine ai (aI _ tN) (ai (cq _ rfl eE) (ai (cq _ rfl eg) (ai (cq _ rfl eg) (kD rfl (be rfl (be rfl (aj (aq (aq ?_)))))))))
  refine aM (σ':=aD 114 [(2,_),(5,_),(6,_),(7,_)] [((2,0),_)] [] []) (by
    refine Le.mkJ [] [] rfl ?_ ?_ trivial trivial ?_
    · exact ⟨(iP rfl),(iS rfl),(iV rfl),(iV rfl),trivial⟩
    · exact ⟨(ca rfl rfl rfl),trivial⟩
    kernel_rfl) ?_
  refine an (aX rfl (ai (bY (r:=false) _ _ rfl rfl rfl) (aj (aW rfl rfl (aS (am (eW rfl (ai (aL _ aa rfl (by exact rh)) ?_))))))))
  refine ai (aR (29,0) _ rfl rfl) (vw rfl (aj (am (ai (aC (9,0) aa rfl rfl) (aj (aU fun K9 hK9=> ?_))))))
  refine ax ?_
  refine aM (Le.nilB (29,0) 4 (60,0) 9 1 rfl rfl rfl) ?_
  refine aM (Le.nilB (9,0) 0 (61,0) 9 1 rfl rfl rfl) ?_
  refine aM (Le.nilB (9,0) 1 (62,0) 9 1 rfl rfl rfl) ?_
  refine aM (Le.nil0 (9,0) 2 rfl rfl) ?_
  refine bq (α:=Nat×List Tx×List Tx×List Tx×Nat) (fun z=> z.2.2.2.1.Perm (z.2.1++z.2.2.1)∧z.2.2.2.2 < T.length∧z.2.2.2.1.length≤16∧jm T z.1 z.2.1 z.2.2.1 z.2.2.2.2=some (D',V',i)) 114 [(2,_),(8,_),(9,_)] [((2,0),_)] (fun z=> []) (fun z=> [((29,0), .box 222 [.sl T.length (sY T), .v (.int .i64 (z.2.2.2.2:Int)), .v (.int .i64 0), .v (.int .i64 0), .ref (60,0) 0 z.2.2.2.1.length]),((60,0), .row 9 1 (fl z.2.2.2.1)),((9,0), .box 64 [.ref (61,0) 0 z.2.1.length, .ref (62,0) 0 z.2.2.1.length, .sl 0 []]),((61,0), .row 9 1 (fl z.2.1)),((62,0), .row 9 1 (fl z.2.2.1))]) [] [] (fun z=> z.1) (3*T.length+10,[],[],[],0) ?_ (by
    refine Le.mkJ [] [] rfl ?_ ?_ trivial trivial ?_
    · exact ⟨(iP rfl),(iP rfl),(iP rfl),trivial⟩
    · exact ⟨(ca rfl rfl rfl),(fm rfl rfl rfl rfl lz),(fg rfl rfl rfl ag),(fm rfl rfl rfl rfl lz),(fg rfl rfl rfl ag),(fg rfl rfl rfl ag),trivial⟩
    kernel_rfl) ?_
  · exact ⟨.refl _,hT0,Nat.zero_le _,hd⟩
  intro z hz
  obtain ⟨z1,d,v,N,j⟩:=z
  obtain ⟨hp,hj,hNl,hz⟩:=hz
  obtain ⟨g,rfl,hm⟩:=vf hz
  simp only at hp hj hNl hm ⊢
  have hpl:=hp.length_eq
  rw [List.length_append] at hpl
  have htl:=ej hj
  refine aU fun K10 hK10=> ?_
  refine aU fun K11 hK11=> ?_
  refine an (bQ rfl (ai (aT _ rfl rfl) (bb rfl rfl rfl (cf rfl rfl rfl (jY rfl rfl rfl (cL rfl (ay rfl rfl (aI _ bW) (ay rfl rfl (dY aa [((0,9),(29,0)),((1,9),(60,0))] ?_ (fc T j N hj) ob tr ae) ?_))))))))
  · repeat' (first | exact dD | refine dc ?_ ?_ | exact dI rfl)
  refine ay rfl rfl (aV _ _ Tryz.underlying9 rfl rfl rfl) (ay rfl rfl (aI _ bR) (dv (fun hg39=> ?_) (fun hg39=> ?_)))
  · skip
    obtain ⟨l,j',hdp,hdz⟩: ∃ l j',gX T g N (bJ T j)=some (l,j')∧jm T g (d++l) v j'=some (D',V',i):=by
      rcases hm with ⟨_,l,j',h1,h2⟩ | ⟨h,_⟩ | ⟨h,_⟩
      · exact ⟨l,j',(mE g _ hp).trans h1,h2⟩
      · exact absurd hg39 h
      exact absurd hg39 h
    obtain ⟨hda,hdb,hdc⟩:=rm hTl g N j hj (l,j') hdp
    simp only at hda hdb hdc
    have hdl:(d++l).length=d.length+l.length:=by simp
    refine aQ rfl rfl ah ?_
    refine aQ rfl rfl ah ?_
    refine aQ rfl rfl ah ?_
    refine ay rfl rfl (aE _ _ _ rfl bR) (ai (aE _ _ _ rfl bR) (aJ (hK11 _ ?_)))
    clear hK11;try clear K11
    refine bL rfl rfl (bs (hK10 _ ?_))
    clear hK10;try clear K10
    refine ax (aq ?_)
    refine aM (σ':=aD 114 [(2,_),(8,_),(9,_)] [((2,0),_),((29,0),_),((60,0),_),((9,0),_),((61,0),_),((62,0),_)] [] []) (by
      refine Le.mkJ [] [] rfl ?_ ?_ trivial trivial ?_
      · exact ⟨(iP rfl),(iP rfl),(iP rfl),trivial⟩
      · exact ⟨(ca rfl rfl rfl),(ca rfl rfl rfl),(ca rfl rfl rfl),(ca rfl rfl rfl),(ca rfl rfl rfl),(ca rfl rfl rfl),trivial⟩
      kernel_rfl) ?_
    refine an (bQ rfl (ai (dY aa [((0,9),(29,0)),((1,9),(60,0))] ?_ (fc T j N hj) ob tr ae) ?_))
    · repeat' (first | exact dD | refine dc ?_ ?_ | exact dI rfl)
    refine ai (aV _ _ Tryz.underlying9 rfl rfl rfl) (aj (bL rfl (beq_iff_eq.2 hg39) ?_))
    refine aM (σ':=aD 114 [(2,_),(8,_),(9,_)] [((2,0),_),((29,0), .box 222 [.sl T.length (sY T), .v (.int .i64 (j:Int)), .v (.int .i64 0), .v (.int .i64 0), .ref (60,0) 0 N.length]),((60,0), .row 9 1 (fl N)),((9,0),_),((61,0),_),((62,0),_)] [] []) (by
      refine Le.mkJ [] [] rfl ?_ ?_ trivial trivial ?_
      · exact ⟨(iP rfl),(iP rfl),(iP rfl),trivial⟩
      · exact ⟨(ca rfl rfl rfl),(ca rfl rfl rfl),(ca rfl rfl rfl),(ca rfl rfl rfl),(ca rfl rfl rfl),(ca rfl rfl rfl),trivial⟩
      kernel_rfl) ?_
    refine bK 4 [48,49,50,51] [(29,0),(70,0),(60,0)] ae ae rfl (aK rfl) (rfl:_=[_,_,_,_]) (rfl:_=[_,_,_]) ?_
    refine ap (_,[]) (fun τ=> aA _ aa rfl rfl rfl) ?_
    refine fF rfl ?_
    refine ap (_,[]) (fun τ=> aF _ aa rfl rfl eN) ?_
    refine fL rfl ?_
    refine ap (_,[]) (fun τ=> aI _ bW) ?_
    refine fA rfl ?_
    refine ap (_,[((29,0),_),((70,0),_),((60,0), .gone)]) (fun τ=> (bS aa [((0,9),(29,0)),((1,9),(60,0)),((1,8),(70,0))] ?_ (hdc) ob tr tr rfl rfl ae ae)) ?_
    · repeat' (first | exact dD | refine dc ?_ ?_ | exact dI rfl)
    refine fT rfl (bl ⟨rfl,?_⟩)
    refine ai (dt (52,0) _ _ aa rfl rfl (by simp) (.sl (by simp)) ab rfl (qp _ _) hdl.symm) ?_
    refine bb rfl rfl rfl (bG rfl rfl rfl rfl rfl rfl (aJ (⟨(g,d++l,v,N++l,j'),?_,?_,?_⟩)))
    · exact ⟨(hp.append_right l).trans (by rw [List.append_assoc,List.append_assoc];exact List.perm_append_comm.append_left d),hda,by simp only [List.length_append];omega,hdz⟩
    · skip
      refine Le.mkJ [((60,0),(70,0)),((61,0),(52,0))] [] rfl ?_ ?_ trivial trivial ?_
      · exact ⟨(dI (id:=(2,0)) rfl),(dI (id:=(29,0)) rfl),(dI (id:=(9,0)) rfl),trivial⟩
      · exact ⟨(fm rfl rfl rfl rfl (by repeat' (first | exact Lv.v | exact bf | refine au ?_ ?_))),(fm rfl rfl rfl rfl lz),(fg rfl rfl rfl ag),(fm rfl rfl rfl rfl lz),(fg rfl rfl rfl ag),(fg rfl rfl rfl ag),trivial⟩
      kernel_rfl
    simp only;omega
  refine ay rfl rfl (aI _ bW) (ay rfl rfl (dY aa [((0,9),(29,0)),((1,9),(60,0))] ?_ (fc T j N hj) ob tr ae) ?_)
  · repeat' (first | exact dD | refine dc ?_ ?_ | exact dI rfl)
  refine ay rfl rfl (aV _ _ Tryz.underlying9 rfl rfl rfl) (ay rfl rfl (aE _ _ _ rfl bR) (ai (aE _ _ _ rfl bR) (aJ (hK11 _ ?_))))
  clear hK11;try clear K11
  refine aP rfl (fun hc44=> ?_) (fun hc44=> ?_)
  · skip
    obtain ⟨l,j',hdp,hdz⟩: ∃ l j',gX T g N (bJ T j)=some (l,j')∧jm T g d (v++l) j'=some (D',V',i):=by
      rcases hm with ⟨h,_⟩ | ⟨_,_,l,j',h1,h2⟩ | ⟨_,h,_⟩
      · exact absurd h hg39
      · exact ⟨l,j',(mE g _ hp).trans h1,h2⟩
      exact absurd hc44 h
    obtain ⟨hda,hdb,hdc⟩:=rm hTl g N j hj (l,j') hdp
    simp only at hda hdb hdc
    have hvl:(v++l).length=v.length+l.length:=by simp
    refine bs (hK10 _ ?_)
    clear hK10;try clear K10
    refine ax (aq ?_)
    refine aM (σ':=aD 114 [(2,_),(8,_),(9,_)] [((2,0),_),((29,0),_),((60,0),_),((9,0),_),((61,0),_),((62,0),_)] [] []) (by
      refine Le.mkJ [] [] rfl ?_ ?_ trivial trivial ?_
      · exact ⟨(iP rfl),(iP rfl),(iP rfl),trivial⟩
      · exact ⟨(ca rfl rfl rfl),(ca rfl rfl rfl),(ca rfl rfl rfl),(ca rfl rfl rfl),(ca rfl rfl rfl),(ca rfl rfl rfl),trivial⟩
      kernel_rfl) ?_
    refine an (bQ rfl (ai (dY aa [((0,9),(29,0)),((1,9),(60,0))] ?_ (fc T j N hj) ob tr ae) ?_))
    · repeat' (first | exact dD | refine dc ?_ ?_ | exact dI rfl)
    refine ai (aV _ _ Tryz.underlying9 rfl rfl rfl) (aj (aW rfl (beq_eq_false_iff_ne.2 hg39) ?_))
    refine aM (σ':=aD 114 [(2,_),(8,_),(9,_)] [((2,0),_),((29,0), .box 222 [.sl T.length (sY T), .v (.int .i64 (j:Int)), .v (.int .i64 0), .v (.int .i64 0), .ref (60,0) 0 N.length]),((60,0), .row 9 1 (fl N)),((9,0),_),((61,0),_),((62,0),_)] [] []) (by
      refine Le.mkJ [] [] rfl ?_ ?_ trivial trivial ?_
      · exact ⟨(iP rfl),(iP rfl),(iP rfl),trivial⟩
      · exact ⟨(ca rfl rfl rfl),(ca rfl rfl rfl),(ca rfl rfl rfl),(ca rfl rfl rfl),(ca rfl rfl rfl),(ca rfl rfl rfl),trivial⟩
      kernel_rfl) ?_
    refine bK 4 [54,55,56,57] [(29,0),(71,0),(60,0)] ae ae rfl (aK rfl) (rfl:_=[_,_,_,_]) (rfl:_=[_,_,_]) ?_
    refine ap (_,[]) (fun τ=> aA _ aa rfl rfl rfl) ?_
    refine fF rfl ?_
    refine ap (_,[]) (fun τ=> aF _ aa rfl rfl eN) ?_
    refine fL rfl ?_
    refine ap (_,[]) (fun τ=> aI _ bW) ?_
    refine fA rfl ?_
    refine ap (_,[((29,0),_),((71,0),_),((60,0), .gone)]) (fun τ=> (bS aa [((0,9),(29,0)),((1,9),(60,0)),((1,8),(71,0))] ?_ (hdc) ob tr tr rfl rfl ae ae)) ?_
    · repeat' (first | exact dD | refine dc ?_ ?_ | exact dI rfl)
    refine fT rfl (bl ⟨rfl,?_⟩)
    refine ai (dt (58,0) _ _ aa rfl rfl (by simp) (.sl (by simp)) ab rfl (qp _ _) hvl.symm) ?_
    refine bb rfl rfl rfl (bG rfl rfl rfl rfl rfl rfl (aJ (⟨(g,d,v++l,N++l,j'),?_,?_,?_⟩)))
    · exact ⟨(hp.append_right l).trans (by rw [List.append_assoc]),hda,by simp only [List.length_append];omega,hdz⟩
    · skip
      refine Le.mkJ [((60,0),(71,0)),((62,0),(58,0))] [] rfl ?_ ?_ trivial trivial ?_
      · exact ⟨(dI (id:=(2,0)) rfl),(dI (id:=(29,0)) rfl),(dI (id:=(9,0)) rfl),trivial⟩
      · exact ⟨(fm rfl rfl rfl rfl (by repeat' (first | exact Lv.v | exact bf | refine au ?_ ?_))),(fm rfl rfl rfl rfl lz),(fg rfl rfl rfl ag),(fm rfl rfl rfl rfl lz),(fg rfl rfl rfl ag),(fg rfl rfl rfl ag),trivial⟩
      kernel_rfl
    simp only;omega
  have hrd:(D',V',i)=(d,v,j):=by
    rcases hm with ⟨h,_⟩ | ⟨_,h,_⟩ | ⟨_,_,h⟩
    · exact absurd h hg39
    · exact absurd h hc44
    exact h
  obtain ⟨e1,e2,e3⟩:D'=d∧V'=v∧i=j:=⟨congrArg (·.1) hrd,congrArg (·.2.1) hrd,congrArg (·.2.2) hrd⟩
  clear hrd hm hz
  subst e1;subst e2;subst e3
  refine bD (id (hK9 _ ?_))
  clear hK9;try clear K9
  refine aU fun K14 hK14=> ?_
  refine ax ?_
  refine aM (Le.frzB (29,0) 4 rfl rfl rfl rfl (ys:=fl N) (by simp [List.take_of_length_le]) (by simp)) ?_
  refine bq (α:=Nat×List Hd×Nat) (fun y=> y.2.1.length+y.1≤10*T.length+10∧y.2.2 < T.length∧GV T y.1 y.2.1 y.2.2=some L') 114 [(2,_),(8,_),(9,_)] [((2,0),_),((61,0),_),((62,0),_)] (fun y=> []) (fun y=> [((29,0), .box 222 [.sl T.length (sY T), .v (.int .i64 (y.2.2:Int)), .v (.int .i64 0), .v (.int .i64 0), .sl N.length (fl N)]),((9,0), .box 64 [.ref (61,0) 0 D'.length, .ref (62,0) 0 V'.length, .sl y.2.1.length (mo y.2.1)])]) [] [] (fun y=> y.1) (10*T.length+10,[],i) ?_ (by
    refine Le.mkJ [] [] rfl ?_ ?_ trivial trivial ?_
    · exact ⟨(iP rfl),(iP rfl),(iP rfl),trivial⟩
    · exact ⟨(ca rfl rfl rfl),(ca rfl rfl rfl),(ca rfl rfl rfl),(fm rfl rfl rfl rfl lz),(fm rfl rfl rfl rfl lz),trivial⟩
    kernel_rfl) ?_
  · exact ⟨by simp,hj,hL⟩
  intro y hy
  obtain ⟨y1,l,k⟩:=y
  obtain ⟨hyl,hk,hy⟩:=hy
  obtain ⟨g2,rfl,hm2⟩:=zQ hy
  simp only at hyl hk hm2 ⊢
  refine aU fun K15 hK15=> ?_
  refine aq (bK 19 [60,61,62,63,64,65,66,67,68,69,70,71,72,73,74,75,76,77,78] [] ae ae rfl (aK rfl) (rfl:_=[_,_,_,_,_,_,_,_,_,_,_,_,_,_,_,_,_,_,_]) (rfl:_=[]) ?_)
  refine ap (_,[]) (fun τ=> aI _ bW) ?_
  refine fF rfl ?_
  refine ap (_,[]) (fun τ=> aT _ rfl rfl) ?_
  refine fL rfl ?_
  refine ap (_,[]) (fun τ=> aA _ aa rfl rfl rfl) ?_
  refine fA rfl ?_
  refine ap (_,[]) (fun τ=> aF _ aa rfl rfl eg) ?_
  refine fT rfl ?_
  refine ap (_,[]) (fun τ=> bB (r:=true) _ _ rfl rfl rfl) ?_
  refine gj rfl ?_
  refine ap (_,[]) (fun τ=> aI _ bR) ?_
  refine gU rfl ?_
  refine bw (_,[]) rfl (fun τ=> rfl) (fun τ=> aI _ bW) ?_
  refine iC rfl ?_
  refine bw (_,[]) rfl (fun τ=> rfl) (fun τ=> aT _ rfl rfl) ?_
  refine jM rfl ?_
  refine bw (_,[]) rfl (fun τ=> rfl) (fun τ=> aA _ aa rfl rfl rfl) ?_
  refine jX rfl ?_
  refine bw (_,[]) rfl (fun τ=> rfl) (fun τ=> aF _ aa rfl rfl eE) ?_
  refine fI rfl ?_
  refine bw (_,[]) rfl (fun τ=> rfl) (fun τ=> aI _ bW) ?_
  refine gh rfl ?_
  refine bw (_,[]) rfl (fun τ=> rfl) (fun τ=> aT _ rfl rfl) ?_
  refine jW rfl ?_
  refine bw (_,[]) rfl (fun τ=> rfl) (fun τ=> aA _ aa rfl rfl rfl) ?_
  refine li rfl ?_
  refine bw (_,[]) rfl (fun τ=> rfl) (fun τ=> aF _ aa rfl rfl eg) ?_
  refine nh rfl ?_
  refine bw (_,[]) rfl (fun τ=> rfl) (fun τ=> bo _ _ aa rfl rfl _ rfl ab (by (simp only [aN,bg,bj,bv,bu,bH,bz];omega)) ag) ?_
  refine uD rfl ?_
  refine bw (_,[]) rfl (fun τ=> rfl) (fun τ=> cX _ aa rfl rfl) ?_
  refine uB rfl ?_
  refine bw (_,[]) rfl (fun τ=> rfl) (fun τ=> bO _ aa rfl (by exact qV _ _ ab) rfl) ?_
  refine wo rfl ?_
  refine bw (_,[]) rfl (fun τ=> rfl) (fun τ=> bY _ _ rfl rfl rfl) ?_
  refine yE rfl ?_
  refine ap (_,[]) (fun τ=> aE _ _ _ rfl bR) ?_
  refine yS rfl (bl ⟨rfl,?_⟩)
  refine aj (aP rfl (fun hc78=> ?_) (fun hc78=> ?_))
  · skip
    obtain ⟨_,j1,hn,j2,dd,j3,h1,h2,h3,h4,h5⟩:=hm2.resolve_left fun x=> by omega
    have hx1:=fP T k j1 N Iy hk hTl h1
    obtain ⟨ha2,_,hx2⟩:=sh (N:=N) hTl j1 (jO h1 hk) l ab _ h2 h3
    obtain ⟨ha3,hx3⟩:=vD (N:=N) hTl ab ha2 h4
    have hx4:=BS l ab (hn,dd)
    have hpl2:=AY l (hn,dd)
    simp only at ha2 ha3 hx2 hx3 hx4
    refine bs (hK15 _ ?_)
    clear hK15;try clear K15
    refine ax (aq ?_)
    refine aM (σ':=aD 114 [(2,_),(8,_),(9,_)] [((2,0),_),((61,0),_),((62,0),_),((29,0),_),((9,0),_)] [] []) (by
      refine Le.mkJ [] [] rfl ?_ ?_ trivial trivial ?_
      · exact ⟨(iP rfl),(iP rfl),(iP rfl),trivial⟩
      · exact ⟨(ca rfl rfl rfl),(ca rfl rfl rfl),(ca rfl rfl rfl),(ca rfl rfl rfl),(ca rfl rfl rfl),trivial⟩
      kernel_rfl) ?_
    refine an (bQ rfl (ai (dY aa [((0,9),(29,0))] ?_ (hx1) ob tr ae) ?_))
    · repeat' (first | exact dD | refine dc ?_ ?_ | exact Lv.v | exact dI rfl)
    refine aj (aq (am (bQ rfl (ai (aT _ rfl rfl) (bb rfl rfl rfl (cf rfl rfl rfl (ai (bY (r:=false) _ _ rfl rfl rfl) (aj (aW rfl rfl (aS ?_))))))))))
    refine aU fun K20 hK20=> ?_
    refine an (bQ rfl (bb rfl rfl rfl (eV rfl rfl rfl (ai (dY aa [((0,9),(29,0))] ?_ (hx2) ob tr ae) ?_))))
    · repeat' (first | exact dD | refine dc ?_ ?_ | exact Lv.sl | exact dI rfl)
    refine be rfl (aJ (hK20 _ ?_))
    clear hK20;try clear K20
    refine aU fun K21 hK21=> ?_
    refine an (bQ rfl (ai (dY aa [((0,9),(29,0))] ?_ (hx3) ob tr ae) ?_))
    · repeat' (first | exact dD | refine dc ?_ ?_ | exact Lv.v | exact dI rfl)
    refine ai (aC (11,0) aa rfl rfl) (bG rfl rfl rfl rfl rfl rfl (aJ (hK21 _ ?_)))
    clear hK21;try clear K21
    refine aM (σ':=aD 114 [(2,_),(8,_),(9,_),(10,_),(11,_)] [((2,0),_),((61,0),_),((62,0),_),((29,0),_),((9,0),_),((11,0),_)] [] []) (by
      refine Le.mkJ [] [] rfl ?_ ?_ trivial trivial ?_
      · exact ⟨(iP rfl),(iP rfl),(iP rfl),(iV rfl),(iP rfl),trivial⟩
      · exact ⟨(ca rfl rfl rfl),(ca rfl rfl rfl),(ca rfl rfl rfl),(ca rfl rfl rfl),(ca rfl rfl rfl),(ca rfl rfl rfl),trivial⟩
      kernel_rfl) ?_
    refine an (bb rfl rfl rfl (eV rfl rfl rfl (aX rfl (ai (az _ aa rfl rfl rfl rfl) (ai (aL _ aa rfl (by exact rh)) ?_)))))
    refine ai (aH aa al (hx4) rfl rfl) ?_
    refine bb rfl rfl rfl (bG rfl rfl rfl rfl rfl rfl (aJ (⟨(g2,pS l (hn,dd),j3),?_,?_,?_⟩)))
    · exact ⟨by simp only [hpl2];omega,ha3,h5⟩
    · skip
      refine Le.mkJ [] [] rfl ?_ ?_ trivial trivial ?_
      · exact ⟨(iP rfl),(iP rfl),(iP rfl),trivial⟩
      · exact ⟨(ca rfl rfl rfl),(ca rfl rfl rfl),(ca rfl rfl rfl),(fm rfl rfl rfl rfl lz),(fm rfl rfl rfl rfl lz),trivial⟩
      kernel_rfl
    simp only;omega
  have hrl:=(hm2.resolve_right fun x=> x.1 ab).2
  subst hrl
  refine bD (id (hK14 _ ?_))
  clear hK14;try clear K14
  refine aq (aq ?_)
  refine aM (σ':=aD 114 [(2,_),(8,_),(9,_)] [((2,0),_),((61,0),_),((62,0),_),((29,0),_),((9,0),_)] [] []) (by
    refine Le.mkJ [] [] rfl ?_ ?_ trivial trivial ?_
    · exact ⟨(iP rfl),(iP rfl),(iP rfl),trivial⟩
    · exact ⟨(ca rfl rfl rfl),(ca rfl rfl rfl),(ca rfl rfl rfl),(ca rfl rfl rfl),(ca rfl rfl rfl),trivial⟩
    kernel_rfl) ?_
  refine an (bQ rfl (ai (aT _ rfl rfl) (bb rfl rfl rfl (cf rfl rfl rfl (ai (bY (r:=false) _ _ rfl rfl rfl) (aj (aW rfl rfl (aS (am (ai (az _ aa rfl rfl rfl rfl) ?_))))))))))
  exact bG rfl rfl rfl rfl rfl rfl (be rfl (be rfl (aj (aG (wC (.inr rfl) rfl (.cellA aa rfl rfl rfl) (.tmp kU) (.tmp kU) (Le.out [] [(61,0),(62,0)] (.tup rfl (au (.agg rfl (au (ff rfl rfl (by simp) rfl) (au (ff rfl rfl (by simp) rfl) lz))) lz)) rfl rfl rfl tr trivial))))))
end Go.Proofs.YtmjnackchaahbaaGreat
