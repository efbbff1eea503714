/- part 10 -/
import Derived.Test.YtmjnackchaahbaaGreatNsZ9
set_option linter.unusedSimpArgs false
set_option linter.unusedVariables false
namespace Go.Proofs.YtmjnackchaahbaaGreat
open Go.RowKit

def mK (l:List Nd):List PV:=l.flatMap Nd.row
theorem bI (l:List Nd):(mK l).length=l.length*4:=iL Nd.row 4 (fun _=> rfl) l
theorem Al (l:List Nd) (d:Nd):mK l++d.row=mK (l++[d]):=jJ Nd.row l d
theorem qL {T:List Tk} {g lv i:Nat} {r:List Nd×Nat} (h:nL T g lv i=some r): ∃ f,g=f+1∧((dm T i).t=[125]∧r=([],i)∨(dm T i).t≠[125]∧ ∃ d j l k,yE T f lv i=some (d,j)∧nL T f lv j=some (l,k)∧r=(d::l,k)):=by
 cases g with
 | zero=> simp [nL] at h
 | succ f=>
  refine ⟨f,rfl,?_⟩
  unfold nL at h
  split at h
  ·rename_i ht;exact .inl ⟨ht,(Option.some.inj h).symm⟩
  rename_i ht
  simp only [Option.bind_eq_bind,Option.bind_eq_some_iff,Option.pure_def] at h
  obtain ⟨⟨d,j⟩,hd,⟨l,k⟩,hl,h⟩:=h
  exact .inr ⟨ht,d,j,l,k,hd,hl,(Option.some.inj h).symm⟩
section
variable {T:List Tk} {N:List Tx}
theorem Cf (hT:T.length≤100000) (f:Nat) (hf:f≤2000000) (ih: ∀ g,g≤f→PS T N g) (lv i:Nat) (r:Nd×Nat) (hl:lv≤21) (hi:i < T.length) (h:rf T (f+1) lv i=some r):
  r.2 < T.length∧Spec Tryz.prog 164 (aY [.ptr (0,9) 0, .v (.int .i64 (lv:Int))] (dZ T i N)) (PO T N r):=by
 unfold rf at h
 simp only [Option.bind_eq_bind,Option.bind_eq_some_iff,Option.pure_def,Option.some.injEq] at h
 obtain ⟨j,hj,⟨L,j2⟩,hL,j3,hj3,rfl⟩:=h
 have ho:=kY hj
 have hjl:=jK ho.2 hi
 have hl':=ho.1
 have hopen:=oH T i j N [123] lv hi hT hj
 simp only at hj3 ⊢
 have hend: ∀ (g i:Nat) (r:List Nd×Nat),g≤f→i < T.length→nL T g lv i=some r→r.2 < T.length:=by
  intro g
  induction g with
  | zero=> intro i r _ _ h;simp [nL] at h
  | succ g ihg=>
   intro i r hg hi h
   obtain ⟨g',hg',h | ⟨_,d,j,l,k,hd,hm,h⟩⟩:=qL h
   ·rw [h.2];exact hi
   obtain rfl:g=g':=by omega
   rw [h]
   exact ihg j (l,k) ab ((ih g ab).stm _ _ _ hl' hi hd).1 hm
 have hj2:=hend f j _ (Nat.le_refl _) hjl hL
 refine ⟨jK hj3 hj2,?_⟩
 refine Spec.ofNI Tryz.func164 rfl Tryz.ntmps164 rfl ?_
 refine am (ai (aB (4,0) aa rfl rfl) (aj (am (ai (aN _ aa rfl (by exact kI)) ?_))))
 refine ai (aB (5,0) aa rfl rfl) (bG rfl rfl rfl rfl rfl rfl (aj (aq ?_)))
 refine aL (Le.nilB (5,0) 3 (60,0) 71 4 rfl rfl rfl) ?_
 refine an (bS rfl (aX rfl (ai (bV (hopen)) (aj (aU fun K4 hK4=> ?_)))))
 refine ay ?_
 refine br (α:=Nat×List Nd×Nat) (fun z=> z.1≤f∧z.2.1.length+z.1=f∧z.2.2 < T.length∧ ∃ l,nL T z.1 lv z.2.2=some (l,j2)∧L=z.2.1++l) 31 [(0,_),(1,_),(4,_),(5,_)] [((4,0),_)] (fun z=> []) (fun z=> [((0,9), .box 222 [.sl T.length (sP T), .v (.int .i64 (z.2.2:Int)), .v (.int .i64 0), .v (.int .i64 0), .sl N.length (fm N)]),((5,0), .box 71 [.v (.int .i64 11), .v (.int .i64 0), .v (bt []), .ref (60,0) 0 z.2.1.length]),((60,0), .row 71 4 (mK z.2.1))]) [(0,9)] [(0,9)] (fun z=> z.1) (f,[],j) ?_ (by
  refine Le.mkJ [] [] rfl ?_ ?_ trivial tr ?_
  ·exact ⟨(iP rfl),(iV rfl),(iP rfl),(iP rfl),trivial⟩
  ·exact ⟨(bM rfl rfl rfl),(fq rfl rfl rfl rfl lz),(fq rfl rfl rfl rfl (nU (nU (au (by repeat' (exact Lv.v)) lz)))),(fi rfl rfl rfl ag),trivial⟩
  kernel_rfl) ?_
 ·exact ⟨Nat.le_refl _,Nat.zero_add _,hjl,L,hL,rfl⟩
 intro z hz
 obtain ⟨z1,z2,z3⟩:=z
 obtain ⟨hz1,hz2,hz3,l,hz4,hz5⟩:=hz
 obtain ⟨g,rfl,hm⟩:=qL hz4
 simp only at hz1 hz2 hz3 hz5 hm ⊢
 refine aU fun K5 hK5=> ?_
 refine am (bS rfl (ai (aT _ rfl rfl) (bc rfl rfl rfl (cd rfl rfl rfl (kv rfl rfl rfl (cN rfl (ax rfl rfl (aI _ ca) (ax rfl rfl (bu aa _ _ ar (bQ T z3 N hz3) tr rfl ae (by simp)) ?_))))))))
 refine ax rfl rfl (sK _ _ Tryz.underlying9 rfl rfl rfl) (ai (aE _ _ _ rfl bN) (aj (aR rfl (fun hc19=> ?_) (fun hc19=> ?_))))
 ·skip
  obtain ⟨_,d,jd,l',k',hd,hm',hr⟩:=hm.resolve_left fun x=> hc19 x.1
  obtain ⟨rfl,rfl⟩:=Prod.mk.inj hr
  obtain ⟨hda,hdb⟩:=(ih g ab).stm _ _ _ hl' hz3 hd
  have hlen:(z2++[d]).length=z2.length+1:=by simp
  refine bs (hK5 _ ?_)
  clear hK5;try clear K5
  refine ay ?_
  refine aL (σ':=aD 31 [(0,_),(1,_),(4,_),(5,_)] [((4,0),_),((0,9),_),((5,0),_),((60,0),_)] [(0,9)] [(0,9)]) kp ?_
  refine bJ 6 [20,21,22,23,24,25] [(0,9)] ae ae rfl (aK rfl) (rfl:_=[_,_,_,_,_,_]) (rfl:_=[_,_,_]) ?_
  refine ap (_,[]) (fun τ=> aA _ aa rfl rfl rfl) ?_
  refine fD rfl ?_
  refine ap (_,[]) (fun τ=> aF _ aa rfl rfl eQ) ?_
  refine fF rfl ?_
  refine ap (_,[]) (fun τ=> aI _ ca) ?_
  refine fE rfl ?_
  refine ap (_,[]) (fun τ=> aI _ eh) ?_
  refine fS rfl ?_
  refine ap (_,[((0,9),_)]) (fun τ=> (kB aa ar (hdb) ob rfl rfl ae)) ?_
  refine gf rfl ?_
  refine ap (_,[]) (fun τ=> bg _ _ aa rfl ag (by (simp <;> rfl)) ah rfl) ?_
  refine gS rfl (bj ⟨rfl,?_⟩)
  refine ai (du (26,0) _ _ aa rfl rfl (bI _).symm (.sl rfl) ab rfl (Al _ d) hlen.symm) ?_
  refine bc rfl rfl rfl (bG rfl rfl rfl rfl rfl rfl (aJ (⟨(g,z2++[d],jd),?_,?_,?_⟩)))
  ·exact ⟨by simp only;omega,by simp only;omega,hda,l',hm',by rw [hz5];simp⟩
  ·skip
   refine Le.mkJ [((60,0),(26,0))] [] rfl ?_ ?_ trivial tr ?_
   ·exact ⟨(dH (id:=(0,9)) rfl),(by repeat' (exact Lv.v)),(dH (id:=(4,0)) rfl),(dH (id:=(5,0)) rfl),trivial⟩
   ·exact ⟨(fq rfl rfl rfl rfl (by repeat' (first | exact Lv.v | exact bf | refine au ?_ ?_))),(fq rfl rfl rfl rfl lz),(fq rfl rfl rfl rfl (nU (nU (au (by repeat' (exact Lv.v)) lz)))),(fi rfl rfl rfl ag),trivial⟩
   kernel_rfl
  simp only;omega
 obtain ⟨_,hr⟩:=hm.resolve_right fun x=> x.1 hc19
 obtain ⟨rfl,rfl⟩:=Prod.mk.inj hr
 rw [List.append_nil] at hz5
 subst hz5
 have hexp:=fT T j2 j3 N [125] hj2 hT hj3
 refine bB (id (hK4 _ ?_))
 clear hK4;try clear K4
 exact am (bS rfl (ai (bV (hexp)) (aj (am (ai (az _ aa rfl rfl rfl rfl) (bG rfl rfl rfl rfl rfl rfl (aj (aG (bH (.inr rfl) rfl (.cellA aa rfl rfl rfl) (Le.outI [] [(60,0)] (.agg rfl (au .v (au .v (au .v (au (fg rfl rfl (bI _).symm rfl) bf))))) rfl rfl rfl tr ob tr rfl))))))))))
theorem tG {T:List Tk} {most i:Nat} {r:Nat×Nat} (h:pC T most i=some r) (hi:i < T.length):r.2 < T.length:=by
 unfold pC at h
 split at h
 ·rw [← Option.some.inj h];exact ek hi
 cases h
theorem DB (hT:T.length≤100000) (f:Nat) (ih:PS T N f) (lv i:Nat) (r:Nd×Nat) (hl:lv≤20) (hi:i < T.length) (h:yE T (f+1) lv i=some r):
  r.2 < T.length∧Spec Tryz.prog 202 (aY [.ptr (0,9) 0, .v (.int .i64 (lv:Int))] (dZ T i N)) (PO T N r):=by
 have htl:=ek hi
 have hx:=fun {i:Nat} {r:Nd×Nat} (hi:i < T.length) (h:gR T f lv 1 i=some r)=> xU (N:=N) hT hl hi h
 have hb:=fun {i:Nat} {r:Nd×Nat} (hi:i < T.length) (h:rf T f (lv+1) i=some r)=> ih.blk (lv+1) i r ab hi h
 have he:=fun {i j:Nat} {s:Tx} (hi:i < T.length) (h:gM T s i=some j)=> And.intro (jK h hi) (fT T i j N s hi hT h)
 have hn:=fun {i most:Nat} {r:Nat×Nat} (hm:most≤1000) (hi:i < T.length) (h:pC T most i=some r)=> And.intro (tG h hi) (lP T i N most hi hT hm r h)
 unfold yE at h
 simp only at h
 by_cases h0:eD T i=true
 ·rw [if_pos h0] at h
  simp only [Option.bind_eq_bind,Option.bind_eq_some_iff,Option.pure_def,Option.some.injEq] at h
  obtain ⟨j1,e1,⟨d,j2⟩,e2,j3,e3,rfl⟩:=h
  obtain ⟨a1,b1⟩:=he htl e1
  obtain ⟨a2,b2⟩:=hx a1 e2
  obtain ⟨a3,b3⟩:=he a2 e3
  exact ⟨a3,xO hT lv i hl hi h0 b1 b2 b3⟩
 rw [if_neg h0] at h
 by_cases h1:(dm T i).t=vR∨(dm T i).t=kX
 ·rw [if_pos h1] at h
  simp only [Option.bind_eq_bind,Option.bind_eq_some_iff,Option.pure_def] at h
  obtain ⟨⟨c,j1⟩,e1,⟨x,j2⟩,e2,h⟩:=h
  obtain ⟨a1,b1⟩:=hx htl e1
  obtain ⟨a2,b2⟩:=hb a1 e2
  simp only at h
  by_cases hw:(dm T i).t=kX
  ·rw [if_pos hw] at h
   obtain rfl:=Option.some.inj h
   exact ⟨a2,CG hT lv i hl hi hw b1 b2⟩
  rw [if_neg hw] at h
  have hf:=h1.resolve_right hw
  by_cases hel:(dm T j2).t=sF
  ·rw [if_pos hel] at h
   simp only [Option.bind_eq_some_iff,Option.some.injEq] at h
   obtain ⟨⟨y,j3⟩,e3,rfl⟩:=h
   obtain ⟨a3,b3⟩:=hb (ek a2) e3
   exact ⟨a3,zt hT lv i hl hi hf b1 b2 a2 hel b3⟩
  rw [if_neg hel] at h
  obtain rfl:=Option.some.inj h
  exact ⟨a2,Kc hT lv i hl hi hf b1 b2 a2 hel⟩
 rw [if_neg h1] at h
 by_cases h2:(dm T i).t=qJ
 ·rw [if_pos h2] at h
  simp only [Option.bind_eq_bind,Option.bind_eq_some_iff,Option.pure_def,Option.some.injEq] at h
  obtain ⟨⟨x,j1⟩,e1,j2,e2,⟨k,j3⟩,e3,j4,e4,⟨y,j5⟩,e5,j6,e6,⟨z,j7⟩,e7,j8,e8,rfl⟩:=h
  obtain ⟨a1,b1⟩:=hx htl e1
  obtain ⟨a2,b2⟩:=he a1 e2
  obtain ⟨a3,b3⟩:=hn ab a2 e3
  obtain ⟨a4,b4⟩:=he a3 e4
  obtain ⟨a5,b5⟩:=hx a4 e5
  obtain ⟨a6,b6⟩:=he a5 e6
  obtain ⟨a7,b7⟩:=hx a6 e7
  obtain ⟨a8,b8⟩:=he a7 e8
  exact ⟨a8,EK hT lv i hl hi h2 b1 b2 b3 b4 b5 b6 b7 b8⟩
 rw [if_neg h2] at h
 by_cases h3:(dm T i).t=ik
 ·rw [if_pos h3] at h
  simp only [Option.bind_eq_bind,Option.bind_eq_some_iff,Option.pure_def,Option.some.injEq] at h
  obtain ⟨⟨k,j1⟩,e1,j2,e2,rfl⟩:=h
  obtain ⟨a1,b1⟩:=hn ab htl e1
  obtain ⟨a2,b2⟩:=he a1 e2
  exact ⟨a2,Cq hT lv i hl hi h3 b1 b2⟩
 rw [if_neg h3] at h
 by_cases h4:(dm T i).t=lR
 ·rw [if_pos h4] at h
  simp only [Option.bind_eq_bind,Option.bind_eq_some_iff,Option.pure_def,Option.some.injEq] at h
  obtain ⟨⟨k,j1⟩,e1,j2,e2,rfl⟩:=h
  obtain ⟨a1,b1⟩:=hn ab htl e1
  obtain ⟨a2,b2⟩:=he a1 e2
  exact ⟨a2,yz hT lv i hl hi h4 b1 b2⟩
 rw [if_neg h4] at h
 by_cases h5:(dm T i).t=ng
 ·rw [if_pos h5] at h
  simp only [Option.bind_eq_bind,Option.bind_eq_some_iff,Option.pure_def,Option.some.injEq] at h
  obtain ⟨⟨x,j1⟩,e1,j2,e2,⟨y,j3⟩,e3,j4,e4,rfl⟩:=h
  obtain ⟨a1,b1⟩:=hx htl e1
  obtain ⟨a2,b2⟩:=he a1 e2
  obtain ⟨a3,b3⟩:=hx a2 e3
  obtain ⟨a4,b4⟩:=he a3 e4
  exact ⟨a4,Ch hT lv i hl hi h5 b1 b2 b3 b4⟩
 rw [if_neg h5] at h
 by_cases h6:(dm T i).t=qY
 ·rw [if_pos h6] at h
  simp only [Option.bind_eq_bind,Option.bind_eq_some_iff,Option.pure_def,Option.some.injEq] at h
  obtain ⟨⟨x,j1⟩,e1,j2,e2,rfl⟩:=h
  obtain ⟨a1,b1⟩:=hx htl e1
  obtain ⟨a2,b2⟩:=he a1 e2
  exact ⟨a2,ER hT lv i hl hi h6 b1 b2⟩
 rw [if_neg h6] at h
 by_cases h7:(dm T i).t=qQ
 ·rw [if_pos h7] at h
  simp only [Option.bind_eq_bind,Option.bind_eq_some_iff,Option.pure_def,Option.some.injEq] at h
  obtain ⟨j1,e1,rfl⟩:=h
  obtain ⟨a1,b1⟩:=he htl e1
  exact ⟨a1,Ff hT lv i hl hi h7 b1⟩
 rw [if_neg h7] at h
 by_cases h8:(dm T i).t=qG
 ·rw [if_pos h8] at h
  simp only [Option.bind_eq_bind,Option.bind_eq_some_iff,Option.pure_def,Option.some.injEq] at h
  obtain ⟨j1,e1,rfl⟩:=h
  obtain ⟨a1,b1⟩:=he htl e1
  exact ⟨a1,Fe hT lv i hl hi h8 b1⟩
 rw [if_neg h8] at h
 cases h
theorem GV (hT:T.length≤100000): ∀ f,f≤2000000→ ∀ g,g≤f→PS T N g:=by
 intro f
 induction f with
 | zero=>
  intro _ g hg
  obtain rfl:g=0:=by omega
  exact ⟨fun _ _ _ _ _ h=> by simp [yE] at h,fun _ _ _ _ _ h=> by simp [rf] at h⟩
 | succ f ih=>
  intro hf g hg
  rcases Nat.lt_or_ge g (f+1) with h | h
  ·exact ih ab g ab
  obtain rfl:g=f+1:=by omega
  exact ⟨DB hT f (ih ab f (Nat.le_refl _)),Cf hT f ab (ih ab)⟩
theorem wr (hT:T.length≤100000) {f i:Nat} {r:Nd×Nat} (hf:f≤2000000) (hi:i < T.length) (h:rf T f 1 i=some r):r.2 < T.length∧Spec Tryz.prog 164 (aY [.ptr (0,9) 0, .v (.int .i64 1)] (dZ T i N)) (PO T N r):=
 (GV hT f hf f (Nat.le_refl _)).blk 1 i r ab hi h
end

class MthV (P:Program) (t:TypeId) (name:String) (f e:outParam TypeId):Prop where
 out: ∀ (ad:Addr) (w:World),(method (P.types.size+Made.depth) t (.pointer (some ad)) name).run P w=((loadVar e ad).run P w).andThen fun v w'=> .ok (f,v) w'
theorem uH {P:Program} {t:TypeId} {ad:Addr} {nm:String} {w:World}:(Builtin.ssaWrapNilChk_ #[t] t #[.pointer (some ad),strVal "",strVal nm]).run P w= .ok (.pointer (some ad)) w:=rfl
theorem Ad {P:Program} {n:Nat} {t e f:TypeId} {name:String} {i:TypeInfo} {m:Method} {ad:Addr} {w:World} (hi:P.info? t=some i) (hfind:i.methods.find? (·.name==name)=some m) (hpath:m.path= #[]) (hfunc:m.func=some (f,false))
  (hu:P.underlying t=some (.pointer e)):(method (n+1) t (.pointer (some ad)) name).run P w=((loadVar e ad).run P w).andThen fun v w'=> .ok (f,v) w':=by
 have h1:(typeInfo t).run P w= .ok i w:=by simp [typeInfo,Sem.run,hi]
 have h2:(underlying t).run P w= .ok (.pointer e) w:=by simp [underlying,Sem.run,hu]
 simp only [method,Sem.run_bind,h1,Result.andThen_ok,hfind,hpath,hfunc,follow,Sem.run_pure,receiverAt,h2,Place.get]
 simp only [Array.isEmpty_empty,if_true,Sem.run_bind,uH,Result.andThen_ok,asAddr,Sem.run_pure]
def GC (P:Program) (t:TypeId) (name:String):Option (TypeId×TypeId):=
 match P.info? t with
 | some i=> match i.methods.find? (·.name==name) with
  | some m=> match m.path.isEmpty,m.func,P.underlying t with
   | true,some (f,false),some (.pointer e)=> some (f,e)
   | _,_,_=> none
  | none=> none
 | none=> none
theorem MthV.of {P:Program} {t e f:TypeId} {name:String} (h:GC P t name=some (f,e)):MthV P t name f e:=by
 refine ⟨fun ad w=> ?_⟩
 obtain ⟨n,hn⟩: ∃ n,P.types.size+Made.depth=n+1:=⟨_,rfl⟩
 rw [hn]
 unfold GC at h
 split at h
 ·rename_i i hi
  split at h
  ·rename_i m hm
   split at h
   ·rename_i f' e' hp hf hu
    cases h
    exact Ad hi hm (by simpa using hp) hf hu
   cases h
  cases h
 cases h
section
variable {P:Program} {σ:St} {o:Oper} {t:TypeId} {name:String} {f:FuncId} {x:Operand} {xs:Array Operand} {ats:Array TypeId}
end
section
variable {P:Program} {σ:St} {dd:Option Tmp} {op:Op} {ty:TypeId} {f:FuncId} {avs:List AV}
end
theorem Le.incT {σ:St} (id:aC) (h:σ.ob id= .free):Le (σ.setInc id true) σ:=by
 intro K ι S a w R
 refine ⟨ι,S,R.keeps,R.S0,R.Slt,R.nt,R.df,R.fr,R.cl,R.clo,R.ob,R.dom,R.inj,fun i B g h1 h2=> ?_,R.pin,R.pf⟩
 obtain ⟨h3,h4,h5⟩:=R.sep i B g h1 h2
 refine ⟨h3,h4,fun h6=> h5 ?_⟩
 have h7:(bif gL i id then true else σ.inc i)=false:=h6
 cases hb:gL i id with
 | true=> rw [hb] at h7;cases h7
 | false=> rw [hb] at h7;exact h7
theorem mH {P:Program} {σ:St} {z:List Value} {T e:TypeId} {size bytes:Nat} {dd:Option Tmp} {ty:TypeId} (id':aC) (s x:Operand) (E:Elem P T e size bytes z) {id:aC} {n:Nat} {xs:List PV} (hs:σ.eval s= .ref id 0 n) (hid:σ.ob id= .obj (.row e size xs)) (hl:n*size=xs.length) {m:Nat} {news:List PV} (hx:SrcAV σ (σ.eval x) size m news) (hb:(n+m)*bytes≤140737488355328) (hid':σ.ob id'= .free)
  {b:Bool} (hi:σ.inc id=b) (hi':σ.inc id'=b) {ys:List PV} (hy:xs++news=ys) {k:Nat} (hk:n+m=k):Stp P dd (.call { callee:= .builtin .append,args:= #[s,x],argTypes:= #[T,T] }) ty σ (((σ.setOb id .gone).setOb id' (.obj (.row e size ys))).put dd (.ref id' 0 k)):=by
 have h:=du (P:=P) (dd:=dd) (ty:=ty) id' s x E hs hid hl hx hb hid' hy hk
 rwa [hi,St.setInc_same (by exact hi')] at h

theorem mZ {T:List Tk} {f:Nat} {seen:List Tx} {i:Nat} {r:List Tx×Nat} (h:gV T f seen i=some r): ∃ g,f=g+1∧eD T i=true∧(dm T i).t∉seen∧seen.length < 16∧
  ((dm T (bK T i)).t=[44]∧(∃ l j,gV T g (seen++[(dm T i).t]) (bK T (bK T i))=some (l,j)∧r=((dm T i).t::l,j))∨(dm T (bK T i)).t≠[44]∧ ∃ j,gM T [59] (bK T i)=some j∧r=([(dm T i).t],j)):=by
 cases f with
 | zero=> simp [gV] at h
 | succ g=>
  refine ⟨g,rfl,?_⟩
  unfold gV at h
  split at h
  ·cases h
  rename_i hn
  refine ⟨?_,fun hm=> hn (.inr (.inl hm)),Nat.lt_of_not_le fun hl=> hn (.inr (.inr hl)),?_⟩
  ·cases hb:eD T i with
   | true=> rfl
   | false=> exact absurd (.inl hb) hn
  split at h
  ·rename_i ht
   simp only [Option.bind_eq_bind,Option.bind_eq_some_iff,Option.pure_def] at h
   obtain ⟨⟨l,j⟩,hl,h⟩:=h
   exact .inl ⟨ht,l,j,hl,(Option.some.inj h).symm⟩
  rename_i ht
  simp only [Option.bind_eq_bind,Option.bind_eq_some_iff,Option.pure_def] at h
  obtain ⟨j,hj,h⟩:=h
  exact .inr ⟨ht,j,hj,(Option.some.inj h).symm⟩
section
variable {T:List Tk}
theorem rF (hT:T.length≤100000) (f:Nat) (N:List Tx) (i0:Nat) (hi:i0 < T.length) (r:List Tx×Nat) (h:gV T f N (bK T i0)=some r):
  r.2 < T.length∧N.length+r.1.length≤16∧Spec Tryz.prog 161 (aY [.ptr (0,9) 0] (EA T i0 N))
   (bb (.sl r.1.length (fm r.1)) [((0,9), .box 222 [.sl T.length (sP T), .v (.int .i64 (r.2:Int)), .v (.int .i64 0), .v (.int .i64 0), .ref (1,8) 0 (N++r.1).length]),((1,8), .row 9 1 (fm (N++r.1)))] [(0,9),(1,8)] [(0,9)]):=by
 have htl:=ek hi
 have hend: ∀ (g:Nat) (seen:List Tx) (i:Nat) (r:List Tx×Nat),i < T.length→gV T g seen i=some r→r.2 < T.length∧seen.length+r.1.length≤16:=by
  intro g
  induction g with
  | zero=> intro seen i r _ h;simp [gV] at h
  | succ g ihg=>
   intro seen i r hi h
   obtain ⟨g',hg',_,_,hs,⟨_,l,j,hl,rfl⟩ | ⟨_,j,hj,rfl⟩⟩:=mZ h
   ·obtain rfl:g=g':=by omega
    obtain ⟨h1,h2⟩:=ihg _ _ _ (ek (ek hi)) hl
    simp only [List.length_append,List.length_cons,List.length_nil] at h2 ⊢
    exact ⟨h1,by omega⟩
   exact ⟨jK hj (ek hi),by simp;omega⟩
 obtain ⟨ha,hb⟩:=hend f N _ r htl h
 refine ⟨ha,by omega,?_⟩
 have hNl:N.length < 16:=by obtain ⟨_,_,_,_,hs,_⟩:=mZ h;exact hs
 refine Spec.ofNI Tryz.func161 rfl Tryz.ntmps161 rfl ?_
 refine am (ai (bq _ fG) (aj (am (ai (te (3,0) _ 9 1 rfl rfl) ?_))))
 refine aj (am (bS rfl (ai (dX aa [] ar (kG T i0 N hi hT) ob tr ae) ?_)))
 refine aj (aU fun K4 hK4=> ?_)
 refine ay ?_
 refine br (α:=Nat×List Tx×Nat) (fun z=> (N++z.2.1).length≤16∧z.2.1.length≤16∧z.2.2 < T.length∧ ∃ l,gV T z.1 (N++z.2.1) z.2.2=some (l,r.2)∧r.1=z.2.1++l) 76 [(0,_)] [] (fun z=> [(3, .ref (3,0) 0 z.2.1.length)]) (fun z=> [((0,9), .box 222 [.sl T.length (sP T), .v (.int .i64 (z.2.2:Int)), .v (.int .i64 0), .v (.int .i64 0), .ref (1,9) 0 (N++z.2.1).length]),((1,9), .row 9 1 (fm (N++z.2.1))),((3,0), .row 9 1 (fm z.2.1))]) [(0,9),(1,9)] [(0,9)] (fun z=> z.1) (f,[],bK T i0) ?_ (by
  refine Le.mkJ [] [] rfl ?_ ?_ trivial tr ?_
  ·exact ⟨(iP rfl),(cO rfl ag),trivial⟩
  ·exact ⟨(fq rfl rfl rfl rfl (au (jc ag ag) (nU (nU (nU (au (cO rfl (by (simp only [List.append_nil]))) bf)))))),(fi rfl rfl rfl (by (simp only [List.append_nil]))),(fi rfl rfl rfl ag),trivial⟩
  kernel_rfl) ?_
 ·exact ⟨by simp;omega,Nat.zero_le _,htl,r.1,by rw [List.append_nil];exact h,rfl⟩
 intro z hz
 obtain ⟨z1,z2,z3⟩:=z
 obtain ⟨hz1,hz2,hz3,l,hz4,hz5⟩:=hz
 obtain ⟨g,rfl,hn,hs,hsl,hm⟩:=mZ hz4
 simp only at hz1 hz2 hz3 hz5 hn hs hsl hm ⊢
 have htz:=ek hz3
 have hl1:(z2++[(dm T z3).t]).length=z2.length+1:=by simp
 have hl2:(N++(z2++[(dm T z3).t])).length=(N++z2).length+1:=by simp;omega
 have ha2:fm (N++z2)++[PV.v (bt (dm T z3).t)]=fm (N++(z2++[(dm T z3).t])):=by rw [nN,List.append_assoc]
 refine aq (am (bS rfl (ai (aT _ rfl rfl) (bc rfl rfl rfl (cd rfl rfl rfl (kv rfl rfl rfl (aj (bL rfl rfl (aS (ay ?_))))))))))
 refine aq (am (bS rfl (ai (bu aa _ _ ar (vL T z3 (N++z2) hz3) tr rfl ae (by simp)) ?_)))
 refine ai (cg (r:=false) _ rfl (by rw [hn];rfl)) ?_
 refine aj (aW rfl rfl (aq ?_))
 refine aL (σ':=aD 76 [(0,_),(3,_)] [((0,9),_),((1,9),_),((3,0),_)] [(0,9),(1,9)] [(0,9)]) kp ?_
 refine bJ 7 [20,21,22,23,24,25,26] [] ae ae rfl (aK rfl) (rfl:_=[_,_,_,_,_,_,_]) (rfl:_=[]) ?_
 refine ap (_,[]) (fun τ=> aI _ ca) ?_
 refine fD rfl ?_
 refine ap (_,[]) (fun τ=> aT _ rfl rfl) ?_
 refine fF rfl ?_
 refine ap (_,[]) (fun τ=> aA _ aa rfl rfl rfl) ?_
 refine fE rfl ?_
 refine ap (_,[]) (fun τ=> aF _ aa rfl rfl eQ) ?_
 refine fS rfl ?_
 refine ap (_,[]) (fun τ=> aI _ ca) ?_
 refine gf rfl ?_
 refine ap (_,[]) (fun τ=> (bu aa _ _ ar (fe T z3 (N++z2) hz3) tr rfl ae (by simp))) ?_
 refine gS rfl ?_
 refine ap (_,[]) (fun τ=> (zm aa aw (cI (N++z2) _ rfl ab (dm T z3).t) rfl)) ?_
 refine ir rfl (bj ⟨rfl,?_⟩)
 refine aj (aW rfl (decide_eq_false hs) ?_)
 refine am (bS rfl (ai (aT _ rfl rfl) (bc rfl rfl rfl (ai (aF _ aa rfl rfl eQ) (ai (dh _ aa rfl rfl) (ai (fu _ _ rfl rfl rfl) (aj (aW rfl (decide_eq_false ab) ?_))))))))
 refine aS (aq (am (bS rfl (ai (aT _ rfl rfl) (bc rfl rfl rfl (cd rfl rfl rfl (ai (bU (r:=false) _ _ rfl rfl rfl) (aj (aW rfl rfl (aS ?_))))))))))
 refine aq ?_
 refine aL (σ':=aD 76 [(0,_),(3,_)] [((0,9),_),((1,9),_),((3,0),_)] [(0,9),(1,9)] [(0,9)]) kp ?_
 refine an (gJ rfl (bS rfl (ai (bu aa _ _ ar (fe T z3 (N++z2) hz3) tr rfl ae (by simp)) ?_)))
 refine ai (bg _ _ aa rfl ag (by (simp <;> rfl)) ah rfl) ?_
 refine ai (du (54,0) _ _ aa rfl rfl (by simp) (.sl rfl) ab rfl (nN _ _) hl1.symm) ?_
 refine fj rfl (aj (aq ?_))
 refine aL (σ':=aD 76 [(0,_),(3,_)] [((0,9),_),((1,9),_),((54,0),_)] [(0,9),(1,9)] [(0,9)]) kp ?_
 refine aL (Le.incT (63,0) rfl) ?_
 refine ia 9 [55,56,57,58,59,60,61,62,63] [(1,9),(63,0)] [[],[],[],[(1,9)],[(1,9)],[(1,9)],[(1,9)],[(1,9)],[]] ae ae rfl (aK rfl) (rfl:_=[_,_,_,_,_,_,_,_,_]) (rfl:_=[_,_,_]) ?_
 refine ap (_,[]) (fun τ=> aI _ ca) ?_
 refine fD rfl ?_
 refine ap (_,[]) (fun τ=> aI _ ca) ?_
 refine fF rfl ?_
 refine ap (_,[]) (fun τ=> aT _ rfl rfl) ?_
 refine fE rfl ?_
 refine ap (_,[]) (fun τ=> aA _ aa rfl rfl rfl) ?_
 refine fS rfl ?_
 refine ap (_,[]) (fun τ=> aF _ aa rfl rfl eQ) ?_
 refine gf rfl ?_
 refine ap (_,[]) (fun τ=> aI _ ca) ?_
 refine gS rfl ?_
 refine ap (_,[]) (fun τ=> (bu aa _ _ ar (fe T z3 (N++z2) hz3) tr rfl ae (by simp))) ?_
 refine ir rfl ?_
 refine ap (_,[]) (fun τ=> bg _ _ aa rfl ag (by (simp <;> rfl)) ah rfl) ?_
 refine jE rfl ?_
 refine ap (_,[((1,9), .gone),((63,0),_)]) (fun τ=> mH (b:=true) (63,0) _ _ aa rfl (eE rfl (by exact dM) rfl) (by simp) (.sl rfl) ab rfl rfl rfl ha2 hl2.symm) ?_
 refine jU rfl (bj ⟨⟨rfl,by kernel_rfl⟩,?_⟩)
 refine ai (aT _ rfl rfl) (bc rfl rfl rfl (bG rfl rfl rfl rfl rfl rfl (aj (aU fun K15 hK15=> ?_))))
 refine aL (σ':=aD 76 [(0,_),(3,_)] [((0,9), .box _ [_,_,_,_, .ref (1,9) _ _]),((54,0),_),((1,9),_)] [(0,9),(1,9)] [(0,9)]) (by
  refine Le.mkJ [((1,9),(63,0))] [] rfl ?_ ?_ trivial tr ?_
  ·exact ⟨(Jb [(0,9),(54,0)] rfl ca rfl),(Jb [(0,9),(54,0)] rfl dU rfl),trivial⟩
  ·exact ⟨(fq rfl rfl rfl rfl (au (by exact Jb [(0,9),(54,0)] rfl nD rfl) (au (by exact Jb [(0,9),(54,0)] rfl kL rfl) (au (by exact Jb [(0,9),(54,0)] rfl kL rfl) (au (by exact Jb [(0,9),(54,0)] rfl kL rfl) lz))))),(fi rfl rfl rfl rfl),(fi rfl rfl rfl rfl),trivial⟩
  kernel_rfl) ?_
 refine an (bS rfl (ai (dX aa [] ar (kG T z3 (N++(z2++[(dm T z3).t])) hz3 hT) ob tr ae) ?_))
 refine aJ (hK15 _ ?_)
 clear hK15;try clear K15
 refine aU fun K16 hK16=> ?_
 refine am (bS rfl (ai (bu aa _ _ ar (fe T (bK T z3) (N++(z2++[(dm T z3).t])) htz) tr rfl ae (by simp)) ?_))
 refine ai (sK _ _ Tryz.underlying9 rfl rfl rfl) (aj (aR rfl (fun hc70=> ?_) (fun hc70=> ?_)))
 ·skip
  obtain ⟨_,j,hj,hr⟩:=hm.resolve_left fun x=> hc70 x.1
  obtain ⟨rfl,rfl⟩:=Prod.mk.inj hr
  have hexp:=tn T (bK T z3) r.2 (N++(z2++[(dm T z3).t])) [59] htz hT hj
  refine bB (id (hK4 _ ?_))
  clear hK4;try clear K4
  refine am (bS rfl (ai (dX aa [] ar (hexp) ob tr ae) ?_))
  exact aj (am (gJ rfl (fj rfl (aj (aG (bH (.inr rfl) rfl (.tmp dU) (Le.outI [((1,8),(1,9))] [(54,0)] (by rw [hz5];exact fg rfl rfl (by simp) rfl) rfl rfl rfl tr ⟨⟨rfl,⟨_,rfl, .box rfl (au .sl (au .v (au .v (au .v (au (cO rfl (by rw [hz5])) bf)))))⟩,rfl⟩,⟨rfl,⟨_,rfl, .rowE (by rw [hz5])⟩,rfl⟩,trivial⟩ tr rfl)))))))
 obtain ⟨_,l',j',hd',hr⟩:=hm.resolve_right fun x=> x.1 hc70
 obtain ⟨rfl,rfl⟩:=Prod.mk.inj hr
 refine bs (hK16 _ ?_)
 clear hK16;try clear K16
 refine an (bS rfl (ai (dX aa [] ar (kG T (bK T z3) (N++(z2++[(dm T z3).t])) htz hT) ob tr ae) ?_))
 refine aJ (⟨(g,z2++[(dm T z3).t],bK T (bK T z3)),?_,?_,?_⟩)
 ·exact ⟨by simp only [hl2];omega,by simp only [hl1];simp only [List.length_append] at hsl;omega,ek htz,l',by rw [← List.append_assoc];exact hd',by rw [hz5];simp⟩
 ·skip
  refine Le.mkJ [((3,0),(54,0))] [] rfl ?_ ?_ trivial tr ?_
  ·exact ⟨(dH (id:=(0,9)) rfl),(cO rfl ag),trivial⟩
  ·exact ⟨(fq rfl rfl rfl rfl lz),(fi rfl rfl rfl ag),(fi rfl rfl rfl ag),trivial⟩
  kernel_rfl
 simp only;omega
end

abbrev Hd:=Nat×Nd
def wN (h:Hd):List PV:= .v (.int .i64 (h.1:Int))::h.2.row
def mq (l:List Hd):List PV:=l.flatMap wN
theorem bz (l:List Hd):(mq l).length=l.length*5:=iL wN 5 (fun _=> rfl) l
def oG (l:List Hd) (k:Nat):Hd:=l.getD k (0,⟨0,0,[],0,[]⟩)
theorem oI (l:List Hd) (k:Nat) (h:k < l.length):oG l k=l[k]:=by simp [oG,h]
theorem jX (l:List Hd) (k:Nat) (h:k < l.length):(mq l)[k*5]? =some (.v (.int .i64 ((oG l k).1:Int))):=by
 rw [oI l k h];exact kR wN 5 (fun _=> rfl) l k 0 h ab
theorem Di (l:List Hd) (k:Nat) (h:k < l.length):PV.ups (((mq l).drop (k*5)).take 5)=[.v (.int .i64 ((oG l k).1:Int)), .v (.int .i64 ((oG l k).2.k:Int)), .v (.int .i64 ((oG l k).2.n:Int)), .v (bt (oG l k).2.s), .sl (oG l k).2.kn (oG l k).2.kids]:=by
 rw [oI l k h,show ((mq l).drop (k*5)).take 5=wN l[k] from mA wN 5 (fun _=> rfl) l k h];rfl
theorem qw (l:List Hd) (h:Hd):mq l++wN h=mq (l++[h]):=jJ wN l h
theorem wZ (l m:List Hd):mq l++mq m=mq (l++m):=AE wN l m
theorem we (l:List Hd) (k:Nat) (h:k < l.length):l.take k++[oG l k]=l.take (k+1):=by rw [oI l k h,List.take_succ_eq_append_getElem h]
def KK:List Tx:=[nT,jW,ik,ki]
section
variable {T:List Tk} {N:List Tx}
theorem CO (hT:T.length≤100000) (i:Nat) (hi:i < T.length) (ht:(dm T i).t=nT) (l:List Hd) (hl:l.length≤100000) (hno: ∀ k,k < l.length→(oG l k).1≠0):
  Spec Tryz.prog 163 (aY [.ptr (0,9) 0, .sl l.length (mq l)] (dZ T i N)) (bb (.v (.int .i64 ((0:Nat):Int))) (dZ T (bK T i) N) [(0,9)] [(0,9)]):=by
 have hnx:=bQ T i N hi
 rw [ht] at hnx
 refine Spec.ofNI Tryz.func163 rfl Tryz.ntmps163 rfl ?_
 refine am (be rfl (aj (am (bS rfl (ai (aT _ rfl rfl) (bc rfl rfl rfl (cd rfl rfl rfl (be rfl (aj (am ?_))))))))))
 refine bS rfl (ai (bu aa _ _ ar (hnx) tr rfl ae (by simp)) ?_)
 refine oV rfl (aj (am (be rfl (aj (aq (am (ai (bg _ _ aa rfl ag (by (simp <;> rfl)) ah rfl) ?_)))))))
 refine ei rfl (ai (aH aa al (cI KK 4 rfl ab nT) rfl rfl) ?_)
 refine ai (cg (r:=false) _ rfl rfl) (aj (aW rfl rfl (aS (am (bS rfl (ai (bV (cC T i N hi hT)) ?_))))))
 refine aj (aq (aq ?_))
 refine aL (σ':=aD 56 [(0,_),(1,_),(5,_),(6,_),(7,_)] [((0,9),_)] [(0,9)] [(0,9)]) kp ?_
 refine an (ei rfl (ai (aV (r:=false) _ _ Tryz.underlying9 rfl rfl rfl) (aj (aW rfl rfl (aS (aq (am (ei rfl (ai (aV (r:=false) _ _ Tryz.underlying9 rfl rfl rfl) (aj ?_))))))))))
 refine aW rfl rfl (aS (aq (am (ei rfl (ai (aV (r:=false) _ _ Tryz.underlying9 rfl rfl rfl) (aj (aW rfl rfl (aS (aU fun K14 hK14=> ?_)))))))))
 refine am (be rfl (aj (ay ?_)))
 refine br (α:=Nat) (fun k=> k≤l.length) 56 [(0,_),(1,_),(5,_),(7,_)] [((0,9),_)] (fun k=> [(8, .v (.int .i64 (k:Int)))]) (fun k=> []) [(0,9)] [(0,9)] (fun k=> l.length - k) 0 ?_ (by
  refine Le.mkJ [] [] rfl ?_ ?_ trivial tr ?_
  ·exact ⟨(iP rfl),(iS rfl),(iV rfl),(iV rfl),(cp ag),trivial⟩
  ·exact ⟨(bM rfl rfl rfl),trivial⟩
  kernel_rfl) ?_
 ·omega
 intro k hk
 refine aU fun K16 hK16=> ?_
 refine am (aX rfl (eV rfl (ai (bn _ aa rfl) (ai (bm _ _ rfl rfl rfl) (aj (aR rfl (fun hc42=> ?_) (fun hc42=> ?_)))))))
 ·skip
  refine bs (hK16 _ ?_)
  clear hK16;try clear K16
  refine aq (ay (am (eV rfl (aX rfl (ai (bp _ _ aa rfl rfl _ rfl ab (by (simp only [aO,bi,bl,bw,bv,bI,bz];omega)) ag) ?_)))))
  refine ai (dg _ aa rfl rfl) (ai (bO _ aa rfl (by exact jX _ _ ab) rfl) ?_)
  refine aX rfl (ai (bC _ _ rfl rfl rfl) (aj (aW rfl (by have:=hno k ab;exact beq_eq_false_iff_ne.2 ab) ?_)))
  refine cr (an (aX rfl (ai (aZ _ _ rfl rfl (bE ab)) ?_)))
  refine be rfl (aJ (⟨k+1,?_,?_,?_⟩))
  ·omega
  ·skip
   refine Le.mkJ [] [] rfl ?_ ?_ trivial tr ?_
   ·exact ⟨(iP rfl),(iS rfl),(iV rfl),(iV rfl),(cp ag),trivial⟩
   ·exact ⟨(bM rfl rfl rfl),trivial⟩
   kernel_rfl
  omega
 refine bB (id (hK14 _ ?_))
 clear hK14;try clear K14
 exact am (aX rfl (be rfl (aj (aG (bH (.inr rfl) rfl (.tmp eh) (Le.outI [] [] (cp ag) rfl rfl rfl trivial ob tr rfl))))))
theorem wF (hT:T.length≤100000) (i:Nat) (hi:i < T.length) (ht:(dm T i).t=jW) (l:List Hd) (hl:l.length≤100000) (hno: ∀ k,k < l.length→(oG l k).1≠1):
  Spec Tryz.prog 163 (aY [.ptr (0,9) 0, .sl l.length (mq l)] (dZ T i N)) (bb (.v (.int .i64 ((1:Nat):Int))) (dZ T (bK T i) N) [(0,9)] [(0,9)]):=by
 have hnx:=bQ T i N hi
 rw [ht] at hnx
 refine Spec.ofNI Tryz.func163 rfl Tryz.ntmps163 rfl ?_
 refine am (be rfl (aj (am (bS rfl (ai (aT _ rfl rfl) (bc rfl rfl rfl (cd rfl rfl rfl (be rfl (aj (am ?_))))))))))
 refine bS rfl (ai (bu aa _ _ ar (hnx) tr rfl ae (by simp)) ?_)
 refine oV rfl (aj (am (be rfl (aj (aq (am (ai (bg _ _ aa rfl ag (by (simp <;> rfl)) ah rfl) ?_)))))))
 refine ei rfl (ai (aH aa al (cI KK 4 rfl ab jW) rfl rfl) ?_)
 refine ai (cg (r:=false) _ rfl rfl) (aj (aW rfl rfl (aS (am (bS rfl (ai (bV (cC T i N hi hT)) ?_))))))
 refine aj (aq (aq ?_))
 refine aL (σ':=aD 56 [(0,_),(1,_),(5,_),(6,_),(7,_)] [((0,9),_)] [(0,9)] [(0,9)]) kp ?_
 refine an (ei rfl (ai (aV (r:=true) _ _ Tryz.underlying9 rfl rfl rfl) (aj (bL rfl rfl (an (be rfl (aj (aq (am (ei rfl ?_))))))))))
 refine ai (aV (r:=false) _ _ Tryz.underlying9 rfl rfl rfl) (aj (aW rfl rfl (aS (aq (am (ei rfl (ai (aV (r:=false) _ _ Tryz.underlying9 rfl rfl rfl) (aj (aW rfl rfl (aS ?_))))))))))
 refine aU fun K14 hK14=> ?_
 refine am (be rfl (aj (ay ?_)))
 refine br (α:=Nat) (fun k=> k≤l.length) 56 [(0,_),(1,_),(5,_),(7,_)] [((0,9),_)] (fun k=> [(8, .v (.int .i64 (k:Int)))]) (fun k=> []) [(0,9)] [(0,9)] (fun k=> l.length - k) 0 ?_ (by
  refine Le.mkJ [] [] rfl ?_ ?_ trivial tr ?_
  ·exact ⟨(iP rfl),(iS rfl),(iV rfl),(iV rfl),(cp ag),trivial⟩
  ·exact ⟨(bM rfl rfl rfl),trivial⟩
  kernel_rfl) ?_
 ·omega
 intro k hk
 refine aU fun K16 hK16=> ?_
 refine am (aX rfl (eV rfl (ai (bn _ aa rfl) (ai (bm _ _ rfl rfl rfl) (aj (aR rfl (fun hc42=> ?_) (fun hc42=> ?_)))))))
 ·skip
  refine bs (hK16 _ ?_)
  clear hK16;try clear K16
  refine aq (ay (am (eV rfl (aX rfl (ai (bp _ _ aa rfl rfl _ rfl ab (by (simp only [aO,bi,bl,bw,bv,bI,bz];omega)) ag) ?_)))))
  refine ai (dg _ aa rfl rfl) (ai (bO _ aa rfl (by exact jX _ _ ab) rfl) ?_)
  refine aX rfl (ai (bC _ _ rfl rfl rfl) (aj (aW rfl (by have:=hno k ab;exact beq_eq_false_iff_ne.2 ab) ?_)))
  refine cr (an (aX rfl (ai (aZ _ _ rfl rfl (bE ab)) ?_)))
  refine be rfl (aJ (⟨k+1,?_,?_,?_⟩))
  ·omega
  ·skip
   refine Le.mkJ [] [] rfl ?_ ?_ trivial tr ?_
   ·exact ⟨(iP rfl),(iS rfl),(iV rfl),(iV rfl),(cp ag),trivial⟩
   ·exact ⟨(bM rfl rfl rfl),trivial⟩
   kernel_rfl
  omega
 refine bB (id (hK14 _ ?_))
 clear hK14;try clear K14
 exact am (aX rfl (be rfl (aj (aG (bH (.inr rfl) rfl (.tmp eh) (Le.outI [] [] (cp ag) rfl rfl rfl trivial ob tr rfl))))))
theorem Cc (hT:T.length≤100000) (i:Nat) (hi:i < T.length) (ht:(dm T i).t=ik) (l:List Hd) (hl:l.length≤100000) {q j:Nat} (hq:q≤100) (h1:Spec Tryz.prog 200 (aY [.ptr (0,9) 0, .v (.int .i64 7)] (dZ T (bK T i) N)) (bb (.v (.int .i64 (q:Int))) (dZ T j N) [(0,9)] [(0,9)])) (hno: ∀ k,k < l.length→(oG l k).1≠(2+q)):
  Spec Tryz.prog 163 (aY [.ptr (0,9) 0, .sl l.length (mq l)] (dZ T i N)) (bb (.v (.int .i64 (((2+q):Nat):Int))) (dZ T j N) [(0,9)] [(0,9)]):=by
 have hnx:=bQ T i N hi
 rw [ht] at hnx
 refine Spec.ofNI Tryz.func163 rfl Tryz.ntmps163 rfl ?_
 refine am (be rfl (aj (am (bS rfl (ai (aT _ rfl rfl) (bc rfl rfl rfl (cd rfl rfl rfl (be rfl (aj (am ?_))))))))))
 refine bS rfl (ai (bu aa _ _ ar (hnx) tr rfl ae (by simp)) ?_)
 refine oV rfl (aj (am (be rfl (aj (aq (am (ai (bg _ _ aa rfl ag (by (simp <;> rfl)) ah rfl) ?_)))))))
 refine ei rfl (ai (aH aa al (cI KK 4 rfl ab ik) rfl rfl) ?_)
 refine ai (cg (r:=false) _ rfl rfl) (aj (aW rfl rfl (aS (am (bS rfl (ai (bV (cC T i N hi hT)) ?_))))))
 refine aj (aq (aq ?_))
 refine aL (σ':=aD 56 [(0,_),(1,_),(5,_),(6,_),(7,_)] [((0,9),_)] [(0,9)] [(0,9)]) kp ?_
 refine an (ei rfl (ai (aV (r:=false) _ _ Tryz.underlying9 rfl rfl rfl) (aj (aW rfl rfl (aS (aU fun K10 hK10=> ?_))))))
 refine am (ei rfl (ai (aV (r:=true) _ _ Tryz.underlying9 rfl rfl rfl) (aj (bL rfl rfl (an (bS rfl (ai (bV (h1)) (ai (aZ _ _ rfl rfl (bE ab)) ?_))))))))
 refine be rfl (aJ (hK10 _ ?_))
 clear hK10;try clear K10
 refine aq (am (ei rfl (ai (aV (r:=false) _ _ Tryz.underlying9 rfl rfl rfl) (aj (aW rfl rfl (aS (aU fun K14 hK14=> ?_)))))))
 refine am (be rfl (aj (ay ?_)))
 refine br (α:=Nat) (fun k=> k≤l.length) 56 [(0,_),(1,_),(5,_),(7,_)] [((0,9),_)] (fun k=> [(8, .v (.int .i64 (k:Int)))]) (fun k=> []) [(0,9)] [(0,9)] (fun k=> l.length - k) 0 ?_ (by
  refine Le.mkJ [] [] rfl ?_ ?_ trivial tr ?_
  ·exact ⟨(iP rfl),(iS rfl),(iV rfl),(iV rfl),(cp ag),trivial⟩
  ·exact ⟨(bM rfl rfl rfl),trivial⟩
  kernel_rfl) ?_
 ·omega
 intro k hk
 refine aU fun K16 hK16=> ?_
 refine am (aX rfl (eV rfl (ai (bn _ aa rfl) (ai (bm _ _ rfl rfl rfl) (aj (aR rfl (fun hc42=> ?_) (fun hc42=> ?_)))))))
 ·skip
  refine bs (hK16 _ ?_)
  clear hK16;try clear K16
  refine aq (ay (am (eV rfl (aX rfl (ai (bp _ _ aa rfl rfl _ rfl ab (by (simp only [aO,bi,bl,bw,bv,bI,bz];omega)) ag) ?_)))))
  refine ai (dg _ aa rfl rfl) (ai (bO _ aa rfl (by exact jX _ _ ab) rfl) ?_)
  refine aX rfl (ai (bC _ _ rfl rfl rfl) (aj (aW rfl (by have:=hno k ab;exact beq_eq_false_iff_ne.2 ab) ?_)))
  refine cr (an (aX rfl (ai (aZ _ _ rfl rfl (bE ab)) ?_)))
  refine be rfl (aJ (⟨k+1,?_,?_,?_⟩))
  ·omega
  ·skip
   refine Le.mkJ [] [] rfl ?_ ?_ trivial tr ?_
   ·exact ⟨(iP rfl),(iS rfl),(iV rfl),(iV rfl),(cp ag),trivial⟩
   ·exact ⟨(bM rfl rfl rfl),trivial⟩
   kernel_rfl
  omega
 refine bB (id (hK14 _ ?_))
 clear hK14;try clear K14
 exact am (aX rfl (be rfl (aj (aG (bH (.inr rfl) rfl (.tmp eh) (Le.outI [] [] (cp ag) rfl rfl rfl trivial ob tr rfl))))))
theorem wz (hT:T.length≤100000) (i:Nat) (hi:i < T.length) (ht:(dm T i).t=ki) (l:List Hd) (hl:l.length≤100000) {q j:Nat} (hq:q≤100) (h1:Spec Tryz.prog 200 (aY [.ptr (0,9) 0, .v (.int .i64 29)] (dZ T (bK T i) N)) (bb (.v (.int .i64 (q:Int))) (dZ T j N) [(0,9)] [(0,9)])) (hno: ∀ k,k < l.length→(oG l k).1≠(10+q)):
  Spec Tryz.prog 163 (aY [.ptr (0,9) 0, .sl l.length (mq l)] (dZ T i N)) (bb (.v (.int .i64 (((10+q):Nat):Int))) (dZ T j N) [(0,9)] [(0,9)]):=by
 have hnx:=bQ T i N hi
 rw [ht] at hnx
 refine Spec.ofNI Tryz.func163 rfl Tryz.ntmps163 rfl ?_
 refine am (be rfl (aj (am (bS rfl (ai (aT _ rfl rfl) (bc rfl rfl rfl (cd rfl rfl rfl (be rfl (aj (am ?_))))))))))
 refine bS rfl (ai (bu aa _ _ ar (hnx) tr rfl ae (by simp)) ?_)
 refine oV rfl (aj (am (be rfl (aj (aq (am (ai (bg _ _ aa rfl ag (by (simp <;> rfl)) ah rfl) ?_)))))))
 refine ei rfl (ai (aH aa al (cI KK 4 rfl ab ki) rfl rfl) ?_)
 refine ai (cg (r:=false) _ rfl rfl) (aj (aW rfl rfl (aS (am (bS rfl (ai (bV (cC T i N hi hT)) ?_))))))
 refine aj (aq (aq ?_))
 refine aL (σ':=aD 56 [(0,_),(1,_),(5,_),(6,_),(7,_)] [((0,9),_)] [(0,9)] [(0,9)]) kp ?_
 refine an (ei rfl (ai (aV (r:=false) _ _ Tryz.underlying9 rfl rfl rfl) (aj (aW rfl rfl (aS (aq (am (ei rfl (ai (aV (r:=false) _ _ Tryz.underlying9 rfl rfl rfl) (aj ?_))))))))))
 refine aW rfl rfl (aS (aU fun K12 hK12=> ?_))
 refine am (ei rfl (ai (aV (r:=true) _ _ Tryz.underlying9 rfl rfl rfl) (aj (bL rfl rfl (an (bS rfl (ai (bV (h1)) (ai (aZ _ _ rfl rfl (bE ab)) ?_))))))))
 refine be rfl (aJ (hK12 _ ?_))
 clear hK12;try clear K12
 refine aU fun K14 hK14=> ?_
 refine am (be rfl (aj (ay ?_)))
 refine br (α:=Nat) (fun k=> k≤l.length) 56 [(0,_),(1,_),(5,_),(7,_)] [((0,9),_)] (fun k=> [(8, .v (.int .i64 (k:Int)))]) (fun k=> []) [(0,9)] [(0,9)] (fun k=> l.length - k) 0 ?_ (by
  refine Le.mkJ [] [] rfl ?_ ?_ trivial tr ?_
  ·exact ⟨(iP rfl),(iS rfl),(iV rfl),(iV rfl),(cp ag),trivial⟩
  ·exact ⟨(bM rfl rfl rfl),trivial⟩
  kernel_rfl) ?_
 ·omega
 intro k hk
 refine aU fun K16 hK16=> ?_
 refine am (aX rfl (eV rfl (ai (bn _ aa rfl) (ai (bm _ _ rfl rfl rfl) (aj (aR rfl (fun hc42=> ?_) (fun hc42=> ?_)))))))
 ·skip
  refine bs (hK16 _ ?_)
  clear hK16;try clear K16
  refine aq (ay (am (eV rfl (aX rfl (ai (bp _ _ aa rfl rfl _ rfl ab (by (simp only [aO,bi,bl,bw,bv,bI,bz];omega)) ag) ?_)))))
  refine ai (dg _ aa rfl rfl) (ai (bO _ aa rfl (by exact jX _ _ ab) rfl) ?_)
  refine aX rfl (ai (bC _ _ rfl rfl rfl) (aj (aW rfl (by have:=hno k ab;exact beq_eq_false_iff_ne.2 ab) ?_)))
  refine cr (an (aX rfl (ai (aZ _ _ rfl rfl (bE ab)) ?_)))
  refine be rfl (aJ (⟨k+1,?_,?_,?_⟩))
  ·omega
  ·skip
   refine Le.mkJ [] [] rfl ?_ ?_ trivial tr ?_
   ·exact ⟨(iP rfl),(iS rfl),(iV rfl),(iV rfl),(cp ag),trivial⟩
   ·exact ⟨(bM rfl rfl rfl),trivial⟩
   kernel_rfl
  omega
 refine bB (id (hK14 _ ?_))
 clear hK14;try clear K14
 exact am (aX rfl (be rfl (aj (aG (bH (.inr rfl) rfl (.tmp eh) (Le.outI [] [] (cp ag) rfl rfl rfl trivial ob tr rfl))))))
theorem FV {l:List Hd} {n:Nat} (h:l.any (fun x=> decide (x.1=n))=false): ∀ k,k < l.length→(oG l k).1≠n:=fun k hk e=> by
 rw [List.any_eq_false] at h
 have:=h l[k] (List.getElem_mem hk)
 rw [oI l k hk] at e
 simp [e] at this
theorem tx (hT:T.length≤100000) (i:Nat) (hi:i < T.length) (l:List Hd) (hl:l.length≤100000) (r:Nat×Nat) (h:xk T i=some r) (hno:l.any (fun x=> decide (x.1=r.1))=false):
  r.2 < T.length∧r.1 < 40∧Spec Tryz.prog 163 (aY [.ptr (0,9) 0, .sl l.length (mq l)] (dZ T i N)) (bb (.v (.int .i64 (r.1:Int))) (dZ T r.2 N) [(0,9)] [(0,9)]):=by
 have htl:=ek hi
 have hn:=FV hno
 have hmost: ∀ {most i:Nat} {q:Nat×Nat},pC T most i=some q→q.1≤most:=fun h=> by
  unfold pC at h
  split at h
  ·rename_i hx;rw [← Option.some.inj h];exact hx.2
  cases h
 unfold xk at h
 by_cases h1:(dm T i).t=nT
 ·rw [if_pos h1] at h
  obtain rfl:=Option.some.inj h
  exact ⟨htl,by omega,CO hT i hi h1 l hl hn⟩
 rw [if_neg h1] at h
 by_cases h2:(dm T i).t=jW
 ·rw [if_pos h2] at h
  obtain rfl:=Option.some.inj h
  exact ⟨htl,by omega,wF hT i hi h2 l hl hn⟩
 rw [if_neg h2] at h
 by_cases h3:(dm T i).t=ik
 ·rw [if_pos h3] at h
  simp only [Option.bind_eq_bind,Option.bind_eq_some_iff,Option.pure_def,Option.some.injEq] at h
  obtain ⟨⟨q,j⟩,hq,rfl⟩:=h
  have hm:=hmost hq
  exact ⟨show (q,j).2 < T.length from tG hq htl,by simp only at hm ⊢;omega,Cc hT i hi h3 l hl (by simp only at hm;omega) (lP T _ N 7 htl hT ab _ hq) hn⟩
 rw [if_neg h3] at h
 by_cases h4:(dm T i).t=ki
 ·rw [if_pos h4] at h
  simp only [Option.bind_eq_bind,Option.bind_eq_some_iff,Option.pure_def,Option.some.injEq] at h
  obtain ⟨⟨q,j⟩,hq,rfl⟩:=h
  have hm:=hmost hq
  exact ⟨show (q,j).2 < T.length from tG hq htl,by simp only at hm ⊢;omega,wz hT i hi h4 l hl (by simp only at hm;omega) (lP T _ N 29 htl hT ab _ hq) hn⟩
 rw [if_neg h4] at h
 cases h
end
theorem xL {p:Hd→Bool} {l:List Hd} {k:Nat} (h: ∀ x∈l.take k,p x=true) (he:l.length≤k∨p (oG l k)=false):l.takeWhile p=l.take k∧l.dropWhile p=l.drop k:=by
 induction l generalizing k with
 | nil=> simp
 | cons a l ih=>
  cases k with
  | zero=>
   have:p a=false:=by
    rcases he with he | he
    ·simp at he
    simpa [oG] using he
   simp [this]
  | succ k=>
   have ha:p a=true:=h a (by simp)
   have:=ih (k:=k) (fun x hx=> h x (by simp [hx])) (by
    rcases he with he | he
    ·left;simpa using he
    right;simpa [oG] using he)
   simp [ha,this]
theorem Cv (l:List Hd) (hl:l.length≤100000) (h:Hd):
  Spec Tryz.prog 165 (ba [.sl l.length (mq l), .agg [.v (.int .i64 (h.1:Int)), .v (.int .i64 (h.2.k:Int)), .v (.int .i64 (h.2.n:Int)), .v (bt h.2.s), .sl h.2.kn h.2.kids]] []) (aP (.sl (pX l h).length (mq (pX l h))) []):=by
 refine Spec.ofN Tryz.func165 rfl Tryz.ntmps165 rfl ?_
 refine am (ai (aQ (3,0) _ rfl rfl) (ai (bq _ fG) (aj (am (ai (te (5,0) _ 73 5 rfl rfl) ?_)))))
 refine aj (am (be rfl (aj (aU fun K4 hK4=> ?_))))
 refine ay ?_
 refine br (α:=Nat) (fun k=> k≤l.length∧ ∀ x∈l.take k,decide (x.1 < h.1)=true) 39 [(0,_),(3,_)] [((3,0),_)] (fun k=> [(6, .v (.int .i64 (k:Int))),(5, .ref (5,0) 0 (l.take k).length)]) (fun k=> [((5,0), .row 73 5 (mq (l.take k)))]) [] [] (fun k=> l.length - k) 0 ?_ (by
  refine Le.mkJ [] [] rfl ?_ ?_ trivial trivial ?_
  ·exact ⟨(iS rfl),(iP rfl),(cp ag),(cO rfl ag),trivial⟩
  ·exact ⟨(bM rfl rfl rfl),(fi rfl rfl rfl ag),trivial⟩
  kernel_rfl) ?_
 ·exact ⟨Nat.zero_le _,by simp⟩
 intro k hk
 obtain ⟨hk,hall⟩:=hk
 have hlk:(l.take k).length=k:=by rw [List.length_take];omega
 refine aU fun K5 hK5=> ?_
 refine aU fun K6 hK6=> ?_
 refine bJ 14 [7,8,9,10,11,12,13,14,15,16,17,18,19,20] [] ae ae rfl (aK rfl) (rfl:_=[_,_,_,_,_,_,_,_,_,_,_,_,_,_]) (rfl:_=[]) ?_
 refine ap (_,[]) (fun τ=> aI _ eh) ?_
 refine fD rfl ?_
 refine ap (_,[]) (fun τ=> aI _ nD) ?_
 refine fF rfl ?_
 refine ap (_,[]) (fun τ=> bn _ aa rfl) ?_
 refine fE rfl ?_
 refine ap (_,[]) (fun τ=> bm _ _ rfl rfl rfl) ?_
 refine fS rfl ?_
 refine ap (_,[]) (fun τ=> aI _ bN) ?_
 refine oF (fun hg11=> ?_) (fun hg11=> ?_)
 ·skip
  refine gf rfl ?_
  refine bo (_,[]) rfl (fun τ=> rfl) (fun τ=> aI _ nD) ?_
  refine gS rfl ?_
  refine bo (_,[]) rfl (fun τ=> rfl) (fun τ=> aI _ eh) ?_
  refine ir rfl ?_
  refine bo (_,[]) rfl (fun τ=> rfl) (fun τ=> bp _ _ aa rfl rfl _ rfl ab (by (simp only [aO,bi,bl,bw,bv,bI,bz];omega)) ag) ?_
  refine jE rfl ?_
  refine bo (_,[]) rfl (fun τ=> rfl) (fun τ=> dg _ aa rfl rfl) ?_
  refine jU rfl ?_
  refine bo (_,[]) rfl (fun τ=> rfl) (fun τ=> bO _ aa rfl (by exact jX _ _ ab) rfl) ?_
  refine fy rfl ?_
  refine bo (_,[]) rfl (fun τ=> rfl) (fun τ=> aA _ aa rfl rfl rfl) ?_
  refine gd rfl ?_
  refine bo (_,[]) rfl (fun τ=> rfl) (fun τ=> aF _ aa rfl rfl ee) ?_
  refine jG rfl ?_
  refine bo (_,[]) rfl (fun τ=> rfl) (fun τ=> bm _ _ rfl rfl rfl) ?_
  refine kT rfl ?_
  refine ap (_,[]) (fun τ=> aE _ _ _ rfl bN) ?_
  refine mD rfl (bj ⟨rfl,?_⟩)
  refine aJ (hK6 _ ?_)
  clear hK6;try clear K6
  refine aR rfl (fun hc20=> ?_) (fun hc20=> ?_)
  ·skip
   have hs:=we l k ab
   have hlk1:(l.take (k+1)).length=(l.take k).length+1:=by rw [← hs];simp
   have hall1: ∀ x∈l.take (k+1),decide (x.1 < h.1)=true:=by
    rw [← hs]
    intro x hx
    rcases List.mem_append.1 hx with hx | hx
    ·exact hall x hx
    rw [List.mem_singleton.1 hx];exact decide_eq_true ab
   refine bs (hK5 _ ?_)
   clear hK5;try clear K5
   refine ay (am (gJ rfl (eV rfl (aX rfl (ai (bp _ _ aa rfl rfl _ rfl ab (by (simp only [aO,bi,bl,bw,bv,bI,bz];omega)) ag) ?_)))))
   refine ai (cf _ aa rfl (by exact Di _ _ ab) rfl) ?_
   refine ai (bg _ _ aa rfl ag (by (simp <;> rfl)) ah rfl) ?_
   refine ai (du (27,0) _ _ aa rfl rfl (bz _).symm (.sl rfl) ab rfl ((qw _ (oG l k)).trans (by rw [hs])) hlk1.symm) ?_
   refine fj rfl (aj ?_)
   refine aL (σ':=aD 39 [(0,_),(3,_),(5,_),(6,_)] [((3,0),_),((27,0),_)] [] []) kp ?_
   refine an (aX rfl (ai (aZ _ _ rfl rfl (bE ab)) ?_))
   refine be rfl (aJ (⟨k+1,?_,?_,?_⟩))
   ·exact ⟨by omega,hall1⟩
   ·skip
    refine Le.mkJ [((5,0),(27,0))] [] rfl ?_ ?_ trivial trivial ?_
    ·exact ⟨(by repeat' (exact Lv.sl)),(dH (id:=(3,0)) rfl),(cp ag),(cO rfl ag),trivial⟩
    ·exact ⟨(fq rfl rfl rfl rfl (by repeat' (first | exact Lv.v | exact Lv.sl | exact bf | refine au ?_ ?_))),(fi rfl rfl rfl ag),trivial⟩
    kernel_rfl
   omega
  have hf:=xL (p:=fun x=> decide (x.1 < h.1)) hall (.inr (decide_eq_false ab))
  refine bB (id (hK4 _ ?_))
  clear hK4;try clear K4
  refine am (gJ rfl (ai (az _ aa rfl rfl rfl rfl) (ai (bg _ _ aa rfl ag (by (simp <;> rfl)) ah rfl) ?_)))
  refine ai (du (33,0) _ _ aa rfl rfl (bz _).symm (.sl rfl) ab rfl (qw _ h) (show (l.take k).length+1=(l.take k++[h]).length by simp)) ?_
  refine fj rfl (aj (aq ?_))
  refine aL (σ':=aD 39 [(0,_),(5,_),(6,_)] [((33,0),_)] [] []) kp ?_
  refine an (gJ rfl (eV rfl (aX rfl (ai (kE _ _ _ aa rfl k l.length (.lit rfl rfl) .dflt hk (Nat.le_refl _) (show _=mq (l.drop k) by rw [show (mq l).drop (k*5)=mq (l.drop k) from pD wN 5 (fun _=> rfl) l k];exact List.take_of_length_le (by rw [bz,List.length_drop];exact Nat.le_refl _)) rfl) ?_))))
  refine ai (du (38,0) _ _ aa rfl rfl (bz _).symm (.sl (by rw [bz,List.length_drop])) (by simp;omega) rfl (wZ _ _) (show (l.take k++[h]).length+(l.length - k)=(l.take k++[h]++l.drop k).length by simp;omega)) ?_
  refine fj rfl (aj (aG ?_))
  have hfin:l.take k++[h]++l.drop k=pX l h:=by unfold pX;rw [hf.1,hf.2];simp
  exact bH (.inr rfl) rfl (.tmp dU) (Le.out [] [(38,0)] (by rw [← hfin];exact fg rfl rfl (bz _).symm rfl) rfl rfl rfl tr trivial)
 have hf:=xL (p:=fun x=> decide (x.1 < h.1)) hall (.inl ab)
 refine gf rfl ?_
 refine cj rfl (fun τ=> rfl) ah ?_
 refine gS rfl ?_
 refine cj rfl (fun τ=> rfl) ah ?_
 refine ir rfl ?_
 refine cj rfl (fun τ=> rfl) ah ?_
 refine jE rfl ?_
 refine cj rfl (fun τ=> rfl) ah ?_
 refine jU rfl ?_
 refine cj rfl (fun τ=> rfl) ah ?_
 refine fy rfl ?_
 refine cj rfl (fun τ=> rfl) ah ?_
 refine gd rfl ?_
 refine cj rfl (fun τ=> rfl) ah ?_
 refine jG rfl ?_
 refine cj rfl (fun τ=> rfl) ah ?_
 refine kT rfl ?_
 refine ap (_,[]) (fun τ=> aE _ _ _ rfl bN) ?_
 refine mD rfl (bj ⟨rfl,?_⟩)
 refine aJ (hK6 _ ?_)
 clear hK6;try clear K6
 refine aW rfl rfl (bB (id (hK4 _ ?_)))
 clear hK4;try clear K4
 refine am (gJ rfl (ai (az _ aa rfl rfl rfl rfl) (ai (bg _ _ aa rfl ag (by (simp <;> rfl)) ah rfl) ?_)))
 refine ai (du (33,0) _ _ aa rfl rfl (bz _).symm (.sl rfl) ab rfl (qw _ h) (show (l.take k).length+1=(l.take k++[h]).length by simp)) ?_
 refine fj rfl (aj (aq ?_))
 refine aL (σ':=aD 39 [(0,_),(5,_),(6,_)] [((33,0),_)] [] []) kp ?_
 refine an (gJ rfl (eV rfl (aX rfl (ai (kE _ _ _ aa rfl k l.length (.lit rfl rfl) .dflt hk (Nat.le_refl _) (show _=mq (l.drop k) by rw [show (mq l).drop (k*5)=mq (l.drop k) from pD wN 5 (fun _=> rfl) l k];exact List.take_of_length_le (by rw [bz,List.length_drop];exact Nat.le_refl _)) rfl) ?_))))
 refine ai (du (38,0) _ _ aa rfl rfl (bz _).symm (.sl (by rw [bz,List.length_drop])) (by simp;omega) rfl (wZ _ _) (show (l.take k++[h]).length+(l.length - k)=(l.take k++[h]++l.drop k).length by simp;omega)) ?_
 refine fj rfl (aj (aG ?_))
 have hfin:l.take k++[h]++l.drop k=pX l h:=by unfold pX;rw [hf.1,hf.2];simp
 exact bH (.inr rfl) rfl (.tmp dU) (Le.out [] [(38,0)] (by rw [← hfin];exact fg rfl rfl (bz _).symm rfl) rfl rfl rfl tr trivial)

theorem sx {s:Tx}: ∀ {f a:Nat} {l:List Tk},a≤s.length→nh f s a=some l→0 < l.length∧l.length+a≤s.length+1
  | 0,_,_,_,h=> by simp [nh] at h
  | f+1,a,l,ha,h=> by
    rcases mV h with ⟨_,rfl⟩ | ⟨hl,t,m,ht,hm,rfl⟩
    · exact ⟨by simp,by simp;omega⟩
    obtain ⟨h1,h2⟩:=ub hl ht
    have h3:=wk (s:=s) (a:=a+t.t.length) h2 false
    obtain ⟨_,h4⟩:=sx h3.2 hm
    exact ⟨by simp,by rw [List.length_cons];omega⟩
theorem Av {s:Tx} {l:List Tk} (h:EE s=some l):0 < l.length∧l.length≤s.length+1:=by
  have:=sx (a:=tU s false) (oo s false) h
  omega
theorem mC {T:List Tk}: ∀ (f:Nat) {N M:List Tx} (i:Nat),N.Perm M→gV T f N i=gV T f M i
  | 0,_,_,_,_=> rfl
  | f+1,N,M,i,h=> by
    unfold gV
    simp only [h.mem_iff,h.length_eq,mC f _ (h.append_right [(dm T i).t])]
theorem ut {T:List Tk} {f:Nat} {d v:List Tx} {i:Nat} {r:List Tx×List Tx×Nat} (h:ju T f d v i=some r): ∃ g,f=g+1∧
    (((dm T i).t=mh∧ ∃ l j,gV T g (d++v) (bK T i)=some (l,j)∧ju T g (d++l) v j=some r)∨
     ((dm T i).t≠mh∧(dm T i).t=mO∧ ∃ l j,gV T g (d++v) (bK T i)=some (l,j)∧ju T g d (v++l) j=some r)∨
     ((dm T i).t≠mh∧(dm T i).t≠mO∧r=(d,v,i))):=by
  cases f with
  | zero=> simp [ju] at h
  | succ g=>
    refine ⟨g,rfl,?_⟩
    unfold ju at h
    split at h
    · rename_i ht
      simp only [Option.bind_eq_bind,Option.bind_eq_some_iff] at h
      obtain ⟨⟨l,j⟩,hl,h⟩:=h
      exact .inl ⟨ht,l,j,hl,h⟩
    rename_i ht
    split at h
    · rename_i ht2
      simp only [Option.bind_eq_bind,Option.bind_eq_some_iff] at h
      obtain ⟨⟨l,j⟩,hl,h⟩:=h
      exact .inr (.inl ⟨ht,ht2,l,j,hl,h⟩)
    rename_i ht2
    exact .inr (.inr ⟨ht,ht2,(Option.some.inj h).symm⟩)
theorem BG {T:List Tk} {f:Nat} {l:List Hd} {i:Nat} {r:List Hd} (h:Hl T f l i=some r): ∃ g,f=g+1∧
    (((dm T i).k=0∧r=l)∨((dm T i).k≠0∧ ∃ j n j2 d j3,gM T Hm i=some j∧xk T j=some (n,j2)∧l.any (fun x=> decide (x.1=n))=false∧rf T g 1 j2=some (d,j3)∧Hl T g (pX l (n,d)) j3=some r)):=by
  cases f with
  | zero=> simp [Hl] at h
  | succ g=>
    refine ⟨g,rfl,?_⟩
    unfold Hl at h
    split at h
    · rename_i hk;exact .inl ⟨hk,(Option.some.inj h).symm⟩
    rename_i hk
    simp only [Option.bind_eq_bind,Option.bind_eq_some_iff] at h
    obtain ⟨j,hj,⟨n,j2⟩,hn,h⟩:=h
    simp only at h
    split at h
    · cases h
    rename_i hno
    simp only [Option.bind_eq_some_iff] at h
    obtain ⟨⟨d,j3⟩,hd,h⟩:=h
    exact .inr ⟨hk,j,n,j2,d,j3,hj,hn,Bool.eq_false_iff.2 hno,hd,h⟩
theorem Cp (l:List Hd) (h:Hd):(pX l h).length=l.length+1:=by
  have e:=congrArg List.length (List.takeWhile_append_dropWhile (p:=fun x:Nat×Nd=> decide (x.1 < h.1)) (l:=l))
  unfold pX
  rw [List.length_append] at e ⊢
  rw [List.length_cons]
  omega
abbrev Jk (d v:List Tx) (l:List Hd):AV:= .agg [.sl d.length (fm d), .sl v.length (fm v), .sl l.length (mq l)]
theorem qP (s:Tx) (hs:s.length≤3000) (D V:List Tx) (L:List Hd) (h:gz s=some (D,V,L)):
    Spec Tryz.prog 96 (ba [.v (bt s)] []) (aP (.tup [Jk D V L, .v (.int .i64 0), .v (.int .i64 0)]) []):=by
  unfold gz at h
  simp only [Option.bind_eq_bind,Option.bind_eq_some_iff,Option.pure_def,Option.some.injEq,Prod.mk.injEq] at h
  obtain ⟨T,hT,⟨D',V',i⟩,hd,L',hL,rfl,rfl,rfl⟩:=h
  obtain ⟨hT0,hT1⟩:=Av hT
  have hTl:T.length≤100000:=by omega
  simp only at hL ⊢
  refine Spec.ofN Tryz.func96 rfl Tryz.ntmps96 rfl ?_
  refine am (ai (aB (2,0) aa rfl rfl) (be rfl (be rfl (aj (aq (am (ei rfl (ai (ij _ Tryz.underlying9 rfl) (ai (gy _ _ rfl rfl rfl) (aj ?_))))))))))
  refine aW rfl (decide_eq_false ab) ?_
  refine aS (am (ei rfl (ai (aH aa al (uN s ab T hT) rfl rfl) ?_)))
  refine ai (aI _ tA) (ai (cm _ rfl ef) (ai (cm _ rfl ee) (ai (cm _ rfl ee) (kD rfl (be rfl (be rfl (aj (aq (aq ?_)))))))))
  refine aL (σ':=aD 114 [(2,_),(5,_),(6,_),(7,_)] [((2,0),_)] [] []) (by
    refine Le.mkJ [] [] rfl ?_ ?_ trivial trivial ?_
    · exact ⟨(iP rfl),(iS rfl),(iV rfl),(iV rfl),trivial⟩
    · exact ⟨(bM rfl rfl rfl),trivial⟩
    kernel_rfl) ?_
  refine an (aX rfl (ai (bU (r:=false) _ _ rfl rfl rfl) (aj (aW rfl rfl (aS (am (eV rfl (ai (aN _ aa rfl (by exact rq)) ?_))))))))
  refine ai (aQ (29,0) _ rfl rfl) (vH rfl (aj (am (ai (aB (9,0) aa rfl rfl) (aj (aU fun K9 hK9=> ?_))))))
  refine ay ?_
  refine aL (Le.nilB (29,0) 4 (60,0) 9 1 rfl rfl rfl) ?_
  refine aL (Le.nilB (9,0) 0 (61,0) 9 1 rfl rfl rfl) ?_
  refine aL (Le.nilB (9,0) 1 (62,0) 9 1 rfl rfl rfl) ?_
  refine aL (Le.nil0 (9,0) 2 rfl rfl) ?_
  refine br (α:=Nat×List Tx×List Tx×List Tx×Nat) (fun z=> z.2.2.2.1.Perm (z.2.1++z.2.2.1)∧z.2.2.2.2 < T.length∧z.2.2.2.1.length≤16∧ju T z.1 z.2.1 z.2.2.1 z.2.2.2.2=some (D',V',i)) 114 [(2,_),(8,_),(9,_)] [((2,0),_)] (fun z=> []) (fun z=> [((29,0), .box 222 [.sl T.length (sP T), .v (.int .i64 (z.2.2.2.2:Int)), .v (.int .i64 0), .v (.int .i64 0), .ref (60,0) 0 z.2.2.2.1.length]),((60,0), .row 9 1 (fm z.2.2.2.1)),((9,0), .box 64 [.ref (61,0) 0 z.2.1.length, .ref (62,0) 0 z.2.2.1.length, .sl 0 []]),((61,0), .row 9 1 (fm z.2.1)),((62,0), .row 9 1 (fm z.2.2.1))]) [] [] (fun z=> z.1) (3*T.length+10,[],[],[],0) ?_ (by
    refine Le.mkJ [] [] rfl ?_ ?_ trivial trivial ?_
    · exact ⟨(iP rfl),(iP rfl),(iP rfl),trivial⟩
    · exact ⟨(bM rfl rfl rfl),(fq rfl rfl rfl rfl lz),(fi rfl rfl rfl ag),(fq rfl rfl rfl rfl lz),(fi rfl rfl rfl ag),(fi rfl rfl rfl ag),trivial⟩
    kernel_rfl) ?_
  · exact ⟨.refl _,hT0,Nat.zero_le _,hd⟩
  intro z hz
  obtain ⟨z1,d,v,N,j⟩:=z
  obtain ⟨hp,hj,hNl,hz⟩:=hz
  obtain ⟨g,rfl,hm⟩:=ut hz
  simp only at hp hj hNl hm ⊢
  have hpl:=hp.length_eq
  rw [List.length_append] at hpl
  have htl:=ek hj
  refine aU fun K10 hK10=> ?_
  refine aU fun K11 hK11=> ?_
  refine an (bS rfl (ai (aT _ rfl rfl) (bc rfl rfl rfl (cd rfl rfl rfl (kv rfl rfl rfl (cN rfl (ax rfl rfl (aI _ ca) (ax rfl rfl (dX aa [((0,9),(29,0)),((1,9),(60,0))] ?_ (fe T j N hj) ob tr ae) ?_))))))))
  · repeat' (first | exact dF | refine dc ?_ ?_ | exact dH rfl)
  refine ax rfl rfl (aV _ _ Tryz.underlying9 rfl rfl rfl) (ax rfl rfl (aI _ bN) (dj (fun hg39=> ?_) (fun hg39=> ?_)))
  · skip
    obtain ⟨l,j',hdp,hdz⟩: ∃ l j',gV T g N (bK T j)=some (l,j')∧ju T g (d++l) v j'=some (D',V',i):=by
      rcases hm with ⟨_,l,j',h1,h2⟩ | ⟨h,_⟩ | ⟨h,_⟩
      · exact ⟨l,j',(mC g _ hp).trans h1,h2⟩
      · exact absurd hg39 h
      exact absurd hg39 h
    obtain ⟨hda,hdb,hdc⟩:=rF hTl g N j hj (l,j') hdp
    simp only at hda hdb hdc
    have hdl:(d++l).length=d.length+l.length:=by simp
    refine aM rfl rfl ah ?_
    refine aM rfl rfl ah ?_
    refine aM rfl rfl ah ?_
    refine ax rfl rfl (aE _ _ _ rfl bN) (ai (aE _ _ _ rfl bN) (aJ (hK11 _ ?_)))
    clear hK11;try clear K11
    refine bL rfl rfl (bs (hK10 _ ?_))
    clear hK10;try clear K10
    refine ay (aq ?_)
    refine aL (σ':=aD 114 [(2,_),(8,_),(9,_)] [((2,0),_),((29,0),_),((60,0),_),((9,0),_),((61,0),_),((62,0),_)] [] []) (by
      refine Le.mkJ [] [] rfl ?_ ?_ trivial trivial ?_
      · exact ⟨(iP rfl),(iP rfl),(iP rfl),trivial⟩
      · exact ⟨(bM rfl rfl rfl),(bM rfl rfl rfl),(bM rfl rfl rfl),(bM rfl rfl rfl),(bM rfl rfl rfl),(bM rfl rfl rfl),trivial⟩
      kernel_rfl) ?_
    refine an (bS rfl (ai (dX aa [((0,9),(29,0)),((1,9),(60,0))] ?_ (fe T j N hj) ob tr ae) ?_))
    · repeat' (first | exact dF | refine dc ?_ ?_ | exact dH rfl)
    refine ai (aV _ _ Tryz.underlying9 rfl rfl rfl) (aj (bL rfl (beq_iff_eq.2 hg39) ?_))
    refine aL (σ':=aD 114 [(2,_),(8,_),(9,_)] [((2,0),_),((29,0), .box 222 [.sl T.length (sP T), .v (.int .i64 (j:Int)), .v (.int .i64 0), .v (.int .i64 0), .ref (60,0) 0 N.length]),((60,0), .row 9 1 (fm N)),((9,0),_),((61,0),_),((62,0),_)] [] []) (by
      refine Le.mkJ [] [] rfl ?_ ?_ trivial trivial ?_
      · exact ⟨(iP rfl),(iP rfl),(iP rfl),trivial⟩
      · exact ⟨(bM rfl rfl rfl),(bM rfl rfl rfl),(bM rfl rfl rfl),(bM rfl rfl rfl),(bM rfl rfl rfl),(bM rfl rfl rfl),trivial⟩
      kernel_rfl) ?_
    refine bJ 4 [48,49,50,51] [(29,0),(70,0),(60,0)] ae ae rfl (aK rfl) (rfl:_=[_,_,_,_]) (rfl:_=[_,_,_]) ?_
    refine ap (_,[]) (fun τ=> aA _ aa rfl rfl rfl) ?_
    refine fD rfl ?_
    refine ap (_,[]) (fun τ=> aF _ aa rfl rfl eQ) ?_
    refine fF rfl ?_
    refine ap (_,[]) (fun τ=> aI _ ca) ?_
    refine fE rfl ?_
    refine ap (_,[((29,0),_),((70,0),_),((60,0), .gone)]) (fun τ=> (bR aa [((0,9),(29,0)),((1,9),(60,0)),((1,8),(70,0))] ?_ (hdc) ob tr tr rfl rfl ae ae)) ?_
    · repeat' (first | exact dF | refine dc ?_ ?_ | exact dH rfl)
    refine fS rfl (bj ⟨rfl,?_⟩)
    refine ai (du (52,0) _ _ aa rfl rfl (by simp) (.sl (by simp)) ab rfl (qf _ _) hdl.symm) ?_
    refine bc rfl rfl rfl (bG rfl rfl rfl rfl rfl rfl (aJ (⟨(g,d++l,v,N++l,j'),?_,?_,?_⟩)))
    · exact ⟨(hp.append_right l).trans (by rw [List.append_assoc,List.append_assoc];exact List.perm_append_comm.append_left d),hda,by simp only [List.length_append];omega,hdz⟩
    · skip
      refine Le.mkJ [((60,0),(70,0)),((61,0),(52,0))] [] rfl ?_ ?_ trivial trivial ?_
      · exact ⟨(dH (id:=(2,0)) rfl),(dH (id:=(29,0)) rfl),(dH (id:=(9,0)) rfl),trivial⟩
      · exact ⟨(fq rfl rfl rfl rfl (by repeat' (first | exact Lv.v | exact bf | refine au ?_ ?_))),(fq rfl rfl rfl rfl lz),(fi rfl rfl rfl ag),(fq rfl rfl rfl rfl lz),(fi rfl rfl rfl ag),(fi rfl rfl rfl ag),trivial⟩
      kernel_rfl
    simp only;omega
  refine ax rfl rfl (aI _ ca) (ax rfl rfl (dX aa [((0,9),(29,0)),((1,9),(60,0))] ?_ (fe T j N hj) ob tr ae) ?_)
  · repeat' (first | exact dF | refine dc ?_ ?_ | exact dH rfl)
  refine ax rfl rfl (aV _ _ Tryz.underlying9 rfl rfl rfl) (ax rfl rfl (aE _ _ _ rfl bN) (ai (aE _ _ _ rfl bN) (aJ (hK11 _ ?_))))
  clear hK11;try clear K11
  refine aR rfl (fun hc44=> ?_) (fun hc44=> ?_)
  · skip
    obtain ⟨l,j',hdp,hdz⟩: ∃ l j',gV T g N (bK T j)=some (l,j')∧ju T g d (v++l) j'=some (D',V',i):=by
      rcases hm with ⟨h,_⟩ | ⟨_,_,l,j',h1,h2⟩ | ⟨_,h,_⟩
      · exact absurd h hg39
      · exact ⟨l,j',(mC g _ hp).trans h1,h2⟩
      exact absurd hc44 h
    obtain ⟨hda,hdb,hdc⟩:=rF hTl g N j hj (l,j') hdp
    simp only at hda hdb hdc
    have hvl:(v++l).length=v.length+l.length:=by simp
    refine bs (hK10 _ ?_)
    clear hK10;try clear K10
    refine ay (aq ?_)
    refine aL (σ':=aD 114 [(2,_),(8,_),(9,_)] [((2,0),_),((29,0),_),((60,0),_),((9,0),_),((61,0),_),((62,0),_)] [] []) (by
      refine Le.mkJ [] [] rfl ?_ ?_ trivial trivial ?_
      · exact ⟨(iP rfl),(iP rfl),(iP rfl),trivial⟩
      · exact ⟨(bM rfl rfl rfl),(bM rfl rfl rfl),(bM rfl rfl rfl),(bM rfl rfl rfl),(bM rfl rfl rfl),(bM rfl rfl rfl),trivial⟩
      kernel_rfl) ?_
    refine an (bS rfl (ai (dX aa [((0,9),(29,0)),((1,9),(60,0))] ?_ (fe T j N hj) ob tr ae) ?_))
    · repeat' (first | exact dF | refine dc ?_ ?_ | exact dH rfl)
    refine ai (aV _ _ Tryz.underlying9 rfl rfl rfl) (aj (aW rfl (beq_eq_false_iff_ne.2 hg39) ?_))
    refine aL (σ':=aD 114 [(2,_),(8,_),(9,_)] [((2,0),_),((29,0), .box 222 [.sl T.length (sP T), .v (.int .i64 (j:Int)), .v (.int .i64 0), .v (.int .i64 0), .ref (60,0) 0 N.length]),((60,0), .row 9 1 (fm N)),((9,0),_),((61,0),_),((62,0),_)] [] []) (by
      refine Le.mkJ [] [] rfl ?_ ?_ trivial trivial ?_
      · exact ⟨(iP rfl),(iP rfl),(iP rfl),trivial⟩
      · exact ⟨(bM rfl rfl rfl),(bM rfl rfl rfl),(bM rfl rfl rfl),(bM rfl rfl rfl),(bM rfl rfl rfl),(bM rfl rfl rfl),trivial⟩
      kernel_rfl) ?_
    refine bJ 4 [54,55,56,57] [(29,0),(71,0),(60,0)] ae ae rfl (aK rfl) (rfl:_=[_,_,_,_]) (rfl:_=[_,_,_]) ?_
    refine ap (_,[]) (fun τ=> aA _ aa rfl rfl rfl) ?_
    refine fD rfl ?_
    refine ap (_,[]) (fun τ=> aF _ aa rfl rfl eQ) ?_
    refine fF rfl ?_
    refine ap (_,[]) (fun τ=> aI _ ca) ?_
    refine fE rfl ?_
    refine ap (_,[((29,0),_),((71,0),_),((60,0), .gone)]) (fun τ=> (bR aa [((0,9),(29,0)),((1,9),(60,0)),((1,8),(71,0))] ?_ (hdc) ob tr tr rfl rfl ae ae)) ?_
    · repeat' (first | exact dF | refine dc ?_ ?_ | exact dH rfl)
    refine fS rfl (bj ⟨rfl,?_⟩)
    refine ai (du (58,0) _ _ aa rfl rfl (by simp) (.sl (by simp)) ab rfl (qf _ _) hvl.symm) ?_
    refine bc rfl rfl rfl (bG rfl rfl rfl rfl rfl rfl (aJ (⟨(g,d,v++l,N++l,j'),?_,?_,?_⟩)))
    · exact ⟨(hp.append_right l).trans (by rw [List.append_assoc]),hda,by simp only [List.length_append];omega,hdz⟩
    · skip
      refine Le.mkJ [((60,0),(71,0)),((62,0),(58,0))] [] rfl ?_ ?_ trivial trivial ?_
      · exact ⟨(dH (id:=(2,0)) rfl),(dH (id:=(29,0)) rfl),(dH (id:=(9,0)) rfl),trivial⟩
      · exact ⟨(fq rfl rfl rfl rfl (by repeat' (first | exact Lv.v | exact bf | refine au ?_ ?_))),(fq rfl rfl rfl rfl lz),(fi rfl rfl rfl ag),(fq rfl rfl rfl rfl lz),(fi rfl rfl rfl ag),(fi rfl rfl rfl ag),trivial⟩
      kernel_rfl
    simp only;omega
  have hrd:(D',V',i)=(d,v,j):=by
    rcases hm with ⟨h,_⟩ | ⟨_,h,_⟩ | ⟨_,_,h⟩
    · exact absurd h hg39
    · exact absurd h hc44
    exact h
  obtain ⟨e1,e2,e3⟩:D'=d∧V'=v∧i=j:=⟨congrArg (·.1) hrd,congrArg (·.2.1) hrd,congrArg (·.2.2) hrd⟩
  clear hrd hm hz
  subst e1;subst e2;subst e3
  refine bB (id (hK9 _ ?_))
  clear hK9;try clear K9
  refine aU fun K14 hK14=> ?_
  refine ay ?_
  refine aL (Le.frzB (29,0) 4 rfl rfl rfl rfl (ys:=fm N) (by simp [List.take_of_length_le]) (by simp)) ?_
  refine br (α:=Nat×List Hd×Nat) (fun y=> y.2.1.length+y.1≤10*T.length+10∧y.2.2 < T.length∧Hl T y.1 y.2.1 y.2.2=some L') 114 [(2,_),(8,_),(9,_)] [((2,0),_),((61,0),_),((62,0),_)] (fun y=> []) (fun y=> [((29,0), .box 222 [.sl T.length (sP T), .v (.int .i64 (y.2.2:Int)), .v (.int .i64 0), .v (.int .i64 0), .sl N.length (fm N)]),((9,0), .box 64 [.ref (61,0) 0 D'.length, .ref (62,0) 0 V'.length, .sl y.2.1.length (mq y.2.1)])]) [] [] (fun y=> y.1) (10*T.length+10,[],i) ?_ (by
    refine Le.mkJ [] [] rfl ?_ ?_ trivial trivial ?_
    · exact ⟨(iP rfl),(iP rfl),(iP rfl),trivial⟩
    · exact ⟨(bM rfl rfl rfl),(bM rfl rfl rfl),(bM rfl rfl rfl),(fq rfl rfl rfl rfl lz),(fq rfl rfl rfl rfl lz),trivial⟩
    kernel_rfl) ?_
  · exact ⟨by simp,hj,hL⟩
  intro y hy
  obtain ⟨y1,l,k⟩:=y
  obtain ⟨hyl,hk,hy⟩:=hy
  obtain ⟨g2,rfl,hm2⟩:=BG hy
  simp only at hyl hk hm2 ⊢
  refine aU fun K15 hK15=> ?_
  refine aq (bJ 19 [60,61,62,63,64,65,66,67,68,69,70,71,72,73,74,75,76,77,78] [] ae ae rfl (aK rfl) (rfl:_=[_,_,_,_,_,_,_,_,_,_,_,_,_,_,_,_,_,_,_]) (rfl:_=[]) ?_)
  refine ap (_,[]) (fun τ=> aI _ ca) ?_
  refine fD rfl ?_
  refine ap (_,[]) (fun τ=> aT _ rfl rfl) ?_
  refine fF rfl ?_
  refine ap (_,[]) (fun τ=> aA _ aa rfl rfl rfl) ?_
  refine fE rfl ?_
  refine ap (_,[]) (fun τ=> aF _ aa rfl rfl ee) ?_
  refine fS rfl ?_
  refine ap (_,[]) (fun τ=> bC (r:=true) _ _ rfl rfl rfl) ?_
  refine gf rfl ?_
  refine ap (_,[]) (fun τ=> aI _ bN) ?_
  refine gS rfl ?_
  refine bo (_,[]) rfl (fun τ=> rfl) (fun τ=> aI _ ca) ?_
  refine ir rfl ?_
  refine bo (_,[]) rfl (fun τ=> rfl) (fun τ=> aT _ rfl rfl) ?_
  refine jE rfl ?_
  refine bo (_,[]) rfl (fun τ=> rfl) (fun τ=> aA _ aa rfl rfl rfl) ?_
  refine jU rfl ?_
  refine bo (_,[]) rfl (fun τ=> rfl) (fun τ=> aF _ aa rfl rfl ef) ?_
  refine fy rfl ?_
  refine bo (_,[]) rfl (fun τ=> rfl) (fun τ=> aI _ ca) ?_
  refine gd rfl ?_
  refine bo (_,[]) rfl (fun τ=> rfl) (fun τ=> aT _ rfl rfl) ?_
  refine jG rfl ?_
  refine bo (_,[]) rfl (fun τ=> rfl) (fun τ=> aA _ aa rfl rfl rfl) ?_
  refine kT rfl ?_
  refine bo (_,[]) rfl (fun τ=> rfl) (fun τ=> aF _ aa rfl rfl ee) ?_
  refine mD rfl ?_
  refine bo (_,[]) rfl (fun τ=> rfl) (fun τ=> bp _ _ aa rfl rfl _ rfl ab (by (simp only [aO,bi,bl,bw,bv,bI,bz];omega)) ag) ?_
  refine rh rfl ?_
  refine bo (_,[]) rfl (fun τ=> rfl) (fun τ=> dg _ aa rfl rfl) ?_
  refine re rfl ?_
  refine bo (_,[]) rfl (fun τ=> rfl) (fun τ=> bO _ aa rfl (by exact qb _ _ ab) rfl) ?_
  refine vZ rfl ?_
  refine bo (_,[]) rfl (fun τ=> rfl) (fun τ=> bU _ _ rfl rfl rfl) ?_
  refine yw rfl ?_
  refine ap (_,[]) (fun τ=> aE _ _ _ rfl bN) ?_
  refine yK rfl (bj ⟨rfl,?_⟩)
  refine aj (aR rfl (fun hc78=> ?_) (fun hc78=> ?_))
  · skip
    obtain ⟨_,j1,hn,j2,dd,j3,h1,h2,h3,h4,h5⟩:=hm2.resolve_left fun x=> by omega
    have hx1:=fT T k j1 N Hm hk hTl h1
    obtain ⟨ha2,_,hx2⟩:=tx (N:=N) hTl j1 (jK h1 hk) l ab _ h2 h3
    obtain ⟨ha3,hx3⟩:=wr (N:=N) hTl ab ha2 h4
    have hx4:=Cv l ab (hn,dd)
    have hpl2:=Cp l (hn,dd)
    simp only at ha2 ha3 hx2 hx3 hx4
    refine bs (hK15 _ ?_)
    clear hK15;try clear K15
    refine ay (aq ?_)
    refine aL (σ':=aD 114 [(2,_),(8,_),(9,_)] [((2,0),_),((61,0),_),((62,0),_),((29,0),_),((9,0),_)] [] []) (by
      refine Le.mkJ [] [] rfl ?_ ?_ trivial trivial ?_
      · exact ⟨(iP rfl),(iP rfl),(iP rfl),trivial⟩
      · exact ⟨(bM rfl rfl rfl),(bM rfl rfl rfl),(bM rfl rfl rfl),(bM rfl rfl rfl),(bM rfl rfl rfl),trivial⟩
      kernel_rfl) ?_
    refine an (bS rfl (ai (dX aa [((0,9),(29,0))] ?_ (hx1) ob tr ae) ?_))
    · repeat' (first | exact dF | refine dc ?_ ?_ | exact Lv.v | exact dH rfl)
    refine aj (aq (am (bS rfl (ai (aT _ rfl rfl) (bc rfl rfl rfl (cd rfl rfl rfl (ai (bU (r:=false) _ _ rfl rfl rfl) (aj (aW rfl rfl (aS ?_))))))))))
    refine aU fun K20 hK20=> ?_
    refine an (bS rfl (bc rfl rfl rfl (eW rfl rfl rfl (ai (dX aa [((0,9),(29,0))] ?_ (hx2) ob tr ae) ?_))))
    · repeat' (first | exact dF | refine dc ?_ ?_ | exact Lv.sl | exact dH rfl)
    refine be rfl (aJ (hK20 _ ?_))
    clear hK20;try clear K20
    refine aU fun K21 hK21=> ?_
    refine an (bS rfl (ai (dX aa [((0,9),(29,0))] ?_ (hx3) ob tr ae) ?_))
    · repeat' (first | exact dF | refine dc ?_ ?_ | exact Lv.v | exact dH rfl)
    refine ai (aB (11,0) aa rfl rfl) (bG rfl rfl rfl rfl rfl rfl (aJ (hK21 _ ?_)))
    clear hK21;try clear K21
    refine aL (σ':=aD 114 [(2,_),(8,_),(9,_),(10,_),(11,_)] [((2,0),_),((61,0),_),((62,0),_),((29,0),_),((9,0),_),((11,0),_)] [] []) (by
      refine Le.mkJ [] [] rfl ?_ ?_ trivial trivial ?_
      · exact ⟨(iP rfl),(iP rfl),(iP rfl),(iV rfl),(iP rfl),trivial⟩
      · exact ⟨(bM rfl rfl rfl),(bM rfl rfl rfl),(bM rfl rfl rfl),(bM rfl rfl rfl),(bM rfl rfl rfl),(bM rfl rfl rfl),trivial⟩
      kernel_rfl) ?_
    refine an (bc rfl rfl rfl (eW rfl rfl rfl (aX rfl (ai (az _ aa rfl rfl rfl rfl) (ai (aN _ aa rfl (by exact rq)) ?_)))))
    refine ai (aH aa al (hx4) rfl rfl) ?_
    refine bc rfl rfl rfl (bG rfl rfl rfl rfl rfl rfl (aJ (⟨(g2,pX l (hn,dd),j3),?_,?_,?_⟩)))
    · exact ⟨by simp only [hpl2];omega,ha3,h5⟩
    · skip
      refine Le.mkJ [] [] rfl ?_ ?_ trivial trivial ?_
      · exact ⟨(iP rfl),(iP rfl),(iP rfl),trivial⟩
      · exact ⟨(bM rfl rfl rfl),(bM rfl rfl rfl),(bM rfl rfl rfl),(fq rfl rfl rfl rfl lz),(fq rfl rfl rfl rfl lz),trivial⟩
      kernel_rfl
    simp only;omega
  have hrl:=(hm2.resolve_right fun x=> x.1 ab).2
  subst hrl
  refine bB (id (hK14 _ ?_))
  clear hK14;try clear K14
  refine aq (aq ?_)
  refine aL (σ':=aD 114 [(2,_),(8,_),(9,_)] [((2,0),_),((61,0),_),((62,0),_),((29,0),_),((9,0),_)] [] []) (by
    refine Le.mkJ [] [] rfl ?_ ?_ trivial trivial ?_
    · exact ⟨(iP rfl),(iP rfl),(iP rfl),trivial⟩
    · exact ⟨(bM rfl rfl rfl),(bM rfl rfl rfl),(bM rfl rfl rfl),(bM rfl rfl rfl),(bM rfl rfl rfl),trivial⟩
    kernel_rfl) ?_
  refine an (bS rfl (ai (aT _ rfl rfl) (bc rfl rfl rfl (cd rfl rfl rfl (ai (bU (r:=false) _ _ rfl rfl rfl) (aj (aW rfl rfl (aS (am (ai (az _ aa rfl rfl rfl rfl) ?_))))))))))
  exact bG rfl rfl rfl rfl rfl rfl (be rfl (be rfl (aj (aG (wD (.inr rfl) rfl (.cellA aa rfl rfl rfl) (.tmp kL) (.tmp kL) (Le.out [] [(61,0),(62,0)] (.tup rfl (au (.agg rfl (au (fg rfl rfl (by simp) rfl) (au (fg rfl rfl (by simp) rfl) lz))) lz)) rfl rfl rfl tr trivial))))))
end Go.Proofs.YtmjnackchaahbaaGreat
