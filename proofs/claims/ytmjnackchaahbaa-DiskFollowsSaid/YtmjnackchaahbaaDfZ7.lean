/- part 7 -/
import Derived.Test.YtmjnackchaahbaaDfZ6
set_option linter.unusedSimpArgs false
set_option linter.unusedVariables false
namespace Go.Proofs.Ytmjnackchaahbaa
open Go.RowKit

class MthV (P:Program) (t:TypeId) (name:String) (f e:outParam TypeId):Prop where
  out: ∀ (ad:Addr) (w:World),(method (P.types.size+Made.depth) t (.pointer (some ad)) name).run P w=((loadVar e ad).run P w).andThen fun v w'=> .ok (f,v) w'
theorem jr {P:Program} {t:TypeId} {ad:Addr} {nm:String} {w:World}:(Builtin.ssaWrapNilChk_ #[t] t #[.pointer (some ad),strVal "",strVal nm]).run P w= .ok (.pointer (some ad)) w:=rfl
theorem kY {P:Program} {n:Nat} {t e f:TypeId} {name:String} {i:TypeInfo} {m:Method} {ad:Addr} {w:World} (hi:P.info? t=some i) (hfind:i.methods.find? (·.name==name)=some m) (hpath:m.path= #[]) (hfunc:m.func=some (f,false))
    (hu:P.underlying t=some (.pointer e)):(method (n+1) t (.pointer (some ad)) name).run P w=((loadVar e ad).run P w).andThen fun v w'=> .ok (f,v) w':=by
  have h1:(typeInfo t).run P w= .ok i w:=by simp [typeInfo,Sem.run,hi]
  have h2:(underlying t).run P w= .ok (.pointer e) w:=by simp [underlying,Sem.run,hu]
  simp only [method,Sem.run_bind,h1,Result.andThen_ok,hfind,hpath,hfunc,follow,Sem.run_pure,receiverAt,h2,Place.get]
  simp only [Array.isEmpty_empty,if_true,Sem.run_bind,jr,Result.andThen_ok,asAddr,Sem.run_pure]
def nF (P:Program) (t:TypeId) (name:String):Option (TypeId×TypeId):=
  match P.info? t with
  | some i=> match i.methods.find? (·.name==name) with
    | some m=> match m.path.isEmpty,m.func,P.underlying t with
      | true,some (f,false),some (.pointer e)=> some (f,e)
      | _,_,_=> none
    | none=> none
  | none=> none
theorem MthV.of {P:Program} {t e f:TypeId} {name:String} (h:nF P t name=some (f,e)):MthV P t name f e:=by
  refine ⟨fun ad w=> ?_⟩
  obtain ⟨n,hn⟩: ∃ n,P.types.size+Made.depth=n+1:=⟨_,rfl⟩
  rw [hn]
  unfold nF at h
  split at h
  · rename_i i hi
    split at h
    · rename_i m hm
      split at h
      · rename_i f' e' hp hf hu
        cases h
        exact kY hi hm (by simpa using hp) hf hu
      cases h
    cases h
  cases h
section
variable {P:Program} {σ:St} {o:Oper} {t:TypeId} {name:String} {f:FuncId} {x:Operand} {xs:Array Operand} {ats:Array TypeId}
end
section
variable {P:Program} {σ:St} {dd:Option Tmp} {op:Op} {ty:TypeId} {f:FuncId} {avs:List AV}
end
theorem Le.incT {σ:St} (id:aw) (h:σ.ob id= .free):Le (σ.setInc id true) σ:=by
  intro K ι S a w R
  refine ⟨ι,S,R.keeps,R.S0,R.Slt,R.nt,R.df,R.fr,R.cl,R.clo,R.ob,R.dom,R.inj,fun i B g h1 h2=> ?_,R.pin,R.pf⟩
  obtain ⟨h3,h4,h5⟩:=R.sep i B g h1 h2
  refine ⟨h3,h4,fun h6=> h5 ?_⟩
  have h7:(bif dL i id then true else σ.inc i)=false:=h6
  cases hb:dL i id with
  | true=> rw [hb] at h7;cases h7
  | false=> rw [hb] at h7;exact h7
theorem ls {P:Program} {σ:St} {z:List Value} {T e:TypeId} {size bytes:Nat} {dd:Option Tmp} {ty:TypeId} (id':aw) (s x:Operand) (E:Elem P T e size bytes z) {id:aw} {n:Nat} {xs:List PV} (hs:σ.eval s= .ref id 0 n) (hid:σ.ob id= .obj (.row e size xs)) (hl:n*size=xs.length) {m:Nat} {news:List PV} (hx:SrcAV σ (σ.eval x) size m news) (hb:(n+m)*bytes≤140737488355328) (hid':σ.ob id'= .free)
    {b:Bool} (hi:σ.inc id=b) (hi':σ.inc id'=b) {ys:List PV} (hy:xs++news=ys) {k:Nat} (hk:n+m=k):Stp P dd (.call { callee:= .builtin .append,args:= #[s,x],argTypes:= #[T,T] }) ty σ (((σ.setOb id .gone).setOb id' (.obj (.row e size ys))).put dd (.ref id' 0 k)):=by
  have h:=ml (P:=P) (dd:=dd) (ty:=ty) id' s x E hs hid hl hx hb hid' hy hk
  rwa [hi,St.setInc_same (by exact hi')] at h

abbrev pU (c:AV) (e:Nat→Int) (d v:Int):List AV:=[c, .v (.int .i64 (e 0)), .v (.int .i64 (e 1)), .v (.int .i64 (e 2)), .v (.int .i64 (e 3)), .v (.int .i64 (e 4)), .v (.int .i64 (e 5)), .v (.int .i64 (e 6)), .v (.int .i64 (e 7)), .v (.int .i64 (e 8)), .v (.int .i64 (e 9)), .v (.int .i64 (e 10)), .v (.int .i64 (e 11)), .v (.int .i64 (e 12)), .v (.int .i64 (e 13)), .v (.int .i64 (e 14)), .v (.int .i64 (e 15)), .v (.int .i64 (e 16)), .v (.int .i64 (e 17)), .v (.int .i64 (e 18)), .v (.int .i64 (e 19)), .v (.int .i64 (e 20)), .v (.int .i64 (e 21)), .v (.int .i64 (e 22)), .v (.int .i64 (e 23)), .v (.int .i64 (e 24)), .v (.int .i64 (e 25)), .v (.int .i64 (e 26)), .v (.int .i64 (e 27)), .v (.int .i64 (e 28)), .v (.int .i64 (e 29)), .v (.int .i64 (e 30)), .v (.int .i64 (e 31)), .v (.int .i64 (e 32)), .v (.int .i64 (e 33)), .v (.int .i64 (e 34)), .v (.int .i64 (e 35)), .v (.int .i64 (e 36)), .v (.int .i64 (e 37)), .v (.int .i64 (e 38)), .v (.int .i64 (e 39)), .v (.int .i64 d), .v (.int .i64 v)]
abbrev qp (n:Nat) (xs:List PV) (e:Nat→Int) (d v:Int):List AV:=pU (.sl n xs) e d v
def pm (e:Nat→Int) (h:Nat) (x:Int):Nat→Int:=fun k=> if k=h then x else e k
theorem nr (c:AV) (e:Nat→Int) (d v:Int) (h:Nat) (hh:h < 40) (x:Int):cQ (pU c e d v) (1+h) [.v (.int .i64 x)]=pU c (pm e h x) d v:=by
  rcases h with _ | _ | _ | _ | _ | _ | _ | _ | _ | _ | _ | _ | _ | _ | _ | _ | _ | _ | _ | _ | _ | _ | _ | _ | _ | _ | _ | _ | _ | _ | _ | _ | _ | _ | _ | _ | _ | _ | _ | _ | h
  all_goals first | rfl | omega
theorem nu (n:Nat) (xs:List PV) (e:Nat→Int) (d v:Int) (h:Nat) (hh:h < 40):(qp n xs e d v)[1+h]? =some (.v (.int .i64 (e h))):=by
  rcases h with _ | _ | _ | _ | _ | _ | _ | _ | _ | _ | _ | _ | _ | _ | _ | _ | _ | _ | _ | _ | _ | _ | _ | _ | _ | _ | _ | _ | _ | _ | _ | _ | _ | _ | _ | _ | _ | _ | _ | _ | h
  all_goals first | rfl | omega
structure Pg where
  c:List eY
  e:Nat→Int
  d:Nat
  v:Nat
abbrev tX (p:Pg):List AV:=qp p.c.length (inl p.c) p.e (p.d:Int) (p.v:Int)
abbrev qc (p:Pg):AV:= .agg (tX p)
def eB (h k:Nat):Int:=if 1≤k∧k < h∨40≤k then -1 else 0
theorem oW (h:Nat) (h1:1≤h) (hh:h < 40):pm (eB h) h (-1)=eB (h+1):=by
  funext k
  unfold pm eB
  by_cases h1:k=h
  · rw [if_pos h1,if_pos ab]
  rw [if_neg h1]
  by_cases h2:1≤k∧k < h∨40≤k
  · rw [if_pos h2,if_pos ab]
  rw [if_neg h2,if_neg ab]
def ka (n k:Int):Pg:=⟨gW n k,eB 40,1,0⟩
theorem kM (n k:Int):Spec Try.prog 15 (bq [.v (.int .i64 n), .v (.int .i64 k)] []) (aX (qc (ka n k)) []):=by
  refine Spec.ofN Try.func15 rfl Try.ntmps15 rfl ?_
  refine ay fun K1 hK1=> ?_
  refine an ?_
  refine aj (bb (4,0) aa rfl rfl) ?_
  refine ap (hK1 _ ?_)
  clear hK1;try clear K1
  refine ay fun K2 hK2=> ?_
  refine an ?_
  refine aj (bf _ aa rfl (by exact (rfl:_=some [_,_,_,_,_,_,_,_,_,_,_,_,_,_,_,_,_,_,_,_,_,_,_,_,_,_,_,_,_,_,_,_,_,_,_,_,_,_,_,_,_,_,_]))) ?_
  refine aj (bb (5,0) aa rfl rfl) ?_
  refine aj (aT _ _ aa rfl rfl rfl rfl (Nat.le_of_ble_eq_true rfl) rfl) ?_
  refine ap (hK2 _ ?_)
  clear hK2;try clear K2
  refine ay fun K3 hK3=> ?_
  refine ay fun K4 hK4=> ?_
  refine an ?_
  refine aj (aM _ bc) ?_
  refine ap (hK4 _ ?_)
  clear hK4;try clear K4
  refine cw ?_
  refine ez (α:=Nat) (fun q=> 1≤q∧q≤40) 34 [(0,_),(1,_),(4,_),(5,_)] [((4,0),_)] (fun q=> [(6, .v (.int .i64 (q:Int)))]) (fun q=> [((5,0), .box 43 [.v (.slice none 0 0), .v (.int .i64 (eB q 0)), .v (.int .i64 (eB q 1)), .v (.int .i64 (eB q 2)), .v (.int .i64 (eB q 3)), .v (.int .i64 (eB q 4)), .v (.int .i64 (eB q 5)), .v (.int .i64 (eB q 6)), .v (.int .i64 (eB q 7)), .v (.int .i64 (eB q 8)), .v (.int .i64 (eB q 9)), .v (.int .i64 (eB q 10)), .v (.int .i64 (eB q 11)), .v (.int .i64 (eB q 12)), .v (.int .i64 (eB q 13)), .v (.int .i64 (eB q 14)), .v (.int .i64 (eB q 15)), .v (.int .i64 (eB q 16)), .v (.int .i64 (eB q 17)), .v (.int .i64 (eB q 18)), .v (.int .i64 (eB q 19)), .v (.int .i64 (eB q 20)), .v (.int .i64 (eB q 21)), .v (.int .i64 (eB q 22)), .v (.int .i64 (eB q 23)), .v (.int .i64 (eB q 24)), .v (.int .i64 (eB q 25)), .v (.int .i64 (eB q 26)), .v (.int .i64 (eB q 27)), .v (.int .i64 (eB q 28)), .v (.int .i64 (eB q 29)), .v (.int .i64 (eB q 30)), .v (.int .i64 (eB q 31)), .v (.int .i64 (eB q 32)), .v (.int .i64 (eB q 33)), .v (.int .i64 (eB q 34)), .v (.int .i64 (eB q 35)), .v (.int .i64 (eB q 36)), .v (.int .i64 (eB q 37)), .v (.int .i64 (eB q 38)), .v (.int .i64 (eB q 39)), .v (.int .i64 1), .v (.int .i64 0)])]) [] [] (fun q=> 40 - q) 1 ?_ (by
    refine Le.mkJ [] [] rfl ?_ ?_ trivial trivial ?_
    · exact ⟨(iV rfl),(iV rfl),(iP rfl),(iP rfl),(aF (by first | rfl | omega | (simp;done) | (simp;omega) | assumption)),trivial⟩
    · exact ⟨(bn rfl rfl rfl),(mq rfl rfl rfl rfl (ai (by repeat' (first | exact Lv.v | exact Lv.sl | exact Lv.fp | exact aq rfl rfl | exact aP rfl | exact Lv.mp | exact Lv.nil | exact Lv.z | exact Lv.dead | refine Lv.agg rfl ?_ | refine Lv.fn rfl ?_ rfl ?_ | refine Lv.tup rfl ?_ | refine Lv.ifc ?_ | exact am | refine ai ?_ ?_)) (ai (aF (by first | rfl | omega | (simp;done) | (simp;omega) | assumption)) (ai (aF (by first | rfl | omega | (simp;done) | (simp;omega) | assumption)) (ai (aF (by first | rfl | omega | (simp;done) | (simp;omega) | assumption)) (ai (aF (by first | rfl | omega | (simp;done) | (simp;omega) | assumption)) (ai (aF (by first | rfl | omega | (simp;done) | (simp;omega) | assumption)) (ai (aF (by first | rfl | omega | (simp;done) | (simp;omega) | assumption)) (ai (aF (by first | rfl | omega | (simp;done) | (simp;omega) | assumption)) (ai (aF (by first | rfl | omega | (simp;done) | (simp;omega) | assumption)) (ai (aF (by first | rfl | omega | (simp;done) | (simp;omega) | assumption)) (ai (aF (by first | rfl | omega | (simp;done) | (simp;omega) | assumption)) (ai (aF (by first | rfl | omega | (simp;done) | (simp;omega) | assumption)) (ai (aF (by first | rfl | omega | (simp;done) | (simp;omega) | assumption)) (ai (aF (by first | rfl | omega | (simp;done) | (simp;omega) | assumption)) (ai (aF (by first | rfl | omega | (simp;done) | (simp;omega) | assumption)) (ai (aF (by first | rfl | omega | (simp;done) | (simp;omega) | assumption)) (ai (aF (by first | rfl | omega | (simp;done) | (simp;omega) | assumption)) (ai (aF (by first | rfl | omega | (simp;done) | (simp;omega) | assumption)) (ai (aF (by first | rfl | omega | (simp;done) | (simp;omega) | assumption)) (ai (aF (by first | rfl | omega | (simp;done) | (simp;omega) | assumption)) (ai (aF (by first | rfl | omega | (simp;done) | (simp;omega) | assumption)) (ai (aF (by first | rfl | omega | (simp;done) | (simp;omega) | assumption)) (ai (aF (by first | rfl | omega | (simp;done) | (simp;omega) | assumption)) (ai (aF (by first | rfl | omega | (simp;done) | (simp;omega) | assumption)) (ai (aF (by first | rfl | omega | (simp;done) | (simp;omega) | assumption)) (ai (aF (by first | rfl | omega | (simp;done) | (simp;omega) | assumption)) (ai (aF (by first | rfl | omega | (simp;done) | (simp;omega) | assumption)) (ai (aF (by first | rfl | omega | (simp;done) | (simp;omega) | assumption)) (ai (aF (by first | rfl | omega | (simp;done) | (simp;omega) | assumption)) (ai (aF (by first | rfl | omega | (simp;done) | (simp;omega) | assumption)) (ai (aF (by first | rfl | omega | (simp;done) | (simp;omega) | assumption)) (ai (aF (by first | rfl | omega | (simp;done) | (simp;omega) | assumption)) (ai (aF (by first | rfl | omega | (simp;done) | (simp;omega) | assumption)) (ai (aF (by first | rfl | omega | (simp;done) | (simp;omega) | assumption)) (ai (aF (by first | rfl | omega | (simp;done) | (simp;omega) | assumption)) (ai (aF (by first | rfl | omega | (simp;done) | (simp;omega) | assumption)) (ai (aF (by first | rfl | omega | (simp;done) | (simp;omega) | assumption)) (ai (aF (by first | rfl | omega | (simp;done) | (simp;omega) | assumption)) (ai (aF (by first | rfl | omega | (simp;done) | (simp;omega) | assumption)) (ai (aF (by first | rfl | omega | (simp;done) | (simp;omega) | assumption)) (ai (aF (by first | rfl | omega | (simp;done) | (simp;omega) | assumption)) (ai (aF (by first | rfl | omega | (simp;done) | (simp;omega) | assumption)) (ai (aF (by first | rfl | omega | (simp;done) | (simp;omega) | assumption)) am)))))))))))))))))))))))))))))))))))))))))))),trivial⟩
    kernel_rfl) ?_
  · exact ⟨Nat.le_refl _,by omega⟩
  intro q hq
  obtain ⟨hq1,hq⟩:=hq
  refine ay fun K5 hK5=> ?_
  refine ay fun K6 hK6=> ?_
  refine an ?_
  refine aj (au _ bc) ?_
  first
    | refine aj (bo _ _ rfl rfl (by assumption)) ?_
    | refine aj (bo _ _ rfl rfl rfl) ?_
  refine ap (hK6 _ ?_)
  clear hK6;try clear K6
  refine bZ rfl (fun hc9=> ?_) (fun hc9=> ?_)
  · skip
    refine bw (hK5 _ ?_)
    clear hK5;try clear K5
    refine ay fun K7 hK7=> ?_
    refine cw ?_
    refine an ?_
    refine aj (au _ bc) ?_
    first
      | refine aj (aA _ aa rfl rfl rfl) ?_
      | refine aj (aC _ aa rfl rfl) ?_
    refine aj (em _ _ aa rfl rfl rfl q rfl ab (by exact congrArg (fun z=> 0+1+z) (Nat.mul_one q))) ?_
    refine aj (aT _ _ aa rfl rfl rfl rfl (show 0+1+q+1≤43 by omega) ((congrArg (fun z=> cQ (pU (.v (.slice none 0 0)) (eB q) 1 0) z [.v (.int .i64 (-1))]) ab).trans ((nr _ _ _ _ q ab _).trans (by rw [oW _ ab ab])))) ?_
    refine ap (hK7 _ ?_)
    clear hK7;try clear K7
    refine an ?_
    refine aj (au _ bc) ?_
    first
      | refine aj (bA _ _ rfl rfl (dH ab)) ?_
      | refine aj (bA _ _ rfl rfl rfl) ?_
    refine aj (aM _ bc) ?_
    refine ap ?_
    refine ⟨q+1,?_,?_,?_⟩
    · exact ⟨by omega,by omega⟩
    · skip
      refine Le.mkJ [] [] rfl ?_ ?_ trivial trivial ?_
      · exact ⟨(iV rfl),(iV rfl),(iP rfl),(iP rfl),(aF (by first | rfl | omega | (simp;done) | (simp;omega) | assumption)),trivial⟩
      · exact ⟨(bn rfl rfl rfl),(mq rfl rfl rfl rfl (ai (by repeat' (first | exact Lv.v | exact Lv.sl | exact Lv.fp | exact aq rfl rfl | exact aP rfl | exact Lv.mp | exact Lv.nil | exact Lv.z | exact Lv.dead | refine Lv.agg rfl ?_ | refine Lv.fn rfl ?_ rfl ?_ | refine Lv.tup rfl ?_ | refine Lv.ifc ?_ | exact am | refine ai ?_ ?_)) (ai (aF (by first | rfl | omega | (simp;done) | (simp;omega) | assumption)) (ai (aF (by first | rfl | omega | (simp;done) | (simp;omega) | assumption)) (ai (aF (by first | rfl | omega | (simp;done) | (simp;omega) | assumption)) (ai (aF (by first | rfl | omega | (simp;done) | (simp;omega) | assumption)) (ai (aF (by first | rfl | omega | (simp;done) | (simp;omega) | assumption)) (ai (aF (by first | rfl | omega | (simp;done) | (simp;omega) | assumption)) (ai (aF (by first | rfl | omega | (simp;done) | (simp;omega) | assumption)) (ai (aF (by first | rfl | omega | (simp;done) | (simp;omega) | assumption)) (ai (aF (by first | rfl | omega | (simp;done) | (simp;omega) | assumption)) (ai (aF (by first | rfl | omega | (simp;done) | (simp;omega) | assumption)) (ai (aF (by first | rfl | omega | (simp;done) | (simp;omega) | assumption)) (ai (aF (by first | rfl | omega | (simp;done) | (simp;omega) | assumption)) (ai (aF (by first | rfl | omega | (simp;done) | (simp;omega) | assumption)) (ai (aF (by first | rfl | omega | (simp;done) | (simp;omega) | assumption)) (ai (aF (by first | rfl | omega | (simp;done) | (simp;omega) | assumption)) (ai (aF (by first | rfl | omega | (simp;done) | (simp;omega) | assumption)) (ai (aF (by first | rfl | omega | (simp;done) | (simp;omega) | assumption)) (ai (aF (by first | rfl | omega | (simp;done) | (simp;omega) | assumption)) (ai (aF (by first | rfl | omega | (simp;done) | (simp;omega) | assumption)) (ai (aF (by first | rfl | omega | (simp;done) | (simp;omega) | assumption)) (ai (aF (by first | rfl | omega | (simp;done) | (simp;omega) | assumption)) (ai (aF (by first | rfl | omega | (simp;done) | (simp;omega) | assumption)) (ai (aF (by first | rfl | omega | (simp;done) | (simp;omega) | assumption)) (ai (aF (by first | rfl | omega | (simp;done) | (simp;omega) | assumption)) (ai (aF (by first | rfl | omega | (simp;done) | (simp;omega) | assumption)) (ai (aF (by first | rfl | omega | (simp;done) | (simp;omega) | assumption)) (ai (aF (by first | rfl | omega | (simp;done) | (simp;omega) | assumption)) (ai (aF (by first | rfl | omega | (simp;done) | (simp;omega) | assumption)) (ai (aF (by first | rfl | omega | (simp;done) | (simp;omega) | assumption)) (ai (aF (by first | rfl | omega | (simp;done) | (simp;omega) | assumption)) (ai (aF (by first | rfl | omega | (simp;done) | (simp;omega) | assumption)) (ai (aF (by first | rfl | omega | (simp;done) | (simp;omega) | assumption)) (ai (aF (by first | rfl | omega | (simp;done) | (simp;omega) | assumption)) (ai (aF (by first | rfl | omega | (simp;done) | (simp;omega) | assumption)) (ai (aF (by first | rfl | omega | (simp;done) | (simp;omega) | assumption)) (ai (aF (by first | rfl | omega | (simp;done) | (simp;omega) | assumption)) (ai (aF (by first | rfl | omega | (simp;done) | (simp;omega) | assumption)) (ai (aF (by first | rfl | omega | (simp;done) | (simp;omega) | assumption)) (ai (aF (by first | rfl | omega | (simp;done) | (simp;omega) | assumption)) (ai (aF (by first | rfl | omega | (simp;done) | (simp;omega) | assumption)) (ai (aF (by first | rfl | omega | (simp;done) | (simp;omega) | assumption)) (ai (aF (by first | rfl | omega | (simp;done) | (simp;omega) | assumption)) am)))))))))))))))))))))))))))))))))))))))))))),trivial⟩
      kernel_rfl
    omega
  obtain rfl:q=40:=by omega
  refine eP ?_
  refine id (hK3 _ ?_)
  clear hK3;try clear K3
  refine ay fun K8 hK8=> ?_
  refine an ?_
  refine aj (bf _ aa rfl (by exact iU)) ?_
  refine aj (au _ bc) ?_
  refine aj (bf _ aa rfl (by exact iU)) ?_
  refine aj (bf _ aa rfl (by exact iU)) ?_
  refine aj (bf _ aa rfl (by exact iU)) ?_
  refine aj (au _ bc) ?_
  refine aj (bf _ aa rfl (by exact iU)) ?_
  refine aj (bf _ aa rfl (by exact iU)) ?_
  refine aj (bf _ aa rfl (by exact iU)) ?_
  refine aj (bf _ aa rfl (by exact iU)) ?_
  refine aj (bf _ aa rfl (by exact iU)) ?_
  refine aj (bf _ aa rfl (by exact iU)) ?_
  refine aj (bf _ aa rfl (by exact iU)) ?_
  refine aj (bf _ aa rfl (by exact iU)) ?_
  refine aj (bf _ aa rfl (by exact iU)) ?_
  refine aj (bf _ aa rfl (by exact iU)) ?_
  refine aj (dG _ _ aa rfl ag (by first | (simp <;> rfl) | (simp;exact ⟨rfl,rfl⟩) | (simp;exact ⟨rfl,rfl,rfl⟩)) ah rfl) ?_
  first
    | refine aj (aA _ aa rfl rfl rfl) ?_
    | refine aj (aC _ aa rfl rfl) ?_
  refine aj (aT _ _ aa rfl rfl rfl rfl (Nat.le_of_ble_eq_true rfl) rfl) ?_
  refine ap (hK8 _ ?_)
  clear hK8;try clear K8
  refine ay fun K9 hK9=> ?_
  refine bP (σ':=bC 34 [(4,_),(5,_)] [((4,0),_),((5,0),_)] [] []) (by
    refine Le.mkJ [] [] rfl ?_ ?_ trivial trivial ?_
    · exact ⟨(iP rfl),(iP rfl),trivial⟩
    · exact ⟨(bn rfl rfl rfl),(bn rfl rfl rfl),trivial⟩
    kernel_rfl) ?_
  refine an ?_
  first
    | refine aj (bl _ aa rfl rfl rfl rfl) ?_
    | refine aj (bm _ aa rfl rfl (by first | rfl | assumption) rfl) ?_
    | refine aj (bg _ aa rfl (by first | rfl | assumption) rfl) ?_
  refine aj (aT _ _ aa rfl rfl rfl rfl (Nat.le_of_ble_eq_true rfl) rfl) ?_
  refine ap (hK9 _ ?_)
  clear hK9;try clear K9
  refine br ?_
  exact dk (.inr rfl) rfl (.cellA aa rfl rfl rfl) (Le.out [] [] (.agg rfl (ai (fy rfl rfl) (ai .v (ai .v (ai .v (ai .v (ai .v (ai .v (ai .v (ai .v (ai .v (ai .v (ai .v (ai .v (ai .v (ai .v (ai .v (ai .v (ai .v (ai .v (ai .v (ai .v (ai .v (ai .v (ai .v (ai .v (ai .v (ai .v (ai .v (ai .v (ai .v (ai .v (ai .v (ai .v (ai .v (ai .v (ai .v (ai .v (ai .v (ai .v (ai .v (ai .v (ai .v (ai .v am)))))))))))))))))))))))))))))))))))))))))))) rfl rfl rfl trivial trivial)

structure Mk where
  P:Pg
  iv:List Int
  names:List Int
  ans:List Int
abbrev Mk.nm (M:Mk) (k:Nat):Int:=M.names.getD k 0
abbrev Mk.cx (M:Mk):Cx:=⟨M.P.c,M.P.d,M.names,M.ans⟩
abbrev sE (c:AV) (e:Nat→Int) (d v:Int) (iv:AV) (nm:Nat→Int) (F ov ac:AV) (sp:Int) (sb:Bool) (cv st:AV) (pc dr se:Int) (en:Bool):List AV:=[c, .v (.int .i64 (e 0)), .v (.int .i64 (e 1)), .v (.int .i64 (e 2)), .v (.int .i64 (e 3)), .v (.int .i64 (e 4)), .v (.int .i64 (e 5)), .v (.int .i64 (e 6)), .v (.int .i64 (e 7)), .v (.int .i64 (e 8)), .v (.int .i64 (e 9)), .v (.int .i64 (e 10)), .v (.int .i64 (e 11)), .v (.int .i64 (e 12)), .v (.int .i64 (e 13)), .v (.int .i64 (e 14)), .v (.int .i64 (e 15)), .v (.int .i64 (e 16)), .v (.int .i64 (e 17)), .v (.int .i64 (e 18)), .v (.int .i64 (e 19)), .v (.int .i64 (e 20)), .v (.int .i64 (e 21)), .v (.int .i64 (e 22)), .v (.int .i64 (e 23)), .v (.int .i64 (e 24)), .v (.int .i64 (e 25)), .v (.int .i64 (e 26)), .v (.int .i64 (e 27)), .v (.int .i64 (e 28)), .v (.int .i64 (e 29)), .v (.int .i64 (e 30)), .v (.int .i64 (e 31)), .v (.int .i64 (e 32)), .v (.int .i64 (e 33)), .v (.int .i64 (e 34)), .v (.int .i64 (e 35)), .v (.int .i64 (e 36)), .v (.int .i64 (e 37)), .v (.int .i64 (e 38)), .v (.int .i64 (e 39)), .v (.int .i64 d), .v (.int .i64 v),iv, .v (.int .i64 (nm 0)), .v (.int .i64 (nm 1)), .v (.int .i64 (nm 2)), .v (.int .i64 (nm 3)), .v (.int .i64 (nm 4)), .v (.int .i64 (nm 5)), .v (.int .i64 (nm 6)), .v (.int .i64 (nm 7)), .v (.int .i64 (nm 8)),F,ov,ac, .v (.int .i64 sp), .v (.bool sb),cv,st, .v (.int .i64 pc), .v (.int .i64 dr), .v (.int .i64 se), .v (.bool en)]
abbrev nk:AV:= .fn (.func 17) [] []
abbrev qi (M:Mk) (s:Ms) (dr se:Int) (ac st:aw):List AV:=sE (.sl M.P.c.length (inl M.P.c)) M.P.e (M.P.d:Int) (M.P.v:Int) (.sl M.iv.length (ce M.iv)) M.nm nk (.ref (1,9) 0 s.vars.length) (.ref ac 0 s.acts.length) (s.steps:Int) false (.v (.slice none 0 0)) (.ref st 0 s.stack.length) (s.pc:Int) dr se s.fin
abbrev eH (M:Mk) (s:Ms) (dr se:Int) (ac st:aw):List (aw×Cells):=[((0,9), .box 68 (qi M s dr se ac st)),((1,9), .row 3 1 (ce s.vars)),(ac, .row 54 5 (mr s.acts)),(st, .row 3 1 (ce s.stack))]
abbrev eL (M:Mk) (s:Ms) (dr se:Int):List (aw×Cells):=eH M s dr se (2,9) (3,9)
theorem eV (x lo hi:Int):Spec Try.prog 68 (bq [.v (.int .i64 x), .v (.int .i64 lo), .v (.int .i64 hi)] []) (aX (.v (.int .i64 (max lo (min x hi)))) []):=by
  refine Spec.ofN Try.func68 rfl Try.ntmps68 rfl ?_
  refine ay fun K1 hK1=> ?_
  refine an ?_
  refine aj (aM _ bc) ?_
  refine ap (hK1 _ ?_)
  clear hK1;try clear K1
  refine ay fun K2 hK2=> ?_
  refine an ?_
  refine aj (au _ bc) ?_
  refine aj (au _ bc) ?_
  refine aj (au _ bc) ?_
  refine aj (oY _ _ rfl rfl rfl) ?_
  refine aj (ow _ _ rfl rfl rfl) ?_
  refine aj (aM _ bc) ?_
  refine ap (hK2 _ ?_)
  clear hK2;try clear K2
  refine br ?_
  exact km rfl rfl
theorem lK (l:List Int) (x:Int):ce l++[.v (.int .i64 x)]=ce (l++[x]):=by simp [ce]
theorem ky (l:List Int) (k:Nat):(ce l).take k=ce (l.take k):=by simp [ce]
theorem kG (x:Int):max (-2147483647) (min x 2147483647)=fF x:=rfl
section
variable (M:Mk) (s:Ms) (dr se:Int)
theorem bK (x:Int) (hs:s.stack.length≤100000):
    Spec Try.prog 36 (aZ [.ptr (0,9) 0, .v (.int .i64 x)] (eL M s dr se)) (aS (.tup []) (eH M { s with stack:=s.stack++[fF x] } dr se (2,9) (3,8)) [(0,9),(1,9),(2,9),(3,8)] [(0,9),(1,9),(2,9)]):=by
  have hc:=eV x (-2147483647) 2147483647
  rw [kG] at hc
  have hl:(s.stack++[fF x]).length=s.stack.length+1:=by simp
  refine Spec.ofNI Try.func36 rfl Try.ntmps36 rfl ?_
  refine bP (Le.incT (12,0) rfl) ?_
  refine oP 9 [4,5,6,7,8,9,10,11,12] [(3,9),(12,0)] [[],[],[],[(3,9)],[(3,9)],[(3,9)],[(3,9)],[(3,9)],[]] ae ae rfl (aQ rfl) (rfl:_=[_,_,_,_,_,_,_,_,_]) (rfl:_=[_,_,_]) ?_
  refine az (_,[]) (fun τ=> au _ bI) ?_
  refine aE (rfl:_=[_]) ?_
  refine az (_,[]) (fun τ=> au _ bI) ?_
  refine aE (rfl:_=[_,_]) ?_
  refine az (_,[]) (fun τ=> aR _ rfl rfl) ?_
  refine aE (rfl:_=[_,_,_]) ?_
  first
    | refine az (_,[]) (fun τ=> aA _ aa rfl rfl rfl) ?_
    | refine az (_,[]) (fun τ=> aC _ aa rfl rfl) ?_
  refine aE (rfl:_=[_,_,_,_]) ?_
  first
    | refine az (_,[]) (fun τ=> aK _ aa rfl rfl gx) ?_
    | refine az (_,[]) (fun τ=> aN _ aa rfl rfl (by first | rfl | exact ax _ _ ab | exact aG _ _ ab | assumption | exact ax _ _ ab) rfl) ?_
  refine aE (rfl:_=[_,_,_,_,_]) ?_
  refine az (_,[]) (fun τ=> au _ bc) ?_
  refine aE (rfl:_=[_,_,_,_,_,_]) ?_
  refine az (_,[]) (fun τ=> (ba aa (by repeat' (first | exact aJ | refine aI ?_ ?_ | exact Lv.v | exact aF ab | exact Lv.sl | exact Lv.fp | exact Lv.nil | refine Lv.agg rfl ?_ | refine Lv.fn rfl ?_ rfl ?_ | exact am | refine ai ?_ ?_ | exact Lv.z0)) (hc) rfl rfl)) ?_
  refine aE (rfl:_=[_,_,_,_,_,_,_]) ?_
  refine az (_,[]) (fun τ=> dG _ _ aa rfl ag (by first | (simp <;> rfl) | (simp;exact ⟨rfl,rfl⟩) | (simp;exact ⟨rfl,rfl,rfl⟩)) ah rfl) ?_
  refine aE (rfl:_=[_,_,_,_,_,_,_,_]) ?_
  refine az (_,[((3,9), .gone),((12,0),_)]) (fun τ=> ls (b:=true) (12,0) _ _ aa rfl (mN rfl (by exact lU) rfl) (by simp) (.sl rfl) ab rfl rfl rfl (lK _ _) hl.symm) ?_
  refine aE (rfl:_=[_,_,_,_,_,_,_,_,_]) ?_
  refine cf ⟨⟨rfl,by kernel_rfl⟩,?_⟩
  refine aj (aR _ rfl rfl) ?_
  first
    | refine aj (aA _ aa rfl rfl rfl) ?_
    | refine aj (aC _ aa rfl rfl) ?_
  refine aj (aT _ _ aa rfl rfl rfl rfl (Nat.le_of_ble_eq_true rfl) rfl) ?_
  refine ap ?_
  exact cR (.inl rfl) rfl (Le.outI [((3,8),(12,0))] [] (.tup rfl am) rfl rfl rfl trivial ⟨⟨rfl,⟨_,rfl, .box rfl (ai .sl (ai .v (ai .v (ai .v (ai .v (ai .v (ai .v (ai .v (ai .v (ai .v (ai .v (ai .v (ai .v (ai .v (ai .v (ai .v (ai .v (ai .v (ai .v (ai .v (ai .v (ai .v (ai .v (ai .v (ai .v (ai .v (ai .v (ai .v (ai .v (ai .v (ai .v (ai .v (ai .v (ai .v (ai .v (ai .v (ai .v (ai .v (ai .v (ai .v (ai .v (ai .v (ai .v (ai .sl (ai .v (ai .v (ai .v (ai .v (ai .v (ai .v (ai .v (ai .v (ai .v (ai (.fn rfl am rfl am) (ai (aq rfl rfl) (ai (aq rfl rfl) (ai .v (ai .v (ai .v (ai (aq rfl rfl) (ai .v (ai .v (ai .v (ai .v am))))))))))))))))))))))))))))))))))))))))))))))))))))))))))))))))⟩,rfl⟩,⟨rfl,⟨_,rfl, .rowE rfl⟩,rfl⟩,⟨rfl,⟨_,rfl, .rowE rfl⟩,rfl⟩,⟨rfl,⟨_,rfl, .rowE rfl⟩,rfl⟩,trivial⟩ ⟨rfl,rfl,rfl,trivial⟩ rfl)
theorem aW (hs:s.stack.length≤100000) (h0:0 < s.stack.length):
    Spec Try.prog 38 (aZ [.ptr (0,9) 0] (eL M s dr se)) (aS (.v (.int .i64 (s.top 0))) (eH M { s with stack:=s.pop 1 } dr se (2,9) (3,8)) [(0,9),(1,9),(2,9),(3,8)] [(0,9),(1,9),(2,9)]):=by
  obtain ⟨m,hm⟩: ∃ m,s.stack.length=m+1:=⟨s.stack.length - 1,by omega⟩
  have ht:s.top 0=s.stack.getD m 0:=by unfold Ms.top;rw [hm];rfl
  have hp:s.pop 1=s.stack.take m:=by unfold Ms.pop;rw [hm];rfl
  have hl:(s.stack.take m).length=m:=by rw [List.length_take];omega
  rw [ht,hp]
  refine Spec.ofNI Try.func38 rfl Try.ntmps38 rfl ?_
  refine ay fun K1 hK1=> ?_
  refine an ?_
  refine aj (aM _ bc) ?_
  refine ap (hK1 _ ?_)
  clear hK1;try clear K1
  refine ay fun K2 hK2=> ?_
  refine de 13 [4,5,6,7,8,9,10,11,12,13,14,15,3] [] ae ae rfl (aQ rfl) (rfl:_=[_,_,_,_,_,_,_,_,_,_,_,_,_]) (rfl:_=[]) ?_
  refine az (_,[]) (fun τ=> au _ bI) ?_
  refine aE (rfl:_=[_]) ?_
  refine az (_,[]) (fun τ=> aR _ rfl rfl) ?_
  refine aE (rfl:_=[_,_]) ?_
  first
    | refine az (_,[]) (fun τ=> aA _ aa rfl rfl rfl) ?_
    | refine az (_,[]) (fun τ=> aC _ aa rfl rfl) ?_
  refine aE (rfl:_=[_,_,_]) ?_
  first
    | refine az (_,[]) (fun τ=> aK _ aa rfl rfl gx) ?_
    | refine az (_,[]) (fun τ=> aN _ aa rfl rfl (by first | rfl | exact ax _ _ ab | exact aG _ _ ab | assumption | exact ax _ _ ab) rfl) ?_
  refine aE (rfl:_=[_,_,_,_]) ?_
  refine az (_,[]) (fun τ=> au _ bI) ?_
  refine aE (rfl:_=[_,_,_,_,_]) ?_
  refine az (_,[]) (fun τ=> aR _ rfl rfl) ?_
  refine aE (rfl:_=[_,_,_,_,_,_]) ?_
  first
    | refine az (_,[]) (fun τ=> aA _ aa rfl rfl rfl) ?_
    | refine az (_,[]) (fun τ=> aC _ aa rfl rfl) ?_
  refine aE (rfl:_=[_,_,_,_,_,_,_]) ?_
  first
    | refine az (_,[]) (fun τ=> aK _ aa rfl rfl gx) ?_
    | refine az (_,[]) (fun τ=> aN _ aa rfl rfl (by first | rfl | exact ax _ _ ab | exact aG _ _ ab | assumption | exact ax _ _ ab) rfl) ?_
  refine aE (rfl:_=[_,_,_,_,_,_,_,_]) ?_
  first
    | refine az (_,[]) (fun τ=> dO _ aa rfl rfl) ?_
    | refine az (_,[]) (fun τ=> dM _ aa rfl rfl) ?_
  refine aE (rfl:_=[_,_,_,_,_,_,_,_,_]) ?_
  refine az (_,[]) (fun τ=> jQ (r:=(m:Int)) _ _ rfl rfl ((dH ab).trans ab)) ?_
  refine aE (rfl:_=[_,_,_,_,_,_,_,_,_,_]) ?_
  first
    | refine az (_,[]) (fun τ=> bL _ _ aa rfl rfl rfl _ rfl ab (by first | exact (Nat.zero_add _).trans (Nat.mul_one _) | exact Nat.zero_add _ | rfl | omega)) ?_
    | refine az (_,[]) (fun τ=> bL _ _ aa rfl rfl rfl (Int.toNat _) (Int.toNat_of_nonneg ab).symm ab (by first | exact (Nat.zero_add _).trans (Nat.mul_one _) | exact Nat.zero_add _ | rfl | omega)) ?_
  refine aE (rfl:_=[_,_,_,_,_,_,_,_,_,_,_]) ?_
  first
    | refine az (_,[]) (fun τ=> aN _ aa rfl rfl (by first | rfl | exact ax _ _ ab | exact aG _ _ ab | assumption | exact ax _ _ ab) rfl) ?_
    | refine az (_,[]) (fun τ=> aK _ aa rfl rfl gg) ?_
  refine aE (rfl:_=[_,_,_,_,_,_,_,_,_,_,_,_]) ?_
  refine az (_,[]) (fun τ=> aM _ bc) ?_
  refine aE (rfl:_=[_,_,_,_,_,_,_,_,_,_,_,_,_]) ?_
  refine cf ⟨rfl,?_⟩
  refine ap (hK2 _ ?_)
  clear hK2;try clear K2
  refine ay fun K3 hK3=> ?_
  refine bP (σ':=bC 31 [(0,_),(3,_)] [((0,9),_),((1,9),_),((2,9),_),((3,9),_)] [(0,9),(1,9),(2,9),(3,9)] [(0,9),(1,9),(2,9)]) (by
    refine Le.mkJ [] [] rfl ?_ ?_ trivial ⟨rfl,rfl,rfl,trivial⟩ ?_
    · exact ⟨(iP rfl),(iV rfl),trivial⟩
    · exact ⟨(bn rfl rfl rfl),(bn rfl rfl rfl),(bn rfl rfl rfl),(bn rfl rfl rfl),trivial⟩
    kernel_rfl) ?_
  refine de 14 [16,17,18,19,20,21,22,23,24,25,26,27,28,29] [] ae ae rfl (aQ rfl) (rfl:_=[_,_,_,_,_,_,_,_,_,_,_,_,_,_]) (rfl:_=[_]) ?_
  refine az (_,[]) (fun τ=> au _ bI) ?_
  refine aE (rfl:_=[_]) ?_
  refine az (_,[]) (fun τ=> au _ bI) ?_
  refine aE (rfl:_=[_,_]) ?_
  refine az (_,[]) (fun τ=> aR _ rfl rfl) ?_
  refine aE (rfl:_=[_,_,_]) ?_
  first
    | refine az (_,[]) (fun τ=> aA _ aa rfl rfl rfl) ?_
    | refine az (_,[]) (fun τ=> aC _ aa rfl rfl) ?_
  refine aE (rfl:_=[_,_,_,_]) ?_
  first
    | refine az (_,[]) (fun τ=> aK _ aa rfl rfl gx) ?_
    | refine az (_,[]) (fun τ=> aN _ aa rfl rfl (by first | rfl | exact ax _ _ ab | exact aG _ _ ab | assumption | exact ax _ _ ab) rfl) ?_
  refine aE (rfl:_=[_,_,_,_,_]) ?_
  refine az (_,[]) (fun τ=> au _ bI) ?_
  refine aE (rfl:_=[_,_,_,_,_,_]) ?_
  refine az (_,[]) (fun τ=> aR _ rfl rfl) ?_
  refine aE (rfl:_=[_,_,_,_,_,_,_]) ?_
  first
    | refine az (_,[]) (fun τ=> aA _ aa rfl rfl rfl) ?_
    | refine az (_,[]) (fun τ=> aC _ aa rfl rfl) ?_
  refine aE (rfl:_=[_,_,_,_,_,_,_,_]) ?_
  first
    | refine az (_,[]) (fun τ=> aK _ aa rfl rfl gx) ?_
    | refine az (_,[]) (fun τ=> aN _ aa rfl rfl (by first | rfl | exact ax _ _ ab | exact aG _ _ ab | assumption | exact ax _ _ ab) rfl) ?_
  refine aE (rfl:_=[_,_,_,_,_,_,_,_,_]) ?_
  first
    | refine az (_,[]) (fun τ=> dO _ aa rfl rfl) ?_
    | refine az (_,[]) (fun τ=> dM _ aa rfl rfl) ?_
  refine aE (rfl:_=[_,_,_,_,_,_,_,_,_,_]) ?_
  refine az (_,[]) (fun τ=> jQ (r:=(m:Int)) _ _ rfl rfl ((dH ab).trans ab)) ?_
  refine aE (rfl:_=[_,_,_,_,_,_,_,_,_,_,_]) ?_
  refine az (_,[]) (fun τ=> oO _ _ _ aa rfl rfl 0 m .dflt (.lit rfl rfl) ab ab rfl rfl) ?_
  refine aE (rfl:_=[_,_,_,_,_,_,_,_,_,_,_,_]) ?_
  refine az (_,[]) (fun τ=> aR _ rfl rfl) ?_
  refine aE (rfl:_=[_,_,_,_,_,_,_,_,_,_,_,_,_]) ?_
  first
    | refine az (_,[]) (fun τ=> aA _ aa rfl rfl rfl) ?_
    | refine az (_,[]) (fun τ=> aC _ aa rfl rfl) ?_
  refine aE (rfl:_=[_,_,_,_,_,_,_,_,_,_,_,_,_,_]) ?_
  refine cf ⟨rfl,?_⟩
  refine aj (aT _ _ aa rfl rfl rfl rfl (Nat.le_of_ble_eq_true rfl) rfl) ?_
  refine ap (hK3 _ ?_)
  clear hK3;try clear K3
  refine ay fun K4 hK4=> ?_
  refine bP (Le.cutR (3,9) m rfl (ky _ _)) ?_
  refine an ?_
  refine aj (au _ bc) ?_
  refine aj (aM _ bc) ?_
  refine ap (hK4 _ ?_)
  clear hK4;try clear K4
  refine br ?_
  exact dk (.inr rfl) rfl (.tmp pd) (Le.outI [((3,8),(3,9))] [] .v rfl rfl rfl trivial ⟨⟨rfl,⟨_,rfl, .box rfl (ai .sl (ai .v (ai .v (ai .v (ai .v (ai .v (ai .v (ai .v (ai .v (ai .v (ai .v (ai .v (ai .v (ai .v (ai .v (ai .v (ai .v (ai .v (ai .v (ai .v (ai .v (ai .v (ai .v (ai .v (ai .v (ai .v (ai .v (ai .v (ai .v (ai .v (ai .v (ai .v (ai .v (ai .v (ai .v (ai .v (ai .v (ai .v (ai .v (ai .v (ai .v (ai .v (ai .v (ai .sl (ai .v (ai .v (ai .v (ai .v (ai .v (ai .v (ai .v (ai .v (ai .v (ai (.fn rfl am rfl am) (ai (aq rfl rfl) (ai (aq rfl rfl) (ai .v (ai .v (ai .v (ai (aq rfl hl) (ai .v (ai .v (ai .v (ai .v am))))))))))))))))))))))))))))))))))))))))))))))))))))))))))))))))⟩,rfl⟩,⟨rfl,⟨_,rfl, .rowE rfl⟩,rfl⟩,⟨rfl,⟨_,rfl, .rowE rfl⟩,rfl⟩,⟨rfl,⟨_,rfl, .rowE rfl⟩,rfl⟩,trivial⟩ ⟨rfl,rfl,rfl,trivial⟩ rfl)
theorem cz (k a b c d:Int) (hs:s.acts.length≤100000):
    Spec Try.prog 39 (aZ [.ptr (0,9) 0, .v (.int .i64 k), .v (.int .i64 a), .v (.int .i64 b), .v (.int .i64 c), .v (.int .i64 d)] (eL M s dr se)) (aS (.tup []) (eH M { s with acts:=s.acts++[{ k:=k,a:=a,b:=b,c:=c,d:=d }] } dr se (2,8) (3,9)) [(0,9),(1,9),(2,8),(3,9)] [(0,9),(1,9),(3,9)]):=by
  have hl:(s.acts++[({ k:=k,a:=a,b:=b,c:=c,d:=d }:Ac)]).length=s.acts.length+1:=by simp
  refine Spec.ofNI Try.func39 rfl Try.ntmps39 rfl ?_
  refine an ?_
  refine aj (au _ bI) ?_
  refine aj (au _ bI) ?_
  refine aj (aR _ rfl rfl) ?_
  first
    | refine aj (aA _ aa rfl rfl rfl) ?_
    | refine aj (aC _ aa rfl rfl) ?_
  first
    | refine aj (aA _ aa rfl rfl rfl) ?_
    | refine aj (aC _ aa rfl rfl) ?_
  first
    | refine aj (aK _ aa rfl rfl gx) ?_
    | refine aj (aN _ aa rfl rfl (by first | rfl | exact ax _ _ ab | exact aG _ _ ab | assumption | exact ax _ _ ab) rfl) ?_
  refine aj (au _ bc) ?_
  refine aj (au _ bc) ?_
  refine aj (au _ bc) ?_
  refine aj (au _ bc) ?_
  refine aj (au _ bc) ?_
  refine aj (bf _ aa rfl (by exact (rfl:_=some [_,_,_,_,_]))) ?_
  refine aj (dG _ _ aa rfl ag (by first | (simp <;> rfl) | (simp;exact ⟨rfl,rfl⟩) | (simp;exact ⟨rfl,rfl,rfl⟩)) ah rfl) ?_
  refine bj (Le.incT (25,0) rfl) ?_
  refine aj (ls (b:=true) (25,0) _ _ aa rfl rfl (iF _).symm (.sl rfl) ab rfl rfl rfl (lS _ { k:=k,a:=a,b:=b,c:=c,d:=d }) hl.symm) ?_
  refine aj (aR _ rfl rfl) ?_
  first
    | refine aj (aA _ aa rfl rfl rfl) ?_
    | refine aj (aC _ aa rfl rfl) ?_
  first
    | refine aj (aA _ aa rfl rfl rfl) ?_
    | refine aj (aC _ aa rfl rfl) ?_
  refine aj (aT _ _ aa rfl rfl rfl rfl (Nat.le_of_ble_eq_true rfl) rfl) ?_
  refine ap ?_
  exact cR (.inl rfl) rfl (Le.outI [((2,8),(25,0))] [] (.tup rfl am) rfl rfl rfl trivial ⟨⟨rfl,⟨_,rfl, .box rfl (ai .sl (ai .v (ai .v (ai .v (ai .v (ai .v (ai .v (ai .v (ai .v (ai .v (ai .v (ai .v (ai .v (ai .v (ai .v (ai .v (ai .v (ai .v (ai .v (ai .v (ai .v (ai .v (ai .v (ai .v (ai .v (ai .v (ai .v (ai .v (ai .v (ai .v (ai .v (ai .v (ai .v (ai .v (ai .v (ai .v (ai .v (ai .v (ai .v (ai .v (ai .v (ai .v (ai .v (ai .sl (ai .v (ai .v (ai .v (ai .v (ai .v (ai .v (ai .v (ai .v (ai .v (ai (.fn rfl am rfl am) (ai (aq rfl rfl) (ai (aq rfl rfl) (ai .v (ai .v (ai .v (ai (aq rfl rfl) (ai .v (ai .v (ai .v (ai .v am))))))))))))))))))))))))))))))))))))))))))))))))))))))))))))))))⟩,rfl⟩,⟨rfl,⟨_,rfl, .rowE rfl⟩,rfl⟩,⟨rfl,⟨_,rfl, .rowE rfl⟩,rfl⟩,⟨rfl,⟨_,rfl, .rowE rfl⟩,rfl⟩,trivial⟩ ⟨rfl,rfl,rfl,trivial⟩ rfl)
end

section
variable (M:Mk) (s:Ms) (dr se:Int)
theorem nc (n:Int) (hs:s.stack.length≤90000):
    Spec Try.prog 34 (aZ [.ptr (0,9) 0, .v (.int .i64 n)] (eL M s dr se)) (aS (.tup []) (eH M { s with stack:=s.stack++[fF n] } dr se (2,8) (3,8)) [(0,9),(1,9),(2,8),(3,8)] [(0,9),(1,9)]):=by
  refine Spec.ofNI Try.func34 rfl Try.ntmps34 rfl ?_
  refine an ?_
  refine aj (au _ bI) ?_
  refine aj (au _ bc) ?_
  refine bj (Le.incT (6,0) rfl) ?_
  refine aj (aH aa [((3,8),(6,0))] ?_ (bK M s dr se n ab) ⟨⟨rfl,⟨_,rfl, .box ag (ai .sl (ai .v (ai .v (ai .v (ai .v (ai .v (ai .v (ai .v (ai .v (ai .v (ai .v (ai .v (ai .v (ai .v (ai .v (ai .v (ai .v (ai .v (ai .v (ai .v (ai .v (ai .v (ai .v (ai .v (ai .v (ai .v (ai .v (ai .v (ai .v (ai .v (ai .v (ai .v (ai .v (ai .v (ai .v (ai .v (ai .v (ai .v (ai .v (ai .v (ai .v (ai .v (ai .v (ai .sl (ai .v (ai .v (ai .v (ai .v (ai .v (ai .v (ai .v (ai .v (ai .v (ai (.fn rfl am rfl am) (ai (aq (id:=(1,9)) (id':=(1,9)) rfl rfl) (ai (aq (id:=(2,9)) (id':=(2,9)) rfl rfl) (ai .v (ai .v (ai .v (ai (aq (id:=(3,9)) (id':=(3,9)) rfl rfl) (ai .v (ai .v (ai .v (ai .v am))))))))))))))))))))))))))))))))))))))))))))))))))))))))))))))))⟩,rfl⟩,⟨rfl,⟨_,rfl, .rowE rfl⟩,rfl⟩,⟨rfl,⟨_,rfl, .rowE rfl⟩,rfl⟩,⟨rfl,⟨_,rfl, .rowE rfl⟩,rfl⟩,trivial⟩ ⟨rfl,rfl,rfl,rfl,trivial⟩ ⟨rfl,rfl,rfl,rfl,trivial⟩ rfl ae ae) ?_
  · repeat' (first | exact aD | refine aB ?_ ?_ | exact Lv.v | exact aF (by assumption) | exact aF ab | exact Lv.sl | exact Lv.fp | exact Lv.nil | exact aq rfl rfl | exact aP rfl | refine Lv.agg rfl ?_ | refine Lv.fn rfl ?_ rfl ?_ | refine Lv.ifc ?_ | exact am | refine ai ?_ ?_)
  refine ap ?_
  exact cR (.inl rfl) rfl (Le.outI [((2,8),(2,9)),((3,8),(6,0))] [] (.tup rfl am) rfl rfl rfl trivial ⟨⟨rfl,⟨_,rfl, .box rfl (ai .sl (ai .v (ai .v (ai .v (ai .v (ai .v (ai .v (ai .v (ai .v (ai .v (ai .v (ai .v (ai .v (ai .v (ai .v (ai .v (ai .v (ai .v (ai .v (ai .v (ai .v (ai .v (ai .v (ai .v (ai .v (ai .v (ai .v (ai .v (ai .v (ai .v (ai .v (ai .v (ai .v (ai .v (ai .v (ai .v (ai .v (ai .v (ai .v (ai .v (ai .v (ai .v (ai .v (ai .sl (ai .v (ai .v (ai .v (ai .v (ai .v (ai .v (ai .v (ai .v (ai .v (ai (.fn rfl am rfl am) (ai (aq rfl rfl) (ai (aq rfl rfl) (ai .v (ai .v (ai .v (ai (aq rfl rfl) (ai .v (ai .v (ai .v (ai .v am))))))))))))))))))))))))))))))))))))))))))))))))))))))))))))))))⟩,rfl⟩,⟨rfl,⟨_,rfl, .rowE rfl⟩,rfl⟩,⟨rfl,⟨_,rfl, .rowE rfl⟩,rfl⟩,⟨rfl,⟨_,rfl, .rowE rfl⟩,rfl⟩,trivial⟩ ⟨rfl,rfl,trivial⟩ rfl)
theorem mI (k:Nat) (hk:k < s.vars.length) (hs:s.stack.length≤90000):
    Spec Try.prog 35 (aZ [.ptr (0,9) 0, .v (.int .i64 (k:Int))] (eL M s dr se)) (aS (.tup []) (eH M { s with stack:=s.stack++[fF (s.vars.getD k 0)] } dr se (2,8) (3,8)) [(0,9),(1,9),(2,8),(3,8)] [(0,9),(1,9)]):=by
  refine Spec.ofNI Try.func35 rfl Try.ntmps35 rfl ?_
  refine an ?_
  refine aj (au _ bI) ?_
  refine aj (au _ bI) ?_
  refine aj (aR _ rfl rfl) ?_
  first
    | refine aj (aA _ aa rfl rfl rfl) ?_
    | refine aj (aC _ aa rfl rfl) ?_
  first
    | refine aj (aA _ aa rfl rfl rfl) ?_
    | refine aj (aC _ aa rfl rfl) ?_
  first
    | refine aj (aK _ aa rfl rfl gx) ?_
    | refine aj (aN _ aa rfl rfl (by first | rfl | exact ax _ _ ab | exact aG _ _ ab | assumption | exact ax _ _ ab) rfl) ?_
  refine aj (au _ bc) ?_
  first
    | refine aj (bL _ _ aa rfl rfl rfl _ rfl ab (by first | exact (Nat.zero_add _).trans (Nat.mul_one _) | exact Nat.zero_add _ | rfl | omega)) ?_
    | refine aj (bL _ _ aa rfl rfl rfl (Int.toNat _) (Int.toNat_of_nonneg ab).symm ab (by first | exact (Nat.zero_add _).trans (Nat.mul_one _) | exact Nat.zero_add _ | rfl | omega)) ?_
  first
    | refine aj (aN _ aa rfl rfl (by first | rfl | exact ax _ _ ab | exact aG _ _ ab | assumption | exact ax _ _ ab) rfl) ?_
    | refine aj (aK _ aa rfl rfl gg) ?_
  refine bj (Le.incT (13,0) rfl) ?_
  refine aj (aH aa [((3,8),(13,0))] ?_ (bK M s dr se (s.vars.getD k 0) ab) ⟨⟨rfl,⟨_,rfl, .box ag (ai .sl (ai .v (ai .v (ai .v (ai .v (ai .v (ai .v (ai .v (ai .v (ai .v (ai .v (ai .v (ai .v (ai .v (ai .v (ai .v (ai .v (ai .v (ai .v (ai .v (ai .v (ai .v (ai .v (ai .v (ai .v (ai .v (ai .v (ai .v (ai .v (ai .v (ai .v (ai .v (ai .v (ai .v (ai .v (ai .v (ai .v (ai .v (ai .v (ai .v (ai .v (ai .v (ai .v (ai .sl (ai .v (ai .v (ai .v (ai .v (ai .v (ai .v (ai .v (ai .v (ai .v (ai (.fn rfl am rfl am) (ai (aq (id:=(1,9)) (id':=(1,9)) rfl rfl) (ai (aq (id:=(2,9)) (id':=(2,9)) rfl rfl) (ai .v (ai .v (ai .v (ai (aq (id:=(3,9)) (id':=(3,9)) rfl rfl) (ai .v (ai .v (ai .v (ai .v am))))))))))))))))))))))))))))))))))))))))))))))))))))))))))))))))⟩,rfl⟩,⟨rfl,⟨_,rfl, .rowE rfl⟩,rfl⟩,⟨rfl,⟨_,rfl, .rowE rfl⟩,rfl⟩,⟨rfl,⟨_,rfl, .rowE rfl⟩,rfl⟩,trivial⟩ ⟨rfl,rfl,rfl,rfl,trivial⟩ ⟨rfl,rfl,rfl,rfl,trivial⟩ rfl ae ae) ?_
  · repeat' (first | exact aD | refine aB ?_ ?_ | exact Lv.v | exact aF (by assumption) | exact aF ab | exact Lv.sl | exact Lv.fp | exact Lv.nil | exact aq rfl rfl | exact aP rfl | refine Lv.agg rfl ?_ | refine Lv.fn rfl ?_ rfl ?_ | refine Lv.ifc ?_ | exact am | refine ai ?_ ?_)
  refine ap ?_
  exact cR (.inl rfl) rfl (Le.outI [((2,8),(2,9)),((3,8),(13,0))] [] (.tup rfl am) rfl rfl rfl trivial ⟨⟨rfl,⟨_,rfl, .box rfl (ai .sl (ai .v (ai .v (ai .v (ai .v (ai .v (ai .v (ai .v (ai .v (ai .v (ai .v (ai .v (ai .v (ai .v (ai .v (ai .v (ai .v (ai .v (ai .v (ai .v (ai .v (ai .v (ai .v (ai .v (ai .v (ai .v (ai .v (ai .v (ai .v (ai .v (ai .v (ai .v (ai .v (ai .v (ai .v (ai .v (ai .v (ai .v (ai .v (ai .v (ai .v (ai .v (ai .v (ai .sl (ai .v (ai .v (ai .v (ai .v (ai .v (ai .v (ai .v (ai .v (ai .v (ai (.fn rfl am rfl am) (ai (aq rfl rfl) (ai (aq rfl rfl) (ai .v (ai .v (ai .v (ai (aq rfl rfl) (ai .v (ai .v (ai .v (ai .v am))))))))))))))))))))))))))))))))))))))))))))))))))))))))))))))))⟩,rfl⟩,⟨rfl,⟨_,rfl, .rowE rfl⟩,rfl⟩,⟨rfl,⟨_,rfl, .rowE rfl⟩,rfl⟩,⟨rfl,⟨_,rfl, .rowE rfl⟩,rfl⟩,trivial⟩ ⟨rfl,rfl,trivial⟩ rfl)
theorem kX (n:Int) (ha:s.acts.length≤90000):
    Spec Try.prog 57 (aZ [.ptr (0,9) 0, .v (.int .i64 n)] (eL M s dr se)) (aS (.tup []) (eH M { s with acts:=s.acts++[{ k:=4,a:=n }] } dr se (2,8) (3,8)) [(0,9),(1,9),(2,8),(3,8)] [(0,9),(1,9)]):=by
  refine Spec.ofNI Try.func57 rfl Try.ntmps57 rfl ?_
  refine an ?_
  refine aj (au _ bI) ?_
  refine aj (au _ bc) ?_
  refine bj (Le.incT (6,0) rfl) ?_
  refine aj (aH aa [((2,8),(6,0))] ?_ (cz M s dr se 4 n 0 0 0 ab) ⟨⟨rfl,⟨_,rfl, .box ag (ai .sl (ai .v (ai .v (ai .v (ai .v (ai .v (ai .v (ai .v (ai .v (ai .v (ai .v (ai .v (ai .v (ai .v (ai .v (ai .v (ai .v (ai .v (ai .v (ai .v (ai .v (ai .v (ai .v (ai .v (ai .v (ai .v (ai .v (ai .v (ai .v (ai .v (ai .v (ai .v (ai .v (ai .v (ai .v (ai .v (ai .v (ai .v (ai .v (ai .v (ai .v (ai .v (ai .v (ai .sl (ai .v (ai .v (ai .v (ai .v (ai .v (ai .v (ai .v (ai .v (ai .v (ai (.fn rfl am rfl am) (ai (aq (id:=(1,9)) (id':=(1,9)) rfl rfl) (ai (aq (id:=(2,9)) (id':=(2,9)) rfl rfl) (ai .v (ai .v (ai .v (ai (aq (id:=(3,9)) (id':=(3,9)) rfl rfl) (ai .v (ai .v (ai .v (ai .v am))))))))))))))))))))))))))))))))))))))))))))))))))))))))))))))))⟩,rfl⟩,⟨rfl,⟨_,rfl, .rowE rfl⟩,rfl⟩,⟨rfl,⟨_,rfl, .rowE rfl⟩,rfl⟩,⟨rfl,⟨_,rfl, .rowE rfl⟩,rfl⟩,trivial⟩ ⟨rfl,rfl,rfl,rfl,trivial⟩ ⟨rfl,rfl,rfl,rfl,trivial⟩ rfl ae ae) ?_
  · repeat' (first | exact aD | refine aB ?_ ?_ | exact Lv.v | exact aF (by assumption) | exact aF ab | exact Lv.sl | exact Lv.fp | exact Lv.nil | exact aq rfl rfl | exact aP rfl | refine Lv.agg rfl ?_ | refine Lv.fn rfl ?_ rfl ?_ | refine Lv.ifc ?_ | exact am | refine ai ?_ ?_)
  refine ap ?_
  exact cR (.inl rfl) rfl (Le.outI [((2,8),(6,0)),((3,8),(3,9))] [] (.tup rfl am) rfl rfl rfl trivial ⟨⟨rfl,⟨_,rfl, .box rfl (ai .sl (ai .v (ai .v (ai .v (ai .v (ai .v (ai .v (ai .v (ai .v (ai .v (ai .v (ai .v (ai .v (ai .v (ai .v (ai .v (ai .v (ai .v (ai .v (ai .v (ai .v (ai .v (ai .v (ai .v (ai .v (ai .v (ai .v (ai .v (ai .v (ai .v (ai .v (ai .v (ai .v (ai .v (ai .v (ai .v (ai .v (ai .v (ai .v (ai .v (ai .v (ai .v (ai .v (ai .sl (ai .v (ai .v (ai .v (ai .v (ai .v (ai .v (ai .v (ai .v (ai .v (ai (.fn rfl am rfl am) (ai (aq rfl rfl) (ai (aq rfl rfl) (ai .v (ai .v (ai .v (ai (aq rfl rfl) (ai .v (ai .v (ai .v (ai .v am))))))))))))))))))))))))))))))))))))))))))))))))))))))))))))))))⟩,rfl⟩,⟨rfl,⟨_,rfl, .rowE rfl⟩,rfl⟩,⟨rfl,⟨_,rfl, .rowE rfl⟩,rfl⟩,⟨rfl,⟨_,rfl, .rowE rfl⟩,rfl⟩,trivial⟩ ⟨rfl,rfl,trivial⟩ rfl)
theorem kH (n:Int) (ha:s.acts.length≤90000):
    Spec Try.prog 58 (aZ [.ptr (0,9) 0, .v (.int .i64 n)] (eL M s dr se)) (aS (.tup []) (eH M { s with acts:=s.acts++[{ k:=5,a:=n }] } dr se (2,8) (3,8)) [(0,9),(1,9),(2,8),(3,8)] [(0,9),(1,9)]):=by
  refine Spec.ofNI Try.func58 rfl Try.ntmps58 rfl ?_
  refine an ?_
  refine aj (au _ bI) ?_
  refine aj (au _ bc) ?_
  refine bj (Le.incT (6,0) rfl) ?_
  refine aj (aH aa [((2,8),(6,0))] ?_ (cz M s dr se 5 n 0 0 0 ab) ⟨⟨rfl,⟨_,rfl, .box ag (ai .sl (ai .v (ai .v (ai .v (ai .v (ai .v (ai .v (ai .v (ai .v (ai .v (ai .v (ai .v (ai .v (ai .v (ai .v (ai .v (ai .v (ai .v (ai .v (ai .v (ai .v (ai .v (ai .v (ai .v (ai .v (ai .v (ai .v (ai .v (ai .v (ai .v (ai .v (ai .v (ai .v (ai .v (ai .v (ai .v (ai .v (ai .v (ai .v (ai .v (ai .v (ai .v (ai .v (ai .sl (ai .v (ai .v (ai .v (ai .v (ai .v (ai .v (ai .v (ai .v (ai .v (ai (.fn rfl am rfl am) (ai (aq (id:=(1,9)) (id':=(1,9)) rfl rfl) (ai (aq (id:=(2,9)) (id':=(2,9)) rfl rfl) (ai .v (ai .v (ai .v (ai (aq (id:=(3,9)) (id':=(3,9)) rfl rfl) (ai .v (ai .v (ai .v (ai .v am))))))))))))))))))))))))))))))))))))))))))))))))))))))))))))))))⟩,rfl⟩,⟨rfl,⟨_,rfl, .rowE rfl⟩,rfl⟩,⟨rfl,⟨_,rfl, .rowE rfl⟩,rfl⟩,⟨rfl,⟨_,rfl, .rowE rfl⟩,rfl⟩,trivial⟩ ⟨rfl,rfl,rfl,rfl,trivial⟩ ⟨rfl,rfl,rfl,rfl,trivial⟩ rfl ae ae) ?_
  · repeat' (first | exact aD | refine aB ?_ ?_ | exact Lv.v | exact aF (by assumption) | exact aF ab | exact Lv.sl | exact Lv.fp | exact Lv.nil | exact aq rfl rfl | exact aP rfl | refine Lv.agg rfl ?_ | refine Lv.fn rfl ?_ rfl ?_ | refine Lv.ifc ?_ | exact am | refine ai ?_ ?_)
  refine ap ?_
  exact cR (.inl rfl) rfl (Le.outI [((2,8),(6,0)),((3,8),(3,9))] [] (.tup rfl am) rfl rfl rfl trivial ⟨⟨rfl,⟨_,rfl, .box rfl (ai .sl (ai .v (ai .v (ai .v (ai .v (ai .v (ai .v (ai .v (ai .v (ai .v (ai .v (ai .v (ai .v (ai .v (ai .v (ai .v (ai .v (ai .v (ai .v (ai .v (ai .v (ai .v (ai .v (ai .v (ai .v (ai .v (ai .v (ai .v (ai .v (ai .v (ai .v (ai .v (ai .v (ai .v (ai .v (ai .v (ai .v (ai .v (ai .v (ai .v (ai .v (ai .v (ai .v (ai .sl (ai .v (ai .v (ai .v (ai .v (ai .v (ai .v (ai .v (ai .v (ai .v (ai (.fn rfl am rfl am) (ai (aq rfl rfl) (ai (aq rfl rfl) (ai .v (ai .v (ai .v (ai (aq rfl rfl) (ai .v (ai .v (ai .v (ai .v am))))))))))))))))))))))))))))))))))))))))))))))))))))))))))))))))⟩,rfl⟩,⟨rfl,⟨_,rfl, .rowE rfl⟩,rfl⟩,⟨rfl,⟨_,rfl, .rowE rfl⟩,rfl⟩,⟨rfl,⟨_,rfl, .rowE rfl⟩,rfl⟩,trivial⟩ ⟨rfl,rfl,trivial⟩ rfl)
theorem mD (n:Int) (ha:s.acts.length≤90000):
    Spec Try.prog 59 (aZ [.ptr (0,9) 0, .v (.int .i64 n)] (eL M s dr se)) (aS (.tup []) (eH M { s with acts:=s.acts++[{ k:=2 }] } dr se (2,8) (3,8)) [(0,9),(1,9),(2,8),(3,8)] [(0,9),(1,9)]):=by
  refine Spec.ofNI Try.func59 rfl Try.ntmps59 rfl ?_
  refine an ?_
  refine aj (au _ bI) ?_
  refine bj (Le.incT (5,0) rfl) ?_
  refine aj (aH aa [((2,8),(5,0))] ?_ (cz M s dr se 2 0 0 0 0 ab) ⟨⟨rfl,⟨_,rfl, .box ag (ai .sl (ai .v (ai .v (ai .v (ai .v (ai .v (ai .v (ai .v (ai .v (ai .v (ai .v (ai .v (ai .v (ai .v (ai .v (ai .v (ai .v (ai .v (ai .v (ai .v (ai .v (ai .v (ai .v (ai .v (ai .v (ai .v (ai .v (ai .v (ai .v (ai .v (ai .v (ai .v (ai .v (ai .v (ai .v (ai .v (ai .v (ai .v (ai .v (ai .v (ai .v (ai .v (ai .v (ai .sl (ai .v (ai .v (ai .v (ai .v (ai .v (ai .v (ai .v (ai .v (ai .v (ai (.fn rfl am rfl am) (ai (aq (id:=(1,9)) (id':=(1,9)) rfl rfl) (ai (aq (id:=(2,9)) (id':=(2,9)) rfl rfl) (ai .v (ai .v (ai .v (ai (aq (id:=(3,9)) (id':=(3,9)) rfl rfl) (ai .v (ai .v (ai .v (ai .v am))))))))))))))))))))))))))))))))))))))))))))))))))))))))))))))))⟩,rfl⟩,⟨rfl,⟨_,rfl, .rowE rfl⟩,rfl⟩,⟨rfl,⟨_,rfl, .rowE rfl⟩,rfl⟩,⟨rfl,⟨_,rfl, .rowE rfl⟩,rfl⟩,trivial⟩ ⟨rfl,rfl,rfl,rfl,trivial⟩ ⟨rfl,rfl,rfl,rfl,trivial⟩ rfl ae ae) ?_
  · repeat' (first | exact aD | refine aB ?_ ?_ | exact Lv.v | exact aF (by assumption) | exact aF ab | exact Lv.sl | exact Lv.fp | exact Lv.nil | exact aq rfl rfl | exact aP rfl | refine Lv.agg rfl ?_ | refine Lv.fn rfl ?_ rfl ?_ | refine Lv.ifc ?_ | exact am | refine ai ?_ ?_)
  refine ap ?_
  exact cR (.inl rfl) rfl (Le.outI [((2,8),(5,0)),((3,8),(3,9))] [] (.tup rfl am) rfl rfl rfl trivial ⟨⟨rfl,⟨_,rfl, .box rfl (ai .sl (ai .v (ai .v (ai .v (ai .v (ai .v (ai .v (ai .v (ai .v (ai .v (ai .v (ai .v (ai .v (ai .v (ai .v (ai .v (ai .v (ai .v (ai .v (ai .v (ai .v (ai .v (ai .v (ai .v (ai .v (ai .v (ai .v (ai .v (ai .v (ai .v (ai .v (ai .v (ai .v (ai .v (ai .v (ai .v (ai .v (ai .v (ai .v (ai .v (ai .v (ai .v (ai .v (ai .sl (ai .v (ai .v (ai .v (ai .v (ai .v (ai .v (ai .v (ai .v (ai .v (ai (.fn rfl am rfl am) (ai (aq rfl rfl) (ai (aq rfl rfl) (ai .v (ai .v (ai .v (ai (aq rfl rfl) (ai .v (ai .v (ai .v (ai .v am))))))))))))))))))))))))))))))))))))))))))))))))))))))))))))))))⟩,rfl⟩,⟨rfl,⟨_,rfl, .rowE rfl⟩,rfl⟩,⟨rfl,⟨_,rfl, .rowE rfl⟩,rfl⟩,⟨rfl,⟨_,rfl, .rowE rfl⟩,rfl⟩,trivial⟩ ⟨rfl,rfl,trivial⟩ rfl)
theorem mv (n:Int):
    Spec Try.prog 62 (aZ [.ptr (0,9) 0, .v (.int .i64 n)] (eL M s dr se)) (aS (.tup []) (eH M { s with fin:=true } dr se (2,8) (3,8)) [(0,9),(1,9),(2,8),(3,8)] [(0,9),(1,9)]):=by
  refine Spec.ofNI Try.func62 rfl Try.ntmps62 rfl ?_
  refine an ?_
  refine aj (au _ bI) ?_
  refine aj (aR _ rfl rfl) ?_
  first
    | refine aj (aA _ aa rfl rfl rfl) ?_
    | refine aj (aC _ aa rfl rfl) ?_
  refine aj (aT _ _ aa rfl rfl rfl rfl (Nat.le_of_ble_eq_true rfl) rfl) ?_
  refine ap ?_
  exact cR (.inl rfl) rfl (Le.outI [((2,8),(2,9)),((3,8),(3,9))] [] (.tup rfl am) rfl rfl rfl trivial ⟨⟨rfl,⟨_,rfl, .box rfl (ai .sl (ai .v (ai .v (ai .v (ai .v (ai .v (ai .v (ai .v (ai .v (ai .v (ai .v (ai .v (ai .v (ai .v (ai .v (ai .v (ai .v (ai .v (ai .v (ai .v (ai .v (ai .v (ai .v (ai .v (ai .v (ai .v (ai .v (ai .v (ai .v (ai .v (ai .v (ai .v (ai .v (ai .v (ai .v (ai .v (ai .v (ai .v (ai .v (ai .v (ai .v (ai .v (ai .v (ai .sl (ai .v (ai .v (ai .v (ai .v (ai .v (ai .v (ai .v (ai .v (ai .v (ai (.fn rfl am rfl am) (ai (aq rfl rfl) (ai (aq rfl rfl) (ai .v (ai .v (ai .v (ai (aq rfl rfl) (ai .v (ai .v (ai .v (ai .v am))))))))))))))))))))))))))))))))))))))))))))))))))))))))))))))))⟩,rfl⟩,⟨rfl,⟨_,rfl, .rowE rfl⟩,rfl⟩,⟨rfl,⟨_,rfl, .rowE rfl⟩,rfl⟩,⟨rfl,⟨_,rfl, .rowE rfl⟩,rfl⟩,trivial⟩ ⟨rfl,rfl,trivial⟩ rfl)
theorem mW (n:Nat):
    Spec Try.prog 54 (aZ [.ptr (0,9) 0, .v (.int .i64 (n:Int))] (eL M s dr se)) (aS (.tup []) (eH M { s with pc:=n } dr se (2,8) (3,8)) [(0,9),(1,9),(2,8),(3,8)] [(0,9),(1,9)]):=by
  refine Spec.ofNI Try.func54 rfl Try.ntmps54 rfl ?_
  refine an ?_
  refine aj (au _ bI) ?_
  refine aj (au _ bc) ?_
  refine aj (aR _ rfl rfl) ?_
  first
    | refine aj (aA _ aa rfl rfl rfl) ?_
    | refine aj (aC _ aa rfl rfl) ?_
  refine aj (aT _ _ aa rfl rfl rfl rfl (Nat.le_of_ble_eq_true rfl) rfl) ?_
  refine ap ?_
  exact cR (.inl rfl) rfl (Le.outI [((2,8),(2,9)),((3,8),(3,9))] [] (.tup rfl am) rfl rfl rfl trivial ⟨⟨rfl,⟨_,rfl, .box rfl (ai .sl (ai .v (ai .v (ai .v (ai .v (ai .v (ai .v (ai .v (ai .v (ai .v (ai .v (ai .v (ai .v (ai .v (ai .v (ai .v (ai .v (ai .v (ai .v (ai .v (ai .v (ai .v (ai .v (ai .v (ai .v (ai .v (ai .v (ai .v (ai .v (ai .v (ai .v (ai .v (ai .v (ai .v (ai .v (ai .v (ai .v (ai .v (ai .v (ai .v (ai .v (ai .v (ai .v (ai .sl (ai .v (ai .v (ai .v (ai .v (ai .v (ai .v (ai .v (ai .v (ai .v (ai (.fn rfl am rfl am) (ai (aq rfl rfl) (ai (aq rfl rfl) (ai .v (ai .v (ai .v (ai (aq rfl rfl) (ai .v (ai .v (ai .v (ai .v am))))))))))))))))))))))))))))))))))))))))))))))))))))))))))))))))⟩,rfl⟩,⟨rfl,⟨_,rfl, .rowE rfl⟩,rfl⟩,⟨rfl,⟨_,rfl, .rowE rfl⟩,rfl⟩,⟨rfl,⟨_,rfl, .rowE rfl⟩,rfl⟩,trivial⟩ ⟨rfl,rfl,trivial⟩ rfl)
theorem mH (n:Int) (hs:s.stack.length≤90000) (h0:0 < s.stack.length) (hr:Rg (s.top 0)):
    Spec Try.prog 48 (aZ [.ptr (0,9) 0, .v (.int .i64 n)] (eL M s dr se)) (aS (.tup []) (eH M { s with stack:=s.pop 1++[fF (-(s.top 0))] } dr se (2,8) (3,8)) [(0,9),(1,9),(2,8),(3,8)] [(0,9),(1,9)]):=by
  unfold Rg at hr
  refine Spec.ofNI Try.func48 rfl Try.ntmps48 rfl ?_
  refine an ?_
  refine aj (au _ bI) ?_
  refine aj (au _ bI) ?_
  refine bj (Le.incT (6,0) rfl) ?_
  refine aj (aH aa [((3,8),(6,0))] ?_ (aW M s dr se ab h0) ⟨⟨rfl,⟨_,rfl, .box ag (ai .sl (ai .v (ai .v (ai .v (ai .v (ai .v (ai .v (ai .v (ai .v (ai .v (ai .v (ai .v (ai .v (ai .v (ai .v (ai .v (ai .v (ai .v (ai .v (ai .v (ai .v (ai .v (ai .v (ai .v (ai .v (ai .v (ai .v (ai .v (ai .v (ai .v (ai .v (ai .v (ai .v (ai .v (ai .v (ai .v (ai .v (ai .v (ai .v (ai .v (ai .v (ai .v (ai .v (ai .sl (ai .v (ai .v (ai .v (ai .v (ai .v (ai .v (ai .v (ai .v (ai .v (ai (.fn rfl am rfl am) (ai (aq (id:=(1,9)) (id':=(1,9)) rfl rfl) (ai (aq (id:=(2,9)) (id':=(2,9)) rfl rfl) (ai .v (ai .v (ai .v (ai (aq (id:=(3,9)) (id':=(3,9)) rfl rfl) (ai .v (ai .v (ai .v (ai .v am))))))))))))))))))))))))))))))))))))))))))))))))))))))))))))))))⟩,rfl⟩,⟨rfl,⟨_,rfl, .rowE rfl⟩,rfl⟩,⟨rfl,⟨_,rfl, .rowE rfl⟩,rfl⟩,⟨rfl,⟨_,rfl, .rowE rfl⟩,rfl⟩,trivial⟩ ⟨rfl,rfl,rfl,rfl,trivial⟩ ⟨rfl,rfl,rfl,rfl,trivial⟩ rfl ae ae) ?_
  · repeat' (first | exact aD | refine aB ?_ ?_ | exact Lv.v | exact aF (by assumption) | exact aF ab | exact Lv.sl | exact Lv.fp | exact Lv.nil | exact aq rfl rfl | exact aP rfl | refine Lv.agg rfl ?_ | refine Lv.fn rfl ?_ rfl ?_ | refine Lv.ifc ?_ | exact am | refine ai ?_ ?_)
  refine aj (jP (r:= -(s.top 0)) _ rfl (dH ab)) ?_
  refine bj (Le.incT (8,0) rfl) ?_
  refine aj (aH aa [((3,9),(6,0)),((3,8),(8,0))] ?_ (bK M { s with stack:=s.pop 1 } dr se (-(s.top 0)) (by have:=bd s 1;simp only;omega)) ⟨⟨rfl,⟨_,rfl, .box ag (ai .sl (ai .v (ai .v (ai .v (ai .v (ai .v (ai .v (ai .v (ai .v (ai .v (ai .v (ai .v (ai .v (ai .v (ai .v (ai .v (ai .v (ai .v (ai .v (ai .v (ai .v (ai .v (ai .v (ai .v (ai .v (ai .v (ai .v (ai .v (ai .v (ai .v (ai .v (ai .v (ai .v (ai .v (ai .v (ai .v (ai .v (ai .v (ai .v (ai .v (ai .v (ai .v (ai .v (ai .sl (ai .v (ai .v (ai .v (ai .v (ai .v (ai .v (ai .v (ai .v (ai .v (ai (.fn rfl am rfl am) (ai (aq (id:=(1,9)) (id':=(1,9)) rfl rfl) (ai (aq (id:=(2,9)) (id':=(2,9)) rfl rfl) (ai .v (ai .v (ai .v (ai (aq (id:=(3,9)) (id':=(6,0)) rfl rfl) (ai .v (ai .v (ai .v (ai .v am))))))))))))))))))))))))))))))))))))))))))))))))))))))))))))))))⟩,rfl⟩,⟨rfl,⟨_,rfl, .rowE rfl⟩,rfl⟩,⟨rfl,⟨_,rfl, .rowE rfl⟩,rfl⟩,⟨rfl,⟨_,rfl, .rowE rfl⟩,rfl⟩,trivial⟩ ⟨rfl,rfl,rfl,rfl,trivial⟩ ⟨rfl,rfl,rfl,rfl,trivial⟩ rfl ae ae) ?_
  · repeat' (first | exact aD | refine aB ?_ ?_ | exact Lv.v | exact aF (by assumption) | exact aF ab | exact Lv.sl | exact Lv.fp | exact Lv.nil | exact aq rfl rfl | exact aP rfl | refine Lv.agg rfl ?_ | refine Lv.fn rfl ?_ rfl ?_ | refine Lv.ifc ?_ | exact am | refine ai ?_ ?_)
  refine ap ?_
  exact cR (.inl rfl) rfl (Le.outI [((2,8),(2,9)),((3,8),(8,0))] [] (.tup rfl am) rfl rfl rfl trivial ⟨⟨rfl,⟨_,rfl, .box rfl (ai .sl (ai .v (ai .v (ai .v (ai .v (ai .v (ai .v (ai .v (ai .v (ai .v (ai .v (ai .v (ai .v (ai .v (ai .v (ai .v (ai .v (ai .v (ai .v (ai .v (ai .v (ai .v (ai .v (ai .v (ai .v (ai .v (ai .v (ai .v (ai .v (ai .v (ai .v (ai .v (ai .v (ai .v (ai .v (ai .v (ai .v (ai .v (ai .v (ai .v (ai .v (ai .v (ai .v (ai .sl (ai .v (ai .v (ai .v (ai .v (ai .v (ai .v (ai .v (ai .v (ai .v (ai (.fn rfl am rfl am) (ai (aq rfl rfl) (ai (aq rfl rfl) (ai .v (ai .v (ai .v (ai (aq rfl rfl) (ai .v (ai .v (ai .v (ai .v am))))))))))))))))))))))))))))))))))))))))))))))))))))))))))))))))⟩,rfl⟩,⟨rfl,⟨_,rfl, .rowE rfl⟩,rfl⟩,⟨rfl,⟨_,rfl, .rowE rfl⟩,rfl⟩,⟨rfl,⟨_,rfl, .rowE rfl⟩,rfl⟩,trivial⟩ ⟨rfl,rfl,trivial⟩ rfl)
theorem lP (n:Int) (hs:s.stack.length≤90000) (ha:s.acts.length≤90000) (h0:0 < s.stack.length):
    Spec Try.prog 61 (aZ [.ptr (0,9) 0, .v (.int .i64 n)] (eL M s dr se)) (aS (.tup []) (eH M { s with stack:=s.pop 1,acts:=s.acts++[{ k:=7,a:=s.top 0 }] } dr se (2,8) (3,8)) [(0,9),(1,9),(2,8),(3,8)] [(0,9),(1,9)]):=by
  refine Spec.ofNI Try.func61 rfl Try.ntmps61 rfl ?_
  refine an ?_
  refine aj (au _ bI) ?_
  refine aj (au _ bI) ?_
  refine bj (Le.incT (6,0) rfl) ?_
  refine aj (aH aa [((3,8),(6,0))] ?_ (aW M s dr se ab h0) ⟨⟨rfl,⟨_,rfl, .box ag (ai .sl (ai .v (ai .v (ai .v (ai .v (ai .v (ai .v (ai .v (ai .v (ai .v (ai .v (ai .v (ai .v (ai .v (ai .v (ai .v (ai .v (ai .v (ai .v (ai .v (ai .v (ai .v (ai .v (ai .v (ai .v (ai .v (ai .v (ai .v (ai .v (ai .v (ai .v (ai .v (ai .v (ai .v (ai .v (ai .v (ai .v (ai .v (ai .v (ai .v (ai .v (ai .v (ai .v (ai .sl (ai .v (ai .v (ai .v (ai .v (ai .v (ai .v (ai .v (ai .v (ai .v (ai (.fn rfl am rfl am) (ai (aq (id:=(1,9)) (id':=(1,9)) rfl rfl) (ai (aq (id:=(2,9)) (id':=(2,9)) rfl rfl) (ai .v (ai .v (ai .v (ai (aq (id:=(3,9)) (id':=(3,9)) rfl rfl) (ai .v (ai .v (ai .v (ai .v am))))))))))))))))))))))))))))))))))))))))))))))))))))))))))))))))⟩,rfl⟩,⟨rfl,⟨_,rfl, .rowE rfl⟩,rfl⟩,⟨rfl,⟨_,rfl, .rowE rfl⟩,rfl⟩,⟨rfl,⟨_,rfl, .rowE rfl⟩,rfl⟩,trivial⟩ ⟨rfl,rfl,rfl,rfl,trivial⟩ ⟨rfl,rfl,rfl,rfl,trivial⟩ rfl ae ae) ?_
  · repeat' (first | exact aD | refine aB ?_ ?_ | exact Lv.v | exact aF (by assumption) | exact aF ab | exact Lv.sl | exact Lv.fp | exact Lv.nil | exact aq rfl rfl | exact aP rfl | refine Lv.agg rfl ?_ | refine Lv.fn rfl ?_ rfl ?_ | refine Lv.ifc ?_ | exact am | refine ai ?_ ?_)
  refine bj (Le.incT (7,0) rfl) ?_
  refine aj (aH aa [((3,9),(6,0)),((2,8),(7,0))] ?_ (cz M { s with stack:=s.pop 1 } dr se 7 (s.top 0) 0 0 0 (by simp only;omega)) ⟨⟨rfl,⟨_,rfl, .box ag (ai .sl (ai .v (ai .v (ai .v (ai .v (ai .v (ai .v (ai .v (ai .v (ai .v (ai .v (ai .v (ai .v (ai .v (ai .v (ai .v (ai .v (ai .v (ai .v (ai .v (ai .v (ai .v (ai .v (ai .v (ai .v (ai .v (ai .v (ai .v (ai .v (ai .v (ai .v (ai .v (ai .v (ai .v (ai .v (ai .v (ai .v (ai .v (ai .v (ai .v (ai .v (ai .v (ai .v (ai .sl (ai .v (ai .v (ai .v (ai .v (ai .v (ai .v (ai .v (ai .v (ai .v (ai (.fn rfl am rfl am) (ai (aq (id:=(1,9)) (id':=(1,9)) rfl rfl) (ai (aq (id:=(2,9)) (id':=(2,9)) rfl rfl) (ai .v (ai .v (ai .v (ai (aq (id:=(3,9)) (id':=(6,0)) rfl rfl) (ai .v (ai .v (ai .v (ai .v am))))))))))))))))))))))))))))))))))))))))))))))))))))))))))))))))⟩,rfl⟩,⟨rfl,⟨_,rfl, .rowE rfl⟩,rfl⟩,⟨rfl,⟨_,rfl, .rowE rfl⟩,rfl⟩,⟨rfl,⟨_,rfl, .rowE rfl⟩,rfl⟩,trivial⟩ ⟨rfl,rfl,rfl,rfl,trivial⟩ ⟨rfl,rfl,rfl,rfl,trivial⟩ rfl ae ae) ?_
  · repeat' (first | exact aD | refine aB ?_ ?_ | exact Lv.v | exact aF (by assumption) | exact aF ab | exact Lv.sl | exact Lv.fp | exact Lv.nil | exact aq rfl rfl | exact aP rfl | refine Lv.agg rfl ?_ | refine Lv.fn rfl ?_ rfl ?_ | refine Lv.ifc ?_ | exact am | refine ai ?_ ?_)
  refine ap ?_
  exact cR (.inl rfl) rfl (Le.outI [((2,8),(7,0)),((3,8),(6,0))] [] (.tup rfl am) rfl rfl rfl trivial ⟨⟨rfl,⟨_,rfl, .box rfl (ai .sl (ai .v (ai .v (ai .v (ai .v (ai .v (ai .v (ai .v (ai .v (ai .v (ai .v (ai .v (ai .v (ai .v (ai .v (ai .v (ai .v (ai .v (ai .v (ai .v (ai .v (ai .v (ai .v (ai .v (ai .v (ai .v (ai .v (ai .v (ai .v (ai .v (ai .v (ai .v (ai .v (ai .v (ai .v (ai .v (ai .v (ai .v (ai .v (ai .v (ai .v (ai .v (ai .v (ai .sl (ai .v (ai .v (ai .v (ai .v (ai .v (ai .v (ai .v (ai .v (ai .v (ai (.fn rfl am rfl am) (ai (aq rfl rfl) (ai (aq rfl rfl) (ai .v (ai .v (ai .v (ai (aq rfl rfl) (ai .v (ai .v (ai .v (ai .v am))))))))))))))))))))))))))))))))))))))))))))))))))))))))))))))))⟩,rfl⟩,⟨rfl,⟨_,rfl, .rowE rfl⟩,rfl⟩,⟨rfl,⟨_,rfl, .rowE rfl⟩,rfl⟩,⟨rfl,⟨_,rfl, .rowE rfl⟩,rfl⟩,trivial⟩ ⟨rfl,rfl,trivial⟩ rfl)
end

section
variable (M:Mk) (s:Ms) (dr se:Int)
theorem lB (k:Nat) (hk:k < s.vars.length) (hs:s.stack.length≤90000) (ha:s.acts.length≤90000) (h0:0 < s.stack.length) (hd:k < M.P.d):
    Spec Try.prog 37 (aZ [.ptr (0,9) 0, .v (.int .i64 (k:Int))] (eL M s dr se)) (aS (.tup []) (eH M { s with vars:=s.vars.set k (s.top 0),stack:=s.pop 1,acts:=s.acts++[{ k:=1,a:=k,b:=s.top 0 }] } dr se (2,8) (3,8)) [(0,9),(1,9),(2,8),(3,8)] [(0,9),(1,9)]):=by
  have hl:(s.vars.set k (s.top 0)).length=s.vars.length:=List.length_set
  have hg:=ax (s.vars.set k (s.top 0)) k (by rw [hl];exact hk)
  rw [List.getD_eq_getElem?_getD,List.getElem?_set_self hk] at hg
  refine Spec.ofNI Try.func37 rfl Try.ntmps37 rfl ?_
  refine ay fun K1 hK1=> ?_
  refine bP (Le.incT (11,0) rfl) ?_
  refine ku (0,9) (fun c=> ∃ xs,c=Slot.obj (.box 68 xs)∧xs[54]? =some (.ref (1,9) 0 s.vars.length)) 8 [4,5,6,7,8,9,10,11] [(0,9),(1,9),(2,9),(11,0),(3,9)] ae ae rfl (aQ rfl) (rfl:_=[_,_,_,_,_,_,_,_]) (rfl:_=[_,_]) (⟨_,rfl,rfl⟩) ?_
  refine cj (_,[]) (fun τ hτ=> au _ bI) ?_
  refine ck (rfl:_=[_]) ?_
  refine cj (_,[]) (fun τ hτ=> aR _ rfl (by exact hτ.choose_spec.1)) ?_
  refine ck (rfl:_=[_,_]) ?_
  refine cj (_,[]) (fun τ hτ=> aA _ aa rfl (by exact hτ.choose_spec.1) rfl) ?_
  refine ck (rfl:_=[_,_,_]) ?_
  refine cj (_,[]) (fun τ hτ=> aA _ aa rfl (by exact hτ.choose_spec.1) rfl) ?_
  refine ck (rfl:_=[_,_,_,_]) ?_
  refine cj (_,[]) (fun τ hτ=> aK _ aa rfl (by exact hτ.choose_spec.1) (by exact hτ.choose_spec.2)) ?_
  refine ck (rfl:_=[_,_,_,_,_]) ?_
  refine cj (_,[]) (fun τ hτ=> au _ bc) ?_
  refine ck (rfl:_=[_,_,_,_,_,_]) ?_
  refine cj (_,[]) (fun τ hτ=> au _ bI) ?_
  refine ck (rfl:_=[_,_,_,_,_,_,_]) ?_
  refine cj (_,[((0,9),_),((1,9),_),((2,9),_),((11,0),_),((3,9), .gone)]) (fun τ hτ=> (aH aa [((3,8),(11,0))] ?_ (aW M s dr se ab h0) ⟨⟨rfl,⟨_,rfl, .box ag (ai .sl (ai .v (ai .v (ai .v (ai .v (ai .v (ai .v (ai .v (ai .v (ai .v (ai .v (ai .v (ai .v (ai .v (ai .v (ai .v (ai .v (ai .v (ai .v (ai .v (ai .v (ai .v (ai .v (ai .v (ai .v (ai .v (ai .v (ai .v (ai .v (ai .v (ai .v (ai .v (ai .v (ai .v (ai .v (ai .v (ai .v (ai .v (ai .v (ai .v (ai .v (ai .v (ai .v (ai .sl (ai .v (ai .v (ai .v (ai .v (ai .v (ai .v (ai .v (ai .v (ai .v (ai (.fn rfl am rfl am) (ai (aq (id:=(1,9)) (id':=(1,9)) rfl rfl) (ai (aq (id:=(2,9)) (id':=(2,9)) rfl rfl) (ai .v (ai .v (ai .v (ai (aq (id:=(3,9)) (id':=(3,9)) rfl rfl) (ai .v (ai .v (ai .v (ai .v am))))))))))))))))))))))))))))))))))))))))))))))))))))))))))))))))⟩,rfl⟩,⟨rfl,⟨_,rfl, .rowE rfl⟩,rfl⟩,⟨rfl,⟨_,rfl, .rowE rfl⟩,rfl⟩,⟨rfl,⟨_,rfl, .rowE rfl⟩,rfl⟩,trivial⟩ ⟨rfl,rfl,rfl,rfl,trivial⟩ ⟨rfl,rfl,rfl,rfl,trivial⟩ rfl ae ae)) ?_
  · repeat' (first | exact aD | refine aB ?_ ?_ | exact Lv.v | exact aF (by assumption) | exact aF ab | exact Lv.sl | exact Lv.fp | exact Lv.nil | exact aq rfl rfl | exact aP rfl | refine Lv.agg rfl ?_ | refine Lv.fn rfl ?_ rfl ?_ | refine Lv.ifc ?_ | exact am | refine ai ?_ ?_)
  refine ck (rfl:_=[_,_,_,_,_,_,_,_]) ?_
  refine jp ⟨⟨rfl,(by intro r hr c hc;simp only [List.mem_cons,List.not_mem_nil,or_false] at hr;rcases hr with rfl | rfl | rfl | rfl | rfl | rfl | rfl | rfl <;> simp at hc;subst hc;exact ⟨_,rfl,rfl⟩)⟩,?_⟩
  first
    | refine aj (bL _ _ aa rfl rfl rfl _ rfl ab (by first | exact (Nat.zero_add _).trans (Nat.mul_one _) | exact Nat.zero_add _ | rfl | omega)) ?_
    | refine aj (bL _ _ aa rfl rfl rfl (Int.toNat _) (Int.toNat_of_nonneg ab).symm ab (by first | exact (Nat.zero_add _).trans (Nat.mul_one _) | exact Nat.zero_add _ | rfl | omega)) ?_
  refine aj (jL _ _ aa rfl rfl rfl rfl rfl (by rw [bk];exact hk) (ia s.vars k (s.top 0) hk)) ?_
  refine ap (hK1 _ ?_)
  clear hK1;try clear K1
  refine ay fun K2 hK2=> ?_
  refine an ?_
  refine aj (au _ bc) ?_
  refine aj (au _ bI) ?_
  refine aj (aR _ rfl rfl) ?_
  first
    | refine aj (aA _ aa rfl rfl rfl) ?_
    | refine aj (aC _ aa rfl rfl) ?_
  first
    | refine aj (aA _ aa rfl rfl rfl) ?_
    | refine aj (aC _ aa rfl rfl) ?_
  first
    | refine aj (aK _ aa rfl rfl gg) ?_
    | refine aj (aN _ aa rfl rfl (by first | rfl | exact ax _ _ ab | exact aG _ _ ab | assumption | exact ax _ _ ab) rfl) ?_
  first
    | refine aj (bo _ _ rfl rfl (by assumption)) ?_
    | refine aj (bo _ _ rfl rfl rfl) ?_
  refine ap (hK2 _ ?_)
  clear hK2;try clear K2
  refine gH rfl (decide_eq_true ab) ?_
  refine bP (σ':=bC 31 [(0,_),(1,_)] [((0,9),_),((1,9),_),((2,9),_),((11,0),_)] [(0,9),(1,9),(2,9),(11,0)] [(0,9),(1,9)]) (by
    refine Le.mkJ [] [] rfl ?_ ?_ trivial ⟨rfl,rfl,trivial⟩ ?_
    · exact ⟨(iP rfl),(iV rfl),trivial⟩
    · exact ⟨(bn rfl rfl rfl),(bn rfl rfl rfl),(bn rfl rfl rfl),(bn rfl rfl rfl),trivial⟩
    kernel_rfl) ?_
  refine an ?_
  refine aj (au _ bI) ?_
  refine aj (au _ bc) ?_
  refine aj (au _ bI) ?_
  refine aj (aR _ rfl rfl) ?_
  first
    | refine aj (aA _ aa rfl rfl rfl) ?_
    | refine aj (aC _ aa rfl rfl) ?_
  first
    | refine aj (aA _ aa rfl rfl rfl) ?_
    | refine aj (aC _ aa rfl rfl) ?_
  first
    | refine aj (aK _ aa rfl rfl gx) ?_
    | refine aj (aN _ aa rfl rfl (by first | rfl | exact ax _ _ ab | exact aG _ _ ab | assumption | exact ax _ _ ab) rfl) ?_
  refine aj (au _ bc) ?_
  first
    | refine aj (bL _ _ aa rfl rfl rfl _ rfl ab (by first | exact (Nat.zero_add _).trans (Nat.mul_one _) | exact Nat.zero_add _ | rfl | omega)) ?_
    | refine aj (bL _ _ aa rfl rfl rfl (Int.toNat _) (Int.toNat_of_nonneg ab).symm ab (by first | exact (Nat.zero_add _).trans (Nat.mul_one _) | exact Nat.zero_add _ | rfl | omega)) ?_
  refine aj (aN _ aa rfl rfl (by exact hg) rfl) ?_
  refine bj (Le.incT (30,0) rfl) ?_
  refine aj (aH aa [((3,9),(11,0)),((2,8),(30,0))] ?_ (cz M { s with vars:=s.vars.set k (s.top 0),stack:=s.pop 1 } dr se 1 (k:Int) (s.top 0) 0 0 (by simp only;omega)) ⟨⟨rfl,⟨_,rfl, .box ag (ai .sl (ai .v (ai .v (ai .v (ai .v (ai .v (ai .v (ai .v (ai .v (ai .v (ai .v (ai .v (ai .v (ai .v (ai .v (ai .v (ai .v (ai .v (ai .v (ai .v (ai .v (ai .v (ai .v (ai .v (ai .v (ai .v (ai .v (ai .v (ai .v (ai .v (ai .v (ai .v (ai .v (ai .v (ai .v (ai .v (ai .v (ai .v (ai .v (ai .v (ai .v (ai .v (ai .v (ai .sl (ai .v (ai .v (ai .v (ai .v (ai .v (ai .v (ai .v (ai .v (ai .v (ai (.fn rfl am rfl am) (ai (aq (id:=(1,9)) (id':=(1,9)) rfl hl) (ai (aq (id:=(2,9)) (id':=(2,9)) rfl rfl) (ai .v (ai .v (ai .v (ai (aq (id:=(3,9)) (id':=(11,0)) rfl rfl) (ai .v (ai .v (ai .v (ai .v am))))))))))))))))))))))))))))))))))))))))))))))))))))))))))))))))⟩,rfl⟩,⟨rfl,⟨_,rfl, .rowE rfl⟩,rfl⟩,⟨rfl,⟨_,rfl, .rowE rfl⟩,rfl⟩,⟨rfl,⟨_,rfl, .rowE rfl⟩,rfl⟩,trivial⟩ ⟨rfl,rfl,rfl,rfl,trivial⟩ ⟨rfl,rfl,rfl,rfl,trivial⟩ rfl ae ae) ?_
  · repeat' (first | exact aD | refine aB ?_ ?_ | exact Lv.v | exact aF (by assumption) | exact aF ab | exact Lv.sl | exact Lv.fp | exact Lv.nil | exact aq rfl rfl | exact aP rfl | refine Lv.agg rfl ?_ | refine Lv.fn rfl ?_ rfl ?_ | refine Lv.ifc ?_ | exact am | refine ai ?_ ?_)
  refine ap ?_
  exact cR (.inl rfl) rfl (Le.outI [((2,8),(30,0)),((3,8),(11,0))] [] (.tup rfl am) rfl rfl rfl trivial ⟨⟨rfl,⟨_,rfl, .box rfl (ai .sl (ai .v (ai .v (ai .v (ai .v (ai .v (ai .v (ai .v (ai .v (ai .v (ai .v (ai .v (ai .v (ai .v (ai .v (ai .v (ai .v (ai .v (ai .v (ai .v (ai .v (ai .v (ai .v (ai .v (ai .v (ai .v (ai .v (ai .v (ai .v (ai .v (ai .v (ai .v (ai .v (ai .v (ai .v (ai .v (ai .v (ai .v (ai .v (ai .v (ai .v (ai .v (ai .v (ai .sl (ai .v (ai .v (ai .v (ai .v (ai .v (ai .v (ai .v (ai .v (ai .v (ai (.fn rfl am rfl am) (ai (aq rfl rfl) (ai (aq rfl rfl) (ai .v (ai .v (ai .v (ai (aq rfl rfl) (ai .v (ai .v (ai .v (ai .v am))))))))))))))))))))))))))))))))))))))))))))))))))))))))))))))))⟩,rfl⟩,⟨rfl,⟨_,rfl, .rowE rfl⟩,rfl⟩,⟨rfl,⟨_,rfl, .rowE rfl⟩,rfl⟩,⟨rfl,⟨_,rfl, .rowE rfl⟩,rfl⟩,trivial⟩ ⟨rfl,rfl,trivial⟩ rfl)
theorem lL (k:Nat) (hk:k < s.vars.length) (hs:s.stack.length≤90000) (h0:0 < s.stack.length) (hd:M.P.d≤k):
    Spec Try.prog 37 (aZ [.ptr (0,9) 0, .v (.int .i64 (k:Int))] (eL M s dr se)) (aS (.tup []) (eH M { s with vars:=s.vars.set k (s.top 0),stack:=s.pop 1 } dr se (2,8) (3,8)) [(0,9),(1,9),(2,8),(3,8)] [(0,9),(1,9)]):=by
  have hl:(s.vars.set k (s.top 0)).length=s.vars.length:=List.length_set
  have hg:=ax (s.vars.set k (s.top 0)) k (by rw [hl];exact hk)
  rw [List.getD_eq_getElem?_getD,List.getElem?_set_self hk] at hg
  refine Spec.ofNI Try.func37 rfl Try.ntmps37 rfl ?_
  refine ay fun K1 hK1=> ?_
  refine bP (Le.incT (11,0) rfl) ?_
  refine ku (0,9) (fun c=> ∃ xs,c=Slot.obj (.box 68 xs)∧xs[54]? =some (.ref (1,9) 0 s.vars.length)) 8 [4,5,6,7,8,9,10,11] [(0,9),(1,9),(2,9),(11,0),(3,9)] ae ae rfl (aQ rfl) (rfl:_=[_,_,_,_,_,_,_,_]) (rfl:_=[_,_]) (⟨_,rfl,rfl⟩) ?_
  refine cj (_,[]) (fun τ hτ=> au _ bI) ?_
  refine ck (rfl:_=[_]) ?_
  refine cj (_,[]) (fun τ hτ=> aR _ rfl (by exact hτ.choose_spec.1)) ?_
  refine ck (rfl:_=[_,_]) ?_
  refine cj (_,[]) (fun τ hτ=> aA _ aa rfl (by exact hτ.choose_spec.1) rfl) ?_
  refine ck (rfl:_=[_,_,_]) ?_
  refine cj (_,[]) (fun τ hτ=> aA _ aa rfl (by exact hτ.choose_spec.1) rfl) ?_
  refine ck (rfl:_=[_,_,_,_]) ?_
  refine cj (_,[]) (fun τ hτ=> aK _ aa rfl (by exact hτ.choose_spec.1) (by exact hτ.choose_spec.2)) ?_
  refine ck (rfl:_=[_,_,_,_,_]) ?_
  refine cj (_,[]) (fun τ hτ=> au _ bc) ?_
  refine ck (rfl:_=[_,_,_,_,_,_]) ?_
  refine cj (_,[]) (fun τ hτ=> au _ bI) ?_
  refine ck (rfl:_=[_,_,_,_,_,_,_]) ?_
  refine cj (_,[((0,9),_),((1,9),_),((2,9),_),((11,0),_),((3,9), .gone)]) (fun τ hτ=> (aH aa [((3,8),(11,0))] ?_ (aW M s dr se ab h0) ⟨⟨rfl,⟨_,rfl, .box ag (ai .sl (ai .v (ai .v (ai .v (ai .v (ai .v (ai .v (ai .v (ai .v (ai .v (ai .v (ai .v (ai .v (ai .v (ai .v (ai .v (ai .v (ai .v (ai .v (ai .v (ai .v (ai .v (ai .v (ai .v (ai .v (ai .v (ai .v (ai .v (ai .v (ai .v (ai .v (ai .v (ai .v (ai .v (ai .v (ai .v (ai .v (ai .v (ai .v (ai .v (ai .v (ai .v (ai .v (ai .sl (ai .v (ai .v (ai .v (ai .v (ai .v (ai .v (ai .v (ai .v (ai .v (ai (.fn rfl am rfl am) (ai (aq (id:=(1,9)) (id':=(1,9)) rfl rfl) (ai (aq (id:=(2,9)) (id':=(2,9)) rfl rfl) (ai .v (ai .v (ai .v (ai (aq (id:=(3,9)) (id':=(3,9)) rfl rfl) (ai .v (ai .v (ai .v (ai .v am))))))))))))))))))))))))))))))))))))))))))))))))))))))))))))))))⟩,rfl⟩,⟨rfl,⟨_,rfl, .rowE rfl⟩,rfl⟩,⟨rfl,⟨_,rfl, .rowE rfl⟩,rfl⟩,⟨rfl,⟨_,rfl, .rowE rfl⟩,rfl⟩,trivial⟩ ⟨rfl,rfl,rfl,rfl,trivial⟩ ⟨rfl,rfl,rfl,rfl,trivial⟩ rfl ae ae)) ?_
  · repeat' (first | exact aD | refine aB ?_ ?_ | exact Lv.v | exact aF (by assumption) | exact aF ab | exact Lv.sl | exact Lv.fp | exact Lv.nil | exact aq rfl rfl | exact aP rfl | refine Lv.agg rfl ?_ | refine Lv.fn rfl ?_ rfl ?_ | refine Lv.ifc ?_ | exact am | refine ai ?_ ?_)
  refine ck (rfl:_=[_,_,_,_,_,_,_,_]) ?_
  refine jp ⟨⟨rfl,(by intro r hr c hc;simp only [List.mem_cons,List.not_mem_nil,or_false] at hr;rcases hr with rfl | rfl | rfl | rfl | rfl | rfl | rfl | rfl <;> simp at hc;subst hc;exact ⟨_,rfl,rfl⟩)⟩,?_⟩
  first
    | refine aj (bL _ _ aa rfl rfl rfl _ rfl ab (by first | exact (Nat.zero_add _).trans (Nat.mul_one _) | exact Nat.zero_add _ | rfl | omega)) ?_
    | refine aj (bL _ _ aa rfl rfl rfl (Int.toNat _) (Int.toNat_of_nonneg ab).symm ab (by first | exact (Nat.zero_add _).trans (Nat.mul_one _) | exact Nat.zero_add _ | rfl | omega)) ?_
  refine aj (jL _ _ aa rfl rfl rfl rfl rfl (by rw [bk];exact hk) (ia s.vars k (s.top 0) hk)) ?_
  refine ap (hK1 _ ?_)
  clear hK1;try clear K1
  refine ay fun K2 hK2=> ?_
  refine an ?_
  refine aj (au _ bc) ?_
  refine aj (au _ bI) ?_
  refine aj (aR _ rfl rfl) ?_
  first
    | refine aj (aA _ aa rfl rfl rfl) ?_
    | refine aj (aC _ aa rfl rfl) ?_
  first
    | refine aj (aA _ aa rfl rfl rfl) ?_
    | refine aj (aC _ aa rfl rfl) ?_
  first
    | refine aj (aK _ aa rfl rfl gg) ?_
    | refine aj (aN _ aa rfl rfl (by first | rfl | exact ax _ _ ab | exact aG _ _ ab | assumption | exact ax _ _ ab) rfl) ?_
  first
    | refine aj (bo _ _ rfl rfl (by assumption)) ?_
    | refine aj (bo _ _ rfl rfl rfl) ?_
  refine ap (hK2 _ ?_)
  clear hK2;try clear K2
  refine eE rfl (decide_eq_false ab) ?_
  refine bw ?_
  exact cR (.inl rfl) rfl (Le.outI [((2,8),(2,9)),((3,8),(11,0))] [] (.tup rfl am) rfl rfl rfl trivial ⟨⟨rfl,⟨_,rfl, .box rfl (ai .sl (ai .v (ai .v (ai .v (ai .v (ai .v (ai .v (ai .v (ai .v (ai .v (ai .v (ai .v (ai .v (ai .v (ai .v (ai .v (ai .v (ai .v (ai .v (ai .v (ai .v (ai .v (ai .v (ai .v (ai .v (ai .v (ai .v (ai .v (ai .v (ai .v (ai .v (ai .v (ai .v (ai .v (ai .v (ai .v (ai .v (ai .v (ai .v (ai .v (ai .v (ai .v (ai .v (ai .sl (ai .v (ai .v (ai .v (ai .v (ai .v (ai .v (ai .v (ai .v (ai .v (ai (.fn rfl am rfl am) (ai (aq rfl hl) (ai (aq rfl rfl) (ai .v (ai .v (ai .v (ai (aq rfl rfl) (ai .v (ai .v (ai .v (ai .v am))))))))))))))))))))))))))))))))))))))))))))))))))))))))))))))))⟩,rfl⟩,⟨rfl,⟨_,rfl, .rowE rfl⟩,rfl⟩,⟨rfl,⟨_,rfl, .rowE rfl⟩,rfl⟩,⟨rfl,⟨_,rfl, .rowE rfl⟩,rfl⟩,trivial⟩ ⟨rfl,rfl,trivial⟩ rfl)
end
end Go.Proofs.Ytmjnackchaahbaa
