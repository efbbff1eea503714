/- Part 8 of the texts that the walk leans on: the machine, the walks, the plain laws. -/
import Derived.Test.YtmjnackchaahbaaGreatVwZ7
set_option linter.unusedSimpArgs false
set_option linter.unusedVariables false
namespace Go.Proofs.YtmjnackchaahbaaGreat
open Go.RowKit

def eK:Ex→Nat
  | .int _=> 1 | .bool _=> 2 | .var _=> 1 | .name _=> 1
  | .draw e=> if eK e=1 then 1 else 0
  | .neg e=> if eK e=1 then 1 else 0
  | .not e=> if eK e=2 then 2 else 0
  | .bin o a b=> if eK a=1∧eK b=1 then (match o with | .add=> 1 | .sub=> 1 | .mul=> 1 | .div=> 1 | _=> 2) else 0
  | .and a b=> if eK a=2∧eK b=2 then 2 else 0
  | .or a b=> if eK a=2∧eK b=2 then 2 else 0
def mE (e:Ex):Bool:=Nat.beq (eK e) 1
mutual
def vd:Sm→Bool
  | .assign _ e=> mE e
  | .send t _ a b=> mE t && mE a && mE b
  | .timer _=> true | .cancel _=> true | .sync=> true | .stop=> true
  | .reply a b=> mE a && mE b
  | .fail e=> mE e
  | .loop c b=> Nat.beq (eK c) 2 && nF b
  | .ite c a b=> Nat.beq (eK c) 2 && nF a && nF b
def nF:Bk→Bool
  | .nil=> true
  | .cons s b=> vd s && nF b
end
def ev (nv:Nat):Ex→Bool
  | .int n=> decide (-2147483647≤n) && decide (n≤2147483647)
  | .bool _=> true
  | .var i=> decide (i < nv)
  | .name k=> decide (k < 9)
  | .draw e=> ev nv e | .neg e=> ev nv e | .not e=> ev nv e
  | .bin _ a b=> ev nv a && ev nv b
  | .and a b=> ev nv a && ev nv b
  | .or a b=> ev nv a && ev nv b
mutual
def kL (nv:Nat):Sm→Bool
  | .assign i e=> decide (i < nv) && ev nv e
  | .send t k a b=> decide (k < 30) && ev nv t && ev nv a && ev nv b
  | .timer k=> decide (k < 8) | .cancel k=> decide (k < 8) | .sync=> true | .stop=> true
  | .reply a b=> ev nv a && ev nv b
  | .fail e=> ev nv e
  | .loop c b=> ev nv c && nC nv b
  | .ite c a b=> ev nv c && nC nv a && nC nv b
def nC (nv:Nat):Bk→Bool
  | .nil=> true
  | .cons s b=> kL nv s && nC nv b
end
theorem dm (nv:Nat): ∀ e,ev nv e=true→fl nv e
  | .int n,h=> by simpa [ev,fl] using h
  | .bool _,_=> trivial
  | .var i,h=> by simpa [ev,fl] using h
  | .name k,h=> by simpa [ev,fl] using h
  | .draw e,h=> dm nv e h
  | .neg e,h=> dm nv e h
  | .not e,h=> dm nv e h
  | .bin _ a b,h=> by simp only [ev,Bool.and_eq_true] at h;exact ⟨dm nv a h.1,dm nv b h.2⟩
  | .and a b,h=> by simp only [ev,Bool.and_eq_true] at h;exact ⟨dm nv a h.1,dm nv b h.2⟩
  | .or a b,h=> by simp only [ev,Bool.and_eq_true] at h;exact ⟨dm nv a h.1,dm nv b h.2⟩
mutual
theorem wC (nv:Nat): ∀ s,kL nv s=true→eY nv s
  | .assign i e,h=> by simp only [kL,Bool.and_eq_true,decide_eq_true_eq] at h;exact ⟨h.1,dm nv e h.2⟩
  | .send t k a b,h=> by simp only [kL,Bool.and_eq_true,decide_eq_true_eq] at h;exact ⟨h.1.1.1,dm nv t h.1.1.2,dm nv a h.1.2,dm nv b h.2⟩
  | .timer k,h=> by simpa [kL,eY] using h
  | .cancel k,h=> by simpa [kL,eY] using h
  | .sync,_=> by simp [eY]
  | .stop,_=> by simp [eY]
  | .reply a b,h=> by simp only [kL,Bool.and_eq_true] at h;exact ⟨dm nv a h.1,dm nv b h.2⟩
  | .fail e,h=> by simp only [kL] at h;exact dm nv e h
  | .loop c b,h=> by simp only [kL,Bool.and_eq_true] at h;exact ⟨dm nv c h.1,ke nv b h.2⟩
  | .ite c a b,h=> by simp only [kL,Bool.and_eq_true] at h;exact ⟨dm nv c h.1.1,ke nv a h.1.2,ke nv b h.2⟩
theorem ke (nv:Nat): ∀ b,nC nv b=true→ia nv b
  | .nil,_=> by simp [ia]
  | .cons s b,h=> by simp only [nC,Bool.and_eq_true] at h;exact ⟨wC nv s h.1,ke nv b h.2⟩
end
structure Jb (l:List (Nat×Bk)) (nv:Nat):Prop where
  ok: ∀ p∈l,ia nv p.2
  wl: ∀ p∈l,nF p.2=true
  n:(bS l 0).length≤400
  h: ∀ p∈l,p.1 < 40
  nd:(l.map (·.1)).Nodup
  d: ∀ k∈kA l,k≤8
def srcB (l:List (Nat×Bk)) (nv:Nat):Bool:=l.all (fun p=> nC nv p.2 && nF p.2 && decide (p.1 < 40)) && decide ((bS l 0).length≤400) && decide (l.map (·.1)).Nodup && (kA l).all fun k=> decide (k≤8)
theorem BQ {l:List (Nat×Bk)} {nv:Nat} (h:srcB l nv=true):Jb l nv:=by
  simp only [srcB,Bool.and_eq_true,List.all_eq_true,decide_eq_true_eq] at h
  exact ⟨fun p hp=> ke nv _ (h.1.1.1 p hp).1.1,fun p hp=> (h.1.1.1 p hp).1.2,h.1.1.2,fun p hp=> (h.1.1.1 p hp).2,h.1.2,h.2⟩
theorem srcOkL:Jb onsL (zx++BH).length:=BQ ae
def qM (l:List (Nat×Bk)) (i:Nat):Nat:=(kA l).getD i 0
theorem mY (l:List (Nat×Bk)):Fit (qM l) 0 (kA l):=fun k d h=> by
  unfold qM
  rw [Nat.zero_add,List.getD_eq_getElem?_getD,h];rfl
theorem Cu {l:List (Nat×Bk)} {nv dur:Nat} {names ans:List Int} (hn:nv≤16) (ho: ∀ p∈l,ia nv p.2) (hm: ∀ i,Rg (names.getD i 0)):PG ⟨bS l 0,dur,names,ans⟩ (qM l) nv:=
  ⟨um (qM l) nv l 0 0 ((bS l 0).length - 1) ho (mY l) (Nat.le_refl _) ab,hn,hm⟩
def rG (n k:Int):List eu:=[{ op:= .var },{ op:= .push,n:=n },{ op:= .lt },{ op:= .unl,n:=13 },{ op:= .push,n:=k },{ op:= .var },{ op:= .push,n:=5 },{ op:= .send,n:=7 },
  { op:= .var },{ op:= .push,n:=1 },{ op:= .add },{ op:= .setVar },{ op:= .jump },{ op:= .stop }]
def rW (i:Nat):Nat:=[0,1,2,1,0,1,2,3,0,1,2,1,0,0].getD i 0
theorem AX {n k:Int} (hn:Rg n) (hk:Rg k) {names ans:List Int} (hm: ∀ i,Rg (names.getD i 0)):PG ⟨rG n k,1,names,ans⟩ rW 1:=by
  refine ⟨fun i x hx=> ?_,by omega,hm⟩
  unfold rG at hx ⊢
  rw [Nat.zero_add]
  rcases i with _ | _ | _ | _ | _ | _ | _ | _ | _ | _ | _ | _ | _ | _ | i
  all_goals first | (simp at hx;done) | (simp only [List.getElem?_cons_zero,List.getElem?_cons_succ,Option.some.injEq] at hx;subst hx)
  all_goals refine ⟨?_,?_,fun j hj=> ?_⟩
  all_goals first | exact hn | exact hk | (simp [cT];done) | (simp [Opc.pops,rW];done) | (simp [dz] at hj;done) | (simp [dz] at hj;subst hj;simp [rW,Opc.pops,Opc.puts];done) | (simp [dz] at hj;rcases hj with rfl | rfl <;> simp [rW,Opc.pops,Opc.puts];done)

abbrev DS:=List Int×Bool×Bool
def ic (n:Nat) (d:Int) (s:DS) (j:Nat):DS:=
  if n≤j then s else if s.1.getD j (-1) < 0 then (s.1.set j d,s.2.1,true) else if s.1.getD j (-1)≠d then (s.1,false,s.2.2) else s
def cM (C:List eu) (i:Nat):eu:=C.getD i { op:= .stop }
def zF (C:List eu) (i:Nat) (s:DS):Int:=max (s.1.getD i (-1) - (cM C i).op.pops) 0+(cM C i).op.puts
def jU (C:List eu) (s:DS) (i:Nat):DS:=
  if s.1.getD i (-1) < 0 then s
  else (dz i (cM C i)).foldl (ic C.length (zF C i s)) (s.1,if s.1.getD i (-1) - (cM C i).op.pops < 0 then false else s.2.1,s.2.2)
def dn (C:List eu) (s:List Int×Bool) (k:Nat):DS:=(List.range k).foldl (jU C) (s.1,s.2,false)
theorem oh (C:List eu) (s:List Int×Bool) (k:Nat):dn C s (k+1)=jU C (dn C s k) k:=by simp [dn,List.range_succ,List.foldl_append]
def ii (C:List eu):Nat→List Int×Bool→List Int×Bool
  | 0,s=> s
  | f+1,s=> if (dn C s C.length).2.2=true then ii C f ((dn C s C.length).1,(dn C s C.length).2.1) else ((dn C s C.length).1,(dn C s C.length).2.1)
def neg (l:List Int):Nat:=l.countP fun x=> decide (x < 0)
theorem zu {l:List Int} {j:Nat} {d:Int} (hj:j < l.length) (h:l.getD j (-1) < 0) (hd:0≤d):neg (l.set j d)+1=neg l:=by
  unfold neg
  have e:l=l.take j++l[j]::l.drop (j+1):=by rw [List.getElem_cons_drop hj,List.take_append_drop]
  have h':l[j] < 0:=by rwa [List.getD_eq_getElem?_getD,List.getElem?_eq_getElem hj] at h
  rw [List.set_eq_take_append_cons_drop,if_pos hj]
  conv=> rhs;rw [e]
  simp only [List.countP_append,List.countP_cons]
  rw [decide_eq_true h',decide_eq_false (show ¬ d < 0 by omega)]
  simp
  omega
structure DI (D:Nat→Nat) (n:Nat) (s:DS):Prop where
  len:s.1.length=n
  val: ∀ i,i < n→s.1.getD i (-1)= -1∨s.1.getD i (-1)=(D i:Int)
  ok:s.2.1=true
theorem iy {l:List Int} {j i:Nat} {d:Int}:(l.set j d).getD i (-1)=if i=j∧j < l.length then d else l.getD i (-1):=by
  simp only [List.getD_eq_getElem?_getD,List.getElem?_set]
  by_cases h:j=i
  · subst h
    by_cases h2:j < l.length
    · simp [h2]
    · simp [h2]
  · simp [h,Ne.symm h]
theorem AH {D:Nat→Nat} {n:Nat} {d:Int} {s:DS} {j:Nat} (h:DI D n s) (hd:d=(D j:Int)):DI D n (ic n d s j)∧neg (ic n d s j).1≤neg s.1∧((ic n d s j).2.2=true→s.2.2=true∨neg (ic n d s j).1 < neg s.1):=by
  unfold ic
  split
  · exact ⟨h,Nat.le_refl _,fun e=> .inl e⟩
  · rename_i hj
    split
    · rename_i hn
      have:=zu (l:=s.1) (j:=j) (d:=d) (by rw [h.len];omega) hn ab
      refine ⟨⟨by rw [List.length_set];exact h.len,fun i hi=> ?_,h.ok⟩,by simp only;omega,fun _=> .inr (by simp only;omega)⟩
      simp only
      rw [iy]
      split
      · rename_i hc;rw [hc.1];exact .inr hd
      · exact h.val i hi
    · rename_i hn
      have hv:=h.val j ab
      have:s.1.getD j (-1)=d:=by rw [hd];rcases hv with hv | hv <;> omega
      rw [if_neg (fun hc=> hc this)]
      exact ⟨h,Nat.le_refl _,fun e=> .inl e⟩
theorem lW {D:Nat→Nat} {n:Nat} {d:Int}: ∀ (l:List Nat) {s:DS},DI D n s→(∀ j∈l,d=(D j:Int))→DI D n (l.foldl (ic n d) s)∧neg (l.foldl (ic n d) s).1≤neg s.1∧((l.foldl (ic n d) s).2.2=true→s.2.2=true∨neg (l.foldl (ic n d) s).1 < neg s.1)
  | [],s,h,_=> ⟨h,Nat.le_refl _,fun e=> .inl e⟩
  | j::l,s,h,hd=> by
    obtain ⟨a1,a2,a3⟩:=AH h (hd j (by simp))
    obtain ⟨b1,b2,b3⟩:=lW l a1 fun j hj=> hd j (by simp [hj])
    simp only [List.foldl_cons]
    refine ⟨b1,by omega,fun e=> ?_⟩
    rcases b3 e with e | e
    · rcases a3 e with e | e
      · exact .inl e
      · exact .inr ab
    · exact .inr ab
section
variable {D:Nat→Nat} {nv:Nat} {C:List eu} (hC:Good D nv 0 (C.length - 1) 0 C)
include hC
theorem zk {s:DS} {i:Nat} (hi:i < C.length) (h:DI D C.length s):DI D C.length (jU C s i)∧neg (jU C s i).1≤neg s.1∧((jU C s i).2.2=true→s.2.2=true∨neg (jU C s i).1 < neg s.1):=by
  unfold jU
  split
  · exact ⟨h,Nat.le_refl _,fun e=> .inl e⟩
  · rename_i hn
    have hx:C[i]? =some (cM C i):=by unfold cM;rw [List.getD_eq_getElem?_getD,List.getElem?_eq_getElem hi];rfl
    obtain ⟨_,g2,g3⟩:=hC i _ hx
    rw [Nat.zero_add] at g2 g3
    have hv:s.1.getD i (-1)=(D i:Int):=by rcases h.val i hi with hv | hv <;> omega
    have hdo:zF C i s=((D i - (cM C i).op.pops+(cM C i).op.puts:Nat):Int):=by unfold zF;rw [hv];omega
    rw [if_neg (by rw [hv];omega)]
    exact lW _ ⟨h.len,h.val,h.ok⟩ fun j hj=> by rw [hdo,(g3 j hj).2.2]
theorem jH {s:List Int×Bool} (h:DI D C.length (s.1,s.2,false)): ∀ k,k≤C.length→DI D C.length (dn C s k)∧neg (dn C s k).1≤neg s.1∧((dn C s k).2.2=true→neg (dn C s k).1 < neg s.1)
  | 0,_=> ⟨h,Nat.le_refl _,fun e=> by simp [dn] at e⟩
  | k+1,hk=> by
    obtain ⟨a1,a2,a3⟩:=jH h k ab
    obtain ⟨b1,b2,b3⟩:=zk hC ab a1 (i:=k)
    rw [oh]
    refine ⟨b1,by omega,fun e=> ?_⟩
    rcases b3 e with e | e
    · have:=a3 e;omega
    · omega
theorem rk: ∀ f (s:List Int×Bool),DI D C.length (s.1,s.2,false)→DI D C.length ((ii C f s).1,(ii C f s).2,false)
  | 0,s,h=> h
  | f+1,s,h=> by
    obtain ⟨a1,_,_⟩:=jH hC h C.length (Nat.le_refl _)
    unfold ii
    split
    · exact rk f _ ⟨a1.len,a1.val,a1.ok⟩
    · exact ⟨a1.len,a1.val,a1.ok⟩
end
theorem sJ {C:List eu} {f:Nat} {s:List Int×Bool} (h:(dn C s C.length).2.2=true):ii C (f+1) s=ii C f ((dn C s C.length).1,(dn C s C.length).2.1):=by rw [ii,if_pos h]
theorem sH {C:List eu} {f:Nat} {s:List Int×Bool} (h:(dn C s C.length).2.2=false):ii C (f+1) s=((dn C s C.length).1,(dn C s C.length).2.1):=by rw [ii,if_neg (by simp [h])]
def hX (C:List eu) (e:Int):List Int×Bool:=if e < 0∨(C.length:Int)≤e then (List.replicate C.length (-1),true) else ii C (C.length+1) ((List.replicate C.length (-1)).set e.toNat 0,true)
theorem nw {D:Nat→Nat} {nv:Nat} {C:List eu} (hC:Good D nv 0 (C.length - 1) 0 C) {e:Int} (he:0≤e→e < C.length→D e.toNat=0):DI D C.length ((hX C e).1,(hX C e).2,false):=by
  have hr: ∀ i,(List.replicate C.length (-1:Int)).getD i (-1)= -1:=fun i=> by rw [List.getD_eq_getElem?_getD,List.getElem?_replicate];split <;> rfl
  unfold hX
  split
  · exact ⟨by simp,fun i _=> .inl (hr i),rfl⟩
  · refine rk hC _ _ ⟨by simp,fun i hi=> ?_,rfl⟩
    simp only
    rw [iy]
    split
    · rename_i hc
      right
      rw [hc.1,he ab ab];rfl
    · exact .inl (hr i)
def jt (C:List eu) (out:List Int) (k:Nat):Int:=(List.range k).foldl (fun m i=> if 0≤out.getD i (-1) then max (max m (out.getD i (-1))) (out.getD i (-1) - (cM C i).op.pops+(cM C i).op.puts) else m) 0
theorem oC (C:List eu) (out:List Int) (k:Nat):jt C out (k+1)=if 0≤out.getD k (-1) then max (max (jt C out k) (out.getD k (-1))) (out.getD k (-1) - (cM C k).op.pops+(cM C k).op.puts) else jt C out k:=by simp [jt,List.range_succ,List.foldl_append]
theorem Bi (o:Opc):o.puts≤1:=by cases o <;> decide
theorem lh {C:List eu} {out:List Int} {D:Nat→Nat} {n:Nat} {ok ch:Bool} (h:DI D n (out,ok,ch)) {B:Nat} (hB: ∀ i,i < n→D i≤B): ∀ k,k≤n→0≤jt C out k∧jt C out k≤B+1
  | 0,_=> by simp [jt];omega
  | k+1,hk=> by
    obtain ⟨h1,h2⟩:=lh (C:=C) h hB k ab
    have h3:=hB k ab
    have h4:out.getD k (-1)= -1∨out.getD k (-1)=(D k:Int):=h.val k ab
    have h5:=Bi (cM C k).op
    have h6:=oC C out k
    rw [h6]
    rcases h4 with h4 | h4 <;> rw [h4] <;> split <;> omega
def lm (l:List (Nat×Nat)):List Int:=l.foldl (fun m p=> m.set p.1 (p.2:Int)) (List.replicate 40 (-1))
theorem wH (l:List (Nat×Nat)):(lm l).length=40:=by
  unfold lm
  have: ∀ (l:List (Nat×Nat)) (m:List Int),m.length=40→(l.foldl (fun m p=> m.set p.1 (p.2:Int)) m).length=40:=by
    intro l
    induction l with
    | nil=> exact fun m h=> h
    | cons p l ih=> exact fun m h=> ih _ (by rw [List.length_set];exact h)
  exact this l _ (by simp)
theorem xr: ∀ (l:List (Nat×Nat)) (h:Nat),(lm l).getD h (-1)= -1∨ ∃ e,(h,e)∈l∧(lm l).getD h (-1)=(e:Int):=by
  unfold lm
  have key: ∀ (l:List (Nat×Nat)) (m:List Int) (h:Nat),(l.foldl (fun m p=> m.set p.1 (p.2:Int)) m).getD h (-1)=m.getD h (-1)∨ ∃ e,(h,e)∈l∧(l.foldl (fun m p=> m.set p.1 (p.2:Int)) m).getD h (-1)=(e:Int):=by
    intro l
    induction l with
    | nil=> exact fun m h=> .inl rfl
    | cons p l ih=>
      intro m h
      simp only [List.foldl_cons]
      rcases ih (m.set p.1 (p.2:Int)) h with e | ⟨e,h1,h2⟩
      · rw [e,iy]
        split
        · rename_i hc
          exact .inr ⟨p.2,by rw [hc.1];exact List.mem_cons_self,rfl⟩
        · exact .inl rfl
      · exact .inr ⟨e,List.mem_cons_of_mem _ h1,h2⟩
  intro l h
  rcases key l (List.replicate 40 (-1)) h with e | e
  · left
    rw [e,List.getD_eq_getElem?_getD,List.getElem?_replicate]
    split <;> rfl
  · exact .inr e
def gV (l:List (Nat×Bk)):Bool:=decide ((bS l 0).length≤400) && (List.range 40).all fun h=> decide (jt (bS l 0) (hX (bS l 0) ((lm (iQ l 0)).getD h (-1))).1 (bS l 0).length≤16)
theorem tw (l:List (Nat×Bk)) (h:Nat):(lm (iQ l 0)).getD h (-1)= -1∨ ∃ e:Nat,(h,e)∈iQ l 0∧(lm (iQ l 0)).getD h (-1)=(e:Int)∧e < (bS l 0).length∧qM l e=0:=by
  rcases xr (iQ l 0) h with e | ⟨e,h1,h2⟩
  · exact .inl e
  · obtain ⟨_,h4,h5⟩:=ue (mY l) h1
    exact .inr ⟨e,h1,h2,by omega,h5⟩
theorem uW {l:List (Nat×Bk)} {nv:Nat} (hs:Jb l nv):gV l=true:=by
  unfold gV
  rw [Bool.and_eq_true,decide_eq_true_eq,List.all_eq_true]
  refine ⟨hs.n,fun h _=> ?_⟩
  rw [decide_eq_true_eq]
  have hg:=um (qM l) nv l 0 0 ((bS l 0).length - 1) hs.ok (mY l) (Nat.le_refl _) ab
  have hd:=nw hg (e:=(lm (iQ l 0)).getD h (-1)) (fun h1 h2=> by
    rcases tw l h with e | ⟨e,_,e2,_,e4⟩
    · omega
    · rw [e2];exact e4)
  have hB: ∀ i,i < (bS l 0).length→qM l i≤8:=fun i hi=> by
    unfold qM
    rw [← nR l 0] at hi
    rw [List.getD_eq_getElem?_getD,List.getElem?_eq_getElem hi]
    exact hs.d _ (List.getElem_mem hi)
  have:=(lh (C:=bS l 0) hd hB _ (Nat.le_refl _)).2
  omega

theorem mr {α β:Type} (f:α→List β) (c:Nat) (hf: ∀ a,(f a).length=c): ∀ l:List α,(l.flatMap f).length=l.length*c
 | []=> by simp
 | a::l=> by rw [List.flatMap_cons,List.length_append,hf,mr f c hf l,List.length_cons,Nat.succ_mul];omega
theorem mW {α β:Type} (f:α→List β) (c:Nat) (hf: ∀ a,(f a).length=c): ∀ (l:List α) (k:Nat),(l.flatMap f).drop (k*c)=(l.drop k).flatMap f
 | l,0=> by simp
 | [],k+1=> by simp
 | a::l,k+1=> by
  rw [List.flatMap_cons,List.drop_succ_cons,← mW f c hf l k,List.drop_append,List.drop_eq_nil_of_le (by rw [hf,Nat.succ_mul];omega),List.nil_append,hf]
  congr 1;rw [Nat.succ_mul];omega
theorem nY {α β:Type} (f:α→List β) (c:Nat) (hf: ∀ a,(f a).length=c) (l:List α) (k:Nat) (h:k < l.length):((l.flatMap f).drop (k*c)).take c=f l[k]:=by
 rw [mW f c hf,List.drop_eq_getElem_cons h,List.flatMap_cons,List.take_append_of_le_length (by rw [hf];exact Nat.le_refl _),List.take_of_length_le (by rw [hf];exact Nat.le_refl _)]
theorem jK {α β:Type} (f:α→List β) (c:Nat) (hf: ∀ a,(f a).length=c) (l:List α) (k j:Nat) (h:k < l.length) (hj:j < c):(l.flatMap f)[k*c+j]? =(f l[k])[j]? :=by
 rw [← nY f c hf l k h,List.getElem?_take_of_lt hj,List.getElem?_drop]
theorem lq {α β:Type} (f:α→List β) (l:List α) (a:α):l.flatMap f++f a=(l++[a]).flatMap f:=by simp
theorem yY {α β:Type} (f:α→List β) (l m:List α):l.flatMap f++m.flatMap f=(l++m).flatMap f:=by simp

def dS (l:List Tx):List PV:=l.map fun t=> .v (bt t)
@[simp] theorem bA (l:List Tx):(dS l).length=l.length:=by simp [dS]
theorem fx (l:List Tx) (k:Nat) (h:k < l.length):(dS l)[k]? =some (.v (bt (l.getD k []))):=by simp [dS,h]
theorem nW (a b:List Tx):dS a++dS b=dS (a++b):=by simp [dS]
theorem lO (a:List Tx) (t:Tx):dS a++[.v (bt t)]=dS (a++[t]):=by simp [dS]
theorem iz {l:List Tx} {k:Nat} (h:k < l.length):l.getD k []∈l:=by
 rw [List.getD_eq_getElem?_getD,List.getElem?_eq_getElem h];exact List.getElem_mem h
theorem jg {α:Type} {l:List α} {k:Nat} {x d:α} (h:x∉l.take k) (hk:k < l.length) (hx:l.getD k d≠x):x∉l.take (k+1):=by
 rw [List.take_succ_eq_append_getElem hk,List.mem_append,List.mem_singleton]
 rintro (h' | h')
 ·exact h h'
 ·exact hx (by rw [List.getD_eq_getElem?_getD,List.getElem?_eq_getElem hk,h'];rfl)

def Cs (t:Tk):List PV:=[.v (.int .i64 (t.k:Int)), .v (.int .i64 (t.a:Int)), .v (bt t.t), .v (.int .i64 (t.n:Int))]
def qu (l:List Tk):List PV:=l.flatMap Cs
theorem bv (l:List Tk):(qu l).length=l.length*4:=mr Cs 4 (fun _=> rfl) l
theorem sW (l:List Tk) (k:Nat) (h:k < l.length):cW l k=l[k]:=by simp [cW,h]
theorem nH (l:List Tk) (k:Nat) (h:k < l.length):(qu l)[k*4]? =some (.v (.int .i64 ((cW l k).k:Int))):=by
 rw [sW l k h];exact jK Cs 4 (fun _=> rfl) l k 0 h ab
theorem lD (l:List Tk) (k:Nat) (h:k < l.length):(qu l)[k*4+2]? =some (.v (bt (cW l k).t)):=by
 rw [sW l k h];exact jK Cs 4 (fun _=> rfl) l k 2 h ab
theorem lY (l:List Tk) (k:Nat) (h:k < l.length):PV.ups (((qu l).drop (k*4)).take 4)=[.v (.int .i64 ((cW l k).k:Int)), .v (.int .i64 ((cW l k).a:Int)), .v (bt (cW l k).t), .v (.int .i64 ((cW l k).n:Int))]:=by
 rw [sW l k h,show ((qu l).drop (k*4)).take 4=Cs l[k] from nY Cs 4 (fun _=> rfl) l k h];rfl
theorem rF (l:List Tk) (t:Tk):qu l++Cs t=qu (l++[t]):=lq Cs l t

theorem ft {s:Tx} {a:Nat} {b:UInt8} (h:s[a]? =some b):s.drop a=b::s.drop (a+1):=by
 obtain ⟨hl,rfl⟩:=List.getElem?_eq_some_iff.1 h
 exact List.drop_eq_getElem_cons hl
theorem jm {s:Tx} {a:Nat} (h:a < s.length): ∃ b,s[a]? =some b:=⟨_,List.getElem?_eq_getElem h⟩
theorem LH (b:UInt8):0≤(b.toNat:Int)∧(b.toNat:Int) < 256:=⟨by omega,by have:=b.toNat_lt;omega⟩
def jw (s:Tx) (a:Nat) (c:Bool):Nat:=a+qO (s.drop a) c
theorem qK {s:Tx} {a:Nat} (h:s.length≤a) (c:Bool):jw s a c=a:=by
 unfold jw;rw [List.drop_eq_nil_of_le h];unfold qO;rfl
theorem CN {s:Tx} {a:Nat} {b:UInt8} (h:s[a]? =some b) (hb:b.toNat=10):jw s a true=jw s a false:=by
 unfold jw;rw [ft h];simp [qO,hb]
theorem De {s:Tx} {a:Nat} {b:UInt8} (h:s[a]? =some b) (hb:b.toNat≠10):jw s a true=jw s (a+1) true:=by
 unfold jw;rw [ft h];simp [qO,hb];omega
theorem ze {s:Tx} {a:Nat} {b:UInt8} (h:s[a]? =some b) (hb:b.toNat=35):jw s a false=jw s a true:=by
 unfold jw;rw [ft h];simp [qO,hb]
theorem sY {s:Tx} {a:Nat} {b:UInt8} (h:s[a]? =some b) (h0:b.toNat≠35) (hb:b.toNat=32∨b.toNat=9∨b.toNat=10):jw s a false=jw s (a+1) false:=by
 unfold jw;rw [ft h,qO,if_neg h0,if_pos hb];omega
theorem Bp {s:Tx} {a:Nat} {b:UInt8} (h:s[a]? =some b) (h0:b.toNat≠35) (hb: ¬ (b.toNat=32∨b.toNat=9∨b.toNat=10)):jw s a false=a:=by
 unfold jw;rw [ft h,qO,if_neg h0,if_neg hb];rfl
theorem mm: ∀ (l:Tx) (c:Bool),qO l c≤l.length
 | [],c=> by unfold qO;exact Nat.le_refl _
 | x::l,true=> by have h1:=mm l true;have h2:=mm l false;unfold qO;split <;> simp only [List.length_cons] <;> omega
 | x::l,false=> by have h1:=mm l true;have h2:=mm l false;unfold qO;split <;> (try split) <;> simp only [List.length_cons] <;> omega
theorem sU {s:Tx} {a:Nat} (h:a≤s.length) (c:Bool):a≤jw s a c∧jw s a c≤s.length:=by
 have:=mm (s.drop a) c
 rw [List.length_drop] at this
 unfold jw;omega
def jP (p:UInt8→Bool) (s:Tx) (a:Nat):Nat:=a+((s.drop a).takeWhile p).length
theorem uw {p:UInt8→Bool} {s:Tx} {a:Nat} (h:s.length≤a):jP p s a=a:=by
 unfold jP;rw [List.drop_eq_nil_of_le h];rfl
theorem qm {p:UInt8→Bool} {s:Tx} {a:Nat} {b:UInt8} (h:s[a]? =some b) (hb:p b=true):jP p s a=jP p s (a+1):=by
 unfold jP;rw [ft h,List.takeWhile_cons,if_pos hb,List.length_cons];omega
theorem yQ {p:UInt8→Bool} {s:Tx} {a:Nat} {b:UInt8} (h:s[a]? =some b) (hb:p b=false):jP p s a=a:=by
 unfold jP;rw [ft h,List.takeWhile_cons,if_neg (by simp [hb])];rfl
theorem qB {p:UInt8→Bool} {s:Tx} {a:Nat} (h:a≤s.length):a≤jP p s a∧jP p s a≤s.length:=by
 have:((s.drop a).takeWhile p).length≤(s.drop a).length:=(List.takeWhile_prefix p).length_le
 rw [List.length_drop] at this
 unfold jP;omega
theorem rM {p:UInt8→Bool} {s:Tx} {a:Nat} {b:UInt8} (h:s[a]? =some b):(s.drop a).take (jP p s (a+1) - a)=b::(s.drop (a+1)).takeWhile p:=by
 rw [ft h,show jP p s (a+1) - a=((s.drop (a+1)).takeWhile p).length+1 by unfold jP;omega,List.take_succ_cons]
 congr 1
 obtain ⟨t,ht⟩:=List.takeWhile_prefix p (l:=s.drop (a+1))
 conv=> lhs;arg 2;rw [← ht]
 rw [List.take_append_of_le_length (Nat.le_refl _),List.take_length]
theorem pz (l:Tx) (b:UInt8):jx (l++[b])=10*jx l+(b.toNat - 48):=by unfold jx;rw [List.foldl_append];rfl
theorem BZ (l m:Tx):jx l≤jx (l++m):=by
 induction m generalizing l with
 | nil=> simp
 | cons b m ih=>
  have:=ih (l++[b])
  rw [pz,List.append_assoc] at this
  simp only [List.cons_append,List.nil_append] at this
  omega
theorem wm (l:Tx) (i:Nat):jx (l.take i)≤jx l:=by
 have:=BZ (l.take i) (l.drop i)
 rwa [List.take_append_drop] at this
theorem vX {l:Tx} {i:Nat} {b:UInt8} (h:l[i]? =some b):jx (l.take (i+1))=10*jx (l.take i)+(b.toNat - 48):=by
 obtain ⟨hl,rfl⟩:=List.getElem?_eq_some_iff.1 h
 rw [List.take_succ_eq_append_getElem hl,pz]
theorem wV (b:UInt8):lP b=true↔97≤(b.toNat:Int)∧(b.toNat:Int)≤122:=by
 unfold lP;rw [Bool.and_eq_true,Nat.ble_eq,Nat.ble_eq];omega
theorem rV (b:UInt8):fI b=true↔48≤(b.toNat:Int)∧(b.toNat:Int)≤57:=by
 unfold fI;rw [Bool.and_eq_true,Nat.ble_eq,Nat.ble_eq];omega
theorem Cg {b:Bool} {p:Prop} (h:b=true↔p) (hn: ¬ p):b=false:=by
 cases b with
 | false=> rfl
 | true=> exact absurd (h.1 rfl) hn
def inr (x:eu):List PV:=[.v (.int .i64 (x.op.num:Int)), .v (.int .i64 x.n)]
def inl (l:List eu):List PV:=l.flatMap inr
theorem bK (l:List eu):(inl l).length=l.length*2:=mr inr 2 (fun _=> rfl) l
theorem lw (l:List eu) (k:Nat) (h:k < l.length):(inl l)[k*2]? =some (.v (.int .i64 ((cM l k).op.num:Int))):=by
 rw [show cM l k=l[k] by simp [cM,h]];exact jK inr 2 (fun _=> rfl) l k 0 h ab
theorem wU (l:List eu) (k:Nat) (h:k < l.length):(inl l)[k*2+1]? =some (.v (.int .i64 (cM l k).n)):=by
 rw [show cM l k=l[k] by simp [cM,h]];exact jK inr 2 (fun _=> rfl) l k 1 h ab
theorem zd (l:List eu) (k:Nat) (h:k < l.length):PV.ups (((inl l).drop (k*2)).take 2)=[.v (.int .i64 ((cM l k).op.num:Int)), .v (.int .i64 (cM l k).n)]:=by
 rw [show cM l k=l[k] by simp [cM,h],show ((inl l).drop (k*2)).take 2=inr l[k] from nY inr 2 (fun _=> rfl) l k h];rfl
theorem ey (l:List eu) (x:eu):inl l++inr x=inl (l++[x]):=lq inr l x
theorem ko (l m:List eu):inl l++inl m=inl (l++m):=yY inr l m
def Ai (x:Ac):List PV:=[.v (.int .i64 x.k), .v (.int .i64 x.a), .v (.int .i64 x.b), .v (.int .i64 x.c), .v (.int .i64 x.d)]
def sC (l:List Ac):List PV:=l.flatMap Ai
def mS (l:List Ac) (k:Nat):Ac:=l.getD k { k:=0 }
theorem fy (l:List Ac):(sC l).length=l.length*5:=mr Ai 5 (fun _=> rfl) l
theorem xa (l:List Ac) (k:Nat) (h:k < l.length):(sC l)[k*5]? =some (.v (.int .i64 (mS l k).k)):=by
 rw [show mS l k=l[k] by simp [mS,h]];exact jK Ai 5 (fun _=> rfl) l k 0 h ab
theorem og (l:List Ac) (k:Nat) (h:k < l.length):(sC l)[k*5+1]? =some (.v (.int .i64 (mS l k).a)):=by
 rw [show mS l k=l[k] by simp [mS,h]];exact jK Ai 5 (fun _=> rfl) l k 1 h ab
theorem wW (l:List Ac) (k:Nat) (h:k < l.length):(sC l)[k*5+2]? =some (.v (.int .i64 (mS l k).b)):=by
 rw [show mS l k=l[k] by simp [mS,h]];exact jK Ai 5 (fun _=> rfl) l k 2 h ab
theorem yi (l:List Ac) (k:Nat) (h:k < l.length):PV.ups (((sC l).drop (k*5)).take 5)=[.v (.int .i64 (mS l k).k), .v (.int .i64 (mS l k).a), .v (.int .i64 (mS l k).b), .v (.int .i64 (mS l k).c), .v (.int .i64 (mS l k).d)]:=by
 rw [show mS l k=l[k] by simp [mS,h],show ((sC l).drop (k*5)).take 5=Ai l[k] from nY Ai 5 (fun _=> rfl) l k h];rfl
theorem yA (l:List Ac) (x:Ac):sC l++Ai x=sC (l++[x]):=lq Ai l x
end Go.Proofs.YtmjnackchaahbaaGreat

namespace Go.Proofs.YtmjnackchaahbaaGreat
abbrev Gs:List Value:=[.int .i64 0, .int .i64 0, .int .i64 0, .int .i64 0, .int .i64 0, .int .i64 0, .int .i64 0, .int .i64 0, .int .i64 0, .int .i64 0, .int .i64 0, .int .i64 0, .int .i64 0, .int .i64 0, .int .i64 0, .int .i64 0, .int .i64 0, .int .i64 0, .int .i64 0, .int .i64 0, .int .i64 0, .int .i64 0, .int .i64 0, .int .i64 0, .int .i64 0, .int .i64 0, .int .i64 0, .int .i64 0, .int .i64 0, .int .i64 0, .int .i64 0, .int .i64 0, .int .i64 0, .int .i64 0, .int .i64 0, .int .i64 0, .int .i64 0, .int .i64 0, .int .i64 0, .int .i64 0]
abbrev Et:List Value:=[.slice none 0 0, .int .i64 0, .int .i64 0, .int .i64 0, .int .i64 0, .int .i64 0, .int .i64 0, .int .i64 0, .int .i64 0, .int .i64 0, .int .i64 0, .int .i64 0, .int .i64 0, .int .i64 0, .int .i64 0, .int .i64 0, .int .i64 0, .int .i64 0, .int .i64 0, .int .i64 0, .int .i64 0, .int .i64 0, .int .i64 0, .int .i64 0, .int .i64 0, .int .i64 0, .int .i64 0, .int .i64 0, .int .i64 0, .int .i64 0, .int .i64 0, .int .i64 0, .int .i64 0, .int .i64 0, .int .i64 0, .int .i64 0, .int .i64 0, .int .i64 0, .int .i64 0, .int .i64 0, .int .i64 0, .int .i64 0, .int .i64 0]
abbrev ua:List Value:=[.int .i64 0, .int .i64 0, .int .i64 0, .int .i64 0, .int .i64 0, .int .i64 0, .int .i64 0, .int .i64 0, .int .i64 0]
abbrev Cj:List Value:=[.slice none 0 0, .slice none 0 0, .int .i64 0, .bool false, .slice none 0 0]
abbrev Ce:List Value:=[.slice none 0 0, .slice none 0 0, .int .i64 0, .bool false, .slice none 0 0, .slice none 0 0]
abbrev mO:List Value:=[.int .i64 0, .int .i64 0, .int .i64 0, .int .i64 0, .int .i64 0]
abbrev Ev:List Value:=[.slice none 0 0, .slice none 0 0, .slice none 0 0]
abbrev Cr:List Value:=[.int .i64 0, .int .i64 0, .string ByteArray.empty, .slice none 0 0]
abbrev Cv:List Value:=[.int .i64 0, .int .i64 0, .int .i64 0, .string ByteArray.empty, .slice none 0 0]
abbrev HQ:List Value:=[.int .i64 0, .int .i64 0, .int .i64 0, .int .i64 0, .int .i64 0, .int .i64 0, .int .i64 0, .int .i64 0, .int .i64 0, .int .i64 0, .int .i64 0, .int .i64 0, .int .i64 0, .int .i64 0, .int .i64 0, .int .i64 0, .int .i64 0, .int .i64 0, .int .i64 0, .int .i64 0, .int .i64 0, .int .i64 0, .int .i64 0, .int .i64 0, .int .i64 0, .int .i64 0, .int .i64 0, .int .i64 0, .int .i64 0, .int .i64 0, .int .i64 0, .int .i64 0, .int .i64 0, .int .i64 0, .int .i64 0, .int .i64 0, .int .i64 0, .int .i64 0, .int .i64 0, .int .i64 0, .int .i64 0]
abbrev vQ:List Value:=[.bool false, .int .i64 0, .int .i64 0, .int .i64 0, .slice none 0 0, .slice none 0 0, .slice none 0 0, .slice none 0 0, .int .i64 0, .int .i64 0, .int .i64 0, .int .i64 0, .int .i64 0, .int .i64 0, .int .i64 0, .int .i64 0, .int .i64 0, .int .i64 0, .int .i64 0, .int .i64 0, .int .i64 0, .int .i64 0, .int .i64 0, .int .i64 0, .int .i64 0, .int .i64 0, .int .i64 0, .int .i64 0, .int .i64 0, .int .i64 0, .int .i64 0, .int .i64 0, .int .i64 0, .int .i64 0, .int .i64 0, .int .i64 0, .int .i64 0, .int .i64 0, .int .i64 0, .int .i64 0, .int .i64 0, .int .i64 0, .int .i64 0, .int .i64 0, .int .i64 0, .int .i64 0, .int .i64 0, .int .i64 0, .int .i64 0, .int .i64 0, .int .i64 0, .int .i64 0]
abbrev uO:List Value:=[.int .i64 0, .int .i64 0, .int .i64 0, .int .i64 0, .int .i64 0, .int .i64 0, .int .i64 0, .int .i64 0, .int .i64 0, .int .i64 0, .int .i64 0, .int .i64 0, .int .i64 0, .slice none 0 0, .slice none 0 0]
abbrev uV:List Value:=[.int .i64 0, .int .i64 0, .int .i64 0]
abbrev uY:List Value:=[.int .i64 0, .int .i64 0, .int .i64 0, .slice none 0 0, .bool false, .int .i64 0, .slice none 0 0, .slice none 0 0, .slice none 0 0, .int .i64 0, .bool false, .slice none 0 0]
abbrev ra:List Value:=[.int .i64 0, .int .i64 0, .int .i64 0, .slice none 0 0, .slice none 0 0]
abbrev oQ:List Value:=[.int .i64 0, .int .i64 0, .int .i64 0, .int .i64 0, .int .i64 0, .int .i64 0, .int .i64 0]
abbrev vn:List Value:=[.slice none 0 0, .slice none 0 0, .bool false]
abbrev uC:List Value:=[.slice none 0 0, .int .i64 0, .int .i64 0, .int .i64 0, .int .i64 0, .int .i64 0, .int .i64 0, .int .i64 0, .int .i64 0, .int .i64 0]
abbrev vo:List Value:=[.slice none 0 0, .slice none 0 0, .slice none 0 0, .slice none 0 0]
abbrev wn:List Value:=[.slice none 0 0, .int .i64 0, .int .i64 0, .int .i64 0, .int .i64 0, .int .i64 0, .int .i64 0, .int .i64 0, .int .i64 0, .int .i64 0, .int .i64 0, .int .i64 0, .int .i64 0, .int .i64 0, .int .i64 0, .int .i64 0, .int .i64 0, .int .i64 0, .int .i64 0, .int .i64 0, .int .i64 0, .int .i64 0, .int .i64 0, .int .i64 0, .int .i64 0, .int .i64 0, .int .i64 0, .int .i64 0, .int .i64 0, .int .i64 0, .int .i64 0, .int .i64 0, .int .i64 0, .int .i64 0, .int .i64 0, .int .i64 0, .int .i64 0, .int .i64 0, .int .i64 0, .int .i64 0, .int .i64 0, .int .i64 0, .int .i64 0, .slice none 0 0, .int .i64 0, .int .i64 0, .int .i64 0, .int .i64 0, .int .i64 0, .int .i64 0, .int .i64 0, .int .i64 0, .int .i64 0, .nilFunc, .slice none 0 0, .slice none 0 0, .int .i64 0, .bool false, .slice none 0 0, .slice none 0 0, .int .i64 0, .int .i64 0, .int .i64 0, .bool false]
abbrev zJ:List Value:=[.nilFunc, .nilFunc, .nilFunc, .nilFunc, .nilFunc, .nilFunc, .nilFunc, .nilFunc, .nilFunc, .nilFunc, .nilFunc, .nilFunc, .nilFunc, .nilFunc, .nilFunc, .nilFunc, .nilFunc, .nilFunc, .nilFunc, .nilFunc, .nilFunc, .nilFunc, .nilFunc, .nilFunc]
abbrev vC:List Value:=[.int .i64 0, .int .i64 0, .int .i64 0, .int .i64 0]
abbrev qY:List Value:=[.int .i64 0, .int .i64 0, .int .i64 0, .int .i64 0, .int .i64 0, .int .i64 0]
abbrev vg:List Value:=[.slice none 0 0, .int .i64 0, .int .i64 0, .int .i64 0, .slice none 0 0]
abbrev rO:List Value:=[.int .i64 0, .int .i64 0, .string ByteArray.empty, .int .i64 0]
abbrev Ar:List Value:=[.bool false, .int .i64 0, .int .i64 0, .int .i64 0, .slice none 0 0, .slice none 0 0, .slice none 0 0, .slice none 0 0, .int .i64 0, .int .i64 0, .int .i64 0, .int .i64 0, .int .i64 0, .int .i64 0, .int .i64 0, .int .i64 0, .int .i64 0, .int .i64 0, .int .i64 0, .int .i64 0, .int .i64 0, .int .i64 0, .int .i64 0, .int .i64 0, .int .i64 0, .int .i64 0, .int .i64 0, .int .i64 0, .int .i64 0, .int .i64 0, .int .i64 0, .int .i64 0, .int .i64 0, .int .i64 0, .int .i64 0, .int .i64 0, .int .i64 0, .int .i64 0, .int .i64 0, .int .i64 0, .int .i64 0, .int .i64 0, .int .i64 0, .int .i64 0, .int .i64 0, .int .i64 0, .int .i64 0, .int .i64 0, .int .i64 0, .int .i64 0, .int .i64 0, .int .i64 0, .slice none 0 0, .slice none 0 0, .bool false, .int .i64 0, .slice none 0 0, .int .i64 0, .int .i64 0, .int .i64 0, .slice none 0 0, .slice none 0 0, .int .i64 0, .bool false, .slice none 0 0, .slice none 0 0, .slice none 0 0]
abbrev Fk:List Value:=[.int .u64 0, .int .u64 0, .int .u32 0, .int .u8 0, .int .u8 0, .int .u8 0, .int .u8 0, .nilFunc, .pointer none, .int .i32 0, .int .i32 0]

instance wp:Ty Tryz.prog 1 false [.nilFunc]:=Ty.of (bytes:=8) (.nilFunc) Tryz.underlying1 rfl ae rfl (by simp [Value.oneCell'])
instance wu:Ty Tryz.prog 2 false [.int .i64 0]:=Ty.of (bytes:=8) (.int .i64 0) Tryz.underlying2 rfl ae rfl (by simp [Value.oneCell'])
instance eV:Ty Tryz.prog 3 false [.int .i64 0]:=Ty.of (bytes:=8) (.int .i64 0) Tryz.underlying3 rfl ae rfl (by simp [Value.oneCell'])
instance Cm:Ty Tryz.prog 4 false [.bool false]:=Ty.of (bytes:=1) (.bool false) Tryz.underlying4 rfl ae rfl (by simp [Value.oneCell'])
instance TZ:Ty Tryz.prog 5 false [.int .u8 0]:=Ty.of (bytes:=1) (.int .u8 0) Tryz.underlying5 rfl ae rfl (by simp [Value.oneCell'])
instance Ql:Ty Tryz.prog 9 false [.string ByteArray.empty]:=Ty.of (bytes:=16) (.string ByteArray.empty) Tryz.underlying9 rfl ae rfl (by simp [Value.oneCell'])
instance Sr:Ty Tryz.prog 12 false [.int .u64 0]:=Ty.of (bytes:=8) (.int .u64 0) Tryz.underlying12 rfl ae rfl (by simp [Value.oneCell'])
instance il:Ty Tryz.prog 22 false [.slice none 0 0]:=Ty.of (bytes:=24) (.slice none 0 0) Tryz.underlying22 rfl ae rfl (by simp [Value.oneCell'])
instance EQ:Ty Tryz.prog 23 false [.slice none 0 0]:=Ty.of (bytes:=24) (.slice none 0 0) Tryz.underlying23 rfl ae rfl (by simp [Value.oneCell'])
instance JY:Ty Tryz.prog 24 true Gs:=Ty.of (bytes:=320) (.agg (Gs).toArray) Tryz.underlying24 rfl ae rfl (by simp [Value.oneCell'])
instance JW:Ty Tryz.prog 26 true Et:=Ty.of (bytes:=360) (.agg (Et).toArray) Tryz.underlying26 rfl ae rfl (by simp [Value.oneCell'])
instance FO:Ty Tryz.prog 30 true ua:=Ty.of (bytes:=72) (.agg (ua).toArray) Tryz.underlying30 rfl ae rfl (by simp [Value.oneCell'])
instance AF:Ty Tryz.prog 32 false [.slice none 0 0]:=Ty.of (bytes:=24) (.slice none 0 0) Tryz.underlying32 rfl ae rfl (by simp [Value.oneCell'])
instance Rs:Ty Tryz.prog 33 true Cj:=Ty.of (bytes:=88) (.agg (Cj).toArray) Tryz.underlying33 rfl ae rfl (by simp [Value.oneCell'])
instance EX:Ty Tryz.prog 34 true Cj:=Ty.of (bytes:=88) (.agg (Cj).toArray) Tryz.underlying34 rfl ae rfl (by simp [Value.oneCell'])
instance RH:Ty Tryz.prog 38 true Ce:=Ty.of (bytes:=112) (.agg (Ce).toArray) Tryz.underlying38 rfl ae rfl (by simp [Value.oneCell'])
instance RM:Ty Tryz.prog 39 true Ce:=Ty.of (bytes:=112) (.agg (Ce).toArray) Tryz.underlying39 rfl ae rfl (by simp [Value.oneCell'])
instance Su:Ty Tryz.prog 40 false [.nilFunc]:=Ty.of (bytes:=8) (.nilFunc) Tryz.underlying40 rfl ae rfl (by simp [Value.oneCell'])
instance TV:Ty Tryz.prog 42 false [.nilFunc]:=Ty.of (bytes:=8) (.nilFunc) Tryz.underlying42 rfl ae rfl (by simp [Value.oneCell'])
instance MC:Ty Tryz.prog 43 false [.nilFunc]:=Ty.of (bytes:=8) (.nilFunc) Tryz.underlying43 rfl ae rfl (by simp [Value.oneCell'])
instance Ts:Ty Tryz.prog 44 true [.int .i64 0, .int .i64 0]:=Ty.of (bytes:=16) (.agg #[.int .i64 0, .int .i64 0]) Tryz.underlying44 rfl ae rfl (by simp [Value.oneCell'])
instance Se:Ty Tryz.prog 45 false [.slice none 0 0]:=Ty.of (bytes:=24) (.slice none 0 0) Tryz.underlying45 rfl ae rfl (by simp [Value.oneCell'])
instance TQ:Ty Tryz.prog 47 true [.int .i64 0, .int .i64 0]:=Ty.of (bytes:=16) (.agg #[.int .i64 0, .int .i64 0]) Tryz.underlying47 rfl ae rfl (by simp [Value.oneCell'])
instance TL:Ty Tryz.prog 48 true [.int .i64 0, .int .i64 0]:=Ty.of (bytes:=16) (.agg #[.int .i64 0, .int .i64 0]) Tryz.underlying48 rfl ae rfl (by simp [Value.oneCell'])
instance Sk:Ty Tryz.prog 51 false [.nilFunc]:=Ty.of (bytes:=8) (.nilFunc) Tryz.underlying51 rfl ae rfl (by simp [Value.oneCell'])
instance Sw:Ty Tryz.prog 57 true mO:=Ty.of (bytes:=40) (.agg (mO).toArray) Tryz.underlying57 rfl ae rfl (by simp [Value.oneCell'])
instance RD:Ty Tryz.prog 60 false [.nilFunc]:=Ty.of (bytes:=8) (.nilFunc) Tryz.underlying60 rfl ae rfl (by simp [Value.oneCell'])
instance Dl:Ty Tryz.prog 61 false [.slice none 0 0]:=Ty.of (bytes:=24) (.slice none 0 0) Tryz.underlying61 rfl ae rfl (by simp [Value.oneCell'])
instance KO:Ty Tryz.prog 62 false [.slice none 0 0]:=Ty.of (bytes:=24) (.slice none 0 0) Tryz.underlying62 rfl ae rfl (by simp [Value.oneCell'])
instance KL:Ty Tryz.prog 64 true Ev:=Ty.of (bytes:=72) (.agg (Ev).toArray) Tryz.underlying64 rfl ae rfl (by simp [Value.oneCell'])
instance MD:Ty Tryz.prog 66 false [.int .i64 0]:=Ty.of (bytes:=8) (.int .i64 0) Tryz.underlying66 rfl ae rfl (by simp [Value.oneCell'])
instance Lk:Ty Tryz.prog 69 false [.slice none 0 0]:=Ty.of (bytes:=24) (.slice none 0 0) Tryz.underlying69 rfl ae rfl (by simp [Value.oneCell'])
instance Kt:Ty Tryz.prog 71 true Cr:=Ty.of (bytes:=56) (.agg (Cr).toArray) Tryz.underlying71 rfl ae rfl (by simp [Value.oneCell'])
instance SD:Ty Tryz.prog 73 true Cv:=Ty.of (bytes:=64) (.agg (Cv).toArray) Tryz.underlying73 rfl ae rfl (by simp [Value.oneCell'])
instance JF:Ty Tryz.prog 78 false [.slice none 0 0]:=Ty.of (bytes:=24) (.slice none 0 0) Tryz.underlying78 rfl ae rfl (by simp [Value.oneCell'])
instance Mj:Ty Tryz.prog 80 true [.slice none 0 0, .slice none 0 0]:=Ty.of (bytes:=48) (.agg #[.slice none 0 0, .slice none 0 0]) Tryz.underlying80 rfl ae rfl (by simp [Value.oneCell'])
instance LA:Ty Tryz.prog 81 true HQ:=Ty.of (bytes:=328) (.agg (HQ).toArray) Tryz.underlying81 rfl ae rfl (by simp [Value.oneCell'])
instance Rq:Ty Tryz.prog 83 true vQ:=Ty.of (bytes:=480) (.agg (vQ).toArray) Tryz.underlying83 rfl ae rfl (by simp [Value.oneCell'])
instance Tg:Ty Tryz.prog 87 true uO:=Ty.of (bytes:=152) (.agg (uO).toArray) Tryz.underlying87 rfl ae rfl (by simp [Value.oneCell'])
instance Fu:Ty Tryz.prog 88 false [.slice none 0 0]:=Ty.of (bytes:=24) (.slice none 0 0) Tryz.underlying88 rfl ae rfl (by simp [Value.oneCell'])
instance KF:Ty Tryz.prog 89 false [.slice none 0 0]:=Ty.of (bytes:=24) (.slice none 0 0) Tryz.underlying89 rfl ae rfl (by simp [Value.oneCell'])
instance tn:Ty Tryz.prog 91 true uV:=Ty.of (bytes:=24) (.agg (uV).toArray) Tryz.underlying91 rfl ae rfl (by simp [Value.oneCell'])
instance Sc:Ty Tryz.prog 96 true uY:=Ty.of (bytes:=176) (.agg (uY).toArray) Tryz.underlying96 rfl ae rfl (by simp [Value.oneCell'])
instance Sq:Ty Tryz.prog 97 false [.pointer none]:=Ty.of (bytes:=8) (.pointer none) Tryz.underlying97 rfl ae rfl (by simp [Value.oneCell'])
instance TG:Ty Tryz.prog 99 false [.nilFunc]:=Ty.of (bytes:=8) (.nilFunc) Tryz.underlying99 rfl ae rfl (by simp [Value.oneCell'])
instance Nv:Ty Tryz.prog 100 false [.nilFunc]:=Ty.of (bytes:=8) (.nilFunc) Tryz.underlying100 rfl ae rfl (by simp [Value.oneCell'])
instance Ck:Ty Tryz.prog 101 false [.slice none 0 0]:=Ty.of (bytes:=24) (.slice none 0 0) Tryz.underlying101 rfl ae rfl (by simp [Value.oneCell'])
instance QH:Ty Tryz.prog 102 true ra:=Ty.of (bytes:=72) (.agg (ra).toArray) Tryz.underlying102 rfl ae rfl (by simp [Value.oneCell'])
instance OV:Ty Tryz.prog 103 true ra:=Ty.of (bytes:=72) (.agg (ra).toArray) Tryz.underlying103 rfl ae rfl (by simp [Value.oneCell'])
instance Oh:Ty Tryz.prog 104 false [.nilFunc]:=Ty.of (bytes:=8) (.nilFunc) Tryz.underlying104 rfl ae rfl (by simp [Value.oneCell'])
instance Qe:Ty Tryz.prog 105 false [.nilFunc]:=Ty.of (bytes:=8) (.nilFunc) Tryz.underlying105 rfl ae rfl (by simp [Value.oneCell'])
instance QX:Ty Tryz.prog 108 true mO:=Ty.of (bytes:=40) (.agg (mO).toArray) Tryz.underlying108 rfl ae rfl (by simp [Value.oneCell'])
instance zh:Ty Tryz.prog 109 true mO:=Ty.of (bytes:=40) (.agg (mO).toArray) Tryz.underlying109 rfl ae rfl (by simp [Value.oneCell'])
instance QG:Ty Tryz.prog 110 true oQ:=Ty.of (bytes:=56) (.agg (oQ).toArray) Tryz.underlying110 rfl ae rfl (by simp [Value.oneCell'])
instance Nr:Ty Tryz.prog 111 true oQ:=Ty.of (bytes:=56) (.agg (oQ).toArray) Tryz.underlying111 rfl ae rfl (by simp [Value.oneCell'])
instance NO:Ty Tryz.prog 112 false [.nilFunc]:=Ty.of (bytes:=8) (.nilFunc) Tryz.underlying112 rfl ae rfl (by simp [Value.oneCell'])
instance NL:Ty Tryz.prog 113 false [.slice none 0 0]:=Ty.of (bytes:=24) (.slice none 0 0) Tryz.underlying113 rfl ae rfl (by simp [Value.oneCell'])
instance OY:Ty Tryz.prog 114 true mO:=Ty.of (bytes:=40) (.agg (mO).toArray) Tryz.underlying114 rfl ae rfl (by simp [Value.oneCell'])
instance Cl:Ty Tryz.prog 115 true mO:=Ty.of (bytes:=40) (.agg (mO).toArray) Tryz.underlying115 rfl ae rfl (by simp [Value.oneCell'])
instance Pu:Ty Tryz.prog 116 true ua:=Ty.of (bytes:=72) (.agg (ua).toArray) Tryz.underlying116 rfl ae rfl (by simp [Value.oneCell'])
instance Nt:Ty Tryz.prog 117 true ua:=Ty.of (bytes:=72) (.agg (ua).toArray) Tryz.underlying117 rfl ae rfl (by simp [Value.oneCell'])
instance QJ:Ty Tryz.prog 118 false [.nilFunc]:=Ty.of (bytes:=8) (.nilFunc) Tryz.underlying118 rfl ae rfl (by simp [Value.oneCell'])
instance NX:Ty Tryz.prog 119 false [.nilFunc]:=Ty.of (bytes:=8) (.nilFunc) Tryz.underlying119 rfl ae rfl (by simp [Value.oneCell'])
instance Ns:Ty Tryz.prog 121 false [.slice none 0 0]:=Ty.of (bytes:=24) (.slice none 0 0) Tryz.underlying121 rfl ae rfl (by simp [Value.oneCell'])
instance PB:Ty Tryz.prog 122 false [.nilFunc]:=Ty.of (bytes:=8) (.nilFunc) Tryz.underlying122 rfl ae rfl (by simp [Value.oneCell'])
instance Pr:Ty Tryz.prog 124 false [.nilFunc]:=Ty.of (bytes:=8) (.nilFunc) Tryz.underlying124 rfl ae rfl (by simp [Value.oneCell'])
instance Qj:Ty Tryz.prog 125 true [.int .i64 0, .int .i64 0]:=Ty.of (bytes:=16) (.agg #[.int .i64 0, .int .i64 0]) Tryz.underlying125 rfl ae rfl (by simp [Value.oneCell'])
instance Ng:Ty Tryz.prog 126 true [.int .i64 0, .int .i64 0]:=Ty.of (bytes:=16) (.agg #[.int .i64 0, .int .i64 0]) Tryz.underlying126 rfl ae rfl (by simp [Value.oneCell'])
instance OB:Ty Tryz.prog 127 false [.pointer none]:=Ty.of (bytes:=8) (.pointer none) Tryz.underlying127 rfl ae rfl (by simp [Value.oneCell'])
instance OE:Ty Tryz.prog 129 true vn:=Ty.of (bytes:=56) (.agg (vn).toArray) Tryz.underlying129 rfl ae rfl (by simp [Value.oneCell'])
instance EC:Ty Tryz.prog 132 true uC:=Ty.of (bytes:=96) (.agg (uC).toArray) Tryz.underlying132 rfl ae rfl (by simp [Value.oneCell'])
instance Nj:Ty Tryz.prog 137 false [.pointer none]:=Ty.of (bytes:=8) (.pointer none) Tryz.underlying137 rfl ae rfl (by simp [Value.oneCell'])
instance Nb:Ty Tryz.prog 139 true [.slice none 0 0, .int .i64 0]:=Ty.of (bytes:=32) (.agg #[.slice none 0 0, .int .i64 0]) Tryz.underlying139 rfl ae rfl (by simp [Value.oneCell'])
instance OQ:Ty Tryz.prog 141 false [.pointer none]:=Ty.of (bytes:=8) (.pointer none) Tryz.underlying141 rfl ae rfl (by simp [Value.oneCell'])
instance QK:Ty Tryz.prog 143 true vo:=Ty.of (bytes:=96) (.agg (vo).toArray) Tryz.underlying143 rfl ae rfl (by simp [Value.oneCell'])
instance Oi:Ty Tryz.prog 161 false [.nilFunc]:=Ty.of (bytes:=8) (.nilFunc) Tryz.underlying161 rfl ae rfl (by simp [Value.oneCell'])
instance Qb:Ty Tryz.prog 168 false [.pointer none]:=Ty.of (bytes:=8) (.pointer none) Tryz.underlying168 rfl ae rfl (by simp [Value.oneCell'])
instance NV:Ty Tryz.prog 169 false [.nilFunc]:=Ty.of (bytes:=8) (.nilFunc) Tryz.underlying169 rfl ae rfl (by simp [Value.oneCell'])
instance OF:Ty Tryz.prog 171 true wn:=Ty.of (bytes:=608) (.agg (wn).toArray) Tryz.underlying171 rfl ae rfl (by simp [Value.oneCell'])
instance Rc:Ty Tryz.prog 172 false [.nilFunc]:=Ty.of (bytes:=8) (.nilFunc) Tryz.underlying172 rfl ae rfl (by simp [Value.oneCell'])
instance QU:Ty Tryz.prog 173 true zJ:=Ty.of (bytes:=192) (.agg (zJ).toArray) Tryz.underlying173 rfl ae rfl (by simp [Value.oneCell'])
instance QR:Ty Tryz.prog 175 false [.map none]:=Ty.of (bytes:=8) (.map none) Tryz.underlying175 rfl ae rfl (by simp [Value.oneCell'])
instance Od:Ty Tryz.prog 176 true []:=Ty.of (bytes:=0) (.agg #[]) Tryz.underlying176 rfl ae rfl (by simp [Value.oneCell'])
instance Ri:Ty Tryz.prog 178 false [.nilFunc]:=Ty.of (bytes:=8) (.nilFunc) Tryz.underlying178 rfl ae rfl (by simp [Value.oneCell'])
instance NK:Ty Tryz.prog 179 false [.nilFunc]:=Ty.of (bytes:=8) (.nilFunc) Tryz.underlying179 rfl ae rfl (by simp [Value.oneCell'])
instance NQ:Ty Tryz.prog 188 false [.map none]:=Ty.of (bytes:=8) (.map none) Tryz.underlying188 rfl ae rfl (by simp [Value.oneCell'])
instance PD:Ty Tryz.prog 190 false [.map none]:=Ty.of (bytes:=8) (.map none) Tryz.underlying190 rfl ae rfl (by simp [Value.oneCell'])
instance Nm:Ty Tryz.prog 192 true vC:=Ty.of (bytes:=32) (.agg (vC).toArray) Tryz.underlying192 rfl ae rfl (by simp [Value.oneCell'])
instance Qx:Ty Tryz.prog 196 true qY:=Ty.of (bytes:=48) (.agg (qY).toArray) Tryz.underlying196 rfl ae rfl (by simp [Value.oneCell'])
instance Nz:Ty Tryz.prog 200 false [.pointer none]:=Ty.of (bytes:=8) (.pointer none) Tryz.underlying200 rfl ae rfl (by simp [Value.oneCell'])
instance Qy:Ty Tryz.prog 216 false [.nilFunc]:=Ty.of (bytes:=8) (.nilFunc) Tryz.underlying216 rfl ae rfl (by simp [Value.oneCell'])
instance EW:Ty Tryz.prog 217 false [.slice none 0 0]:=Ty.of (bytes:=24) (.slice none 0 0) Tryz.underlying217 rfl ae rfl (by simp [Value.oneCell'])
instance PP:Ty Tryz.prog 220 false [.pointer none]:=Ty.of (bytes:=8) (.pointer none) Tryz.underlying220 rfl ae rfl (by simp [Value.oneCell'])
instance Rn:Ty Tryz.prog 222 true vg:=Ty.of (bytes:=72) (.agg (vg).toArray) Tryz.underlying222 rfl ae rfl (by simp [Value.oneCell'])
instance Rl:Ty Tryz.prog 225 true rO:=Ty.of (bytes:=40) (.agg (rO).toArray) Tryz.underlying225 rfl ae rfl (by simp [Value.oneCell'])
instance OG:Ty Tryz.prog 253 false [.int .i64 0]:=Ty.of (bytes:=8) (.int .i64 0) Tryz.underlying253 rfl ae rfl (by simp [Value.oneCell'])
instance Qu:Ty Tryz.prog 275 false [.slice none 0 0]:=Ty.of (bytes:=24) (.slice none 0 0) Tryz.underlying275 rfl ae rfl (by simp [Value.oneCell'])
instance Tw:Elem Tryz.prog 22 3 1 8 [.int .i64 0]:=Elem.of (.int .i64 0) Tryz.underlying22 ae rfl rfl ah ah (by simp [Value.oneCell'])
instance Tp:Elem Tryz.prog 23 48 2 16 [.int .i64 0, .int .i64 0]:=Elem.of (.agg #[.int .i64 0, .int .i64 0]) Tryz.underlying23 ae rfl rfl ah ah (by simp [Value.oneCell'])
instance TU:Elem Tryz.prog 32 57 5 40 mO:=Elem.of (.agg (mO).toArray) Tryz.underlying32 ae rfl rfl ah ah (by simp [Value.oneCell'])
instance TA:Elem Tryz.prog 45 44 2 16 [.int .i64 0, .int .i64 0]:=Elem.of (.agg #[.int .i64 0, .int .i64 0]) Tryz.underlying45 ae rfl rfl ah ah (by simp [Value.oneCell'])
instance SY:Elem Tryz.prog 61 9 1 16 [.string ByteArray.empty]:=Elem.of (.string ByteArray.empty) Tryz.underlying61 ae rfl rfl ah ah (by simp [Value.oneCell'])
instance TM:Elem Tryz.prog 62 73 5 64 Cv:=Elem.of (.agg (Cv).toArray) Tryz.underlying62 ae rfl rfl ah ah (by simp [Value.oneCell'])
instance Tv:Elem Tryz.prog 69 71 4 56 Cr:=Elem.of (.agg (Cr).toArray) Tryz.underlying69 ae rfl rfl ah ah (by simp [Value.oneCell'])
instance TH:Elem Tryz.prog 78 126 2 16 [.int .i64 0, .int .i64 0]:=Elem.of (.agg #[.int .i64 0, .int .i64 0]) Tryz.underlying78 ae rfl rfl ah ah (by simp [Value.oneCell'])
instance TD:Elem Tryz.prog 88 111 7 56 oQ:=Elem.of (.agg (oQ).toArray) Tryz.underlying88 ae rfl rfl ah ah (by simp [Value.oneCell'])
instance SX:Elem Tryz.prog 89 117 9 72 ua:=Elem.of (.agg (ua).toArray) Tryz.underlying89 ae rfl rfl ah ah (by simp [Value.oneCell'])
instance Og:Elem Tryz.prog 101 196 6 48 qY:=Elem.of (.agg (qY).toArray) Tryz.underlying101 ae rfl rfl ah ah (by simp [Value.oneCell'])
instance Nc:Elem Tryz.prog 113 115 5 40 mO:=Elem.of (.agg (mO).toArray) Tryz.underlying113 ae rfl rfl ah ah (by simp [Value.oneCell'])
instance Pp:Elem Tryz.prog 121 4 1 1 [.bool false]:=Elem.of (.bool false) Tryz.underlying121 ae rfl rfl ah ah (by simp [Value.oneCell'])
instance Ot:Elem Tryz.prog 217 225 4 40 rO:=Elem.of (.agg (rO).toArray) Tryz.underlying217 ae rfl rfl ah ah (by simp [Value.oneCell'])
instance QF:Elem Tryz.prog 275 61 1 24 [.slice none 0 0]:=Elem.of (.slice none 0 0) Tryz.underlying275 ae rfl rfl ah ah (by simp [Value.oneCell'])
instance Lt:cE Tryz.prog 26 0 0:=⟨fun ad w=> by kernel_rfl⟩
instance MQ:Fvl Tryz.prog 26 0 0 false 1:=Fvl.of Tryz.underlying26 rfl rfl EQ rfl
instance JK:cE Tryz.prog 26 1 1:=⟨fun ad w=> by kernel_rfl⟩
instance LE:Fvl Tryz.prog 26 1 1 true 40:=Fvl.of Tryz.underlying26 rfl rfl JY rfl
instance Ly:cE Tryz.prog 26 2 41:=⟨fun ad w=> by kernel_rfl⟩
instance Kc:Fvl Tryz.prog 26 2 41 false 1:=Fvl.of Tryz.underlying26 rfl rfl eV rfl
instance KW:cE Tryz.prog 26 3 42:=⟨fun ad w=> by kernel_rfl⟩
instance Mi:Fvl Tryz.prog 26 3 42 false 1:=Fvl.of Tryz.underlying26 rfl rfl eV rfl
instance Ka:cE Tryz.prog 33 0 0:=⟨fun ad w=> by kernel_rfl⟩
instance Kh:Fvl Tryz.prog 33 0 0 false 1:=Fvl.of Tryz.underlying33 rfl rfl il rfl
instance JN:cE Tryz.prog 33 1 1:=⟨fun ad w=> by kernel_rfl⟩
instance LF:Fvl Tryz.prog 33 1 1 false 1:=Fvl.of Tryz.underlying33 rfl rfl AF rfl
instance JB:cE Tryz.prog 33 2 2:=⟨fun ad w=> by kernel_rfl⟩
instance Kp:Fvl Tryz.prog 33 2 2 false 1:=Fvl.of Tryz.underlying33 rfl rfl eV rfl
instance Ls:cE Tryz.prog 33 3 3:=⟨fun ad w=> by kernel_rfl⟩
instance LW:Fvl Tryz.prog 33 3 3 false 1:=Fvl.of Tryz.underlying33 rfl rfl Cm rfl
instance Ld:cE Tryz.prog 33 4 4:=⟨fun ad w=> by kernel_rfl⟩
instance MF:Fvl Tryz.prog 33 4 4 false 1:=Fvl.of Tryz.underlying33 rfl rfl il rfl
instance Kn:cE Tryz.prog 34 0 0:=⟨fun ad w=> by kernel_rfl⟩
instance LY:Fvl Tryz.prog 34 0 0 false 1:=Fvl.of Tryz.underlying34 rfl rfl il rfl
instance KD:cE Tryz.prog 34 1 1:=⟨fun ad w=> by kernel_rfl⟩
instance Lh:Fvl Tryz.prog 34 1 1 false 1:=Fvl.of Tryz.underlying34 rfl rfl AF rfl
instance KI:cE Tryz.prog 34 2 2:=⟨fun ad w=> by kernel_rfl⟩
instance Kg:Fvl Tryz.prog 34 2 2 false 1:=Fvl.of Tryz.underlying34 rfl rfl eV rfl
instance JR:cE Tryz.prog 34 3 3:=⟨fun ad w=> by kernel_rfl⟩
instance Mb:Fvl Tryz.prog 34 3 3 false 1:=Fvl.of Tryz.underlying34 rfl rfl Cm rfl
instance MB:cE Tryz.prog 34 4 4:=⟨fun ad w=> by kernel_rfl⟩
instance KJ:Fvl Tryz.prog 34 4 4 false 1:=Fvl.of Tryz.underlying34 rfl rfl il rfl
instance LM:cE Tryz.prog 38 0 0:=⟨fun ad w=> by kernel_rfl⟩
instance Ma:Fvl Tryz.prog 38 0 0 false 1:=Fvl.of Tryz.underlying38 rfl rfl il rfl
instance KY:cE Tryz.prog 38 1 1:=⟨fun ad w=> by kernel_rfl⟩
instance JQ:Fvl Tryz.prog 38 1 1 false 1:=Fvl.of Tryz.underlying38 rfl rfl AF rfl
instance Mw:cE Tryz.prog 38 2 2:=⟨fun ad w=> by kernel_rfl⟩
instance ME:Fvl Tryz.prog 38 2 2 false 1:=Fvl.of Tryz.underlying38 rfl rfl eV rfl
instance Mo:cE Tryz.prog 38 3 3:=⟨fun ad w=> by kernel_rfl⟩
instance Jz:Fvl Tryz.prog 38 3 3 false 1:=Fvl.of Tryz.underlying38 rfl rfl Cm rfl
instance Lu:cE Tryz.prog 38 4 4:=⟨fun ad w=> by kernel_rfl⟩
instance Ll:Fvl Tryz.prog 38 4 4 false 1:=Fvl.of Tryz.underlying38 rfl rfl il rfl
instance MX:cE Tryz.prog 38 5 5:=⟨fun ad w=> by kernel_rfl⟩
instance Lo:Fvl Tryz.prog 38 5 5 false 1:=Fvl.of Tryz.underlying38 rfl rfl il rfl
instance Mn:cE Tryz.prog 39 0 0:=⟨fun ad w=> by kernel_rfl⟩
instance Kj:Fvl Tryz.prog 39 0 0 false 1:=Fvl.of Tryz.underlying39 rfl rfl il rfl
instance LS:cE Tryz.prog 39 1 1:=⟨fun ad w=> by kernel_rfl⟩
instance MA:Fvl Tryz.prog 39 1 1 false 1:=Fvl.of Tryz.underlying39 rfl rfl AF rfl
instance Kd:cE Tryz.prog 39 2 2:=⟨fun ad w=> by kernel_rfl⟩
instance LD:Fvl Tryz.prog 39 2 2 false 1:=Fvl.of Tryz.underlying39 rfl rfl eV rfl
instance LO:cE Tryz.prog 39 3 3:=⟨fun ad w=> by kernel_rfl⟩
instance Kw:Fvl Tryz.prog 39 3 3 false 1:=Fvl.of Tryz.underlying39 rfl rfl Cm rfl
instance Mr:cE Tryz.prog 39 4 4:=⟨fun ad w=> by kernel_rfl⟩
instance Mu:Fvl Tryz.prog 39 4 4 false 1:=Fvl.of Tryz.underlying39 rfl rfl il rfl
instance KX:cE Tryz.prog 39 5 5:=⟨fun ad w=> by kernel_rfl⟩
instance MK:Fvl Tryz.prog 39 5 5 false 1:=Fvl.of Tryz.underlying39 rfl rfl il rfl
instance ML:cE Tryz.prog 47 0 0:=⟨fun ad w=> by kernel_rfl⟩
instance LG:Fvl Tryz.prog 47 0 0 false 1:=Fvl.of Tryz.underlying47 rfl rfl eV rfl
instance LU:cE Tryz.prog 47 1 1:=⟨fun ad w=> by kernel_rfl⟩
instance MG:Fvl Tryz.prog 47 1 1 false 1:=Fvl.of Tryz.underlying47 rfl rfl eV rfl
instance Lb:cE Tryz.prog 48 0 0:=⟨fun ad w=> by kernel_rfl⟩
instance LZ:Fvl Tryz.prog 48 0 0 false 1:=Fvl.of Tryz.underlying48 rfl rfl eV rfl
instance KV:cE Tryz.prog 48 1 1:=⟨fun ad w=> by kernel_rfl⟩
instance Jy:Fvl Tryz.prog 48 1 1 false 1:=Fvl.of Tryz.underlying48 rfl rfl eV rfl
instance Lc:cE Tryz.prog 57 0 0:=⟨fun ad w=> by kernel_rfl⟩
instance Mv:Fvl Tryz.prog 57 0 0 false 1:=Fvl.of Tryz.underlying57 rfl rfl eV rfl
instance MI:cE Tryz.prog 57 1 1:=⟨fun ad w=> by kernel_rfl⟩
instance JD:Fvl Tryz.prog 57 1 1 false 1:=Fvl.of Tryz.underlying57 rfl rfl eV rfl
instance JS:cE Tryz.prog 57 2 2:=⟨fun ad w=> by kernel_rfl⟩
instance LV:Fvl Tryz.prog 57 2 2 false 1:=Fvl.of Tryz.underlying57 rfl rfl eV rfl
instance Kr:cE Tryz.prog 57 3 3:=⟨fun ad w=> by kernel_rfl⟩
instance Lw:Fvl Tryz.prog 57 3 3 false 1:=Fvl.of Tryz.underlying57 rfl rfl eV rfl
instance JG:cE Tryz.prog 57 4 4:=⟨fun ad w=> by kernel_rfl⟩
instance Mq:Fvl Tryz.prog 57 4 4 false 1:=Fvl.of Tryz.underlying57 rfl rfl eV rfl
instance Km:cE Tryz.prog 64 0 0:=⟨fun ad w=> by kernel_rfl⟩
instance JO:Fvl Tryz.prog 64 0 0 false 1:=Fvl.of Tryz.underlying64 rfl rfl Dl rfl
instance Jx:cE Tryz.prog 64 1 1:=⟨fun ad w=> by kernel_rfl⟩
instance MH:Fvl Tryz.prog 64 1 1 false 1:=Fvl.of Tryz.underlying64 rfl rfl Dl rfl
instance Ko:cE Tryz.prog 64 2 2:=⟨fun ad w=> by kernel_rfl⟩
instance JX:Fvl Tryz.prog 64 2 2 false 1:=Fvl.of Tryz.underlying64 rfl rfl KO rfl
instance Lp:cE Tryz.prog 71 0 0:=⟨fun ad w=> by kernel_rfl⟩
instance My:Fvl Tryz.prog 71 0 0 false 1:=Fvl.of Tryz.underlying71 rfl rfl eV rfl
instance LL:cE Tryz.prog 71 1 1:=⟨fun ad w=> by kernel_rfl⟩
instance Md:Fvl Tryz.prog 71 1 1 false 1:=Fvl.of Tryz.underlying71 rfl rfl eV rfl
instance Li:cE Tryz.prog 71 2 2:=⟨fun ad w=> by kernel_rfl⟩
instance MM:Fvl Tryz.prog 71 2 2 false 1:=Fvl.of Tryz.underlying71 rfl rfl Ql rfl
instance Kz:cE Tryz.prog 71 3 3:=⟨fun ad w=> by kernel_rfl⟩
instance Jw:Fvl Tryz.prog 71 3 3 false 1:=Fvl.of Tryz.underlying71 rfl rfl Lk rfl
instance Lm:cE Tryz.prog 73 0 0:=⟨fun ad w=> by kernel_rfl⟩
instance JC:Fvl Tryz.prog 73 0 0 false 1:=Fvl.of Tryz.underlying73 rfl rfl eV rfl
instance MV:cE Tryz.prog 73 1 1:=⟨fun ad w=> by kernel_rfl⟩
instance JA:Fvl Tryz.prog 73 1 1 true 4:=Fvl.of Tryz.underlying73 rfl rfl Kt rfl
instance Mg:cE Tryz.prog 80 0 0:=⟨fun ad w=> by kernel_rfl⟩
instance Mc:Fvl Tryz.prog 80 0 0 false 1:=Fvl.of Tryz.underlying80 rfl rfl il rfl
instance JV:cE Tryz.prog 80 1 1:=⟨fun ad w=> by kernel_rfl⟩
instance KT:Fvl Tryz.prog 80 1 1 false 1:=Fvl.of Tryz.underlying80 rfl rfl JF rfl
instance Lr:cE Tryz.prog 83 0 0:=⟨fun ad w=> by kernel_rfl⟩
instance KS:Fvl Tryz.prog 83 0 0 false 1:=Fvl.of Tryz.underlying83 rfl rfl Cm rfl
instance Kf:cE Tryz.prog 83 1 1:=⟨fun ad w=> by kernel_rfl⟩
instance JJ:Fvl Tryz.prog 83 1 1 false 1:=Fvl.of Tryz.underlying83 rfl rfl eV rfl
instance LQ:cE Tryz.prog 83 2 2:=⟨fun ad w=> by kernel_rfl⟩
instance Mm:Fvl Tryz.prog 83 2 2 false 1:=Fvl.of Tryz.underlying83 rfl rfl eV rfl
instance LB:cE Tryz.prog 83 3 3:=⟨fun ad w=> by kernel_rfl⟩
instance Kb:Fvl Tryz.prog 83 3 3 false 1:=Fvl.of Tryz.underlying83 rfl rfl eV rfl
instance Kl:cE Tryz.prog 83 4 4:=⟨fun ad w=> by kernel_rfl⟩
instance KM:Fvl Tryz.prog 83 4 4 true 2:=Fvl.of Tryz.underlying83 rfl rfl Mj rfl
instance Ke:cE Tryz.prog 83 5 6:=⟨fun ad w=> by kernel_rfl⟩
instance Mh:Fvl Tryz.prog 83 5 6 false 1:=Fvl.of Tryz.underlying83 rfl rfl il rfl
instance KA:cE Tryz.prog 83 6 7:=⟨fun ad w=> by kernel_rfl⟩
instance KG:Fvl Tryz.prog 83 6 7 false 1:=Fvl.of Tryz.underlying83 rfl rfl il rfl
instance Kk:cE Tryz.prog 83 7 8:=⟨fun ad w=> by kernel_rfl⟩
instance Lz:Fvl Tryz.prog 83 7 8 true 41:=Fvl.of Tryz.underlying83 rfl rfl LA rfl
instance Ku:cE Tryz.prog 83 8 49:=⟨fun ad w=> by kernel_rfl⟩
instance MR:Fvl Tryz.prog 83 8 49 false 1:=Fvl.of Tryz.underlying83 rfl rfl eV rfl
instance MO:cE Tryz.prog 83 9 50:=⟨fun ad w=> by kernel_rfl⟩
instance JT:Fvl Tryz.prog 83 9 50 false 1:=Fvl.of Tryz.underlying83 rfl rfl eV rfl
instance GQ:cE Tryz.prog 83 10 51:=⟨fun ad w=> by kernel_rfl⟩
instance Gr:Fvl Tryz.prog 83 10 51 false 1:=Fvl.of Tryz.underlying83 rfl rfl eV rfl
instance JI:cE Tryz.prog 87 0 0:=⟨fun ad w=> by kernel_rfl⟩
instance Ml:Fvl Tryz.prog 87 0 0 false 1:=Fvl.of Tryz.underlying87 rfl rfl eV rfl
instance Mx:cE Tryz.prog 87 1 1:=⟨fun ad w=> by kernel_rfl⟩
instance KQ:Fvl Tryz.prog 87 1 1 false 1:=Fvl.of Tryz.underlying87 rfl rfl eV rfl
instance KP:cE Tryz.prog 87 2 2:=⟨fun ad w=> by kernel_rfl⟩
instance LK:Fvl Tryz.prog 87 2 2 true 9:=Fvl.of Tryz.underlying87 rfl rfl FO rfl
instance JM:cE Tryz.prog 87 3 11:=⟨fun ad w=> by kernel_rfl⟩
instance LP:Fvl Tryz.prog 87 3 11 false 1:=Fvl.of Tryz.underlying87 rfl rfl eV rfl
instance Ks:cE Tryz.prog 87 4 12:=⟨fun ad w=> by kernel_rfl⟩
instance Mt:Fvl Tryz.prog 87 4 12 false 1:=Fvl.of Tryz.underlying87 rfl rfl eV rfl
instance Mp:cE Tryz.prog 87 5 13:=⟨fun ad w=> by kernel_rfl⟩
instance Lf:Fvl Tryz.prog 87 5 13 false 1:=Fvl.of Tryz.underlying87 rfl rfl il rfl
instance Ky:cE Tryz.prog 87 6 14:=⟨fun ad w=> by kernel_rfl⟩
instance KK:Fvl Tryz.prog 87 6 14 false 1:=Fvl.of Tryz.underlying87 rfl rfl il rfl
instance MJ:cE Tryz.prog 91 0 0:=⟨fun ad w=> by kernel_rfl⟩
instance JH:Fvl Tryz.prog 91 0 0 false 1:=Fvl.of Tryz.underlying91 rfl rfl eV rfl
instance Mf:cE Tryz.prog 91 1 1:=⟨fun ad w=> by kernel_rfl⟩
instance Me:Fvl Tryz.prog 91 1 1 false 1:=Fvl.of Tryz.underlying91 rfl rfl eV rfl
instance Kq:cE Tryz.prog 91 2 2:=⟨fun ad w=> by kernel_rfl⟩
instance JP:Fvl Tryz.prog 91 2 2 false 1:=Fvl.of Tryz.underlying91 rfl rfl eV rfl
instance Mz:cE Tryz.prog 96 0 0:=⟨fun ad w=> by kernel_rfl⟩
instance MN:Fvl Tryz.prog 96 0 0 true 3:=Fvl.of Tryz.underlying96 rfl rfl tn rfl
instance Lq:cE Tryz.prog 96 1 3:=⟨fun ad w=> by kernel_rfl⟩
instance La:Fvl Tryz.prog 96 1 3 false 1:=Fvl.of Tryz.underlying96 rfl rfl KF rfl
instance MS:cE Tryz.prog 96 2 4:=⟨fun ad w=> by kernel_rfl⟩
instance KZ:Fvl Tryz.prog 96 2 4 false 1:=Fvl.of Tryz.underlying96 rfl rfl Cm rfl
instance LC:cE Tryz.prog 96 3 5:=⟨fun ad w=> by kernel_rfl⟩
instance JE:Fvl Tryz.prog 96 3 5 false 1:=Fvl.of Tryz.underlying96 rfl rfl eV rfl
instance LJ:cE Tryz.prog 96 4 6:=⟨fun ad w=> by kernel_rfl⟩
instance LR:Fvl Tryz.prog 96 4 6 false 1:=Fvl.of Tryz.underlying96 rfl rfl il rfl
instance Ki:cE Tryz.prog 96 5 7:=⟨fun ad w=> by kernel_rfl⟩
instance Lx:Fvl Tryz.prog 96 5 7 true 5:=Fvl.of Tryz.underlying96 rfl rfl EX rfl
instance Hf:cE Tryz.prog 102 0 0:=⟨fun ad w=> by kernel_rfl⟩
instance Hs:Fvl Tryz.prog 102 0 0 true 3:=Fvl.of Tryz.underlying102 rfl rfl tn rfl
instance HG:cE Tryz.prog 102 1 3:=⟨fun ad w=> by kernel_rfl⟩
instance GR:Fvl Tryz.prog 102 1 3 false 1:=Fvl.of Tryz.underlying102 rfl rfl Ck rfl
instance HE:cE Tryz.prog 102 2 4:=⟨fun ad w=> by kernel_rfl⟩
instance GP:Fvl Tryz.prog 102 2 4 false 1:=Fvl.of Tryz.underlying102 rfl rfl Fu rfl
instance HN:cE Tryz.prog 103 0 0:=⟨fun ad w=> by kernel_rfl⟩
instance Ir:Fvl Tryz.prog 103 0 0 true 3:=Fvl.of Tryz.underlying103 rfl rfl tn rfl
instance HJ:cE Tryz.prog 103 1 3:=⟨fun ad w=> by kernel_rfl⟩
instance IQ:Fvl Tryz.prog 103 1 3 false 1:=Fvl.of Tryz.underlying103 rfl rfl Ck rfl
instance GG:cE Tryz.prog 103 2 4:=⟨fun ad w=> by kernel_rfl⟩
instance Hz:Fvl Tryz.prog 103 2 4 false 1:=Fvl.of Tryz.underlying103 rfl rfl Fu rfl
instance IK:cE Tryz.prog 108 0 0:=⟨fun ad w=> by kernel_rfl⟩
instance Gw:Fvl Tryz.prog 108 0 0 true 3:=Fvl.of Tryz.underlying108 rfl rfl tn rfl
instance Il:cE Tryz.prog 108 1 3:=⟨fun ad w=> by kernel_rfl⟩
instance IP:Fvl Tryz.prog 108 1 3 false 1:=Fvl.of Tryz.underlying108 rfl rfl eV rfl
instance IS:cE Tryz.prog 108 2 4:=⟨fun ad w=> by kernel_rfl⟩
instance He:Fvl Tryz.prog 108 2 4 false 1:=Fvl.of Tryz.underlying108 rfl rfl eV rfl
instance Ja:cE Tryz.prog 109 0 0:=⟨fun ad w=> by kernel_rfl⟩
instance Io:Fvl Tryz.prog 109 0 0 true 3:=Fvl.of Tryz.underlying109 rfl rfl tn rfl
instance Jj:cE Tryz.prog 109 1 3:=⟨fun ad w=> by kernel_rfl⟩
instance Ii:Fvl Tryz.prog 109 1 3 false 1:=Fvl.of Tryz.underlying109 rfl rfl eV rfl
instance HV:cE Tryz.prog 109 2 4:=⟨fun ad w=> by kernel_rfl⟩
instance Ig:Fvl Tryz.prog 109 2 4 false 1:=Fvl.of Tryz.underlying109 rfl rfl eV rfl
instance GX:cE Tryz.prog 110 0 0:=⟨fun ad w=> by kernel_rfl⟩
instance Gp:Fvl Tryz.prog 110 0 0 true 5:=Fvl.of Tryz.underlying110 rfl rfl zh rfl
instance GU:cE Tryz.prog 110 1 5:=⟨fun ad w=> by kernel_rfl⟩
instance GW:Fvl Tryz.prog 110 1 5 false 1:=Fvl.of Tryz.underlying110 rfl rfl eV rfl
instance ID:cE Tryz.prog 110 2 6:=⟨fun ad w=> by kernel_rfl⟩
instance Ie:Fvl Tryz.prog 110 2 6 false 1:=Fvl.of Tryz.underlying110 rfl rfl eV rfl
instance Ha:cE Tryz.prog 111 0 0:=⟨fun ad w=> by kernel_rfl⟩
instance HB:Fvl Tryz.prog 111 0 0 true 5:=Fvl.of Tryz.underlying111 rfl rfl zh rfl
instance IC:cE Tryz.prog 111 1 5:=⟨fun ad w=> by kernel_rfl⟩
instance Ip:Fvl Tryz.prog 111 1 5 false 1:=Fvl.of Tryz.underlying111 rfl rfl eV rfl
instance HK:cE Tryz.prog 111 2 6:=⟨fun ad w=> by kernel_rfl⟩
instance IE:Fvl Tryz.prog 111 2 6 false 1:=Fvl.of Tryz.underlying111 rfl rfl eV rfl
instance Gy:cE Tryz.prog 114 0 0:=⟨fun ad w=> by kernel_rfl⟩
instance Hv:Fvl Tryz.prog 114 0 0 true 3:=Fvl.of Tryz.underlying114 rfl rfl tn rfl
instance IM:cE Tryz.prog 114 1 3:=⟨fun ad w=> by kernel_rfl⟩
instance Hu:Fvl Tryz.prog 114 1 3 false 1:=Fvl.of Tryz.underlying114 rfl rfl eV rfl
instance HA:cE Tryz.prog 114 2 4:=⟨fun ad w=> by kernel_rfl⟩
instance Ju:Fvl Tryz.prog 114 2 4 false 1:=Fvl.of Tryz.underlying114 rfl rfl eV rfl
instance HX:cE Tryz.prog 115 0 0:=⟨fun ad w=> by kernel_rfl⟩
instance Jk:Fvl Tryz.prog 115 0 0 true 3:=Fvl.of Tryz.underlying115 rfl rfl tn rfl
instance HO:cE Tryz.prog 115 1 3:=⟨fun ad w=> by kernel_rfl⟩
instance HY:Fvl Tryz.prog 115 1 3 false 1:=Fvl.of Tryz.underlying115 rfl rfl eV rfl
instance Ji:cE Tryz.prog 115 2 4:=⟨fun ad w=> by kernel_rfl⟩
instance Jl:Fvl Tryz.prog 115 2 4 false 1:=Fvl.of Tryz.underlying115 rfl rfl eV rfl
instance Hm:cE Tryz.prog 116 0 0:=⟨fun ad w=> by kernel_rfl⟩
instance IO:Fvl Tryz.prog 116 0 0 true 5:=Fvl.of Tryz.underlying116 rfl rfl Cl rfl
instance Jg:cE Tryz.prog 116 1 5:=⟨fun ad w=> by kernel_rfl⟩
instance GE:Fvl Tryz.prog 116 1 5 false 1:=Fvl.of Tryz.underlying116 rfl rfl eV rfl
instance HT:cE Tryz.prog 116 2 6:=⟨fun ad w=> by kernel_rfl⟩
instance IB:Fvl Tryz.prog 116 2 6 false 1:=Fvl.of Tryz.underlying116 rfl rfl eV rfl
instance Ij:cE Tryz.prog 116 3 7:=⟨fun ad w=> by kernel_rfl⟩
instance Hr:Fvl Tryz.prog 116 3 7 false 1:=Fvl.of Tryz.underlying116 rfl rfl eV rfl
instance Ht:cE Tryz.prog 116 4 8:=⟨fun ad w=> by kernel_rfl⟩
instance Hy:Fvl Tryz.prog 116 4 8 false 1:=Fvl.of Tryz.underlying116 rfl rfl eV rfl
instance Ic:cE Tryz.prog 117 0 0:=⟨fun ad w=> by kernel_rfl⟩
instance Ik:Fvl Tryz.prog 117 0 0 true 5:=Fvl.of Tryz.underlying117 rfl rfl Cl rfl
instance HD:cE Tryz.prog 117 1 5:=⟨fun ad w=> by kernel_rfl⟩
instance Jh:Fvl Tryz.prog 117 1 5 false 1:=Fvl.of Tryz.underlying117 rfl rfl eV rfl
instance HZ:cE Tryz.prog 117 2 6:=⟨fun ad w=> by kernel_rfl⟩
instance Iq:Fvl Tryz.prog 117 2 6 false 1:=Fvl.of Tryz.underlying117 rfl rfl eV rfl
instance GI:cE Tryz.prog 117 3 7:=⟨fun ad w=> by kernel_rfl⟩
instance Gq:Fvl Tryz.prog 117 3 7 false 1:=Fvl.of Tryz.underlying117 rfl rfl eV rfl
instance Jd:cE Tryz.prog 117 4 8:=⟨fun ad w=> by kernel_rfl⟩
instance Jp:Fvl Tryz.prog 117 4 8 false 1:=Fvl.of Tryz.underlying117 rfl rfl eV rfl
instance IZ:cE Tryz.prog 125 0 0:=⟨fun ad w=> by kernel_rfl⟩
instance IH:Fvl Tryz.prog 125 0 0 false 1:=Fvl.of Tryz.underlying125 rfl rfl eV rfl
instance Hw:cE Tryz.prog 125 1 1:=⟨fun ad w=> by kernel_rfl⟩
instance Js:Fvl Tryz.prog 125 1 1 false 1:=Fvl.of Tryz.underlying125 rfl rfl eV rfl
instance IJ:cE Tryz.prog 126 0 0:=⟨fun ad w=> by kernel_rfl⟩
instance Gu:Fvl Tryz.prog 126 0 0 false 1:=Fvl.of Tryz.underlying126 rfl rfl eV rfl
instance If:cE Tryz.prog 126 1 1:=⟨fun ad w=> by kernel_rfl⟩
instance Jc:Fvl Tryz.prog 126 1 1 false 1:=Fvl.of Tryz.underlying126 rfl rfl eV rfl
instance Gt:cE Tryz.prog 129 0 0:=⟨fun ad w=> by kernel_rfl⟩
instance Jt:Fvl Tryz.prog 129 0 0 false 1:=Fvl.of Tryz.underlying129 rfl rfl il rfl
instance Ib:cE Tryz.prog 129 1 1:=⟨fun ad w=> by kernel_rfl⟩
instance Hn:Fvl Tryz.prog 129 1 1 false 1:=Fvl.of Tryz.underlying129 rfl rfl il rfl
instance Hk:cE Tryz.prog 129 2 2:=⟨fun ad w=> by kernel_rfl⟩
instance HL:Fvl Tryz.prog 129 2 2 false 1:=Fvl.of Tryz.underlying129 rfl rfl Cm rfl
instance Ho:cE Tryz.prog 132 0 0:=⟨fun ad w=> by kernel_rfl⟩
instance GM:Fvl Tryz.prog 132 0 0 false 1:=Fvl.of Tryz.underlying132 rfl rfl il rfl
instance It:cE Tryz.prog 132 1 1:=⟨fun ad w=> by kernel_rfl⟩
instance Hx:Fvl Tryz.prog 132 1 1 true 9:=Fvl.of Tryz.underlying132 rfl rfl FO rfl
instance Iu:cE Tryz.prog 139 0 0:=⟨fun ad w=> by kernel_rfl⟩
instance Hl:Fvl Tryz.prog 139 0 0 false 1:=Fvl.of Tryz.underlying139 rfl rfl il rfl
instance Iv:cE Tryz.prog 139 1 1:=⟨fun ad w=> by kernel_rfl⟩
instance Is:Fvl Tryz.prog 139 1 1 false 1:=Fvl.of Tryz.underlying139 rfl rfl eV rfl
instance Je:cE Tryz.prog 143 0 0:=⟨fun ad w=> by kernel_rfl⟩
instance GH:Fvl Tryz.prog 143 0 0 true 3:=Fvl.of Tryz.underlying143 rfl rfl KL rfl
instance GS:cE Tryz.prog 143 1 3:=⟨fun ad w=> by kernel_rfl⟩
instance HM:Fvl Tryz.prog 143 1 3 false 1:=Fvl.of Tryz.underlying143 rfl rfl EQ rfl
instance Hq:cE Tryz.prog 171 0 0:=⟨fun ad w=> by kernel_rfl⟩
instance GC:Fvl Tryz.prog 171 0 0 true 43:=Fvl.of Tryz.underlying171 rfl rfl JW rfl
instance HC:cE Tryz.prog 171 1 43:=⟨fun ad w=> by kernel_rfl⟩
instance Jf:Fvl Tryz.prog 171 1 43 true 10:=Fvl.of Tryz.underlying171 rfl rfl EC rfl
instance Iw:cE Tryz.prog 171 2 53:=⟨fun ad w=> by kernel_rfl⟩
instance IY:Fvl Tryz.prog 171 2 53 false 1:=Fvl.of Tryz.underlying171 rfl rfl MC rfl
instance Ih:cE Tryz.prog 171 3 54:=⟨fun ad w=> by kernel_rfl⟩
instance HP:Fvl Tryz.prog 171 3 54 true 5:=Fvl.of Tryz.underlying171 rfl rfl EX rfl
instance Jr:cE Tryz.prog 171 4 59:=⟨fun ad w=> by kernel_rfl⟩
instance Hp:Fvl Tryz.prog 171 4 59 false 1:=Fvl.of Tryz.underlying171 rfl rfl il rfl
instance IR:cE Tryz.prog 171 5 60:=⟨fun ad w=> by kernel_rfl⟩
instance GA:Fvl Tryz.prog 171 5 60 false 1:=Fvl.of Tryz.underlying171 rfl rfl eV rfl
instance Iy:cE Tryz.prog 171 6 61:=⟨fun ad w=> by kernel_rfl⟩
instance IU:Fvl Tryz.prog 171 6 61 false 1:=Fvl.of Tryz.underlying171 rfl rfl eV rfl
instance IX:cE Tryz.prog 171 7 62:=⟨fun ad w=> by kernel_rfl⟩
instance Gv:Fvl Tryz.prog 171 7 62 false 1:=Fvl.of Tryz.underlying171 rfl rfl eV rfl
instance HR:cE Tryz.prog 171 8 63:=⟨fun ad w=> by kernel_rfl⟩
instance Hc:Fvl Tryz.prog 171 8 63 false 1:=Fvl.of Tryz.underlying171 rfl rfl Cm rfl
instance Gx:cE Tryz.prog 192 0 0:=⟨fun ad w=> by kernel_rfl⟩
instance Hi:Fvl Tryz.prog 192 0 0 false 1:=Fvl.of Tryz.underlying192 rfl rfl eV rfl
instance Im:cE Tryz.prog 192 1 1:=⟨fun ad w=> by kernel_rfl⟩
instance IL:Fvl Tryz.prog 192 1 1 false 1:=Fvl.of Tryz.underlying192 rfl rfl eV rfl
instance IT:cE Tryz.prog 192 2 2:=⟨fun ad w=> by kernel_rfl⟩
instance IN:Fvl Tryz.prog 192 2 2 false 1:=Fvl.of Tryz.underlying192 rfl rfl eV rfl
instance Jm:cE Tryz.prog 192 3 3:=⟨fun ad w=> by kernel_rfl⟩
instance Jq:Fvl Tryz.prog 192 3 3 false 1:=Fvl.of Tryz.underlying192 rfl rfl eV rfl
instance IA:cE Tryz.prog 196 0 0:=⟨fun ad w=> by kernel_rfl⟩
instance Ix:Fvl Tryz.prog 196 0 0 true 5:=Fvl.of Tryz.underlying196 rfl rfl zh rfl
instance GK:cE Tryz.prog 196 1 5:=⟨fun ad w=> by kernel_rfl⟩
instance Jo:Fvl Tryz.prog 196 1 5 false 1:=Fvl.of Tryz.underlying196 rfl rfl eV rfl
instance II:cE Tryz.prog 222 0 0:=⟨fun ad w=> by kernel_rfl⟩
instance Hj:Fvl Tryz.prog 222 0 0 false 1:=Fvl.of Tryz.underlying222 rfl rfl EW rfl
instance HW:cE Tryz.prog 222 1 1:=⟨fun ad w=> by kernel_rfl⟩
instance GJ:Fvl Tryz.prog 222 1 1 false 1:=Fvl.of Tryz.underlying222 rfl rfl eV rfl
instance In:cE Tryz.prog 222 2 2:=⟨fun ad w=> by kernel_rfl⟩
instance Jn:Fvl Tryz.prog 222 2 2 false 1:=Fvl.of Tryz.underlying222 rfl rfl eV rfl
instance Hg:cE Tryz.prog 222 3 3:=⟨fun ad w=> by kernel_rfl⟩
instance HH:Fvl Tryz.prog 222 3 3 false 1:=Fvl.of Tryz.underlying222 rfl rfl MD rfl
instance IG:cE Tryz.prog 222 4 4:=⟨fun ad w=> by kernel_rfl⟩
instance IF:Fvl Tryz.prog 222 4 4 false 1:=Fvl.of Tryz.underlying222 rfl rfl Dl rfl
instance Ia:cE Tryz.prog 225 0 0:=⟨fun ad w=> by kernel_rfl⟩
instance GZ:Fvl Tryz.prog 225 0 0 false 1:=Fvl.of Tryz.underlying225 rfl rfl eV rfl
instance HF:cE Tryz.prog 225 1 1:=⟨fun ad w=> by kernel_rfl⟩
instance HU:Fvl Tryz.prog 225 1 1 false 1:=Fvl.of Tryz.underlying225 rfl rfl eV rfl
instance Gz:cE Tryz.prog 225 2 2:=⟨fun ad w=> by kernel_rfl⟩
instance Iz:Fvl Tryz.prog 225 2 2 false 1:=Fvl.of Tryz.underlying225 rfl rfl Ql rfl
instance GF:cE Tryz.prog 225 3 3:=⟨fun ad w=> by kernel_rfl⟩
instance GT:Fvl Tryz.prog 225 3 3 false 1:=Fvl.of Tryz.underlying225 rfl rfl eV rfl
instance Ua:bZ Tryz.prog 3:=⟨fun args w=> by kernel_rfl⟩
instance TY:bZ Tryz.prog 7:=⟨fun args w=> by kernel_rfl⟩
instance RI:bZ Tryz.prog 20:=⟨fun args w=> by kernel_rfl⟩
instance TS:bZ Tryz.prog 21:=⟨fun args w=> by kernel_rfl⟩
instance RZ:bZ Tryz.prog 22:=⟨fun args w=> by kernel_rfl⟩
instance Rx:bZ Tryz.prog 23:=⟨fun args w=> by kernel_rfl⟩
instance Ru:bZ Tryz.prog 24:=⟨fun args w=> by kernel_rfl⟩
instance RK:bZ Tryz.prog 25:=⟨fun args w=> by kernel_rfl⟩
instance TJ:bZ Tryz.prog 26:=⟨fun args w=> by kernel_rfl⟩
instance TP:bZ Tryz.prog 27:=⟨fun args w=> by kernel_rfl⟩
instance Td:bZ Tryz.prog 29:=⟨fun args w=> by kernel_rfl⟩
instance TN:bZ Tryz.prog 30:=⟨fun args w=> by kernel_rfl⟩
instance Sb:bZ Tryz.prog 31:=⟨fun args w=> by kernel_rfl⟩
instance TC:bZ Tryz.prog 32:=⟨fun args w=> by kernel_rfl⟩
instance RT:bZ Tryz.prog 33:=⟨fun args w=> by kernel_rfl⟩
instance RX:bZ Tryz.prog 34:=⟨fun args w=> by kernel_rfl⟩
instance Sd:bZ Tryz.prog 35:=⟨fun args w=> by kernel_rfl⟩
instance Sf:bZ Tryz.prog 36:=⟨fun args w=> by kernel_rfl⟩
instance RA:bZ Tryz.prog 38:=⟨fun args w=> by kernel_rfl⟩
instance Rr:bZ Tryz.prog 39:=⟨fun args w=> by kernel_rfl⟩
instance SM:bZ Tryz.prog 44:=⟨fun args w=> by kernel_rfl⟩
instance RC:bZ Tryz.prog 47:=⟨fun args w=> by kernel_rfl⟩
instance Tm:bZ Tryz.prog 48:=⟨fun args w=> by kernel_rfl⟩
instance SA:bZ Tryz.prog 56:=⟨fun args w=> by kernel_rfl⟩
instance Tb:bZ Tryz.prog 57:=⟨fun args w=> by kernel_rfl⟩
instance RQ:bZ Tryz.prog 58:=⟨fun args w=> by kernel_rfl⟩
instance Sv:bZ Tryz.prog 59:=⟨fun args w=> by kernel_rfl⟩
instance TI:bZ Tryz.prog 60:=⟨fun args w=> by kernel_rfl⟩
instance TF:bZ Tryz.prog 61:=⟨fun args w=> by kernel_rfl⟩
instance RR:bZ Tryz.prog 62:=⟨fun args w=> by kernel_rfl⟩
instance RN:bZ Tryz.prog 63:=⟨fun args w=> by kernel_rfl⟩
instance Rp:bZ Tryz.prog 64:=⟨fun args w=> by kernel_rfl⟩
instance Rv:bZ Tryz.prog 66:=⟨fun args w=> by kernel_rfl⟩
instance SW:bZ Tryz.prog 67:=⟨fun args w=> by kernel_rfl⟩
instance TR:bZ Tryz.prog 68:=⟨fun args w=> by kernel_rfl⟩
instance TB:bZ Tryz.prog 69:=⟨fun args w=> by kernel_rfl⟩
instance RL:bZ Tryz.prog 70:=⟨fun args w=> by kernel_rfl⟩
instance RJ:bZ Tryz.prog 71:=⟨fun args w=> by kernel_rfl⟩
instance RG:bZ Tryz.prog 72:=⟨fun args w=> by kernel_rfl⟩
instance SV:bZ Tryz.prog 73:=⟨fun args w=> by kernel_rfl⟩
instance Sy:bZ Tryz.prog 74:=⟨fun args w=> by kernel_rfl⟩
instance RP:bZ Tryz.prog 75:=⟨fun args w=> by kernel_rfl⟩
instance SI:bZ Tryz.prog 77:=⟨fun args w=> by kernel_rfl⟩
instance ST:bZ Tryz.prog 78:=⟨fun args w=> by kernel_rfl⟩
instance TT:bZ Tryz.prog 79:=⟨fun args w=> by kernel_rfl⟩
instance SO:bZ Tryz.prog 80:=⟨fun args w=> by kernel_rfl⟩
instance Tl:bZ Tryz.prog 81:=⟨fun args w=> by kernel_rfl⟩
instance SB:bZ Tryz.prog 82:=⟨fun args w=> by kernel_rfl⟩
instance RB:bZ Tryz.prog 83:=⟨fun args w=> by kernel_rfl⟩
instance TO:bZ Tryz.prog 86:=⟨fun args w=> by kernel_rfl⟩
instance SN:bZ Tryz.prog 87:=⟨fun args w=> by kernel_rfl⟩
instance SG:bZ Tryz.prog 88:=⟨fun args w=> by kernel_rfl⟩
instance SK:bZ Tryz.prog 89:=⟨fun args w=> by kernel_rfl⟩
instance RS:bZ Tryz.prog 90:=⟨fun args w=> by kernel_rfl⟩
instance Sn:bZ Tryz.prog 91:=⟨fun args w=> by kernel_rfl⟩
instance RF:bZ Tryz.prog 92:=⟨fun args w=> by kernel_rfl⟩
instance Sj:bZ Tryz.prog 93:=⟨fun args w=> by kernel_rfl⟩
instance Te:bZ Tryz.prog 94:=⟨fun args w=> by kernel_rfl⟩
instance Sa:bZ Tryz.prog 95:=⟨fun args w=> by kernel_rfl⟩
instance Ti:bZ Tryz.prog 96:=⟨fun args w=> by kernel_rfl⟩
instance Tn:bZ Tryz.prog 97:=⟨fun args w=> by kernel_rfl⟩
instance Si:bZ Tryz.prog 98:=⟨fun args w=> by kernel_rfl⟩
instance Ol:bZ Tryz.prog 102:=⟨fun args w=> by kernel_rfl⟩
instance NI:bZ Tryz.prog 103:=⟨fun args w=> by kernel_rfl⟩
instance PR:bZ Tryz.prog 105:=⟨fun args w=> by kernel_rfl⟩
instance PN:bZ Tryz.prog 106:=⟨fun args w=> by kernel_rfl⟩
instance QC:bZ Tryz.prog 107:=⟨fun args w=> by kernel_rfl⟩
instance Pq:bZ Tryz.prog 108:=⟨fun args w=> by kernel_rfl⟩
instance Rb:bZ Tryz.prog 109:=⟨fun args w=> by kernel_rfl⟩
instance NM:bZ Tryz.prog 110:=⟨fun args w=> by kernel_rfl⟩
instance Pf:bZ Tryz.prog 111:=⟨fun args w=> by kernel_rfl⟩
instance Nn:bZ Tryz.prog 112:=⟨fun args w=> by kernel_rfl⟩
instance Qs:bZ Tryz.prog 113:=⟨fun args w=> by kernel_rfl⟩
instance PC:bZ Tryz.prog 114:=⟨fun args w=> by kernel_rfl⟩
instance OU:bZ Tryz.prog 115:=⟨fun args w=> by kernel_rfl⟩
instance Ob:bZ Tryz.prog 116:=⟨fun args w=> by kernel_rfl⟩
instance Qp:bZ Tryz.prog 117:=⟨fun args w=> by kernel_rfl⟩
instance Qc:bZ Tryz.prog 118:=⟨fun args w=> by kernel_rfl⟩
instance Qn:bZ Tryz.prog 119:=⟨fun args w=> by kernel_rfl⟩
instance NE:bZ Tryz.prog 120:=⟨fun args w=> by kernel_rfl⟩
instance No:bZ Tryz.prog 121:=⟨fun args w=> by kernel_rfl⟩
instance PI:bZ Tryz.prog 122:=⟨fun args w=> by kernel_rfl⟩
instance Qa:bZ Tryz.prog 123:=⟨fun args w=> by kernel_rfl⟩
instance PF:bZ Tryz.prog 124:=⟨fun args w=> by kernel_rfl⟩
instance Qt:bZ Tryz.prog 125:=⟨fun args w=> by kernel_rfl⟩
instance PW:bZ Tryz.prog 126:=⟨fun args w=> by kernel_rfl⟩
instance NR:bZ Tryz.prog 127:=⟨fun args w=> by kernel_rfl⟩
instance QB:bZ Tryz.prog 128:=⟨fun args w=> by kernel_rfl⟩
instance Ps:bZ Tryz.prog 129:=⟨fun args w=> by kernel_rfl⟩
instance Pb:bZ Tryz.prog 130:=⟨fun args w=> by kernel_rfl⟩
instance Nh:bZ Tryz.prog 131:=⟨fun args w=> by kernel_rfl⟩
instance QD:bZ Tryz.prog 132:=⟨fun args w=> by kernel_rfl⟩
instance Pa:bZ Tryz.prog 133:=⟨fun args w=> by kernel_rfl⟩
instance Qw:bZ Tryz.prog 134:=⟨fun args w=> by kernel_rfl⟩
instance Qm:bZ Tryz.prog 135:=⟨fun args w=> by kernel_rfl⟩
instance NT:bZ Tryz.prog 136:=⟨fun args w=> by kernel_rfl⟩
instance NP:bZ Tryz.prog 137:=⟨fun args w=> by kernel_rfl⟩
instance Pi:bZ Tryz.prog 138:=⟨fun args w=> by kernel_rfl⟩
instance Nw:bZ Tryz.prog 139:=⟨fun args w=> by kernel_rfl⟩
instance Qf:bZ Tryz.prog 140:=⟨fun args w=> by kernel_rfl⟩
instance NY:bZ Tryz.prog 141:=⟨fun args w=> by kernel_rfl⟩
instance PQ:bZ Tryz.prog 142:=⟨fun args w=> by kernel_rfl⟩
instance Qo:bZ Tryz.prog 143:=⟨fun args w=> by kernel_rfl⟩
instance Rj:bZ Tryz.prog 144:=⟨fun args w=> by kernel_rfl⟩
instance Pv:bZ Tryz.prog 145:=⟨fun args w=> by kernel_rfl⟩
instance Pw:bZ Tryz.prog 146:=⟨fun args w=> by kernel_rfl⟩
instance Rk:bZ Tryz.prog 147:=⟨fun args w=> by kernel_rfl⟩
instance OW:bZ Tryz.prog 148:=⟨fun args w=> by kernel_rfl⟩
instance Qg:bZ Tryz.prog 149:=⟨fun args w=> by kernel_rfl⟩
instance PX:bZ Tryz.prog 150:=⟨fun args w=> by kernel_rfl⟩
instance NB:bZ Tryz.prog 151:=⟨fun args w=> by kernel_rfl⟩
instance QP:bZ Tryz.prog 152:=⟨fun args w=> by kernel_rfl⟩
instance OD:bZ Tryz.prog 153:=⟨fun args w=> by kernel_rfl⟩
instance QY:bZ Tryz.prog 154:=⟨fun args w=> by kernel_rfl⟩
instance Oj:bZ Tryz.prog 155:=⟨fun args w=> by kernel_rfl⟩
instance PA:bZ Tryz.prog 156:=⟨fun args w=> by kernel_rfl⟩
instance Oo:bZ Tryz.prog 157:=⟨fun args w=> by kernel_rfl⟩
instance Qi:bZ Tryz.prog 158:=⟨fun args w=> by kernel_rfl⟩
instance OJ:bZ Tryz.prog 159:=⟨fun args w=> by kernel_rfl⟩
instance NW:bZ Tryz.prog 160:=⟨fun args w=> by kernel_rfl⟩
instance NH:bZ Tryz.prog 161:=⟨fun args w=> by kernel_rfl⟩
instance PH:bZ Tryz.prog 162:=⟨fun args w=> by kernel_rfl⟩
instance QE:bZ Tryz.prog 163:=⟨fun args w=> by kernel_rfl⟩
instance Oz:bZ Tryz.prog 164:=⟨fun args w=> by kernel_rfl⟩
instance ND:bZ Tryz.prog 165:=⟨fun args w=> by kernel_rfl⟩
instance PT:bZ Tryz.prog 166:=⟨fun args w=> by kernel_rfl⟩
instance Pm:bZ Tryz.prog 167:=⟨fun args w=> by kernel_rfl⟩
instance Qz:bZ Tryz.prog 168:=⟨fun args w=> by kernel_rfl⟩
instance NJ:bZ Tryz.prog 169:=⟨fun args w=> by kernel_rfl⟩
instance OM:bZ Tryz.prog 170:=⟨fun args w=> by kernel_rfl⟩
instance NS:bZ Tryz.prog 171:=⟨fun args w=> by kernel_rfl⟩
instance Px:bZ Tryz.prog 173:=⟨fun args w=> by kernel_rfl⟩
instance On:bZ Tryz.prog 176:=⟨fun args w=> by kernel_rfl⟩
instance Pz:bZ Tryz.prog 177:=⟨fun args w=> by kernel_rfl⟩
instance PZ:bZ Tryz.prog 183:=⟨fun args w=> by kernel_rfl⟩
instance QN:bZ Tryz.prog 184:=⟨fun args w=> by kernel_rfl⟩
instance Re:bZ Tryz.prog 185:=⟨fun args w=> by kernel_rfl⟩
instance Rh:bZ Tryz.prog 186:=⟨fun args w=> by kernel_rfl⟩
instance OC:bZ Tryz.prog 187:=⟨fun args w=> by kernel_rfl⟩
instance MY:bZ Tryz.prog 188:=⟨fun args w=> by kernel_rfl⟩
instance QI:bZ Tryz.prog 189:=⟨fun args w=> by kernel_rfl⟩
instance OR:bZ Tryz.prog 190:=⟨fun args w=> by kernel_rfl⟩
instance OS:bZ Tryz.prog 191:=⟨fun args w=> by kernel_rfl⟩
instance Ow:bZ Tryz.prog 192:=⟨fun args w=> by kernel_rfl⟩
instance OT:bZ Tryz.prog 194:=⟨fun args w=> by kernel_rfl⟩
instance Ov:bZ Tryz.prog 195:=⟨fun args w=> by kernel_rfl⟩
instance OI:bZ Tryz.prog 196:=⟨fun args w=> by kernel_rfl⟩
instance NC:bZ Tryz.prog 197:=⟨fun args w=> by kernel_rfl⟩
instance Oa:bZ Tryz.prog 198:=⟨fun args w=> by kernel_rfl⟩
instance NN:bZ Tryz.prog 199:=⟨fun args w=> by kernel_rfl⟩
instance OK:bZ Tryz.prog 200:=⟨fun args w=> by kernel_rfl⟩
instance PJ:bZ Tryz.prog 201:=⟨fun args w=> by kernel_rfl⟩
instance Oq:bZ Tryz.prog 202:=⟨fun args w=> by kernel_rfl⟩
instance Pl:bZ Tryz.prog 203:=⟨fun args w=> by kernel_rfl⟩
instance QT:bZ Tryz.prog 204:=⟨fun args w=> by kernel_rfl⟩
instance MZ:bZ Tryz.prog 205:=⟨fun args w=> by kernel_rfl⟩
instance QQ:bZ Tryz.prog 207:=⟨fun args w=> by kernel_rfl⟩
instance Of:bZ Tryz.prog 211:=⟨fun args w=> by kernel_rfl⟩
instance QO:bZ Tryz.prog 212:=⟨fun args w=> by kernel_rfl⟩
instance OP:bZ Tryz.prog 213:=⟨fun args w=> by kernel_rfl⟩
instance Nq:bZ Tryz.prog 214:=⟨fun args w=> by kernel_rfl⟩
instance Ph:bZ Tryz.prog 215:=⟨fun args w=> by kernel_rfl⟩
instance Qv:bZ Tryz.prog 216:=⟨fun args w=> by kernel_rfl⟩
instance NU:bZ Tryz.prog 217:=⟨fun args w=> by kernel_rfl⟩
instance Om:bZ Tryz.prog 218:=⟨fun args w=> by kernel_rfl⟩
instance NZ:bZ Tryz.prog 221:=⟨fun args w=> by kernel_rfl⟩
instance PU:bZ Tryz.prog 222:=⟨fun args w=> by kernel_rfl⟩
instance Nf:bZ Tryz.prog 223:=⟨fun args w=> by kernel_rfl⟩
instance QA:bZ Tryz.prog 224:=⟨fun args w=> by kernel_rfl⟩
instance Ou:bZ Tryz.prog 225:=⟨fun args w=> by kernel_rfl⟩
instance Ra:bZ Tryz.prog 226:=⟨fun args w=> by kernel_rfl⟩
instance Ni:bZ Tryz.prog 227:=⟨fun args w=> by kernel_rfl⟩
instance NA:bZ Tryz.prog 235:=⟨fun args w=> by kernel_rfl⟩
instance Pd:bZ Tryz.prog 236:=⟨fun args w=> by kernel_rfl⟩
instance Qk:bZ Tryz.prog 237:=⟨fun args w=> by kernel_rfl⟩
instance Nl:bZ Tryz.prog 240:=⟨fun args w=> by kernel_rfl⟩
end Go.Proofs.YtmjnackchaahbaaGreat
