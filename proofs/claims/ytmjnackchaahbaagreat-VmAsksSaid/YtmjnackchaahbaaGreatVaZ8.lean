/- Part 8 of the texts that the walk leans on: the machine, the walks, the plain laws. -/
import Derived.Test.YtmjnackchaahbaaGreatVaZ7
set_option linter.unusedSimpArgs false
set_option linter.unusedVariables false
namespace Go.Proofs.YtmjnackchaahbaaGreat
open Go.RowKit

def eJ:Ex→Nat
  | .int _=> 1 | .bool _=> 2 | .var _=> 1 | .name _=> 1
  | .draw e=> if eJ e=1 then 1 else 0
  | .neg e=> if eJ e=1 then 1 else 0
  | .not e=> if eJ e=2 then 2 else 0
  | .bin o a b=> if eJ a=1∧eJ b=1 then (match o with | .add=> 1 | .sub=> 1 | .mul=> 1 | .div=> 1 | _=> 2) else 0
  | .and a b=> if eJ a=2∧eJ b=2 then 2 else 0
  | .or a b=> if eJ a=2∧eJ b=2 then 2 else 0
def mT (e:Ex):Bool:=Nat.beq (eJ e) 1
mutual
def vj:Sm→Bool
  | .assign _ e=> mT e
  | .send t _ a b=> mT t && mT a && mT b
  | .timer _=> true | .cancel _=> true | .sync=> true | .stop=> true
  | .reply a b=> mT a && mT b
  | .fail e=> mT e
  | .loop c b=> Nat.beq (eJ c) 2 && nR b
  | .ite c a b=> Nat.beq (eJ c) 2 && nR a && nR b
def nR:Bk→Bool
  | .nil=> true
  | .cons s b=> vj s && nR b
end
def eA (nv:Nat):Ex→Bool
  | .int n=> decide (-2147483647≤n) && decide (n≤2147483647)
  | .bool _=> true
  | .var i=> decide (i < nv)
  | .name k=> decide (k < 9)
  | .draw e=> eA nv e | .neg e=> eA nv e | .not e=> eA nv e
  | .bin _ a b=> eA nv a && eA nv b
  | .and a b=> eA nv a && eA nv b
  | .or a b=> eA nv a && eA nv b
mutual
def kF (nv:Nat):Sm→Bool
  | .assign i e=> decide (i < nv) && eA nv e
  | .send t k a b=> decide (k < 30) && eA nv t && eA nv a && eA nv b
  | .timer k=> decide (k < 8) | .cancel k=> decide (k < 8) | .sync=> true | .stop=> true
  | .reply a b=> eA nv a && eA nv b
  | .fail e=> eA nv e
  | .loop c b=> eA nv c && ou nv b
  | .ite c a b=> eA nv c && ou nv a && ou nv b
def ou (nv:Nat):Bk→Bool
  | .nil=> true
  | .cons s b=> kF nv s && ou nv b
end
theorem dl (nv:Nat): ∀ e,eA nv e=true→ft nv e
  | .int n,h=> by simpa [eA,ft] using h
  | .bool _,_=> trivial
  | .var i,h=> by simpa [eA,ft] using h
  | .name k,h=> by simpa [eA,ft] using h
  | .draw e,h=> dl nv e h
  | .neg e,h=> dl nv e h
  | .not e,h=> dl nv e h
  | .bin _ a b,h=> by simp only [eA,Bool.and_eq_true] at h;exact ⟨dl nv a h.1,dl nv b h.2⟩
  | .and a b,h=> by simp only [eA,Bool.and_eq_true] at h;exact ⟨dl nv a h.1,dl nv b h.2⟩
  | .or a b,h=> by simp only [eA,Bool.and_eq_true] at h;exact ⟨dl nv a h.1,dl nv b h.2⟩
mutual
theorem yo (nv:Nat): ∀ s,kF nv s=true→eY nv s
  | .assign i e,h=> by simp only [kF,Bool.and_eq_true,decide_eq_true_eq] at h;exact ⟨h.1,dl nv e h.2⟩
  | .send t k a b,h=> by simp only [kF,Bool.and_eq_true,decide_eq_true_eq] at h;exact ⟨h.1.1.1,dl nv t h.1.1.2,dl nv a h.1.2,dl nv b h.2⟩
  | .timer k,h=> by simpa [kF,eY] using h
  | .cancel k,h=> by simpa [kF,eY] using h
  | .sync,_=> by simp [eY]
  | .stop,_=> by simp [eY]
  | .reply a b,h=> by simp only [kF,Bool.and_eq_true] at h;exact ⟨dl nv a h.1,dl nv b h.2⟩
  | .fail e,h=> by simp only [kF] at h;exact dl nv e h
  | .loop c b,h=> by simp only [kF,Bool.and_eq_true] at h;exact ⟨dl nv c h.1,jN nv b h.2⟩
  | .ite c a b,h=> by simp only [kF,Bool.and_eq_true] at h;exact ⟨dl nv c h.1.1,jN nv a h.1.2,jN nv b h.2⟩
theorem jN (nv:Nat): ∀ b,ou nv b=true→ii nv b
  | .nil,_=> by simp [ii]
  | .cons s b,h=> by simp only [ou,Bool.and_eq_true] at h;exact ⟨yo nv s h.1,jN nv b h.2⟩
end
structure HQ (l:List (Nat×Bk)) (nv:Nat):Prop where
  ok: ∀ p∈l,ii nv p.2
  wl: ∀ p∈l,nR p.2=true
  n:(bS l 0).length≤400
  h: ∀ p∈l,p.1 < 40
  nd:(l.map (·.1)).Nodup
  d: ∀ k∈kB l,k≤8
def srcB (l:List (Nat×Bk)) (nv:Nat):Bool:=l.all (fun p=> ou nv p.2 && nR p.2 && decide (p.1 < 40)) && decide ((bS l 0).length≤400) && decide (l.map (·.1)).Nodup && (kB l).all fun k=> decide (k≤8)
theorem Az {l:List (Nat×Bk)} {nv:Nat} (h:srcB l nv=true):HQ l nv:=by
  simp only [srcB,Bool.and_eq_true,List.all_eq_true,decide_eq_true_eq] at h
  exact ⟨fun p hp=> jN nv _ (h.1.1.1 p hp).1.1,fun p hp=> (h.1.1.1 p hp).1.2,h.1.1.2,fun p hp=> (h.1.1.1 p hp).2,h.1.2,h.2⟩
theorem srcOkL:HQ onsL (AO++BD).length:=Az ae
def qM (l:List (Nat×Bk)) (i:Nat):Nat:=(kB l).getD i 0
theorem nw (l:List (Nat×Bk)):Fit (qM l) 0 (kB l):=fun k d h=> by
  unfold qM
  rw [Nat.zero_add,List.getD_eq_getElem?_getD,h];rfl
theorem Cq {l:List (Nat×Bk)} {nv dur:Nat} {names ans:List Int} (hn:nv≤16) (ho: ∀ p∈l,ii nv p.2) (hm: ∀ i,Rg (names.getD i 0)):PG ⟨bS l 0,dur,names,ans⟩ (qM l) nv:=
  ⟨tT (qM l) nv l 0 0 ((bS l 0).length - 1) ho (nw l) (Nat.le_refl _) ab,hn,hm⟩
def qT (n k:Int):List ek:=[{ op:= .var },{ op:= .push,n:=n },{ op:= .lt },{ op:= .unl,n:=13 },{ op:= .push,n:=k },{ op:= .var },{ op:= .push,n:=5 },{ op:= .send,n:=7 },
  { op:= .var },{ op:= .push,n:=1 },{ op:= .add },{ op:= .setVar },{ op:= .jump },{ op:= .stop }]
def rD (i:Nat):Nat:=[0,1,2,1,0,1,2,3,0,1,2,1,0,0].getD i 0
theorem AG {n k:Int} (hn:Rg n) (hk:Rg k) {names ans:List Int} (hm: ∀ i,Rg (names.getD i 0)):PG ⟨qT n k,1,names,ans⟩ rD 1:=by
  refine ⟨fun i x hx=> ?_,by omega,hm⟩
  unfold qT at hx ⊢
  rw [Nat.zero_add]
  rcases i with _ | _ | _ | _ | _ | _ | _ | _ | _ | _ | _ | _ | _ | _ | i
  all_goals first | (simp at hx;done) | (simp only [List.getElem?_cons_zero,List.getElem?_cons_succ,Option.some.injEq] at hx;subst hx)
  all_goals refine ⟨?_,?_,fun j hj=> ?_⟩
  all_goals first | exact hn | exact hk | (simp [cT];done) | (simp [Opc.pops,rD];done) | (simp [dy] at hj;done) | (simp [dy] at hj;subst hj;simp [rD,Opc.pops,Opc.puts];done) | (simp [dy] at hj;rcases hj with rfl | rfl <;> simp [rD,Opc.pops,Opc.puts];done)

abbrev DS:=List Int×Bool×Bool
def ig (n:Nat) (d:Int) (s:DS) (j:Nat):DS:=
  if n≤j then s else if s.1.getD j (-1) < 0 then (s.1.set j d,s.2.1,true) else if s.1.getD j (-1)≠d then (s.1,false,s.2.2) else s
def cK (C:List ek) (i:Nat):ek:=C.getD i { op:= .stop }
def BL (C:List ek) (i:Nat) (s:DS):Int:=max (s.1.getD i (-1) - (cK C i).op.pops) 0+(cK C i).op.puts
def kb (C:List ek) (s:DS) (i:Nat):DS:=
  if s.1.getD i (-1) < 0 then s
  else (dy i (cK C i)).foldl (ig C.length (BL C i s)) (s.1,if s.1.getD i (-1) - (cK C i).op.pops < 0 then false else s.2.1,s.2.2)
def dm (C:List ek) (s:List Int×Bool) (k:Nat):DS:=(List.range k).foldl (kb C) (s.1,s.2,false)
theorem oJ (C:List ek) (s:List Int×Bool) (k:Nat):dm C s (k+1)=kb C (dm C s k) k:=by simp [dm,List.range_succ,List.foldl_append]
def il (C:List ek):Nat→List Int×Bool→List Int×Bool
  | 0,s=> s
  | f+1,s=> if (dm C s C.length).2.2=true then il C f ((dm C s C.length).1,(dm C s C.length).2.1) else ((dm C s C.length).1,(dm C s C.length).2.1)
def neg (l:List Int):Nat:=l.countP fun x=> decide (x < 0)
theorem Bj {l:List Int} {j:Nat} {d:Int} (hj:j < l.length) (h:l.getD j (-1) < 0) (hd:0≤d):neg (l.set j d)+1=neg l:=by
  unfold neg
  have e:l=l.take j++l[j]::l.drop (j+1):=by rw [List.getElem_cons_drop hj,List.take_append_drop]
  have h':l[j] < 0:=by rwa [List.getD_eq_getElem?_getD,List.getElem?_eq_getElem hj] at h
  rw [List.set_eq_take_append_cons_drop,if_pos hj]
  conv=> rhs;rw [e]
  simp only [List.countP_append,List.countP_cons]
  rw [decide_eq_true h',decide_eq_false (show ¬ d < 0 by omega)]
  simp
  omega
structure DI (D:Nat→Nat) (n:Nat) (s:DS):Prop where
  len:s.1.length=n
  val: ∀ i,i < n→s.1.getD i (-1)= -1∨s.1.getD i (-1)=(D i:Int)
  ok:s.2.1=true
theorem iL {l:List Int} {j i:Nat} {d:Int}:(l.set j d).getD i (-1)=if i=j∧j < l.length then d else l.getD i (-1):=by
  simp only [List.getD_eq_getElem?_getD,List.getElem?_set]
  by_cases h:j=i
  · subst h
    by_cases h2:j < l.length
    · simp [h2]
    · simp [h2]
  · simp [h,Ne.symm h]
theorem Ap {D:Nat→Nat} {n:Nat} {d:Int} {s:DS} {j:Nat} (h:DI D n s) (hd:d=(D j:Int)):DI D n (ig n d s j)∧neg (ig n d s j).1≤neg s.1∧((ig n d s j).2.2=true→s.2.2=true∨neg (ig n d s j).1 < neg s.1):=by
  unfold ig
  split
  · exact ⟨h,Nat.le_refl _,fun e=> .inl e⟩
  · rename_i hj
    split
    · rename_i hn
      have:=Bj (l:=s.1) (j:=j) (d:=d) (by rw [h.len];omega) hn ab
      refine ⟨⟨by rw [List.length_set];exact h.len,fun i hi=> ?_,h.ok⟩,by simp only;omega,fun _=> .inr (by simp only;omega)⟩
      simp only
      rw [iL]
      split
      · rename_i hc;rw [hc.1];exact .inr hd
      · exact h.val i hi
    · rename_i hn
      have hv:=h.val j ab
      have:s.1.getD j (-1)=d:=by rw [hd];rcases hv with hv | hv <;> omega
      rw [if_neg (fun hc=> hc this)]
      exact ⟨h,Nat.le_refl _,fun e=> .inl e⟩
theorem lR {D:Nat→Nat} {n:Nat} {d:Int}: ∀ (l:List Nat) {s:DS},DI D n s→(∀ j∈l,d=(D j:Int))→DI D n (l.foldl (ig n d) s)∧neg (l.foldl (ig n d) s).1≤neg s.1∧((l.foldl (ig n d) s).2.2=true→s.2.2=true∨neg (l.foldl (ig n d) s).1 < neg s.1)
  | [],s,h,_=> ⟨h,Nat.le_refl _,fun e=> .inl e⟩
  | j::l,s,h,hd=> by
    obtain ⟨a1,a2,a3⟩:=Ap h (hd j (by simp))
    obtain ⟨b1,b2,b3⟩:=lR l a1 fun j hj=> hd j (by simp [hj])
    simp only [List.foldl_cons]
    refine ⟨b1,by omega,fun e=> ?_⟩
    rcases b3 e with e | e
    · rcases a3 e with e | e
      · exact .inl e
      · exact .inr ab
    · exact .inr ab
section
variable {D:Nat→Nat} {nv:Nat} {C:List ek} (hC:Good D nv 0 (C.length - 1) 0 C)
include hC
theorem xH {s:DS} {i:Nat} (hi:i < C.length) (h:DI D C.length s):DI D C.length (kb C s i)∧neg (kb C s i).1≤neg s.1∧((kb C s i).2.2=true→s.2.2=true∨neg (kb C s i).1 < neg s.1):=by
  unfold kb
  split
  · exact ⟨h,Nat.le_refl _,fun e=> .inl e⟩
  · rename_i hn
    have hx:C[i]? =some (cK C i):=by unfold cK;rw [List.getD_eq_getElem?_getD,List.getElem?_eq_getElem hi];rfl
    obtain ⟨_,g2,g3⟩:=hC i _ hx
    rw [Nat.zero_add] at g2 g3
    have hv:s.1.getD i (-1)=(D i:Int):=by rcases h.val i hi with hv | hv <;> omega
    have hdo:BL C i s=((D i - (cK C i).op.pops+(cK C i).op.puts:Nat):Int):=by unfold BL;rw [hv];omega
    rw [if_neg (by rw [hv];omega)]
    exact lR _ ⟨h.len,h.val,h.ok⟩ fun j hj=> by rw [hdo,(g3 j hj).2.2]
theorem ke {s:List Int×Bool} (h:DI D C.length (s.1,s.2,false)): ∀ k,k≤C.length→DI D C.length (dm C s k)∧neg (dm C s k).1≤neg s.1∧((dm C s k).2.2=true→neg (dm C s k).1 < neg s.1)
  | 0,_=> ⟨h,Nat.le_refl _,fun e=> by simp [dm] at e⟩
  | k+1,hk=> by
    obtain ⟨a1,a2,a3⟩:=ke h k ab
    obtain ⟨b1,b2,b3⟩:=xH hC ab a1 (i:=k)
    rw [oJ]
    refine ⟨b1,by omega,fun e=> ?_⟩
    rcases b3 e with e | e
    · have:=a3 e;omega
    · omega
theorem sB: ∀ f (s:List Int×Bool),DI D C.length (s.1,s.2,false)→DI D C.length ((il C f s).1,(il C f s).2,false)
  | 0,s,h=> h
  | f+1,s,h=> by
    obtain ⟨a1,_,_⟩:=ke hC h C.length (Nat.le_refl _)
    unfold il
    split
    · exact sB f _ ⟨a1.len,a1.val,a1.ok⟩
    · exact ⟨a1.len,a1.val,a1.ok⟩
end
theorem tx {C:List ek} {f:Nat} {s:List Int×Bool} (h:(dm C s C.length).2.2=true):il C (f+1) s=il C f ((dm C s C.length).1,(dm C s C.length).2.1):=by rw [il,if_pos h]
theorem tB {C:List ek} {f:Nat} {s:List Int×Bool} (h:(dm C s C.length).2.2=false):il C (f+1) s=((dm C s C.length).1,(dm C s C.length).2.1):=by rw [il,if_neg (by simp [h])]
def gV (C:List ek) (e:Int):List Int×Bool:=if e < 0∨(C.length:Int)≤e then (List.replicate C.length (-1),true) else il C (C.length+1) ((List.replicate C.length (-1)).set e.toNat 0,true)
theorem oG {D:Nat→Nat} {nv:Nat} {C:List ek} (hC:Good D nv 0 (C.length - 1) 0 C) {e:Int} (he:0≤e→e < C.length→D e.toNat=0):DI D C.length ((gV C e).1,(gV C e).2,false):=by
  have hr: ∀ i,(List.replicate C.length (-1:Int)).getD i (-1)= -1:=fun i=> by rw [List.getD_eq_getElem?_getD,List.getElem?_replicate];split <;> rfl
  unfold gV
  split
  · exact ⟨by simp,fun i _=> .inl (hr i),rfl⟩
  · refine sB hC _ _ ⟨by simp,fun i hi=> ?_,rfl⟩
    simp only
    rw [iL]
    split
    · rename_i hc
      right
      rw [hc.1,he ab ab];rfl
    · exact .inl (hr i)
def jx (C:List ek) (out:List Int) (k:Nat):Int:=(List.range k).foldl (fun m i=> if 0≤out.getD i (-1) then max (max m (out.getD i (-1))) (out.getD i (-1) - (cK C i).op.pops+(cK C i).op.puts) else m) 0
theorem ox (C:List ek) (out:List Int) (k:Nat):jx C out (k+1)=if 0≤out.getD k (-1) then max (max (jx C out k) (out.getD k (-1))) (out.getD k (-1) - (cK C k).op.pops+(cK C k).op.puts) else jx C out k:=by simp [jx,List.range_succ,List.foldl_append]
theorem zD (o:Opc):o.puts≤1:=by cases o <;> decide
theorem lC {C:List ek} {out:List Int} {D:Nat→Nat} {n:Nat} {ok ch:Bool} (h:DI D n (out,ok,ch)) {B:Nat} (hB: ∀ i,i < n→D i≤B): ∀ k,k≤n→0≤jx C out k∧jx C out k≤B+1
  | 0,_=> by simp [jx];omega
  | k+1,hk=> by
    obtain ⟨h1,h2⟩:=lC (C:=C) h hB k ab
    have h3:=hB k ab
    have h4:out.getD k (-1)= -1∨out.getD k (-1)=(D k:Int):=h.val k ab
    have h5:=zD (cK C k).op
    have h6:=ox C out k
    rw [h6]
    rcases h4 with h4 | h4 <;> rw [h4] <;> split <;> omega
def lI (l:List (Nat×Nat)):List Int:=l.foldl (fun m p=> m.set p.1 (p.2:Int)) (List.replicate 40 (-1))
theorem zn (l:List (Nat×Nat)):(lI l).length=40:=by
  unfold lI
  have: ∀ (l:List (Nat×Nat)) (m:List Int),m.length=40→(l.foldl (fun m p=> m.set p.1 (p.2:Int)) m).length=40:=by
    intro l
    induction l with
    | nil=> exact fun m h=> h
    | cons p l ih=> exact fun m h=> ih _ (by rw [List.length_set];exact h)
  exact this l _ (by simp)
theorem xj: ∀ (l:List (Nat×Nat)) (h:Nat),(lI l).getD h (-1)= -1∨ ∃ e,(h,e)∈l∧(lI l).getD h (-1)=(e:Int):=by
  unfold lI
  have key: ∀ (l:List (Nat×Nat)) (m:List Int) (h:Nat),(l.foldl (fun m p=> m.set p.1 (p.2:Int)) m).getD h (-1)=m.getD h (-1)∨ ∃ e,(h,e)∈l∧(l.foldl (fun m p=> m.set p.1 (p.2:Int)) m).getD h (-1)=(e:Int):=by
    intro l
    induction l with
    | nil=> exact fun m h=> .inl rfl
    | cons p l ih=>
      intro m h
      simp only [List.foldl_cons]
      rcases ih (m.set p.1 (p.2:Int)) h with e | ⟨e,h1,h2⟩
      · rw [e,iL]
        split
        · rename_i hc
          exact .inr ⟨p.2,by rw [hc.1];exact List.mem_cons_self,rfl⟩
        · exact .inl rfl
      · exact .inr ⟨e,List.mem_cons_of_mem _ h1,h2⟩
  intro l h
  rcases key l (List.replicate 40 (-1)) h with e | e
  · left
    rw [e,List.getD_eq_getElem?_getD,List.getElem?_replicate]
    split <;> rfl
  · exact .inr e
def hQ (l:List (Nat×Bk)):Bool:=decide ((bS l 0).length≤400) && (List.range 40).all fun h=> decide (jx (bS l 0) (gV (bS l 0) ((lI (iQ l 0)).getD h (-1))).1 (bS l 0).length≤16)
theorem ta (l:List (Nat×Bk)) (h:Nat):(lI (iQ l 0)).getD h (-1)= -1∨ ∃ e:Nat,(h,e)∈iQ l 0∧(lI (iQ l 0)).getD h (-1)=(e:Int)∧e < (bS l 0).length∧qM l e=0:=by
  rcases xj (iQ l 0) h with e | ⟨e,h1,h2⟩
  · exact .inl e
  · obtain ⟨_,h4,h5⟩:=tZ (nw l) h1
    exact .inr ⟨e,h1,h2,by omega,h5⟩
theorem vJ {l:List (Nat×Bk)} {nv:Nat} (hs:HQ l nv):hQ l=true:=by
  unfold hQ
  rw [Bool.and_eq_true,decide_eq_true_eq,List.all_eq_true]
  refine ⟨hs.n,fun h _=> ?_⟩
  rw [decide_eq_true_eq]
  have hg:=tT (qM l) nv l 0 0 ((bS l 0).length - 1) hs.ok (nw l) (Nat.le_refl _) ab
  have hd:=oG hg (e:=(lI (iQ l 0)).getD h (-1)) (fun h1 h2=> by
    rcases ta l h with e | ⟨e,_,e2,_,e4⟩
    · omega
    · rw [e2];exact e4)
  have hB: ∀ i,i < (bS l 0).length→qM l i≤8:=fun i hi=> by
    unfold qM
    rw [← oh l 0] at hi
    rw [List.getD_eq_getElem?_getD,List.getElem?_eq_getElem hi]
    exact hs.d _ (List.getElem_mem hi)
  have:=(lC (C:=bS l 0) hd hB _ (Nat.le_refl _)).2
  omega

theorem mr {α β:Type} (f:α→List β) (c:Nat) (hf: ∀ a,(f a).length=c): ∀ l:List α,(l.flatMap f).length=l.length*c
 | []=> by simp
 | a::l=> by rw [List.flatMap_cons,List.length_append,hf,mr f c hf l,List.length_cons,Nat.succ_mul];omega
theorem ns {α β:Type} (f:α→List β) (c:Nat) (hf: ∀ a,(f a).length=c): ∀ (l:List α) (k:Nat),(l.flatMap f).drop (k*c)=(l.drop k).flatMap f
 | l,0=> by simp
 | [],k+1=> by simp
 | a::l,k+1=> by
  rw [List.flatMap_cons,List.drop_succ_cons,← ns f c hf l k,List.drop_append,List.drop_eq_nil_of_le (by rw [hf,Nat.succ_mul];omega),List.nil_append,hf]
  congr 1;rw [Nat.succ_mul];omega
theorem oM {α β:Type} (f:α→List β) (c:Nat) (hf: ∀ a,(f a).length=c) (l:List α) (k:Nat) (h:k < l.length):((l.flatMap f).drop (k*c)).take c=f l[k]:=by
 rw [ns f c hf,List.drop_eq_getElem_cons h,List.flatMap_cons,List.take_append_of_le_length (by rw [hf];exact Nat.le_refl _),List.take_of_length_le (by rw [hf];exact Nat.le_refl _)]
theorem nL {α β:Type} (f:α→List β) (c:Nat) (hf: ∀ a,(f a).length=c) (l:List α) (k j:Nat) (h:k < l.length) (hj:j < c):(l.flatMap f)[k*c+j]? =(f l[k])[j]? :=by
 rw [← oM f c hf l k h,List.getElem?_take_of_lt hj,List.getElem?_drop]
theorem lE {α β:Type} (f:α→List β) (l:List α) (a:α):l.flatMap f++f a=(l++[a]).flatMap f:=by simp
theorem yr {α β:Type} (f:α→List β) (l m:List α):l.flatMap f++m.flatMap f=(l++m).flatMap f:=by simp

def dU (l:List Tx):List PV:=l.map fun t=> .v (bt t)
@[simp] theorem bw (l:List Tx):(dU l).length=l.length:=by simp [dU]
theorem fv (l:List Tx) (k:Nat) (h:k < l.length):(dU l)[k]? =some (.v (bt (l.getD k []))):=by simp [dU,h]
theorem ow (a b:List Tx):dU a++dU b=dU (a++b):=by simp [dU]
theorem lZ (a:List Tx) (t:Tx):dU a++[.v (bt t)]=dU (a++[t]):=by simp [dU]
theorem iX {l:List Tx} {k:Nat} (h:k < l.length):l.getD k []∈l:=by
 rw [List.getD_eq_getElem?_getD,List.getElem?_eq_getElem h];exact List.getElem_mem h
theorem jj {α:Type} {l:List α} {k:Nat} {x d:α} (h:x∉l.take k) (hk:k < l.length) (hx:l.getD k d≠x):x∉l.take (k+1):=by
 rw [List.take_succ_eq_append_getElem hk,List.mem_append,List.mem_singleton]
 rintro (h' | h')
 ·exact h h'
 ·exact hx (by rw [List.getD_eq_getElem?_getD,List.getElem?_eq_getElem hk,h'];rfl)

def Cz (t:Tk):List PV:=[.v (.int .i64 (t.k:Int)), .v (.int .i64 (t.a:Int)), .v (bt t.t), .v (.int .i64 (t.n:Int))]
def qf (l:List Tk):List PV:=l.flatMap Cz
theorem bv (l:List Tk):(qf l).length=l.length*4:=mr Cz 4 (fun _=> rfl) l
theorem sO (l:List Tk) (k:Nat) (h:k < l.length):cX l k=l[k]:=by simp [cX,h]
theorem oI (l:List Tk) (k:Nat) (h:k < l.length):(qf l)[k*4]? =some (.v (.int .i64 ((cX l k).k:Int))):=by
 rw [sO l k h];exact nL Cz 4 (fun _=> rfl) l k 0 h ab
theorem me (l:List Tk) (k:Nat) (h:k < l.length):(qf l)[k*4+2]? =some (.v (bt (cX l k).t)):=by
 rw [sO l k h];exact nL Cz 4 (fun _=> rfl) l k 2 h ab
theorem lP (l:List Tk) (k:Nat) (h:k < l.length):PV.ups (((qf l).drop (k*4)).take 4)=[.v (.int .i64 ((cX l k).k:Int)), .v (.int .i64 ((cX l k).a:Int)), .v (bt (cX l k).t), .v (.int .i64 ((cX l k).n:Int))]:=by
 rw [sO l k h,show ((qf l).drop (k*4)).take 4=Cz l[k] from oM Cz 4 (fun _=> rfl) l k h];rfl
theorem ra (l:List Tk) (t:Tk):qf l++Cz t=qf (l++[t]):=lE Cz l t

theorem fw {s:Tx} {a:Nat} {b:UInt8} (h:s[a]? =some b):s.drop a=b::s.drop (a+1):=by
 obtain ⟨hl,rfl⟩:=List.getElem?_eq_some_iff.1 h
 exact List.drop_eq_getElem_cons hl
theorem jf {s:Tx} {a:Nat} (h:a < s.length): ∃ b,s[a]? =some b:=⟨_,List.getElem?_eq_getElem h⟩
theorem KE (b:UInt8):0≤(b.toNat:Int)∧(b.toNat:Int) < 256:=⟨by omega,by have:=b.toNat_lt;omega⟩
def jy (s:Tx) (a:Nat) (c:Bool):Nat:=a+qL (s.drop a) c
theorem qq {s:Tx} {a:Nat} (h:s.length≤a) (c:Bool):jy s a c=a:=by
 unfold jy;rw [List.drop_eq_nil_of_le h];unfold qL;rfl
theorem Ed {s:Tx} {a:Nat} {b:UInt8} (h:s[a]? =some b) (hb:b.toNat=10):jy s a true=jy s a false:=by
 unfold jy;rw [fw h];simp [qL,hb]
theorem Ei {s:Tx} {a:Nat} {b:UInt8} (h:s[a]? =some b) (hb:b.toNat≠10):jy s a true=jy s (a+1) true:=by
 unfold jy;rw [fw h];simp [qL,hb];omega
theorem wY {s:Tx} {a:Nat} {b:UInt8} (h:s[a]? =some b) (hb:b.toNat=35):jy s a false=jy s a true:=by
 unfold jy;rw [fw h];simp [qL,hb]
theorem sP {s:Tx} {a:Nat} {b:UInt8} (h:s[a]? =some b) (h0:b.toNat≠35) (hb:b.toNat=32∨b.toNat=9∨b.toNat=10):jy s a false=jy s (a+1) false:=by
 unfold jy;rw [fw h,qL,if_neg h0,if_pos hb];omega
theorem AX {s:Tx} {a:Nat} {b:UInt8} (h:s[a]? =some b) (h0:b.toNat≠35) (hb: ¬ (b.toNat=32∨b.toNat=9∨b.toNat=10)):jy s a false=a:=by
 unfold jy;rw [fw h,qL,if_neg h0,if_neg hb];rfl
theorem mn: ∀ (l:Tx) (c:Bool),qL l c≤l.length
 | [],c=> by unfold qL;exact Nat.le_refl _
 | x::l,true=> by have h1:=mn l true;have h2:=mn l false;unfold qL;split <;> simp only [List.length_cons] <;> omega
 | x::l,false=> by have h1:=mn l true;have h2:=mn l false;unfold qL;split <;> (try split) <;> simp only [List.length_cons] <;> omega
theorem sR {s:Tx} {a:Nat} (h:a≤s.length) (c:Bool):a≤jy s a c∧jy s a c≤s.length:=by
 have:=mn (s.drop a) c
 rw [List.length_drop] at this
 unfold jy;omega
def kh (p:UInt8→Bool) (s:Tx) (a:Nat):Nat:=a+((s.drop a).takeWhile p).length
theorem uv {p:UInt8→Bool} {s:Tx} {a:Nat} (h:s.length≤a):kh p s a=a:=by
 unfold kh;rw [List.drop_eq_nil_of_le h];rfl
theorem pX {p:UInt8→Bool} {s:Tx} {a:Nat} {b:UInt8} (h:s[a]? =some b) (hb:p b=true):kh p s a=kh p s (a+1):=by
 unfold kh;rw [fw h,List.takeWhile_cons,if_pos hb,List.length_cons];omega
theorem yi {p:UInt8→Bool} {s:Tx} {a:Nat} {b:UInt8} (h:s[a]? =some b) (hb:p b=false):kh p s a=a:=by
 unfold kh;rw [fw h,List.takeWhile_cons,if_neg (by simp [hb])];rfl
theorem qv {p:UInt8→Bool} {s:Tx} {a:Nat} (h:a≤s.length):a≤kh p s a∧kh p s a≤s.length:=by
 have:((s.drop a).takeWhile p).length≤(s.drop a).length:=(List.takeWhile_prefix p).length_le
 rw [List.length_drop] at this
 unfold kh;omega
theorem rZ {p:UInt8→Bool} {s:Tx} {a:Nat} {b:UInt8} (h:s[a]? =some b):(s.drop a).take (kh p s (a+1) - a)=b::(s.drop (a+1)).takeWhile p:=by
 rw [fw h,show kh p s (a+1) - a=((s.drop (a+1)).takeWhile p).length+1 by unfold kh;omega,List.take_succ_cons]
 congr 1
 obtain ⟨t,ht⟩:=List.takeWhile_prefix p (l:=s.drop (a+1))
 conv=> lhs;arg 2;rw [← ht]
 rw [List.take_append_of_le_length (Nat.le_refl _),List.take_length]
theorem pH (l:Tx) (b:UInt8):jz (l++[b])=10*jz l+(b.toNat - 48):=by unfold jz;rw [List.foldl_append];rfl
theorem AC (l m:Tx):jz l≤jz (l++m):=by
 induction m generalizing l with
 | nil=> simp
 | cons b m ih=>
  have:=ih (l++[b])
  rw [pH,List.append_assoc] at this
  simp only [List.cons_append,List.nil_append] at this
  omega
theorem vn (l:Tx) (i:Nat):jz (l.take i)≤jz l:=by
 have:=AC (l.take i) (l.drop i)
 rwa [List.take_append_drop] at this
theorem wt {l:Tx} {i:Nat} {b:UInt8} (h:l[i]? =some b):jz (l.take (i+1))=10*jz (l.take i)+(b.toNat - 48):=by
 obtain ⟨hl,rfl⟩:=List.getElem?_eq_some_iff.1 h
 rw [List.take_succ_eq_append_getElem hl,pH]
theorem yR (b:UInt8):lX b=true↔97≤(b.toNat:Int)∧(b.toNat:Int)≤122:=by
 unfold lX;rw [Bool.and_eq_true,Nat.ble_eq,Nat.ble_eq];omega
theorem sj (b:UInt8):fL b=true↔48≤(b.toNat:Int)∧(b.toNat:Int)≤57:=by
 unfold fL;rw [Bool.and_eq_true,Nat.ble_eq,Nat.ble_eq];omega
theorem CD {b:Bool} {p:Prop} (h:b=true↔p) (hn: ¬ p):b=false:=by
 cases b with
 | false=> rfl
 | true=> exact absurd (h.1 rfl) hn
def inr (x:ek):List PV:=[.v (.int .i64 (x.op.num:Int)), .v (.int .i64 x.n)]
def inl (l:List ek):List PV:=l.flatMap inr
theorem bK (l:List ek):(inl l).length=l.length*2:=mr inr 2 (fun _=> rfl) l
theorem lV (l:List ek) (k:Nat) (h:k < l.length):(inl l)[k*2]? =some (.v (.int .i64 ((cK l k).op.num:Int))):=by
 rw [show cK l k=l[k] by simp [cK,h]];exact nL inr 2 (fun _=> rfl) l k 0 h ab
theorem zc (l:List ek) (k:Nat) (h:k < l.length):(inl l)[k*2+1]? =some (.v (.int .i64 (cK l k).n)):=by
 rw [show cK l k=l[k] by simp [cK,h]];exact nL inr 2 (fun _=> rfl) l k 1 h ab
theorem yQ (l:List ek) (k:Nat) (h:k < l.length):PV.ups (((inl l).drop (k*2)).take 2)=[.v (.int .i64 ((cK l k).op.num:Int)), .v (.int .i64 (cK l k).n)]:=by
 rw [show cK l k=l[k] by simp [cK,h],show ((inl l).drop (k*2)).take 2=inr l[k] from oM inr 2 (fun _=> rfl) l k h];rfl
theorem ey (l:List ek) (x:ek):inl l++inr x=inl (l++[x]):=lE inr l x
theorem kw (l m:List ek):inl l++inl m=inl (l++m):=yr inr l m
def EG (x:Ac):List PV:=[.v (.int .i64 x.k), .v (.int .i64 x.a), .v (.int .i64 x.b), .v (.int .i64 x.c), .v (.int .i64 x.d)]
def wo (l:List Ac):List PV:=l.flatMap EG
def EE (l:List Ac) (k:Nat):Ac:=l.getD k { k:=0 }
theorem fu (l:List Ac):(wo l).length=l.length*5:=mr EG 5 (fun _=> rfl) l
theorem wR (l:List Ac) (k:Nat) (h:k < l.length):PV.ups (((wo l).drop (k*5)).take 5)=[.v (.int .i64 (EE l k).k), .v (.int .i64 (EE l k).a), .v (.int .i64 (EE l k).b), .v (.int .i64 (EE l k).c), .v (.int .i64 (EE l k).d)]:=by
 rw [show EE l k=l[k] by simp [EE,h],show ((wo l).drop (k*5)).take 5=EG l[k] from oM EG 5 (fun _=> rfl) l k h];rfl
theorem yH (l:List Ac) (x:Ac):wo l++EG x=wo (l++[x]):=lE EG l x
end Go.Proofs.YtmjnackchaahbaaGreat

namespace Go.Proofs.YtmjnackchaahbaaGreat
abbrev Hl:List Value:=[.int .i64 0, .int .i64 0, .int .i64 0, .int .i64 0, .int .i64 0, .int .i64 0, .int .i64 0, .int .i64 0, .int .i64 0, .int .i64 0, .int .i64 0, .int .i64 0, .int .i64 0, .int .i64 0, .int .i64 0, .int .i64 0, .int .i64 0, .int .i64 0, .int .i64 0, .int .i64 0, .int .i64 0, .int .i64 0, .int .i64 0, .int .i64 0, .int .i64 0, .int .i64 0, .int .i64 0, .int .i64 0, .int .i64 0, .int .i64 0, .int .i64 0, .int .i64 0, .int .i64 0, .int .i64 0, .int .i64 0, .int .i64 0, .int .i64 0, .int .i64 0, .int .i64 0, .int .i64 0]
abbrev EN:List Value:=[.slice none 0 0, .int .i64 0, .int .i64 0, .int .i64 0, .int .i64 0, .int .i64 0, .int .i64 0, .int .i64 0, .int .i64 0, .int .i64 0, .int .i64 0, .int .i64 0, .int .i64 0, .int .i64 0, .int .i64 0, .int .i64 0, .int .i64 0, .int .i64 0, .int .i64 0, .int .i64 0, .int .i64 0, .int .i64 0, .int .i64 0, .int .i64 0, .int .i64 0, .int .i64 0, .int .i64 0, .int .i64 0, .int .i64 0, .int .i64 0, .int .i64 0, .int .i64 0, .int .i64 0, .int .i64 0, .int .i64 0, .int .i64 0, .int .i64 0, .int .i64 0, .int .i64 0, .int .i64 0, .int .i64 0, .int .i64 0, .int .i64 0]
abbrev uC:List Value:=[.int .i64 0, .int .i64 0, .int .i64 0, .int .i64 0, .int .i64 0, .int .i64 0, .int .i64 0, .int .i64 0, .int .i64 0]
abbrev CC:List Value:=[.slice none 0 0, .slice none 0 0, .int .i64 0, .bool false, .slice none 0 0]
abbrev Ck:List Value:=[.slice none 0 0, .slice none 0 0, .int .i64 0, .bool false, .slice none 0 0, .slice none 0 0]
abbrev mI:List Value:=[.int .i64 0, .int .i64 0, .int .i64 0, .int .i64 0, .int .i64 0]
abbrev EL:List Value:=[.slice none 0 0, .slice none 0 0, .slice none 0 0]
abbrev CA:List Value:=[.int .i64 0, .int .i64 0, .string ByteArray.empty, .slice none 0 0]
abbrev Cp:List Value:=[.int .i64 0, .int .i64 0, .int .i64 0, .string ByteArray.empty, .slice none 0 0]
abbrev Ic:List Value:=[.int .i64 0, .int .i64 0, .int .i64 0, .int .i64 0, .int .i64 0, .int .i64 0, .int .i64 0, .int .i64 0, .int .i64 0, .int .i64 0, .int .i64 0, .int .i64 0, .int .i64 0, .int .i64 0, .int .i64 0, .int .i64 0, .int .i64 0, .int .i64 0, .int .i64 0, .int .i64 0, .int .i64 0, .int .i64 0, .int .i64 0, .int .i64 0, .int .i64 0, .int .i64 0, .int .i64 0, .int .i64 0, .int .i64 0, .int .i64 0, .int .i64 0, .int .i64 0, .int .i64 0, .int .i64 0, .int .i64 0, .int .i64 0, .int .i64 0, .int .i64 0, .int .i64 0, .int .i64 0, .int .i64 0]
abbrev uK:List Value:=[.bool false, .int .i64 0, .int .i64 0, .int .i64 0, .slice none 0 0, .slice none 0 0, .slice none 0 0, .slice none 0 0, .int .i64 0, .int .i64 0, .int .i64 0, .int .i64 0, .int .i64 0, .int .i64 0, .int .i64 0, .int .i64 0, .int .i64 0, .int .i64 0, .int .i64 0, .int .i64 0, .int .i64 0, .int .i64 0, .int .i64 0, .int .i64 0, .int .i64 0, .int .i64 0, .int .i64 0, .int .i64 0, .int .i64 0, .int .i64 0, .int .i64 0, .int .i64 0, .int .i64 0, .int .i64 0, .int .i64 0, .int .i64 0, .int .i64 0, .int .i64 0, .int .i64 0, .int .i64 0, .int .i64 0, .int .i64 0, .int .i64 0, .int .i64 0, .int .i64 0, .int .i64 0, .int .i64 0, .int .i64 0, .int .i64 0, .int .i64 0, .int .i64 0, .int .i64 0]
abbrev vS:List Value:=[.int .i64 0, .int .i64 0, .int .i64 0, .int .i64 0, .int .i64 0, .int .i64 0, .int .i64 0, .int .i64 0, .int .i64 0, .int .i64 0, .int .i64 0, .int .i64 0, .int .i64 0, .slice none 0 0, .slice none 0 0]
abbrev uQ:List Value:=[.int .i64 0, .int .i64 0, .int .i64 0]
abbrev wb:List Value:=[.int .i64 0, .int .i64 0, .int .i64 0, .slice none 0 0, .bool false, .int .i64 0, .slice none 0 0, .slice none 0 0, .slice none 0 0, .int .i64 0, .bool false, .slice none 0 0]
abbrev qP:List Value:=[.int .i64 0, .int .i64 0, .int .i64 0, .slice none 0 0, .slice none 0 0]
abbrev oY:List Value:=[.int .i64 0, .int .i64 0, .int .i64 0, .int .i64 0, .int .i64 0, .int .i64 0, .int .i64 0]
abbrev vw:List Value:=[.slice none 0 0, .slice none 0 0, .bool false]
abbrev wA:List Value:=[.slice none 0 0, .int .i64 0, .int .i64 0, .int .i64 0, .int .i64 0, .int .i64 0, .int .i64 0, .int .i64 0, .int .i64 0, .int .i64 0]
abbrev vR:List Value:=[.slice none 0 0, .slice none 0 0, .slice none 0 0, .slice none 0 0]
abbrev vZ:List Value:=[.slice none 0 0, .int .i64 0, .int .i64 0, .int .i64 0, .int .i64 0, .int .i64 0, .int .i64 0, .int .i64 0, .int .i64 0, .int .i64 0, .int .i64 0, .int .i64 0, .int .i64 0, .int .i64 0, .int .i64 0, .int .i64 0, .int .i64 0, .int .i64 0, .int .i64 0, .int .i64 0, .int .i64 0, .int .i64 0, .int .i64 0, .int .i64 0, .int .i64 0, .int .i64 0, .int .i64 0, .int .i64 0, .int .i64 0, .int .i64 0, .int .i64 0, .int .i64 0, .int .i64 0, .int .i64 0, .int .i64 0, .int .i64 0, .int .i64 0, .int .i64 0, .int .i64 0, .int .i64 0, .int .i64 0, .int .i64 0, .int .i64 0, .slice none 0 0, .int .i64 0, .int .i64 0, .int .i64 0, .int .i64 0, .int .i64 0, .int .i64 0, .int .i64 0, .int .i64 0, .int .i64 0, .nilFunc, .slice none 0 0, .slice none 0 0, .int .i64 0, .bool false, .slice none 0 0, .slice none 0 0, .int .i64 0, .int .i64 0, .int .i64 0, .bool false]
abbrev Bu:List Value:=[.nilFunc, .nilFunc, .nilFunc, .nilFunc, .nilFunc, .nilFunc, .nilFunc, .nilFunc, .nilFunc, .nilFunc, .nilFunc, .nilFunc, .nilFunc, .nilFunc, .nilFunc, .nilFunc, .nilFunc, .nilFunc, .nilFunc, .nilFunc, .nilFunc, .nilFunc, .nilFunc, .nilFunc]
abbrev vU:List Value:=[.int .i64 0, .int .i64 0, .int .i64 0, .int .i64 0]
abbrev rU:List Value:=[.int .i64 0, .int .i64 0, .int .i64 0, .int .i64 0, .int .i64 0, .int .i64 0]
abbrev we:List Value:=[.slice none 0 0, .int .i64 0, .int .i64 0, .int .i64 0, .slice none 0 0]
abbrev rq:List Value:=[.int .i64 0, .int .i64 0, .string ByteArray.empty, .int .i64 0]
abbrev Ar:List Value:=[.bool false, .int .i64 0, .int .i64 0, .int .i64 0, .slice none 0 0, .slice none 0 0, .slice none 0 0, .slice none 0 0, .int .i64 0, .int .i64 0, .int .i64 0, .int .i64 0, .int .i64 0, .int .i64 0, .int .i64 0, .int .i64 0, .int .i64 0, .int .i64 0, .int .i64 0, .int .i64 0, .int .i64 0, .int .i64 0, .int .i64 0, .int .i64 0, .int .i64 0, .int .i64 0, .int .i64 0, .int .i64 0, .int .i64 0, .int .i64 0, .int .i64 0, .int .i64 0, .int .i64 0, .int .i64 0, .int .i64 0, .int .i64 0, .int .i64 0, .int .i64 0, .int .i64 0, .int .i64 0, .int .i64 0, .int .i64 0, .int .i64 0, .int .i64 0, .int .i64 0, .int .i64 0, .int .i64 0, .int .i64 0, .int .i64 0, .int .i64 0, .int .i64 0, .int .i64 0, .slice none 0 0, .slice none 0 0, .bool false, .int .i64 0, .slice none 0 0, .int .i64 0, .int .i64 0, .int .i64 0, .slice none 0 0, .slice none 0 0, .int .i64 0, .bool false, .slice none 0 0, .slice none 0 0, .slice none 0 0]
abbrev FM:List Value:=[.int .u64 0, .int .u64 0, .int .u32 0, .int .u8 0, .int .u8 0, .int .u8 0, .int .u8 0, .nilFunc, .pointer none, .int .i32 0, .int .i32 0]

instance wF:Ty Tryz.prog 1 false [.nilFunc]:=Ty.of (bytes:=8) (.nilFunc) Tryz.underlying1 rfl ae rfl (by simp [Value.oneCell'])
instance wD:Ty Tryz.prog 2 false [.int .i64 0]:=Ty.of (bytes:=8) (.int .i64 0) Tryz.underlying2 rfl ae rfl (by simp [Value.oneCell'])
instance eX:Ty Tryz.prog 3 false [.int .i64 0]:=Ty.of (bytes:=8) (.int .i64 0) Tryz.underlying3 rfl ae rfl (by simp [Value.oneCell'])
instance Cu:Ty Tryz.prog 4 false [.bool false]:=Ty.of (bytes:=1) (.bool false) Tryz.underlying4 rfl ae rfl (by simp [Value.oneCell'])
instance Uk:Ty Tryz.prog 5 false [.int .u8 0]:=Ty.of (bytes:=1) (.int .u8 0) Tryz.underlying5 rfl ae rfl (by simp [Value.oneCell'])
instance OP:Ty Tryz.prog 9 false [.string ByteArray.empty]:=Ty.of (bytes:=16) (.string ByteArray.empty) Tryz.underlying9 rfl ae rfl (by simp [Value.oneCell'])
instance TP:Ty Tryz.prog 12 false [.int .u64 0]:=Ty.of (bytes:=8) (.int .u64 0) Tryz.underlying12 rfl ae rfl (by simp [Value.oneCell'])
instance iw:Ty Tryz.prog 22 false [.slice none 0 0]:=Ty.of (bytes:=24) (.slice none 0 0) Tryz.underlying22 rfl ae rfl (by simp [Value.oneCell'])
instance FW:Ty Tryz.prog 23 false [.slice none 0 0]:=Ty.of (bytes:=24) (.slice none 0 0) Tryz.underlying23 rfl ae rfl (by simp [Value.oneCell'])
instance Kn:Ty Tryz.prog 24 true Hl:=Ty.of (bytes:=320) (.agg (Hl).toArray) Tryz.underlying24 rfl ae rfl (by simp [Value.oneCell'])
instance KC:Ty Tryz.prog 26 true EN:=Ty.of (bytes:=360) (.agg (EN).toArray) Tryz.underlying26 rfl ae rfl (by simp [Value.oneCell'])
instance FX:Ty Tryz.prog 30 true uC:=Ty.of (bytes:=72) (.agg (uC).toArray) Tryz.underlying30 rfl ae rfl (by simp [Value.oneCell'])
instance zY:Ty Tryz.prog 32 false [.slice none 0 0]:=Ty.of (bytes:=24) (.slice none 0 0) Tryz.underlying32 rfl ae rfl (by simp [Value.oneCell'])
instance Se:Ty Tryz.prog 33 true CC:=Ty.of (bytes:=88) (.agg (CC).toArray) Tryz.underlying33 rfl ae rfl (by simp [Value.oneCell'])
instance Gu:Ty Tryz.prog 34 true CC:=Ty.of (bytes:=88) (.agg (CC).toArray) Tryz.underlying34 rfl ae rfl (by simp [Value.oneCell'])
instance Uc:Ty Tryz.prog 38 true Ck:=Ty.of (bytes:=112) (.agg (Ck).toArray) Tryz.underlying38 rfl ae rfl (by simp [Value.oneCell'])
instance Sj:Ty Tryz.prog 39 true Ck:=Ty.of (bytes:=112) (.agg (Ck).toArray) Tryz.underlying39 rfl ae rfl (by simp [Value.oneCell'])
instance TY:Ty Tryz.prog 40 false [.nilFunc]:=Ty.of (bytes:=8) (.nilFunc) Tryz.underlying40 rfl ae rfl (by simp [Value.oneCell'])
instance RY:Ty Tryz.prog 42 false [.nilFunc]:=Ty.of (bytes:=8) (.nilFunc) Tryz.underlying42 rfl ae rfl (by simp [Value.oneCell'])
instance Ld:Ty Tryz.prog 43 false [.nilFunc]:=Ty.of (bytes:=8) (.nilFunc) Tryz.underlying43 rfl ae rfl (by simp [Value.oneCell'])
instance TA:Ty Tryz.prog 44 true [.int .i64 0, .int .i64 0]:=Ty.of (bytes:=16) (.agg #[.int .i64 0, .int .i64 0]) Tryz.underlying44 rfl ae rfl (by simp [Value.oneCell'])
instance RG:Ty Tryz.prog 45 false [.slice none 0 0]:=Ty.of (bytes:=24) (.slice none 0 0) Tryz.underlying45 rfl ae rfl (by simp [Value.oneCell'])
instance SF:Ty Tryz.prog 47 true [.int .i64 0, .int .i64 0]:=Ty.of (bytes:=16) (.agg #[.int .i64 0, .int .i64 0]) Tryz.underlying47 rfl ae rfl (by simp [Value.oneCell'])
instance SA:Ty Tryz.prog 48 true [.int .i64 0, .int .i64 0]:=Ty.of (bytes:=16) (.agg #[.int .i64 0, .int .i64 0]) Tryz.underlying48 rfl ae rfl (by simp [Value.oneCell'])
instance Ud:Ty Tryz.prog 51 false [.nilFunc]:=Ty.of (bytes:=8) (.nilFunc) Tryz.underlying51 rfl ae rfl (by simp [Value.oneCell'])
instance SG:Ty Tryz.prog 57 true mI:=Ty.of (bytes:=40) (.agg (mI).toArray) Tryz.underlying57 rfl ae rfl (by simp [Value.oneCell'])
instance Ua:Ty Tryz.prog 60 false [.nilFunc]:=Ty.of (bytes:=8) (.nilFunc) Tryz.underlying60 rfl ae rfl (by simp [Value.oneCell'])
instance DV:Ty Tryz.prog 61 false [.slice none 0 0]:=Ty.of (bytes:=24) (.slice none 0 0) Tryz.underlying61 rfl ae rfl (by simp [Value.oneCell'])
instance MV:Ty Tryz.prog 62 false [.slice none 0 0]:=Ty.of (bytes:=24) (.slice none 0 0) Tryz.underlying62 rfl ae rfl (by simp [Value.oneCell'])
instance Kq:Ty Tryz.prog 64 true EL:=Ty.of (bytes:=72) (.agg (EL).toArray) Tryz.underlying64 rfl ae rfl (by simp [Value.oneCell'])
instance MH:Ty Tryz.prog 66 false [.int .i64 0]:=Ty.of (bytes:=8) (.int .i64 0) Tryz.underlying66 rfl ae rfl (by simp [Value.oneCell'])
instance LC:Ty Tryz.prog 69 false [.slice none 0 0]:=Ty.of (bytes:=24) (.slice none 0 0) Tryz.underlying69 rfl ae rfl (by simp [Value.oneCell'])
instance Ng:Ty Tryz.prog 71 true CA:=Ty.of (bytes:=56) (.agg (CA).toArray) Tryz.underlying71 rfl ae rfl (by simp [Value.oneCell'])
instance Tv:Ty Tryz.prog 73 true Cp:=Ty.of (bytes:=64) (.agg (Cp).toArray) Tryz.underlying73 rfl ae rfl (by simp [Value.oneCell'])
instance My:Ty Tryz.prog 78 false [.slice none 0 0]:=Ty.of (bytes:=24) (.slice none 0 0) Tryz.underlying78 rfl ae rfl (by simp [Value.oneCell'])
instance Mn:Ty Tryz.prog 80 true [.slice none 0 0, .slice none 0 0]:=Ty.of (bytes:=48) (.agg #[.slice none 0 0, .slice none 0 0]) Tryz.underlying80 rfl ae rfl (by simp [Value.oneCell'])
instance Lh:Ty Tryz.prog 81 true Ic:=Ty.of (bytes:=328) (.agg (Ic).toArray) Tryz.underlying81 rfl ae rfl (by simp [Value.oneCell'])
instance RF:Ty Tryz.prog 83 true uK:=Ty.of (bytes:=480) (.agg (uK).toArray) Tryz.underlying83 rfl ae rfl (by simp [Value.oneCell'])
instance Tp:Ty Tryz.prog 87 true vS:=Ty.of (bytes:=152) (.agg (vS).toArray) Tryz.underlying87 rfl ae rfl (by simp [Value.oneCell'])
instance Gp:Ty Tryz.prog 88 false [.slice none 0 0]:=Ty.of (bytes:=24) (.slice none 0 0) Tryz.underlying88 rfl ae rfl (by simp [Value.oneCell'])
instance Km:Ty Tryz.prog 89 false [.slice none 0 0]:=Ty.of (bytes:=24) (.slice none 0 0) Tryz.underlying89 rfl ae rfl (by simp [Value.oneCell'])
instance sW:Ty Tryz.prog 91 true uQ:=Ty.of (bytes:=24) (.agg (uQ).toArray) Tryz.underlying91 rfl ae rfl (by simp [Value.oneCell'])
instance TH:Ty Tryz.prog 96 true wb:=Ty.of (bytes:=176) (.agg (wb).toArray) Tryz.underlying96 rfl ae rfl (by simp [Value.oneCell'])
instance Tu:Ty Tryz.prog 97 false [.pointer none]:=Ty.of (bytes:=8) (.pointer none) Tryz.underlying97 rfl ae rfl (by simp [Value.oneCell'])
instance TC:Ty Tryz.prog 99 false [.nilFunc]:=Ty.of (bytes:=8) (.nilFunc) Tryz.underlying99 rfl ae rfl (by simp [Value.oneCell'])
instance Ry:Ty Tryz.prog 100 false [.nilFunc]:=Ty.of (bytes:=8) (.nilFunc) Tryz.underlying100 rfl ae rfl (by simp [Value.oneCell'])
instance Cs:Ty Tryz.prog 101 false [.slice none 0 0]:=Ty.of (bytes:=24) (.slice none 0 0) Tryz.underlying101 rfl ae rfl (by simp [Value.oneCell'])
instance OV:Ty Tryz.prog 102 true qP:=Ty.of (bytes:=72) (.agg (qP).toArray) Tryz.underlying102 rfl ae rfl (by simp [Value.oneCell'])
instance OF:Ty Tryz.prog 103 true qP:=Ty.of (bytes:=72) (.agg (qP).toArray) Tryz.underlying103 rfl ae rfl (by simp [Value.oneCell'])
instance Ps:Ty Tryz.prog 104 false [.nilFunc]:=Ty.of (bytes:=8) (.nilFunc) Tryz.underlying104 rfl ae rfl (by simp [Value.oneCell'])
instance Qt:Ty Tryz.prog 105 false [.nilFunc]:=Ty.of (bytes:=8) (.nilFunc) Tryz.underlying105 rfl ae rfl (by simp [Value.oneCell'])
instance QH:Ty Tryz.prog 108 true mI:=Ty.of (bytes:=40) (.agg (mI).toArray) Tryz.underlying108 rfl ae rfl (by simp [Value.oneCell'])
instance wW:Ty Tryz.prog 109 true mI:=Ty.of (bytes:=40) (.agg (mI).toArray) Tryz.underlying109 rfl ae rfl (by simp [Value.oneCell'])
instance Ox:Ty Tryz.prog 110 true oY:=Ty.of (bytes:=56) (.agg (oY).toArray) Tryz.underlying110 rfl ae rfl (by simp [Value.oneCell'])
instance Rr:Ty Tryz.prog 111 true oY:=Ty.of (bytes:=56) (.agg (oY).toArray) Tryz.underlying111 rfl ae rfl (by simp [Value.oneCell'])
instance Of:Ty Tryz.prog 112 false [.nilFunc]:=Ty.of (bytes:=8) (.nilFunc) Tryz.underlying112 rfl ae rfl (by simp [Value.oneCell'])
instance NC:Ty Tryz.prog 113 false [.slice none 0 0]:=Ty.of (bytes:=24) (.slice none 0 0) Tryz.underlying113 rfl ae rfl (by simp [Value.oneCell'])
instance PY:Ty Tryz.prog 114 true mI:=Ty.of (bytes:=40) (.agg (mI).toArray) Tryz.underlying114 rfl ae rfl (by simp [Value.oneCell'])
instance CG:Ty Tryz.prog 115 true mI:=Ty.of (bytes:=40) (.agg (mI).toArray) Tryz.underlying115 rfl ae rfl (by simp [Value.oneCell'])
instance Ou:Ty Tryz.prog 116 true uC:=Ty.of (bytes:=72) (.agg (uC).toArray) Tryz.underlying116 rfl ae rfl (by simp [Value.oneCell'])
instance NV:Ty Tryz.prog 117 true uC:=Ty.of (bytes:=72) (.agg (uC).toArray) Tryz.underlying117 rfl ae rfl (by simp [Value.oneCell'])
instance Qp:Ty Tryz.prog 118 false [.nilFunc]:=Ty.of (bytes:=8) (.nilFunc) Tryz.underlying118 rfl ae rfl (by simp [Value.oneCell'])
instance Og:Ty Tryz.prog 119 false [.nilFunc]:=Ty.of (bytes:=8) (.nilFunc) Tryz.underlying119 rfl ae rfl (by simp [Value.oneCell'])
instance QE:Ty Tryz.prog 121 false [.slice none 0 0]:=Ty.of (bytes:=24) (.slice none 0 0) Tryz.underlying121 rfl ae rfl (by simp [Value.oneCell'])
instance NN:Ty Tryz.prog 122 false [.nilFunc]:=Ty.of (bytes:=8) (.nilFunc) Tryz.underlying122 rfl ae rfl (by simp [Value.oneCell'])
instance PX:Ty Tryz.prog 124 false [.nilFunc]:=Ty.of (bytes:=8) (.nilFunc) Tryz.underlying124 rfl ae rfl (by simp [Value.oneCell'])
instance Nt:Ty Tryz.prog 125 true [.int .i64 0, .int .i64 0]:=Ty.of (bytes:=16) (.agg #[.int .i64 0, .int .i64 0]) Tryz.underlying125 rfl ae rfl (by simp [Value.oneCell'])
instance Pq:Ty Tryz.prog 126 true [.int .i64 0, .int .i64 0]:=Ty.of (bytes:=16) (.agg #[.int .i64 0, .int .i64 0]) Tryz.underlying126 rfl ae rfl (by simp [Value.oneCell'])
instance Ol:Ty Tryz.prog 127 false [.pointer none]:=Ty.of (bytes:=8) (.pointer none) Tryz.underlying127 rfl ae rfl (by simp [Value.oneCell'])
instance Rh:Ty Tryz.prog 129 true vw:=Ty.of (bytes:=56) (.agg (vw).toArray) Tryz.underlying129 rfl ae rfl (by simp [Value.oneCell'])
instance FP:Ty Tryz.prog 132 true wA:=Ty.of (bytes:=96) (.agg (wA).toArray) Tryz.underlying132 rfl ae rfl (by simp [Value.oneCell'])
instance Qg:Ty Tryz.prog 137 false [.pointer none]:=Ty.of (bytes:=8) (.pointer none) Tryz.underlying137 rfl ae rfl (by simp [Value.oneCell'])
instance Ns:Ty Tryz.prog 139 true [.slice none 0 0, .int .i64 0]:=Ty.of (bytes:=32) (.agg #[.slice none 0 0, .int .i64 0]) Tryz.underlying139 rfl ae rfl (by simp [Value.oneCell'])
instance Qk:Ty Tryz.prog 141 false [.pointer none]:=Ty.of (bytes:=8) (.pointer none) Tryz.underlying141 rfl ae rfl (by simp [Value.oneCell'])
instance Qo:Ty Tryz.prog 143 true vR:=Ty.of (bytes:=96) (.agg (vR).toArray) Tryz.underlying143 rfl ae rfl (by simp [Value.oneCell'])
instance Nq:Ty Tryz.prog 161 false [.nilFunc]:=Ty.of (bytes:=8) (.nilFunc) Tryz.underlying161 rfl ae rfl (by simp [Value.oneCell'])
instance QJ:Ty Tryz.prog 168 false [.pointer none]:=Ty.of (bytes:=8) (.pointer none) Tryz.underlying168 rfl ae rfl (by simp [Value.oneCell'])
instance NB:Ty Tryz.prog 169 false [.nilFunc]:=Ty.of (bytes:=8) (.nilFunc) Tryz.underlying169 rfl ae rfl (by simp [Value.oneCell'])
instance NU:Ty Tryz.prog 171 true vZ:=Ty.of (bytes:=608) (.agg (vZ).toArray) Tryz.underlying171 rfl ae rfl (by simp [Value.oneCell'])
instance Oj:Ty Tryz.prog 172 false [.nilFunc]:=Ty.of (bytes:=8) (.nilFunc) Tryz.underlying172 rfl ae rfl (by simp [Value.oneCell'])
instance Pm:Ty Tryz.prog 173 true Bu:=Ty.of (bytes:=192) (.agg (Bu).toArray) Tryz.underlying173 rfl ae rfl (by simp [Value.oneCell'])
instance Nn:Ty Tryz.prog 175 false [.map none]:=Ty.of (bytes:=8) (.map none) Tryz.underlying175 rfl ae rfl (by simp [Value.oneCell'])
instance Pw:Ty Tryz.prog 176 true []:=Ty.of (bytes:=0) (.agg #[]) Tryz.underlying176 rfl ae rfl (by simp [Value.oneCell'])
instance PW:Ty Tryz.prog 178 false [.nilFunc]:=Ty.of (bytes:=8) (.nilFunc) Tryz.underlying178 rfl ae rfl (by simp [Value.oneCell'])
instance PR:Ty Tryz.prog 179 false [.nilFunc]:=Ty.of (bytes:=8) (.nilFunc) Tryz.underlying179 rfl ae rfl (by simp [Value.oneCell'])
instance Rk:Ty Tryz.prog 188 false [.map none]:=Ty.of (bytes:=8) (.map none) Tryz.underlying188 rfl ae rfl (by simp [Value.oneCell'])
instance QO:Ty Tryz.prog 190 false [.map none]:=Ty.of (bytes:=8) (.map none) Tryz.underlying190 rfl ae rfl (by simp [Value.oneCell'])
instance PH:Ty Tryz.prog 192 true vU:=Ty.of (bytes:=32) (.agg (vU).toArray) Tryz.underlying192 rfl ae rfl (by simp [Value.oneCell'])
instance Ql:Ty Tryz.prog 196 true rU:=Ty.of (bytes:=48) (.agg (rU).toArray) Tryz.underlying196 rfl ae rfl (by simp [Value.oneCell'])
instance QV:Ty Tryz.prog 200 false [.pointer none]:=Ty.of (bytes:=8) (.pointer none) Tryz.underlying200 rfl ae rfl (by simp [Value.oneCell'])
instance Nl:Ty Tryz.prog 216 false [.nilFunc]:=Ty.of (bytes:=8) (.nilFunc) Tryz.underlying216 rfl ae rfl (by simp [Value.oneCell'])
instance Gl:Ty Tryz.prog 217 false [.slice none 0 0]:=Ty.of (bytes:=24) (.slice none 0 0) Tryz.underlying217 rfl ae rfl (by simp [Value.oneCell'])
instance Nw:Ty Tryz.prog 220 false [.pointer none]:=Ty.of (bytes:=8) (.pointer none) Tryz.underlying220 rfl ae rfl (by simp [Value.oneCell'])
instance Qh:Ty Tryz.prog 222 true we:=Ty.of (bytes:=72) (.agg (we).toArray) Tryz.underlying222 rfl ae rfl (by simp [Value.oneCell'])
instance PA:Ty Tryz.prog 225 true rq:=Ty.of (bytes:=40) (.agg (rq).toArray) Tryz.underlying225 rfl ae rfl (by simp [Value.oneCell'])
instance Nr:Ty Tryz.prog 253 false [.int .i64 0]:=Ty.of (bytes:=8) (.int .i64 0) Tryz.underlying253 rfl ae rfl (by simp [Value.oneCell'])
instance On:Ty Tryz.prog 275 false [.slice none 0 0]:=Ty.of (bytes:=24) (.slice none 0 0) Tryz.underlying275 rfl ae rfl (by simp [Value.oneCell'])
instance RI:Elem Tryz.prog 22 3 1 8 [.int .i64 0]:=Elem.of (.int .i64 0) Tryz.underlying22 ae rfl rfl ah ah (by simp [Value.oneCell'])
instance RU:Elem Tryz.prog 23 48 2 16 [.int .i64 0, .int .i64 0]:=Elem.of (.agg #[.int .i64 0, .int .i64 0]) Tryz.underlying23 ae rfl rfl ah ah (by simp [Value.oneCell'])
instance SL:Elem Tryz.prog 32 57 5 40 mI:=Elem.of (.agg (mI).toArray) Tryz.underlying32 ae rfl rfl ah ah (by simp [Value.oneCell'])
instance Sw:Elem Tryz.prog 45 44 2 16 [.int .i64 0, .int .i64 0]:=Elem.of (.agg #[.int .i64 0, .int .i64 0]) Tryz.underlying45 ae rfl rfl ah ah (by simp [Value.oneCell'])
instance TN:Elem Tryz.prog 61 9 1 16 [.string ByteArray.empty]:=Elem.of (.string ByteArray.empty) Tryz.underlying61 ae rfl rfl ah ah (by simp [Value.oneCell'])
instance SW:Elem Tryz.prog 62 73 5 64 Cp:=Elem.of (.agg (Cp).toArray) Tryz.underlying62 ae rfl rfl ah ah (by simp [Value.oneCell'])
instance RC:Elem Tryz.prog 69 71 4 56 CA:=Elem.of (.agg (CA).toArray) Tryz.underlying69 ae rfl rfl ah ah (by simp [Value.oneCell'])
instance TZ:Elem Tryz.prog 78 126 2 16 [.int .i64 0, .int .i64 0]:=Elem.of (.agg #[.int .i64 0, .int .i64 0]) Tryz.underlying78 ae rfl rfl ah ah (by simp [Value.oneCell'])
instance Sd:Elem Tryz.prog 88 111 7 56 oY:=Elem.of (.agg (oY).toArray) Tryz.underlying88 ae rfl rfl ah ah (by simp [Value.oneCell'])
instance SZ:Elem Tryz.prog 89 117 9 72 uC:=Elem.of (.agg (uC).toArray) Tryz.underlying89 ae rfl rfl ah ah (by simp [Value.oneCell'])
instance Ov:Elem Tryz.prog 101 196 6 48 rU:=Elem.of (.agg (rU).toArray) Tryz.underlying101 ae rfl rfl ah ah (by simp [Value.oneCell'])
instance Pf:Elem Tryz.prog 113 115 5 40 mI:=Elem.of (.agg (mI).toArray) Tryz.underlying113 ae rfl rfl ah ah (by simp [Value.oneCell'])
instance Oi:Elem Tryz.prog 121 4 1 1 [.bool false]:=Elem.of (.bool false) Tryz.underlying121 ae rfl rfl ah ah (by simp [Value.oneCell'])
instance QX:Elem Tryz.prog 217 225 4 40 rq:=Elem.of (.agg (rq).toArray) Tryz.underlying217 ae rfl rfl ah ah (by simp [Value.oneCell'])
instance QT:Elem Tryz.prog 275 61 1 24 [.slice none 0 0]:=Elem.of (.slice none 0 0) Tryz.underlying275 ae rfl rfl ah ah (by simp [Value.oneCell'])
instance Lk:cD Tryz.prog 26 0 0:=⟨fun ad w=> by kernel_rfl⟩
instance KQ:Fvl Tryz.prog 26 0 0 false 1:=Fvl.of Tryz.underlying26 rfl rfl FW rfl
instance LV:cD Tryz.prog 26 1 1:=⟨fun ad w=> by kernel_rfl⟩
instance LH:Fvl Tryz.prog 26 1 1 true 40:=Fvl.of Tryz.underlying26 rfl rfl Kn rfl
instance LS:cD Tryz.prog 26 2 41:=⟨fun ad w=> by kernel_rfl⟩
instance Nf:Fvl Tryz.prog 26 2 41 false 1:=Fvl.of Tryz.underlying26 rfl rfl eX rfl
instance LU:cD Tryz.prog 26 3 42:=⟨fun ad w=> by kernel_rfl⟩
instance MJ:Fvl Tryz.prog 26 3 42 false 1:=Fvl.of Tryz.underlying26 rfl rfl eX rfl
instance Mi:cD Tryz.prog 33 0 0:=⟨fun ad w=> by kernel_rfl⟩
instance Ls:Fvl Tryz.prog 33 0 0 false 1:=Fvl.of Tryz.underlying33 rfl rfl iw rfl
instance KA:cD Tryz.prog 33 1 1:=⟨fun ad w=> by kernel_rfl⟩
instance Mb:Fvl Tryz.prog 33 1 1 false 1:=Fvl.of Tryz.underlying33 rfl rfl zY rfl
instance JJ:cD Tryz.prog 33 2 2:=⟨fun ad w=> by kernel_rfl⟩
instance MB:Fvl Tryz.prog 33 2 2 false 1:=Fvl.of Tryz.underlying33 rfl rfl eX rfl
instance KN:cD Tryz.prog 33 3 3:=⟨fun ad w=> by kernel_rfl⟩
instance MR:Fvl Tryz.prog 33 3 3 false 1:=Fvl.of Tryz.underlying33 rfl rfl Cu rfl
instance MM:cD Tryz.prog 33 4 4:=⟨fun ad w=> by kernel_rfl⟩
instance Nb:Fvl Tryz.prog 33 4 4 false 1:=Fvl.of Tryz.underlying33 rfl rfl iw rfl
instance KI:cD Tryz.prog 34 0 0:=⟨fun ad w=> by kernel_rfl⟩
instance Ka:Fvl Tryz.prog 34 0 0 false 1:=Fvl.of Tryz.underlying34 rfl rfl iw rfl
instance MX:cD Tryz.prog 34 1 1:=⟨fun ad w=> by kernel_rfl⟩
instance MU:Fvl Tryz.prog 34 1 1 false 1:=Fvl.of Tryz.underlying34 rfl rfl zY rfl
instance KF:cD Tryz.prog 34 2 2:=⟨fun ad w=> by kernel_rfl⟩
instance KO:Fvl Tryz.prog 34 2 2 false 1:=Fvl.of Tryz.underlying34 rfl rfl eX rfl
instance Nj:cD Tryz.prog 34 3 3:=⟨fun ad w=> by kernel_rfl⟩
instance JM:Fvl Tryz.prog 34 3 3 false 1:=Fvl.of Tryz.underlying34 rfl rfl Cu rfl
instance JQ:cD Tryz.prog 34 4 4:=⟨fun ad w=> by kernel_rfl⟩
instance KP:Fvl Tryz.prog 34 4 4 false 1:=Fvl.of Tryz.underlying34 rfl rfl iw rfl
instance Mg:cD Tryz.prog 38 0 0:=⟨fun ad w=> by kernel_rfl⟩
instance Lj:Fvl Tryz.prog 38 0 0 false 1:=Fvl.of Tryz.underlying38 rfl rfl iw rfl
instance Kj:cD Tryz.prog 38 1 1:=⟨fun ad w=> by kernel_rfl⟩
instance JX:Fvl Tryz.prog 38 1 1 false 1:=Fvl.of Tryz.underlying38 rfl rfl zY rfl
instance Mp:cD Tryz.prog 38 2 2:=⟨fun ad w=> by kernel_rfl⟩
instance LB:Fvl Tryz.prog 38 2 2 false 1:=Fvl.of Tryz.underlying38 rfl rfl eX rfl
instance Lq:cD Tryz.prog 38 3 3:=⟨fun ad w=> by kernel_rfl⟩
instance Lr:Fvl Tryz.prog 38 3 3 false 1:=Fvl.of Tryz.underlying38 rfl rfl Cu rfl
instance Mj:cD Tryz.prog 38 4 4:=⟨fun ad w=> by kernel_rfl⟩
instance Nh:Fvl Tryz.prog 38 4 4 false 1:=Fvl.of Tryz.underlying38 rfl rfl iw rfl
instance MS:cD Tryz.prog 38 5 5:=⟨fun ad w=> by kernel_rfl⟩
instance Mc:Fvl Tryz.prog 38 5 5 false 1:=Fvl.of Tryz.underlying38 rfl rfl iw rfl
instance LP:cD Tryz.prog 39 0 0:=⟨fun ad w=> by kernel_rfl⟩
instance LF:Fvl Tryz.prog 39 0 0 false 1:=Fvl.of Tryz.underlying39 rfl rfl iw rfl
instance Lw:cD Tryz.prog 39 1 1:=⟨fun ad w=> by kernel_rfl⟩
instance Ki:Fvl Tryz.prog 39 1 1 false 1:=Fvl.of Tryz.underlying39 rfl rfl zY rfl
instance LZ:cD Tryz.prog 39 2 2:=⟨fun ad w=> by kernel_rfl⟩
instance KY:Fvl Tryz.prog 39 2 2 false 1:=Fvl.of Tryz.underlying39 rfl rfl eX rfl
instance LA:cD Tryz.prog 39 3 3:=⟨fun ad w=> by kernel_rfl⟩
instance Mu:Fvl Tryz.prog 39 3 3 false 1:=Fvl.of Tryz.underlying39 rfl rfl Cu rfl
instance JR:cD Tryz.prog 39 4 4:=⟨fun ad w=> by kernel_rfl⟩
instance Li:Fvl Tryz.prog 39 4 4 false 1:=Fvl.of Tryz.underlying39 rfl rfl iw rfl
instance LO:cD Tryz.prog 39 5 5:=⟨fun ad w=> by kernel_rfl⟩
instance Mr:Fvl Tryz.prog 39 5 5 false 1:=Fvl.of Tryz.underlying39 rfl rfl iw rfl
instance Mq:cD Tryz.prog 47 0 0:=⟨fun ad w=> by kernel_rfl⟩
instance KG:Fvl Tryz.prog 47 0 0 false 1:=Fvl.of Tryz.underlying47 rfl rfl eX rfl
instance LT:cD Tryz.prog 47 1 1:=⟨fun ad w=> by kernel_rfl⟩
instance JL:Fvl Tryz.prog 47 1 1 false 1:=Fvl.of Tryz.underlying47 rfl rfl eX rfl
instance Ml:cD Tryz.prog 48 0 0:=⟨fun ad w=> by kernel_rfl⟩
instance Ku:Fvl Tryz.prog 48 0 0 false 1:=Fvl.of Tryz.underlying48 rfl rfl eX rfl
instance Kc:cD Tryz.prog 48 1 1:=⟨fun ad w=> by kernel_rfl⟩
instance Lf:Fvl Tryz.prog 48 1 1 false 1:=Fvl.of Tryz.underlying48 rfl rfl eX rfl
instance Nc:cD Tryz.prog 57 0 0:=⟨fun ad w=> by kernel_rfl⟩
instance MT:Fvl Tryz.prog 57 0 0 false 1:=Fvl.of Tryz.underlying57 rfl rfl eX rfl
instance Kz:cD Tryz.prog 57 1 1:=⟨fun ad w=> by kernel_rfl⟩
instance Ll:Fvl Tryz.prog 57 1 1 false 1:=Fvl.of Tryz.underlying57 rfl rfl eX rfl
instance MG:cD Tryz.prog 57 2 2:=⟨fun ad w=> by kernel_rfl⟩
instance MW:Fvl Tryz.prog 57 2 2 false 1:=Fvl.of Tryz.underlying57 rfl rfl eX rfl
instance MZ:cD Tryz.prog 57 3 3:=⟨fun ad w=> by kernel_rfl⟩
instance JW:Fvl Tryz.prog 57 3 3 false 1:=Fvl.of Tryz.underlying57 rfl rfl eX rfl
instance Kh:cD Tryz.prog 57 4 4:=⟨fun ad w=> by kernel_rfl⟩
instance Na:Fvl Tryz.prog 57 4 4 false 1:=Fvl.of Tryz.underlying57 rfl rfl eX rfl
instance LG:cD Tryz.prog 64 0 0:=⟨fun ad w=> by kernel_rfl⟩
instance KD:Fvl Tryz.prog 64 0 0 false 1:=Fvl.of Tryz.underlying64 rfl rfl DV rfl
instance JI:cD Tryz.prog 64 1 1:=⟨fun ad w=> by kernel_rfl⟩
instance Ks:Fvl Tryz.prog 64 1 1 false 1:=Fvl.of Tryz.underlying64 rfl rfl DV rfl
instance LR:cD Tryz.prog 64 2 2:=⟨fun ad w=> by kernel_rfl⟩
instance LE:Fvl Tryz.prog 64 2 2 false 1:=Fvl.of Tryz.underlying64 rfl rfl MV rfl
instance JT:cD Tryz.prog 71 0 0:=⟨fun ad w=> by kernel_rfl⟩
instance Kd:Fvl Tryz.prog 71 0 0 false 1:=Fvl.of Tryz.underlying71 rfl rfl eX rfl
instance KU:cD Tryz.prog 71 1 1:=⟨fun ad w=> by kernel_rfl⟩
instance Ky:Fvl Tryz.prog 71 1 1 false 1:=Fvl.of Tryz.underlying71 rfl rfl eX rfl
instance MF:cD Tryz.prog 71 2 2:=⟨fun ad w=> by kernel_rfl⟩
instance KV:Fvl Tryz.prog 71 2 2 false 1:=Fvl.of Tryz.underlying71 rfl rfl OP rfl
instance JV:cD Tryz.prog 71 3 3:=⟨fun ad w=> by kernel_rfl⟩
instance Mz:Fvl Tryz.prog 71 3 3 false 1:=Fvl.of Tryz.underlying71 rfl rfl LC rfl
instance MN:cD Tryz.prog 73 0 0:=⟨fun ad w=> by kernel_rfl⟩
instance Ni:Fvl Tryz.prog 73 0 0 false 1:=Fvl.of Tryz.underlying73 rfl rfl eX rfl
instance Lz:cD Tryz.prog 73 1 1:=⟨fun ad w=> by kernel_rfl⟩
instance Mh:Fvl Tryz.prog 73 1 1 true 4:=Fvl.of Tryz.underlying73 rfl rfl Ng rfl
instance Lc:cD Tryz.prog 80 0 0:=⟨fun ad w=> by kernel_rfl⟩
instance Md:Fvl Tryz.prog 80 0 0 false 1:=Fvl.of Tryz.underlying80 rfl rfl iw rfl
instance Kg:cD Tryz.prog 80 1 1:=⟨fun ad w=> by kernel_rfl⟩
instance Kf:Fvl Tryz.prog 80 1 1 false 1:=Fvl.of Tryz.underlying80 rfl rfl My rfl
instance JZ:cD Tryz.prog 83 0 0:=⟨fun ad w=> by kernel_rfl⟩
instance Lu:Fvl Tryz.prog 83 0 0 false 1:=Fvl.of Tryz.underlying83 rfl rfl Cu rfl
instance Mv:cD Tryz.prog 83 1 1:=⟨fun ad w=> by kernel_rfl⟩
instance KW:Fvl Tryz.prog 83 1 1 false 1:=Fvl.of Tryz.underlying83 rfl rfl eX rfl
instance LK:cD Tryz.prog 83 2 2:=⟨fun ad w=> by kernel_rfl⟩
instance JO:Fvl Tryz.prog 83 2 2 false 1:=Fvl.of Tryz.underlying83 rfl rfl eX rfl
instance MK:cD Tryz.prog 83 3 3:=⟨fun ad w=> by kernel_rfl⟩
instance JF:Fvl Tryz.prog 83 3 3 false 1:=Fvl.of Tryz.underlying83 rfl rfl eX rfl
instance MC:cD Tryz.prog 83 4 4:=⟨fun ad w=> by kernel_rfl⟩
instance Lb:Fvl Tryz.prog 83 4 4 true 2:=Fvl.of Tryz.underlying83 rfl rfl Mn rfl
instance Mm:cD Tryz.prog 83 5 6:=⟨fun ad w=> by kernel_rfl⟩
instance Kr:Fvl Tryz.prog 83 5 6 false 1:=Fvl.of Tryz.underlying83 rfl rfl iw rfl
instance MQ:cD Tryz.prog 83 6 7:=⟨fun ad w=> by kernel_rfl⟩
instance KX:Fvl Tryz.prog 83 6 7 false 1:=Fvl.of Tryz.underlying83 rfl rfl iw rfl
instance JU:cD Tryz.prog 83 7 8:=⟨fun ad w=> by kernel_rfl⟩
instance Kk:Fvl Tryz.prog 83 7 8 true 41:=Fvl.of Tryz.underlying83 rfl rfl Lh rfl
instance Ko:cD Tryz.prog 83 8 49:=⟨fun ad w=> by kernel_rfl⟩
instance Mf:Fvl Tryz.prog 83 8 49 false 1:=Fvl.of Tryz.underlying83 rfl rfl eX rfl
instance LX:cD Tryz.prog 83 9 50:=⟨fun ad w=> by kernel_rfl⟩
instance Lx:Fvl Tryz.prog 83 9 50 false 1:=Fvl.of Tryz.underlying83 rfl rfl eX rfl
instance IM:cD Tryz.prog 83 10 51:=⟨fun ad w=> by kernel_rfl⟩
instance Hf:Fvl Tryz.prog 83 10 51 false 1:=Fvl.of Tryz.underlying83 rfl rfl eX rfl
instance LN:cD Tryz.prog 87 0 0:=⟨fun ad w=> by kernel_rfl⟩
instance Kt:Fvl Tryz.prog 87 0 0 false 1:=Fvl.of Tryz.underlying87 rfl rfl eX rfl
instance KB:cD Tryz.prog 87 1 1:=⟨fun ad w=> by kernel_rfl⟩
instance KK:Fvl Tryz.prog 87 1 1 false 1:=Fvl.of Tryz.underlying87 rfl rfl eX rfl
instance JG:cD Tryz.prog 87 2 2:=⟨fun ad w=> by kernel_rfl⟩
instance Kv:Fvl Tryz.prog 87 2 2 true 9:=Fvl.of Tryz.underlying87 rfl rfl FX rfl
instance KL:cD Tryz.prog 87 3 11:=⟨fun ad w=> by kernel_rfl⟩
instance MI:Fvl Tryz.prog 87 3 11 false 1:=Fvl.of Tryz.underlying87 rfl rfl eX rfl
instance KM:cD Tryz.prog 87 4 12:=⟨fun ad w=> by kernel_rfl⟩
instance Kp:Fvl Tryz.prog 87 4 12 false 1:=Fvl.of Tryz.underlying87 rfl rfl eX rfl
instance MA:cD Tryz.prog 87 5 13:=⟨fun ad w=> by kernel_rfl⟩
instance KZ:Fvl Tryz.prog 87 5 13 false 1:=Fvl.of Tryz.underlying87 rfl rfl iw rfl
instance Ke:cD Tryz.prog 87 6 14:=⟨fun ad w=> by kernel_rfl⟩
instance Kb:Fvl Tryz.prog 87 6 14 false 1:=Fvl.of Tryz.underlying87 rfl rfl iw rfl
instance Lt:cD Tryz.prog 91 0 0:=⟨fun ad w=> by kernel_rfl⟩
instance Lg:Fvl Tryz.prog 91 0 0 false 1:=Fvl.of Tryz.underlying91 rfl rfl eX rfl
instance JN:cD Tryz.prog 91 1 1:=⟨fun ad w=> by kernel_rfl⟩
instance Mw:Fvl Tryz.prog 91 1 1 false 1:=Fvl.of Tryz.underlying91 rfl rfl eX rfl
instance Me:cD Tryz.prog 91 2 2:=⟨fun ad w=> by kernel_rfl⟩
instance KS:Fvl Tryz.prog 91 2 2 false 1:=Fvl.of Tryz.underlying91 rfl rfl eX rfl
instance LY:cD Tryz.prog 96 0 0:=⟨fun ad w=> by kernel_rfl⟩
instance MP:Fvl Tryz.prog 96 0 0 true 3:=Fvl.of Tryz.underlying96 rfl rfl sW rfl
instance JY:cD Tryz.prog 96 1 3:=⟨fun ad w=> by kernel_rfl⟩
instance Kw:Fvl Tryz.prog 96 1 3 false 1:=Fvl.of Tryz.underlying96 rfl rfl Km rfl
instance ML:cD Tryz.prog 96 2 4:=⟨fun ad w=> by kernel_rfl⟩
instance Lp:Fvl Tryz.prog 96 2 4 false 1:=Fvl.of Tryz.underlying96 rfl rfl Cu rfl
instance MO:cD Tryz.prog 96 3 5:=⟨fun ad w=> by kernel_rfl⟩
instance KR:Fvl Tryz.prog 96 3 5 false 1:=Fvl.of Tryz.underlying96 rfl rfl eX rfl
instance LI:cD Tryz.prog 96 4 6:=⟨fun ad w=> by kernel_rfl⟩
instance Ly:Fvl Tryz.prog 96 4 6 false 1:=Fvl.of Tryz.underlying96 rfl rfl iw rfl
instance ME:cD Tryz.prog 96 5 7:=⟨fun ad w=> by kernel_rfl⟩
instance Mx:Fvl Tryz.prog 96 5 7 true 5:=Fvl.of Tryz.underlying96 rfl rfl Gu rfl
instance It:cD Tryz.prog 102 0 0:=⟨fun ad w=> by kernel_rfl⟩
instance JA:Fvl Tryz.prog 102 0 0 true 3:=Fvl.of Tryz.underlying102 rfl rfl sW rfl
instance GH:cD Tryz.prog 102 1 3:=⟨fun ad w=> by kernel_rfl⟩
instance Hm:Fvl Tryz.prog 102 1 3 false 1:=Fvl.of Tryz.underlying102 rfl rfl Cs rfl
instance GQ:cD Tryz.prog 102 2 4:=⟨fun ad w=> by kernel_rfl⟩
instance GM:Fvl Tryz.prog 102 2 4 false 1:=Fvl.of Tryz.underlying102 rfl rfl Gp rfl
instance Iz:cD Tryz.prog 103 0 0:=⟨fun ad w=> by kernel_rfl⟩
instance Iv:Fvl Tryz.prog 103 0 0 true 3:=Fvl.of Tryz.underlying103 rfl rfl sW rfl
instance Jm:cD Tryz.prog 103 1 3:=⟨fun ad w=> by kernel_rfl⟩
instance IW:Fvl Tryz.prog 103 1 3 false 1:=Fvl.of Tryz.underlying103 rfl rfl Cs rfl
instance Ib:cD Tryz.prog 103 2 4:=⟨fun ad w=> by kernel_rfl⟩
instance GJ:Fvl Tryz.prog 103 2 4 false 1:=Fvl.of Tryz.underlying103 rfl rfl Gp rfl
instance HN:cD Tryz.prog 108 0 0:=⟨fun ad w=> by kernel_rfl⟩
instance If:Fvl Tryz.prog 108 0 0 true 3:=Fvl.of Tryz.underlying108 rfl rfl sW rfl
instance Hs:cD Tryz.prog 108 1 3:=⟨fun ad w=> by kernel_rfl⟩
instance JB:Fvl Tryz.prog 108 1 3 false 1:=Fvl.of Tryz.underlying108 rfl rfl eX rfl
instance Ir:cD Tryz.prog 108 2 4:=⟨fun ad w=> by kernel_rfl⟩
instance Iw:Fvl Tryz.prog 108 2 4 false 1:=Fvl.of Tryz.underlying108 rfl rfl eX rfl
instance IY:cD Tryz.prog 109 0 0:=⟨fun ad w=> by kernel_rfl⟩
instance Ht:Fvl Tryz.prog 109 0 0 true 3:=Fvl.of Tryz.underlying109 rfl rfl sW rfl
instance HZ:cD Tryz.prog 109 1 3:=⟨fun ad w=> by kernel_rfl⟩
instance HU:Fvl Tryz.prog 109 1 3 false 1:=Fvl.of Tryz.underlying109 rfl rfl eX rfl
instance JD:cD Tryz.prog 109 2 4:=⟨fun ad w=> by kernel_rfl⟩
instance Hz:Fvl Tryz.prog 109 2 4 false 1:=Fvl.of Tryz.underlying109 rfl rfl eX rfl
instance Jn:cD Tryz.prog 110 0 0:=⟨fun ad w=> by kernel_rfl⟩
instance Hq:Fvl Tryz.prog 110 0 0 true 5:=Fvl.of Tryz.underlying110 rfl rfl wW rfl
instance IL:cD Tryz.prog 110 1 5:=⟨fun ad w=> by kernel_rfl⟩
instance Jx:Fvl Tryz.prog 110 1 5 false 1:=Fvl.of Tryz.underlying110 rfl rfl eX rfl
instance GP:cD Tryz.prog 110 2 6:=⟨fun ad w=> by kernel_rfl⟩
instance Io:Fvl Tryz.prog 110 2 6 false 1:=Fvl.of Tryz.underlying110 rfl rfl eX rfl
instance GS:cD Tryz.prog 111 0 0:=⟨fun ad w=> by kernel_rfl⟩
instance HF:Fvl Tryz.prog 111 0 0 true 5:=Fvl.of Tryz.underlying111 rfl rfl wW rfl
instance HI:cD Tryz.prog 111 1 5:=⟨fun ad w=> by kernel_rfl⟩
instance Hr:Fvl Tryz.prog 111 1 5 false 1:=Fvl.of Tryz.underlying111 rfl rfl eX rfl
instance Is:cD Tryz.prog 111 2 6:=⟨fun ad w=> by kernel_rfl⟩
instance Jb:Fvl Tryz.prog 111 2 6 false 1:=Fvl.of Tryz.underlying111 rfl rfl eX rfl
instance Jy:cD Tryz.prog 114 0 0:=⟨fun ad w=> by kernel_rfl⟩
instance Ja:Fvl Tryz.prog 114 0 0 true 3:=Fvl.of Tryz.underlying114 rfl rfl sW rfl
instance HR:cD Tryz.prog 114 1 3:=⟨fun ad w=> by kernel_rfl⟩
instance IE:Fvl Tryz.prog 114 1 3 false 1:=Fvl.of Tryz.underlying114 rfl rfl eX rfl
instance Iq:cD Tryz.prog 114 2 4:=⟨fun ad w=> by kernel_rfl⟩
instance HG:Fvl Tryz.prog 114 2 4 false 1:=Fvl.of Tryz.underlying114 rfl rfl eX rfl
instance IQ:cD Tryz.prog 115 0 0:=⟨fun ad w=> by kernel_rfl⟩
instance IZ:Fvl Tryz.prog 115 0 0 true 3:=Fvl.of Tryz.underlying115 rfl rfl sW rfl
instance GF:cD Tryz.prog 115 1 3:=⟨fun ad w=> by kernel_rfl⟩
instance Jw:Fvl Tryz.prog 115 1 3 false 1:=Fvl.of Tryz.underlying115 rfl rfl eX rfl
instance Ii:cD Tryz.prog 115 2 4:=⟨fun ad w=> by kernel_rfl⟩
instance HX:Fvl Tryz.prog 115 2 4 false 1:=Fvl.of Tryz.underlying115 rfl rfl eX rfl
instance Il:cD Tryz.prog 116 0 0:=⟨fun ad w=> by kernel_rfl⟩
instance Iu:Fvl Tryz.prog 116 0 0 true 5:=Fvl.of Tryz.underlying116 rfl rfl CG rfl
instance Jk:cD Tryz.prog 116 1 5:=⟨fun ad w=> by kernel_rfl⟩
instance IG:Fvl Tryz.prog 116 1 5 false 1:=Fvl.of Tryz.underlying116 rfl rfl eX rfl
instance IB:cD Tryz.prog 116 2 6:=⟨fun ad w=> by kernel_rfl⟩
instance Ig:Fvl Tryz.prog 116 2 6 false 1:=Fvl.of Tryz.underlying116 rfl rfl eX rfl
instance Jl:cD Tryz.prog 116 3 7:=⟨fun ad w=> by kernel_rfl⟩
instance Jg:Fvl Tryz.prog 116 3 7 false 1:=Fvl.of Tryz.underlying116 rfl rfl eX rfl
instance HE:cD Tryz.prog 116 4 8:=⟨fun ad w=> by kernel_rfl⟩
instance Jq:Fvl Tryz.prog 116 4 8 false 1:=Fvl.of Tryz.underlying116 rfl rfl eX rfl
instance Ju:cD Tryz.prog 117 0 0:=⟨fun ad w=> by kernel_rfl⟩
instance Hj:Fvl Tryz.prog 117 0 0 true 5:=Fvl.of Tryz.underlying117 rfl rfl CG rfl
instance HW:cD Tryz.prog 117 1 5:=⟨fun ad w=> by kernel_rfl⟩
instance Jc:Fvl Tryz.prog 117 1 5 false 1:=Fvl.of Tryz.underlying117 rfl rfl eX rfl
instance Jz:cD Tryz.prog 117 2 6:=⟨fun ad w=> by kernel_rfl⟩
instance Ij:Fvl Tryz.prog 117 2 6 false 1:=Fvl.of Tryz.underlying117 rfl rfl eX rfl
instance GX:cD Tryz.prog 117 3 7:=⟨fun ad w=> by kernel_rfl⟩
instance Hc:Fvl Tryz.prog 117 3 7 false 1:=Fvl.of Tryz.underlying117 rfl rfl eX rfl
instance HK:cD Tryz.prog 117 4 8:=⟨fun ad w=> by kernel_rfl⟩
instance IN:Fvl Tryz.prog 117 4 8 false 1:=Fvl.of Tryz.underlying117 rfl rfl eX rfl
instance Jt:cD Tryz.prog 125 0 0:=⟨fun ad w=> by kernel_rfl⟩
instance Jo:Fvl Tryz.prog 125 0 0 false 1:=Fvl.of Tryz.underlying125 rfl rfl eX rfl
instance HD:cD Tryz.prog 125 1 1:=⟨fun ad w=> by kernel_rfl⟩
instance IJ:Fvl Tryz.prog 125 1 1 false 1:=Fvl.of Tryz.underlying125 rfl rfl eX rfl
instance Jf:cD Tryz.prog 126 0 0:=⟨fun ad w=> by kernel_rfl⟩
instance GW:Fvl Tryz.prog 126 0 0 false 1:=Fvl.of Tryz.underlying126 rfl rfl eX rfl
instance Iy:cD Tryz.prog 126 1 1:=⟨fun ad w=> by kernel_rfl⟩
instance Hg:Fvl Tryz.prog 126 1 1 false 1:=Fvl.of Tryz.underlying126 rfl rfl eX rfl
instance Jh:cD Tryz.prog 129 0 0:=⟨fun ad w=> by kernel_rfl⟩
instance GZ:Fvl Tryz.prog 129 0 0 false 1:=Fvl.of Tryz.underlying129 rfl rfl iw rfl
instance HM:cD Tryz.prog 129 1 1:=⟨fun ad w=> by kernel_rfl⟩
instance Hw:Fvl Tryz.prog 129 1 1 false 1:=Fvl.of Tryz.underlying129 rfl rfl iw rfl
instance HS:cD Tryz.prog 129 2 2:=⟨fun ad w=> by kernel_rfl⟩
instance Hh:Fvl Tryz.prog 129 2 2 false 1:=Fvl.of Tryz.underlying129 rfl rfl Cu rfl
instance HC:cD Tryz.prog 132 0 0:=⟨fun ad w=> by kernel_rfl⟩
instance IU:Fvl Tryz.prog 132 0 0 false 1:=Fvl.of Tryz.underlying132 rfl rfl iw rfl
instance GT:cD Tryz.prog 132 1 1:=⟨fun ad w=> by kernel_rfl⟩
instance IH:Fvl Tryz.prog 132 1 1 true 9:=Fvl.of Tryz.underlying132 rfl rfl FX rfl
instance GA:cD Tryz.prog 139 0 0:=⟨fun ad w=> by kernel_rfl⟩
instance Ix:Fvl Tryz.prog 139 0 0 false 1:=Fvl.of Tryz.underlying139 rfl rfl iw rfl
instance IC:cD Tryz.prog 139 1 1:=⟨fun ad w=> by kernel_rfl⟩
instance Hb:Fvl Tryz.prog 139 1 1 false 1:=Fvl.of Tryz.underlying139 rfl rfl eX rfl
instance Ip:cD Tryz.prog 143 0 0:=⟨fun ad w=> by kernel_rfl⟩
instance HP:Fvl Tryz.prog 143 0 0 true 3:=Fvl.of Tryz.underlying143 rfl rfl Kq rfl
instance Hu:cD Tryz.prog 143 1 3:=⟨fun ad w=> by kernel_rfl⟩
instance Jp:Fvl Tryz.prog 143 1 3 false 1:=Fvl.of Tryz.underlying143 rfl rfl FW rfl
instance HL:cD Tryz.prog 171 0 0:=⟨fun ad w=> by kernel_rfl⟩
instance Jd:Fvl Tryz.prog 171 0 0 true 43:=Fvl.of Tryz.underlying171 rfl rfl KC rfl
instance Hv:cD Tryz.prog 171 1 43:=⟨fun ad w=> by kernel_rfl⟩
instance Hk:Fvl Tryz.prog 171 1 43 true 10:=Fvl.of Tryz.underlying171 rfl rfl FP rfl
instance Hp:cD Tryz.prog 171 2 53:=⟨fun ad w=> by kernel_rfl⟩
instance Hy:Fvl Tryz.prog 171 2 53 false 1:=Fvl.of Tryz.underlying171 rfl rfl Ld rfl
instance Ia:cD Tryz.prog 171 3 54:=⟨fun ad w=> by kernel_rfl⟩
instance HA:Fvl Tryz.prog 171 3 54 true 5:=Fvl.of Tryz.underlying171 rfl rfl Gu rfl
instance Jj:cD Tryz.prog 171 4 59:=⟨fun ad w=> by kernel_rfl⟩
instance Ik:Fvl Tryz.prog 171 4 59 false 1:=Fvl.of Tryz.underlying171 rfl rfl iw rfl
instance IP:cD Tryz.prog 171 5 60:=⟨fun ad w=> by kernel_rfl⟩
instance HH:Fvl Tryz.prog 171 5 60 false 1:=Fvl.of Tryz.underlying171 rfl rfl eX rfl
instance GC:cD Tryz.prog 171 6 61:=⟨fun ad w=> by kernel_rfl⟩
instance He:Fvl Tryz.prog 171 6 61 false 1:=Fvl.of Tryz.underlying171 rfl rfl eX rfl
instance Ji:cD Tryz.prog 171 7 62:=⟨fun ad w=> by kernel_rfl⟩
instance Gz:Fvl Tryz.prog 171 7 62 false 1:=Fvl.of Tryz.underlying171 rfl rfl eX rfl
instance IO:cD Tryz.prog 171 8 63:=⟨fun ad w=> by kernel_rfl⟩
instance GU:Fvl Tryz.prog 171 8 63 false 1:=Fvl.of Tryz.underlying171 rfl rfl Cu rfl
instance HB:cD Tryz.prog 192 0 0:=⟨fun ad w=> by kernel_rfl⟩
instance GE:Fvl Tryz.prog 192 0 0 false 1:=Fvl.of Tryz.underlying192 rfl rfl eX rfl
instance GY:cD Tryz.prog 192 1 1:=⟨fun ad w=> by kernel_rfl⟩
instance Hx:Fvl Tryz.prog 192 1 1 false 1:=Fvl.of Tryz.underlying192 rfl rfl eX rfl
instance Ih:cD Tryz.prog 192 2 2:=⟨fun ad w=> by kernel_rfl⟩
instance Hi:Fvl Tryz.prog 192 2 2 false 1:=Fvl.of Tryz.underlying192 rfl rfl eX rfl
instance Hn:cD Tryz.prog 192 3 3:=⟨fun ad w=> by kernel_rfl⟩
instance IK:Fvl Tryz.prog 192 3 3 false 1:=Fvl.of Tryz.underlying192 rfl rfl eX rfl
instance IF:cD Tryz.prog 196 0 0:=⟨fun ad w=> by kernel_rfl⟩
instance HT:Fvl Tryz.prog 196 0 0 true 5:=Fvl.of Tryz.underlying196 rfl rfl wW rfl
instance IR:cD Tryz.prog 196 1 5:=⟨fun ad w=> by kernel_rfl⟩
instance Js:Fvl Tryz.prog 196 1 5 false 1:=Fvl.of Tryz.underlying196 rfl rfl eX rfl
instance JC:cD Tryz.prog 222 0 0:=⟨fun ad w=> by kernel_rfl⟩
instance GD:Fvl Tryz.prog 222 0 0 false 1:=Fvl.of Tryz.underlying222 rfl rfl Gl rfl
instance Jr:cD Tryz.prog 222 1 1:=⟨fun ad w=> by kernel_rfl⟩
instance HJ:Fvl Tryz.prog 222 1 1 false 1:=Fvl.of Tryz.underlying222 rfl rfl eX rfl
instance GK:cD Tryz.prog 222 2 2:=⟨fun ad w=> by kernel_rfl⟩
instance Jv:Fvl Tryz.prog 222 2 2 false 1:=Fvl.of Tryz.underlying222 rfl rfl eX rfl
instance Ho:cD Tryz.prog 222 3 3:=⟨fun ad w=> by kernel_rfl⟩
instance JE:Fvl Tryz.prog 222 3 3 false 1:=Fvl.of Tryz.underlying222 rfl rfl MH rfl
instance Im:cD Tryz.prog 222 4 4:=⟨fun ad w=> by kernel_rfl⟩
instance II:Fvl Tryz.prog 222 4 4 false 1:=Fvl.of Tryz.underlying222 rfl rfl DV rfl
instance HY:cD Tryz.prog 225 0 0:=⟨fun ad w=> by kernel_rfl⟩
instance GR:Fvl Tryz.prog 225 0 0 false 1:=Fvl.of Tryz.underlying225 rfl rfl eX rfl
instance Ie:cD Tryz.prog 225 1 1:=⟨fun ad w=> by kernel_rfl⟩
instance GI:Fvl Tryz.prog 225 1 1 false 1:=Fvl.of Tryz.underlying225 rfl rfl eX rfl
instance In:cD Tryz.prog 225 2 2:=⟨fun ad w=> by kernel_rfl⟩
instance IX:Fvl Tryz.prog 225 2 2 false 1:=Fvl.of Tryz.underlying225 rfl rfl OP rfl
instance ID:cD Tryz.prog 225 3 3:=⟨fun ad w=> by kernel_rfl⟩
instance Ha:Fvl Tryz.prog 225 3 3 false 1:=Fvl.of Tryz.underlying225 rfl rfl eX rfl
instance Uj:bZ Tryz.prog 3:=⟨fun args w=> by kernel_rfl⟩
instance Ui:bZ Tryz.prog 5:=⟨fun args w=> by kernel_rfl⟩
instance SI:bZ Tryz.prog 20:=⟨fun args w=> by kernel_rfl⟩
instance TB:bZ Tryz.prog 21:=⟨fun args w=> by kernel_rfl⟩
instance SX:bZ Tryz.prog 22:=⟨fun args w=> by kernel_rfl⟩
instance Ue:bZ Tryz.prog 23:=⟨fun args w=> by kernel_rfl⟩
instance TD:bZ Tryz.prog 24:=⟨fun args w=> by kernel_rfl⟩
instance SU:bZ Tryz.prog 25:=⟨fun args w=> by kernel_rfl⟩
instance So:bZ Tryz.prog 26:=⟨fun args w=> by kernel_rfl⟩
instance SB:bZ Tryz.prog 27:=⟨fun args w=> by kernel_rfl⟩
instance TQ:bZ Tryz.prog 29:=⟨fun args w=> by kernel_rfl⟩
instance Tj:bZ Tryz.prog 30:=⟨fun args w=> by kernel_rfl⟩
instance Uf:bZ Tryz.prog 31:=⟨fun args w=> by kernel_rfl⟩
instance Sa:bZ Tryz.prog 32:=⟨fun args w=> by kernel_rfl⟩
instance Tt:bZ Tryz.prog 33:=⟨fun args w=> by kernel_rfl⟩
instance RZ:bZ Tryz.prog 34:=⟨fun args w=> by kernel_rfl⟩
instance RP:bZ Tryz.prog 35:=⟨fun args w=> by kernel_rfl⟩
instance Tz:bZ Tryz.prog 36:=⟨fun args w=> by kernel_rfl⟩
instance Te:bZ Tryz.prog 38:=⟨fun args w=> by kernel_rfl⟩
instance RJ:bZ Tryz.prog 39:=⟨fun args w=> by kernel_rfl⟩
instance TI:bZ Tryz.prog 44:=⟨fun args w=> by kernel_rfl⟩
instance Tq:bZ Tryz.prog 47:=⟨fun args w=> by kernel_rfl⟩
instance Sf:bZ Tryz.prog 48:=⟨fun args w=> by kernel_rfl⟩
instance Sv:bZ Tryz.prog 56:=⟨fun args w=> by kernel_rfl⟩
instance Tr:bZ Tryz.prog 57:=⟨fun args w=> by kernel_rfl⟩
instance SV:bZ Tryz.prog 58:=⟨fun args w=> by kernel_rfl⟩
instance RX:bZ Tryz.prog 59:=⟨fun args w=> by kernel_rfl⟩
instance RB:bZ Tryz.prog 60:=⟨fun args w=> by kernel_rfl⟩
instance Tn:bZ Tryz.prog 61:=⟨fun args w=> by kernel_rfl⟩
instance SR:bZ Tryz.prog 62:=⟨fun args w=> by kernel_rfl⟩
instance RH:bZ Tryz.prog 63:=⟨fun args w=> by kernel_rfl⟩
instance RR:bZ Tryz.prog 64:=⟨fun args w=> by kernel_rfl⟩
instance RM:bZ Tryz.prog 66:=⟨fun args w=> by kernel_rfl⟩
instance RL:bZ Tryz.prog 67:=⟨fun args w=> by kernel_rfl⟩
instance RW:bZ Tryz.prog 68:=⟨fun args w=> by kernel_rfl⟩
instance Sk:bZ Tryz.prog 69:=⟨fun args w=> by kernel_rfl⟩
instance TS:bZ Tryz.prog 70:=⟨fun args w=> by kernel_rfl⟩
instance SQ:bZ Tryz.prog 71:=⟨fun args w=> by kernel_rfl⟩
instance Sx:bZ Tryz.prog 72:=⟨fun args w=> by kernel_rfl⟩
instance Tw:bZ Tryz.prog 73:=⟨fun args w=> by kernel_rfl⟩
instance SK:bZ Tryz.prog 74:=⟨fun args w=> by kernel_rfl⟩
instance TE:bZ Tryz.prog 75:=⟨fun args w=> by kernel_rfl⟩
instance TL:bZ Tryz.prog 77:=⟨fun args w=> by kernel_rfl⟩
instance Su:bZ Tryz.prog 78:=⟨fun args w=> by kernel_rfl⟩
instance Tc:bZ Tryz.prog 79:=⟨fun args w=> by kernel_rfl⟩
instance Tl:bZ Tryz.prog 80:=⟨fun args w=> by kernel_rfl⟩
instance RS:bZ Tryz.prog 81:=⟨fun args w=> by kernel_rfl⟩
instance TV:bZ Tryz.prog 82:=⟨fun args w=> by kernel_rfl⟩
instance SM:bZ Tryz.prog 83:=⟨fun args w=> by kernel_rfl⟩
instance Tb:bZ Tryz.prog 86:=⟨fun args w=> by kernel_rfl⟩
instance RV:bZ Tryz.prog 87:=⟨fun args w=> by kernel_rfl⟩
instance Tm:bZ Tryz.prog 88:=⟨fun args w=> by kernel_rfl⟩
instance TK:bZ Tryz.prog 89:=⟨fun args w=> by kernel_rfl⟩
instance TM:bZ Tryz.prog 90:=⟨fun args w=> by kernel_rfl⟩
instance TG:bZ Tryz.prog 91:=⟨fun args w=> by kernel_rfl⟩
instance TW:bZ Tryz.prog 92:=⟨fun args w=> by kernel_rfl⟩
instance Sc:bZ Tryz.prog 93:=⟨fun args w=> by kernel_rfl⟩
instance SD:bZ Tryz.prog 94:=⟨fun args w=> by kernel_rfl⟩
instance Ta:bZ Tryz.prog 95:=⟨fun args w=> by kernel_rfl⟩
instance TF:bZ Tryz.prog 96:=⟨fun args w=> by kernel_rfl⟩
instance TX:bZ Tryz.prog 97:=⟨fun args w=> by kernel_rfl⟩
instance To:bZ Tryz.prog 98:=⟨fun args w=> by kernel_rfl⟩
instance NA:bZ Tryz.prog 102:=⟨fun args w=> by kernel_rfl⟩
instance Re:bZ Tryz.prog 103:=⟨fun args w=> by kernel_rfl⟩
instance Rm:bZ Tryz.prog 105:=⟨fun args w=> by kernel_rfl⟩
instance OJ:bZ Tryz.prog 106:=⟨fun args w=> by kernel_rfl⟩
instance NY:bZ Tryz.prog 107:=⟨fun args w=> by kernel_rfl⟩
instance OE:bZ Tryz.prog 108:=⟨fun args w=> by kernel_rfl⟩
instance OG:bZ Tryz.prog 109:=⟨fun args w=> by kernel_rfl⟩
instance Ru:bZ Tryz.prog 110:=⟨fun args w=> by kernel_rfl⟩
instance Qx:bZ Tryz.prog 111:=⟨fun args w=> by kernel_rfl⟩
instance QS:bZ Tryz.prog 112:=⟨fun args w=> by kernel_rfl⟩
instance NS:bZ Tryz.prog 113:=⟨fun args w=> by kernel_rfl⟩
instance Ow:bZ Tryz.prog 114:=⟨fun args w=> by kernel_rfl⟩
instance OD:bZ Tryz.prog 115:=⟨fun args w=> by kernel_rfl⟩
instance Qw:bZ Tryz.prog 116:=⟨fun args w=> by kernel_rfl⟩
instance Qb:bZ Tryz.prog 117:=⟨fun args w=> by kernel_rfl⟩
instance QL:bZ Tryz.prog 118:=⟨fun args w=> by kernel_rfl⟩
instance Qj:bZ Tryz.prog 119:=⟨fun args w=> by kernel_rfl⟩
instance Nm:bZ Tryz.prog 120:=⟨fun args w=> by kernel_rfl⟩
instance OQ:bZ Tryz.prog 121:=⟨fun args w=> by kernel_rfl⟩
instance Pa:bZ Tryz.prog 122:=⟨fun args w=> by kernel_rfl⟩
instance QQ:bZ Tryz.prog 123:=⟨fun args w=> by kernel_rfl⟩
instance Ok:bZ Tryz.prog 124:=⟨fun args w=> by kernel_rfl⟩
instance Oy:bZ Tryz.prog 125:=⟨fun args w=> by kernel_rfl⟩
instance Qc:bZ Tryz.prog 126:=⟨fun args w=> by kernel_rfl⟩
instance PC:bZ Tryz.prog 127:=⟨fun args w=> by kernel_rfl⟩
instance Oa:bZ Tryz.prog 128:=⟨fun args w=> by kernel_rfl⟩
instance NE:bZ Tryz.prog 129:=⟨fun args w=> by kernel_rfl⟩
instance Ob:bZ Tryz.prog 130:=⟨fun args w=> by kernel_rfl⟩
instance ND:bZ Tryz.prog 131:=⟨fun args w=> by kernel_rfl⟩
instance NH:bZ Tryz.prog 132:=⟨fun args w=> by kernel_rfl⟩
instance Pi:bZ Tryz.prog 133:=⟨fun args w=> by kernel_rfl⟩
instance QU:bZ Tryz.prog 134:=⟨fun args w=> by kernel_rfl⟩
instance Qe:bZ Tryz.prog 135:=⟨fun args w=> by kernel_rfl⟩
instance NX:bZ Tryz.prog 136:=⟨fun args w=> by kernel_rfl⟩
instance Qz:bZ Tryz.prog 137:=⟨fun args w=> by kernel_rfl⟩
instance Oo:bZ Tryz.prog 138:=⟨fun args w=> by kernel_rfl⟩
instance Ph:bZ Tryz.prog 139:=⟨fun args w=> by kernel_rfl⟩
instance Py:bZ Tryz.prog 140:=⟨fun args w=> by kernel_rfl⟩
instance QP:bZ Tryz.prog 141:=⟨fun args w=> by kernel_rfl⟩
instance Pd:bZ Tryz.prog 142:=⟨fun args w=> by kernel_rfl⟩
instance NZ:bZ Tryz.prog 143:=⟨fun args w=> by kernel_rfl⟩
instance NG:bZ Tryz.prog 144:=⟨fun args w=> by kernel_rfl⟩
instance OT:bZ Tryz.prog 145:=⟨fun args w=> by kernel_rfl⟩
instance Px:bZ Tryz.prog 146:=⟨fun args w=> by kernel_rfl⟩
instance NR:bZ Tryz.prog 147:=⟨fun args w=> by kernel_rfl⟩
instance PL:bZ Tryz.prog 148:=⟨fun args w=> by kernel_rfl⟩
instance QW:bZ Tryz.prog 149:=⟨fun args w=> by kernel_rfl⟩
instance Pj:bZ Tryz.prog 150:=⟨fun args w=> by kernel_rfl⟩
instance PZ:bZ Tryz.prog 151:=⟨fun args w=> by kernel_rfl⟩
instance OY:bZ Tryz.prog 152:=⟨fun args w=> by kernel_rfl⟩
instance Rp:bZ Tryz.prog 153:=⟨fun args w=> by kernel_rfl⟩
instance Pv:bZ Tryz.prog 154:=⟨fun args w=> by kernel_rfl⟩
instance PB:bZ Tryz.prog 155:=⟨fun args w=> by kernel_rfl⟩
instance OH:bZ Tryz.prog 156:=⟨fun args w=> by kernel_rfl⟩
instance Nv:bZ Tryz.prog 157:=⟨fun args w=> by kernel_rfl⟩
instance OK:bZ Tryz.prog 158:=⟨fun args w=> by kernel_rfl⟩
instance Pr:bZ Tryz.prog 159:=⟨fun args w=> by kernel_rfl⟩
instance NI:bZ Tryz.prog 160:=⟨fun args w=> by kernel_rfl⟩
instance Qu:bZ Tryz.prog 161:=⟨fun args w=> by kernel_rfl⟩
instance Pl:bZ Tryz.prog 162:=⟨fun args w=> by kernel_rfl⟩
instance QY:bZ Tryz.prog 163:=⟨fun args w=> by kernel_rfl⟩
instance Rb:bZ Tryz.prog 164:=⟨fun args w=> by kernel_rfl⟩
instance Po:bZ Tryz.prog 165:=⟨fun args w=> by kernel_rfl⟩
instance PF:bZ Tryz.prog 166:=⟨fun args w=> by kernel_rfl⟩
instance NT:bZ Tryz.prog 167:=⟨fun args w=> by kernel_rfl⟩
instance NF:bZ Tryz.prog 168:=⟨fun args w=> by kernel_rfl⟩
instance QD:bZ Tryz.prog 169:=⟨fun args w=> by kernel_rfl⟩
instance No:bZ Tryz.prog 170:=⟨fun args w=> by kernel_rfl⟩
instance Pb:bZ Tryz.prog 171:=⟨fun args w=> by kernel_rfl⟩
instance PM:bZ Tryz.prog 173:=⟨fun args w=> by kernel_rfl⟩
instance Ro:bZ Tryz.prog 176:=⟨fun args w=> by kernel_rfl⟩
instance Ny:bZ Tryz.prog 177:=⟨fun args w=> by kernel_rfl⟩
instance PT:bZ Tryz.prog 183:=⟨fun args w=> by kernel_rfl⟩
instance OA:bZ Tryz.prog 184:=⟨fun args w=> by kernel_rfl⟩
instance NJ:bZ Tryz.prog 185:=⟨fun args w=> by kernel_rfl⟩
instance Pk:bZ Tryz.prog 186:=⟨fun args w=> by kernel_rfl⟩
instance Oh:bZ Tryz.prog 187:=⟨fun args w=> by kernel_rfl⟩
instance QR:bZ Tryz.prog 188:=⟨fun args w=> by kernel_rfl⟩
instance Rl:bZ Tryz.prog 189:=⟨fun args w=> by kernel_rfl⟩
instance OC:bZ Tryz.prog 190:=⟨fun args w=> by kernel_rfl⟩
instance Oz:bZ Tryz.prog 191:=⟨fun args w=> by kernel_rfl⟩
instance Rt:bZ Tryz.prog 192:=⟨fun args w=> by kernel_rfl⟩
instance QC:bZ Tryz.prog 194:=⟨fun args w=> by kernel_rfl⟩
instance OB:bZ Tryz.prog 195:=⟨fun args w=> by kernel_rfl⟩
instance QN:bZ Tryz.prog 196:=⟨fun args w=> by kernel_rfl⟩
instance PQ:bZ Tryz.prog 197:=⟨fun args w=> by kernel_rfl⟩
instance QZ:bZ Tryz.prog 198:=⟨fun args w=> by kernel_rfl⟩
instance Oq:bZ Tryz.prog 199:=⟨fun args w=> by kernel_rfl⟩
instance Ri:bZ Tryz.prog 200:=⟨fun args w=> by kernel_rfl⟩
instance OZ:bZ Tryz.prog 201:=⟨fun args w=> by kernel_rfl⟩
instance OX:bZ Tryz.prog 202:=⟨fun args w=> by kernel_rfl⟩
instance Pe:bZ Tryz.prog 203:=⟨fun args w=> by kernel_rfl⟩
instance ON:bZ Tryz.prog 204:=⟨fun args w=> by kernel_rfl⟩
instance Rf:bZ Tryz.prog 205:=⟨fun args w=> by kernel_rfl⟩
instance PI:bZ Tryz.prog 207:=⟨fun args w=> by kernel_rfl⟩
instance QG:bZ Tryz.prog 211:=⟨fun args w=> by kernel_rfl⟩
instance Qv:bZ Tryz.prog 212:=⟨fun args w=> by kernel_rfl⟩
instance Qd:bZ Tryz.prog 213:=⟨fun args w=> by kernel_rfl⟩
instance NO:bZ Tryz.prog 214:=⟨fun args w=> by kernel_rfl⟩
instance Rx:bZ Tryz.prog 215:=⟨fun args w=> by kernel_rfl⟩
instance QI:bZ Tryz.prog 216:=⟨fun args w=> by kernel_rfl⟩
instance Nz:bZ Tryz.prog 217:=⟨fun args w=> by kernel_rfl⟩
instance OI:bZ Tryz.prog 218:=⟨fun args w=> by kernel_rfl⟩
instance OO:bZ Tryz.prog 221:=⟨fun args w=> by kernel_rfl⟩
instance Pu:bZ Tryz.prog 222:=⟨fun args w=> by kernel_rfl⟩
instance QK:bZ Tryz.prog 223:=⟨fun args w=> by kernel_rfl⟩
instance NP:bZ Tryz.prog 224:=⟨fun args w=> by kernel_rfl⟩
instance OR:bZ Tryz.prog 225:=⟨fun args w=> by kernel_rfl⟩
instance QA:bZ Tryz.prog 226:=⟨fun args w=> by kernel_rfl⟩
instance Od:bZ Tryz.prog 227:=⟨fun args w=> by kernel_rfl⟩
instance Rn:bZ Tryz.prog 235:=⟨fun args w=> by kernel_rfl⟩
instance PN:bZ Tryz.prog 236:=⟨fun args w=> by kernel_rfl⟩
instance OW:bZ Tryz.prog 237:=⟨fun args w=> by kernel_rfl⟩
instance Np:bZ Tryz.prog 240:=⟨fun args w=> by kernel_rfl⟩
end Go.Proofs.YtmjnackchaahbaaGreat
