/- Part 8 of the texts that the walk leans on: the machine, the walks, the plain laws. -/
import Derived.Test.YtmjnackchaahbaaGreatVbZ7
set_option linter.unusedSimpArgs false
set_option linter.unusedVariables false
namespace Go.Proofs.YtmjnackchaahbaaGreat
open Go.RowKit

def eI:Ex→Nat
  | .int _=> 1 | .bool _=> 2 | .var _=> 1 | .name _=> 1
  | .draw e=> if eI e=1 then 1 else 0
  | .neg e=> if eI e=1 then 1 else 0
  | .not e=> if eI e=2 then 2 else 0
  | .bin o a b=> if eI a=1∧eI b=1 then (match o with | .add=> 1 | .sub=> 1 | .mul=> 1 | .div=> 1 | _=> 2) else 0
  | .and a b=> if eI a=2∧eI b=2 then 2 else 0
  | .or a b=> if eI a=2∧eI b=2 then 2 else 0
def mQ (e:Ex):Bool:=Nat.beq (eI e) 1
mutual
def vA:Sm→Bool
  | .assign _ e=> mQ e
  | .send t _ a b=> mQ t && mQ a && mQ b
  | .timer _=> true | .cancel _=> true | .sync=> true | .stop=> true
  | .reply a b=> mQ a && mQ b
  | .fail e=> mQ e
  | .loop c b=> Nat.beq (eI c) 2 && oa b
  | .ite c a b=> Nat.beq (eI c) 2 && oa a && oa b
def oa:Bk→Bool
  | .nil=> true
  | .cons s b=> vA s && oa b
end
def ew (nv:Nat):Ex→Bool
  | .int n=> decide (-2147483647≤n) && decide (n≤2147483647)
  | .bool _=> true
  | .var i=> decide (i < nv)
  | .name k=> decide (k < 9)
  | .draw e=> ew nv e | .neg e=> ew nv e | .not e=> ew nv e
  | .bin _ a b=> ew nv a && ew nv b
  | .and a b=> ew nv a && ew nv b
  | .or a b=> ew nv a && ew nv b
mutual
def kK (nv:Nat):Sm→Bool
  | .assign i e=> decide (i < nv) && ew nv e
  | .send t k a b=> decide (k < 30) && ew nv t && ew nv a && ew nv b
  | .timer k=> decide (k < 8) | .cancel k=> decide (k < 8) | .sync=> true | .stop=> true
  | .reply a b=> ew nv a && ew nv b
  | .fail e=> ew nv e
  | .loop c b=> ew nv c && oH nv b
  | .ite c a b=> ew nv c && oH nv a && oH nv b
def oH (nv:Nat):Bk→Bool
  | .nil=> true
  | .cons s b=> kK nv s && oH nv b
end
theorem dn (nv:Nat): ∀ e,ew nv e=true→fq nv e
  | .int n,h=> by simpa [ew,fq] using h
  | .bool _,_=> trivial
  | .var i,h=> by simpa [ew,fq] using h
  | .name k,h=> by simpa [ew,fq] using h
  | .draw e,h=> dn nv e h
  | .neg e,h=> dn nv e h
  | .not e,h=> dn nv e h
  | .bin _ a b,h=> by simp only [ew,Bool.and_eq_true] at h;exact ⟨dn nv a h.1,dn nv b h.2⟩
  | .and a b,h=> by simp only [ew,Bool.and_eq_true] at h;exact ⟨dn nv a h.1,dn nv b h.2⟩
  | .or a b,h=> by simp only [ew,Bool.and_eq_true] at h;exact ⟨dn nv a h.1,dn nv b h.2⟩
mutual
theorem wF (nv:Nat): ∀ s,kK nv s=true→eW nv s
  | .assign i e,h=> by simp only [kK,Bool.and_eq_true,decide_eq_true_eq] at h;exact ⟨h.1,dn nv e h.2⟩
  | .send t k a b,h=> by simp only [kK,Bool.and_eq_true,decide_eq_true_eq] at h;exact ⟨h.1.1.1,dn nv t h.1.1.2,dn nv a h.1.2,dn nv b h.2⟩
  | .timer k,h=> by simpa [kK,eW] using h
  | .cancel k,h=> by simpa [kK,eW] using h
  | .sync,_=> by simp [eW]
  | .stop,_=> by simp [eW]
  | .reply a b,h=> by simp only [kK,Bool.and_eq_true] at h;exact ⟨dn nv a h.1,dn nv b h.2⟩
  | .fail e,h=> by simp only [kK] at h;exact dn nv e h
  | .loop c b,h=> by simp only [kK,Bool.and_eq_true] at h;exact ⟨dn nv c h.1,jW nv b h.2⟩
  | .ite c a b,h=> by simp only [kK,Bool.and_eq_true] at h;exact ⟨dn nv c h.1.1,jW nv a h.1.2,jW nv b h.2⟩
theorem jW (nv:Nat): ∀ b,oH nv b=true→ie nv b
  | .nil,_=> by simp [ie]
  | .cons s b,h=> by simp only [oH,Bool.and_eq_true] at h;exact ⟨wF nv s h.1,jW nv b h.2⟩
end
structure Jk (l:List (Nat×Bk)) (nv:Nat):Prop where
  ok: ∀ p∈l,ie nv p.2
  wl: ∀ p∈l,oa p.2=true
  n:(bS l 0).length≤400
  h: ∀ p∈l,p.1 < 40
  nd:(l.map (·.1)).Nodup
  d: ∀ k∈kw l,k≤8
def srcB (l:List (Nat×Bk)) (nv:Nat):Bool:=l.all (fun p=> oH nv p.2 && oa p.2 && decide (p.1 < 40)) && decide ((bS l 0).length≤400) && decide (l.map (·.1)).Nodup && (kw l).all fun k=> decide (k≤8)
theorem Bt {l:List (Nat×Bk)} {nv:Nat} (h:srcB l nv=true):Jk l nv:=by
  simp only [srcB,Bool.and_eq_true,List.all_eq_true,decide_eq_true_eq] at h
  exact ⟨fun p hp=> jW nv _ (h.1.1.1 p hp).1.1,fun p hp=> (h.1.1.1 p hp).1.2,h.1.1.2,fun p hp=> (h.1.1.1 p hp).2,h.1.2,h.2⟩
theorem srcOkL:Jk onsL (Bb++Ad).length:=Bt ae
def qP (l:List (Nat×Bk)) (i:Nat):Nat:=(kw l).getD i 0
theorem mZ (l:List (Nat×Bk)):Fit (qP l) 0 (kw l):=fun k d h=> by
  unfold qP
  rw [Nat.zero_add,List.getD_eq_getElem?_getD,h];rfl
theorem Cw {l:List (Nat×Bk)} {nv dur:Nat} {names ans:List Int} (hn:nv≤16) (ho: ∀ p∈l,ie nv p.2) (hm: ∀ i,Rg (names.getD i 0)):PG ⟨bS l 0,dur,names,ans⟩ (qP l) nv:=
  ⟨uF (qP l) nv l 0 0 ((bS l 0).length - 1) ho (mZ l) (Nat.le_refl _) ab,hn,hm⟩
def oy (n k:Int):List eu:=[{ op:= .var },{ op:= .push,n:=n },{ op:= .lt },{ op:= .unl,n:=13 },{ op:= .push,n:=k },{ op:= .var },{ op:= .push,n:=5 },{ op:= .send,n:=7 },
  { op:= .var },{ op:= .push,n:=1 },{ op:= .add },{ op:= .setVar },{ op:= .jump },{ op:= .stop }]
def nW (i:Nat):Nat:=[0,1,2,1,0,1,2,3,0,1,2,1,0,0].getD i 0
theorem tS {n k:Int} (hn:Rg n) (hk:Rg k) {names ans:List Int} (hm: ∀ i,Rg (names.getD i 0)):PG ⟨oy n k,1,names,ans⟩ nW 1:=by
  refine ⟨fun i x hx=> ?_,by omega,hm⟩
  unfold oy at hx ⊢
  rw [Nat.zero_add]
  rcases i with _ | _ | _ | _ | _ | _ | _ | _ | _ | _ | _ | _ | _ | _ | i
  all_goals first | (simp at hx;done) | (simp only [List.getElem?_cons_zero,List.getElem?_cons_succ,Option.some.injEq] at hx;subst hx)
  all_goals refine ⟨?_,?_,fun j hj=> ?_⟩
  all_goals first | exact hn | exact hk | (simp [cT];done) | (simp [Opc.pops,nW];done) | (simp [dz] at hj;done) | (simp [dz] at hj;subst hj;simp [nW,Opc.pops,Opc.puts];done) | (simp [dz] at hj;rcases hj with rfl | rfl <;> simp [nW,Opc.pops,Opc.puts];done)

abbrev DS:=List Int×Bool×Bool
def ig (n:Nat) (d:Int) (s:DS) (j:Nat):DS:=
  if n≤j then s else if s.1.getD j (-1) < 0 then (s.1.set j d,s.2.1,true) else if s.1.getD j (-1)≠d then (s.1,false,s.2.2) else s
def cO (C:List eu) (i:Nat):eu:=C.getD i { op:= .stop }
def BG (C:List eu) (i:Nat) (s:DS):Int:=max (s.1.getD i (-1) - (cO C i).op.pops) 0+(cO C i).op.puts
def jE (C:List eu) (s:DS) (i:Nat):DS:=
  if s.1.getD i (-1) < 0 then s
  else (dz i (cO C i)).foldl (ig C.length (BG C i s)) (s.1,if s.1.getD i (-1) - (cO C i).op.pops < 0 then false else s.2.1,s.2.2)
def dj (C:List eu) (s:List Int×Bool) (k:Nat):DS:=(List.range k).foldl (jE C) (s.1,s.2,false)
theorem nF (C:List eu) (s:List Int×Bool) (k:Nat):dj C s (k+1)=jE C (dj C s k) k:=by simp [dj,List.range_succ,List.foldl_append]
def ij (C:List eu):Nat→List Int×Bool→List Int×Bool
  | 0,s=> s
  | f+1,s=> if (dj C s C.length).2.2=true then ij C f ((dj C s C.length).1,(dj C s C.length).2.1) else ((dj C s C.length).1,(dj C s C.length).2.1)
def neg (l:List Int):Nat:=l.countP fun x=> decide (x < 0)
theorem BQ {l:List Int} {j:Nat} {d:Int} (hj:j < l.length) (h:l.getD j (-1) < 0) (hd:0≤d):neg (l.set j d)+1=neg l:=by
  unfold neg
  have e:l=l.take j++l[j]::l.drop (j+1):=by rw [List.getElem_cons_drop hj,List.take_append_drop]
  have h':l[j] < 0:=by rwa [List.getD_eq_getElem?_getD,List.getElem?_eq_getElem hj] at h
  rw [List.set_eq_take_append_cons_drop,if_pos hj]
  conv=> rhs;rw [e]
  simp only [List.countP_append,List.countP_cons]
  rw [decide_eq_true h',decide_eq_false (show ¬ d < 0 by omega)]
  simp
  omega
structure DI (D:Nat→Nat) (n:Nat) (s:DS):Prop where
  len:s.1.length=n
  val: ∀ i,i < n→s.1.getD i (-1)= -1∨s.1.getD i (-1)=(D i:Int)
  ok:s.2.1=true
theorem iU {l:List Int} {j i:Nat} {d:Int}:(l.set j d).getD i (-1)=if i=j∧j < l.length then d else l.getD i (-1):=by
  simp only [List.getD_eq_getElem?_getD,List.getElem?_set]
  by_cases h:j=i
  · subst h
    by_cases h2:j < l.length
    · simp [h2]
    · simp [h2]
  · simp [h,Ne.symm h]
theorem BU {D:Nat→Nat} {n:Nat} {d:Int} {s:DS} {j:Nat} (h:DI D n s) (hd:d=(D j:Int)):DI D n (ig n d s j)∧neg (ig n d s j).1≤neg s.1∧((ig n d s j).2.2=true→s.2.2=true∨neg (ig n d s j).1 < neg s.1):=by
  unfold ig
  split
  · exact ⟨h,Nat.le_refl _,fun e=> .inl e⟩
  · rename_i hj
    split
    · rename_i hn
      have:=BQ (l:=s.1) (j:=j) (d:=d) (by rw [h.len];omega) hn ab
      refine ⟨⟨by rw [List.length_set];exact h.len,fun i hi=> ?_,h.ok⟩,by simp only;omega,fun _=> .inr (by simp only;omega)⟩
      simp only
      rw [iU]
      split
      · rename_i hc;rw [hc.1];exact .inr hd
      · exact h.val i hi
    · rename_i hn
      have hv:=h.val j ab
      have:s.1.getD j (-1)=d:=by rw [hd];rcases hv with hv | hv <;> omega
      rw [if_neg (fun hc=> hc this)]
      exact ⟨h,Nat.le_refl _,fun e=> .inl e⟩
theorem lB {D:Nat→Nat} {n:Nat} {d:Int}: ∀ (l:List Nat) {s:DS},DI D n s→(∀ j∈l,d=(D j:Int))→DI D n (l.foldl (ig n d) s)∧neg (l.foldl (ig n d) s).1≤neg s.1∧((l.foldl (ig n d) s).2.2=true→s.2.2=true∨neg (l.foldl (ig n d) s).1 < neg s.1)
  | [],s,h,_=> ⟨h,Nat.le_refl _,fun e=> .inl e⟩
  | j::l,s,h,hd=> by
    obtain ⟨a1,a2,a3⟩:=BU h (hd j (by simp))
    obtain ⟨b1,b2,b3⟩:=lB l a1 fun j hj=> hd j (by simp [hj])
    simp only [List.foldl_cons]
    refine ⟨b1,by omega,fun e=> ?_⟩
    rcases b3 e with e | e
    · rcases a3 e with e | e
      · exact .inl e
      · exact .inr ab
    · exact .inr ab
section
variable {D:Nat→Nat} {nv:Nat} {C:List eu} (hC:Good D nv 0 (C.length - 1) 0 C)
include hC
theorem xS {s:DS} {i:Nat} (hi:i < C.length) (h:DI D C.length s):DI D C.length (jE C s i)∧neg (jE C s i).1≤neg s.1∧((jE C s i).2.2=true→s.2.2=true∨neg (jE C s i).1 < neg s.1):=by
  unfold jE
  split
  · exact ⟨h,Nat.le_refl _,fun e=> .inl e⟩
  · rename_i hn
    have hx:C[i]? =some (cO C i):=by unfold cO;rw [List.getD_eq_getElem?_getD,List.getElem?_eq_getElem hi];rfl
    obtain ⟨_,g2,g3⟩:=hC i _ hx
    rw [Nat.zero_add] at g2 g3
    have hv:s.1.getD i (-1)=(D i:Int):=by rcases h.val i hi with hv | hv <;> omega
    have hdo:BG C i s=((D i - (cO C i).op.pops+(cO C i).op.puts:Nat):Int):=by unfold BG;rw [hv];omega
    rw [if_neg (by rw [hv];omega)]
    exact lB _ ⟨h.len,h.val,h.ok⟩ fun j hj=> by rw [hdo,(g3 j hj).2.2]
theorem jJ {s:List Int×Bool} (h:DI D C.length (s.1,s.2,false)): ∀ k,k≤C.length→DI D C.length (dj C s k)∧neg (dj C s k).1≤neg s.1∧((dj C s k).2.2=true→neg (dj C s k).1 < neg s.1)
  | 0,_=> ⟨h,Nat.le_refl _,fun e=> by simp [dj] at e⟩
  | k+1,hk=> by
    obtain ⟨a1,a2,a3⟩:=jJ h k ab
    obtain ⟨b1,b2,b3⟩:=xS hC ab a1 (i:=k)
    rw [nF]
    refine ⟨b1,by omega,fun e=> ?_⟩
    rcases b3 e with e | e
    · have:=a3 e;omega
    · omega
theorem rW: ∀ f (s:List Int×Bool),DI D C.length (s.1,s.2,false)→DI D C.length ((ij C f s).1,(ij C f s).2,false)
  | 0,s,h=> h
  | f+1,s,h=> by
    obtain ⟨a1,_,_⟩:=jJ hC h C.length (Nat.le_refl _)
    unfold ij
    split
    · exact rW f _ ⟨a1.len,a1.val,a1.ok⟩
    · exact ⟨a1.len,a1.val,a1.ok⟩
end
theorem sV {C:List eu} {f:Nat} {s:List Int×Bool} (h:(dj C s C.length).2.2=true):ij C (f+1) s=ij C f ((dj C s C.length).1,(dj C s C.length).2.1):=by rw [ij,if_pos h]
theorem tn {C:List eu} {f:Nat} {s:List Int×Bool} (h:(dj C s C.length).2.2=false):ij C (f+1) s=((dj C s C.length).1,(dj C s C.length).2.1):=by rw [ij,if_neg (by simp [h])]
def hQ (C:List eu) (e:Int):List Int×Bool:=if e < 0∨(C.length:Int)≤e then (List.replicate C.length (-1),true) else ij C (C.length+1) ((List.replicate C.length (-1)).set e.toNat 0,true)
theorem nA {D:Nat→Nat} {nv:Nat} {C:List eu} (hC:Good D nv 0 (C.length - 1) 0 C) {e:Int} (he:0≤e→e < C.length→D e.toNat=0):DI D C.length ((hQ C e).1,(hQ C e).2,false):=by
  have hr: ∀ i,(List.replicate C.length (-1:Int)).getD i (-1)= -1:=fun i=> by rw [List.getD_eq_getElem?_getD,List.getElem?_replicate];split <;> rfl
  unfold hQ
  split
  · exact ⟨by simp,fun i _=> .inl (hr i),rfl⟩
  · refine rW hC _ _ ⟨by simp,fun i hi=> ?_,rfl⟩
    simp only
    rw [iU]
    split
    · rename_i hc
      right
      rw [hc.1,he ab ab];rfl
    · exact .inl (hr i)
def jt (C:List eu) (out:List Int) (k:Nat):Int:=(List.range k).foldl (fun m i=> if 0≤out.getD i (-1) then max (max m (out.getD i (-1))) (out.getD i (-1) - (cO C i).op.pops+(cO C i).op.puts) else m) 0
theorem oK (C:List eu) (out:List Int) (k:Nat):jt C out (k+1)=if 0≤out.getD k (-1) then max (max (jt C out k) (out.getD k (-1))) (out.getD k (-1) - (cO C k).op.pops+(cO C k).op.puts) else jt C out k:=by simp [jt,List.range_succ,List.foldl_append]
theorem Bp (o:Opc):o.puts≤1:=by cases o <;> decide
theorem lG {C:List eu} {out:List Int} {D:Nat→Nat} {n:Nat} {ok ch:Bool} (h:DI D n (out,ok,ch)) {B:Nat} (hB: ∀ i,i < n→D i≤B): ∀ k,k≤n→0≤jt C out k∧jt C out k≤B+1
  | 0,_=> by simp [jt];omega
  | k+1,hk=> by
    obtain ⟨h1,h2⟩:=lG (C:=C) h hB k ab
    have h3:=hB k ab
    have h4:out.getD k (-1)= -1∨out.getD k (-1)=(D k:Int):=h.val k ab
    have h5:=Bp (cO C k).op
    have h6:=oK C out k
    rw [h6]
    rcases h4 with h4 | h4 <;> rw [h4] <;> split <;> omega
def lk (l:List (Nat×Nat)):List Int:=l.foldl (fun m p=> m.set p.1 (p.2:Int)) (List.replicate 40 (-1))
theorem yb (l:List (Nat×Nat)):(lk l).length=40:=by
  unfold lk
  have: ∀ (l:List (Nat×Nat)) (m:List Int),m.length=40→(l.foldl (fun m p=> m.set p.1 (p.2:Int)) m).length=40:=by
    intro l
    induction l with
    | nil=> exact fun m h=> h
    | cons p l ih=> exact fun m h=> ih _ (by rw [List.length_set];exact h)
  exact this l _ (by simp)
theorem zc: ∀ (l:List (Nat×Nat)) (h:Nat),(lk l).getD h (-1)= -1∨ ∃ e,(h,e)∈l∧(lk l).getD h (-1)=(e:Int):=by
  unfold lk
  have key: ∀ (l:List (Nat×Nat)) (m:List Int) (h:Nat),(l.foldl (fun m p=> m.set p.1 (p.2:Int)) m).getD h (-1)=m.getD h (-1)∨ ∃ e,(h,e)∈l∧(l.foldl (fun m p=> m.set p.1 (p.2:Int)) m).getD h (-1)=(e:Int):=by
    intro l
    induction l with
    | nil=> exact fun m h=> .inl rfl
    | cons p l ih=>
      intro m h
      simp only [List.foldl_cons]
      rcases ih (m.set p.1 (p.2:Int)) h with e | ⟨e,h1,h2⟩
      · rw [e,iU]
        split
        · rename_i hc
          exact .inr ⟨p.2,by rw [hc.1];exact List.mem_cons_self,rfl⟩
        · exact .inl rfl
      · exact .inr ⟨e,List.mem_cons_of_mem _ h1,h2⟩
  intro l h
  rcases key l (List.replicate 40 (-1)) h with e | e
  · left
    rw [e,List.getD_eq_getElem?_getD,List.getElem?_replicate]
    split <;> rfl
  · exact .inr e
def ia (l:List (Nat×Bk)):Bool:=decide ((bS l 0).length≤400) && (List.range 40).all fun h=> decide (jt (bS l 0) (hQ (bS l 0) ((lk (iJ l 0)).getD h (-1))).1 (bS l 0).length≤16)
theorem tw (l:List (Nat×Bk)) (h:Nat):(lk (iJ l 0)).getD h (-1)= -1∨ ∃ e:Nat,(h,e)∈iJ l 0∧(lk (iJ l 0)).getD h (-1)=(e:Int)∧e < (bS l 0).length∧qP l e=0:=by
  rcases zc (iJ l 0) h with e | ⟨e,h1,h2⟩
  · exact .inl e
  · obtain ⟨_,h4,h5⟩:=uq (mZ l) h1
    exact .inr ⟨e,h1,h2,by omega,h5⟩
theorem vB {l:List (Nat×Bk)} {nv:Nat} (hs:Jk l nv):ia l=true:=by
  unfold ia
  rw [Bool.and_eq_true,decide_eq_true_eq,List.all_eq_true]
  refine ⟨hs.n,fun h _=> ?_⟩
  rw [decide_eq_true_eq]
  have hg:=uF (qP l) nv l 0 0 ((bS l 0).length - 1) hs.ok (mZ l) (Nat.le_refl _) ab
  have hd:=nA hg (e:=(lk (iJ l 0)).getD h (-1)) (fun h1 h2=> by
    rcases tw l h with e | ⟨e,_,e2,_,e4⟩
    · omega
    · rw [e2];exact e4)
  have hB: ∀ i,i < (bS l 0).length→qP l i≤8:=fun i hi=> by
    unfold qP
    rw [← nD l 0] at hi
    rw [List.getD_eq_getElem?_getD,List.getElem?_eq_getElem hi]
    exact hs.d _ (List.getElem_mem hi)
  have:=(lG (C:=bS l 0) hd hB _ (Nat.le_refl _)).2
  omega

theorem ml {α β:Type} (f:α→List β) (c:Nat) (hf: ∀ a,(f a).length=c): ∀ l:List α,(l.flatMap f).length=l.length*c
 | []=> by simp
 | a::l=> by rw [List.flatMap_cons,List.length_append,hf,ml f c hf l,List.length_cons,Nat.succ_mul];omega
theorem nk {α β:Type} (f:α→List β) (c:Nat) (hf: ∀ a,(f a).length=c): ∀ (l:List α) (k:Nat),(l.flatMap f).drop (k*c)=(l.drop k).flatMap f
 | l,0=> by simp
 | [],k+1=> by simp
 | a::l,k+1=> by
  rw [List.flatMap_cons,List.drop_succ_cons,← nk f c hf l k,List.drop_append,List.drop_eq_nil_of_le (by rw [hf,Nat.succ_mul];omega),List.nil_append,hf]
  congr 1;rw [Nat.succ_mul];omega
theorem oo {α β:Type} (f:α→List β) (c:Nat) (hf: ∀ a,(f a).length=c) (l:List α) (k:Nat) (h:k < l.length):((l.flatMap f).drop (k*c)).take c=f l[k]:=by
 rw [nk f c hf,List.drop_eq_getElem_cons h,List.flatMap_cons,List.take_append_of_le_length (by rw [hf];exact Nat.le_refl _),List.take_of_length_le (by rw [hf];exact Nat.le_refl _)]
theorem nS {α β:Type} (f:α→List β) (c:Nat) (hf: ∀ a,(f a).length=c) (l:List α) (k j:Nat) (h:k < l.length) (hj:j < c):(l.flatMap f)[k*c+j]? =(f l[k])[j]? :=by
 rw [← oo f c hf l k h,List.getElem?_take_of_lt hj,List.getElem?_drop]
theorem lE {α β:Type} (f:α→List β) (l:List α) (a:α):l.flatMap f++f a=(l++[a]).flatMap f:=by simp
theorem xw {α β:Type} (f:α→List β) (l m:List α):l.flatMap f++m.flatMap f=(l++m).flatMap f:=by simp

def dT (l:List Tx):List PV:=l.map fun t=> .v (bt t)
@[simp] theorem bC (l:List Tx):(dT l).length=l.length:=by simp [dT]
theorem fx (l:List Tx) (k:Nat) (h:k < l.length):(dT l)[k]? =some (.v (bt (l.getD k []))):=by simp [dT,h]
theorem oh (a b:List Tx):dT a++dT b=dT (a++b):=by simp [dT]
theorem ls (a:List Tx) (t:Tx):dT a++[.v (bt t)]=dT (a++[t]):=by simp [dT]
theorem iO {l:List Tx} {k:Nat} (h:k < l.length):l.getD k []∈l:=by
 rw [List.getD_eq_getElem?_getD,List.getElem?_eq_getElem h];exact List.getElem_mem h
theorem jc {α:Type} {l:List α} {k:Nat} {x d:α} (h:x∉l.take k) (hk:k < l.length) (hx:l.getD k d≠x):x∉l.take (k+1):=by
 rw [List.take_succ_eq_append_getElem hk,List.mem_append,List.mem_singleton]
 rintro (h' | h')
 ·exact h h'
 ·exact hx (by rw [List.getD_eq_getElem?_getD,List.getElem?_eq_getElem hk,h'];rfl)

def Cy (t:Tk):List PV:=[.v (.int .i64 (t.k:Int)), .v (.int .i64 (t.a:Int)), .v (bt t.t), .v (.int .i64 (t.n:Int))]
def pY (l:List Tk):List PV:=l.flatMap Cy
theorem bz (l:List Tk):(pY l).length=l.length*4:=ml Cy 4 (fun _=> rfl) l
theorem sX (l:List Tk) (k:Nat) (h:k < l.length):cX l k=l[k]:=by simp [cX,h]
theorem nU (l:List Tk) (k:Nat) (h:k < l.length):(pY l)[k*4]? =some (.v (.int .i64 ((cX l k).k:Int))):=by
 rw [sX l k h];exact nS Cy 4 (fun _=> rfl) l k 0 h ab
theorem lV (l:List Tk) (k:Nat) (h:k < l.length):(pY l)[k*4+2]? =some (.v (bt (cX l k).t)):=by
 rw [sX l k h];exact nS Cy 4 (fun _=> rfl) l k 2 h ab
theorem lU (l:List Tk) (k:Nat) (h:k < l.length):PV.ups (((pY l).drop (k*4)).take 4)=[.v (.int .i64 ((cX l k).k:Int)), .v (.int .i64 ((cX l k).a:Int)), .v (bt (cX l k).t), .v (.int .i64 ((cX l k).n:Int))]:=by
 rw [sX l k h,show ((pY l).drop (k*4)).take 4=Cy l[k] from oo Cy 4 (fun _=> rfl) l k h];rfl
theorem qX (l:List Tk) (t:Tk):pY l++Cy t=pY (l++[t]):=lE Cy l t

theorem fu {s:Tx} {a:Nat} {b:UInt8} (h:s[a]? =some b):s.drop a=b::s.drop (a+1):=by
 obtain ⟨hl,rfl⟩:=List.getElem?_eq_some_iff.1 h
 exact List.drop_eq_getElem_cons hl
theorem jb {s:Tx} {a:Nat} (h:a < s.length): ∃ b,s[a]? =some b:=⟨_,List.getElem?_eq_getElem h⟩
theorem Md (b:UInt8):0≤(b.toNat:Int)∧(b.toNat:Int) < 256:=⟨by omega,by have:=b.toNat_lt;omega⟩
def jv (s:Tx) (a:Nat) (c:Bool):Nat:=a+qO (s.drop a) c
theorem qN {s:Tx} {a:Nat} (h:s.length≤a) (c:Bool):jv s a c=a:=by
 unfold jv;rw [List.drop_eq_nil_of_le h];unfold qO;rfl
theorem Eb {s:Tx} {a:Nat} {b:UInt8} (h:s[a]? =some b) (hb:b.toNat=10):jv s a true=jv s a false:=by
 unfold jv;rw [fu h];simp [qO,hb]
theorem DG {s:Tx} {a:Nat} {b:UInt8} (h:s[a]? =some b) (hb:b.toNat≠10):jv s a true=jv s (a+1) true:=by
 unfold jv;rw [fu h];simp [qO,hb];omega
theorem wV {s:Tx} {a:Nat} {b:UInt8} (h:s[a]? =some b) (hb:b.toNat=35):jv s a false=jv s a true:=by
 unfold jv;rw [fu h];simp [qO,hb]
theorem sP {s:Tx} {a:Nat} {b:UInt8} (h:s[a]? =some b) (h0:b.toNat≠35) (hb:b.toNat=32∨b.toNat=9∨b.toNat=10):jv s a false=jv s (a+1) false:=by
 unfold jv;rw [fu h,qO,if_neg h0,if_pos hb];omega
theorem Bl {s:Tx} {a:Nat} {b:UInt8} (h:s[a]? =some b) (h0:b.toNat≠35) (hb: ¬ (b.toNat=32∨b.toNat=9∨b.toNat=10)):jv s a false=a:=by
 unfold jv;rw [fu h,qO,if_neg h0,if_neg hb];rfl
theorem mo: ∀ (l:Tx) (c:Bool),qO l c≤l.length
 | [],c=> by unfold qO;exact Nat.le_refl _
 | x::l,true=> by have h1:=mo l true;have h2:=mo l false;unfold qO;split <;> simp only [List.length_cons] <;> omega
 | x::l,false=> by have h1:=mo l true;have h2:=mo l false;unfold qO;split <;> (try split) <;> simp only [List.length_cons] <;> omega
theorem tv {s:Tx} {a:Nat} (h:a≤s.length) (c:Bool):a≤jv s a c∧jv s a c≤s.length:=by
 have:=mo (s.drop a) c
 rw [List.length_drop] at this
 unfold jv;omega
def jU (p:UInt8→Bool) (s:Tx) (a:Nat):Nat:=a+((s.drop a).takeWhile p).length
theorem tV {p:UInt8→Bool} {s:Tx} {a:Nat} (h:s.length≤a):jU p s a=a:=by
 unfold jU;rw [List.drop_eq_nil_of_le h];rfl
theorem qa {p:UInt8→Bool} {s:Tx} {a:Nat} {b:UInt8} (h:s[a]? =some b) (hb:p b=true):jU p s a=jU p s (a+1):=by
 unfold jU;rw [fu h,List.takeWhile_cons,if_pos hb,List.length_cons];omega
theorem wP {p:UInt8→Bool} {s:Tx} {a:Nat} {b:UInt8} (h:s[a]? =some b) (hb:p b=false):jU p s a=a:=by
 unfold jU;rw [fu h,List.takeWhile_cons,if_neg (by simp [hb])];rfl
theorem qe {p:UInt8→Bool} {s:Tx} {a:Nat} (h:a≤s.length):a≤jU p s a∧jU p s a≤s.length:=by
 have:((s.drop a).takeWhile p).length≤(s.drop a).length:=(List.takeWhile_prefix p).length_le
 rw [List.length_drop] at this
 unfold jU;omega
theorem qS {p:UInt8→Bool} {s:Tx} {a:Nat} {b:UInt8} (h:s[a]? =some b):(s.drop a).take (jU p s (a+1) - a)=b::(s.drop (a+1)).takeWhile p:=by
 rw [fu h,show jU p s (a+1) - a=((s.drop (a+1)).takeWhile p).length+1 by unfold jU;omega,List.take_succ_cons]
 congr 1
 obtain ⟨t,ht⟩:=List.takeWhile_prefix p (l:=s.drop (a+1))
 conv=> lhs;arg 2;rw [← ht]
 rw [List.take_append_of_le_length (Nat.le_refl _),List.take_length]
theorem pT (l:Tx) (b:UInt8):jz (l++[b])=10*jz l+(b.toNat - 48):=by unfold jz;rw [List.foldl_append];rfl
theorem BK (l m:Tx):jz l≤jz (l++m):=by
 induction m generalizing l with
 | nil=> simp
 | cons b m ih=>
  have:=ih (l++[b])
  rw [pT,List.append_assoc] at this
  simp only [List.cons_append,List.nil_append] at this
  omega
theorem vE (l:Tx) (i:Nat):jz (l.take i)≤jz l:=by
 have:=BK (l.take i) (l.drop i)
 rwa [List.take_append_drop] at this
theorem uN {l:Tx} {i:Nat} {b:UInt8} (h:l[i]? =some b):jz (l.take (i+1))=10*jz (l.take i)+(b.toNat - 48):=by
 obtain ⟨hl,rfl⟩:=List.getElem?_eq_some_iff.1 h
 rw [List.take_succ_eq_append_getElem hl,pT]
theorem zw (b:UInt8):lx b=true↔97≤(b.toNat:Int)∧(b.toNat:Int)≤122:=by
 unfold lx;rw [Bool.and_eq_true,Nat.ble_eq,Nat.ble_eq];omega
theorem rR (b:UInt8):fJ b=true↔48≤(b.toNat:Int)∧(b.toNat:Int)≤57:=by
 unfold fJ;rw [Bool.and_eq_true,Nat.ble_eq,Nat.ble_eq];omega
theorem Cn {b:Bool} {p:Prop} (h:b=true↔p) (hn: ¬ p):b=false:=by
 cases b with
 | false=> rfl
 | true=> exact absurd (h.1 rfl) hn
def inr (x:eu):List PV:=[.v (.int .i64 (x.op.num:Int)), .v (.int .i64 x.n)]
def inl (l:List eu):List PV:=l.flatMap inr
theorem bM (l:List eu):(inl l).length=l.length*2:=ml inr 2 (fun _=> rfl) l
theorem lQ (l:List eu) (k:Nat) (h:k < l.length):(inl l)[k*2]? =some (.v (.int .i64 ((cO l k).op.num:Int))):=by
 rw [show cO l k=l[k] by simp [cO,h]];exact nS inr 2 (fun _=> rfl) l k 0 h ab
theorem xi (l:List eu) (k:Nat) (h:k < l.length):(inl l)[k*2+1]? =some (.v (.int .i64 (cO l k).n)):=by
 rw [show cO l k=l[k] by simp [cO,h]];exact nS inr 2 (fun _=> rfl) l k 1 h ab
theorem yA (l:List eu) (k:Nat) (h:k < l.length):PV.ups (((inl l).drop (k*2)).take 2)=[.v (.int .i64 ((cO l k).op.num:Int)), .v (.int .i64 (cO l k).n)]:=by
 rw [show cO l k=l[k] by simp [cO,h],show ((inl l).drop (k*2)).take 2=inr l[k] from oo inr 2 (fun _=> rfl) l k h];rfl
theorem ey (l:List eu) (x:eu):inl l++inr x=inl (l++[x]):=lE inr l x
theorem kj (l m:List eu):inl l++inl m=inl (l++m):=xw inr l m
def EE (x:Ac):List PV:=[.v (.int .i64 x.k), .v (.int .i64 x.a), .v (.int .i64 x.b), .v (.int .i64 x.c), .v (.int .i64 x.d)]
def vJ (l:List Ac):List PV:=l.flatMap EE
def sD (l:List Ac) (k:Nat):Ac:=l.getD k { k:=0 }
theorem gn (l:List Ac):(vJ l).length=l.length*5:=ml EE 5 (fun _=> rfl) l
theorem sq (l:List Ac) (k:Nat) (h:k < l.length):PV.ups (((vJ l).drop (k*5)).take 5)=[.v (.int .i64 (sD l k).k), .v (.int .i64 (sD l k).a), .v (.int .i64 (sD l k).b), .v (.int .i64 (sD l k).c), .v (.int .i64 (sD l k).d)]:=by
 rw [show sD l k=l[k] by simp [sD,h],show ((vJ l).drop (k*5)).take 5=EE l[k] from oo EE 5 (fun _=> rfl) l k h];rfl
theorem yS (l:List Ac) (x:Ac):vJ l++EE x=vJ (l++[x]):=lE EE l x
end Go.Proofs.YtmjnackchaahbaaGreat

namespace Go.Proofs.YtmjnackchaahbaaGreat
abbrev GC:List Value:=[.int .i64 0, .int .i64 0, .int .i64 0, .int .i64 0, .int .i64 0, .int .i64 0, .int .i64 0, .int .i64 0, .int .i64 0, .int .i64 0, .int .i64 0, .int .i64 0, .int .i64 0, .int .i64 0, .int .i64 0, .int .i64 0, .int .i64 0, .int .i64 0, .int .i64 0, .int .i64 0, .int .i64 0, .int .i64 0, .int .i64 0, .int .i64 0, .int .i64 0, .int .i64 0, .int .i64 0, .int .i64 0, .int .i64 0, .int .i64 0, .int .i64 0, .int .i64 0, .int .i64 0, .int .i64 0, .int .i64 0, .int .i64 0, .int .i64 0, .int .i64 0, .int .i64 0, .int .i64 0]
abbrev Cs:List Value:=[.slice none 0 0, .int .i64 0, .int .i64 0, .int .i64 0, .int .i64 0, .int .i64 0, .int .i64 0, .int .i64 0, .int .i64 0, .int .i64 0, .int .i64 0, .int .i64 0, .int .i64 0, .int .i64 0, .int .i64 0, .int .i64 0, .int .i64 0, .int .i64 0, .int .i64 0, .int .i64 0, .int .i64 0, .int .i64 0, .int .i64 0, .int .i64 0, .int .i64 0, .int .i64 0, .int .i64 0, .int .i64 0, .int .i64 0, .int .i64 0, .int .i64 0, .int .i64 0, .int .i64 0, .int .i64 0, .int .i64 0, .int .i64 0, .int .i64 0, .int .i64 0, .int .i64 0, .int .i64 0, .int .i64 0, .int .i64 0, .int .i64 0]
abbrev ur:List Value:=[.int .i64 0, .int .i64 0, .int .i64 0, .int .i64 0, .int .i64 0, .int .i64 0, .int .i64 0, .int .i64 0, .int .i64 0]
abbrev Cm:List Value:=[.slice none 0 0, .slice none 0 0, .int .i64 0, .bool false, .slice none 0 0]
abbrev Cj:List Value:=[.slice none 0 0, .slice none 0 0, .int .i64 0, .bool false, .slice none 0 0, .slice none 0 0]
abbrev mJ:List Value:=[.int .i64 0, .int .i64 0, .int .i64 0, .int .i64 0, .int .i64 0]
abbrev EC:List Value:=[.slice none 0 0, .slice none 0 0, .slice none 0 0]
abbrev Cv:List Value:=[.int .i64 0, .int .i64 0, .string ByteArray.empty, .slice none 0 0]
abbrev Cq:List Value:=[.int .i64 0, .int .i64 0, .int .i64 0, .string ByteArray.empty, .slice none 0 0]
abbrev GK:List Value:=[.int .i64 0, .int .i64 0, .int .i64 0, .int .i64 0, .int .i64 0, .int .i64 0, .int .i64 0, .int .i64 0, .int .i64 0, .int .i64 0, .int .i64 0, .int .i64 0, .int .i64 0, .int .i64 0, .int .i64 0, .int .i64 0, .int .i64 0, .int .i64 0, .int .i64 0, .int .i64 0, .int .i64 0, .int .i64 0, .int .i64 0, .int .i64 0, .int .i64 0, .int .i64 0, .int .i64 0, .int .i64 0, .int .i64 0, .int .i64 0, .int .i64 0, .int .i64 0, .int .i64 0, .int .i64 0, .int .i64 0, .int .i64 0, .int .i64 0, .int .i64 0, .int .i64 0, .int .i64 0, .int .i64 0]
abbrev uV:List Value:=[.bool false, .int .i64 0, .int .i64 0, .int .i64 0, .slice none 0 0, .slice none 0 0, .slice none 0 0, .slice none 0 0, .int .i64 0, .int .i64 0, .int .i64 0, .int .i64 0, .int .i64 0, .int .i64 0, .int .i64 0, .int .i64 0, .int .i64 0, .int .i64 0, .int .i64 0, .int .i64 0, .int .i64 0, .int .i64 0, .int .i64 0, .int .i64 0, .int .i64 0, .int .i64 0, .int .i64 0, .int .i64 0, .int .i64 0, .int .i64 0, .int .i64 0, .int .i64 0, .int .i64 0, .int .i64 0, .int .i64 0, .int .i64 0, .int .i64 0, .int .i64 0, .int .i64 0, .int .i64 0, .int .i64 0, .int .i64 0, .int .i64 0, .int .i64 0, .int .i64 0, .int .i64 0, .int .i64 0, .int .i64 0, .int .i64 0, .int .i64 0, .int .i64 0, .int .i64 0]
abbrev vC:List Value:=[.int .i64 0, .int .i64 0, .int .i64 0, .int .i64 0, .int .i64 0, .int .i64 0, .int .i64 0, .int .i64 0, .int .i64 0, .int .i64 0, .int .i64 0, .int .i64 0, .int .i64 0, .slice none 0 0, .slice none 0 0]
abbrev wu:List Value:=[.int .i64 0, .int .i64 0, .int .i64 0]
abbrev vS:List Value:=[.int .i64 0, .int .i64 0, .int .i64 0, .slice none 0 0, .bool false, .int .i64 0, .slice none 0 0, .slice none 0 0, .slice none 0 0, .int .i64 0, .bool false, .slice none 0 0]
abbrev rT:List Value:=[.int .i64 0, .int .i64 0, .int .i64 0, .slice none 0 0, .slice none 0 0]
abbrev oY:List Value:=[.int .i64 0, .int .i64 0, .int .i64 0, .int .i64 0, .int .i64 0, .int .i64 0, .int .i64 0]
abbrev vT:List Value:=[.slice none 0 0, .slice none 0 0, .bool false]
abbrev vb:List Value:=[.slice none 0 0, .int .i64 0, .int .i64 0, .int .i64 0, .int .i64 0, .int .i64 0, .int .i64 0, .int .i64 0, .int .i64 0, .int .i64 0]
abbrev vY:List Value:=[.slice none 0 0, .slice none 0 0, .slice none 0 0, .slice none 0 0]
abbrev vZ:List Value:=[.slice none 0 0, .int .i64 0, .int .i64 0, .int .i64 0, .int .i64 0, .int .i64 0, .int .i64 0, .int .i64 0, .int .i64 0, .int .i64 0, .int .i64 0, .int .i64 0, .int .i64 0, .int .i64 0, .int .i64 0, .int .i64 0, .int .i64 0, .int .i64 0, .int .i64 0, .int .i64 0, .int .i64 0, .int .i64 0, .int .i64 0, .int .i64 0, .int .i64 0, .int .i64 0, .int .i64 0, .int .i64 0, .int .i64 0, .int .i64 0, .int .i64 0, .int .i64 0, .int .i64 0, .int .i64 0, .int .i64 0, .int .i64 0, .int .i64 0, .int .i64 0, .int .i64 0, .int .i64 0, .int .i64 0, .int .i64 0, .int .i64 0, .slice none 0 0, .int .i64 0, .int .i64 0, .int .i64 0, .int .i64 0, .int .i64 0, .int .i64 0, .int .i64 0, .int .i64 0, .int .i64 0, .nilFunc, .slice none 0 0, .slice none 0 0, .int .i64 0, .bool false, .slice none 0 0, .slice none 0 0, .int .i64 0, .int .i64 0, .int .i64 0, .bool false]
abbrev BB:List Value:=[.nilFunc, .nilFunc, .nilFunc, .nilFunc, .nilFunc, .nilFunc, .nilFunc, .nilFunc, .nilFunc, .nilFunc, .nilFunc, .nilFunc, .nilFunc, .nilFunc, .nilFunc, .nilFunc, .nilFunc, .nilFunc, .nilFunc, .nilFunc, .nilFunc, .nilFunc, .nilFunc, .nilFunc]
abbrev vN:List Value:=[.int .i64 0, .int .i64 0, .int .i64 0, .int .i64 0]
abbrev sc:List Value:=[.int .i64 0, .int .i64 0, .int .i64 0, .int .i64 0, .int .i64 0, .int .i64 0]
abbrev vy:List Value:=[.slice none 0 0, .int .i64 0, .int .i64 0, .int .i64 0, .slice none 0 0]
abbrev rB:List Value:=[.int .i64 0, .int .i64 0, .string ByteArray.empty, .int .i64 0]
abbrev Ba:List Value:=[.bool false, .int .i64 0, .int .i64 0, .int .i64 0, .slice none 0 0, .slice none 0 0, .slice none 0 0, .slice none 0 0, .int .i64 0, .int .i64 0, .int .i64 0, .int .i64 0, .int .i64 0, .int .i64 0, .int .i64 0, .int .i64 0, .int .i64 0, .int .i64 0, .int .i64 0, .int .i64 0, .int .i64 0, .int .i64 0, .int .i64 0, .int .i64 0, .int .i64 0, .int .i64 0, .int .i64 0, .int .i64 0, .int .i64 0, .int .i64 0, .int .i64 0, .int .i64 0, .int .i64 0, .int .i64 0, .int .i64 0, .int .i64 0, .int .i64 0, .int .i64 0, .int .i64 0, .int .i64 0, .int .i64 0, .int .i64 0, .int .i64 0, .int .i64 0, .int .i64 0, .int .i64 0, .int .i64 0, .int .i64 0, .int .i64 0, .int .i64 0, .int .i64 0, .int .i64 0, .slice none 0 0, .slice none 0 0, .bool false, .int .i64 0, .slice none 0 0, .int .i64 0, .int .i64 0, .int .i64 0, .slice none 0 0, .slice none 0 0, .int .i64 0, .bool false, .slice none 0 0, .slice none 0 0, .slice none 0 0]
abbrev Gd:List Value:=[.int .u64 0, .int .u64 0, .int .u32 0, .int .u8 0, .int .u8 0, .int .u8 0, .int .u8 0, .nilFunc, .pointer none, .int .i32 0, .int .i32 0]

instance wB:Ty Tryz.prog 1 false [.nilFunc]:=Ty.of (bytes:=8) (.nilFunc) Tryz.underlying1 rfl ae rfl (by simp [Value.oneCell'])
instance wz:Ty Tryz.prog 2 false [.int .i64 0]:=Ty.of (bytes:=8) (.int .i64 0) Tryz.underlying2 rfl ae rfl (by simp [Value.oneCell'])
instance eU:Ty Tryz.prog 3 false [.int .i64 0]:=Ty.of (bytes:=8) (.int .i64 0) Tryz.underlying3 rfl ae rfl (by simp [Value.oneCell'])
instance Ct:Ty Tryz.prog 4 false [.bool false]:=Ty.of (bytes:=1) (.bool false) Tryz.underlying4 rfl ae rfl (by simp [Value.oneCell'])
instance Ui:Ty Tryz.prog 5 false [.int .u8 0]:=Ty.of (bytes:=1) (.int .u8 0) Tryz.underlying5 rfl ae rfl (by simp [Value.oneCell'])
instance Qh:Ty Tryz.prog 9 false [.string ByteArray.empty]:=Ty.of (bytes:=16) (.string ByteArray.empty) Tryz.underlying9 rfl ae rfl (by simp [Value.oneCell'])
instance TW:Ty Tryz.prog 12 false [.int .u64 0]:=Ty.of (bytes:=8) (.int .u64 0) Tryz.underlying12 rfl ae rfl (by simp [Value.oneCell'])
instance iq:Ty Tryz.prog 22 false [.slice none 0 0]:=Ty.of (bytes:=24) (.slice none 0 0) Tryz.underlying22 rfl ae rfl (by simp [Value.oneCell'])
instance Fm:Ty Tryz.prog 23 false [.slice none 0 0]:=Ty.of (bytes:=24) (.slice none 0 0) Tryz.underlying23 rfl ae rfl (by simp [Value.oneCell'])
instance Lo:Ty Tryz.prog 24 true GC:=Ty.of (bytes:=320) (.agg (GC).toArray) Tryz.underlying24 rfl ae rfl (by simp [Value.oneCell'])
instance MB:Ty Tryz.prog 26 true Cs:=Ty.of (bytes:=360) (.agg (Cs).toArray) Tryz.underlying26 rfl ae rfl (by simp [Value.oneCell'])
instance FP:Ty Tryz.prog 30 true ur:=Ty.of (bytes:=72) (.agg (ur).toArray) Tryz.underlying30 rfl ae rfl (by simp [Value.oneCell'])
instance AG:Ty Tryz.prog 32 false [.slice none 0 0]:=Ty.of (bytes:=24) (.slice none 0 0) Tryz.underlying32 rfl ae rfl (by simp [Value.oneCell'])
instance Tg:Ty Tryz.prog 33 true Cm:=Ty.of (bytes:=88) (.agg (Cm).toArray) Tryz.underlying33 rfl ae rfl (by simp [Value.oneCell'])
instance Fd:Ty Tryz.prog 34 true Cm:=Ty.of (bytes:=88) (.agg (Cm).toArray) Tryz.underlying34 rfl ae rfl (by simp [Value.oneCell'])
instance RS:Ty Tryz.prog 38 true Cj:=Ty.of (bytes:=112) (.agg (Cj).toArray) Tryz.underlying38 rfl ae rfl (by simp [Value.oneCell'])
instance SA:Ty Tryz.prog 39 true Cj:=Ty.of (bytes:=112) (.agg (Cj).toArray) Tryz.underlying39 rfl ae rfl (by simp [Value.oneCell'])
instance Sy:Ty Tryz.prog 40 false [.nilFunc]:=Ty.of (bytes:=8) (.nilFunc) Tryz.underlying40 rfl ae rfl (by simp [Value.oneCell'])
instance RX:Ty Tryz.prog 42 false [.nilFunc]:=Ty.of (bytes:=8) (.nilFunc) Tryz.underlying42 rfl ae rfl (by simp [Value.oneCell'])
instance JF:Ty Tryz.prog 43 false [.nilFunc]:=Ty.of (bytes:=8) (.nilFunc) Tryz.underlying43 rfl ae rfl (by simp [Value.oneCell'])
instance Tm:Ty Tryz.prog 44 true [.int .i64 0, .int .i64 0]:=Ty.of (bytes:=16) (.agg #[.int .i64 0, .int .i64 0]) Tryz.underlying44 rfl ae rfl (by simp [Value.oneCell'])
instance Td:Ty Tryz.prog 45 false [.slice none 0 0]:=Ty.of (bytes:=24) (.slice none 0 0) Tryz.underlying45 rfl ae rfl (by simp [Value.oneCell'])
instance Sw:Ty Tryz.prog 47 true [.int .i64 0, .int .i64 0]:=Ty.of (bytes:=16) (.agg #[.int .i64 0, .int .i64 0]) Tryz.underlying47 rfl ae rfl (by simp [Value.oneCell'])
instance RZ:Ty Tryz.prog 48 true [.int .i64 0, .int .i64 0]:=Ty.of (bytes:=16) (.agg #[.int .i64 0, .int .i64 0]) Tryz.underlying48 rfl ae rfl (by simp [Value.oneCell'])
instance Tj:Ty Tryz.prog 51 false [.nilFunc]:=Ty.of (bytes:=8) (.nilFunc) Tryz.underlying51 rfl ae rfl (by simp [Value.oneCell'])
instance Ry:Ty Tryz.prog 55 false [.slice none 0 0]:=Ty.of (bytes:=24) (.slice none 0 0) Tryz.underlying55 rfl ae rfl (by simp [Value.oneCell'])
instance RM:Ty Tryz.prog 57 true mJ:=Ty.of (bytes:=40) (.agg (mJ).toArray) Tryz.underlying57 rfl ae rfl (by simp [Value.oneCell'])
instance Tp:Ty Tryz.prog 60 false [.nilFunc]:=Ty.of (bytes:=8) (.nilFunc) Tryz.underlying60 rfl ae rfl (by simp [Value.oneCell'])
instance CD:Ty Tryz.prog 61 false [.slice none 0 0]:=Ty.of (bytes:=24) (.slice none 0 0) Tryz.underlying61 rfl ae rfl (by simp [Value.oneCell'])
instance LN:Ty Tryz.prog 62 false [.slice none 0 0]:=Ty.of (bytes:=24) (.slice none 0 0) Tryz.underlying62 rfl ae rfl (by simp [Value.oneCell'])
instance JX:Ty Tryz.prog 64 true EC:=Ty.of (bytes:=72) (.agg (EC).toArray) Tryz.underlying64 rfl ae rfl (by simp [Value.oneCell'])
instance MI:Ty Tryz.prog 66 false [.int .i64 0]:=Ty.of (bytes:=8) (.int .i64 0) Tryz.underlying66 rfl ae rfl (by simp [Value.oneCell'])
instance KI:Ty Tryz.prog 69 false [.slice none 0 0]:=Ty.of (bytes:=24) (.slice none 0 0) Tryz.underlying69 rfl ae rfl (by simp [Value.oneCell'])
instance La:Ty Tryz.prog 71 true Cv:=Ty.of (bytes:=56) (.agg (Cv).toArray) Tryz.underlying71 rfl ae rfl (by simp [Value.oneCell'])
instance Ub:Ty Tryz.prog 73 true Cq:=Ty.of (bytes:=64) (.agg (Cq).toArray) Tryz.underlying73 rfl ae rfl (by simp [Value.oneCell'])
instance LZ:Ty Tryz.prog 78 false [.slice none 0 0]:=Ty.of (bytes:=24) (.slice none 0 0) Tryz.underlying78 rfl ae rfl (by simp [Value.oneCell'])
instance KK:Ty Tryz.prog 80 true [.slice none 0 0, .slice none 0 0]:=Ty.of (bytes:=48) (.agg #[.slice none 0 0, .slice none 0 0]) Tryz.underlying80 rfl ae rfl (by simp [Value.oneCell'])
instance JV:Ty Tryz.prog 81 true GK:=Ty.of (bytes:=328) (.agg (GK).toArray) Tryz.underlying81 rfl ae rfl (by simp [Value.oneCell'])
instance SJ:Ty Tryz.prog 83 true uV:=Ty.of (bytes:=480) (.agg (uV).toArray) Tryz.underlying83 rfl ae rfl (by simp [Value.oneCell'])
instance SX:Ty Tryz.prog 87 true vC:=Ty.of (bytes:=152) (.agg (vC).toArray) Tryz.underlying87 rfl ae rfl (by simp [Value.oneCell'])
instance EJ:Ty Tryz.prog 88 false [.slice none 0 0]:=Ty.of (bytes:=24) (.slice none 0 0) Tryz.underlying88 rfl ae rfl (by simp [Value.oneCell'])
instance Lj:Ty Tryz.prog 89 false [.slice none 0 0]:=Ty.of (bytes:=24) (.slice none 0 0) Tryz.underlying89 rfl ae rfl (by simp [Value.oneCell'])
instance tF:Ty Tryz.prog 91 true wu:=Ty.of (bytes:=24) (.agg (wu).toArray) Tryz.underlying91 rfl ae rfl (by simp [Value.oneCell'])
instance Tt:Ty Tryz.prog 96 true vS:=Ty.of (bytes:=176) (.agg (vS).toArray) Tryz.underlying96 rfl ae rfl (by simp [Value.oneCell'])
instance SL:Ty Tryz.prog 97 false [.pointer none]:=Ty.of (bytes:=8) (.pointer none) Tryz.underlying97 rfl ae rfl (by simp [Value.oneCell'])
instance RE:Ty Tryz.prog 99 false [.nilFunc]:=Ty.of (bytes:=8) (.nilFunc) Tryz.underlying99 rfl ae rfl (by simp [Value.oneCell'])
instance Ni:Ty Tryz.prog 100 false [.nilFunc]:=Ty.of (bytes:=8) (.nilFunc) Tryz.underlying100 rfl ae rfl (by simp [Value.oneCell'])
instance Co:Ty Tryz.prog 101 false [.slice none 0 0]:=Ty.of (bytes:=24) (.slice none 0 0) Tryz.underlying101 rfl ae rfl (by simp [Value.oneCell'])
instance Oh:Ty Tryz.prog 102 true rT:=Ty.of (bytes:=72) (.agg (rT).toArray) Tryz.underlying102 rfl ae rfl (by simp [Value.oneCell'])
instance Rl:Ty Tryz.prog 103 true rT:=Ty.of (bytes:=72) (.agg (rT).toArray) Tryz.underlying103 rfl ae rfl (by simp [Value.oneCell'])
instance OB:Ty Tryz.prog 104 false [.nilFunc]:=Ty.of (bytes:=8) (.nilFunc) Tryz.underlying104 rfl ae rfl (by simp [Value.oneCell'])
instance NK:Ty Tryz.prog 105 false [.nilFunc]:=Ty.of (bytes:=8) (.nilFunc) Tryz.underlying105 rfl ae rfl (by simp [Value.oneCell'])
instance Nj:Ty Tryz.prog 108 true mJ:=Ty.of (bytes:=40) (.agg (mJ).toArray) Tryz.underlying108 rfl ae rfl (by simp [Value.oneCell'])
instance yo:Ty Tryz.prog 109 true mJ:=Ty.of (bytes:=40) (.agg (mJ).toArray) Tryz.underlying109 rfl ae rfl (by simp [Value.oneCell'])
instance Pj:Ty Tryz.prog 110 true oY:=Ty.of (bytes:=56) (.agg (oY).toArray) Tryz.underlying110 rfl ae rfl (by simp [Value.oneCell'])
instance PU:Ty Tryz.prog 111 true oY:=Ty.of (bytes:=56) (.agg (oY).toArray) Tryz.underlying111 rfl ae rfl (by simp [Value.oneCell'])
instance QI:Ty Tryz.prog 112 false [.nilFunc]:=Ty.of (bytes:=8) (.nilFunc) Tryz.underlying112 rfl ae rfl (by simp [Value.oneCell'])
instance QD:Ty Tryz.prog 113 false [.slice none 0 0]:=Ty.of (bytes:=24) (.slice none 0 0) Tryz.underlying113 rfl ae rfl (by simp [Value.oneCell'])
instance Pa:Ty Tryz.prog 114 true mJ:=Ty.of (bytes:=40) (.agg (mJ).toArray) Tryz.underlying114 rfl ae rfl (by simp [Value.oneCell'])
instance Ck:Ty Tryz.prog 115 true mJ:=Ty.of (bytes:=40) (.agg (mJ).toArray) Tryz.underlying115 rfl ae rfl (by simp [Value.oneCell'])
instance NZ:Ty Tryz.prog 116 true ur:=Ty.of (bytes:=72) (.agg (ur).toArray) Tryz.underlying116 rfl ae rfl (by simp [Value.oneCell'])
instance Ov:Ty Tryz.prog 117 true ur:=Ty.of (bytes:=72) (.agg (ur).toArray) Tryz.underlying117 rfl ae rfl (by simp [Value.oneCell'])
instance No:Ty Tryz.prog 118 false [.nilFunc]:=Ty.of (bytes:=8) (.nilFunc) Tryz.underlying118 rfl ae rfl (by simp [Value.oneCell'])
instance Re:Ty Tryz.prog 119 false [.nilFunc]:=Ty.of (bytes:=8) (.nilFunc) Tryz.underlying119 rfl ae rfl (by simp [Value.oneCell'])
instance Ns:Ty Tryz.prog 121 false [.slice none 0 0]:=Ty.of (bytes:=24) (.slice none 0 0) Tryz.underlying121 rfl ae rfl (by simp [Value.oneCell'])
instance Qk:Ty Tryz.prog 122 false [.nilFunc]:=Ty.of (bytes:=8) (.nilFunc) Tryz.underlying122 rfl ae rfl (by simp [Value.oneCell'])
instance QA:Ty Tryz.prog 124 false [.nilFunc]:=Ty.of (bytes:=8) (.nilFunc) Tryz.underlying124 rfl ae rfl (by simp [Value.oneCell'])
instance Rs:Ty Tryz.prog 125 true [.int .i64 0, .int .i64 0]:=Ty.of (bytes:=16) (.agg #[.int .i64 0, .int .i64 0]) Tryz.underlying125 rfl ae rfl (by simp [Value.oneCell'])
instance NE:Ty Tryz.prog 126 true [.int .i64 0, .int .i64 0]:=Ty.of (bytes:=16) (.agg #[.int .i64 0, .int .i64 0]) Tryz.underlying126 rfl ae rfl (by simp [Value.oneCell'])
instance PJ:Ty Tryz.prog 127 false [.pointer none]:=Ty.of (bytes:=8) (.pointer none) Tryz.underlying127 rfl ae rfl (by simp [Value.oneCell'])
instance Rf:Ty Tryz.prog 129 true vT:=Ty.of (bytes:=56) (.agg (vT).toArray) Tryz.underlying129 rfl ae rfl (by simp [Value.oneCell'])
instance EL:Ty Tryz.prog 132 true vb:=Ty.of (bytes:=96) (.agg (vb).toArray) Tryz.underlying132 rfl ae rfl (by simp [Value.oneCell'])
instance OQ:Ty Tryz.prog 137 false [.pointer none]:=Ty.of (bytes:=8) (.pointer none) Tryz.underlying137 rfl ae rfl (by simp [Value.oneCell'])
instance NA:Ty Tryz.prog 139 true [.slice none 0 0, .int .i64 0]:=Ty.of (bytes:=32) (.agg #[.slice none 0 0, .int .i64 0]) Tryz.underlying139 rfl ae rfl (by simp [Value.oneCell'])
instance NV:Ty Tryz.prog 141 false [.pointer none]:=Ty.of (bytes:=8) (.pointer none) Tryz.underlying141 rfl ae rfl (by simp [Value.oneCell'])
instance Qm:Ty Tryz.prog 143 true vY:=Ty.of (bytes:=96) (.agg (vY).toArray) Tryz.underlying143 rfl ae rfl (by simp [Value.oneCell'])
instance NB:Ty Tryz.prog 161 false [.nilFunc]:=Ty.of (bytes:=8) (.nilFunc) Tryz.underlying161 rfl ae rfl (by simp [Value.oneCell'])
instance OY:Ty Tryz.prog 168 false [.pointer none]:=Ty.of (bytes:=8) (.pointer none) Tryz.underlying168 rfl ae rfl (by simp [Value.oneCell'])
instance Qb:Ty Tryz.prog 169 false [.nilFunc]:=Ty.of (bytes:=8) (.nilFunc) Tryz.underlying169 rfl ae rfl (by simp [Value.oneCell'])
instance NT:Ty Tryz.prog 171 true vZ:=Ty.of (bytes:=608) (.agg (vZ).toArray) Tryz.underlying171 rfl ae rfl (by simp [Value.oneCell'])
instance Pf:Ty Tryz.prog 172 false [.nilFunc]:=Ty.of (bytes:=8) (.nilFunc) Tryz.underlying172 rfl ae rfl (by simp [Value.oneCell'])
instance PF:Ty Tryz.prog 173 true BB:=Ty.of (bytes:=192) (.agg (BB).toArray) Tryz.underlying173 rfl ae rfl (by simp [Value.oneCell'])
instance QM:Ty Tryz.prog 175 false [.map none]:=Ty.of (bytes:=8) (.map none) Tryz.underlying175 rfl ae rfl (by simp [Value.oneCell'])
instance Nm:Ty Tryz.prog 176 true []:=Ty.of (bytes:=0) (.agg #[]) Tryz.underlying176 rfl ae rfl (by simp [Value.oneCell'])
instance Rr:Ty Tryz.prog 178 false [.nilFunc]:=Ty.of (bytes:=8) (.nilFunc) Tryz.underlying178 rfl ae rfl (by simp [Value.oneCell'])
instance NM:Ty Tryz.prog 179 false [.nilFunc]:=Ty.of (bytes:=8) (.nilFunc) Tryz.underlying179 rfl ae rfl (by simp [Value.oneCell'])
instance Ou:Ty Tryz.prog 188 false [.map none]:=Ty.of (bytes:=8) (.map none) Tryz.underlying188 rfl ae rfl (by simp [Value.oneCell'])
instance Ow:Ty Tryz.prog 190 false [.map none]:=Ty.of (bytes:=8) (.map none) Tryz.underlying190 rfl ae rfl (by simp [Value.oneCell'])
instance NC:Ty Tryz.prog 192 true vN:=Ty.of (bytes:=32) (.agg (vN).toArray) Tryz.underlying192 rfl ae rfl (by simp [Value.oneCell'])
instance QS:Ty Tryz.prog 196 true sc:=Ty.of (bytes:=48) (.agg (sc).toArray) Tryz.underlying196 rfl ae rfl (by simp [Value.oneCell'])
instance OG:Ty Tryz.prog 200 false [.pointer none]:=Ty.of (bytes:=8) (.pointer none) Tryz.underlying200 rfl ae rfl (by simp [Value.oneCell'])
instance Oa:Ty Tryz.prog 216 false [.nilFunc]:=Ty.of (bytes:=8) (.nilFunc) Tryz.underlying216 rfl ae rfl (by simp [Value.oneCell'])
instance FS:Ty Tryz.prog 217 false [.slice none 0 0]:=Ty.of (bytes:=24) (.slice none 0 0) Tryz.underlying217 rfl ae rfl (by simp [Value.oneCell'])
instance NF:Ty Tryz.prog 220 false [.pointer none]:=Ty.of (bytes:=8) (.pointer none) Tryz.underlying220 rfl ae rfl (by simp [Value.oneCell'])
instance Nq:Ty Tryz.prog 222 true vy:=Ty.of (bytes:=72) (.agg (vy).toArray) Tryz.underlying222 rfl ae rfl (by simp [Value.oneCell'])
instance Oj:Ty Tryz.prog 225 true rB:=Ty.of (bytes:=40) (.agg (rB).toArray) Tryz.underlying225 rfl ae rfl (by simp [Value.oneCell'])
instance Ps:Ty Tryz.prog 253 false [.int .i64 0]:=Ty.of (bytes:=8) (.int .i64 0) Tryz.underlying253 rfl ae rfl (by simp [Value.oneCell'])
instance NR:Ty Tryz.prog 275 false [.slice none 0 0]:=Ty.of (bytes:=24) (.slice none 0 0) Tryz.underlying275 rfl ae rfl (by simp [Value.oneCell'])
instance TF:Elem Tryz.prog 22 3 1 8 [.int .i64 0]:=Elem.of (.int .i64 0) Tryz.underlying22 ae rfl rfl ah ah (by simp [Value.oneCell'])
instance Sg:Elem Tryz.prog 23 48 2 16 [.int .i64 0, .int .i64 0]:=Elem.of (.agg #[.int .i64 0, .int .i64 0]) Tryz.underlying23 ae rfl rfl ah ah (by simp [Value.oneCell'])
instance TD:Elem Tryz.prog 32 57 5 40 mJ:=Elem.of (.agg (mJ).toArray) Tryz.underlying32 ae rfl rfl ah ah (by simp [Value.oneCell'])
instance RT:Elem Tryz.prog 45 44 2 16 [.int .i64 0, .int .i64 0]:=Elem.of (.agg #[.int .i64 0, .int .i64 0]) Tryz.underlying45 ae rfl rfl ah ah (by simp [Value.oneCell'])
instance To:Elem Tryz.prog 55 26 43 360 Cs:=Elem.of (.agg (Cs).toArray) Tryz.underlying55 ae rfl rfl ah ah (by simp [Value.oneCell'])
instance RP:Elem Tryz.prog 61 9 1 16 [.string ByteArray.empty]:=Elem.of (.string ByteArray.empty) Tryz.underlying61 ae rfl rfl ah ah (by simp [Value.oneCell'])
instance Sn:Elem Tryz.prog 62 73 5 64 Cq:=Elem.of (.agg (Cq).toArray) Tryz.underlying62 ae rfl rfl ah ah (by simp [Value.oneCell'])
instance RF:Elem Tryz.prog 69 71 4 56 Cv:=Elem.of (.agg (Cv).toArray) Tryz.underlying69 ae rfl rfl ah ah (by simp [Value.oneCell'])
instance Te:Elem Tryz.prog 78 126 2 16 [.int .i64 0, .int .i64 0]:=Elem.of (.agg #[.int .i64 0, .int .i64 0]) Tryz.underlying78 ae rfl rfl ah ah (by simp [Value.oneCell'])
instance SK:Elem Tryz.prog 88 111 7 56 oY:=Elem.of (.agg (oY).toArray) Tryz.underlying88 ae rfl rfl ah ah (by simp [Value.oneCell'])
instance Tc:Elem Tryz.prog 89 117 9 72 ur:=Elem.of (.agg (ur).toArray) Tryz.underlying89 ae rfl rfl ah ah (by simp [Value.oneCell'])
instance OJ:Elem Tryz.prog 101 196 6 48 sc:=Elem.of (.agg (sc).toArray) Tryz.underlying101 ae rfl rfl ah ah (by simp [Value.oneCell'])
instance OO:Elem Tryz.prog 113 115 5 40 mJ:=Elem.of (.agg (mJ).toArray) Tryz.underlying113 ae rfl rfl ah ah (by simp [Value.oneCell'])
instance Qi:Elem Tryz.prog 121 4 1 1 [.bool false]:=Elem.of (.bool false) Tryz.underlying121 ae rfl rfl ah ah (by simp [Value.oneCell'])
instance Oe:Elem Tryz.prog 217 225 4 40 rB:=Elem.of (.agg (rB).toArray) Tryz.underlying217 ae rfl rfl ah ah (by simp [Value.oneCell'])
instance OE:Elem Tryz.prog 275 61 1 24 [.slice none 0 0]:=Elem.of (.slice none 0 0) Tryz.underlying275 ae rfl rfl ah ah (by simp [Value.oneCell'])
instance Mr:cG Tryz.prog 26 0 0:=⟨fun ad w=> by kernel_rfl⟩
instance Lz:Fvl Tryz.prog 26 0 0 false 1:=Fvl.of Tryz.underlying26 rfl rfl Fm rfl
instance Ks:cG Tryz.prog 26 1 1:=⟨fun ad w=> by kernel_rfl⟩
instance Kh:Fvl Tryz.prog 26 1 1 true 40:=Fvl.of Tryz.underlying26 rfl rfl Lo rfl
instance JB:cG Tryz.prog 26 2 41:=⟨fun ad w=> by kernel_rfl⟩
instance LC:Fvl Tryz.prog 26 2 41 false 1:=Fvl.of Tryz.underlying26 rfl rfl eU rfl
instance Nb:cG Tryz.prog 26 3 42:=⟨fun ad w=> by kernel_rfl⟩
instance Kk:Fvl Tryz.prog 26 3 42 false 1:=Fvl.of Tryz.underlying26 rfl rfl eU rfl
instance KY:cG Tryz.prog 33 0 0:=⟨fun ad w=> by kernel_rfl⟩
instance MQ:Fvl Tryz.prog 33 0 0 false 1:=Fvl.of Tryz.underlying33 rfl rfl iq rfl
instance JO:cG Tryz.prog 33 1 1:=⟨fun ad w=> by kernel_rfl⟩
instance LS:Fvl Tryz.prog 33 1 1 false 1:=Fvl.of Tryz.underlying33 rfl rfl AG rfl
instance JY:cG Tryz.prog 33 2 2:=⟨fun ad w=> by kernel_rfl⟩
instance MG:Fvl Tryz.prog 33 2 2 false 1:=Fvl.of Tryz.underlying33 rfl rfl eU rfl
instance MV:cG Tryz.prog 33 3 3:=⟨fun ad w=> by kernel_rfl⟩
instance LL:Fvl Tryz.prog 33 3 3 false 1:=Fvl.of Tryz.underlying33 rfl rfl Ct rfl
instance LA:cG Tryz.prog 33 4 4:=⟨fun ad w=> by kernel_rfl⟩
instance JZ:Fvl Tryz.prog 33 4 4 false 1:=Fvl.of Tryz.underlying33 rfl rfl iq rfl
instance Kr:cG Tryz.prog 34 0 0:=⟨fun ad w=> by kernel_rfl⟩
instance Mm:Fvl Tryz.prog 34 0 0 false 1:=Fvl.of Tryz.underlying34 rfl rfl iq rfl
instance KO:cG Tryz.prog 34 1 1:=⟨fun ad w=> by kernel_rfl⟩
instance Ml:Fvl Tryz.prog 34 1 1 false 1:=Fvl.of Tryz.underlying34 rfl rfl AG rfl
instance LY:cG Tryz.prog 34 2 2:=⟨fun ad w=> by kernel_rfl⟩
instance JK:Fvl Tryz.prog 34 2 2 false 1:=Fvl.of Tryz.underlying34 rfl rfl eU rfl
instance Mp:cG Tryz.prog 34 3 3:=⟨fun ad w=> by kernel_rfl⟩
instance MY:Fvl Tryz.prog 34 3 3 false 1:=Fvl.of Tryz.underlying34 rfl rfl Ct rfl
instance KU:cG Tryz.prog 34 4 4:=⟨fun ad w=> by kernel_rfl⟩
instance MZ:Fvl Tryz.prog 34 4 4 false 1:=Fvl.of Tryz.underlying34 rfl rfl iq rfl
instance KN:cG Tryz.prog 38 0 0:=⟨fun ad w=> by kernel_rfl⟩
instance Kp:Fvl Tryz.prog 38 0 0 false 1:=Fvl.of Tryz.underlying38 rfl rfl iq rfl
instance Km:cG Tryz.prog 38 1 1:=⟨fun ad w=> by kernel_rfl⟩
instance KZ:Fvl Tryz.prog 38 1 1 false 1:=Fvl.of Tryz.underlying38 rfl rfl AG rfl
instance Mc:cG Tryz.prog 38 2 2:=⟨fun ad w=> by kernel_rfl⟩
instance JN:Fvl Tryz.prog 38 2 2 false 1:=Fvl.of Tryz.underlying38 rfl rfl eU rfl
instance MH:cG Tryz.prog 38 3 3:=⟨fun ad w=> by kernel_rfl⟩
instance KM:Fvl Tryz.prog 38 3 3 false 1:=Fvl.of Tryz.underlying38 rfl rfl Ct rfl
instance MN:cG Tryz.prog 38 4 4:=⟨fun ad w=> by kernel_rfl⟩
instance Kc:Fvl Tryz.prog 38 4 4 false 1:=Fvl.of Tryz.underlying38 rfl rfl iq rfl
instance Mh:cG Tryz.prog 38 5 5:=⟨fun ad w=> by kernel_rfl⟩
instance JL:Fvl Tryz.prog 38 5 5 false 1:=Fvl.of Tryz.underlying38 rfl rfl iq rfl
instance Kn:cG Tryz.prog 39 0 0:=⟨fun ad w=> by kernel_rfl⟩
instance LO:Fvl Tryz.prog 39 0 0 false 1:=Fvl.of Tryz.underlying39 rfl rfl iq rfl
instance MP:cG Tryz.prog 39 1 1:=⟨fun ad w=> by kernel_rfl⟩
instance MF:Fvl Tryz.prog 39 1 1 false 1:=Fvl.of Tryz.underlying39 rfl rfl AG rfl
instance Lm:cG Tryz.prog 39 2 2:=⟨fun ad w=> by kernel_rfl⟩
instance MS:Fvl Tryz.prog 39 2 2 false 1:=Fvl.of Tryz.underlying39 rfl rfl eU rfl
instance MC:cG Tryz.prog 39 3 3:=⟨fun ad w=> by kernel_rfl⟩
instance Ke:Fvl Tryz.prog 39 3 3 false 1:=Fvl.of Tryz.underlying39 rfl rfl Ct rfl
instance Mf:cG Tryz.prog 39 4 4:=⟨fun ad w=> by kernel_rfl⟩
instance My:Fvl Tryz.prog 39 4 4 false 1:=Fvl.of Tryz.underlying39 rfl rfl iq rfl
instance Mt:cG Tryz.prog 39 5 5:=⟨fun ad w=> by kernel_rfl⟩
instance Ki:Fvl Tryz.prog 39 5 5 false 1:=Fvl.of Tryz.underlying39 rfl rfl iq rfl
instance KG:cG Tryz.prog 47 0 0:=⟨fun ad w=> by kernel_rfl⟩
instance Kt:Fvl Tryz.prog 47 0 0 false 1:=Fvl.of Tryz.underlying47 rfl rfl eU rfl
instance LD:cG Tryz.prog 47 1 1:=⟨fun ad w=> by kernel_rfl⟩
instance Mj:Fvl Tryz.prog 47 1 1 false 1:=Fvl.of Tryz.underlying47 rfl rfl eU rfl
instance MU:cG Tryz.prog 48 0 0:=⟨fun ad w=> by kernel_rfl⟩
instance KR:Fvl Tryz.prog 48 0 0 false 1:=Fvl.of Tryz.underlying48 rfl rfl eU rfl
instance Ly:cG Tryz.prog 48 1 1:=⟨fun ad w=> by kernel_rfl⟩
instance KA:Fvl Tryz.prog 48 1 1 false 1:=Fvl.of Tryz.underlying48 rfl rfl eU rfl
instance Na:cG Tryz.prog 57 0 0:=⟨fun ad w=> by kernel_rfl⟩
instance Mx:Fvl Tryz.prog 57 0 0 false 1:=Fvl.of Tryz.underlying57 rfl rfl eU rfl
instance MX:cG Tryz.prog 57 1 1:=⟨fun ad w=> by kernel_rfl⟩
instance Ld:Fvl Tryz.prog 57 1 1 false 1:=Fvl.of Tryz.underlying57 rfl rfl eU rfl
instance LX:cG Tryz.prog 57 2 2:=⟨fun ad w=> by kernel_rfl⟩
instance JC:Fvl Tryz.prog 57 2 2 false 1:=Fvl.of Tryz.underlying57 rfl rfl eU rfl
instance KV:cG Tryz.prog 57 3 3:=⟨fun ad w=> by kernel_rfl⟩
instance MW:Fvl Tryz.prog 57 3 3 false 1:=Fvl.of Tryz.underlying57 rfl rfl eU rfl
instance Kv:cG Tryz.prog 57 4 4:=⟨fun ad w=> by kernel_rfl⟩
instance LB:Fvl Tryz.prog 57 4 4 false 1:=Fvl.of Tryz.underlying57 rfl rfl eU rfl
instance MM:cG Tryz.prog 64 0 0:=⟨fun ad w=> by kernel_rfl⟩
instance Lx:Fvl Tryz.prog 64 0 0 false 1:=Fvl.of Tryz.underlying64 rfl rfl CD rfl
instance Me:cG Tryz.prog 64 1 1:=⟨fun ad w=> by kernel_rfl⟩
instance Mn:Fvl Tryz.prog 64 1 1 false 1:=Fvl.of Tryz.underlying64 rfl rfl CD rfl
instance MJ:cG Tryz.prog 64 2 2:=⟨fun ad w=> by kernel_rfl⟩
instance Mb:Fvl Tryz.prog 64 2 2 false 1:=Fvl.of Tryz.underlying64 rfl rfl LN rfl
instance Kb:cG Tryz.prog 71 0 0:=⟨fun ad w=> by kernel_rfl⟩
instance LQ:Fvl Tryz.prog 71 0 0 false 1:=Fvl.of Tryz.underlying71 rfl rfl eU rfl
instance Lt:cG Tryz.prog 71 1 1:=⟨fun ad w=> by kernel_rfl⟩
instance Ma:Fvl Tryz.prog 71 1 1 false 1:=Fvl.of Tryz.underlying71 rfl rfl eU rfl
instance MO:cG Tryz.prog 71 2 2:=⟨fun ad w=> by kernel_rfl⟩
instance KD:Fvl Tryz.prog 71 2 2 false 1:=Fvl.of Tryz.underlying71 rfl rfl Qh rfl
instance Ka:cG Tryz.prog 71 3 3:=⟨fun ad w=> by kernel_rfl⟩
instance LH:Fvl Tryz.prog 71 3 3 false 1:=Fvl.of Tryz.underlying71 rfl rfl KI rfl
instance Li:cG Tryz.prog 73 0 0:=⟨fun ad w=> by kernel_rfl⟩
instance MT:Fvl Tryz.prog 73 0 0 false 1:=Fvl.of Tryz.underlying73 rfl rfl eU rfl
instance Kf:cG Tryz.prog 73 1 1:=⟨fun ad w=> by kernel_rfl⟩
instance JW:Fvl Tryz.prog 73 1 1 true 4:=Fvl.of Tryz.underlying73 rfl rfl La rfl
instance LV:cG Tryz.prog 80 0 0:=⟨fun ad w=> by kernel_rfl⟩
instance Lq:Fvl Tryz.prog 80 0 0 false 1:=Fvl.of Tryz.underlying80 rfl rfl iq rfl
instance JE:cG Tryz.prog 80 1 1:=⟨fun ad w=> by kernel_rfl⟩
instance Lf:Fvl Tryz.prog 80 1 1 false 1:=Fvl.of Tryz.underlying80 rfl rfl LZ rfl
instance Kd:cG Tryz.prog 83 0 0:=⟨fun ad w=> by kernel_rfl⟩
instance Lu:Fvl Tryz.prog 83 0 0 false 1:=Fvl.of Tryz.underlying83 rfl rfl Ct rfl
instance JT:cG Tryz.prog 83 1 1:=⟨fun ad w=> by kernel_rfl⟩
instance Lp:Fvl Tryz.prog 83 1 1 false 1:=Fvl.of Tryz.underlying83 rfl rfl eU rfl
instance JP:cG Tryz.prog 83 2 2:=⟨fun ad w=> by kernel_rfl⟩
instance LP:Fvl Tryz.prog 83 2 2 false 1:=Fvl.of Tryz.underlying83 rfl rfl eU rfl
instance Kl:cG Tryz.prog 83 3 3:=⟨fun ad w=> by kernel_rfl⟩
instance Nc:Fvl Tryz.prog 83 3 3 false 1:=Fvl.of Tryz.underlying83 rfl rfl eU rfl
instance LU:cG Tryz.prog 83 4 4:=⟨fun ad w=> by kernel_rfl⟩
instance Mg:Fvl Tryz.prog 83 4 4 true 2:=Fvl.of Tryz.underlying83 rfl rfl KK rfl
instance Mo:cG Tryz.prog 83 5 6:=⟨fun ad w=> by kernel_rfl⟩
instance Nf:Fvl Tryz.prog 83 5 6 false 1:=Fvl.of Tryz.underlying83 rfl rfl iq rfl
instance Kq:cG Tryz.prog 83 6 7:=⟨fun ad w=> by kernel_rfl⟩
instance LW:Fvl Tryz.prog 83 6 7 false 1:=Fvl.of Tryz.underlying83 rfl rfl iq rfl
instance Lh:cG Tryz.prog 83 7 8:=⟨fun ad w=> by kernel_rfl⟩
instance KJ:Fvl Tryz.prog 83 7 8 true 41:=Fvl.of Tryz.underlying83 rfl rfl JV rfl
instance Ko:cG Tryz.prog 83 8 49:=⟨fun ad w=> by kernel_rfl⟩
instance KF:Fvl Tryz.prog 83 8 49 false 1:=Fvl.of Tryz.underlying83 rfl rfl eU rfl
instance Kw:cG Tryz.prog 83 9 50:=⟨fun ad w=> by kernel_rfl⟩
instance Mv:Fvl Tryz.prog 83 9 50 false 1:=Fvl.of Tryz.underlying83 rfl rfl eU rfl
instance HO:cG Tryz.prog 83 10 51:=⟨fun ad w=> by kernel_rfl⟩
instance GX:Fvl Tryz.prog 83 10 51 false 1:=Fvl.of Tryz.underlying83 rfl rfl eU rfl
instance JR:cG Tryz.prog 87 0 0:=⟨fun ad w=> by kernel_rfl⟩
instance LF:Fvl Tryz.prog 87 0 0 false 1:=Fvl.of Tryz.underlying87 rfl rfl eU rfl
instance KX:cG Tryz.prog 87 1 1:=⟨fun ad w=> by kernel_rfl⟩
instance KL:Fvl Tryz.prog 87 1 1 false 1:=Fvl.of Tryz.underlying87 rfl rfl eU rfl
instance LJ:cG Tryz.prog 87 2 2:=⟨fun ad w=> by kernel_rfl⟩
instance ME:Fvl Tryz.prog 87 2 2 true 9:=Fvl.of Tryz.underlying87 rfl rfl FP rfl
instance KH:cG Tryz.prog 87 3 11:=⟨fun ad w=> by kernel_rfl⟩
instance Ll:Fvl Tryz.prog 87 3 11 false 1:=Fvl.of Tryz.underlying87 rfl rfl eU rfl
instance Mu:cG Tryz.prog 87 4 12:=⟨fun ad w=> by kernel_rfl⟩
instance JM:Fvl Tryz.prog 87 4 12 false 1:=Fvl.of Tryz.underlying87 rfl rfl eU rfl
instance Mw:cG Tryz.prog 87 5 13:=⟨fun ad w=> by kernel_rfl⟩
instance MR:Fvl Tryz.prog 87 5 13 false 1:=Fvl.of Tryz.underlying87 rfl rfl iq rfl
instance Mi:cG Tryz.prog 87 6 14:=⟨fun ad w=> by kernel_rfl⟩
instance LM:Fvl Tryz.prog 87 6 14 false 1:=Fvl.of Tryz.underlying87 rfl rfl iq rfl
instance LK:cG Tryz.prog 91 0 0:=⟨fun ad w=> by kernel_rfl⟩
instance Lb:Fvl Tryz.prog 91 0 0 false 1:=Fvl.of Tryz.underlying91 rfl rfl eU rfl
instance LR:cG Tryz.prog 91 1 1:=⟨fun ad w=> by kernel_rfl⟩
instance KP:Fvl Tryz.prog 91 1 1 false 1:=Fvl.of Tryz.underlying91 rfl rfl eU rfl
instance JQ:cG Tryz.prog 91 2 2:=⟨fun ad w=> by kernel_rfl⟩
instance KC:Fvl Tryz.prog 91 2 2 false 1:=Fvl.of Tryz.underlying91 rfl rfl eU rfl
instance Ku:cG Tryz.prog 96 0 0:=⟨fun ad w=> by kernel_rfl⟩
instance Lk:Fvl Tryz.prog 96 0 0 true 3:=Fvl.of Tryz.underlying96 rfl rfl tF rfl
instance Ls:cG Tryz.prog 96 1 3:=⟨fun ad w=> by kernel_rfl⟩
instance Kj:Fvl Tryz.prog 96 1 3 false 1:=Fvl.of Tryz.underlying96 rfl rfl Lj rfl
instance Lr:cG Tryz.prog 96 2 4:=⟨fun ad w=> by kernel_rfl⟩
instance Lg:Fvl Tryz.prog 96 2 4 false 1:=Fvl.of Tryz.underlying96 rfl rfl Ct rfl
instance JH:cG Tryz.prog 96 3 5:=⟨fun ad w=> by kernel_rfl⟩
instance JS:Fvl Tryz.prog 96 3 5 false 1:=Fvl.of Tryz.underlying96 rfl rfl eU rfl
instance LT:cG Tryz.prog 96 4 6:=⟨fun ad w=> by kernel_rfl⟩
instance Lc:Fvl Tryz.prog 96 4 6 false 1:=Fvl.of Tryz.underlying96 rfl rfl iq rfl
instance MD:cG Tryz.prog 96 5 7:=⟨fun ad w=> by kernel_rfl⟩
instance KW:Fvl Tryz.prog 96 5 7 true 5:=Fvl.of Tryz.underlying96 rfl rfl Fd rfl
instance Ip:cG Tryz.prog 102 0 0:=⟨fun ad w=> by kernel_rfl⟩
instance HH:Fvl Tryz.prog 102 0 0 true 3:=Fvl.of Tryz.underlying102 rfl rfl tF rfl
instance Ic:cG Tryz.prog 102 1 3:=⟨fun ad w=> by kernel_rfl⟩
instance Hj:Fvl Tryz.prog 102 1 3 false 1:=Fvl.of Tryz.underlying102 rfl rfl Co rfl
instance HC:cG Tryz.prog 102 2 4:=⟨fun ad w=> by kernel_rfl⟩
instance GA:Fvl Tryz.prog 102 2 4 false 1:=Fvl.of Tryz.underlying102 rfl rfl EJ rfl
instance Ii:cG Tryz.prog 103 0 0:=⟨fun ad w=> by kernel_rfl⟩
instance Hy:Fvl Tryz.prog 103 0 0 true 3:=Fvl.of Tryz.underlying103 rfl rfl tF rfl
instance Hb:cG Tryz.prog 103 1 3:=⟨fun ad w=> by kernel_rfl⟩
instance HI:Fvl Tryz.prog 103 1 3 false 1:=Fvl.of Tryz.underlying103 rfl rfl Co rfl
instance Jv:cG Tryz.prog 103 2 4:=⟨fun ad w=> by kernel_rfl⟩
instance Hp:Fvl Tryz.prog 103 2 4 false 1:=Fvl.of Tryz.underlying103 rfl rfl EJ rfl
instance IC:cG Tryz.prog 108 0 0:=⟨fun ad w=> by kernel_rfl⟩
instance IY:Fvl Tryz.prog 108 0 0 true 3:=Fvl.of Tryz.underlying108 rfl rfl tF rfl
instance IG:cG Tryz.prog 108 1 3:=⟨fun ad w=> by kernel_rfl⟩
instance IF:Fvl Tryz.prog 108 1 3 false 1:=Fvl.of Tryz.underlying108 rfl rfl eU rfl
instance HJ:cG Tryz.prog 108 2 4:=⟨fun ad w=> by kernel_rfl⟩
instance Io:Fvl Tryz.prog 108 2 4 false 1:=Fvl.of Tryz.underlying108 rfl rfl eU rfl
instance Hs:cG Tryz.prog 109 0 0:=⟨fun ad w=> by kernel_rfl⟩
instance HM:Fvl Tryz.prog 109 0 0 true 3:=Fvl.of Tryz.underlying109 rfl rfl tF rfl
instance Hl:cG Tryz.prog 109 1 3:=⟨fun ad w=> by kernel_rfl⟩
instance Ja:Fvl Tryz.prog 109 1 3 false 1:=Fvl.of Tryz.underlying109 rfl rfl eU rfl
instance GZ:cG Tryz.prog 109 2 4:=⟨fun ad w=> by kernel_rfl⟩
instance Jo:Fvl Tryz.prog 109 2 4 false 1:=Fvl.of Tryz.underlying109 rfl rfl eU rfl
instance IQ:cG Tryz.prog 110 0 0:=⟨fun ad w=> by kernel_rfl⟩
instance Hz:Fvl Tryz.prog 110 0 0 true 5:=Fvl.of Tryz.underlying110 rfl rfl yo rfl
instance Hk:cG Tryz.prog 110 1 5:=⟨fun ad w=> by kernel_rfl⟩
instance HG:Fvl Tryz.prog 110 1 5 false 1:=Fvl.of Tryz.underlying110 rfl rfl eU rfl
instance IR:cG Tryz.prog 110 2 6:=⟨fun ad w=> by kernel_rfl⟩
instance Ig:Fvl Tryz.prog 110 2 6 false 1:=Fvl.of Tryz.underlying110 rfl rfl eU rfl
instance Je:cG Tryz.prog 111 0 0:=⟨fun ad w=> by kernel_rfl⟩
instance HR:Fvl Tryz.prog 111 0 0 true 5:=Fvl.of Tryz.underlying111 rfl rfl yo rfl
instance IP:cG Tryz.prog 111 1 5:=⟨fun ad w=> by kernel_rfl⟩
instance HK:Fvl Tryz.prog 111 1 5 false 1:=Fvl.of Tryz.underlying111 rfl rfl eU rfl
instance In:cG Tryz.prog 111 2 6:=⟨fun ad w=> by kernel_rfl⟩
instance Js:Fvl Tryz.prog 111 2 6 false 1:=Fvl.of Tryz.underlying111 rfl rfl eU rfl
instance HX:cG Tryz.prog 114 0 0:=⟨fun ad w=> by kernel_rfl⟩
instance GG:Fvl Tryz.prog 114 0 0 true 3:=Fvl.of Tryz.underlying114 rfl rfl tF rfl
instance HE:cG Tryz.prog 114 1 3:=⟨fun ad w=> by kernel_rfl⟩
instance Hx:Fvl Tryz.prog 114 1 3 false 1:=Fvl.of Tryz.underlying114 rfl rfl eU rfl
instance HF:cG Tryz.prog 114 2 4:=⟨fun ad w=> by kernel_rfl⟩
instance Jq:Fvl Tryz.prog 114 2 4 false 1:=Fvl.of Tryz.underlying114 rfl rfl eU rfl
instance GP:cG Tryz.prog 115 0 0:=⟨fun ad w=> by kernel_rfl⟩
instance Hm:Fvl Tryz.prog 115 0 0 true 3:=Fvl.of Tryz.underlying115 rfl rfl tF rfl
instance Hg:cG Tryz.prog 115 1 3:=⟨fun ad w=> by kernel_rfl⟩
instance Ht:Fvl Tryz.prog 115 1 3 false 1:=Fvl.of Tryz.underlying115 rfl rfl eU rfl
instance GI:cG Tryz.prog 115 2 4:=⟨fun ad w=> by kernel_rfl⟩
instance JA:Fvl Tryz.prog 115 2 4 false 1:=Fvl.of Tryz.underlying115 rfl rfl eU rfl
instance IE:cG Tryz.prog 116 0 0:=⟨fun ad w=> by kernel_rfl⟩
instance Hu:Fvl Tryz.prog 116 0 0 true 5:=Fvl.of Tryz.underlying116 rfl rfl Ck rfl
instance HZ:cG Tryz.prog 116 1 5:=⟨fun ad w=> by kernel_rfl⟩
instance Ha:Fvl Tryz.prog 116 1 5 false 1:=Fvl.of Tryz.underlying116 rfl rfl eU rfl
instance Jj:cG Tryz.prog 116 2 6:=⟨fun ad w=> by kernel_rfl⟩
instance Jz:Fvl Tryz.prog 116 2 6 false 1:=Fvl.of Tryz.underlying116 rfl rfl eU rfl
instance If:cG Tryz.prog 116 3 7:=⟨fun ad w=> by kernel_rfl⟩
instance It:Fvl Tryz.prog 116 3 7 false 1:=Fvl.of Tryz.underlying116 rfl rfl eU rfl
instance GS:cG Tryz.prog 116 4 8:=⟨fun ad w=> by kernel_rfl⟩
instance Hr:Fvl Tryz.prog 116 4 8 false 1:=Fvl.of Tryz.underlying116 rfl rfl eU rfl
instance IX:cG Tryz.prog 117 0 0:=⟨fun ad w=> by kernel_rfl⟩
instance Gx:Fvl Tryz.prog 117 0 0 true 5:=Fvl.of Tryz.underlying117 rfl rfl Ck rfl
instance GH:cG Tryz.prog 117 1 5:=⟨fun ad w=> by kernel_rfl⟩
instance Hi:Fvl Tryz.prog 117 1 5 false 1:=Fvl.of Tryz.underlying117 rfl rfl eU rfl
instance Gw:cG Tryz.prog 117 2 6:=⟨fun ad w=> by kernel_rfl⟩
instance Jr:Fvl Tryz.prog 117 2 6 false 1:=Fvl.of Tryz.underlying117 rfl rfl eU rfl
instance IA:cG Tryz.prog 117 3 7:=⟨fun ad w=> by kernel_rfl⟩
instance IH:Fvl Tryz.prog 117 3 7 false 1:=Fvl.of Tryz.underlying117 rfl rfl eU rfl
instance IZ:cG Tryz.prog 117 4 8:=⟨fun ad w=> by kernel_rfl⟩
instance IM:Fvl Tryz.prog 117 4 8 false 1:=Fvl.of Tryz.underlying117 rfl rfl eU rfl
instance IO:cG Tryz.prog 125 0 0:=⟨fun ad w=> by kernel_rfl⟩
instance Iu:Fvl Tryz.prog 125 0 0 false 1:=Fvl.of Tryz.underlying125 rfl rfl eU rfl
instance ID:cG Tryz.prog 125 1 1:=⟨fun ad w=> by kernel_rfl⟩
instance Jg:Fvl Tryz.prog 125 1 1 false 1:=Fvl.of Tryz.underlying125 rfl rfl eU rfl
instance Ji:cG Tryz.prog 126 0 0:=⟨fun ad w=> by kernel_rfl⟩
instance GY:Fvl Tryz.prog 126 0 0 false 1:=Fvl.of Tryz.underlying126 rfl rfl eU rfl
instance Im:cG Tryz.prog 126 1 1:=⟨fun ad w=> by kernel_rfl⟩
instance Hh:Fvl Tryz.prog 126 1 1 false 1:=Fvl.of Tryz.underlying126 rfl rfl eU rfl
instance GE:cG Tryz.prog 129 0 0:=⟨fun ad w=> by kernel_rfl⟩
instance Ie:Fvl Tryz.prog 129 0 0 false 1:=Fvl.of Tryz.underlying129 rfl rfl iq rfl
instance Ho:cG Tryz.prog 129 1 1:=⟨fun ad w=> by kernel_rfl⟩
instance Gy:Fvl Tryz.prog 129 1 1 false 1:=Fvl.of Tryz.underlying129 rfl rfl iq rfl
instance HS:cG Tryz.prog 129 2 2:=⟨fun ad w=> by kernel_rfl⟩
instance IS:Fvl Tryz.prog 129 2 2 false 1:=Fvl.of Tryz.underlying129 rfl rfl Ct rfl
instance Id:cG Tryz.prog 132 0 0:=⟨fun ad w=> by kernel_rfl⟩
instance Hc:Fvl Tryz.prog 132 0 0 false 1:=Fvl.of Tryz.underlying132 rfl rfl iq rfl
instance Jp:cG Tryz.prog 132 1 1:=⟨fun ad w=> by kernel_rfl⟩
instance Ju:Fvl Tryz.prog 132 1 1 true 9:=Fvl.of Tryz.underlying132 rfl rfl FP rfl
instance Hq:cG Tryz.prog 139 0 0:=⟨fun ad w=> by kernel_rfl⟩
instance HU:Fvl Tryz.prog 139 0 0 false 1:=Fvl.of Tryz.underlying139 rfl rfl iq rfl
instance Jd:cG Tryz.prog 139 1 1:=⟨fun ad w=> by kernel_rfl⟩
instance Jw:Fvl Tryz.prog 139 1 1 false 1:=Fvl.of Tryz.underlying139 rfl rfl eU rfl
instance GT:cG Tryz.prog 143 0 0:=⟨fun ad w=> by kernel_rfl⟩
instance Gu:Fvl Tryz.prog 143 0 0 true 3:=Fvl.of Tryz.underlying143 rfl rfl JX rfl
instance Jc:cG Tryz.prog 143 1 3:=⟨fun ad w=> by kernel_rfl⟩
instance IU:Fvl Tryz.prog 143 1 3 false 1:=Fvl.of Tryz.underlying143 rfl rfl Fm rfl
instance Jl:cG Tryz.prog 171 0 0:=⟨fun ad w=> by kernel_rfl⟩
instance HV:Fvl Tryz.prog 171 0 0 true 43:=Fvl.of Tryz.underlying171 rfl rfl MB rfl
instance HN:cG Tryz.prog 171 1 43:=⟨fun ad w=> by kernel_rfl⟩
instance Jf:Fvl Tryz.prog 171 1 43 true 10:=Fvl.of Tryz.underlying171 rfl rfl EL rfl
instance GW:cG Tryz.prog 171 2 53:=⟨fun ad w=> by kernel_rfl⟩
instance HT:Fvl Tryz.prog 171 2 53 false 1:=Fvl.of Tryz.underlying171 rfl rfl JF rfl
instance Jx:cG Tryz.prog 171 3 54:=⟨fun ad w=> by kernel_rfl⟩
instance Jn:Fvl Tryz.prog 171 3 54 true 5:=Fvl.of Tryz.underlying171 rfl rfl Fd rfl
instance Is:cG Tryz.prog 171 4 59:=⟨fun ad w=> by kernel_rfl⟩
instance IL:Fvl Tryz.prog 171 4 59 false 1:=Fvl.of Tryz.underlying171 rfl rfl iq rfl
instance IJ:cG Tryz.prog 171 5 60:=⟨fun ad w=> by kernel_rfl⟩
instance HY:Fvl Tryz.prog 171 5 60 false 1:=Fvl.of Tryz.underlying171 rfl rfl eU rfl
instance Jm:cG Tryz.prog 171 6 61:=⟨fun ad w=> by kernel_rfl⟩
instance GF:Fvl Tryz.prog 171 6 61 false 1:=Fvl.of Tryz.underlying171 rfl rfl eU rfl
instance HA:cG Tryz.prog 171 7 62:=⟨fun ad w=> by kernel_rfl⟩
instance Ir:Fvl Tryz.prog 171 7 62 false 1:=Fvl.of Tryz.underlying171 rfl rfl eU rfl
instance Hn:cG Tryz.prog 171 8 63:=⟨fun ad w=> by kernel_rfl⟩
instance HD:Fvl Tryz.prog 171 8 63 false 1:=Fvl.of Tryz.underlying171 rfl rfl Ct rfl
instance GU:cG Tryz.prog 192 0 0:=⟨fun ad w=> by kernel_rfl⟩
instance II:Fvl Tryz.prog 192 0 0 false 1:=Fvl.of Tryz.underlying192 rfl rfl eU rfl
instance GJ:cG Tryz.prog 192 1 1:=⟨fun ad w=> by kernel_rfl⟩
instance Iq:Fvl Tryz.prog 192 1 1 false 1:=Fvl.of Tryz.underlying192 rfl rfl eU rfl
instance HB:cG Tryz.prog 192 2 2:=⟨fun ad w=> by kernel_rfl⟩
instance Ia:Fvl Tryz.prog 192 2 2 false 1:=Fvl.of Tryz.underlying192 rfl rfl eU rfl
instance He:cG Tryz.prog 192 3 3:=⟨fun ad w=> by kernel_rfl⟩
instance IW:Fvl Tryz.prog 192 3 3 false 1:=Fvl.of Tryz.underlying192 rfl rfl eU rfl
instance GR:cG Tryz.prog 196 0 0:=⟨fun ad w=> by kernel_rfl⟩
instance Ih:Fvl Tryz.prog 196 0 0 true 5:=Fvl.of Tryz.underlying196 rfl rfl yo rfl
instance GQ:cG Tryz.prog 196 1 5:=⟨fun ad w=> by kernel_rfl⟩
instance Hw:Fvl Tryz.prog 196 1 5 false 1:=Fvl.of Tryz.underlying196 rfl rfl eU rfl
instance IB:cG Tryz.prog 222 0 0:=⟨fun ad w=> by kernel_rfl⟩
instance Ij:Fvl Tryz.prog 222 0 0 false 1:=Fvl.of Tryz.underlying222 rfl rfl FS rfl
instance HQ:cG Tryz.prog 222 1 1:=⟨fun ad w=> by kernel_rfl⟩
instance Iw:Fvl Tryz.prog 222 1 1 false 1:=Fvl.of Tryz.underlying222 rfl rfl eU rfl
instance Jb:cG Tryz.prog 222 2 2:=⟨fun ad w=> by kernel_rfl⟩
instance Gz:Fvl Tryz.prog 222 2 2 false 1:=Fvl.of Tryz.underlying222 rfl rfl eU rfl
instance Jt:cG Tryz.prog 222 3 3:=⟨fun ad w=> by kernel_rfl⟩
instance HP:Fvl Tryz.prog 222 3 3 false 1:=Fvl.of Tryz.underlying222 rfl rfl MI rfl
instance Hf:cG Tryz.prog 222 4 4:=⟨fun ad w=> by kernel_rfl⟩
instance Iy:Fvl Tryz.prog 222 4 4 false 1:=Fvl.of Tryz.underlying222 rfl rfl CD rfl
instance Jy:cG Tryz.prog 225 0 0:=⟨fun ad w=> by kernel_rfl⟩
instance Iz:Fvl Tryz.prog 225 0 0 false 1:=Fvl.of Tryz.underlying225 rfl rfl eU rfl
instance Ib:cG Tryz.prog 225 1 1:=⟨fun ad w=> by kernel_rfl⟩
instance HW:Fvl Tryz.prog 225 1 1 false 1:=Fvl.of Tryz.underlying225 rfl rfl eU rfl
instance Hv:cG Tryz.prog 225 2 2:=⟨fun ad w=> by kernel_rfl⟩
instance Ik:Fvl Tryz.prog 225 2 2 false 1:=Fvl.of Tryz.underlying225 rfl rfl Qh rfl
instance GD:cG Tryz.prog 225 3 3:=⟨fun ad w=> by kernel_rfl⟩
instance IN:Fvl Tryz.prog 225 3 3 false 1:=Fvl.of Tryz.underlying225 rfl rfl eU rfl
instance Uh:cb Tryz.prog 3:=⟨fun args w=> by kernel_rfl⟩
instance Ug:cb Tryz.prog 6:=⟨fun args w=> by kernel_rfl⟩
instance RD:cb Tryz.prog 20:=⟨fun args w=> by kernel_rfl⟩
instance TA:cb Tryz.prog 21:=⟨fun args w=> by kernel_rfl⟩
instance RO:cb Tryz.prog 22:=⟨fun args w=> by kernel_rfl⟩
instance RJ:cb Tryz.prog 23:=⟨fun args w=> by kernel_rfl⟩
instance Su:cb Tryz.prog 24:=⟨fun args w=> by kernel_rfl⟩
instance Sb:cb Tryz.prog 25:=⟨fun args w=> by kernel_rfl⟩
instance TU:cb Tryz.prog 26:=⟨fun args w=> by kernel_rfl⟩
instance RB:cb Tryz.prog 27:=⟨fun args w=> by kernel_rfl⟩
instance RW:cb Tryz.prog 29:=⟨fun args w=> by kernel_rfl⟩
instance RK:cb Tryz.prog 30:=⟨fun args w=> by kernel_rfl⟩
instance SW:cb Tryz.prog 31:=⟨fun args w=> by kernel_rfl⟩
instance Sa:cb Tryz.prog 32:=⟨fun args w=> by kernel_rfl⟩
instance SB:cb Tryz.prog 33:=⟨fun args w=> by kernel_rfl⟩
instance SV:cb Tryz.prog 34:=⟨fun args w=> by kernel_rfl⟩
instance Tf:cb Tryz.prog 35:=⟨fun args w=> by kernel_rfl⟩
instance Tb:cb Tryz.prog 36:=⟨fun args w=> by kernel_rfl⟩
instance TH:cb Tryz.prog 38:=⟨fun args w=> by kernel_rfl⟩
instance TK:cb Tryz.prog 39:=⟨fun args w=> by kernel_rfl⟩
instance Ud:cb Tryz.prog 44:=⟨fun args w=> by kernel_rfl⟩
instance TG:cb Tryz.prog 47:=⟨fun args w=> by kernel_rfl⟩
instance TR:cb Tryz.prog 48:=⟨fun args w=> by kernel_rfl⟩
instance SI:cb Tryz.prog 56:=⟨fun args w=> by kernel_rfl⟩
instance TT:cb Tryz.prog 57:=⟨fun args w=> by kernel_rfl⟩
instance TN:cb Tryz.prog 58:=⟨fun args w=> by kernel_rfl⟩
instance Tn:cb Tryz.prog 59:=⟨fun args w=> by kernel_rfl⟩
instance Uf:cb Tryz.prog 60:=⟨fun args w=> by kernel_rfl⟩
instance TV:cb Tryz.prog 61:=⟨fun args w=> by kernel_rfl⟩
instance RQ:cb Tryz.prog 62:=⟨fun args w=> by kernel_rfl⟩
instance RH:cb Tryz.prog 63:=⟨fun args w=> by kernel_rfl⟩
instance TL:cb Tryz.prog 64:=⟨fun args w=> by kernel_rfl⟩
instance SF:cb Tryz.prog 66:=⟨fun args w=> by kernel_rfl⟩
instance SM:cb Tryz.prog 67:=⟨fun args w=> by kernel_rfl⟩
instance SP:cb Tryz.prog 68:=⟨fun args w=> by kernel_rfl⟩
instance TC:cb Tryz.prog 69:=⟨fun args w=> by kernel_rfl⟩
instance TO:cb Tryz.prog 70:=⟨fun args w=> by kernel_rfl⟩
instance RC:cb Tryz.prog 71:=⟨fun args w=> by kernel_rfl⟩
instance RU:cb Tryz.prog 72:=⟨fun args w=> by kernel_rfl⟩
instance Rz:cb Tryz.prog 73:=⟨fun args w=> by kernel_rfl⟩
instance SN:cb Tryz.prog 74:=⟨fun args w=> by kernel_rfl⟩
instance SD:cb Tryz.prog 75:=⟨fun args w=> by kernel_rfl⟩
instance Ua:cb Tryz.prog 77:=⟨fun args w=> by kernel_rfl⟩
instance Se:cb Tryz.prog 78:=⟨fun args w=> by kernel_rfl⟩
instance SE:cb Tryz.prog 79:=⟨fun args w=> by kernel_rfl⟩
instance Sd:cb Tryz.prog 80:=⟨fun args w=> by kernel_rfl⟩
instance Sp:cb Tryz.prog 81:=⟨fun args w=> by kernel_rfl⟩
instance RL:cb Tryz.prog 82:=⟨fun args w=> by kernel_rfl⟩
instance TY:cb Tryz.prog 83:=⟨fun args w=> by kernel_rfl⟩
instance Ts:cb Tryz.prog 86:=⟨fun args w=> by kernel_rfl⟩
instance Sr:cb Tryz.prog 87:=⟨fun args w=> by kernel_rfl⟩
instance TZ:cb Tryz.prog 88:=⟨fun args w=> by kernel_rfl⟩
instance RR:cb Tryz.prog 89:=⟨fun args w=> by kernel_rfl⟩
instance TJ:cb Tryz.prog 90:=⟨fun args w=> by kernel_rfl⟩
instance Si:cb Tryz.prog 91:=⟨fun args w=> by kernel_rfl⟩
instance Sj:cb Tryz.prog 92:=⟨fun args w=> by kernel_rfl⟩
instance TS:cb Tryz.prog 93:=⟨fun args w=> by kernel_rfl⟩
instance Tz:cb Tryz.prog 94:=⟨fun args w=> by kernel_rfl⟩
instance Ti:cb Tryz.prog 95:=⟨fun args w=> by kernel_rfl⟩
instance Uc:cb Tryz.prog 96:=⟨fun args w=> by kernel_rfl⟩
instance TM:cb Tryz.prog 97:=⟨fun args w=> by kernel_rfl⟩
instance TX:cb Tryz.prog 98:=⟨fun args w=> by kernel_rfl⟩
instance PY:cb Tryz.prog 102:=⟨fun args w=> by kernel_rfl⟩
instance QH:cb Tryz.prog 103:=⟨fun args w=> by kernel_rfl⟩
instance Nx:cb Tryz.prog 105:=⟨fun args w=> by kernel_rfl⟩
instance Qa:cb Tryz.prog 106:=⟨fun args w=> by kernel_rfl⟩
instance NH:cb Tryz.prog 107:=⟨fun args w=> by kernel_rfl⟩
instance Of:cb Tryz.prog 108:=⟨fun args w=> by kernel_rfl⟩
instance PB:cb Tryz.prog 109:=⟨fun args w=> by kernel_rfl⟩
instance NX:cb Tryz.prog 110:=⟨fun args w=> by kernel_rfl⟩
instance Og:cb Tryz.prog 111:=⟨fun args w=> by kernel_rfl⟩
instance Pb:cb Tryz.prog 112:=⟨fun args w=> by kernel_rfl⟩
instance Qo:cb Tryz.prog 113:=⟨fun args w=> by kernel_rfl⟩
instance QF:cb Tryz.prog 114:=⟨fun args w=> by kernel_rfl⟩
instance QV:cb Tryz.prog 115:=⟨fun args w=> by kernel_rfl⟩
instance OA:cb Tryz.prog 116:=⟨fun args w=> by kernel_rfl⟩
instance Qx:cb Tryz.prog 117:=⟨fun args w=> by kernel_rfl⟩
instance QQ:cb Tryz.prog 118:=⟨fun args w=> by kernel_rfl⟩
instance OT:cb Tryz.prog 119:=⟨fun args w=> by kernel_rfl⟩
instance Ok:cb Tryz.prog 120:=⟨fun args w=> by kernel_rfl⟩
instance OS:cb Tryz.prog 121:=⟨fun args w=> by kernel_rfl⟩
instance OI:cb Tryz.prog 122:=⟨fun args w=> by kernel_rfl⟩
instance PA:cb Tryz.prog 123:=⟨fun args w=> by kernel_rfl⟩
instance Po:cb Tryz.prog 124:=⟨fun args w=> by kernel_rfl⟩
instance Ql:cb Tryz.prog 125:=⟨fun args w=> by kernel_rfl⟩
instance Rv:cb Tryz.prog 126:=⟨fun args w=> by kernel_rfl⟩
instance OM:cb Tryz.prog 127:=⟨fun args w=> by kernel_rfl⟩
instance Qf:cb Tryz.prog 128:=⟨fun args w=> by kernel_rfl⟩
instance Pw:cb Tryz.prog 129:=⟨fun args w=> by kernel_rfl⟩
instance PC:cb Tryz.prog 130:=⟨fun args w=> by kernel_rfl⟩
instance Od:cb Tryz.prog 131:=⟨fun args w=> by kernel_rfl⟩
instance Oq:cb Tryz.prog 132:=⟨fun args w=> by kernel_rfl⟩
instance Qw:cb Tryz.prog 133:=⟨fun args w=> by kernel_rfl⟩
instance Qu:cb Tryz.prog 134:=⟨fun args w=> by kernel_rfl⟩
instance PN:cb Tryz.prog 135:=⟨fun args w=> by kernel_rfl⟩
instance OC:cb Tryz.prog 136:=⟨fun args w=> by kernel_rfl⟩
instance QB:cb Tryz.prog 137:=⟨fun args w=> by kernel_rfl⟩
instance NW:cb Tryz.prog 138:=⟨fun args w=> by kernel_rfl⟩
instance Pl:cb Tryz.prog 139:=⟨fun args w=> by kernel_rfl⟩
instance Nv:cb Tryz.prog 140:=⟨fun args w=> by kernel_rfl⟩
instance Rq:cb Tryz.prog 141:=⟨fun args w=> by kernel_rfl⟩
instance OF:cb Tryz.prog 142:=⟨fun args w=> by kernel_rfl⟩
instance Qd:cb Tryz.prog 143:=⟨fun args w=> by kernel_rfl⟩
instance Oy:cb Tryz.prog 144:=⟨fun args w=> by kernel_rfl⟩
instance OR:cb Tryz.prog 145:=⟨fun args w=> by kernel_rfl⟩
instance Ra:cb Tryz.prog 146:=⟨fun args w=> by kernel_rfl⟩
instance Pr:cb Tryz.prog 147:=⟨fun args w=> by kernel_rfl⟩
instance Pc:cb Tryz.prog 148:=⟨fun args w=> by kernel_rfl⟩
instance Qq:cb Tryz.prog 149:=⟨fun args w=> by kernel_rfl⟩
instance Qs:cb Tryz.prog 150:=⟨fun args w=> by kernel_rfl⟩
instance Oz:cb Tryz.prog 151:=⟨fun args w=> by kernel_rfl⟩
instance Nt:cb Tryz.prog 152:=⟨fun args w=> by kernel_rfl⟩
instance On:cb Tryz.prog 153:=⟨fun args w=> by kernel_rfl⟩
instance NU:cb Tryz.prog 154:=⟨fun args w=> by kernel_rfl⟩
instance PZ:cb Tryz.prog 155:=⟨fun args w=> by kernel_rfl⟩
instance Ro:cb Tryz.prog 156:=⟨fun args w=> by kernel_rfl⟩
instance Pt:cb Tryz.prog 157:=⟨fun args w=> by kernel_rfl⟩
instance Pp:cb Tryz.prog 158:=⟨fun args w=> by kernel_rfl⟩
instance Ol:cb Tryz.prog 159:=⟨fun args w=> by kernel_rfl⟩
instance NJ:cb Tryz.prog 160:=⟨fun args w=> by kernel_rfl⟩
instance Qy:cb Tryz.prog 161:=⟨fun args w=> by kernel_rfl⟩
instance Rb:cb Tryz.prog 162:=⟨fun args w=> by kernel_rfl⟩
instance OV:cb Tryz.prog 163:=⟨fun args w=> by kernel_rfl⟩
instance OX:cb Tryz.prog 164:=⟨fun args w=> by kernel_rfl⟩
instance Nl:cb Tryz.prog 165:=⟨fun args w=> by kernel_rfl⟩
instance QE:cb Tryz.prog 166:=⟨fun args w=> by kernel_rfl⟩
instance PW:cb Tryz.prog 167:=⟨fun args w=> by kernel_rfl⟩
instance NS:cb Tryz.prog 168:=⟨fun args w=> by kernel_rfl⟩
instance QZ:cb Tryz.prog 169:=⟨fun args w=> by kernel_rfl⟩
instance PT:cb Tryz.prog 170:=⟨fun args w=> by kernel_rfl⟩
instance Pz:cb Tryz.prog 171:=⟨fun args w=> by kernel_rfl⟩
instance Qc:cb Tryz.prog 173:=⟨fun args w=> by kernel_rfl⟩
instance Oi:cb Tryz.prog 176:=⟨fun args w=> by kernel_rfl⟩
instance Nz:cb Tryz.prog 177:=⟨fun args w=> by kernel_rfl⟩
instance Pi:cb Tryz.prog 183:=⟨fun args w=> by kernel_rfl⟩
instance OU:cb Tryz.prog 184:=⟨fun args w=> by kernel_rfl⟩
instance QW:cb Tryz.prog 185:=⟨fun args w=> by kernel_rfl⟩
instance QL:cb Tryz.prog 186:=⟨fun args w=> by kernel_rfl⟩
instance OH:cb Tryz.prog 187:=⟨fun args w=> by kernel_rfl⟩
instance OZ:cb Tryz.prog 188:=⟨fun args w=> by kernel_rfl⟩
instance Nw:cb Tryz.prog 189:=⟨fun args w=> by kernel_rfl⟩
instance Ru:cb Tryz.prog 190:=⟨fun args w=> by kernel_rfl⟩
instance NG:cb Tryz.prog 191:=⟨fun args w=> by kernel_rfl⟩
instance Qt:cb Tryz.prog 192:=⟨fun args w=> by kernel_rfl⟩
instance Ny:cb Tryz.prog 194:=⟨fun args w=> by kernel_rfl⟩
instance Nk:cb Tryz.prog 195:=⟨fun args w=> by kernel_rfl⟩
instance Ox:cb Tryz.prog 196:=⟨fun args w=> by kernel_rfl⟩
instance PM:cb Tryz.prog 197:=⟨fun args w=> by kernel_rfl⟩
instance NQ:cb Tryz.prog 198:=⟨fun args w=> by kernel_rfl⟩
instance Qp:cb Tryz.prog 199:=⟨fun args w=> by kernel_rfl⟩
instance Nu:cb Tryz.prog 200:=⟨fun args w=> by kernel_rfl⟩
instance Pu:cb Tryz.prog 201:=⟨fun args w=> by kernel_rfl⟩
instance PR:cb Tryz.prog 202:=⟨fun args w=> by kernel_rfl⟩
instance Pv:cb Tryz.prog 203:=⟨fun args w=> by kernel_rfl⟩
instance Qg:cb Tryz.prog 204:=⟨fun args w=> by kernel_rfl⟩
instance Rj:cb Tryz.prog 205:=⟨fun args w=> by kernel_rfl⟩
instance ND:cb Tryz.prog 207:=⟨fun args w=> by kernel_rfl⟩
instance Rn:cb Tryz.prog 211:=⟨fun args w=> by kernel_rfl⟩
instance QU:cb Tryz.prog 212:=⟨fun args w=> by kernel_rfl⟩
instance Np:cb Tryz.prog 213:=⟨fun args w=> by kernel_rfl⟩
instance Pe:cb Tryz.prog 214:=⟨fun args w=> by kernel_rfl⟩
instance Nn:cb Tryz.prog 215:=⟨fun args w=> by kernel_rfl⟩
instance Rm:cb Tryz.prog 216:=⟨fun args w=> by kernel_rfl⟩
instance NY:cb Tryz.prog 217:=⟨fun args w=> by kernel_rfl⟩
instance Px:cb Tryz.prog 218:=⟨fun args w=> by kernel_rfl⟩
instance NO:cb Tryz.prog 221:=⟨fun args w=> by kernel_rfl⟩
instance OW:cb Tryz.prog 222:=⟨fun args w=> by kernel_rfl⟩
instance QO:cb Tryz.prog 223:=⟨fun args w=> by kernel_rfl⟩
instance Om:cb Tryz.prog 224:=⟨fun args w=> by kernel_rfl⟩
instance Oo:cb Tryz.prog 225:=⟨fun args w=> by kernel_rfl⟩
instance Rh:cb Tryz.prog 226:=⟨fun args w=> by kernel_rfl⟩
instance Py:cb Tryz.prog 227:=⟨fun args w=> by kernel_rfl⟩
instance QX:cb Tryz.prog 235:=⟨fun args w=> by kernel_rfl⟩
instance PI:cb Tryz.prog 236:=⟨fun args w=> by kernel_rfl⟩
instance QJ:cb Tryz.prog 237:=⟨fun args w=> by kernel_rfl⟩
instance QT:cb Tryz.prog 240:=⟨fun args w=> by kernel_rfl⟩
end Go.Proofs.YtmjnackchaahbaaGreat
