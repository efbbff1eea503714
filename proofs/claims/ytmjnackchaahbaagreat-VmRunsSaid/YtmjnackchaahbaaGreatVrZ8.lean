/- Part 8 of the texts that the walk leans on: the machine, the walks, the plain laws. -/
import Derived.Test.YtmjnackchaahbaaGreatVrZ7
set_option linter.unusedSimpArgs false
set_option linter.unusedVariables false
namespace Go.Proofs.YtmjnackchaahbaaGreat
open Go.RowKit

def fe:Ex→Nat
  | .int _=> 1 | .bool _=> 2 | .var _=> 1 | .name _=> 1
  | .draw e=> if fe e=1 then 1 else 0
  | .neg e=> if fe e=1 then 1 else 0
  | .not e=> if fe e=2 then 2 else 0
  | .bin o a b=> if fe a=1∧fe b=1 then (match o with | .add=> 1 | .sub=> 1 | .mul=> 1 | .div=> 1 | _=> 2) else 0
  | .and a b=> if fe a=2∧fe b=2 then 2 else 0
  | .or a b=> if fe a=2∧fe b=2 then 2 else 0
def nb (e:Ex):Bool:=Nat.beq (fe e) 1
mutual
def wj:Sm→Bool
  | .assign _ e=> nb e
  | .send t _ a b=> nb t && nb a && nb b
  | .timer _=> true | .cancel _=> true | .sync=> true | .stop=> true
  | .reply a b=> nb a && nb b
  | .fail e=> nb e
  | .loop c b=> Nat.beq (fe c) 2 && oK b
  | .ite c a b=> Nat.beq (fe c) 2 && oK a && oK b
def oK:Bk→Bool
  | .nil=> true
  | .cons s b=> wj s && oK b
end
def eP (nv:Nat):Ex→Bool
  | .int n=> decide (-2147483647≤n) && decide (n≤2147483647)
  | .bool _=> true
  | .var i=> decide (i < nv)
  | .name k=> decide (k < 9)
  | .draw e=> eP nv e | .neg e=> eP nv e | .not e=> eP nv e
  | .bin _ a b=> eP nv a && eP nv b
  | .and a b=> eP nv a && eP nv b
  | .or a b=> eP nv a && eP nv b
mutual
def la (nv:Nat):Sm→Bool
  | .assign i e=> decide (i < nv) && eP nv e
  | .send t k a b=> decide (k < 30) && eP nv t && eP nv a && eP nv b
  | .timer k=> decide (k < 8) | .cancel k=> decide (k < 8) | .sync=> true | .stop=> true
  | .reply a b=> eP nv a && eP nv b
  | .fail e=> eP nv e
  | .loop c b=> eP nv c && oy nv b
  | .ite c a b=> eP nv c && oy nv a && oy nv b
def oy (nv:Nat):Bk→Bool
  | .nil=> true
  | .cons s b=> la nv s && oy nv b
end
theorem dy (nv:Nat): ∀ e,eP nv e=true→fG nv e
  | .int n,h=> by simpa [eP,fG] using h
  | .bool _,_=> trivial
  | .var i,h=> by simpa [eP,fG] using h
  | .name k,h=> by simpa [eP,fG] using h
  | .draw e,h=> dy nv e h
  | .neg e,h=> dy nv e h
  | .not e,h=> dy nv e h
  | .bin _ a b,h=> by simp only [eP,Bool.and_eq_true] at h;exact ⟨dy nv a h.1,dy nv b h.2⟩
  | .and a b,h=> by simp only [eP,Bool.and_eq_true] at h;exact ⟨dy nv a h.1,dy nv b h.2⟩
  | .or a b,h=> by simp only [eP,Bool.and_eq_true] at h;exact ⟨dy nv a h.1,dy nv b h.2⟩
mutual
theorem xq (nv:Nat): ∀ s,la nv s=true→ft nv s
  | .assign i e,h=> by simp only [la,Bool.and_eq_true,decide_eq_true_eq] at h;exact ⟨h.1,dy nv e h.2⟩
  | .send t k a b,h=> by simp only [la,Bool.and_eq_true,decide_eq_true_eq] at h;exact ⟨h.1.1.1,dy nv t h.1.1.2,dy nv a h.1.2,dy nv b h.2⟩
  | .timer k,h=> by simpa [la,ft] using h
  | .cancel k,h=> by simpa [la,ft] using h
  | .sync,_=> by simp [ft]
  | .stop,_=> by simp [ft]
  | .reply a b,h=> by simp only [la,Bool.and_eq_true] at h;exact ⟨dy nv a h.1,dy nv b h.2⟩
  | .fail e,h=> by simp only [la] at h;exact dy nv e h
  | .loop c b,h=> by simp only [la,Bool.and_eq_true] at h;exact ⟨dy nv c h.1,kg nv b h.2⟩
  | .ite c a b,h=> by simp only [la,Bool.and_eq_true] at h;exact ⟨dy nv c h.1.1,kg nv a h.1.2,kg nv b h.2⟩
theorem kg (nv:Nat): ∀ b,oy nv b=true→iB nv b
  | .nil,_=> by simp [iB]
  | .cons s b,h=> by simp only [oy,Bool.and_eq_true] at h;exact ⟨xq nv s h.1,kg nv b h.2⟩
end
structure FX (l:List (Nat×Bk)) (nv:Nat):Prop where
  ok: ∀ p∈l,iB nv p.2
  wl: ∀ p∈l,oK p.2=true
  n:(bU l 0).length≤400
  h: ∀ p∈l,p.1 < 40
  nd:(l.map (·.1)).Nodup
  d: ∀ k∈kP l,k≤8
def srcB (l:List (Nat×Bk)) (nv:Nat):Bool:=l.all (fun p=> oy nv p.2 && oK p.2 && decide (p.1 < 40)) && decide ((bU l 0).length≤400) && decide (l.map (·.1)).Nodup && (kP l).all fun k=> decide (k≤8)
theorem Ag {l:List (Nat×Bk)} {nv:Nat} (h:srcB l nv=true):FX l nv:=by
  simp only [srcB,Bool.and_eq_true,List.all_eq_true,decide_eq_true_eq] at h
  exact ⟨fun p hp=> kg nv _ (h.1.1.1 p hp).1.1,fun p hp=> (h.1.1.1 p hp).1.2,h.1.1.2,fun p hp=> (h.1.1.1 p hp).2,h.1.2,h.2⟩
theorem srcOkL:FX onsL (BH++Bv).length:=Ag ae
def qX (l:List (Nat×Bk)) (i:Nat):Nat:=(kP l).getD i 0
theorem nw (l:List (Nat×Bk)):Fit (qX l) 0 (kP l):=fun k d h=> by
  unfold qX
  rw [Nat.zero_add,List.getD_eq_getElem?_getD,h];rfl
theorem Cb {l:List (Nat×Bk)} {nv dur:Nat} {names ans:List Int} (hn:nv≤16) (ho: ∀ p∈l,iB nv p.2) (hm: ∀ i,Rg (names.getD i 0)):PG ⟨bU l 0,dur,names,ans⟩ (qX l) nv:=
  ⟨tT (qX l) nv l 0 0 ((bU l 0).length - 1) ho (nw l) (Nat.le_refl _) ab,hn,hm⟩
def re (n k:Int):List eQ:=[{ op:= .var },{ op:= .push,n:=n },{ op:= .lt },{ op:= .unl,n:=13 },{ op:= .push,n:=k },{ op:= .var },{ op:= .push,n:=5 },{ op:= .send,n:=7 },
  { op:= .var },{ op:= .push,n:=1 },{ op:= .add },{ op:= .setVar },{ op:= .jump },{ op:= .stop }]
def ro (i:Nat):Nat:=[0,1,2,1,0,1,2,3,0,1,2,1,0,0].getD i 0
theorem Av {n k:Int} (hn:Rg n) (hk:Rg k) {names ans:List Int} (hm: ∀ i,Rg (names.getD i 0)):PG ⟨re n k,1,names,ans⟩ ro 1:=by
  refine ⟨fun i x hx=> ?_,by omega,hm⟩
  unfold re at hx ⊢
  rw [Nat.zero_add]
  rcases i with _ | _ | _ | _ | _ | _ | _ | _ | _ | _ | _ | _ | _ | _ | i
  all_goals first | (simp at hx;done) | (simp only [List.getElem?_cons_zero,List.getElem?_cons_succ,Option.some.injEq] at hx;subst hx)
  all_goals refine ⟨?_,?_,fun j hj=> ?_⟩
  all_goals first | exact hn | exact hk | (simp [dh];done) | (simp [Opc.pops,ro];done) | (simp [dI] at hj;done) | (simp [dI] at hj;subst hj;simp [ro,Opc.pops,Opc.puts];done) | (simp [dI] at hj;rcases hj with rfl | rfl <;> simp [ro,Opc.pops,Opc.puts];done)

abbrev DS:=List Int×Bool×Bool
def iz (n:Nat) (d:Int) (s:DS) (j:Nat):DS:=
  if n≤j then s else if s.1.getD j (-1) < 0 then (s.1.set j d,s.2.1,true) else if s.1.getD j (-1)≠d then (s.1,false,s.2.2) else s
def cP (C:List eQ) (i:Nat):eQ:=C.getD i { op:= .stop }
def Ap (C:List eQ) (i:Nat) (s:DS):Int:=max (s.1.getD i (-1) - (cP C i).op.pops) 0+(cP C i).op.puts
def jV (C:List eQ) (s:DS) (i:Nat):DS:=
  if s.1.getD i (-1) < 0 then s
  else (dI i (cP C i)).foldl (iz C.length (Ap C i s)) (s.1,if s.1.getD i (-1) - (cP C i).op.pops < 0 then false else s.2.1,s.2.2)
def dA (C:List eQ) (s:List Int×Bool) (k:Nat):DS:=(List.range k).foldl (jV C) (s.1,s.2,false)
theorem oB (C:List eQ) (s:List Int×Bool) (k:Nat):dA C s (k+1)=jV C (dA C s k) k:=by simp [dA,List.range_succ,List.foldl_append]
def iH (C:List eQ):Nat→List Int×Bool→List Int×Bool
  | 0,s=> s
  | f+1,s=> if (dA C s C.length).2.2=true then iH C f ((dA C s C.length).1,(dA C s C.length).2.1) else ((dA C s C.length).1,(dA C s C.length).2.1)
def neg (l:List Int):Nat:=l.countP fun x=> decide (x < 0)
theorem zT {l:List Int} {j:Nat} {d:Int} (hj:j < l.length) (h:l.getD j (-1) < 0) (hd:0≤d):neg (l.set j d)+1=neg l:=by
  unfold neg
  have e:l=l.take j++l[j]::l.drop (j+1):=by rw [List.getElem_cons_drop hj,List.take_append_drop]
  have h':l[j] < 0:=by rwa [List.getD_eq_getElem?_getD,List.getElem?_eq_getElem hj] at h
  rw [List.set_eq_take_append_cons_drop,if_pos hj]
  conv=> rhs;rw [e]
  simp only [List.countP_append,List.countP_cons]
  rw [decide_eq_true h',decide_eq_false (show ¬ d < 0 by omega)]
  simp
  omega
structure DI (D:Nat→Nat) (n:Nat) (s:DS):Prop where
  len:s.1.length=n
  val: ∀ i,i < n→s.1.getD i (-1)= -1∨s.1.getD i (-1)=(D i:Int)
  ok:s.2.1=true
theorem jj {l:List Int} {j i:Nat} {d:Int}:(l.set j d).getD i (-1)=if i=j∧j < l.length then d else l.getD i (-1):=by
  simp only [List.getD_eq_getElem?_getD,List.getElem?_set]
  by_cases h:j=i
  · subst h
    by_cases h2:j < l.length
    · simp [h2]
    · simp [h2]
  · simp [h,Ne.symm h]
theorem Ak {D:Nat→Nat} {n:Nat} {d:Int} {s:DS} {j:Nat} (h:DI D n s) (hd:d=(D j:Int)):DI D n (iz n d s j)∧neg (iz n d s j).1≤neg s.1∧((iz n d s j).2.2=true→s.2.2=true∨neg (iz n d s j).1 < neg s.1):=by
  unfold iz
  split
  · exact ⟨h,Nat.le_refl _,fun e=> .inl e⟩
  · rename_i hj
    split
    · rename_i hn
      have:=zT (l:=s.1) (j:=j) (d:=d) (by rw [h.len];omega) hn ab
      refine ⟨⟨by rw [List.length_set];exact h.len,fun i hi=> ?_,h.ok⟩,by simp only;omega,fun _=> .inr (by simp only;omega)⟩
      simp only
      rw [jj]
      split
      · rename_i hc;rw [hc.1];exact .inr hd
      · exact h.val i hi
    · rename_i hn
      have hv:=h.val j ab
      have:s.1.getD j (-1)=d:=by rw [hd];rcases hv with hv | hv <;> omega
      rw [if_neg (fun hc=> hc this)]
      exact ⟨h,Nat.le_refl _,fun e=> .inl e⟩
theorem lG {D:Nat→Nat} {n:Nat} {d:Int}: ∀ (l:List Nat) {s:DS},DI D n s→(∀ j∈l,d=(D j:Int))→DI D n (l.foldl (iz n d) s)∧neg (l.foldl (iz n d) s).1≤neg s.1∧((l.foldl (iz n d) s).2.2=true→s.2.2=true∨neg (l.foldl (iz n d) s).1 < neg s.1)
  | [],s,h,_=> ⟨h,Nat.le_refl _,fun e=> .inl e⟩
  | j::l,s,h,hd=> by
    obtain ⟨a1,a2,a3⟩:=Ak h (hd j (by simp))
    obtain ⟨b1,b2,b3⟩:=lG l a1 fun j hj=> hd j (by simp [hj])
    simp only [List.foldl_cons]
    refine ⟨b1,by omega,fun e=> ?_⟩
    rcases b3 e with e | e
    · rcases a3 e with e | e
      · exact .inl e
      · exact .inr ab
    · exact .inr ab
section
variable {D:Nat→Nat} {nv:Nat} {C:List eQ} (hC:Good D nv 0 (C.length - 1) 0 C)
include hC
theorem xb {s:DS} {i:Nat} (hi:i < C.length) (h:DI D C.length s):DI D C.length (jV C s i)∧neg (jV C s i).1≤neg s.1∧((jV C s i).2.2=true→s.2.2=true∨neg (jV C s i).1 < neg s.1):=by
  unfold jV
  split
  · exact ⟨h,Nat.le_refl _,fun e=> .inl e⟩
  · rename_i hn
    have hx:C[i]? =some (cP C i):=by unfold cP;rw [List.getD_eq_getElem?_getD,List.getElem?_eq_getElem hi];rfl
    obtain ⟨_,g2,g3⟩:=hC i _ hx
    rw [Nat.zero_add] at g2 g3
    have hv:s.1.getD i (-1)=(D i:Int):=by rcases h.val i hi with hv | hv <;> omega
    have hdo:Ap C i s=((D i - (cP C i).op.pops+(cP C i).op.puts:Nat):Int):=by unfold Ap;rw [hv];omega
    rw [if_neg (by rw [hv];omega)]
    exact lG _ ⟨h.len,h.val,h.ok⟩ fun j hj=> by rw [hdo,(g3 j hj).2.2]
theorem jW {s:List Int×Bool} (h:DI D C.length (s.1,s.2,false)): ∀ k,k≤C.length→DI D C.length (dA C s k)∧neg (dA C s k).1≤neg s.1∧((dA C s k).2.2=true→neg (dA C s k).1 < neg s.1)
  | 0,_=> ⟨h,Nat.le_refl _,fun e=> by simp [dA] at e⟩
  | k+1,hk=> by
    obtain ⟨a1,a2,a3⟩:=jW h k ab
    obtain ⟨b1,b2,b3⟩:=xb hC ab a1 (i:=k)
    rw [oB]
    refine ⟨b1,by omega,fun e=> ?_⟩
    rcases b3 e with e | e
    · have:=a3 e;omega
    · omega
theorem rY: ∀ f (s:List Int×Bool),DI D C.length (s.1,s.2,false)→DI D C.length ((iH C f s).1,(iH C f s).2,false)
  | 0,s,h=> h
  | f+1,s,h=> by
    obtain ⟨a1,_,_⟩:=jW hC h C.length (Nat.le_refl _)
    unfold iH
    split
    · exact rY f _ ⟨a1.len,a1.val,a1.ok⟩
    · exact ⟨a1.len,a1.val,a1.ok⟩
end
theorem sW {C:List eQ} {f:Nat} {s:List Int×Bool} (h:(dA C s C.length).2.2=true):iH C (f+1) s=iH C f ((dA C s C.length).1,(dA C s C.length).2.1):=by rw [iH,if_pos h]
theorem sU {C:List eQ} {f:Nat} {s:List Int×Bool} (h:(dA C s C.length).2.2=false):iH C (f+1) s=((dA C s C.length).1,(dA C s C.length).2.1):=by rw [iH,if_neg (by simp [h])]
def ix (C:List eQ) (e:Int):List Int×Bool:=if e < 0∨(C.length:Int)≤e then (List.replicate C.length (-1),true) else iH C (C.length+1) ((List.replicate C.length (-1)).set e.toNat 0,true)
theorem oG {D:Nat→Nat} {nv:Nat} {C:List eQ} (hC:Good D nv 0 (C.length - 1) 0 C) {e:Int} (he:0≤e→e < C.length→D e.toNat=0):DI D C.length ((ix C e).1,(ix C e).2,false):=by
  have hr: ∀ i,(List.replicate C.length (-1:Int)).getD i (-1)= -1:=fun i=> by rw [List.getD_eq_getElem?_getD,List.getElem?_replicate];split <;> rfl
  unfold ix
  split
  · exact ⟨by simp,fun i _=> .inl (hr i),rfl⟩
  · refine rY hC _ _ ⟨by simp,fun i hi=> ?_,rfl⟩
    simp only
    rw [jj]
    split
    · rename_i hc
      right
      rw [hc.1,he ab ab];rfl
    · exact .inl (hr i)
def jN (C:List eQ) (out:List Int) (k:Nat):Int:=(List.range k).foldl (fun m i=> if 0≤out.getD i (-1) then max (max m (out.getD i (-1))) (out.getD i (-1) - (cP C i).op.pops+(cP C i).op.puts) else m) 0
theorem ou (C:List eQ) (out:List Int) (k:Nat):jN C out (k+1)=if 0≤out.getD k (-1) then max (max (jN C out k) (out.getD k (-1))) (out.getD k (-1) - (cP C k).op.pops+(cP C k).op.puts) else jN C out k:=by simp [jN,List.range_succ,List.foldl_append]
theorem zG (o:Opc):o.puts≤1:=by cases o <;> decide
theorem lB {C:List eQ} {out:List Int} {D:Nat→Nat} {n:Nat} {ok ch:Bool} (h:DI D n (out,ok,ch)) {B:Nat} (hB: ∀ i,i < n→D i≤B): ∀ k,k≤n→0≤jN C out k∧jN C out k≤B+1
  | 0,_=> by simp [jN];omega
  | k+1,hk=> by
    obtain ⟨h1,h2⟩:=lB (C:=C) h hB k ab
    have h3:=hB k ab
    have h4:out.getD k (-1)= -1∨out.getD k (-1)=(D k:Int):=h.val k ab
    have h5:=zG (cP C k).op
    have h6:=ou C out k
    rw [h6]
    rcases h4 with h4 | h4 <;> rw [h4] <;> split <;> omega
def mt (l:List (Nat×Nat)):List Int:=l.foldl (fun m p=> m.set p.1 (p.2:Int)) (List.replicate 40 (-1))
theorem zc (l:List (Nat×Nat)):(mt l).length=40:=by
  unfold mt
  have: ∀ (l:List (Nat×Nat)) (m:List Int),m.length=40→(l.foldl (fun m p=> m.set p.1 (p.2:Int)) m).length=40:=by
    intro l
    induction l with
    | nil=> exact fun m h=> h
    | cons p l ih=> exact fun m h=> ih _ (by rw [List.length_set];exact h)
  exact this l _ (by simp)
theorem wH: ∀ (l:List (Nat×Nat)) (h:Nat),(mt l).getD h (-1)= -1∨ ∃ e,(h,e)∈l∧(mt l).getD h (-1)=(e:Int):=by
  unfold mt
  have key: ∀ (l:List (Nat×Nat)) (m:List Int) (h:Nat),(l.foldl (fun m p=> m.set p.1 (p.2:Int)) m).getD h (-1)=m.getD h (-1)∨ ∃ e,(h,e)∈l∧(l.foldl (fun m p=> m.set p.1 (p.2:Int)) m).getD h (-1)=(e:Int):=by
    intro l
    induction l with
    | nil=> exact fun m h=> .inl rfl
    | cons p l ih=>
      intro m h
      simp only [List.foldl_cons]
      rcases ih (m.set p.1 (p.2:Int)) h with e | ⟨e,h1,h2⟩
      · rw [e,jj]
        split
        · rename_i hc
          exact .inr ⟨p.2,by rw [hc.1];exact List.mem_cons_self,rfl⟩
        · exact .inl rfl
      · exact .inr ⟨e,List.mem_cons_of_mem _ h1,h2⟩
  intro l h
  rcases key l (List.replicate 40 (-1)) h with e | e
  · left
    rw [e,List.getD_eq_getElem?_getD,List.getElem?_replicate]
    split <;> rfl
  · exact .inr e
def ip (l:List (Nat×Bk)):Bool:=decide ((bU l 0).length≤400) && (List.range 40).all fun h=> decide (jN (bU l 0) (ix (bU l 0) ((mt (jn l 0)).getD h (-1))).1 (bU l 0).length≤16)
theorem tj (l:List (Nat×Bk)) (h:Nat):(mt (jn l 0)).getD h (-1)= -1∨ ∃ e:Nat,(h,e)∈jn l 0∧(mt (jn l 0)).getD h (-1)=(e:Int)∧e < (bU l 0).length∧qX l e=0:=by
  rcases wH (jn l 0) h with e | ⟨e,h1,h2⟩
  · exact .inl e
  · obtain ⟨_,h4,h5⟩:=ub (nw l) h1
    exact .inr ⟨e,h1,h2,by omega,h5⟩
theorem uJ {l:List (Nat×Bk)} {nv:Nat} (hs:FX l nv):ip l=true:=by
  unfold ip
  rw [Bool.and_eq_true,decide_eq_true_eq,List.all_eq_true]
  refine ⟨hs.n,fun h _=> ?_⟩
  rw [decide_eq_true_eq]
  have hg:=tT (qX l) nv l 0 0 ((bU l 0).length - 1) hs.ok (nw l) (Nat.le_refl _) ab
  have hd:=oG hg (e:=(mt (jn l 0)).getD h (-1)) (fun h1 h2=> by
    rcases tj l h with e | ⟨e,_,e2,_,e4⟩
    · omega
    · rw [e2];exact e4)
  have hB: ∀ i,i < (bU l 0).length→qX l i≤8:=fun i hi=> by
    unfold qX
    rw [← oF l 0] at hi
    rw [List.getD_eq_getElem?_getD,List.getElem?_eq_getElem hi]
    exact hs.d _ (List.getElem_mem hi)
  have:=(lB (C:=bU l 0) hd hB _ (Nat.le_refl _)).2
  omega

theorem mz {α β:Type} (f:α→List β) (c:Nat) (hf: ∀ a,(f a).length=c): ∀ l:List α,(l.flatMap f).length=l.length*c
 | []=> by simp
 | a::l=> by rw [List.flatMap_cons,List.length_append,hf,mz f c hf l,List.length_cons,Nat.succ_mul];omega
theorem np {α β:Type} (f:α→List β) (c:Nat) (hf: ∀ a,(f a).length=c): ∀ (l:List α) (k:Nat),(l.flatMap f).drop (k*c)=(l.drop k).flatMap f
 | l,0=> by simp
 | [],k+1=> by simp
 | a::l,k+1=> by
  rw [List.flatMap_cons,List.drop_succ_cons,← np f c hf l k,List.drop_append,List.drop_eq_nil_of_le (by rw [hf,Nat.succ_mul];omega),List.nil_append,hf]
  congr 1;rw [Nat.succ_mul];omega
theorem oP {α β:Type} (f:α→List β) (c:Nat) (hf: ∀ a,(f a).length=c) (l:List α) (k:Nat) (h:k < l.length):((l.flatMap f).drop (k*c)).take c=f l[k]:=by
 rw [np f c hf,List.drop_eq_getElem_cons h,List.flatMap_cons,List.take_append_of_le_length (by rw [hf];exact Nat.le_refl _),List.take_of_length_le (by rw [hf];exact Nat.le_refl _)]
theorem mH {α β:Type} (f:α→List β) (c:Nat) (hf: ∀ a,(f a).length=c) (l:List α) (k j:Nat) (h:k < l.length) (hj:j < c):(l.flatMap f)[k*c+j]? =(f l[k])[j]? :=by
 rw [← oP f c hf l k h,List.getElem?_take_of_lt hj,List.getElem?_drop]
theorem mo {α β:Type} (f:α→List β) (l:List α) (a:α):l.flatMap f++f a=(l++[a]).flatMap f:=by simp
theorem yU {α β:Type} (f:α→List β) (l m:List α):l.flatMap f++m.flatMap f=(l++m).flatMap f:=by simp

def ea (l:List Tx):List PV:=l.map fun t=> .v (bt t)
@[simp] theorem bG (l:List Tx):(ea l).length=l.length:=by simp [ea]
theorem fK (l:List Tx) (k:Nat) (h:k < l.length):(ea l)[k]? =some (.v (bt (l.getD k []))):=by simp [ea,h]
theorem nY (a b:List Tx):ea a++ea b=ea (a++b):=by simp [ea]
theorem mw (a:List Tx) (t:Tx):ea a++[.v (bt t)]=ea (a++[t]):=by simp [ea]
theorem iY {l:List Tx} {k:Nat} (h:k < l.length):l.getD k []∈l:=by
 rw [List.getD_eq_getElem?_getD,List.getElem?_eq_getElem h];exact List.getElem_mem h
theorem jF {α:Type} {l:List α} {k:Nat} {x d:α} (h:x∉l.take k) (hk:k < l.length) (hx:l.getD k d≠x):x∉l.take (k+1):=by
 rw [List.take_succ_eq_append_getElem hk,List.mem_append,List.mem_singleton]
 rintro (h' | h')
 ·exact h h'
 ·exact hx (by rw [List.getD_eq_getElem?_getD,List.getElem?_eq_getElem hk,h'];rfl)

def BU (t:Tk):List PV:=[.v (.int .i64 (t.k:Int)), .v (.int .i64 (t.a:Int)), .v (bt t.t), .v (.int .i64 (t.n:Int))]
def qT (l:List Tk):List PV:=l.flatMap BU
theorem bE (l:List Tk):(qT l).length=l.length*4:=mz BU 4 (fun _=> rfl) l
theorem tn (l:List Tk) (k:Nat) (h:k < l.length):dc l k=l[k]:=by simp [dc,h]
theorem oN (l:List Tk) (k:Nat) (h:k < l.length):(qT l)[k*4]? =some (.v (.int .i64 ((dc l k).k:Int))):=by
 rw [tn l k h];exact mH BU 4 (fun _=> rfl) l k 0 h ab
theorem mc (l:List Tk) (k:Nat) (h:k < l.length):(qT l)[k*4+2]? =some (.v (bt (dc l k).t)):=by
 rw [tn l k h];exact mH BU 4 (fun _=> rfl) l k 2 h ab
theorem mi (l:List Tk) (k:Nat) (h:k < l.length):PV.ups (((qT l).drop (k*4)).take 4)=[.v (.int .i64 ((dc l k).k:Int)), .v (.int .i64 ((dc l k).a:Int)), .v (bt (dc l k).t), .v (.int .i64 ((dc l k).n:Int))]:=by
 rw [tn l k h,show ((qT l).drop (k*4)).take 4=BU l[k] from oP BU 4 (fun _=> rfl) l k h];rfl
theorem rS (l:List Tk) (t:Tk):qT l++BU t=qT (l++[t]):=mo BU l t

theorem fM {s:Tx} {a:Nat} {b:UInt8} (h:s[a]? =some b):s.drop a=b::s.drop (a+1):=by
 obtain ⟨hl,rfl⟩:=List.getElem?_eq_some_iff.1 h
 exact List.drop_eq_getElem_cons hl
theorem jD {s:Tx} {a:Nat} (h:a < s.length): ∃ b,s[a]? =some b:=⟨_,List.getElem?_eq_getElem h⟩
theorem Hh (b:UInt8):0≤(b.toNat:Int)∧(b.toNat:Int) < 256:=⟨by omega,by have:=b.toNat_lt;omega⟩
def jM (s:Tx) (a:Nat) (c:Bool):Nat:=a+qW (s.drop a) c
theorem qf {s:Tx} {a:Nat} (h:s.length≤a) (c:Bool):jM s a c=a:=by
 unfold jM;rw [List.drop_eq_nil_of_le h];unfold qW;rfl
theorem Dd {s:Tx} {a:Nat} {b:UInt8} (h:s[a]? =some b) (hb:b.toNat=10):jM s a true=jM s a false:=by
 unfold jM;rw [fM h];simp [qW,hb]
theorem CZ {s:Tx} {a:Nat} {b:UInt8} (h:s[a]? =some b) (hb:b.toNat≠10):jM s a true=jM s (a+1) true:=by
 unfold jM;rw [fM h];simp [qW,hb];omega
theorem xB {s:Tx} {a:Nat} {b:UInt8} (h:s[a]? =some b) (hb:b.toNat=35):jM s a false=jM s a true:=by
 unfold jM;rw [fM h];simp [qW,hb]
theorem sP {s:Tx} {a:Nat} {b:UInt8} (h:s[a]? =some b) (h0:b.toNat≠35) (hb:b.toNat=32∨b.toNat=9∨b.toNat=10):jM s a false=jM s (a+1) false:=by
 unfold jM;rw [fM h,qW,if_neg h0,if_pos hb];omega
theorem BJ {s:Tx} {a:Nat} {b:UInt8} (h:s[a]? =some b) (h0:b.toNat≠35) (hb: ¬ (b.toNat=32∨b.toNat=9∨b.toNat=10)):jM s a false=a:=by
 unfold jM;rw [fM h,qW,if_neg h0,if_neg hb];rfl
theorem mJ: ∀ (l:Tx) (c:Bool),qW l c≤l.length
 | [],c=> by unfold qW;exact Nat.le_refl _
 | x::l,true=> by have h1:=mJ l true;have h2:=mJ l false;unfold qW;split <;> simp only [List.length_cons] <;> omega
 | x::l,false=> by have h1:=mJ l true;have h2:=mJ l false;unfold qW;split <;> (try split) <;> simp only [List.length_cons] <;> omega
theorem tv {s:Tx} {a:Nat} (h:a≤s.length) (c:Bool):a≤jM s a c∧jM s a c≤s.length:=by
 have:=mJ (s.drop a) c
 rw [List.length_drop] at this
 unfold jM;omega
def kb (p:UInt8→Bool) (s:Tx) (a:Nat):Nat:=a+((s.drop a).takeWhile p).length
theorem uD {p:UInt8→Bool} {s:Tx} {a:Nat} (h:s.length≤a):kb p s a=a:=by
 unfold kb;rw [List.drop_eq_nil_of_le h];rfl
theorem qM {p:UInt8→Bool} {s:Tx} {a:Nat} {b:UInt8} (h:s[a]? =some b) (hb:p b=true):kb p s a=kb p s (a+1):=by
 unfold kb;rw [fM h,List.takeWhile_cons,if_pos hb,List.length_cons];omega
theorem yi {p:UInt8→Bool} {s:Tx} {a:Nat} {b:UInt8} (h:s[a]? =some b) (hb:p b=false):kb p s a=a:=by
 unfold kb;rw [fM h,List.takeWhile_cons,if_neg (by simp [hb])];rfl
theorem qi {p:UInt8→Bool} {s:Tx} {a:Nat} (h:a≤s.length):a≤kb p s a∧kb p s a≤s.length:=by
 have:((s.drop a).takeWhile p).length≤(s.drop a).length:=(List.takeWhile_prefix p).length_le
 rw [List.length_drop] at this
 unfold kb;omega
theorem rA {p:UInt8→Bool} {s:Tx} {a:Nat} {b:UInt8} (h:s[a]? =some b):(s.drop a).take (kb p s (a+1) - a)=b::(s.drop (a+1)).takeWhile p:=by
 rw [fM h,show kb p s (a+1) - a=((s.drop (a+1)).takeWhile p).length+1 by unfold kb;omega,List.take_succ_cons]
 congr 1
 obtain ⟨t,ht⟩:=List.takeWhile_prefix p (l:=s.drop (a+1))
 conv=> lhs;arg 2;rw [← ht]
 rw [List.take_append_of_le_length (Nat.le_refl _),List.take_length]
theorem px (l:Tx) (b:UInt8):jR (l++[b])=10*jR l+(b.toNat - 48):=by unfold jR;rw [List.foldl_append];rfl
theorem Ax (l m:Tx):jR l≤jR (l++m):=by
 induction m generalizing l with
 | nil=> simp
 | cons b m ih=>
  have:=ih (l++[b])
  rw [px,List.append_assoc] at this
  simp only [List.cons_append,List.nil_append] at this
  omega
theorem we (l:Tx) (i:Nat):jR (l.take i)≤jR l:=by
 have:=Ax (l.take i) (l.drop i)
 rwa [List.take_append_drop] at this
theorem wm {l:Tx} {i:Nat} {b:UInt8} (h:l[i]? =some b):jR (l.take (i+1))=10*jR (l.take i)+(b.toNat - 48):=by
 obtain ⟨hl,rfl⟩:=List.getElem?_eq_some_iff.1 h
 rw [List.take_succ_eq_append_getElem hl,px]
theorem xo (b:UInt8):lL b=true↔97≤(b.toNat:Int)∧(b.toNat:Int)≤122:=by
 unfold lL;rw [Bool.and_eq_true,Nat.ble_eq,Nat.ble_eq];omega
theorem qY (b:UInt8):fX b=true↔48≤(b.toNat:Int)∧(b.toNat:Int)≤57:=by
 unfold fX;rw [Bool.and_eq_true,Nat.ble_eq,Nat.ble_eq];omega
theorem BQ {b:Bool} {p:Prop} (h:b=true↔p) (hn: ¬ p):b=false:=by
 cases b with
 | false=> rfl
 | true=> exact absurd (h.1 rfl) hn
def inr (x:eQ):List PV:=[.v (.int .i64 (x.op.num:Int)), .v (.int .i64 x.n)]
def inl (l:List eQ):List PV:=l.flatMap inr
theorem bN (l:List eQ):(inl l).length=l.length*2:=mz inr 2 (fun _=> rfl) l
theorem lP (l:List eQ) (k:Nat) (h:k < l.length):(inl l)[k*2]? =some (.v (.int .i64 ((cP l k).op.num:Int))):=by
 rw [show cP l k=l[k] by simp [cP,h]];exact mH inr 2 (fun _=> rfl) l k 0 h ab
theorem xw (l:List eQ) (k:Nat) (h:k < l.length):(inl l)[k*2+1]? =some (.v (.int .i64 (cP l k).n)):=by
 rw [show cP l k=l[k] by simp [cP,h]];exact mH inr 2 (fun _=> rfl) l k 1 h ab
theorem sB (l:List eQ) (k:Nat) (h:k < l.length):PV.ups (((inl l).drop (k*2)).take 2)=[.v (.int .i64 ((cP l k).op.num:Int)), .v (.int .i64 (cP l k).n)]:=by
 rw [show cP l k=l[k] by simp [cP,h],show ((inl l).drop (k*2)).take 2=inr l[k] from oP inr 2 (fun _=> rfl) l k h];rfl
theorem eR (l:List eQ) (x:eQ):inl l++inr x=inl (l++[x]):=mo inr l x
theorem kL (l m:List eQ):inl l++inl m=inl (l++m):=yU inr l m
def CA (x:Ac):List PV:=[.v (.int .i64 x.k), .v (.int .i64 x.a), .v (.int .i64 x.b), .v (.int .i64 x.c), .v (.int .i64 x.d)]
def oU (l:List Ac):List PV:=l.flatMap CA
def vC (l:List Ac) (k:Nat):Ac:=l.getD k { k:=0 }
theorem dm (l:List Ac):(oU l).length=l.length*5:=mz CA 5 (fun _=> rfl) l
theorem wA (l:List Ac) (k:Nat) (h:k < l.length):(oU l)[k*5]? =some (.v (.int .i64 (vC l k).k)):=by
 rw [show vC l k=l[k] by simp [vC,h]];exact mH CA 5 (fun _=> rfl) l k 0 h ab
theorem wE (l:List Ac) (k:Nat) (h:k < l.length):PV.ups (((oU l).drop (k*5)).take 5)=[.v (.int .i64 (vC l k).k), .v (.int .i64 (vC l k).a), .v (.int .i64 (vC l k).b), .v (.int .i64 (vC l k).c), .v (.int .i64 (vC l k).d)]:=by
 rw [show vC l k=l[k] by simp [vC,h],show ((oU l).drop (k*5)).take 5=CA l[k] from oP CA 5 (fun _=> rfl) l k h];rfl
theorem gJ (l:List Ac) (x:Ac):oU l++CA x=oU (l++[x]):=mo CA l x
end Go.Proofs.YtmjnackchaahbaaGreat

namespace Go.Proofs.YtmjnackchaahbaaGreat
abbrev Gm:List Value:=[.slice none 0 0, .int .i64 0, .int .i64 0, .int .i64 0, .int .i64 0, .int .i64 0, .int .i64 0, .int .i64 0, .int .i64 0, .int .i64 0, .int .i64 0, .int .i64 0, .int .i64 0, .int .i64 0, .int .i64 0, .int .i64 0, .int .i64 0, .int .i64 0, .int .i64 0, .int .i64 0, .int .i64 0, .int .i64 0, .int .i64 0, .int .i64 0, .int .i64 0, .int .i64 0, .int .i64 0, .int .i64 0, .int .i64 0, .int .i64 0, .int .i64 0, .int .i64 0, .int .i64 0, .int .i64 0, .int .i64 0, .int .i64 0, .int .i64 0, .int .i64 0, .int .i64 0, .int .i64 0, .int .i64 0, .int .i64 0, .int .i64 0]
abbrev HP:List Value:=[.int .i64 0, .int .i64 0, .int .i64 0, .int .i64 0, .int .i64 0, .int .i64 0, .int .i64 0, .int .i64 0, .int .i64 0]
abbrev FU:List Value:=[.slice none 0 0, .slice none 0 0, .int .i64 0, .bool false, .slice none 0 0]
abbrev FW:List Value:=[.slice none 0 0, .slice none 0 0, .int .i64 0, .bool false, .slice none 0 0, .slice none 0 0]
abbrev DW:List Value:=[.int .i64 0, .int .i64 0, .int .i64 0, .int .i64 0, .int .i64 0]
abbrev FO:List Value:=[.slice none 0 0, .slice none 0 0, .slice none 0 0]
abbrev DU:List Value:=[.int .i64 0, .int .i64 0, .string ByteArray.empty, .slice none 0 0]
abbrev DV:List Value:=[.int .i64 0, .int .i64 0, .int .i64 0, .string ByteArray.empty, .slice none 0 0]
abbrev Gf:List Value:=[.slice none 0 0, .int .i64 0, .int .i64 0, .int .i64 0, .int .i64 0, .int .i64 0, .int .i64 0, .int .i64 0, .int .i64 0, .int .i64 0]
abbrev Gr:List Value:=[.nilFunc, .nilFunc, .nilFunc, .nilFunc, .nilFunc, .nilFunc, .nilFunc, .nilFunc, .nilFunc, .nilFunc, .nilFunc, .nilFunc, .nilFunc, .nilFunc, .nilFunc, .nilFunc, .nilFunc, .nilFunc, .nilFunc, .nilFunc, .nilFunc, .nilFunc, .nilFunc, .nilFunc]
abbrev vH:List Value:=[.int .i64 0, .int .i64 0, .string ByteArray.empty, .int .i64 0]
abbrev Fl:List Value:=[.slice none 0 0, .slice none 0 0, .bool false]
abbrev Ed:List Value:=[.slice none 0 0, .int .i64 0, .int .i64 0, .int .i64 0, .int .i64 0, .int .i64 0, .int .i64 0, .int .i64 0, .int .i64 0, .int .i64 0, .int .i64 0, .int .i64 0, .int .i64 0, .int .i64 0, .int .i64 0, .int .i64 0, .int .i64 0, .int .i64 0, .int .i64 0, .int .i64 0, .int .i64 0, .int .i64 0, .int .i64 0, .int .i64 0, .int .i64 0, .int .i64 0, .int .i64 0, .int .i64 0, .int .i64 0, .int .i64 0, .int .i64 0, .int .i64 0, .int .i64 0, .int .i64 0, .int .i64 0, .int .i64 0, .int .i64 0, .int .i64 0, .int .i64 0, .int .i64 0, .int .i64 0, .int .i64 0, .int .i64 0, .slice none 0 0, .int .i64 0, .int .i64 0, .int .i64 0, .int .i64 0, .int .i64 0, .int .i64 0, .int .i64 0, .int .i64 0, .int .i64 0, .nilFunc, .slice none 0 0, .slice none 0 0, .int .i64 0, .bool false, .slice none 0 0, .slice none 0 0, .int .i64 0, .int .i64 0, .int .i64 0, .bool false]
abbrev Ec:List Value:=[.slice none 0 0, .int .i64 0, .int .i64 0, .int .i64 0, .slice none 0 0]

instance wr:Ty Tryz.prog 1 false [.nilFunc]:=Ty.of (bytes:=8) (.nilFunc) Tryz.underlying1 rfl ae rfl (by simp [Value.oneCell'])
instance wv:Ty Tryz.prog 2 false [.int .i64 0]:=Ty.of (bytes:=8) (.int .i64 0) Tryz.underlying2 rfl ae rfl (by simp [Value.oneCell'])
instance KU:Ty Tryz.prog 3 false [.int .i64 0]:=Ty.of (bytes:=8) (.int .i64 0) Tryz.underlying3 rfl ae rfl (by simp [Value.oneCell'])
instance KW:Ty Tryz.prog 4 false [.bool false]:=Ty.of (bytes:=1) (.bool false) Tryz.underlying4 rfl ae rfl (by simp [Value.oneCell'])
instance KV:Ty Tryz.prog 9 false [.string ByteArray.empty]:=Ty.of (bytes:=16) (.string ByteArray.empty) Tryz.underlying9 rfl ae rfl (by simp [Value.oneCell'])
instance JH:Ty Tryz.prog 22 false [.slice none 0 0]:=Ty.of (bytes:=24) (.slice none 0 0) Tryz.underlying22 rfl ae rfl (by simp [Value.oneCell'])
instance Ki:Ty Tryz.prog 23 false [.slice none 0 0]:=Ty.of (bytes:=24) (.slice none 0 0) Tryz.underlying23 rfl ae rfl (by simp [Value.oneCell'])
instance KT:Ty Tryz.prog 26 true Gm:=Ty.of (bytes:=360) (.agg (Gm).toArray) Tryz.underlying26 rfl ae rfl (by simp [Value.oneCell'])
instance JU:Ty Tryz.prog 30 true HP:=Ty.of (bytes:=72) (.agg (HP).toArray) Tryz.underlying30 rfl ae rfl (by simp [Value.oneCell'])
instance Ke:Ty Tryz.prog 32 false [.slice none 0 0]:=Ty.of (bytes:=24) (.slice none 0 0) Tryz.underlying32 rfl ae rfl (by simp [Value.oneCell'])
instance KP:Ty Tryz.prog 34 true FU:=Ty.of (bytes:=88) (.agg (FU).toArray) Tryz.underlying34 rfl ae rfl (by simp [Value.oneCell'])
instance KN:Ty Tryz.prog 39 true FW:=Ty.of (bytes:=112) (.agg (FW).toArray) Tryz.underlying39 rfl ae rfl (by simp [Value.oneCell'])
instance JG:Ty Tryz.prog 43 false [.nilFunc]:=Ty.of (bytes:=8) (.nilFunc) Tryz.underlying43 rfl ae rfl (by simp [Value.oneCell'])
instance JI:Ty Tryz.prog 48 true [.int .i64 0, .int .i64 0]:=Ty.of (bytes:=16) (.agg #[.int .i64 0, .int .i64 0]) Tryz.underlying48 rfl ae rfl (by simp [Value.oneCell'])
instance KS:Ty Tryz.prog 51 false [.nilFunc]:=Ty.of (bytes:=8) (.nilFunc) Tryz.underlying51 rfl ae rfl (by simp [Value.oneCell'])
instance Ky:Ty Tryz.prog 57 true DW:=Ty.of (bytes:=40) (.agg (DW).toArray) Tryz.underlying57 rfl ae rfl (by simp [Value.oneCell'])
instance KJ:Ty Tryz.prog 61 false [.slice none 0 0]:=Ty.of (bytes:=24) (.slice none 0 0) Tryz.underlying61 rfl ae rfl (by simp [Value.oneCell'])
instance JA:Ty Tryz.prog 62 false [.slice none 0 0]:=Ty.of (bytes:=24) (.slice none 0 0) Tryz.underlying62 rfl ae rfl (by simp [Value.oneCell'])
instance Jy:Ty Tryz.prog 64 true FO:=Ty.of (bytes:=72) (.agg (FO).toArray) Tryz.underlying64 rfl ae rfl (by simp [Value.oneCell'])
instance Kf:Ty Tryz.prog 66 false [.int .i64 0]:=Ty.of (bytes:=8) (.int .i64 0) Tryz.underlying66 rfl ae rfl (by simp [Value.oneCell'])
instance KF:Ty Tryz.prog 69 false [.slice none 0 0]:=Ty.of (bytes:=24) (.slice none 0 0) Tryz.underlying69 rfl ae rfl (by simp [Value.oneCell'])
instance KI:Ty Tryz.prog 71 true DU:=Ty.of (bytes:=56) (.agg (DU).toArray) Tryz.underlying71 rfl ae rfl (by simp [Value.oneCell'])
instance Kp:Ty Tryz.prog 73 true DV:=Ty.of (bytes:=64) (.agg (DV).toArray) Tryz.underlying73 rfl ae rfl (by simp [Value.oneCell'])
instance Iz:Ty Tryz.prog 132 true Gf:=Ty.of (bytes:=96) (.agg (Gf).toArray) Tryz.underlying132 rfl ae rfl (by simp [Value.oneCell'])
instance HK:Ty Tryz.prog 172 false [.nilFunc]:=Ty.of (bytes:=8) (.nilFunc) Tryz.underlying172 rfl ae rfl (by simp [Value.oneCell'])
instance Ju:Ty Tryz.prog 173 true Gr:=Ty.of (bytes:=192) (.agg (Gr).toArray) Tryz.underlying173 rfl ae rfl (by simp [Value.oneCell'])
instance IN:Ty Tryz.prog 217 false [.slice none 0 0]:=Ty.of (bytes:=24) (.slice none 0 0) Tryz.underlying217 rfl ae rfl (by simp [Value.oneCell'])
instance Jd:Ty Tryz.prog 225 true vH:=Ty.of (bytes:=40) (.agg (vH).toArray) Tryz.underlying225 rfl ae rfl (by simp [Value.oneCell'])
instance Jz:Elem Tryz.prog 22 3 1 8 [.int .i64 0]:=Elem.of (.int .i64 0) Tryz.underlying22 ae rfl rfl ah ah (by simp [Value.oneCell'])
instance JW:Elem Tryz.prog 23 48 2 16 [.int .i64 0, .int .i64 0]:=Elem.of (.agg #[.int .i64 0, .int .i64 0]) Tryz.underlying23 ae rfl rfl ah ah (by simp [Value.oneCell'])
instance Kw:Elem Tryz.prog 32 57 5 40 DW:=Elem.of (.agg (DW).toArray) Tryz.underlying32 ae rfl rfl ah ah (by simp [Value.oneCell'])
instance JD:Elem Tryz.prog 61 9 1 16 [.string ByteArray.empty]:=Elem.of (.string ByteArray.empty) Tryz.underlying61 ae rfl rfl ah ah (by simp [Value.oneCell'])
instance Ko:Elem Tryz.prog 62 73 5 64 DV:=Elem.of (.agg (DV).toArray) Tryz.underlying62 ae rfl rfl ah ah (by simp [Value.oneCell'])
instance KM:Elem Tryz.prog 69 71 4 56 DU:=Elem.of (.agg (DU).toArray) Tryz.underlying69 ae rfl rfl ah ah (by simp [Value.oneCell'])
instance Ib:Elem Tryz.prog 217 225 4 40 vH:=Elem.of (.agg (vH).toArray) Tryz.underlying217 ae rfl rfl ah ah (by simp [Value.oneCell'])
instance Iq:Elem Tryz.prog 275 61 1 24 [.slice none 0 0]:=Elem.of (.slice none 0 0) Tryz.underlying275 ae rfl rfl ah ah (by simp [Value.oneCell'])
instance Hk:gm Tryz.prog 26 0 0:=⟨fun ad w=> by kernel_rfl⟩
instance GU:gm Tryz.prog 26 1 1:=⟨fun ad w=> by kernel_rfl⟩
instance GZ:gm Tryz.prog 26 2 41:=⟨fun ad w=> by kernel_rfl⟩
instance Gy:gm Tryz.prog 26 3 42:=⟨fun ad w=> by kernel_rfl⟩
instance Hm:gm Tryz.prog 34 0 0:=⟨fun ad w=> by kernel_rfl⟩
instance Hp:gm Tryz.prog 34 1 1:=⟨fun ad w=> by kernel_rfl⟩
instance Gx:gm Tryz.prog 34 2 2:=⟨fun ad w=> by kernel_rfl⟩
instance GR:gm Tryz.prog 34 3 3:=⟨fun ad w=> by kernel_rfl⟩
instance GP:gm Tryz.prog 34 4 4:=⟨fun ad w=> by kernel_rfl⟩
instance GH:gm Tryz.prog 39 0 0:=⟨fun ad w=> by kernel_rfl⟩
instance Hc:gm Tryz.prog 39 1 1:=⟨fun ad w=> by kernel_rfl⟩
instance GG:gm Tryz.prog 39 2 2:=⟨fun ad w=> by kernel_rfl⟩
instance GT:gm Tryz.prog 39 3 3:=⟨fun ad w=> by kernel_rfl⟩
instance GX:gm Tryz.prog 39 4 4:=⟨fun ad w=> by kernel_rfl⟩
instance Hz:gm Tryz.prog 39 5 5:=⟨fun ad w=> by kernel_rfl⟩
instance GY:gm Tryz.prog 48 0 0:=⟨fun ad w=> by kernel_rfl⟩
instance Hi:gm Tryz.prog 48 1 1:=⟨fun ad w=> by kernel_rfl⟩
instance Hg:gm Tryz.prog 57 0 0:=⟨fun ad w=> by kernel_rfl⟩
instance Hs:gm Tryz.prog 64 0 0:=⟨fun ad w=> by kernel_rfl⟩
instance Hy:gm Tryz.prog 64 1 1:=⟨fun ad w=> by kernel_rfl⟩
instance Hl:gm Tryz.prog 64 2 2:=⟨fun ad w=> by kernel_rfl⟩
instance He:gm Tryz.prog 71 0 0:=⟨fun ad w=> by kernel_rfl⟩
instance GA:gm Tryz.prog 71 1 1:=⟨fun ad w=> by kernel_rfl⟩
instance Hq:gm Tryz.prog 71 2 2:=⟨fun ad w=> by kernel_rfl⟩
instance Hx:gm Tryz.prog 71 3 3:=⟨fun ad w=> by kernel_rfl⟩
instance Hv:gm Tryz.prog 73 0 0:=⟨fun ad w=> by kernel_rfl⟩
instance GF:gm Tryz.prog 73 1 1:=⟨fun ad w=> by kernel_rfl⟩
instance Gk:gm Tryz.prog 129 0 0:=⟨fun ad w=> by kernel_rfl⟩
instance Gb:gm Tryz.prog 129 1 1:=⟨fun ad w=> by kernel_rfl⟩
instance FS:gm Tryz.prog 129 2 2:=⟨fun ad w=> by kernel_rfl⟩
instance Ge:gm Tryz.prog 132 0 0:=⟨fun ad w=> by kernel_rfl⟩
instance FR:gm Tryz.prog 132 1 1:=⟨fun ad w=> by kernel_rfl⟩
instance Gu:gm Tryz.prog 139 0 0:=⟨fun ad w=> by kernel_rfl⟩
instance Gi:gm Tryz.prog 139 1 1:=⟨fun ad w=> by kernel_rfl⟩
instance FT:gm Tryz.prog 171 0 0:=⟨fun ad w=> by kernel_rfl⟩
instance Gn:gm Tryz.prog 171 1 43:=⟨fun ad w=> by kernel_rfl⟩
instance Gs:gm Tryz.prog 171 2 53:=⟨fun ad w=> by kernel_rfl⟩
instance Gv:gm Tryz.prog 171 3 54:=⟨fun ad w=> by kernel_rfl⟩
instance Gd:gm Tryz.prog 171 4 59:=⟨fun ad w=> by kernel_rfl⟩
instance Gp:gm Tryz.prog 171 5 60:=⟨fun ad w=> by kernel_rfl⟩
instance Gj:gm Tryz.prog 171 6 61:=⟨fun ad w=> by kernel_rfl⟩
instance FQ:gm Tryz.prog 171 7 62:=⟨fun ad w=> by kernel_rfl⟩
instance Gc:gm Tryz.prog 171 8 63:=⟨fun ad w=> by kernel_rfl⟩
instance FY:gm Tryz.prog 222 0 0:=⟨fun ad w=> by kernel_rfl⟩
instance Gg:gm Tryz.prog 222 1 1:=⟨fun ad w=> by kernel_rfl⟩
instance Gh:gm Tryz.prog 222 3 3:=⟨fun ad w=> by kernel_rfl⟩
instance FM:gm Tryz.prog 222 4 4:=⟨fun ad w=> by kernel_rfl⟩
instance FV:gm Tryz.prog 225 0 0:=⟨fun ad w=> by kernel_rfl⟩
instance FN:gm Tryz.prog 225 2 2:=⟨fun ad w=> by kernel_rfl⟩
instance Gw:gm Tryz.prog 225 3 3:=⟨fun ad w=> by kernel_rfl⟩
instance Jx:cX Tryz.prog 20:=⟨fun args w=> by kernel_rfl⟩
instance KL:cX Tryz.prog 21:=⟨fun args w=> by kernel_rfl⟩
instance KH:cX Tryz.prog 22:=⟨fun args w=> by kernel_rfl⟩
instance KO:cX Tryz.prog 23:=⟨fun args w=> by kernel_rfl⟩
instance Kh:cX Tryz.prog 24:=⟨fun args w=> by kernel_rfl⟩
instance JS:cX Tryz.prog 25:=⟨fun args w=> by kernel_rfl⟩
instance JY:cX Tryz.prog 26:=⟨fun args w=> by kernel_rfl⟩
instance Kn:cX Tryz.prog 27:=⟨fun args w=> by kernel_rfl⟩
instance Kd:cX Tryz.prog 29:=⟨fun args w=> by kernel_rfl⟩
instance JZ:cX Tryz.prog 30:=⟨fun args w=> by kernel_rfl⟩
instance Kz:cX Tryz.prog 31:=⟨fun args w=> by kernel_rfl⟩
instance KQ:cX Tryz.prog 32:=⟨fun args w=> by kernel_rfl⟩
instance Jv:cX Tryz.prog 33:=⟨fun args w=> by kernel_rfl⟩
instance KA:cX Tryz.prog 34:=⟨fun args w=> by kernel_rfl⟩
instance Km:cX Tryz.prog 35:=⟨fun args w=> by kernel_rfl⟩
instance JB:cX Tryz.prog 36:=⟨fun args w=> by kernel_rfl⟩
instance Ku:cX Tryz.prog 57:=⟨fun args w=> by kernel_rfl⟩
instance JM:cX Tryz.prog 58:=⟨fun args w=> by kernel_rfl⟩
instance JL:cX Tryz.prog 59:=⟨fun args w=> by kernel_rfl⟩
instance KG:cX Tryz.prog 60:=⟨fun args w=> by kernel_rfl⟩
instance JX:cX Tryz.prog 61:=⟨fun args w=> by kernel_rfl⟩
instance Kb:cX Tryz.prog 62:=⟨fun args w=> by kernel_rfl⟩
instance JO:cX Tryz.prog 63:=⟨fun args w=> by kernel_rfl⟩
instance KC:cX Tryz.prog 64:=⟨fun args w=> by kernel_rfl⟩
instance JR:cX Tryz.prog 65:=⟨fun args w=> by kernel_rfl⟩
instance KD:cX Tryz.prog 66:=⟨fun args w=> by kernel_rfl⟩
instance JC:cX Tryz.prog 67:=⟨fun args w=> by kernel_rfl⟩
instance JV:cX Tryz.prog 72:=⟨fun args w=> by kernel_rfl⟩
instance Kl:cX Tryz.prog 73:=⟨fun args w=> by kernel_rfl⟩
instance JP:cX Tryz.prog 74:=⟨fun args w=> by kernel_rfl⟩
instance JQ:cX Tryz.prog 91:=⟨fun args w=> by kernel_rfl⟩
instance Ks:cX Tryz.prog 92:=⟨fun args w=> by kernel_rfl⟩
instance Kt:cX Tryz.prog 93:=⟨fun args w=> by kernel_rfl⟩
instance Kc:cX Tryz.prog 94:=⟨fun args w=> by kernel_rfl⟩
instance JT:cX Tryz.prog 95:=⟨fun args w=> by kernel_rfl⟩
instance Kv:cX Tryz.prog 96:=⟨fun args w=> by kernel_rfl⟩
instance Kg:cX Tryz.prog 97:=⟨fun args w=> by kernel_rfl⟩
instance KE:cX Tryz.prog 98:=⟨fun args w=> by kernel_rfl⟩
instance II:cX Tryz.prog 106:=⟨fun args w=> by kernel_rfl⟩
instance HN:cX Tryz.prog 107:=⟨fun args w=> by kernel_rfl⟩
instance Ig:cX Tryz.prog 121:=⟨fun args w=> by kernel_rfl⟩
instance Ji:cX Tryz.prog 122:=⟨fun args w=> by kernel_rfl⟩
instance Io:cX Tryz.prog 123:=⟨fun args w=> by kernel_rfl⟩
instance IC:cX Tryz.prog 124:=⟨fun args w=> by kernel_rfl⟩
instance Ii:cX Tryz.prog 125:=⟨fun args w=> by kernel_rfl⟩
instance HX:cX Tryz.prog 126:=⟨fun args w=> by kernel_rfl⟩
instance IY:cX Tryz.prog 127:=⟨fun args w=> by kernel_rfl⟩
instance IW:cX Tryz.prog 128:=⟨fun args w=> by kernel_rfl⟩
instance IT:cX Tryz.prog 129:=⟨fun args w=> by kernel_rfl⟩
instance HA:cX Tryz.prog 130:=⟨fun args w=> by kernel_rfl⟩
instance HT:cX Tryz.prog 131:=⟨fun args w=> by kernel_rfl⟩
instance Jj:cX Tryz.prog 132:=⟨fun args w=> by kernel_rfl⟩
instance HO:cX Tryz.prog 133:=⟨fun args w=> by kernel_rfl⟩
instance HY:cX Tryz.prog 134:=⟨fun args w=> by kernel_rfl⟩
instance HW:cX Tryz.prog 135:=⟨fun args w=> by kernel_rfl⟩
instance Jb:cX Tryz.prog 136:=⟨fun args w=> by kernel_rfl⟩
instance Ip:cX Tryz.prog 137:=⟨fun args w=> by kernel_rfl⟩
instance Jo:cX Tryz.prog 138:=⟨fun args w=> by kernel_rfl⟩
instance IF:cX Tryz.prog 139:=⟨fun args w=> by kernel_rfl⟩
instance Jc:cX Tryz.prog 140:=⟨fun args w=> by kernel_rfl⟩
instance Iw:cX Tryz.prog 141:=⟨fun args w=> by kernel_rfl⟩
instance Jr:cX Tryz.prog 142:=⟨fun args w=> by kernel_rfl⟩
instance Iy:cX Tryz.prog 143:=⟨fun args w=> by kernel_rfl⟩
instance Ij:cX Tryz.prog 144:=⟨fun args w=> by kernel_rfl⟩
instance HC:cX Tryz.prog 145:=⟨fun args w=> by kernel_rfl⟩
instance Iu:cX Tryz.prog 146:=⟨fun args w=> by kernel_rfl⟩
instance Je:cX Tryz.prog 147:=⟨fun args w=> by kernel_rfl⟩
instance IU:cX Tryz.prog 148:=⟨fun args w=> by kernel_rfl⟩
instance IR:cX Tryz.prog 149:=⟨fun args w=> by kernel_rfl⟩
instance HS:cX Tryz.prog 150:=⟨fun args w=> by kernel_rfl⟩
instance Is:cX Tryz.prog 151:=⟨fun args w=> by kernel_rfl⟩
instance Il:cX Tryz.prog 152:=⟨fun args w=> by kernel_rfl⟩
instance Ir:cX Tryz.prog 153:=⟨fun args w=> by kernel_rfl⟩
instance IE:cX Tryz.prog 154:=⟨fun args w=> by kernel_rfl⟩
instance IZ:cX Tryz.prog 155:=⟨fun args w=> by kernel_rfl⟩
instance IA:cX Tryz.prog 159:=⟨fun args w=> by kernel_rfl⟩
instance IX:cX Tryz.prog 160:=⟨fun args w=> by kernel_rfl⟩
instance Id:cX Tryz.prog 161:=⟨fun args w=> by kernel_rfl⟩
instance HJ:cX Tryz.prog 162:=⟨fun args w=> by kernel_rfl⟩
instance HF:cX Tryz.prog 163:=⟨fun args w=> by kernel_rfl⟩
instance IK:cX Tryz.prog 164:=⟨fun args w=> by kernel_rfl⟩
instance HD:cX Tryz.prog 165:=⟨fun args w=> by kernel_rfl⟩
instance HR:cX Tryz.prog 166:=⟨fun args w=> by kernel_rfl⟩
instance HM:cX Tryz.prog 167:=⟨fun args w=> by kernel_rfl⟩
instance In:cX Tryz.prog 168:=⟨fun args w=> by kernel_rfl⟩
instance Jp:cX Tryz.prog 169:=⟨fun args w=> by kernel_rfl⟩
instance HH:cX Tryz.prog 170:=⟨fun args w=> by kernel_rfl⟩
instance IS:cX Tryz.prog 187:=⟨fun args w=> by kernel_rfl⟩
instance Jf:cX Tryz.prog 188:=⟨fun args w=> by kernel_rfl⟩
instance IL:cX Tryz.prog 189:=⟨fun args w=> by kernel_rfl⟩
instance HI:cX Tryz.prog 190:=⟨fun args w=> by kernel_rfl⟩
instance Ix:cX Tryz.prog 194:=⟨fun args w=> by kernel_rfl⟩
instance Ja:cX Tryz.prog 195:=⟨fun args w=> by kernel_rfl⟩
instance If:cX Tryz.prog 196:=⟨fun args w=> by kernel_rfl⟩
instance Ic:cX Tryz.prog 197:=⟨fun args w=> by kernel_rfl⟩
instance IJ:cX Tryz.prog 199:=⟨fun args w=> by kernel_rfl⟩
instance Jt:cX Tryz.prog 200:=⟨fun args w=> by kernel_rfl⟩
instance HZ:cX Tryz.prog 201:=⟨fun args w=> by kernel_rfl⟩
instance HL:cX Tryz.prog 202:=⟨fun args w=> by kernel_rfl⟩
instance Im:cX Tryz.prog 203:=⟨fun args w=> by kernel_rfl⟩
instance Jg:cX Tryz.prog 204:=⟨fun args w=> by kernel_rfl⟩
instance IM:cX Tryz.prog 205:=⟨fun args w=> by kernel_rfl⟩
instance Ie:cX Tryz.prog 221:=⟨fun args w=> by kernel_rfl⟩
instance Jn:cX Tryz.prog 222:=⟨fun args w=> by kernel_rfl⟩
instance Ih:cX Tryz.prog 223:=⟨fun args w=> by kernel_rfl⟩
instance HG:cX Tryz.prog 224:=⟨fun args w=> by kernel_rfl⟩
instance ID:cX Tryz.prog 225:=⟨fun args w=> by kernel_rfl⟩
instance HV:cX Tryz.prog 226:=⟨fun args w=> by kernel_rfl⟩
instance Ik:cX Tryz.prog 227:=⟨fun args w=> by kernel_rfl⟩
instance Jh:cX Tryz.prog 235:=⟨fun args w=> by kernel_rfl⟩
instance HQ:cX Tryz.prog 236:=⟨fun args w=> by kernel_rfl⟩
instance IB:cX Tryz.prog 237:=⟨fun args w=> by kernel_rfl⟩
instance Iv:cX Tryz.prog 240:=⟨fun args w=> by kernel_rfl⟩
end Go.Proofs.YtmjnackchaahbaaGreat

namespace Go.Proofs.YtmjnackchaahbaaGreat

instance Kk:Bld Tryz.prog 26 Gm (fun i=> ([(0,1),(1,40),(41,1),(42,1)]:List (Nat×Nat))[i]?):=Bld.struct (bytes:=360) (.agg (Gm).toArray) [(0,1),(1,40),(41,1),(42,1)] Tryz.underlying26 ae rfl (by simp [Value.oneCell']) (fun w=> by kernel_rfl)
instance JJ:Bld Tryz.prog 34 FU (fun i=> ([(0,1),(1,1),(2,1),(3,1),(4,1)]:List (Nat×Nat))[i]?):=Bld.struct (bytes:=88) (.agg (FU).toArray) [(0,1),(1,1),(2,1),(3,1),(4,1)] Tryz.underlying34 ae rfl (by simp [Value.oneCell']) (fun w=> by kernel_rfl)
instance Kj:Bld Tryz.prog 39 FW (fun i=> ([(0,1),(1,1),(2,1),(3,1),(4,1),(5,1)]:List (Nat×Nat))[i]?):=Bld.struct (bytes:=112) (.agg (FW).toArray) [(0,1),(1,1),(2,1),(3,1),(4,1),(5,1)] Tryz.underlying39 ae rfl (by simp [Value.oneCell']) (fun w=> by kernel_rfl)
instance JN:Bld Tryz.prog 48 [.int .i64 0, .int .i64 0] (fun i=> ([(0,1),(1,1)]:List (Nat×Nat))[i]?):=Bld.struct (bytes:=16) (.agg #[.int .i64 0, .int .i64 0]) [(0,1),(1,1)] Tryz.underlying48 ae rfl (by simp [Value.oneCell']) (fun w=> by kernel_rfl)
instance Kq:Bld Tryz.prog 57 DW (fun i=> ([(0,1),(1,1),(2,1),(3,1),(4,1)]:List (Nat×Nat))[i]?):=Bld.struct (bytes:=40) (.agg (DW).toArray) [(0,1),(1,1),(2,1),(3,1),(4,1)] Tryz.underlying57 ae rfl (by simp [Value.oneCell']) (fun w=> by kernel_rfl)
instance JK:Bld Tryz.prog 64 FO (fun i=> ([(0,1),(1,1),(2,1)]:List (Nat×Nat))[i]?):=Bld.struct (bytes:=72) (.agg (FO).toArray) [(0,1),(1,1),(2,1)] Tryz.underlying64 ae rfl (by simp [Value.oneCell']) (fun w=> by kernel_rfl)
instance Jw:Bld Tryz.prog 71 DU (fun i=> ([(0,1),(1,1),(2,1),(3,1)]:List (Nat×Nat))[i]?):=Bld.struct (bytes:=56) (.agg (DU).toArray) [(0,1),(1,1),(2,1),(3,1)] Tryz.underlying71 ae rfl (by simp [Value.oneCell']) (fun w=> by kernel_rfl)
instance KB:Bld Tryz.prog 73 DV (fun i=> ([(0,1),(1,4)]:List (Nat×Nat))[i]?):=Bld.struct (bytes:=64) (.agg (DV).toArray) [(0,1),(1,4)] Tryz.underlying73 ae rfl (by simp [Value.oneCell']) (fun w=> by kernel_rfl)
instance IQ:Bld Tryz.prog 129 Fl (fun i=> ([(0,1),(1,1),(2,1)]:List (Nat×Nat))[i]?):=Bld.struct (bytes:=56) (.agg (Fl).toArray) [(0,1),(1,1),(2,1)] Tryz.underlying129 ae rfl (by simp [Value.oneCell']) (fun w=> by kernel_rfl)
instance HU:Bld Tryz.prog 132 Gf (fun i=> ([(0,1),(1,9)]:List (Nat×Nat))[i]?):=Bld.struct (bytes:=96) (.agg (Gf).toArray) [(0,1),(1,9)] Tryz.underlying132 ae rfl (by simp [Value.oneCell']) (fun w=> by kernel_rfl)
instance IG:Bld Tryz.prog 139 [.slice none 0 0, .int .i64 0] (fun i=> ([(0,1),(1,1)]:List (Nat×Nat))[i]?):=Bld.struct (bytes:=32) (.agg #[.slice none 0 0, .int .i64 0]) [(0,1),(1,1)] Tryz.underlying139 ae rfl (by simp [Value.oneCell']) (fun w=> by kernel_rfl)
instance Jl:Bld Tryz.prog 171 Ed (fun i=> ([(0,43),(43,10),(53,1),(54,5),(59,1),(60,1),(61,1),(62,1),(63,1)]:List (Nat×Nat))[i]?):=Bld.struct (bytes:=608) (.agg (Ed).toArray) [(0,43),(43,10),(53,1),(54,5),(59,1),(60,1),(61,1),(62,1),(63,1)] Tryz.underlying171 ae rfl (by simp [Value.oneCell']) (fun w=> by kernel_rfl)
instance IH:Bld Tryz.prog 173 Gr (fun i=> some (i*1,1)):=Bld.array (bytes:=192) (.agg (Gr).toArray) Tryz.underlying173 ae rfl (by simp [Value.oneCell']) ae
instance HB:Bld Tryz.prog 176 [] (fun i=> ([]:List (Nat×Nat))[i]?):=Bld.struct (bytes:=0) (.agg #[]) [] Tryz.underlying176 ae rfl (by simp [Value.oneCell']) (fun w=> by kernel_rfl)
instance Jm:Bld Tryz.prog 222 Ec (fun i=> ([(0,1),(1,1),(2,1),(3,1),(4,1)]:List (Nat×Nat))[i]?):=Bld.struct (bytes:=72) (.agg (Ec).toArray) [(0,1),(1,1),(2,1),(3,1),(4,1)] Tryz.underlying222 ae rfl (by simp [Value.oneCell']) (fun w=> by kernel_rfl)
instance IO:Bld Tryz.prog 225 vH (fun i=> ([(0,1),(1,1),(2,1),(3,1)]:List (Nat×Nat))[i]?):=Bld.struct (bytes:=40) (.agg (vH).toArray) [(0,1),(1,1),(2,1),(3,1)] Tryz.underlying225 ae rfl (by simp [Value.oneCell']) (fun w=> by kernel_rfl)
def ij (n m:Int):Int:=(if n < 0 then -(n+1) else n) % m
theorem py (n m:Int) (h:0 < m):0≤ij n m:=Int.emod_nonneg _ ab
theorem pj (n m:Int) (h:0 < m):ij n m < m:=Int.emod_lt_of_pos _ h
theorem kv (n m:Int) (hm:1≤m) (h1:m≤4611686018427387904) (h2: -9223372036854775808≤n) (h3:n≤9223372036854775807):
  Spec Tryz.prog 33 (bj [.v (.int .i64 n), .v (.int .i64 m)] []) (aT (.v (.int .i64 (ij n m))) []):=by
 refine Spec.ofN Tryz.func33 rfl Tryz.ntmps33 rfl ?_
 refine am (ba rfl (aj (aq (am (aP rfl (ai (bp _ _ rfl rfl rfl) (aj (aO rfl (fun hc6=> ?_) (fun hc6=> ?_)))))))))
 ·skip
  refine an (aP rfl (ai (bc _ _ rfl rfl (be ab)) ?_))
  refine ai (qK _ rfl (be ab)) ?_
  refine ba rfl (aj (am (aP rfl (aP rfl (ai (cZ _ _ rfl rfl ab (Int.tmod_eq_emod_of_nonneg ab)) ?_)))))
  refine ba rfl (aj (aE (aX (.inr rfl) rfl (.tmp (rfl:_=AV.v (.int _ _))) (Le.out [] [] (bY ?_) rfl rfl rfl trivial trivial))))
  unfold ij
  rw [if_pos hc6]
 ·skip
  refine aL (am (aP rfl (aP rfl (ai (cZ _ _ rfl rfl ab (Int.tmod_eq_emod_of_nonneg ab)) ?_))))
  refine ba rfl (aj (aE (aX (.inr rfl) rfl (.tmp (rfl:_=AV.v (.int _ _))) (Le.out [] [] (bY ?_) rfl rfl rfl trivial trivial))))
  unfold ij
  rw [if_neg ab]

theorem vn (n m:Nat) (xs ys:List Int) (hn:xs.length=n) (hm:ys.length=m) (h1:n≤4611686018427387904) (h2:m≤4611686018427387904):
  Spec Tryz.prog 30 (bj [.sl n (cu xs), .sl m (cu ys)] []) (aT (.v (.bool (decide (xs=ys)))) []):=by
 subst hn;subst hm
 refine Spec.ofN Tryz.func30 rfl Tryz.ntmps30 rfl ?_
 refine am (ci rfl (aj (aq (am (ef rfl (ai (bI _ aa rfl) (ef rfl (ai (bI _ aa rfl) (ai (cg _ _ rfl rfl rfl) (aj ?_))))))))))
 refine aO rfl (fun hc10=> ?_) (fun hc10=> ?_)
 ·skip
  refine am (ci rfl (aj (aE (aX (.inr rfl) rfl (.tmp (rfl:_=AV.v (.bool _))) (Le.out [] [] (hG ?_) rfl rfl rfl trivial trivial)))))
  exact decide_eq_false fun h=> by subst h;omega
 ·skip
  refine aL (aH fun K5 hK5=> ?_)
  refine am (ba rfl (aj (au ?_)))
  refine bD (α:=Nat) (fun k=> k≤xs.length∧xs.length=ys.length∧xs.take k=ys.take k) 26 [(0,_),(1,_)] [] (fun k=> [(5, .v (.int .i64 (k:Int)))]) (fun k=> []) [] [] (fun k=> xs.length - k) 0 ?_ (by
   refine Le.mkJ [] [] rfl ?_ ?_ trivial trivial ?_
   ·exact ⟨(by exact iS rfl),(by exact iS rfl),(bY ag),trivial⟩
   ·exact trivial
   ·kernel_rfl) ?_
  ·exact ⟨by omega,by omega,rfl⟩
  intro k hk
  obtain ⟨hk,hl,ht⟩:=hk
  refine aH fun K7 hK7=> ?_
  refine am (aP rfl (ef rfl (ai (bI _ aa rfl) (ai (bp _ _ rfl rfl rfl) (aj (aO rfl (fun hc14=> ?_) (fun hc14=> ?_)))))))
  ·skip
   have hkx:k < xs.length:=by omega
   have hky:k < ys.length:=by omega
   refine bB (hK7 _ ?_)
   clear hK7;try clear K7
   refine aq (au (aq ?_))
   refine aN (σ':=aA 26 [(0,_),(1,_),(5,_)] [] [] []) (by
    refine Le.mkJ [] [] rfl ?_ ?_ trivial trivial ?_
    ·exact ⟨(by exact iS rfl),(by exact iS rfl),(iV rfl),trivial⟩
    ·exact trivial
    ·kernel_rfl) ?_
   refine bu 9 [17,18,19,20,21,22,23,24,25] [] ae ae rfl (aK rfl) (rfl:_=[_,_,_,_,_,_,_,_,_]) (rfl:_=[]) ?_
   refine ap (_,[]) (fun τ=> aC _ (rfl:_=AV.sl _ _)) ?_
   refine el rfl ?_
   refine ap (_,[]) (fun τ=> aC _ (rfl:_=AV.v (.int _ _))) ?_
   refine eo rfl ?_
   refine ap (_,[]) (fun τ=> bi _ _ aa rfl rfl _ rfl ab (by (simp only [aZ,bq,bo];omega)) (by exact Nat.mul_one _)) ?_
   refine ep rfl ?_
   refine ap (_,[]) (fun τ=> bH _ aa rfl (by exact dl _ _ ab) rfl) ?_
   refine ew rfl ?_
   refine ap (_,[]) (fun τ=> aC _ (rfl:_=AV.sl _ _)) ?_
   refine eF rfl ?_
   refine ap (_,[]) (fun τ=> aC _ (rfl:_=AV.v (.int _ _))) ?_
   refine eV rfl ?_
   refine ap (_,[]) (fun τ=> bi _ _ aa rfl rfl _ rfl ab (by (simp only [aZ,bq,bo];omega)) (by exact Nat.mul_one _)) ?_
   refine fF rfl ?_
   refine ap (_,[]) (fun τ=> bH _ aa rfl (by exact dl _ _ ab) rfl) ?_
   refine iu rfl ?_
   refine ap (_,[]) (fun τ=> cg _ _ rfl rfl rfl) ?_
   refine ig rfl (bg ⟨rfl,?_⟩)
   refine aj (aO rfl (fun hc25=> ?_) (fun hc25=> ?_))
   ·skip
    refine am (ci rfl (aj (aE (aX (.inr rfl) rfl (.tmp (rfl:_=AV.v (.bool _))) (Le.out [] [] (hG ?_) rfl rfl rfl trivial trivial)))))
    exact decide_eq_false fun h=> by subst h;exact hc25 rfl
   ·skip
    refine cf (an (aP rfl (ai (bc _ _ rfl rfl (be ab)) ?_)))
    refine ba rfl (ax (⟨k+1,?_,?_,?_⟩))
    ·refine ⟨by omega,hl,?_⟩
     rw [qo _ _ _ hkx,qo _ _ _ hky] at hc25
     rw [List.take_succ_eq_append_getElem hkx,List.take_succ_eq_append_getElem hky,ht,hc25]
    ·skip
     refine Le.mkJ [] [] rfl ?_ ?_ trivial trivial ?_
     ·exact ⟨(by exact iS rfl),(by exact iS rfl),(bY ag),trivial⟩
     ·exact trivial
     ·kernel_rfl
    ·omega
  ·skip
   refine bK (id (hK5 _ ?_))
   clear hK5;try clear K5
   refine am (ci rfl (aj (aE (aX (.inr rfl) rfl (.tmp (rfl:_=AV.v (.bool _))) (Le.out [] [] (hG ?_) rfl rfl rfl trivial trivial)))))
   rw [List.take_of_length_le ab,List.take_of_length_le ab] at ht
   exact decide_eq_true ht

theorem nc (b:UInt8):Spec Tryz.prog 221 (bj [.v (.int .u8 (b.toNat:Int))] []) (aT (.v (.bool (lL b))) []):=by
 have h:=xo b
 refine Spec.ofN Tryz.func221 rfl Tryz.ntmps221 rfl ?_
 refine am (ci rfl (aj (am (aP rfl (ai (eH _ _ rfl rfl rfl) (cM rfl (dx (fun hg5=> ?_) (fun hg5=> ?_))))))))
 ·skip
  have h:lL b=decide ((b.toNat:Int)≤122):=by rw [Bool.eq_iff_iff,h];simp [hg5]
  refine ay rfl rfl (aC _ (rfl:_=AV.v (.int _ _))) (ay rfl rfl (bP _ _ rfl rfl rfl) (ai (aG _ _ _ rfl (rfl:_=AV.v (.bool _))) (ci rfl (aj (aE (aX (.inr rfl) rfl (.tmp (rfl:_=AV.v (.bool _))) (Le.out [] [] (hG ?_) rfl rfl rfl trivial trivial)))))))
  exact h
 ·skip
  have h:lL b=false:=BQ h (fun x=> by omega)
  refine aW rfl rfl ah ?_
  refine aW rfl rfl ah ?_
  refine ai (aG _ _ _ rfl (rfl:_=AV.v (.bool _))) (ci rfl (aj (aE (aX (.inr rfl) rfl (.tmp (rfl:_=AV.v (.bool _))) (Le.out [] [] (hG ?_) rfl rfl rfl trivial trivial)))))
  exact h
theorem lc (b:UInt8):Spec Tryz.prog 222 (bj [.v (.int .u8 (b.toNat:Int))] []) (aT (.v (.bool (fX b))) []):=by
 have h:=qY b
 refine Spec.ofN Tryz.func222 rfl Tryz.ntmps222 rfl ?_
 refine am (ci rfl (aj (am (aP rfl (ai (eH _ _ rfl rfl rfl) (cM rfl (dx (fun hg5=> ?_) (fun hg5=> ?_))))))))
 ·skip
  have h:fX b=decide ((b.toNat:Int)≤57):=by rw [Bool.eq_iff_iff,h];simp [hg5]
  refine ay rfl rfl (aC _ (rfl:_=AV.v (.int _ _))) (ay rfl rfl (bP _ _ rfl rfl rfl) (ai (aG _ _ _ rfl (rfl:_=AV.v (.bool _))) (ci rfl (aj (aE (aX (.inr rfl) rfl (.tmp (rfl:_=AV.v (.bool _))) (Le.out [] [] (hG ?_) rfl rfl rfl trivial trivial)))))))
  exact h
 ·skip
  have h:fX b=false:=BQ h (fun x=> by omega)
  refine aW rfl rfl ah ?_
  refine aW rfl rfl ah ?_
  refine ai (aG _ _ _ rfl (rfl:_=AV.v (.bool _))) (ci rfl (aj (aE (aX (.inr rfl) rfl (.tmp (rfl:_=AV.v (.bool _))) (Le.out [] [] (hG ?_) rfl rfl rfl trivial trivial)))))
  exact h
theorem nT (l:List Tx) (n:Nat) (hn:l.length=n) (h1:n≤1000) (t:Tx):Spec Tryz.prog 224 (bj [.sl n (ea l), .v (bt t)] []) (aT (.v (.bool (decide (t∈l)))) []):=by
 refine Spec.ofN Tryz.func224 rfl Tryz.ntmps224 rfl ?_
 refine am (ci rfl (aj (aH fun K2 hK2=> ?_)))
 refine am (ba rfl (aj (au ?_)))
 refine bD (α:=Nat) (fun k=> k≤n∧t∉l.take k) 18 [(0,_),(1,_)] [] (fun k=> [(5, .v (.int .i64 (k:Int)))]) (fun k=> []) [] [] (fun k=> n - k) 0 ?_ (by
  refine Le.mkJ [] [] rfl ?_ ?_ trivial trivial ?_
  ·exact ⟨(iS rfl),(iV rfl),(bY ag),trivial⟩
  ·exact trivial
  ·kernel_rfl) ?_
 ·exact ⟨Nat.zero_le _,by simp⟩
 intro k hk
 obtain ⟨hk,hnt⟩:=hk
 refine aH fun K4 hK4=> ?_
 refine am (aP rfl (ef rfl (ai (bI _ aa rfl) (ai (bp _ _ rfl rfl rfl) (aj (aO rfl (fun hc9=> ?_) (fun hc9=> ?_)))))))
 ·skip
  refine bB (hK4 _ ?_)
  clear hK4;try clear K4
  refine aq (au (am (ef rfl (aP rfl (ai (bi _ _ aa rfl rfl _ rfl ab (by (simp only [aZ,bq,bo,bG];omega)) (by exact Nat.mul_one _)) ?_)))))
  refine ai (bH _ aa rfl (by exact fK _ _ ab) rfl) ?_
  refine dQ rfl (ai (aY _ _ Tryz.underlying9 rfl rfl rfl) (aj (aO rfl (fun hc17=> ?_) (fun hc17=> ?_))))
  ·skip
   refine am (ci rfl (aj (aE (aX (.inr rfl) rfl (.tmp (rfl:_=AV.v (.bool _))) (Le.out [] [] (hG ?_) rfl rfl rfl trivial trivial)))))
   exact decide_eq_true (hc17 ▸ iY ab)
  ·skip
   refine cf (an (aP rfl (ai (bc _ _ rfl rfl (be ab)) ?_)))
   refine ba rfl (ax (⟨k+1,?_,?_,?_⟩))
   ·exact ⟨by omega,jF hnt ab hc17⟩
   ·skip
    refine Le.mkJ [] [] rfl ?_ ?_ trivial trivial ?_
    ·exact ⟨(iS rfl),(iV rfl),(bY ag),trivial⟩
    ·exact trivial
    ·kernel_rfl
   ·omega
 ·skip
  have hall:t∉l:=by rwa [List.take_of_length_le ab] at hnt
  refine bK (id (hK2 _ ?_))
  clear hK2;try clear K2
  refine am (ci rfl (aj (aE (aX (.inr rfl) rfl (.tmp (rfl:_=AV.v (.bool _))) (Le.out [] [] (hG ?_) rfl rfl rfl trivial trivial)))))
  exact decide_eq_false hall
theorem pI (s:Tx) (at_:Nat) (h1:s.length≤100000) (ha:at_≤s.length):Spec Tryz.prog 194 (bj [.v (bt s), .v (.int .i64 (at_:Int))] []) (aT (.v (.int .i64 (jM s at_ false:Int))) []):=by
 refine Spec.ofN Tryz.func194 rfl Tryz.ntmps194 rfl ?_
 refine am (ba rfl (aj (aH fun K2 hK2=> ?_)))
 refine au ?_
 refine bD (α:=Nat) (fun k=> k≤s.length∧jM s k false=jM s at_ false) 41 [(0,_)] [] (fun k=> [(1, .v (.int .i64 (k:Int)))]) (fun k=> []) [] [] (fun k=> s.length - k) at_ ?_ (by
  refine Le.mkJ [] [] rfl ?_ ?_ trivial trivial ?_
  ·exact ⟨(iV rfl),(bY ag),trivial⟩
  ·exact trivial
  ·kernel_rfl) ?_
 ·exact ⟨ha,rfl⟩
 intro k hk
 obtain ⟨hk,hs⟩:=hk
 refine aH fun K3 hK3=> ?_
 refine am (aP rfl (dQ rfl (ai (gF _ Tryz.underlying9 rfl) (ai (bp _ _ rfl rfl rfl) (aj (aO rfl (fun hc9=> ?_) (fun hc9=> ?_)))))))
 ·skip
  obtain ⟨b,hb⟩:=jD (s:=s) (a:=k) ab
  have hbi:=Hh b
  refine bB (hK3 _ ?_)
  clear hK3;try clear K3
  refine au (am (dQ rfl (aP rfl (ai (kk _ _ Tryz.underlying9 rfl rfl (by assumption)) ?_))))
  refine ba rfl (aj (am (aP rfl (ai (br _ _ rfl rfl rfl) (aj (aO rfl (fun hc14=> ?_) (fun hc14=> ?_)))))))
  ·skip
   have hs:=(xB hb ab).symm.trans hs
   refine au ?_
   refine bD (α:=Nat) (fun j=> k≤j∧j≤s.length∧jM s j true=jM s at_ false∧(j=k→j < s.length)) 41 [(0,_)] [] (fun j=> [(1, .v (.int .i64 (j:Int)))]) (fun j=> []) [] [] (fun j=> s.length - j) k ?_ (by
    refine Le.mkJ [] [] rfl ?_ ?_ trivial trivial ?_
    ·exact ⟨(iV rfl),(bY ag),trivial⟩
    ·exact trivial
    ·kernel_rfl) ?_
   ·exact ⟨Nat.le_refl _,by omega,hs,fun _=> by omega⟩
   intro j hj
   obtain ⟨hj1,hj2,hsj,hjk⟩:=hj
   refine aH fun K7 hK7=> ?_
   refine aH fun K8 hK8=> ?_
   refine an (aP rfl (dQ rfl (ai (gF _ Tryz.underlying9 rfl) (ai (bp _ _ rfl rfl rfl) (cM rfl (dx (fun hg19=> ?_) (fun hg19=> ?_)))))))
   ·skip
    obtain ⟨u,hu⟩:=jD (s:=s) (a:=j) ab
    have hui:=Hh u
    refine ay rfl rfl (aC _ (rfl:_=AV.v (.string _))) (ay rfl rfl (aC _ (rfl:_=AV.v (.int _ _))) (ay rfl rfl (kk _ _ Tryz.underlying9 rfl rfl (by assumption)) ?_))
    refine ay rfl rfl (cg _ _ rfl rfl rfl) (ai (aG _ _ _ rfl (rfl:_=AV.v (.bool _))) (ax (hK8 _ ?_)))
    clear hK8;try clear K8
    refine aO rfl (fun hc24=> ?_) (fun hc24=> ?_)
    ·skip
     refine bB (hK7 _ ?_)
     clear hK7;try clear K7
     refine au (an (aP rfl (ai (bc _ _ rfl rfl (be ab)) ?_)))
     refine ba rfl (ax (⟨j+1,?_,?_,?_⟩))
     ·exact ⟨by omega,by omega,(CZ hu ab).symm.trans hsj,fun _=> by omega⟩
     ·skip
      refine Le.mkJ [] [] rfl ?_ ?_ trivial trivial ?_
      ·exact ⟨(iV rfl),(bY ag),trivial⟩
      ·exact trivial
      ·kernel_rfl
     ·omega
    ·skip
     have hjs:jM s j false=jM s at_ false:=by rw [← hsj,Dd hu ab]
     have hjk':k < j:=Nat.lt_of_le_of_ne hj1 fun e=> by subst e;rw [hb] at hu;obtain rfl:=Option.some.inj hu;omega
     refine bK (id (⟨j,?_,?_,?_⟩))
     ·exact ⟨hj2,hjs⟩
     ·skip
      refine Le.mkJ [] [] rfl ?_ ?_ trivial trivial ?_
      ·exact ⟨(iV rfl),(bY ag),trivial⟩
      ·exact trivial
      ·kernel_rfl
     ·omega
   ·skip
    have hjs:jM s j false=jM s at_ false:=by rw [← hsj,qf ab,qf ab]
    have hjk':k < j:=Nat.lt_of_le_of_ne hj1 fun e=> by have:=hjk e.symm;omega
    refine aW rfl rfl ah ?_
    refine aW rfl rfl ah ?_
    refine aW rfl rfl ah ?_
    refine aW rfl rfl ah ?_
    refine ai (aG _ _ _ rfl (rfl:_=AV.v (.bool _))) (ax (hK8 _ ?_))
    clear hK8;try clear K8
    refine aS rfl rfl (bK (id (⟨j,?_,?_,?_⟩)))
    ·exact ⟨hj2,hjs⟩
    ·skip
     refine Le.mkJ [] [] rfl ?_ ?_ trivial trivial ?_
     ·exact ⟨(iV rfl),(bY ag),trivial⟩
     ·exact trivial
     ·kernel_rfl
    ·omega
  ·skip
   refine am (aP rfl (ai (br _ _ rfl rfl rfl) (cM rfl (dx (fun hg29=> ?_) (fun hg29=> ?_)))))
   ·skip
    have hs2:jM s (k+1) false=jM s at_ false:=(sP hb ab ab).symm.trans hs
    refine aW rfl rfl ah ?_
    refine aW rfl rfl ah ?_
    refine ai (aG _ _ _ rfl (rfl:_=AV.v (.bool _))) (cM rfl (aW rfl rfl ah ?_))
    refine aW rfl rfl ah ?_
    refine ai (aG _ _ _ rfl (rfl:_=AV.v (.bool _))) (aj (bC rfl rfl ?_))
    refine aN (σ':=aA 41 [(0,_),(1,_)] [] [] []) kp ?_
    refine an (aP rfl (ai (bc _ _ rfl rfl (be ab)) ?_))
    refine ba rfl (ax (⟨k+1,?_,?_,?_⟩))
    ·exact ⟨by omega,hs2⟩
    ·skip
     refine Le.mkJ [] [] rfl ?_ ?_ trivial trivial ?_
     ·exact ⟨(iV rfl),(bY ag),trivial⟩
     ·exact trivial
     ·kernel_rfl
    ·omega
   ·skip
    refine ay rfl rfl (aC _ (rfl:_=AV.v (.int _ _))) (ay rfl rfl (br _ _ rfl rfl rfl) (ai (aG _ _ _ rfl (rfl:_=AV.v (.bool _))) (cM rfl (dx (fun hg33=> ?_) (fun hg33=> ?_)))))
    ·skip
     have hs2:jM s (k+1) false=jM s at_ false:=(sP hb ab ab).symm.trans hs
     refine aW rfl rfl ah ?_
     refine aW rfl rfl ah ?_
     refine ai (aG _ _ _ rfl (rfl:_=AV.v (.bool _))) (aj (bC rfl rfl ?_))
     refine aN (σ':=aA 41 [(0,_),(1,_)] [] [] []) kp ?_
     refine an (aP rfl (ai (bc _ _ rfl rfl (be ab)) ?_))
     refine ba rfl (ax (⟨k+1,?_,?_,?_⟩))
     ·exact ⟨by omega,hs2⟩
     ·skip
      refine Le.mkJ [] [] rfl ?_ ?_ trivial trivial ?_
      ·exact ⟨(iV rfl),(bY ag),trivial⟩
      ·exact trivial
      ·kernel_rfl
     ·omega
    ·skip
     refine ay rfl rfl (aC _ (rfl:_=AV.v (.int _ _))) (ay rfl rfl (br _ _ rfl rfl rfl) (ai (aG _ _ _ rfl (rfl:_=AV.v (.bool _))) (aj (aO rfl (fun hc36=> ?_) (fun hc36=> ?_)))))
     ·skip
      have hs2:jM s (k+1) false=jM s at_ false:=(sP hb ab ab).symm.trans hs
      refine aN (σ':=aA 41 [(0,_),(1,_)] [] [] []) kp ?_
      refine an (aP rfl (ai (bc _ _ rfl rfl (be ab)) ?_))
      refine ba rfl (ax (⟨k+1,?_,?_,?_⟩))
      ·exact ⟨by omega,hs2⟩
      ·skip
       refine Le.mkJ [] [] rfl ?_ ?_ trivial trivial ?_
       ·exact ⟨(iV rfl),(bY ag),trivial⟩
       ·exact trivial
       ·kernel_rfl
      ·omega
     ·skip
      have hs3:=(BJ hb ab ab).symm.trans hs
      refine aq ?_
      refine aN (σ':=aA 41 [(1,_)] [] [] []) kp ?_
      refine an (aP rfl (ba rfl (aj (aE (aX (.inr rfl) rfl (.tmp (rfl:_=AV.v (.int _ _))) (Le.out [] [] (bY ?_) rfl rfl rfl trivial trivial))))))
      rw [hs3]
 ·skip
  refine bK (id (hK2 _ ?_))
  clear hK2;try clear K2
  refine am (aP rfl (ba rfl (aj (aE (aX (.inr rfl) rfl (.tmp (rfl:_=AV.v (.int _ _))) (Le.out [] [] (bY ?_) rfl rfl rfl trivial trivial))))))
  rw [← hs,qf ab]
theorem oQ (s:Tx) (h1:s.length≤100000) (hd: ∀ b∈s,fX b=true) (hv:jR s≤2147483647):Spec Tryz.prog 223 (bj [.v (bt s)] []) (aT (.v (.int .i64 (jR s:Int))) []):=by
 have hvt:=fun i=> we s i
 refine Spec.ofN Tryz.func223 rfl Tryz.ntmps223 rfl ?_
 refine am (ba rfl (aj (am (ba rfl (aj (aH fun K3 hK3=> ?_))))))
 refine am (ba rfl (aj (au ?_)))
 refine bD (α:=Nat) (fun k=> k≤s.length) 22 [(0,_)] [] (fun k=> [(3, .v (.int .i64 (jR (s.take k):Int))),(4, .v (.int .i64 (k:Int)))]) (fun k=> []) [] [] (fun k=> s.length - k) 0 ?_ (by
  refine Le.mkJ [] [] rfl ?_ ?_ trivial trivial ?_
  ·exact ⟨(iV rfl),(bY ag),(bY ag),trivial⟩
  ·exact trivial
  ·kernel_rfl) ?_
 ·omega
 intro k hk
 refine aH fun K5 hK5=> ?_
 refine am (aP rfl (dQ rfl (ai (gF _ Tryz.underlying9 rfl) (ai (bp _ _ rfl rfl rfl) (aj (aO rfl (fun hc8=> ?_) (fun hc8=> ?_)))))))
 ·skip
  obtain ⟨b,hb⟩:=jD (s:=s) (a:=k) ab
  have hbi:=Hh b
  have hbd:=(qY b).1 (hd b (List.mem_of_getElem? hb))
  have hvs:=wm hb
  have hv0:=hvt k
  have hv1:=hvt (k+1)
  have hvi:(10:Int)*(jR (s.take k):Int)+(b.toNat:Int) - 48=(jR (s.take (k+1)):Int):=by omega
  refine bB (hK5 _ ?_)
  clear hK5;try clear K5
  refine aq (au (am (aP rfl (ai (tK _ _ rfl rfl (be ab)) ?_))))
  refine dQ rfl (aP rfl (ai (kk _ _ Tryz.underlying9 rfl rfl (by assumption)) ?_))
  refine ai (Au _ Tryz.underlying5 Tryz.underlying3 rfl (be ab)) ?_
  refine ai (bc _ _ rfl rfl (be ab)) ?_
  refine ai (bk _ _ rfl rfl (be ab)) ?_
  refine ba rfl (aj (am (aP rfl (ai (dB _ _ rfl rfl rfl) (aj (aS rfl (decide_eq_false ab) ?_))))))
  refine cf ?_
  refine aN (σ':=aA 22 [(0,_),(3,_),(4,_)] [] [] []) kp ?_
  refine an (aP rfl (ai (bc _ _ rfl rfl (be ab)) ?_))
  refine ba rfl (ax (⟨k+1,?_,?_,?_⟩))
  ·omega
  ·skip
   refine Le.mkJ [] [] rfl ?_ ?_ trivial trivial ?_
   ·exact ⟨(iV rfl),(bY ab),(bY ag),trivial⟩
   ·exact trivial
   ·kernel_rfl
  ·omega
 ·skip
  have he:s.take k=s:=List.take_of_length_le ab
  refine bK (id (hK3 _ ?_))
  clear hK3;try clear K3
  refine am (aP rfl (ba rfl (aj (aE (aX (.inr rfl) rfl (.tmp (rfl:_=AV.v (.int _ _))) (Le.out [] [] (bY ?_) rfl rfl rfl trivial trivial))))))
  rw [he]

theorem wC {p:UInt8→Bool} {c:UInt8}: ∀ {l:List UInt8},c∈l.takeWhile p→p c=true
 | [],h=> by simp at h
 | x::l,h=> by
  rw [List.takeWhile_cons] at h
  split at h
  ·rename_i hx
   rcases List.mem_cons.1 h with rfl | h
   ·exact hx
   ·exact wC h
  ·simp at h
def sD (c:UInt8):Bool:=lL c || fX c
theorem pt {s:Tx} {a:Nat} {b:UInt8} {t:Tk} (hb:s[a]? =some b) (h1:lL b=true) (h:pb (s.drop a) a=some t):kb sD s (a+1) - a≤10∧t=⟨1,a,(s.drop a).take (kb sD s (a+1) - a),0⟩:=by
 rw [rA hb]
 rw [fM hb,pb] at h
 simp only [h1,if_true] at h
 rw [show kb sD s (a+1) - a=(b::(s.drop (a+1)).takeWhile fun x=> lL x || fX x).length by unfold kb sD;rw [List.length_cons];omega]
 split at h
 ·cases h
 ·rename_i hl;exact ⟨by omega,(Option.some.inj h).symm⟩
theorem rQ {s:Tx} {a:Nat} {b:UInt8} {t:Tk} (hb:s[a]? =some b) (h1:lL b=false) (h2:fX b=true) (h:pb (s.drop a) a=some t):
  (∀ c∈(s.drop a).take (kb fX s (a+1) - a),fX c=true)∧jR ((s.drop a).take (kb fX s (a+1) - a))≤2147483647∧t=⟨2,a,(s.drop a).take (kb fX s (a+1) - a),jR ((s.drop a).take (kb fX s (a+1) - a))⟩:=by
 rw [rA hb]
 rw [fM hb,pb] at h
 simp only [h1,h2,if_true] at h
 simp only [Bool.false_eq_true,if_false] at h
 split at h
 ·cases h
 ·rename_i hl
  refine ⟨fun c hc=> ?_,by omega,(Option.some.inj h).symm⟩
  rcases List.mem_cons.1 hc with rfl | hc
  ·exact h2
  ·exact wC hc
theorem rh {s:Tx} {a:Nat} {b:UInt8} {t:Tk} (hb:s[a]? =some b) (h1:lL b=false) (h2:fX b=false) (h:pb (s.drop a) a=some t):
  ((s.drop a).take 2∈zZ∧t=⟨3,a,(s.drop a).take 2,0⟩)∨((s.drop a).take 2∉zZ∧(s.drop a).take 1∈Do∧t=⟨3,a,(s.drop a).take 1,0⟩):=by
 rw [fM hb,pb] at h
 simp only [h1,h2,Bool.false_eq_true,if_false] at h
 rw [fM hb]
 split at h
 ·rename_i hm;exact .inl ⟨hm,(Option.some.inj h).symm⟩
 ·rename_i hm
  split at h
  ·rename_i hs;exact .inr ⟨hm,hs,(Option.some.inj h).symm⟩
  ·cases h
theorem vj {s:Tx} {a:Nat} (h:a < s.length):(s.drop a).take (min (a+2) s.length - a)=(s.drop a).take 2:=by
 by_cases h2:a+2≤s.length
 ·congr 1;omega
 ·rw [List.take_of_length_le (by rw [List.length_drop];omega),List.take_of_length_le (by rw [List.length_drop];omega)]
theorem tB (s:Tx) (a:Nat) (h1:s.length≤100000) (ha:a < s.length) (t:Tk) (ht:pb (s.drop a) a=some t):
  Spec Tryz.prog 195 (bj [.v (bt s), .v (.int .i64 (a:Int))] []) (aT (.tup [.agg [.v (.int .i64 (t.k:Int)), .v (.int .i64 (t.a:Int)), .v (bt t.t), .v (.int .i64 (t.n:Int))], .v (.int .i64 0)]) []):=by
 obtain ⟨b,hb⟩:=jD ha
 have hwl:=qi (p:=sD) (s:=s) (a:=a+1) ab
 have hdl:=qi (p:=fX) (s:=s) (a:=a+1) ab
 refine Spec.ofN Tryz.func195 rfl Tryz.ntmps195 rfl ?_
 refine am (ai (az (4,0) aa rfl rfl) (ba rfl (aj (am (aP rfl (ai (bc _ _ rfl rfl (be ab)) ?_))))))
 refine ba rfl (aj (aq (am (dQ rfl (aP rfl (ai (kk _ _ Tryz.underlying9 rfl rfl (by assumption)) ?_))))))
 refine ai (aF aa al (nc b) rfl rfl) ?_
 refine aj (aO rfl (fun hc15=> ?_) (fun hc15=> ?_))
 ·skip
  obtain ⟨htl,hte⟩:=pt hb hc15 ht
  refine aH fun K5 hK5=> ?_
  refine au ?_
  refine bD (α:=Nat) (fun e=> a+1≤e∧e≤s.length∧kb sD s e=kb sD s (a+1)) 101 [(0,_),(1,_),(4,_)] [((4,0),_)] (fun e=> [(6, .v (.int .i64 (e:Int)))]) (fun e=> []) [] [] (fun e=> s.length - e) (a+1) ?_ (by
   refine Le.mkJ [] [] rfl ?_ ?_ trivial trivial ?_
   ·exact ⟨(iV rfl),(iV rfl),(iP rfl),(bY ag),trivial⟩
   ·exact ⟨(ce rfl rfl rfl),trivial⟩
   ·kernel_rfl) ?_
  ·exact ⟨Nat.le_refl _,by omega,rfl⟩
  intro e he
  obtain ⟨he1,he2,het⟩:=he
  refine aH fun K6 hK6=> ?_
  refine aH fun K7 hK7=> ?_
  refine an (aP rfl (dQ rfl (ai (gF _ Tryz.underlying9 rfl) (ai (bp _ _ rfl rfl rfl) (cM rfl (dx (fun hg20=> ?_) (fun hg20=> ?_)))))))
  ·skip
   obtain ⟨u,hu⟩:=jD (s:=s) (a:=e) ab
   refine ay rfl rfl (aC _ (rfl:_=AV.v (.string _))) (ay rfl rfl (aC _ (rfl:_=AV.v (.int _ _))) (ay rfl rfl (kk _ _ Tryz.underlying9 rfl rfl (by assumption)) ?_))
   refine ay rfl rfl (aF aa al (nc u) rfl rfl) ?_
   refine ay rfl rfl (aC _ (rfl:_=AV.v (.bool _))) (dx (fun hg25=> ?_) (fun hg25=> ?_))
   ·skip
    have hnx:kb sD s (e+1)=kb sD s (a+1):=(qM hu (by unfold sD;rw [hg25];rfl)).symm.trans het
    refine aW rfl rfl ah ?_
    refine aW rfl rfl ah ?_
    refine aW rfl rfl ah ?_
    refine aW rfl rfl ah ?_
    refine ay rfl rfl (aG _ _ _ rfl (rfl:_=AV.v (.bool _))) (ai (aG _ _ _ rfl (rfl:_=AV.v (.bool _))) (ax (hK7 _ ?_)))
    clear hK7;try clear K7
    refine bC rfl rfl (bB (hK6 _ ?_))
    clear hK6;try clear K6
    refine au ?_
    refine aN (σ':=aA 101 [(0,_),(1,_),(4,_),(6,_)] [((4,0),_)] [] []) kp ?_
    refine an (aP rfl (ai (bc _ _ rfl rfl (be ab)) ?_))
    refine ba rfl (ax (⟨e+1,?_,?_,?_⟩))
    ·exact ⟨by omega,by omega,hnx⟩
    ·skip
     refine Le.mkJ [] [] rfl ?_ ?_ trivial trivial ?_
     ·exact ⟨(iV rfl),(iV rfl),(iP rfl),(bY ag),trivial⟩
     ·exact ⟨(ce rfl rfl rfl),trivial⟩
     ·kernel_rfl
    ·omega
   ·skip
    refine ay rfl rfl (aC _ (rfl:_=AV.v (.string _))) (ay rfl rfl (aC _ (rfl:_=AV.v (.int _ _))) (ay rfl rfl (kk _ _ Tryz.underlying9 rfl rfl (by assumption)) ?_))
    refine ay rfl rfl (aF aa al (lc u) rfl rfl) ?_
    refine ay rfl rfl (aG _ _ _ rfl (rfl:_=AV.v (.bool _))) (ai (aG _ _ _ rfl (rfl:_=AV.v (.bool _))) (ax (hK7 _ ?_)))
    clear hK7;try clear K7
    refine aO rfl (fun hc31=> ?_) (fun hc31=> ?_)
    ·skip
     have hnx:kb sD s (e+1)=kb sD s (a+1):=(qM hu (by unfold sD;rw [hg25,hc31];rfl)).symm.trans het
     refine bB (hK6 _ ?_)
     clear hK6;try clear K6
     refine au ?_
     refine aN (σ':=aA 101 [(0,_),(1,_),(4,_),(6,_)] [((4,0),_)] [] []) kp ?_
     refine an (aP rfl (ai (bc _ _ rfl rfl (be ab)) ?_))
     refine ba rfl (ax (⟨e+1,?_,?_,?_⟩))
     ·exact ⟨by omega,by omega,hnx⟩
     ·skip
      refine Le.mkJ [] [] rfl ?_ ?_ trivial trivial ?_
      ·exact ⟨(iV rfl),(iV rfl),(iP rfl),(bY ag),trivial⟩
      ·exact ⟨(ce rfl rfl rfl),trivial⟩
      ·kernel_rfl
     ·omega
    ·skip
     have hfin:e=kb sD s (a+1):=(yi hu (by unfold sD;rw [hg25,hc31];rfl)).symm.trans het
     refine bK (id (hK5 _ ?_))
     clear hK5;try clear K5
     refine aq (aq ?_)
     refine aN (σ':=aA 101 [(0,_),(1,_),(4,_),(6,_)] [((4,0),_)] [] []) kp ?_
     refine an (aP rfl (aP rfl (ai (bk _ _ rfl rfl (be ab)) ?_)))
     refine ai (dB _ _ rfl rfl rfl) (aj (aS rfl (decide_eq_false ab) ?_))
     refine aL (am (aP rfl (dQ rfl (aP rfl (aP rfl (ai (kx _ _ _ Tryz.underlying9 rfl _ _ (.lit rfl rfl) (.lit rfl rfl) ab ab rfl) ?_))))))
     refine ai (aB _ aa rfl (by exact (rfl:_=some [_,_,_,_]))) ?_
     refine bO rfl rfl rfl rfl rfl rfl (ba rfl (aj (aE ?_)))
     subst hte;subst hfin
     exact lT (.inr rfl) rfl (.cellA aa rfl rfl rfl) (.tmp (rfl:_=AV.v _)) (Le.out [] [] (.tup rfl lz) rfl rfl rfl trivial trivial)
  ·skip
   have hfin:e=kb sD s (a+1):=(uD ab).symm.trans het
   refine aW rfl rfl ah ?_
   refine aW rfl rfl ah ?_
   refine aW rfl rfl ah ?_
   refine aW rfl rfl ah ?_
   refine aW rfl rfl ah ?_
   refine mY rfl rfl (mY rfl rfl (mY rfl rfl (mY rfl rfl (aW rfl rfl ah ?_))))
   refine ai (aG _ _ _ rfl (rfl:_=AV.v (.bool _))) (ax (hK7 _ ?_))
   clear hK7;try clear K7
   refine aS rfl rfl (bK (id (hK5 _ ?_)))
   clear hK5;try clear K5
   refine aq (aq ?_)
   refine aN (σ':=aA 101 [(0,_),(1,_),(4,_),(6,_)] [((4,0),_)] [] []) kp ?_
   refine an (aP rfl (aP rfl (ai (bk _ _ rfl rfl (be ab)) ?_)))
   refine ai (dB _ _ rfl rfl rfl) (aj (aS rfl (decide_eq_false ab) ?_))
   refine aL (am (aP rfl (dQ rfl (aP rfl (aP rfl (ai (kx _ _ _ Tryz.underlying9 rfl _ _ (.lit rfl rfl) (.lit rfl rfl) ab ab rfl) ?_))))))
   refine ai (aB _ aa rfl (by exact (rfl:_=some [_,_,_,_]))) ?_
   refine bO rfl rfl rfl rfl rfl rfl (ba rfl (aj (aE ?_)))
   subst hte;subst hfin
   exact lT (.inr rfl) rfl (.cellA aa rfl rfl rfl) (.tmp (rfl:_=AV.v _)) (Le.out [] [] (.tup rfl lz) rfl rfl rfl trivial trivial)
 ·skip
  have hlb:=hc15
  refine aL (aq (am (dQ rfl (aP rfl (ai (kk _ _ Tryz.underlying9 rfl rfl (by assumption)) ?_)))))
  refine ai (aF aa al (lc b) rfl rfl) ?_
  refine aj (aO rfl (fun hc48=> ?_) (fun hc48=> ?_))
  ·skip
   obtain ⟨htd,htv,hte⟩:=rQ hb hlb hc48 ht
   refine aH fun K16 hK16=> ?_
   refine au ?_
   refine bD (α:=Nat) (fun e=> a+1≤e∧e≤s.length∧kb fX s e=kb fX s (a+1)) 101 [(0,_),(1,_),(4,_)] [((4,0),_)] (fun e=> [(6, .v (.int .i64 (e:Int)))]) (fun e=> []) [] [] (fun e=> s.length - e) (a+1) ?_ (by
    refine Le.mkJ [] [] rfl ?_ ?_ trivial trivial ?_
    ·exact ⟨(iV rfl),(iV rfl),(iP rfl),(bY ag),trivial⟩
    ·exact ⟨(ce rfl rfl rfl),trivial⟩
    ·kernel_rfl) ?_
   ·exact ⟨Nat.le_refl _,by omega,rfl⟩
   intro e he
   obtain ⟨he1,he2,het⟩:=he
   refine aH fun K17 hK17=> ?_
   refine aH fun K18 hK18=> ?_
   refine an (aP rfl (dQ rfl (ai (gF _ Tryz.underlying9 rfl) (ai (bp _ _ rfl rfl rfl) (cM rfl (dx (fun hg53=> ?_) (fun hg53=> ?_)))))))
   ·skip
    obtain ⟨u,hu⟩:=jD (s:=s) (a:=e) ab
    refine ay rfl rfl (aC _ (rfl:_=AV.v (.string _))) (ay rfl rfl (aC _ (rfl:_=AV.v (.int _ _))) (ay rfl rfl (kk _ _ Tryz.underlying9 rfl rfl (by assumption)) ?_))
    refine ay rfl rfl (aF aa al (lc u) rfl rfl) ?_
    refine ai (aG _ _ _ rfl (rfl:_=AV.v (.bool _))) (ax (hK18 _ ?_))
    clear hK18;try clear K18
    refine aO rfl (fun hc58=> ?_) (fun hc58=> ?_)
    ·skip
     have hnx:kb fX s (e+1)=kb fX s (a+1):=(qM hu hc58).symm.trans het
     refine bB (hK17 _ ?_)
     clear hK17;try clear K17
     refine au (an (aP rfl (ai (bc _ _ rfl rfl (be ab)) ?_)))
     refine ba rfl (ax (⟨e+1,?_,?_,?_⟩))
     ·exact ⟨by omega,by omega,hnx⟩
     ·skip
      refine Le.mkJ [] [] rfl ?_ ?_ trivial trivial ?_
      ·exact ⟨(iV rfl),(iV rfl),(iP rfl),(bY ag),trivial⟩
      ·exact ⟨(ce rfl rfl rfl),trivial⟩
      ·kernel_rfl
     ·omega
    ·skip
     have hfin:e=kb fX s (a+1):=(yi hu hc58).symm.trans het
     refine bK (id (hK16 _ ?_))
     clear hK16;try clear K16
     refine am (dQ rfl (aP rfl (aP rfl (ai (kx _ _ _ Tryz.underlying9 rfl _ _ (.lit rfl rfl) (.lit rfl rfl) ab ab rfl) ?_))))
     refine ai (aF aa al (oQ ((s.drop a).take (e - a)) (by simp;omega) (by rw [hfin];exact htd) (by rw [hfin];exact htv)) rfl rfl) ?_
     refine ba rfl (aj (aq (aq ?_)))
     refine aN (σ':=aA 101 [(0,_),(1,_),(4,_),(6,_),(7,_)] [((4,0),_)] [] []) kp ?_
     refine an (aP rfl (ai (bp _ _ rfl rfl rfl) (aj (aS rfl (decide_eq_false ab) ?_))))
     refine aL (am (aP rfl (dQ rfl (aP rfl (aP rfl (ai (kx _ _ _ Tryz.underlying9 rfl _ _ (.lit rfl rfl) (.lit rfl rfl) ab ab rfl) ?_))))))
     refine aP rfl (ai (aB _ aa rfl (by exact (rfl:_=some [_,_,_,_]))) ?_)
     refine bO rfl rfl rfl rfl rfl rfl (ba rfl (aj (aE ?_)))
     subst hte;subst hfin
     exact lT (.inr rfl) rfl (.cellA aa rfl rfl rfl) (.tmp (rfl:_=AV.v _)) (Le.out [] [] (.tup rfl lz) rfl rfl rfl trivial trivial)
   ·skip
    have hfin:e=kb fX s (a+1):=(uD ab).symm.trans het
    refine aW rfl rfl ah ?_
    refine aW rfl rfl ah ?_
    refine aW rfl rfl ah ?_
    refine aW rfl rfl ah ?_
    refine ai (aG _ _ _ rfl (rfl:_=AV.v (.bool _))) (ax (hK18 _ ?_))
    clear hK18;try clear K18
    refine aS rfl rfl (bK (id (hK16 _ ?_)))
    clear hK16;try clear K16
    refine am (dQ rfl (aP rfl (aP rfl (ai (kx _ _ _ Tryz.underlying9 rfl _ _ (.lit rfl rfl) (.lit rfl rfl) ab ab rfl) ?_))))
    refine ai (aF aa al (oQ ((s.drop a).take (e - a)) (by simp;omega) (by rw [hfin];exact htd) (by rw [hfin];exact htv)) rfl rfl) ?_
    refine ba rfl (aj (aq (aq ?_)))
    refine aN (σ':=aA 101 [(0,_),(1,_),(4,_),(6,_),(7,_)] [((4,0),_)] [] []) kp ?_
    refine an (aP rfl (ai (bp _ _ rfl rfl rfl) (aj (aS rfl (decide_eq_false ab) ?_))))
    refine aL (am (aP rfl (dQ rfl (aP rfl (aP rfl (ai (kx _ _ _ Tryz.underlying9 rfl _ _ (.lit rfl rfl) (.lit rfl rfl) ab ab rfl) ?_))))))
    refine aP rfl (ai (aB _ aa rfl (by exact (rfl:_=some [_,_,_,_]))) ?_)
    refine bO rfl rfl rfl rfl rfl rfl (ba rfl (aj (aE ?_)))
    subst hte;subst hfin
    exact lT (.inr rfl) rfl (.cellA aa rfl rfl rfl) (.tmp (rfl:_=AV.v _)) (Le.out [] [] (.tup rfl lz) rfl rfl rfl trivial trivial)
  ·skip
   have hsy:=rh hb hlb hc48 ht
   refine aL (am (dQ rfl (aP rfl (aP rfl (ai (bc _ _ rfl rfl (be ab)) ?_)))))
   refine dQ rfl (ai (gF _ Tryz.underlying9 rfl) (ai (nS _ _ rfl rfl rfl) (ai (kx _ _ _ Tryz.underlying9 rfl a (min (a+2) s.length) (.lit rfl rfl) (.lit rfl ab) ab ab (vj ha)) ?_)))
   refine jp rfl (aj (aq (aq ?_)))
   refine aN (σ':=aA 101 [(0,_),(1,_),(4,_),(6,_),(8,_)] [((4,0),_)] [] []) kp ?_
   refine an (ai (aU _ _ aa rfl ag (by (simp <;> rfl)) ah rfl) ?_)
   refine dQ rfl (ai (aF aa al (nT zZ 6 rfl ab ((s.drop a).take 2)) rfl rfl) ?_)
   refine aj (aO rfl (fun hc86=> ?_) (fun hc86=> ?_))
   ·skip
    have hte:t=⟨3,a,(s.drop a).take 2,0⟩:=hsy.elim (·.2) fun h=> absurd hc86 h.1
    refine am (aP rfl (dQ rfl (ai (aB _ aa rfl (by exact (rfl:_=some [_,_,_,_]))) ?_)))
    refine bO rfl rfl rfl rfl rfl rfl (ba rfl (aj (aE ?_)))
    subst hte
    exact lT (.inr rfl) rfl (.cellA aa rfl rfl rfl) (.tmp (rfl:_=AV.v _)) (Le.out [] [] (.tup rfl lz) rfl rfl rfl trivial trivial)
   ·skip
    obtain ⟨_,hs1,hte⟩:=hsy.resolve_left fun h=> hc86 h.1
    refine aL (am (dQ rfl (aP rfl (aP rfl (ai (kx _ _ _ Tryz.underlying9 rfl a (a+1) (.lit rfl rfl) (.lit rfl rfl) ab ab (by rw [Nat.add_sub_cancel_left])) ?_)))))
    refine jp rfl (aj (aq (am (ai (aU _ _ aa rfl ag (by (simp <;> rfl)) ah rfl) ?_))))
    refine dQ rfl (ai (aF aa al (nT Do 16 rfl ab ((s.drop a).take 1)) rfl rfl) ?_)
    refine aj (bC rfl (decide_eq_true hs1) ?_)
    refine am (aP rfl (dQ rfl (ai (aB _ aa rfl (by exact (rfl:_=some [_,_,_,_]))) ?_)))
    refine bO rfl rfl rfl rfl rfl rfl (ba rfl (aj (aE ?_)))
    subst hte
    exact lT (.inr rfl) rfl (.cellA aa rfl rfl rfl) (.tmp (rfl:_=AV.v _)) (Le.out [] [] (.tup rfl lz) rfl rfl rfl trivial trivial)
theorem lr {f:Nat} {s:Tx} {a:Nat} {l:List Tk} (h:lH (f+1) s a=some l):(s.length≤a∧l=[⟨0,s.length,[],0⟩])∨(a < s.length∧ ∃ t m,pb (s.drop a) a=some t∧lH f s (jM s (a+t.t.length) false)=some m∧l=t::m):=by
 unfold lH at h
 split at h
 ·exact .inl ⟨by assumption,(Option.some.inj h).symm⟩
 ·split at h
  ·cases h
  ·split at h
   ·cases h
   ·rename_i t ht _ m hm
    exact .inr ⟨by omega,t,m,ht,hm,(Option.some.inj h).symm⟩
theorem rq {s:Tx} {a:Nat} {t:Tk} (ha:a < s.length) (h:pb (s.drop a) a=some t):0 < t.t.length∧a+t.t.length≤s.length:=by
 obtain ⟨b,hb⟩:=jD ha
 have key: ∀ k,0 < k→0 < ((s.drop a).take k).length∧a+((s.drop a).take k).length≤s.length:=fun k hk=> by rw [List.length_take,List.length_drop];omega
 cases h1:lL b with
 | true=> obtain ⟨_,rfl⟩:=pt hb h1 h;exact key _ (by have:=qi (p:=sD) (s:=s) (a:=a+1) ab;omega)
 | false=>
  cases h2:fX b with
  | true=> obtain ⟨_,_,rfl⟩:=rQ hb h1 h2 h;exact key _ (by have:=qi (p:=fX) (s:=s) (a:=a+1) ab;omega)
  | false=>
   rcases rh hb h1 h2 h with ⟨_,rfl⟩ | ⟨_,_,rfl⟩
   ·exact key _ ab
   ·exact key _ ab
def Cg (s:Tx) (l:List Tk) (z:Nat×List Tk):Prop:=z.1≤s.length∧z.2.length≤z.1∧ ∃ f m,lH f s z.1=some m∧l=z.2++m
theorem sg (s:Tx) (h1:s.length≤100000) (l:List Tk) (hl:AZ s=some l):
  Spec Tryz.prog 159 (bj [.v (bt s)] []) (aT (.tup [.sl l.length (qT l), .v (.int .i64 0), .v (.int .i64 0)]) []):=by
 have hs0:=tv (s:=s) (a:=0) (Nat.zero_le _) false
 refine Spec.ofN Tryz.func159 rfl Tryz.ntmps159 rfl ?_
 refine am (ai (bJ _ (rfl:_=AV.v (.slice _ _ _))) (ba rfl (ba rfl (aj (am (ai (mP (5,0) _ 225 4 rfl rfl) ?_))))))
 refine aj (am (dQ rfl (ai (aF aa al (pI s 0 h1 (Nat.zero_le _)) rfl rfl) ?_)))
 refine ba rfl (aj (aH fun K4 hK4=> ?_))
 refine au ?_
 refine bD (α:=Nat×List Tk) (fun z=> Cg s l z) 42 [(0,_)] [] (fun z=> [(6, .v (.int .i64 (z.1:Int))),(5, .ref (5,0) 0 z.2.length)]) (fun z=> [((5,0), .row 225 4 (qT z.2))]) [] [] (fun z=> s.length - z.1) (jM s 0 false,[]) ?_ (by
  refine Le.mkJ [] [] rfl ?_ ?_ trivial trivial ?_
  ·exact ⟨(iV rfl),(bY ag),(cq rfl ag),trivial⟩
  ·exact ⟨(cw rfl rfl rfl ag),trivial⟩
  ·kernel_rfl) ?_
 ·exact ⟨hs0.2,Nat.zero_le _,s.length+1,l,by rw [← hl];unfold AZ jM;rw [List.drop_zero,Nat.zero_add],rfl⟩
 intro z hz
 obtain ⟨hz1,hz2,f,m,hf,hlm⟩:=hz
 obtain ⟨f,rfl⟩: ∃ g,f=g+1:=by cases f with | zero=> (simp [lH] at hf) | succ g=> exact ⟨g,rfl⟩
 refine aH fun K5 hK5=> ?_
 refine am (aP rfl (dQ rfl (ai (gF _ Tryz.underlying9 rfl) (ai (bp _ _ rfl rfl rfl) (aj (aO rfl (fun hc14=> ?_) (fun hc14=> ?_)))))))
 ·skip
  obtain ⟨_,t,m',ht,hm',hm⟩:=(lr hf).resolve_left fun h=> by omega
  obtain ⟨htl,hta⟩:=rq ab ht
  have hsk:=tv (s:=s) (a:=z.1+t.t.length) hta false
  have hlen:(z.2++[t]).length=z.2.length+1:=by simp
  refine bB (hK5 _ ?_)
  clear hK5;try clear K5
  refine au (am (dQ rfl (aP rfl (ai (aF aa al (tB s z.1 h1 ab t ht) rfl rfl) ?_))))
  refine ai (aC _ (rfl:_=AV.tup _)) (ai (dk _ rfl (rfl:_=some (AV.agg _))) (ai (dk _ rfl (rfl:_=some (AV.v (.int _ _)))) (ai (az (7,0) aa rfl rfl) (bO rfl rfl rfl rfl rfl rfl (ba rfl (aj (aq (am (aP rfl (ai (cg (r:=false) _ _ rfl rfl rfl) ?_))))))))))
  refine aj (aS rfl rfl (aL (aq ?_)))
  refine aN (σ':=aA 42 [(0,_),(5,_),(6,_),(7,_)] [((5,0),_),((7,0),_)] [] []) kp ?_
  refine an (ei rfl (ai (aR _ aa rfl rfl rfl rfl) (ai (aU _ _ aa rfl ag (by (simp <;> rfl)) ah rfl) ?_)))
  refine ai (cE (28,0) _ _ aa rfl rfl (bE _).symm (.sl rfl) ab rfl (rS _ _) hlen.symm) ?_
  refine dY rfl (aj (an (dQ rfl (aP rfl (bz rfl rfl rfl (ai (aM _ aa rfl rfl (rfl:_=some (AV.v (.string _)))) (ai (gF _ Tryz.underlying9 rfl) (ai (bc _ _ rfl rfl (be ab)) ?_))))))))
  refine ai (aF aa al (pI s (z.1+t.t.length) h1 hta) rfl rfl) ?_
  refine ba rfl (ax (⟨(jM s (z.1+t.t.length) false,z.2++[t]),?_,?_,?_⟩))
  ·exact ⟨hsk.2,by simp only;omega,f,m',hm',by rw [hlm,hm];simp⟩
  ·skip
   refine Le.mkJ [((5,0),(28,0))] [] rfl ?_ ?_ trivial trivial ?_
   ·exact ⟨(by repeat' (exact Lv.v)),(bY ag),(cq rfl ag),trivial⟩
   ·exact ⟨(cw rfl rfl rfl ag),trivial⟩
   ·kernel_rfl
  ·simp only;omega
 ·skip
  obtain ⟨_,hm⟩:=(lr hf).resolve_right fun h=> by omega
  have hlen:(z.2++[(⟨0,s.length,[],0⟩:Tk)]).length=z.2.length+1:=by simp
  rw [hm] at hlm;subst hlm
  refine bK (id (hK4 _ ?_))
  clear hK4;try clear K4
  refine am (ei rfl (dQ rfl (ai (gF _ Tryz.underlying9 rfl) (ai (aB _ aa rfl (by exact (rfl:_=some [_,_,_,_]))) ?_))))
  refine ai (aU _ _ aa rfl ag (by (simp <;> rfl)) ah rfl) ?_
  refine ai (cE (41,0) _ _ aa rfl rfl (bE _).symm (.sl rfl) ab rfl (rS _ ⟨0,s.length,[],0⟩) hlen.symm) ?_
  exact dY rfl (ba rfl (ba rfl (aj (aE (zq (.inr rfl) rfl (.tmp (rfl:_=AV.ref _ _ _)) (.tmp (rfl:_=AV.v _)) (.tmp (rfl:_=AV.v _)) (Le.out [] [(41,0)] (.tup rfl (aD (fY rfl rfl (bE _).symm rfl) lz)) rfl rfl rfl tr trivial))))))
end Go.Proofs.YtmjnackchaahbaaGreat
