/- Part 8 of the texts that the walk leans on: the machine, the walks, the plain laws. -/
import Derived.Test.YtmjnackchaahbaaGreatVcZ7
set_option linter.unusedSimpArgs false
set_option linter.unusedVariables false
namespace Go.Proofs.YtmjnackchaahbaaGreat
open Go.RowKit

def eL:Ex→Nat
  | .int _=> 1 | .bool _=> 2 | .var _=> 1 | .name _=> 1
  | .draw e=> if eL e=1 then 1 else 0
  | .neg e=> if eL e=1 then 1 else 0
  | .not e=> if eL e=2 then 2 else 0
  | .bin o a b=> if eL a=1∧eL b=1 then (match o with | .add=> 1 | .sub=> 1 | .mul=> 1 | .div=> 1 | _=> 2) else 0
  | .and a b=> if eL a=2∧eL b=2 then 2 else 0
  | .or a b=> if eL a=2∧eL b=2 then 2 else 0
def mC (e:Ex):Bool:=Nat.beq (eL e) 1
mutual
def vF:Sm→Bool
  | .assign _ e=> mC e
  | .send t _ a b=> mC t && mC a && mC b
  | .timer _=> true | .cancel _=> true | .sync=> true | .stop=> true
  | .reply a b=> mC a && mC b
  | .fail e=> mC e
  | .loop c b=> Nat.beq (eL c) 2 && nu b
  | .ite c a b=> Nat.beq (eL c) 2 && nu a && nu b
def nu:Bk→Bool
  | .nil=> true
  | .cons s b=> vF s && nu b
end
def ez (nv:Nat):Ex→Bool
  | .int n=> decide (-2147483647≤n) && decide (n≤2147483647)
  | .bool _=> true
  | .var i=> decide (i < nv)
  | .name k=> decide (k < 9)
  | .draw e=> ez nv e | .neg e=> ez nv e | .not e=> ez nv e
  | .bin _ a b=> ez nv a && ez nv b
  | .and a b=> ez nv a && ez nv b
  | .or a b=> ez nv a && ez nv b
mutual
def kF (nv:Nat):Sm→Bool
  | .assign i e=> decide (i < nv) && ez nv e
  | .send t k a b=> decide (k < 30) && ez nv t && ez nv a && ez nv b
  | .timer k=> decide (k < 8) | .cancel k=> decide (k < 8) | .sync=> true | .stop=> true
  | .reply a b=> ez nv a && ez nv b
  | .fail e=> ez nv e
  | .loop c b=> ez nv c && nR nv b
  | .ite c a b=> ez nv c && nR nv a && nR nv b
def nR (nv:Nat):Bk→Bool
  | .nil=> true
  | .cons s b=> kF nv s && nR nv b
end
theorem di (nv:Nat): ∀ e,ez nv e=true→ft nv e
  | .int n,h=> by simpa [ez,ft] using h
  | .bool _,_=> trivial
  | .var i,h=> by simpa [ez,ft] using h
  | .name k,h=> by simpa [ez,ft] using h
  | .draw e,h=> di nv e h
  | .neg e,h=> di nv e h
  | .not e,h=> di nv e h
  | .bin _ a b,h=> by simp only [ez,Bool.and_eq_true] at h;exact ⟨di nv a h.1,di nv b h.2⟩
  | .and a b,h=> by simp only [ez,Bool.and_eq_true] at h;exact ⟨di nv a h.1,di nv b h.2⟩
  | .or a b,h=> by simp only [ez,Bool.and_eq_true] at h;exact ⟨di nv a h.1,di nv b h.2⟩
mutual
theorem xt (nv:Nat): ∀ s,kF nv s=true→eY nv s
  | .assign i e,h=> by simp only [kF,Bool.and_eq_true,decide_eq_true_eq] at h;exact ⟨h.1,di nv e h.2⟩
  | .send t k a b,h=> by simp only [kF,Bool.and_eq_true,decide_eq_true_eq] at h;exact ⟨h.1.1.1,di nv t h.1.1.2,di nv a h.1.2,di nv b h.2⟩
  | .timer k,h=> by simpa [kF,eY] using h
  | .cancel k,h=> by simpa [kF,eY] using h
  | .sync,_=> by simp [eY]
  | .stop,_=> by simp [eY]
  | .reply a b,h=> by simp only [kF,Bool.and_eq_true] at h;exact ⟨di nv a h.1,di nv b h.2⟩
  | .fail e,h=> by simp only [kF] at h;exact di nv e h
  | .loop c b,h=> by simp only [kF,Bool.and_eq_true] at h;exact ⟨di nv c h.1,jY nv b h.2⟩
  | .ite c a b,h=> by simp only [kF,Bool.and_eq_true] at h;exact ⟨di nv c h.1.1,jY nv a h.1.2,jY nv b h.2⟩
theorem jY (nv:Nat): ∀ b,nR nv b=true→ia nv b
  | .nil,_=> by simp [ia]
  | .cons s b,h=> by simp only [nR,Bool.and_eq_true] at h;exact ⟨xt nv s h.1,jY nv b h.2⟩
end
structure Gx (l:List (Nat×Bk)) (nv:Nat):Prop where
  ok: ∀ p∈l,ia nv p.2
  wl: ∀ p∈l,nu p.2=true
  n:(bT l 0).length≤400
  h: ∀ p∈l,p.1 < 40
  nd:(l.map (·.1)).Nodup
  d: ∀ k∈ky l,k≤8
def srcB (l:List (Nat×Bk)) (nv:Nat):Bool:=l.all (fun p=> nR nv p.2 && nu p.2 && decide (p.1 < 40)) && decide ((bT l 0).length≤400) && decide (l.map (·.1)).Nodup && (ky l).all fun k=> decide (k≤8)
theorem zK {l:List (Nat×Bk)} {nv:Nat} (h:srcB l nv=true):Gx l nv:=by
  simp only [srcB,Bool.and_eq_true,List.all_eq_true,decide_eq_true_eq] at h
  exact ⟨fun p hp=> jY nv _ (h.1.1.1 p hp).1.1,fun p hp=> (h.1.1.1 p hp).1.2,h.1.1.2,fun p hp=> (h.1.1.1 p hp).2,h.1.2,h.2⟩
theorem srcOkL:Gx onsL (AE++BW).length:=zK ae
def qH (l:List (Nat×Bk)) (i:Nat):Nat:=(ky l).getD i 0
theorem mY (l:List (Nat×Bk)):Fit (qH l) 0 (ky l):=fun k d h=> by
  unfold qH
  rw [Nat.zero_add,List.getD_eq_getElem?_getD,h];rfl
theorem Cl {l:List (Nat×Bk)} {nv dur:Nat} {names ans:List Int} (hn:nv≤16) (ho: ∀ p∈l,ia nv p.2) (hm: ∀ i,Rg (names.getD i 0)):PG ⟨bT l 0,dur,names,ans⟩ (qH l) nv:=
  ⟨tI (qH l) nv l 0 0 ((bT l 0).length - 1) ho (mY l) (Nat.le_refl _) ab,hn,hm⟩
def sq (n k:Int):List et:=[{ op:= .var },{ op:= .push,n:=n },{ op:= .lt },{ op:= .unl,n:=13 },{ op:= .push,n:=k },{ op:= .var },{ op:= .push,n:=5 },{ op:= .send,n:=7 },
  { op:= .var },{ op:= .push,n:=1 },{ op:= .add },{ op:= .setVar },{ op:= .jump },{ op:= .stop }]
def rF (i:Nat):Nat:=[0,1,2,1,0,1,2,3,0,1,2,1,0,0].getD i 0
theorem AN {n k:Int} (hn:Rg n) (hk:Rg k) {names ans:List Int} (hm: ∀ i,Rg (names.getD i 0)):PG ⟨sq n k,1,names,ans⟩ rF 1:=by
  refine ⟨fun i x hx=> ?_,by omega,hm⟩
  unfold sq at hx ⊢
  rw [Nat.zero_add]
  rcases i with _ | _ | _ | _ | _ | _ | _ | _ | _ | _ | _ | _ | _ | _ | i
  all_goals first | (simp at hx;done) | (simp only [List.getElem?_cons_zero,List.getElem?_cons_succ,Option.some.injEq] at hx;subst hx)
  all_goals refine ⟨?_,?_,fun j hj=> ?_⟩
  all_goals first | exact hn | exact hk | (simp [cT];done) | (simp [Opc.pops,rF];done) | (simp [dA] at hj;done) | (simp [dA] at hj;subst hj;simp [rF,Opc.pops,Opc.puts];done) | (simp [dA] at hj;rcases hj with rfl | rfl <;> simp [rF,Opc.pops,Opc.puts];done)

abbrev DS:=List Int×Bool×Bool
def ic (n:Nat) (d:Int) (s:DS) (j:Nat):DS:=
  if n≤j then s else if s.1.getD j (-1) < 0 then (s.1.set j d,s.2.1,true) else if s.1.getD j (-1)≠d then (s.1,false,s.2.2) else s
def cJ (C:List et) (i:Nat):et:=C.getD i { op:= .stop }
def Bj (C:List et) (i:Nat) (s:DS):Int:=max (s.1.getD i (-1) - (cJ C i).op.pops) 0+(cJ C i).op.puts
def kb (C:List et) (s:DS) (i:Nat):DS:=
  if s.1.getD i (-1) < 0 then s
  else (dA i (cJ C i)).foldl (ic C.length (Bj C i s)) (s.1,if s.1.getD i (-1) - (cJ C i).op.pops < 0 then false else s.2.1,s.2.2)
def dj (C:List et) (s:List Int×Bool) (k:Nat):DS:=(List.range k).foldl (kb C) (s.1,s.2,false)
theorem nE (C:List et) (s:List Int×Bool) (k:Nat):dj C s (k+1)=kb C (dj C s k) k:=by simp [dj,List.range_succ,List.foldl_append]
def ig (C:List et):Nat→List Int×Bool→List Int×Bool
  | 0,s=> s
  | f+1,s=> if (dj C s C.length).2.2=true then ig C f ((dj C s C.length).1,(dj C s C.length).2.1) else ((dj C s C.length).1,(dj C s C.length).2.1)
def neg (l:List Int):Nat:=l.countP fun x=> decide (x < 0)
theorem Bn {l:List Int} {j:Nat} {d:Int} (hj:j < l.length) (h:l.getD j (-1) < 0) (hd:0≤d):neg (l.set j d)+1=neg l:=by
  unfold neg
  have e:l=l.take j++l[j]::l.drop (j+1):=by rw [List.getElem_cons_drop hj,List.take_append_drop]
  have h':l[j] < 0:=by rwa [List.getD_eq_getElem?_getD,List.getElem?_eq_getElem hj] at h
  rw [List.set_eq_take_append_cons_drop,if_pos hj]
  conv=> rhs;rw [e]
  simp only [List.countP_append,List.countP_cons]
  rw [decide_eq_true h',decide_eq_false (show ¬ d < 0 by omega)]
  simp
  omega
structure DI (D:Nat→Nat) (n:Nat) (s:DS):Prop where
  len:s.1.length=n
  val: ∀ i,i < n→s.1.getD i (-1)= -1∨s.1.getD i (-1)=(D i:Int)
  ok:s.2.1=true
theorem iH {l:List Int} {j i:Nat} {d:Int}:(l.set j d).getD i (-1)=if i=j∧j < l.length then d else l.getD i (-1):=by
  simp only [List.getD_eq_getElem?_getD,List.getElem?_set]
  by_cases h:j=i
  · subst h
    by_cases h2:j < l.length
    · simp [h2]
    · simp [h2]
  · simp [h,Ne.symm h]
theorem BF {D:Nat→Nat} {n:Nat} {d:Int} {s:DS} {j:Nat} (h:DI D n s) (hd:d=(D j:Int)):DI D n (ic n d s j)∧neg (ic n d s j).1≤neg s.1∧((ic n d s j).2.2=true→s.2.2=true∨neg (ic n d s j).1 < neg s.1):=by
  unfold ic
  split
  · exact ⟨h,Nat.le_refl _,fun e=> .inl e⟩
  · rename_i hj
    split
    · rename_i hn
      have:=Bn (l:=s.1) (j:=j) (d:=d) (by rw [h.len];omega) hn ab
      refine ⟨⟨by rw [List.length_set];exact h.len,fun i hi=> ?_,h.ok⟩,by simp only;omega,fun _=> .inr (by simp only;omega)⟩
      simp only
      rw [iH]
      split
      · rename_i hc;rw [hc.1];exact .inr hd
      · exact h.val i hi
    · rename_i hn
      have hv:=h.val j ab
      have:s.1.getD j (-1)=d:=by rw [hd];rcases hv with hv | hv <;> omega
      rw [if_neg (fun hc=> hc this)]
      exact ⟨h,Nat.le_refl _,fun e=> .inl e⟩
theorem lD {D:Nat→Nat} {n:Nat} {d:Int}: ∀ (l:List Nat) {s:DS},DI D n s→(∀ j∈l,d=(D j:Int))→DI D n (l.foldl (ic n d) s)∧neg (l.foldl (ic n d) s).1≤neg s.1∧((l.foldl (ic n d) s).2.2=true→s.2.2=true∨neg (l.foldl (ic n d) s).1 < neg s.1)
  | [],s,h,_=> ⟨h,Nat.le_refl _,fun e=> .inl e⟩
  | j::l,s,h,hd=> by
    obtain ⟨a1,a2,a3⟩:=BF h (hd j (by simp))
    obtain ⟨b1,b2,b3⟩:=lD l a1 fun j hj=> hd j (by simp [hj])
    simp only [List.foldl_cons]
    refine ⟨b1,by omega,fun e=> ?_⟩
    rcases b3 e with e | e
    · rcases a3 e with e | e
      · exact .inl e
      · exact .inr ab
    · exact .inr ab
section
variable {D:Nat→Nat} {nv:Nat} {C:List et} (hC:Good D nv 0 (C.length - 1) 0 C)
include hC
theorem wG {s:DS} {i:Nat} (hi:i < C.length) (h:DI D C.length s):DI D C.length (kb C s i)∧neg (kb C s i).1≤neg s.1∧((kb C s i).2.2=true→s.2.2=true∨neg (kb C s i).1 < neg s.1):=by
  unfold kb
  split
  · exact ⟨h,Nat.le_refl _,fun e=> .inl e⟩
  · rename_i hn
    have hx:C[i]? =some (cJ C i):=by unfold cJ;rw [List.getD_eq_getElem?_getD,List.getElem?_eq_getElem hi];rfl
    obtain ⟨_,g2,g3⟩:=hC i _ hx
    rw [Nat.zero_add] at g2 g3
    have hv:s.1.getD i (-1)=(D i:Int):=by rcases h.val i hi with hv | hv <;> omega
    have hdo:Bj C i s=((D i - (cJ C i).op.pops+(cJ C i).op.puts:Nat):Int):=by unfold Bj;rw [hv];omega
    rw [if_neg (by rw [hv];omega)]
    exact lD _ ⟨h.len,h.val,h.ok⟩ fun j hj=> by rw [hdo,(g3 j hj).2.2]
theorem jB {s:List Int×Bool} (h:DI D C.length (s.1,s.2,false)): ∀ k,k≤C.length→DI D C.length (dj C s k)∧neg (dj C s k).1≤neg s.1∧((dj C s k).2.2=true→neg (dj C s k).1 < neg s.1)
  | 0,_=> ⟨h,Nat.le_refl _,fun e=> by simp [dj] at e⟩
  | k+1,hk=> by
    obtain ⟨a1,a2,a3⟩:=jB h k ab
    obtain ⟨b1,b2,b3⟩:=wG hC ab a1 (i:=k)
    rw [nE]
    refine ⟨b1,by omega,fun e=> ?_⟩
    rcases b3 e with e | e
    · have:=a3 e;omega
    · omega
theorem rx: ∀ f (s:List Int×Bool),DI D C.length (s.1,s.2,false)→DI D C.length ((ig C f s).1,(ig C f s).2,false)
  | 0,s,h=> h
  | f+1,s,h=> by
    obtain ⟨a1,_,_⟩:=jB hC h C.length (Nat.le_refl _)
    unfold ig
    split
    · exact rx f _ ⟨a1.len,a1.val,a1.ok⟩
    · exact ⟨a1.len,a1.val,a1.ok⟩
end
theorem sG {C:List et} {f:Nat} {s:List Int×Bool} (h:(dj C s C.length).2.2=true):ig C (f+1) s=ig C f ((dj C s C.length).1,(dj C s C.length).2.1):=by rw [ig,if_pos h]
theorem sZ {C:List et} {f:Nat} {s:List Int×Bool} (h:(dj C s C.length).2.2=false):ig C (f+1) s=((dj C s C.length).1,(dj C s C.length).2.1):=by rw [ig,if_neg (by simp [h])]
def gX (C:List et) (e:Int):List Int×Bool:=if e < 0∨(C.length:Int)≤e then (List.replicate C.length (-1),true) else ig C (C.length+1) ((List.replicate C.length (-1)).set e.toNat 0,true)
theorem nB {D:Nat→Nat} {nv:Nat} {C:List et} (hC:Good D nv 0 (C.length - 1) 0 C) {e:Int} (he:0≤e→e < C.length→D e.toNat=0):DI D C.length ((gX C e).1,(gX C e).2,false):=by
  have hr: ∀ i,(List.replicate C.length (-1:Int)).getD i (-1)= -1:=fun i=> by rw [List.getD_eq_getElem?_getD,List.getElem?_replicate];split <;> rfl
  unfold gX
  split
  · exact ⟨by simp,fun i _=> .inl (hr i),rfl⟩
  · refine rx hC _ _ ⟨by simp,fun i hi=> ?_,rfl⟩
    simp only
    rw [iH]
    split
    · rename_i hc
      right
      rw [hc.1,he ab ab];rfl
    · exact .inl (hr i)
def ju (C:List et) (out:List Int) (k:Nat):Int:=(List.range k).foldl (fun m i=> if 0≤out.getD i (-1) then max (max m (out.getD i (-1))) (out.getD i (-1) - (cJ C i).op.pops+(cJ C i).op.puts) else m) 0
theorem ny (C:List et) (out:List Int) (k:Nat):ju C out (k+1)=if 0≤out.getD k (-1) then max (max (ju C out k) (out.getD k (-1))) (out.getD k (-1) - (cJ C k).op.pops+(cJ C k).op.puts) else ju C out k:=by simp [ju,List.range_succ,List.foldl_append]
theorem Ao (o:Opc):o.puts≤1:=by cases o <;> decide
theorem lX {C:List et} {out:List Int} {D:Nat→Nat} {n:Nat} {ok ch:Bool} (h:DI D n (out,ok,ch)) {B:Nat} (hB: ∀ i,i < n→D i≤B): ∀ k,k≤n→0≤ju C out k∧ju C out k≤B+1
  | 0,_=> by simp [ju];omega
  | k+1,hk=> by
    obtain ⟨h1,h2⟩:=lX (C:=C) h hB k ab
    have h3:=hB k ab
    have h4:out.getD k (-1)= -1∨out.getD k (-1)=(D k:Int):=h.val k ab
    have h5:=Ao (cJ C k).op
    have h6:=ny C out k
    rw [h6]
    rcases h4 with h4 | h4 <;> rw [h4] <;> split <;> omega
def lR (l:List (Nat×Nat)):List Int:=l.foldl (fun m p=> m.set p.1 (p.2:Int)) (List.replicate 40 (-1))
theorem yR (l:List (Nat×Nat)):(lR l).length=40:=by
  unfold lR
  have: ∀ (l:List (Nat×Nat)) (m:List Int),m.length=40→(l.foldl (fun m p=> m.set p.1 (p.2:Int)) m).length=40:=by
    intro l
    induction l with
    | nil=> exact fun m h=> h
    | cons p l ih=> exact fun m h=> ih _ (by rw [List.length_set];exact h)
  exact this l _ (by simp)
theorem xp: ∀ (l:List (Nat×Nat)) (h:Nat),(lR l).getD h (-1)= -1∨ ∃ e,(h,e)∈l∧(lR l).getD h (-1)=(e:Int):=by
  unfold lR
  have key: ∀ (l:List (Nat×Nat)) (m:List Int) (h:Nat),(l.foldl (fun m p=> m.set p.1 (p.2:Int)) m).getD h (-1)=m.getD h (-1)∨ ∃ e,(h,e)∈l∧(l.foldl (fun m p=> m.set p.1 (p.2:Int)) m).getD h (-1)=(e:Int):=by
    intro l
    induction l with
    | nil=> exact fun m h=> .inl rfl
    | cons p l ih=>
      intro m h
      simp only [List.foldl_cons]
      rcases ih (m.set p.1 (p.2:Int)) h with e | ⟨e,h1,h2⟩
      · rw [e,iH]
        split
        · rename_i hc
          exact .inr ⟨p.2,by rw [hc.1];exact List.mem_cons_self,rfl⟩
        · exact .inl rfl
      · exact .inr ⟨e,List.mem_cons_of_mem _ h1,h2⟩
  intro l h
  rcases key l (List.replicate 40 (-1)) h with e | e
  · left
    rw [e,List.getD_eq_getElem?_getD,List.getElem?_replicate]
    split <;> rfl
  · exact .inr e
def hZ (l:List (Nat×Bk)):Bool:=decide ((bT l 0).length≤400) && (List.range 40).all fun h=> decide (ju (bT l 0) (gX (bT l 0) ((lR (iJ l 0)).getD h (-1))).1 (bT l 0).length≤16)
theorem tC (l:List (Nat×Bk)) (h:Nat):(lR (iJ l 0)).getD h (-1)= -1∨ ∃ e:Nat,(h,e)∈iJ l 0∧(lR (iJ l 0)).getD h (-1)=(e:Int)∧e < (bT l 0).length∧qH l e=0:=by
  rcases xp (iJ l 0) h with e | ⟨e,h1,h2⟩
  · exact .inl e
  · obtain ⟨_,h4,h5⟩:=ul (mY l) h1
    exact .inr ⟨e,h1,h2,by omega,h5⟩
theorem vM {l:List (Nat×Bk)} {nv:Nat} (hs:Gx l nv):hZ l=true:=by
  unfold hZ
  rw [Bool.and_eq_true,decide_eq_true_eq,List.all_eq_true]
  refine ⟨hs.n,fun h _=> ?_⟩
  rw [decide_eq_true_eq]
  have hg:=tI (qH l) nv l 0 0 ((bT l 0).length - 1) hs.ok (mY l) (Nat.le_refl _) ab
  have hd:=nB hg (e:=(lR (iJ l 0)).getD h (-1)) (fun h1 h2=> by
    rcases tC l h with e | ⟨e,_,e2,_,e4⟩
    · omega
    · rw [e2];exact e4)
  have hB: ∀ i,i < (bT l 0).length→qH l i≤8:=fun i hi=> by
    unfold qH
    rw [← og l 0] at hi
    rw [List.getD_eq_getElem?_getD,List.getElem?_eq_getElem hi]
    exact hs.d _ (List.getElem_mem hi)
  have:=(lX (C:=bT l 0) hd hB _ (Nat.le_refl _)).2
  omega

theorem mt {α β:Type} (f:α→List β) (c:Nat) (hf: ∀ a,(f a).length=c): ∀ l:List α,(l.flatMap f).length=l.length*c
 | []=> by simp
 | a::l=> by rw [List.flatMap_cons,List.length_append,hf,mt f c hf l,List.length_cons,Nat.succ_mul];omega
theorem nb {α β:Type} (f:α→List β) (c:Nat) (hf: ∀ a,(f a).length=c): ∀ (l:List α) (k:Nat),(l.flatMap f).drop (k*c)=(l.drop k).flatMap f
 | l,0=> by simp
 | [],k+1=> by simp
 | a::l,k+1=> by
  rw [List.flatMap_cons,List.drop_succ_cons,← nb f c hf l k,List.drop_append,List.drop_eq_nil_of_le (by rw [hf,Nat.succ_mul];omega),List.nil_append,hf]
  congr 1;rw [Nat.succ_mul];omega
theorem nP {α β:Type} (f:α→List β) (c:Nat) (hf: ∀ a,(f a).length=c) (l:List α) (k:Nat) (h:k < l.length):((l.flatMap f).drop (k*c)).take c=f l[k]:=by
 rw [nb f c hf,List.drop_eq_getElem_cons h,List.flatMap_cons,List.take_append_of_le_length (by rw [hf];exact Nat.le_refl _),List.take_of_length_le (by rw [hf];exact Nat.le_refl _)]
theorem nU {α β:Type} (f:α→List β) (c:Nat) (hf: ∀ a,(f a).length=c) (l:List α) (k j:Nat) (h:k < l.length) (hj:j < c):(l.flatMap f)[k*c+j]? =(f l[k])[j]? :=by
 rw [← nP f c hf l k h,List.getElem?_take_of_lt hj,List.getElem?_drop]
theorem lG {α β:Type} (f:α→List β) (l:List α) (a:α):l.flatMap f++f a=(l++[a]).flatMap f:=by simp
theorem ya {α β:Type} (f:α→List β) (l m:List α):l.flatMap f++m.flatMap f=(l++m).flatMap f:=by simp

def dT (l:List Tx):List PV:=l.map fun t=> .v (bt t)
@[simp] theorem bz (l:List Tx):(dT l).length=l.length:=by simp [dT]
theorem fy (l:List Tx) (k:Nat) (h:k < l.length):(dT l)[k]? =some (.v (bt (l.getD k []))):=by simp [dT,h]
theorem nV (a b:List Tx):dT a++dT b=dT (a++b):=by simp [dT]
theorem lK (a:List Tx) (t:Tx):dT a++[.v (bt t)]=dT (a++[t]):=by simp [dT]
theorem iy {l:List Tx} {k:Nat} (h:k < l.length):l.getD k []∈l:=by
 rw [List.getD_eq_getElem?_getD,List.getElem?_eq_getElem h];exact List.getElem_mem h
theorem jr {α:Type} {l:List α} {k:Nat} {x d:α} (h:x∉l.take k) (hk:k < l.length) (hx:l.getD k d≠x):x∉l.take (k+1):=by
 rw [List.take_succ_eq_append_getElem hk,List.mem_append,List.mem_singleton]
 rintro (h' | h')
 ·exact h h'
 ·exact hx (by rw [List.getD_eq_getElem?_getD,List.getElem?_eq_getElem hk,h'];rfl)

def Cf (t:Tk):List PV:=[.v (.int .i64 (t.k:Int)), .v (.int .i64 (t.a:Int)), .v (bt t.t), .v (.int .i64 (t.n:Int))]
def qv (l:List Tk):List PV:=l.flatMap Cf
theorem bw (l:List Tk):(qv l).length=l.length*4:=mt Cf 4 (fun _=> rfl) l
theorem tz (l:List Tk) (k:Nat) (h:k < l.length):cX l k=l[k]:=by simp [cX,h]
theorem ox (l:List Tk) (k:Nat) (h:k < l.length):(qv l)[k*4]? =some (.v (.int .i64 ((cX l k).k:Int))):=by
 rw [tz l k h];exact nU Cf 4 (fun _=> rfl) l k 0 h ab
theorem lj (l:List Tk) (k:Nat) (h:k < l.length):(qv l)[k*4+2]? =some (.v (bt (cX l k).t)):=by
 rw [tz l k h];exact nU Cf 4 (fun _=> rfl) l k 2 h ab
theorem lT (l:List Tk) (k:Nat) (h:k < l.length):PV.ups (((qv l).drop (k*4)).take 4)=[.v (.int .i64 ((cX l k).k:Int)), .v (.int .i64 ((cX l k).a:Int)), .v (bt (cX l k).t), .v (.int .i64 ((cX l k).n:Int))]:=by
 rw [tz l k h,show ((qv l).drop (k*4)).take 4=Cf l[k] from nP Cf 4 (fun _=> rfl) l k h];rfl
theorem rR (l:List Tk) (t:Tk):qv l++Cf t=qv (l++[t]):=lG Cf l t

theorem fw {s:Tx} {a:Nat} {b:UInt8} (h:s[a]? =some b):s.drop a=b::s.drop (a+1):=by
 obtain ⟨hl,rfl⟩:=List.getElem?_eq_some_iff.1 h
 exact List.drop_eq_getElem_cons hl
theorem jf {s:Tx} {a:Nat} (h:a < s.length): ∃ b,s[a]? =some b:=⟨_,List.getElem?_eq_getElem h⟩
theorem Ko (b:UInt8):0≤(b.toNat:Int)∧(b.toNat:Int) < 256:=⟨by omega,by have:=b.toNat_lt;omega⟩
def js (s:Tx) (a:Nat) (c:Bool):Nat:=a+qI (s.drop a) c
theorem qb {s:Tx} {a:Nat} (h:s.length≤a) (c:Bool):js s a c=a:=by
 unfold js;rw [List.drop_eq_nil_of_le h];unfold qI;rfl
theorem DW {s:Tx} {a:Nat} {b:UInt8} (h:s[a]? =some b) (hb:b.toNat=10):js s a true=js s a false:=by
 unfold js;rw [fw h];simp [qI,hb]
theorem Cu {s:Tx} {a:Nat} {b:UInt8} (h:s[a]? =some b) (hb:b.toNat≠10):js s a true=js s (a+1) true:=by
 unfold js;rw [fw h];simp [qI,hb];omega
theorem wJ {s:Tx} {a:Nat} {b:UInt8} (h:s[a]? =some b) (hb:b.toNat=35):js s a false=js s a true:=by
 unfold js;rw [fw h];simp [qI,hb]
theorem sE {s:Tx} {a:Nat} {b:UInt8} (h:s[a]? =some b) (h0:b.toNat≠35) (hb:b.toNat=32∨b.toNat=9∨b.toNat=10):js s a false=js s (a+1) false:=by
 unfold js;rw [fw h,qI,if_neg h0,if_pos hb];omega
theorem Ap {s:Tx} {a:Nat} {b:UInt8} (h:s[a]? =some b) (h0:b.toNat≠35) (hb: ¬ (b.toNat=32∨b.toNat=9∨b.toNat=10)):js s a false=a:=by
 unfold js;rw [fw h,qI,if_neg h0,if_neg hb];rfl
theorem mi: ∀ (l:Tx) (c:Bool),qI l c≤l.length
 | [],c=> by unfold qI;exact Nat.le_refl _
 | x::l,true=> by have h1:=mi l true;have h2:=mi l false;unfold qI;split <;> simp only [List.length_cons] <;> omega
 | x::l,false=> by have h1:=mi l true;have h2:=mi l false;unfold qI;split <;> (try split) <;> simp only [List.length_cons] <;> omega
theorem sY {s:Tx} {a:Nat} (h:a≤s.length) (c:Bool):a≤js s a c∧js s a c≤s.length:=by
 have:=mi (s.drop a) c
 rw [List.length_drop] at this
 unfold js;omega
def jU (p:UInt8→Bool) (s:Tx) (a:Nat):Nat:=a+((s.drop a).takeWhile p).length
theorem tL {p:UInt8→Bool} {s:Tx} {a:Nat} (h:s.length≤a):jU p s a=a:=by
 unfold jU;rw [List.drop_eq_nil_of_le h];rfl
theorem qp {p:UInt8→Bool} {s:Tx} {a:Nat} {b:UInt8} (h:s[a]? =some b) (hb:p b=true):jU p s a=jU p s (a+1):=by
 unfold jU;rw [fw h,List.takeWhile_cons,if_pos hb,List.length_cons];omega
theorem xj {p:UInt8→Bool} {s:Tx} {a:Nat} {b:UInt8} (h:s[a]? =some b) (hb:p b=false):jU p s a=a:=by
 unfold jU;rw [fw h,List.takeWhile_cons,if_neg (by simp [hb])];rfl
theorem qf {p:UInt8→Bool} {s:Tx} {a:Nat} (h:a≤s.length):a≤jU p s a∧jU p s a≤s.length:=by
 have:((s.drop a).takeWhile p).length≤(s.drop a).length:=(List.takeWhile_prefix p).length_le
 rw [List.length_drop] at this
 unfold jU;omega
theorem qW {p:UInt8→Bool} {s:Tx} {a:Nat} {b:UInt8} (h:s[a]? =some b):(s.drop a).take (jU p s (a+1) - a)=b::(s.drop (a+1)).takeWhile p:=by
 rw [fw h,show jU p s (a+1) - a=((s.drop (a+1)).takeWhile p).length+1 by unfold jU;omega,List.take_succ_cons]
 congr 1
 obtain ⟨t,ht⟩:=List.takeWhile_prefix p (l:=s.drop (a+1))
 conv=> lhs;arg 2;rw [← ht]
 rw [List.take_append_of_le_length (Nat.le_refl _),List.take_length]
theorem pI (l:Tx) (b:UInt8):jw (l++[b])=10*jw l+(b.toNat - 48):=by unfold jw;rw [List.foldl_append];rfl
theorem zI (l m:Tx):jw l≤jw (l++m):=by
 induction m generalizing l with
 | nil=> simp
 | cons b m ih=>
  have:=ih (l++[b])
  rw [pI,List.append_assoc] at this
  simp only [List.cons_append,List.nil_append] at this
  omega
theorem vK (l:Tx) (i:Nat):jw (l.take i)≤jw l:=by
 have:=zI (l.take i) (l.drop i)
 rwa [List.take_append_drop] at this
theorem uM {l:Tx} {i:Nat} {b:UInt8} (h:l[i]? =some b):jw (l.take (i+1))=10*jw (l.take i)+(b.toNat - 48):=by
 obtain ⟨hl,rfl⟩:=List.getElem?_eq_some_iff.1 h
 rw [List.take_succ_eq_append_getElem hl,pI]
theorem yA (b:UInt8):lx b=true↔97≤(b.toNat:Int)∧(b.toNat:Int)≤122:=by
 unfold lx;rw [Bool.and_eq_true,Nat.ble_eq,Nat.ble_eq];omega
theorem rl (b:UInt8):fI b=true↔48≤(b.toNat:Int)∧(b.toNat:Int)≤57:=by
 unfold fI;rw [Bool.and_eq_true,Nat.ble_eq,Nat.ble_eq];omega
theorem Cq {b:Bool} {p:Prop} (h:b=true↔p) (hn: ¬ p):b=false:=by
 cases b with
 | false=> rfl
 | true=> exact absurd (h.1 rfl) hn
def inr (x:et):List PV:=[.v (.int .i64 (x.op.num:Int)), .v (.int .i64 x.n)]
def inl (l:List et):List PV:=l.flatMap inr
theorem bL (l:List et):(inl l).length=l.length*2:=mt inr 2 (fun _=> rfl) l
theorem iu (l:List et) (k:Nat) (h:k < l.length):(inl l)[k*2]? =some (.v (.int .i64 ((cJ l k).op.num:Int))):=by
 rw [show cJ l k=l[k] by simp [cJ,h]];exact nU inr 2 (fun _=> rfl) l k 0 h ab
theorem xQ (l:List et) (k:Nat) (h:k < l.length):(inl l)[k*2+1]? =some (.v (.int .i64 (cJ l k).n)):=by
 rw [show cJ l k=l[k] by simp [cJ,h]];exact nU inr 2 (fun _=> rfl) l k 1 h ab
theorem xK (l:List et) (k:Nat) (h:k < l.length):PV.ups (((inl l).drop (k*2)).take 2)=[.v (.int .i64 ((cJ l k).op.num:Int)), .v (.int .i64 (cJ l k).n)]:=by
 rw [show cJ l k=l[k] by simp [cJ,h],show ((inl l).drop (k*2)).take 2=inr l[k] from nP inr 2 (fun _=> rfl) l k h];rfl
theorem ew (l:List et) (x:et):inl l++inr x=inl (l++[x]):=lG inr l x
theorem kv (l m:List et):inl l++inl m=inl (l++m):=ya inr l m
def Eo (x:Ac):List PV:=[.v (.int .i64 x.k), .v (.int .i64 x.a), .v (.int .i64 x.b), .v (.int .i64 x.c), .v (.int .i64 x.d)]
def uD (l:List Ac):List PV:=l.flatMap Eo
def CG (l:List Ac) (k:Nat):Ac:=l.getD k { k:=0 }
theorem gN (l:List Ac):(uD l).length=l.length*5:=mt Eo 5 (fun _=> rfl) l
theorem yo (l:List Ac) (k:Nat) (h:k < l.length):PV.ups (((uD l).drop (k*5)).take 5)=[.v (.int .i64 (CG l k).k), .v (.int .i64 (CG l k).a), .v (.int .i64 (CG l k).b), .v (.int .i64 (CG l k).c), .v (.int .i64 (CG l k).d)]:=by
 rw [show CG l k=l[k] by simp [CG,h],show ((uD l).drop (k*5)).take 5=Eo l[k] from nP Eo 5 (fun _=> rfl) l k h];rfl
theorem wL (l:List Ac) (x:Ac):uD l++Eo x=uD (l++[x]):=lG Eo l x
end Go.Proofs.YtmjnackchaahbaaGreat

namespace Go.Proofs.YtmjnackchaahbaaGreat
abbrev Gk:List Value:=[.int .i64 0, .int .i64 0, .int .i64 0, .int .i64 0, .int .i64 0, .int .i64 0, .int .i64 0, .int .i64 0, .int .i64 0, .int .i64 0, .int .i64 0, .int .i64 0, .int .i64 0, .int .i64 0, .int .i64 0, .int .i64 0, .int .i64 0, .int .i64 0, .int .i64 0, .int .i64 0, .int .i64 0, .int .i64 0, .int .i64 0, .int .i64 0, .int .i64 0, .int .i64 0, .int .i64 0, .int .i64 0, .int .i64 0, .int .i64 0, .int .i64 0, .int .i64 0, .int .i64 0, .int .i64 0, .int .i64 0, .int .i64 0, .int .i64 0, .int .i64 0, .int .i64 0, .int .i64 0]
abbrev Er:List Value:=[.slice none 0 0, .int .i64 0, .int .i64 0, .int .i64 0, .int .i64 0, .int .i64 0, .int .i64 0, .int .i64 0, .int .i64 0, .int .i64 0, .int .i64 0, .int .i64 0, .int .i64 0, .int .i64 0, .int .i64 0, .int .i64 0, .int .i64 0, .int .i64 0, .int .i64 0, .int .i64 0, .int .i64 0, .int .i64 0, .int .i64 0, .int .i64 0, .int .i64 0, .int .i64 0, .int .i64 0, .int .i64 0, .int .i64 0, .int .i64 0, .int .i64 0, .int .i64 0, .int .i64 0, .int .i64 0, .int .i64 0, .int .i64 0, .int .i64 0, .int .i64 0, .int .i64 0, .int .i64 0, .int .i64 0, .int .i64 0, .int .i64 0]
abbrev tQ:List Value:=[.int .i64 0, .int .i64 0, .int .i64 0, .int .i64 0, .int .i64 0, .int .i64 0, .int .i64 0, .int .i64 0, .int .i64 0]
abbrev Cj:List Value:=[.slice none 0 0, .slice none 0 0, .int .i64 0, .bool false, .slice none 0 0]
abbrev BZ:List Value:=[.slice none 0 0, .slice none 0 0, .int .i64 0, .bool false, .slice none 0 0, .slice none 0 0]
abbrev mG:List Value:=[.int .i64 0, .int .i64 0, .int .i64 0, .int .i64 0, .int .i64 0]
abbrev En:List Value:=[.slice none 0 0, .slice none 0 0, .slice none 0 0]
abbrev BX:List Value:=[.int .i64 0, .int .i64 0, .string ByteArray.empty, .slice none 0 0]
abbrev Co:List Value:=[.int .i64 0, .int .i64 0, .int .i64 0, .string ByteArray.empty, .slice none 0 0]
abbrev Hz:List Value:=[.int .i64 0, .int .i64 0, .int .i64 0, .int .i64 0, .int .i64 0, .int .i64 0, .int .i64 0, .int .i64 0, .int .i64 0, .int .i64 0, .int .i64 0, .int .i64 0, .int .i64 0, .int .i64 0, .int .i64 0, .int .i64 0, .int .i64 0, .int .i64 0, .int .i64 0, .int .i64 0, .int .i64 0, .int .i64 0, .int .i64 0, .int .i64 0, .int .i64 0, .int .i64 0, .int .i64 0, .int .i64 0, .int .i64 0, .int .i64 0, .int .i64 0, .int .i64 0, .int .i64 0, .int .i64 0, .int .i64 0, .int .i64 0, .int .i64 0, .int .i64 0, .int .i64 0, .int .i64 0, .int .i64 0]
abbrev uE:List Value:=[.bool false, .int .i64 0, .int .i64 0, .int .i64 0, .slice none 0 0, .slice none 0 0, .slice none 0 0, .slice none 0 0, .int .i64 0, .int .i64 0, .int .i64 0, .int .i64 0, .int .i64 0, .int .i64 0, .int .i64 0, .int .i64 0, .int .i64 0, .int .i64 0, .int .i64 0, .int .i64 0, .int .i64 0, .int .i64 0, .int .i64 0, .int .i64 0, .int .i64 0, .int .i64 0, .int .i64 0, .int .i64 0, .int .i64 0, .int .i64 0, .int .i64 0, .int .i64 0, .int .i64 0, .int .i64 0, .int .i64 0, .int .i64 0, .int .i64 0, .int .i64 0, .int .i64 0, .int .i64 0, .int .i64 0, .int .i64 0, .int .i64 0, .int .i64 0, .int .i64 0, .int .i64 0, .int .i64 0, .int .i64 0, .int .i64 0, .int .i64 0, .int .i64 0, .int .i64 0]
abbrev vy:List Value:=[.int .i64 0, .int .i64 0, .int .i64 0, .int .i64 0, .int .i64 0, .int .i64 0, .int .i64 0, .int .i64 0, .int .i64 0, .int .i64 0, .int .i64 0, .int .i64 0, .int .i64 0, .slice none 0 0, .slice none 0 0]
abbrev vC:List Value:=[.int .i64 0, .int .i64 0, .int .i64 0]
abbrev vd:List Value:=[.int .i64 0, .int .i64 0, .int .i64 0, .slice none 0 0, .bool false, .int .i64 0, .slice none 0 0, .slice none 0 0, .slice none 0 0, .int .i64 0, .bool false, .slice none 0 0]
abbrev ry:List Value:=[.int .i64 0, .int .i64 0, .int .i64 0, .slice none 0 0, .slice none 0 0]
abbrev oI:List Value:=[.int .i64 0, .int .i64 0, .int .i64 0, .int .i64 0, .int .i64 0, .int .i64 0, .int .i64 0]
abbrev uA:List Value:=[.slice none 0 0, .slice none 0 0, .bool false]
abbrev vi:List Value:=[.slice none 0 0, .int .i64 0, .int .i64 0, .int .i64 0, .int .i64 0, .int .i64 0, .int .i64 0, .int .i64 0, .int .i64 0, .int .i64 0]
abbrev vq:List Value:=[.slice none 0 0, .slice none 0 0, .slice none 0 0, .slice none 0 0]
abbrev vB:List Value:=[.slice none 0 0, .int .i64 0, .int .i64 0, .int .i64 0, .int .i64 0, .int .i64 0, .int .i64 0, .int .i64 0, .int .i64 0, .int .i64 0, .int .i64 0, .int .i64 0, .int .i64 0, .int .i64 0, .int .i64 0, .int .i64 0, .int .i64 0, .int .i64 0, .int .i64 0, .int .i64 0, .int .i64 0, .int .i64 0, .int .i64 0, .int .i64 0, .int .i64 0, .int .i64 0, .int .i64 0, .int .i64 0, .int .i64 0, .int .i64 0, .int .i64 0, .int .i64 0, .int .i64 0, .int .i64 0, .int .i64 0, .int .i64 0, .int .i64 0, .int .i64 0, .int .i64 0, .int .i64 0, .int .i64 0, .int .i64 0, .int .i64 0, .slice none 0 0, .int .i64 0, .int .i64 0, .int .i64 0, .int .i64 0, .int .i64 0, .int .i64 0, .int .i64 0, .int .i64 0, .int .i64 0, .nilFunc, .slice none 0 0, .slice none 0 0, .int .i64 0, .bool false, .slice none 0 0, .slice none 0 0, .int .i64 0, .int .i64 0, .int .i64 0, .bool false]
abbrev BE:List Value:=[.nilFunc, .nilFunc, .nilFunc, .nilFunc, .nilFunc, .nilFunc, .nilFunc, .nilFunc, .nilFunc, .nilFunc, .nilFunc, .nilFunc, .nilFunc, .nilFunc, .nilFunc, .nilFunc, .nilFunc, .nilFunc, .nilFunc, .nilFunc, .nilFunc, .nilFunc, .nilFunc, .nilFunc]
abbrev uN:List Value:=[.int .i64 0, .int .i64 0, .int .i64 0, .int .i64 0]
abbrev ri:List Value:=[.int .i64 0, .int .i64 0, .int .i64 0, .int .i64 0, .int .i64 0, .int .i64 0]
abbrev vA:List Value:=[.slice none 0 0, .int .i64 0, .int .i64 0, .int .i64 0, .slice none 0 0]
abbrev rX:List Value:=[.int .i64 0, .int .i64 0, .string ByteArray.empty, .int .i64 0]
abbrev Al:List Value:=[.bool false, .int .i64 0, .int .i64 0, .int .i64 0, .slice none 0 0, .slice none 0 0, .slice none 0 0, .slice none 0 0, .int .i64 0, .int .i64 0, .int .i64 0, .int .i64 0, .int .i64 0, .int .i64 0, .int .i64 0, .int .i64 0, .int .i64 0, .int .i64 0, .int .i64 0, .int .i64 0, .int .i64 0, .int .i64 0, .int .i64 0, .int .i64 0, .int .i64 0, .int .i64 0, .int .i64 0, .int .i64 0, .int .i64 0, .int .i64 0, .int .i64 0, .int .i64 0, .int .i64 0, .int .i64 0, .int .i64 0, .int .i64 0, .int .i64 0, .int .i64 0, .int .i64 0, .int .i64 0, .int .i64 0, .int .i64 0, .int .i64 0, .int .i64 0, .int .i64 0, .int .i64 0, .int .i64 0, .int .i64 0, .int .i64 0, .int .i64 0, .int .i64 0, .int .i64 0, .slice none 0 0, .slice none 0 0, .bool false, .int .i64 0, .slice none 0 0, .int .i64 0, .int .i64 0, .int .i64 0, .slice none 0 0, .slice none 0 0, .int .i64 0, .bool false, .slice none 0 0, .slice none 0 0, .slice none 0 0]
abbrev Fh:List Value:=[.int .u64 0, .int .u64 0, .int .u32 0, .int .u8 0, .int .u8 0, .int .u8 0, .int .u8 0, .nilFunc, .pointer none, .int .i32 0, .int .i32 0]

instance wo:Ty Tryz.prog 1 false [.nilFunc]:=Ty.of (bytes:=8) (.nilFunc) Tryz.underlying1 rfl ae rfl (by simp [Value.oneCell'])
instance wt:Ty Tryz.prog 2 false [.int .i64 0]:=Ty.of (bytes:=8) (.int .i64 0) Tryz.underlying2 rfl ae rfl (by simp [Value.oneCell'])
instance eV:Ty Tryz.prog 3 false [.int .i64 0]:=Ty.of (bytes:=8) (.int .i64 0) Tryz.underlying3 rfl ae rfl (by simp [Value.oneCell'])
instance Cm:Ty Tryz.prog 4 false [.bool false]:=Ty.of (bytes:=1) (.bool false) Tryz.underlying4 rfl ae rfl (by simp [Value.oneCell'])
instance TV:Ty Tryz.prog 5 false [.int .u8 0]:=Ty.of (bytes:=1) (.int .u8 0) Tryz.underlying5 rfl ae rfl (by simp [Value.oneCell'])
instance QI:Ty Tryz.prog 9 false [.string ByteArray.empty]:=Ty.of (bytes:=16) (.string ByteArray.empty) Tryz.underlying9 rfl ae rfl (by simp [Value.oneCell'])
instance Sa:Ty Tryz.prog 12 false [.int .u64 0]:=Ty.of (bytes:=8) (.int .u64 0) Tryz.underlying12 rfl ae rfl (by simp [Value.oneCell'])
instance il:Ty Tryz.prog 22 false [.slice none 0 0]:=Ty.of (bytes:=24) (.slice none 0 0) Tryz.underlying22 rfl ae rfl (by simp [Value.oneCell'])
instance EE:Ty Tryz.prog 23 false [.slice none 0 0]:=Ty.of (bytes:=24) (.slice none 0 0) Tryz.underlying23 rfl ae rfl (by simp [Value.oneCell'])
instance KF:Ty Tryz.prog 24 true Gk:=Ty.of (bytes:=320) (.agg (Gk).toArray) Tryz.underlying24 rfl ae rfl (by simp [Value.oneCell'])
instance Ls:Ty Tryz.prog 26 true Er:=Ty.of (bytes:=360) (.agg (Er).toArray) Tryz.underlying26 rfl ae rfl (by simp [Value.oneCell'])
instance FE:Ty Tryz.prog 30 true tQ:=Ty.of (bytes:=72) (.agg (tQ).toArray) Tryz.underlying30 rfl ae rfl (by simp [Value.oneCell'])
instance AW:Ty Tryz.prog 32 false [.slice none 0 0]:=Ty.of (bytes:=24) (.slice none 0 0) Tryz.underlying32 rfl ae rfl (by simp [Value.oneCell'])
instance SU:Ty Tryz.prog 33 true Cj:=Ty.of (bytes:=88) (.agg (Cj).toArray) Tryz.underlying33 rfl ae rfl (by simp [Value.oneCell'])
instance EP:Ty Tryz.prog 34 true Cj:=Ty.of (bytes:=88) (.agg (Cj).toArray) Tryz.underlying34 rfl ae rfl (by simp [Value.oneCell'])
instance SY:Ty Tryz.prog 38 true BZ:=Ty.of (bytes:=112) (.agg (BZ).toArray) Tryz.underlying38 rfl ae rfl (by simp [Value.oneCell'])
instance SL:Ty Tryz.prog 39 true BZ:=Ty.of (bytes:=112) (.agg (BZ).toArray) Tryz.underlying39 rfl ae rfl (by simp [Value.oneCell'])
instance RN:Ty Tryz.prog 40 false [.nilFunc]:=Ty.of (bytes:=8) (.nilFunc) Tryz.underlying40 rfl ae rfl (by simp [Value.oneCell'])
instance Rl:Ty Tryz.prog 42 false [.nilFunc]:=Ty.of (bytes:=8) (.nilFunc) Tryz.underlying42 rfl ae rfl (by simp [Value.oneCell'])
instance Jz:Ty Tryz.prog 43 false [.nilFunc]:=Ty.of (bytes:=8) (.nilFunc) Tryz.underlying43 rfl ae rfl (by simp [Value.oneCell'])
instance RR:Ty Tryz.prog 44 true [.int .i64 0, .int .i64 0]:=Ty.of (bytes:=16) (.agg #[.int .i64 0, .int .i64 0]) Tryz.underlying44 rfl ae rfl (by simp [Value.oneCell'])
instance SD:Ty Tryz.prog 45 false [.slice none 0 0]:=Ty.of (bytes:=24) (.slice none 0 0) Tryz.underlying45 rfl ae rfl (by simp [Value.oneCell'])
instance Rk:Ty Tryz.prog 47 true [.int .i64 0, .int .i64 0]:=Ty.of (bytes:=16) (.agg #[.int .i64 0, .int .i64 0]) Tryz.underlying47 rfl ae rfl (by simp [Value.oneCell'])
instance RB:Ty Tryz.prog 48 true [.int .i64 0, .int .i64 0]:=Ty.of (bytes:=16) (.agg #[.int .i64 0, .int .i64 0]) Tryz.underlying48 rfl ae rfl (by simp [Value.oneCell'])
instance To:Ty Tryz.prog 51 false [.nilFunc]:=Ty.of (bytes:=8) (.nilFunc) Tryz.underlying51 rfl ae rfl (by simp [Value.oneCell'])
instance Tt:Ty Tryz.prog 57 true mG:=Ty.of (bytes:=40) (.agg (mG).toArray) Tryz.underlying57 rfl ae rfl (by simp [Value.oneCell'])
instance SX:Ty Tryz.prog 60 false [.nilFunc]:=Ty.of (bytes:=8) (.nilFunc) Tryz.underlying60 rfl ae rfl (by simp [Value.oneCell'])
instance Ei:Ty Tryz.prog 61 false [.slice none 0 0]:=Ty.of (bytes:=24) (.slice none 0 0) Tryz.underlying61 rfl ae rfl (by simp [Value.oneCell'])
instance Lc:Ty Tryz.prog 62 false [.slice none 0 0]:=Ty.of (bytes:=24) (.slice none 0 0) Tryz.underlying62 rfl ae rfl (by simp [Value.oneCell'])
instance Ks:Ty Tryz.prog 64 true En:=Ty.of (bytes:=72) (.agg (En).toArray) Tryz.underlying64 rfl ae rfl (by simp [Value.oneCell'])
instance Mr:Ty Tryz.prog 66 false [.int .i64 0]:=Ty.of (bytes:=8) (.int .i64 0) Tryz.underlying66 rfl ae rfl (by simp [Value.oneCell'])
instance LX:Ty Tryz.prog 69 false [.slice none 0 0]:=Ty.of (bytes:=24) (.slice none 0 0) Tryz.underlying69 rfl ae rfl (by simp [Value.oneCell'])
instance Lw:Ty Tryz.prog 71 true BX:=Ty.of (bytes:=56) (.agg (BX).toArray) Tryz.underlying71 rfl ae rfl (by simp [Value.oneCell'])
instance SP:Ty Tryz.prog 73 true Co:=Ty.of (bytes:=64) (.agg (Co).toArray) Tryz.underlying73 rfl ae rfl (by simp [Value.oneCell'])
instance LO:Ty Tryz.prog 78 false [.slice none 0 0]:=Ty.of (bytes:=24) (.slice none 0 0) Tryz.underlying78 rfl ae rfl (by simp [Value.oneCell'])
instance Lz:Ty Tryz.prog 80 true [.slice none 0 0, .slice none 0 0]:=Ty.of (bytes:=48) (.agg #[.slice none 0 0, .slice none 0 0]) Tryz.underlying80 rfl ae rfl (by simp [Value.oneCell'])
instance LJ:Ty Tryz.prog 81 true Hz:=Ty.of (bytes:=328) (.agg (Hz).toArray) Tryz.underlying81 rfl ae rfl (by simp [Value.oneCell'])
instance Su:Ty Tryz.prog 83 true uE:=Ty.of (bytes:=480) (.agg (uE).toArray) Tryz.underlying83 rfl ae rfl (by simp [Value.oneCell'])
instance TL:Ty Tryz.prog 87 true vy:=Ty.of (bytes:=152) (.agg (vy).toArray) Tryz.underlying87 rfl ae rfl (by simp [Value.oneCell'])
instance EY:Ty Tryz.prog 88 false [.slice none 0 0]:=Ty.of (bytes:=24) (.slice none 0 0) Tryz.underlying88 rfl ae rfl (by simp [Value.oneCell'])
instance JM:Ty Tryz.prog 89 false [.slice none 0 0]:=Ty.of (bytes:=24) (.slice none 0 0) Tryz.underlying89 rfl ae rfl (by simp [Value.oneCell'])
instance sC:Ty Tryz.prog 91 true vC:=Ty.of (bytes:=24) (.agg (vC).toArray) Tryz.underlying91 rfl ae rfl (by simp [Value.oneCell'])
instance TM:Ty Tryz.prog 96 true vd:=Ty.of (bytes:=176) (.agg (vd).toArray) Tryz.underlying96 rfl ae rfl (by simp [Value.oneCell'])
instance Tm:Ty Tryz.prog 97 false [.pointer none]:=Ty.of (bytes:=8) (.pointer none) Tryz.underlying97 rfl ae rfl (by simp [Value.oneCell'])
instance TF:Ty Tryz.prog 99 false [.nilFunc]:=Ty.of (bytes:=8) (.nilFunc) Tryz.underlying99 rfl ae rfl (by simp [Value.oneCell'])
instance Qq:Ty Tryz.prog 100 false [.nilFunc]:=Ty.of (bytes:=8) (.nilFunc) Tryz.underlying100 rfl ae rfl (by simp [Value.oneCell'])
instance Ca:Ty Tryz.prog 101 false [.slice none 0 0]:=Ty.of (bytes:=24) (.slice none 0 0) Tryz.underlying101 rfl ae rfl (by simp [Value.oneCell'])
instance Oe:Ty Tryz.prog 102 true ry:=Ty.of (bytes:=72) (.agg (ry).toArray) Tryz.underlying102 rfl ae rfl (by simp [Value.oneCell'])
instance Pd:Ty Tryz.prog 103 true ry:=Ty.of (bytes:=72) (.agg (ry).toArray) Tryz.underlying103 rfl ae rfl (by simp [Value.oneCell'])
instance No:Ty Tryz.prog 104 false [.nilFunc]:=Ty.of (bytes:=8) (.nilFunc) Tryz.underlying104 rfl ae rfl (by simp [Value.oneCell'])
instance Pr:Ty Tryz.prog 105 false [.nilFunc]:=Ty.of (bytes:=8) (.nilFunc) Tryz.underlying105 rfl ae rfl (by simp [Value.oneCell'])
instance Of:Ty Tryz.prog 108 true mG:=Ty.of (bytes:=40) (.agg (mG).toArray) Tryz.underlying108 rfl ae rfl (by simp [Value.oneCell'])
instance xe:Ty Tryz.prog 109 true mG:=Ty.of (bytes:=40) (.agg (mG).toArray) Tryz.underlying109 rfl ae rfl (by simp [Value.oneCell'])
instance NM:Ty Tryz.prog 110 true oI:=Ty.of (bytes:=56) (.agg (oI).toArray) Tryz.underlying110 rfl ae rfl (by simp [Value.oneCell'])
instance QV:Ty Tryz.prog 111 true oI:=Ty.of (bytes:=56) (.agg (oI).toArray) Tryz.underlying111 rfl ae rfl (by simp [Value.oneCell'])
instance Pb:Ty Tryz.prog 112 false [.nilFunc]:=Ty.of (bytes:=8) (.nilFunc) Tryz.underlying112 rfl ae rfl (by simp [Value.oneCell'])
instance Pu:Ty Tryz.prog 113 false [.slice none 0 0]:=Ty.of (bytes:=24) (.slice none 0 0) Tryz.underlying113 rfl ae rfl (by simp [Value.oneCell'])
instance PD:Ty Tryz.prog 114 true mG:=Ty.of (bytes:=40) (.agg (mG).toArray) Tryz.underlying114 rfl ae rfl (by simp [Value.oneCell'])
instance Cc:Ty Tryz.prog 115 true mG:=Ty.of (bytes:=40) (.agg (mG).toArray) Tryz.underlying115 rfl ae rfl (by simp [Value.oneCell'])
instance Pm:Ty Tryz.prog 116 true tQ:=Ty.of (bytes:=72) (.agg (tQ).toArray) Tryz.underlying116 rfl ae rfl (by simp [Value.oneCell'])
instance Nq:Ty Tryz.prog 117 true tQ:=Ty.of (bytes:=72) (.agg (tQ).toArray) Tryz.underlying117 rfl ae rfl (by simp [Value.oneCell'])
instance OL:Ty Tryz.prog 118 false [.nilFunc]:=Ty.of (bytes:=8) (.nilFunc) Tryz.underlying118 rfl ae rfl (by simp [Value.oneCell'])
instance MX:Ty Tryz.prog 119 false [.nilFunc]:=Ty.of (bytes:=8) (.nilFunc) Tryz.underlying119 rfl ae rfl (by simp [Value.oneCell'])
instance Pq:Ty Tryz.prog 121 false [.slice none 0 0]:=Ty.of (bytes:=24) (.slice none 0 0) Tryz.underlying121 rfl ae rfl (by simp [Value.oneCell'])
instance Nz:Ty Tryz.prog 122 false [.nilFunc]:=Ty.of (bytes:=8) (.nilFunc) Tryz.underlying122 rfl ae rfl (by simp [Value.oneCell'])
instance OR:Ty Tryz.prog 124 false [.nilFunc]:=Ty.of (bytes:=8) (.nilFunc) Tryz.underlying124 rfl ae rfl (by simp [Value.oneCell'])
instance Qw:Ty Tryz.prog 125 true [.int .i64 0, .int .i64 0]:=Ty.of (bytes:=16) (.agg #[.int .i64 0, .int .i64 0]) Tryz.underlying125 rfl ae rfl (by simp [Value.oneCell'])
instance Pa:Ty Tryz.prog 126 true [.int .i64 0, .int .i64 0]:=Ty.of (bytes:=16) (.agg #[.int .i64 0, .int .i64 0]) Tryz.underlying126 rfl ae rfl (by simp [Value.oneCell'])
instance Nk:Ty Tryz.prog 127 false [.pointer none]:=Ty.of (bytes:=8) (.pointer none) Tryz.underlying127 rfl ae rfl (by simp [Value.oneCell'])
instance Nj:Ty Tryz.prog 129 true uA:=Ty.of (bytes:=56) (.agg (uA).toArray) Tryz.underlying129 rfl ae rfl (by simp [Value.oneCell'])
instance Ew:Ty Tryz.prog 132 true vi:=Ty.of (bytes:=96) (.agg (vi).toArray) Tryz.underlying132 rfl ae rfl (by simp [Value.oneCell'])
instance Qe:Ty Tryz.prog 137 false [.pointer none]:=Ty.of (bytes:=8) (.pointer none) Tryz.underlying137 rfl ae rfl (by simp [Value.oneCell'])
instance NY:Ty Tryz.prog 139 true [.slice none 0 0, .int .i64 0]:=Ty.of (bytes:=32) (.agg #[.slice none 0 0, .int .i64 0]) Tryz.underlying139 rfl ae rfl (by simp [Value.oneCell'])
instance Nm:Ty Tryz.prog 141 false [.pointer none]:=Ty.of (bytes:=8) (.pointer none) Tryz.underlying141 rfl ae rfl (by simp [Value.oneCell'])
instance Qs:Ty Tryz.prog 143 true vq:=Ty.of (bytes:=96) (.agg (vq).toArray) Tryz.underlying143 rfl ae rfl (by simp [Value.oneCell'])
instance QE:Ty Tryz.prog 161 false [.nilFunc]:=Ty.of (bytes:=8) (.nilFunc) Tryz.underlying161 rfl ae rfl (by simp [Value.oneCell'])
instance QY:Ty Tryz.prog 168 false [.pointer none]:=Ty.of (bytes:=8) (.pointer none) Tryz.underlying168 rfl ae rfl (by simp [Value.oneCell'])
instance Og:Ty Tryz.prog 169 false [.nilFunc]:=Ty.of (bytes:=8) (.nilFunc) Tryz.underlying169 rfl ae rfl (by simp [Value.oneCell'])
instance OW:Ty Tryz.prog 171 true vB:=Ty.of (bytes:=608) (.agg (vB).toArray) Tryz.underlying171 rfl ae rfl (by simp [Value.oneCell'])
instance QP:Ty Tryz.prog 172 false [.nilFunc]:=Ty.of (bytes:=8) (.nilFunc) Tryz.underlying172 rfl ae rfl (by simp [Value.oneCell'])
instance Qv:Ty Tryz.prog 173 true BE:=Ty.of (bytes:=192) (.agg (BE).toArray) Tryz.underlying173 rfl ae rfl (by simp [Value.oneCell'])
instance Ph:Ty Tryz.prog 175 false [.map none]:=Ty.of (bytes:=8) (.map none) Tryz.underlying175 rfl ae rfl (by simp [Value.oneCell'])
instance NV:Ty Tryz.prog 176 true []:=Ty.of (bytes:=0) (.agg #[]) Tryz.underlying176 rfl ae rfl (by simp [Value.oneCell'])
instance Ql:Ty Tryz.prog 178 false [.nilFunc]:=Ty.of (bytes:=8) (.nilFunc) Tryz.underlying178 rfl ae rfl (by simp [Value.oneCell'])
instance Nw:Ty Tryz.prog 179 false [.nilFunc]:=Ty.of (bytes:=8) (.nilFunc) Tryz.underlying179 rfl ae rfl (by simp [Value.oneCell'])
instance NB:Ty Tryz.prog 188 false [.map none]:=Ty.of (bytes:=8) (.map none) Tryz.underlying188 rfl ae rfl (by simp [Value.oneCell'])
instance Nl:Ty Tryz.prog 190 false [.map none]:=Ty.of (bytes:=8) (.map none) Tryz.underlying190 rfl ae rfl (by simp [Value.oneCell'])
instance Oq:Ty Tryz.prog 192 true uN:=Ty.of (bytes:=32) (.agg (uN).toArray) Tryz.underlying192 rfl ae rfl (by simp [Value.oneCell'])
instance QX:Ty Tryz.prog 196 true ri:=Ty.of (bytes:=48) (.agg (ri).toArray) Tryz.underlying196 rfl ae rfl (by simp [Value.oneCell'])
instance Oa:Ty Tryz.prog 200 false [.pointer none]:=Ty.of (bytes:=8) (.pointer none) Tryz.underlying200 rfl ae rfl (by simp [Value.oneCell'])
instance OX:Ty Tryz.prog 216 false [.nilFunc]:=Ty.of (bytes:=8) (.nilFunc) Tryz.underlying216 rfl ae rfl (by simp [Value.oneCell'])
instance Fa:Ty Tryz.prog 217 false [.slice none 0 0]:=Ty.of (bytes:=24) (.slice none 0 0) Tryz.underlying217 rfl ae rfl (by simp [Value.oneCell'])
instance Pj:Ty Tryz.prog 220 false [.pointer none]:=Ty.of (bytes:=8) (.pointer none) Tryz.underlying220 rfl ae rfl (by simp [Value.oneCell'])
instance Nx:Ty Tryz.prog 222 true vA:=Ty.of (bytes:=72) (.agg (vA).toArray) Tryz.underlying222 rfl ae rfl (by simp [Value.oneCell'])
instance OI:Ty Tryz.prog 225 true rX:=Ty.of (bytes:=40) (.agg (rX).toArray) Tryz.underlying225 rfl ae rfl (by simp [Value.oneCell'])
instance Qd:Ty Tryz.prog 253 false [.int .i64 0]:=Ty.of (bytes:=8) (.int .i64 0) Tryz.underlying253 rfl ae rfl (by simp [Value.oneCell'])
instance QC:Ty Tryz.prog 275 false [.slice none 0 0]:=Ty.of (bytes:=24) (.slice none 0 0) Tryz.underlying275 rfl ae rfl (by simp [Value.oneCell'])
instance Sn:Elem Tryz.prog 22 3 1 8 [.int .i64 0]:=Elem.of (.int .i64 0) Tryz.underlying22 ae rfl rfl ah ah (by simp [Value.oneCell'])
instance SE:Elem Tryz.prog 23 48 2 16 [.int .i64 0, .int .i64 0]:=Elem.of (.agg #[.int .i64 0, .int .i64 0]) Tryz.underlying23 ae rfl rfl ah ah (by simp [Value.oneCell'])
instance TB:Elem Tryz.prog 32 57 5 40 mG:=Elem.of (.agg (mG).toArray) Tryz.underlying32 ae rfl rfl ah ah (by simp [Value.oneCell'])
instance Tf:Elem Tryz.prog 45 44 2 16 [.int .i64 0, .int .i64 0]:=Elem.of (.agg #[.int .i64 0, .int .i64 0]) Tryz.underlying45 ae rfl rfl ah ah (by simp [Value.oneCell'])
instance Rz:Elem Tryz.prog 61 9 1 16 [.string ByteArray.empty]:=Elem.of (.string ByteArray.empty) Tryz.underlying61 ae rfl rfl ah ah (by simp [Value.oneCell'])
instance RK:Elem Tryz.prog 62 73 5 64 Co:=Elem.of (.agg (Co).toArray) Tryz.underlying62 ae rfl rfl ah ah (by simp [Value.oneCell'])
instance Tv:Elem Tryz.prog 69 71 4 56 BX:=Elem.of (.agg (BX).toArray) Tryz.underlying69 ae rfl rfl ah ah (by simp [Value.oneCell'])
instance Rx:Elem Tryz.prog 78 126 2 16 [.int .i64 0, .int .i64 0]:=Elem.of (.agg #[.int .i64 0, .int .i64 0]) Tryz.underlying78 ae rfl rfl ah ah (by simp [Value.oneCell'])
instance Sb:Elem Tryz.prog 88 111 7 56 oI:=Elem.of (.agg (oI).toArray) Tryz.underlying88 ae rfl rfl ah ah (by simp [Value.oneCell'])
instance SN:Elem Tryz.prog 89 117 9 72 tQ:=Elem.of (.agg (tQ).toArray) Tryz.underlying89 ae rfl rfl ah ah (by simp [Value.oneCell'])
instance OS:Elem Tryz.prog 101 196 6 48 ri:=Elem.of (.agg (ri).toArray) Tryz.underlying101 ae rfl rfl ah ah (by simp [Value.oneCell'])
instance PP:Elem Tryz.prog 113 115 5 40 mG:=Elem.of (.agg (mG).toArray) Tryz.underlying113 ae rfl rfl ah ah (by simp [Value.oneCell'])
instance OH:Elem Tryz.prog 121 4 1 1 [.bool false]:=Elem.of (.bool false) Tryz.underlying121 ae rfl rfl ah ah (by simp [Value.oneCell'])
instance QQ:Elem Tryz.prog 217 225 4 40 rX:=Elem.of (.agg (rX).toArray) Tryz.underlying217 ae rfl rfl ah ah (by simp [Value.oneCell'])
instance NI:Elem Tryz.prog 275 61 1 24 [.slice none 0 0]:=Elem.of (.slice none 0 0) Tryz.underlying275 ae rfl rfl ah ah (by simp [Value.oneCell'])
instance LN:cF Tryz.prog 26 0 0:=⟨fun ad w=> by kernel_rfl⟩
instance LH:Fvl Tryz.prog 26 0 0 false 1:=Fvl.of Tryz.underlying26 rfl rfl EE rfl
instance MF:cF Tryz.prog 26 1 1:=⟨fun ad w=> by kernel_rfl⟩
instance LS:Fvl Tryz.prog 26 1 1 true 40:=Fvl.of Tryz.underlying26 rfl rfl KF rfl
instance LB:cF Tryz.prog 26 2 41:=⟨fun ad w=> by kernel_rfl⟩
instance JL:Fvl Tryz.prog 26 2 41 false 1:=Fvl.of Tryz.underlying26 rfl rfl eV rfl
instance LZ:cF Tryz.prog 26 3 42:=⟨fun ad w=> by kernel_rfl⟩
instance Lf:Fvl Tryz.prog 26 3 42 false 1:=Fvl.of Tryz.underlying26 rfl rfl eV rfl
instance Mo:cF Tryz.prog 33 0 0:=⟨fun ad w=> by kernel_rfl⟩
instance Mv:Fvl Tryz.prog 33 0 0 false 1:=Fvl.of Tryz.underlying33 rfl rfl il rfl
instance Ky:cF Tryz.prog 33 1 1:=⟨fun ad w=> by kernel_rfl⟩
instance Kp:Fvl Tryz.prog 33 1 1 false 1:=Fvl.of Tryz.underlying33 rfl rfl AW rfl
instance KV:cF Tryz.prog 33 2 2:=⟨fun ad w=> by kernel_rfl⟩
instance Mn:Fvl Tryz.prog 33 2 2 false 1:=Fvl.of Tryz.underlying33 rfl rfl eV rfl
instance LU:cF Tryz.prog 33 3 3:=⟨fun ad w=> by kernel_rfl⟩
instance Mb:Fvl Tryz.prog 33 3 3 false 1:=Fvl.of Tryz.underlying33 rfl rfl Cm rfl
instance MJ:cF Tryz.prog 33 4 4:=⟨fun ad w=> by kernel_rfl⟩
instance LL:Fvl Tryz.prog 33 4 4 false 1:=Fvl.of Tryz.underlying33 rfl rfl il rfl
instance Kd:cF Tryz.prog 34 0 0:=⟨fun ad w=> by kernel_rfl⟩
instance KE:Fvl Tryz.prog 34 0 0 false 1:=Fvl.of Tryz.underlying34 rfl rfl il rfl
instance KX:cF Tryz.prog 34 1 1:=⟨fun ad w=> by kernel_rfl⟩
instance Kt:Fvl Tryz.prog 34 1 1 false 1:=Fvl.of Tryz.underlying34 rfl rfl AW rfl
instance LT:cF Tryz.prog 34 2 2:=⟨fun ad w=> by kernel_rfl⟩
instance Md:Fvl Tryz.prog 34 2 2 false 1:=Fvl.of Tryz.underlying34 rfl rfl eV rfl
instance KH:cF Tryz.prog 34 3 3:=⟨fun ad w=> by kernel_rfl⟩
instance JC:Fvl Tryz.prog 34 3 3 false 1:=Fvl.of Tryz.underlying34 rfl rfl Cm rfl
instance Mt:cF Tryz.prog 34 4 4:=⟨fun ad w=> by kernel_rfl⟩
instance KC:Fvl Tryz.prog 34 4 4 false 1:=Fvl.of Tryz.underlying34 rfl rfl il rfl
instance Lg:cF Tryz.prog 38 0 0:=⟨fun ad w=> by kernel_rfl⟩
instance Jv:Fvl Tryz.prog 38 0 0 false 1:=Fvl.of Tryz.underlying38 rfl rfl il rfl
instance LK:cF Tryz.prog 38 1 1:=⟨fun ad w=> by kernel_rfl⟩
instance Ml:Fvl Tryz.prog 38 1 1 false 1:=Fvl.of Tryz.underlying38 rfl rfl AW rfl
instance Kz:cF Tryz.prog 38 2 2:=⟨fun ad w=> by kernel_rfl⟩
instance LA:Fvl Tryz.prog 38 2 2 false 1:=Fvl.of Tryz.underlying38 rfl rfl eV rfl
instance Lt:cF Tryz.prog 38 3 3:=⟨fun ad w=> by kernel_rfl⟩
instance KL:Fvl Tryz.prog 38 3 3 false 1:=Fvl.of Tryz.underlying38 rfl rfl Cm rfl
instance Mu:cF Tryz.prog 38 4 4:=⟨fun ad w=> by kernel_rfl⟩
instance Ki:Fvl Tryz.prog 38 4 4 false 1:=Fvl.of Tryz.underlying38 rfl rfl il rfl
instance JN:cF Tryz.prog 38 5 5:=⟨fun ad w=> by kernel_rfl⟩
instance MC:Fvl Tryz.prog 38 5 5 false 1:=Fvl.of Tryz.underlying38 rfl rfl il rfl
instance MI:cF Tryz.prog 39 0 0:=⟨fun ad w=> by kernel_rfl⟩
instance JU:Fvl Tryz.prog 39 0 0 false 1:=Fvl.of Tryz.underlying39 rfl rfl il rfl
instance MP:cF Tryz.prog 39 1 1:=⟨fun ad w=> by kernel_rfl⟩
instance MM:Fvl Tryz.prog 39 1 1 false 1:=Fvl.of Tryz.underlying39 rfl rfl AW rfl
instance ME:cF Tryz.prog 39 2 2:=⟨fun ad w=> by kernel_rfl⟩
instance Ke:Fvl Tryz.prog 39 2 2 false 1:=Fvl.of Tryz.underlying39 rfl rfl eV rfl
instance KI:cF Tryz.prog 39 3 3:=⟨fun ad w=> by kernel_rfl⟩
instance LV:Fvl Tryz.prog 39 3 3 false 1:=Fvl.of Tryz.underlying39 rfl rfl Cm rfl
instance MG:cF Tryz.prog 39 4 4:=⟨fun ad w=> by kernel_rfl⟩
instance MK:Fvl Tryz.prog 39 4 4 false 1:=Fvl.of Tryz.underlying39 rfl rfl il rfl
instance Kn:cF Tryz.prog 39 5 5:=⟨fun ad w=> by kernel_rfl⟩
instance KM:Fvl Tryz.prog 39 5 5 false 1:=Fvl.of Tryz.underlying39 rfl rfl il rfl
instance Ka:cF Tryz.prog 47 0 0:=⟨fun ad w=> by kernel_rfl⟩
instance Jr:Fvl Tryz.prog 47 0 0 false 1:=Fvl.of Tryz.underlying47 rfl rfl eV rfl
instance Ju:cF Tryz.prog 47 1 1:=⟨fun ad w=> by kernel_rfl⟩
instance Lj:Fvl Tryz.prog 47 1 1 false 1:=Fvl.of Tryz.underlying47 rfl rfl eV rfl
instance Kc:cF Tryz.prog 48 0 0:=⟨fun ad w=> by kernel_rfl⟩
instance MB:Fvl Tryz.prog 48 0 0 false 1:=Fvl.of Tryz.underlying48 rfl rfl eV rfl
instance Mp:cF Tryz.prog 48 1 1:=⟨fun ad w=> by kernel_rfl⟩
instance Mi:Fvl Tryz.prog 48 1 1 false 1:=Fvl.of Tryz.underlying48 rfl rfl eV rfl
instance JT:cF Tryz.prog 57 0 0:=⟨fun ad w=> by kernel_rfl⟩
instance Kg:Fvl Tryz.prog 57 0 0 false 1:=Fvl.of Tryz.underlying57 rfl rfl eV rfl
instance JR:cF Tryz.prog 57 1 1:=⟨fun ad w=> by kernel_rfl⟩
instance KZ:Fvl Tryz.prog 57 1 1 false 1:=Fvl.of Tryz.underlying57 rfl rfl eV rfl
instance Lo:cF Tryz.prog 57 2 2:=⟨fun ad w=> by kernel_rfl⟩
instance JE:Fvl Tryz.prog 57 2 2 false 1:=Fvl.of Tryz.underlying57 rfl rfl eV rfl
instance KW:cF Tryz.prog 57 3 3:=⟨fun ad w=> by kernel_rfl⟩
instance JI:Fvl Tryz.prog 57 3 3 false 1:=Fvl.of Tryz.underlying57 rfl rfl eV rfl
instance JY:cF Tryz.prog 57 4 4:=⟨fun ad w=> by kernel_rfl⟩
instance Kv:Fvl Tryz.prog 57 4 4 false 1:=Fvl.of Tryz.underlying57 rfl rfl eV rfl
instance JF:cF Tryz.prog 64 0 0:=⟨fun ad w=> by kernel_rfl⟩
instance MD:Fvl Tryz.prog 64 0 0 false 1:=Fvl.of Tryz.underlying64 rfl rfl Ei rfl
instance LI:cF Tryz.prog 64 1 1:=⟨fun ad w=> by kernel_rfl⟩
instance Mm:Fvl Tryz.prog 64 1 1 false 1:=Fvl.of Tryz.underlying64 rfl rfl Ei rfl
instance Me:cF Tryz.prog 64 2 2:=⟨fun ad w=> by kernel_rfl⟩
instance LM:Fvl Tryz.prog 64 2 2 false 1:=Fvl.of Tryz.underlying64 rfl rfl Lc rfl
instance Lp:cF Tryz.prog 71 0 0:=⟨fun ad w=> by kernel_rfl⟩
instance JZ:Fvl Tryz.prog 71 0 0 false 1:=Fvl.of Tryz.underlying71 rfl rfl eV rfl
instance LQ:cF Tryz.prog 71 1 1:=⟨fun ad w=> by kernel_rfl⟩
instance Kw:Fvl Tryz.prog 71 1 1 false 1:=Fvl.of Tryz.underlying71 rfl rfl eV rfl
instance Km:cF Tryz.prog 71 2 2:=⟨fun ad w=> by kernel_rfl⟩
instance MS:Fvl Tryz.prog 71 2 2 false 1:=Fvl.of Tryz.underlying71 rfl rfl QI rfl
instance Kb:cF Tryz.prog 71 3 3:=⟨fun ad w=> by kernel_rfl⟩
instance LY:Fvl Tryz.prog 71 3 3 false 1:=Fvl.of Tryz.underlying71 rfl rfl LX rfl
instance LG:cF Tryz.prog 73 0 0:=⟨fun ad w=> by kernel_rfl⟩
instance Mg:Fvl Tryz.prog 73 0 0 false 1:=Fvl.of Tryz.underlying73 rfl rfl eV rfl
instance Jt:cF Tryz.prog 73 1 1:=⟨fun ad w=> by kernel_rfl⟩
instance Li:Fvl Tryz.prog 73 1 1 true 4:=Fvl.of Tryz.underlying73 rfl rfl Lw rfl
instance KB:cF Tryz.prog 80 0 0:=⟨fun ad w=> by kernel_rfl⟩
instance Kr:Fvl Tryz.prog 80 0 0 false 1:=Fvl.of Tryz.underlying80 rfl rfl il rfl
instance KO:cF Tryz.prog 80 1 1:=⟨fun ad w=> by kernel_rfl⟩
instance JX:Fvl Tryz.prog 80 1 1 false 1:=Fvl.of Tryz.underlying80 rfl rfl LO rfl
instance Jx:cF Tryz.prog 83 0 0:=⟨fun ad w=> by kernel_rfl⟩
instance Lh:Fvl Tryz.prog 83 0 0 false 1:=Fvl.of Tryz.underlying83 rfl rfl Cm rfl
instance Ly:cF Tryz.prog 83 1 1:=⟨fun ad w=> by kernel_rfl⟩
instance JV:Fvl Tryz.prog 83 1 1 false 1:=Fvl.of Tryz.underlying83 rfl rfl eV rfl
instance My:cF Tryz.prog 83 2 2:=⟨fun ad w=> by kernel_rfl⟩
instance Kf:Fvl Tryz.prog 83 2 2 false 1:=Fvl.of Tryz.underlying83 rfl rfl eV rfl
instance KU:cF Tryz.prog 83 3 3:=⟨fun ad w=> by kernel_rfl⟩
instance MA:Fvl Tryz.prog 83 3 3 false 1:=Fvl.of Tryz.underlying83 rfl rfl eV rfl
instance Mf:cF Tryz.prog 83 4 4:=⟨fun ad w=> by kernel_rfl⟩
instance JD:Fvl Tryz.prog 83 4 4 true 2:=Fvl.of Tryz.underlying83 rfl rfl Lz rfl
instance KN:cF Tryz.prog 83 5 6:=⟨fun ad w=> by kernel_rfl⟩
instance LP:Fvl Tryz.prog 83 5 6 false 1:=Fvl.of Tryz.underlying83 rfl rfl il rfl
instance MN:cF Tryz.prog 83 6 7:=⟨fun ad w=> by kernel_rfl⟩
instance KR:Fvl Tryz.prog 83 6 7 false 1:=Fvl.of Tryz.underlying83 rfl rfl il rfl
instance Lx:cF Tryz.prog 83 7 8:=⟨fun ad w=> by kernel_rfl⟩
instance MR:Fvl Tryz.prog 83 7 8 true 41:=Fvl.of Tryz.underlying83 rfl rfl LJ rfl
instance Mx:cF Tryz.prog 83 8 49:=⟨fun ad w=> by kernel_rfl⟩
instance Lb:Fvl Tryz.prog 83 8 49 false 1:=Fvl.of Tryz.underlying83 rfl rfl eV rfl
instance KT:cF Tryz.prog 83 9 50:=⟨fun ad w=> by kernel_rfl⟩
instance Lr:Fvl Tryz.prog 83 9 50 false 1:=Fvl.of Tryz.underlying83 rfl rfl eV rfl
instance HS:cF Tryz.prog 83 10 51:=⟨fun ad w=> by kernel_rfl⟩
instance IJ:Fvl Tryz.prog 83 10 51 false 1:=Fvl.of Tryz.underlying83 rfl rfl eV rfl
instance KY:cF Tryz.prog 87 0 0:=⟨fun ad w=> by kernel_rfl⟩
instance LW:Fvl Tryz.prog 87 0 0 false 1:=Fvl.of Tryz.underlying87 rfl rfl eV rfl
instance MO:cF Tryz.prog 87 1 1:=⟨fun ad w=> by kernel_rfl⟩
instance JP:Fvl Tryz.prog 87 1 1 false 1:=Fvl.of Tryz.underlying87 rfl rfl eV rfl
instance JA:cF Tryz.prog 87 2 2:=⟨fun ad w=> by kernel_rfl⟩
instance Kk:Fvl Tryz.prog 87 2 2 true 9:=Fvl.of Tryz.underlying87 rfl rfl FE rfl
instance Js:cF Tryz.prog 87 3 11:=⟨fun ad w=> by kernel_rfl⟩
instance Lq:Fvl Tryz.prog 87 3 11 false 1:=Fvl.of Tryz.underlying87 rfl rfl eV rfl
instance JW:cF Tryz.prog 87 4 12:=⟨fun ad w=> by kernel_rfl⟩
instance MQ:Fvl Tryz.prog 87 4 12 false 1:=Fvl.of Tryz.underlying87 rfl rfl eV rfl
instance Ld:cF Tryz.prog 87 5 13:=⟨fun ad w=> by kernel_rfl⟩
instance Mq:Fvl Tryz.prog 87 5 13 false 1:=Fvl.of Tryz.underlying87 rfl rfl il rfl
instance KD:cF Tryz.prog 87 6 14:=⟨fun ad w=> by kernel_rfl⟩
instance KA:Fvl Tryz.prog 87 6 14 false 1:=Fvl.of Tryz.underlying87 rfl rfl il rfl
instance Lm:cF Tryz.prog 91 0 0:=⟨fun ad w=> by kernel_rfl⟩
instance MH:Fvl Tryz.prog 91 0 0 false 1:=Fvl.of Tryz.underlying91 rfl rfl eV rfl
instance KS:cF Tryz.prog 91 1 1:=⟨fun ad w=> by kernel_rfl⟩
instance Ma:Fvl Tryz.prog 91 1 1 false 1:=Fvl.of Tryz.underlying91 rfl rfl eV rfl
instance KG:cF Tryz.prog 91 2 2:=⟨fun ad w=> by kernel_rfl⟩
instance MT:Fvl Tryz.prog 91 2 2 false 1:=Fvl.of Tryz.underlying91 rfl rfl eV rfl
instance Mz:cF Tryz.prog 96 0 0:=⟨fun ad w=> by kernel_rfl⟩
instance LC:Fvl Tryz.prog 96 0 0 true 3:=Fvl.of Tryz.underlying96 rfl rfl sC rfl
instance KP:cF Tryz.prog 96 1 3:=⟨fun ad w=> by kernel_rfl⟩
instance Mw:Fvl Tryz.prog 96 1 3 false 1:=Fvl.of Tryz.underlying96 rfl rfl JM rfl
instance KJ:cF Tryz.prog 96 2 4:=⟨fun ad w=> by kernel_rfl⟩
instance JS:Fvl Tryz.prog 96 2 4 false 1:=Fvl.of Tryz.underlying96 rfl rfl Cm rfl
instance JB:cF Tryz.prog 96 3 5:=⟨fun ad w=> by kernel_rfl⟩
instance Kj:Fvl Tryz.prog 96 3 5 false 1:=Fvl.of Tryz.underlying96 rfl rfl eV rfl
instance LD:cF Tryz.prog 96 4 6:=⟨fun ad w=> by kernel_rfl⟩
instance JH:Fvl Tryz.prog 96 4 6 false 1:=Fvl.of Tryz.underlying96 rfl rfl il rfl
instance JQ:cF Tryz.prog 96 5 7:=⟨fun ad w=> by kernel_rfl⟩
instance LF:Fvl Tryz.prog 96 5 7 true 5:=Fvl.of Tryz.underlying96 rfl rfl EP rfl
instance Ix:cF Tryz.prog 102 0 0:=⟨fun ad w=> by kernel_rfl⟩
instance IK:Fvl Tryz.prog 102 0 0 true 3:=Fvl.of Tryz.underlying102 rfl rfl sC rfl
instance Iu:cF Tryz.prog 102 1 3:=⟨fun ad w=> by kernel_rfl⟩
instance Hy:Fvl Tryz.prog 102 1 3 false 1:=Fvl.of Tryz.underlying102 rfl rfl Ca rfl
instance Gq:cF Tryz.prog 102 2 4:=⟨fun ad w=> by kernel_rfl⟩
instance Il:Fvl Tryz.prog 102 2 4 false 1:=Fvl.of Tryz.underlying102 rfl rfl EY rfl
instance It:cF Tryz.prog 103 0 0:=⟨fun ad w=> by kernel_rfl⟩
instance Ij:Fvl Tryz.prog 103 0 0 true 3:=Fvl.of Tryz.underlying103 rfl rfl sC rfl
instance Hu:cF Tryz.prog 103 1 3:=⟨fun ad w=> by kernel_rfl⟩
instance Hc:Fvl Tryz.prog 103 1 3 false 1:=Fvl.of Tryz.underlying103 rfl rfl Ca rfl
instance IS:cF Tryz.prog 103 2 4:=⟨fun ad w=> by kernel_rfl⟩
instance IM:Fvl Tryz.prog 103 2 4 false 1:=Fvl.of Tryz.underlying103 rfl rfl EY rfl
instance Hv:cF Tryz.prog 108 0 0:=⟨fun ad w=> by kernel_rfl⟩
instance IF:Fvl Tryz.prog 108 0 0 true 3:=Fvl.of Tryz.underlying108 rfl rfl sC rfl
instance IP:cF Tryz.prog 108 1 3:=⟨fun ad w=> by kernel_rfl⟩
instance GP:Fvl Tryz.prog 108 1 3 false 1:=Fvl.of Tryz.underlying108 rfl rfl eV rfl
instance HZ:cF Tryz.prog 108 2 4:=⟨fun ad w=> by kernel_rfl⟩
instance Gz:Fvl Tryz.prog 108 2 4 false 1:=Fvl.of Tryz.underlying108 rfl rfl eV rfl
instance If:cF Tryz.prog 109 0 0:=⟨fun ad w=> by kernel_rfl⟩
instance Jf:Fvl Tryz.prog 109 0 0 true 3:=Fvl.of Tryz.underlying109 rfl rfl sC rfl
instance HT:cF Tryz.prog 109 1 3:=⟨fun ad w=> by kernel_rfl⟩
instance HX:Fvl Tryz.prog 109 1 3 false 1:=Fvl.of Tryz.underlying109 rfl rfl eV rfl
instance GA:cF Tryz.prog 109 2 4:=⟨fun ad w=> by kernel_rfl⟩
instance Gp:Fvl Tryz.prog 109 2 4 false 1:=Fvl.of Tryz.underlying109 rfl rfl eV rfl
instance GT:cF Tryz.prog 110 0 0:=⟨fun ad w=> by kernel_rfl⟩
instance Hw:Fvl Tryz.prog 110 0 0 true 5:=Fvl.of Tryz.underlying110 rfl rfl xe rfl
instance IG:cF Tryz.prog 110 1 5:=⟨fun ad w=> by kernel_rfl⟩
instance Ih:Fvl Tryz.prog 110 1 5 false 1:=Fvl.of Tryz.underlying110 rfl rfl eV rfl
instance HC:cF Tryz.prog 110 2 6:=⟨fun ad w=> by kernel_rfl⟩
instance Ic:Fvl Tryz.prog 110 2 6 false 1:=Fvl.of Tryz.underlying110 rfl rfl eV rfl
instance Jk:cF Tryz.prog 111 0 0:=⟨fun ad w=> by kernel_rfl⟩
instance Je:Fvl Tryz.prog 111 0 0 true 5:=Fvl.of Tryz.underlying111 rfl rfl xe rfl
instance HH:cF Tryz.prog 111 1 5:=⟨fun ad w=> by kernel_rfl⟩
instance Id:Fvl Tryz.prog 111 1 5 false 1:=Fvl.of Tryz.underlying111 rfl rfl eV rfl
instance GS:cF Tryz.prog 111 2 6:=⟨fun ad w=> by kernel_rfl⟩
instance GX:Fvl Tryz.prog 111 2 6 false 1:=Fvl.of Tryz.underlying111 rfl rfl eV rfl
instance HL:cF Tryz.prog 114 0 0:=⟨fun ad w=> by kernel_rfl⟩
instance GW:Fvl Tryz.prog 114 0 0 true 3:=Fvl.of Tryz.underlying114 rfl rfl sC rfl
instance HY:cF Tryz.prog 114 1 3:=⟨fun ad w=> by kernel_rfl⟩
instance IQ:Fvl Tryz.prog 114 1 3 false 1:=Fvl.of Tryz.underlying114 rfl rfl eV rfl
instance GY:cF Tryz.prog 114 2 4:=⟨fun ad w=> by kernel_rfl⟩
instance HW:Fvl Tryz.prog 114 2 4 false 1:=Fvl.of Tryz.underlying114 rfl rfl eV rfl
instance He:cF Tryz.prog 115 0 0:=⟨fun ad w=> by kernel_rfl⟩
instance Hq:Fvl Tryz.prog 115 0 0 true 3:=Fvl.of Tryz.underlying115 rfl rfl sC rfl
instance Jl:cF Tryz.prog 115 1 3:=⟨fun ad w=> by kernel_rfl⟩
instance Jc:Fvl Tryz.prog 115 1 3 false 1:=Fvl.of Tryz.underlying115 rfl rfl eV rfl
instance Ie:cF Tryz.prog 115 2 4:=⟨fun ad w=> by kernel_rfl⟩
instance Iq:Fvl Tryz.prog 115 2 4 false 1:=Fvl.of Tryz.underlying115 rfl rfl eV rfl
instance GK:cF Tryz.prog 116 0 0:=⟨fun ad w=> by kernel_rfl⟩
instance HB:Fvl Tryz.prog 116 0 0 true 5:=Fvl.of Tryz.underlying116 rfl rfl Cc rfl
instance Hl:cF Tryz.prog 116 1 5:=⟨fun ad w=> by kernel_rfl⟩
instance IL:Fvl Tryz.prog 116 1 5 false 1:=Fvl.of Tryz.underlying116 rfl rfl eV rfl
instance Gm:cF Tryz.prog 116 2 6:=⟨fun ad w=> by kernel_rfl⟩
instance In:Fvl Tryz.prog 116 2 6 false 1:=Fvl.of Tryz.underlying116 rfl rfl eV rfl
instance Jd:cF Tryz.prog 116 3 7:=⟨fun ad w=> by kernel_rfl⟩
instance IZ:Fvl Tryz.prog 116 3 7 false 1:=Fvl.of Tryz.underlying116 rfl rfl eV rfl
instance IU:cF Tryz.prog 116 4 8:=⟨fun ad w=> by kernel_rfl⟩
instance GU:Fvl Tryz.prog 116 4 8 false 1:=Fvl.of Tryz.underlying116 rfl rfl eV rfl
instance HF:cF Tryz.prog 117 0 0:=⟨fun ad w=> by kernel_rfl⟩
instance IB:Fvl Tryz.prog 117 0 0 true 5:=Fvl.of Tryz.underlying117 rfl rfl Cc rfl
instance IT:cF Tryz.prog 117 1 5:=⟨fun ad w=> by kernel_rfl⟩
instance Im:Fvl Tryz.prog 117 1 5 false 1:=Fvl.of Tryz.underlying117 rfl rfl eV rfl
instance Hi:cF Tryz.prog 117 2 6:=⟨fun ad w=> by kernel_rfl⟩
instance Ja:Fvl Tryz.prog 117 2 6 false 1:=Fvl.of Tryz.underlying117 rfl rfl eV rfl
instance Ig:cF Tryz.prog 117 3 7:=⟨fun ad w=> by kernel_rfl⟩
instance Iv:Fvl Tryz.prog 117 3 7 false 1:=Fvl.of Tryz.underlying117 rfl rfl eV rfl
instance IH:cF Tryz.prog 117 4 8:=⟨fun ad w=> by kernel_rfl⟩
instance IE:Fvl Tryz.prog 117 4 8 false 1:=Fvl.of Tryz.underlying117 rfl rfl eV rfl
instance Jb:cF Tryz.prog 125 0 0:=⟨fun ad w=> by kernel_rfl⟩
instance HE:Fvl Tryz.prog 125 0 0 false 1:=Fvl.of Tryz.underlying125 rfl rfl eV rfl
instance HN:cF Tryz.prog 125 1 1:=⟨fun ad w=> by kernel_rfl⟩
instance IR:Fvl Tryz.prog 125 1 1 false 1:=Fvl.of Tryz.underlying125 rfl rfl eV rfl
instance GI:cF Tryz.prog 126 0 0:=⟨fun ad w=> by kernel_rfl⟩
instance IY:Fvl Tryz.prog 126 0 0 false 1:=Fvl.of Tryz.underlying126 rfl rfl eV rfl
instance Hb:cF Tryz.prog 126 1 1:=⟨fun ad w=> by kernel_rfl⟩
instance Gl:Fvl Tryz.prog 126 1 1 false 1:=Fvl.of Tryz.underlying126 rfl rfl eV rfl
instance HI:cF Tryz.prog 129 0 0:=⟨fun ad w=> by kernel_rfl⟩
instance Jo:Fvl Tryz.prog 129 0 0 false 1:=Fvl.of Tryz.underlying129 rfl rfl il rfl
instance Ia:cF Tryz.prog 129 1 1:=⟨fun ad w=> by kernel_rfl⟩
instance Ii:Fvl Tryz.prog 129 1 1 false 1:=Fvl.of Tryz.underlying129 rfl rfl il rfl
instance HR:cF Tryz.prog 129 2 2:=⟨fun ad w=> by kernel_rfl⟩
instance HG:Fvl Tryz.prog 129 2 2 false 1:=Fvl.of Tryz.underlying129 rfl rfl Cm rfl
instance HO:cF Tryz.prog 132 0 0:=⟨fun ad w=> by kernel_rfl⟩
instance GF:Fvl Tryz.prog 132 0 0 false 1:=Fvl.of Tryz.underlying132 rfl rfl il rfl
instance Ji:cF Tryz.prog 132 1 1:=⟨fun ad w=> by kernel_rfl⟩
instance Ha:Fvl Tryz.prog 132 1 1 true 9:=Fvl.of Tryz.underlying132 rfl rfl FE rfl
instance Jh:cF Tryz.prog 139 0 0:=⟨fun ad w=> by kernel_rfl⟩
instance Jg:Fvl Tryz.prog 139 0 0 false 1:=Fvl.of Tryz.underlying139 rfl rfl il rfl
instance Hm:cF Tryz.prog 139 1 1:=⟨fun ad w=> by kernel_rfl⟩
instance Jp:Fvl Tryz.prog 139 1 1 false 1:=Fvl.of Tryz.underlying139 rfl rfl eV rfl
instance GM:cF Tryz.prog 143 0 0:=⟨fun ad w=> by kernel_rfl⟩
instance Hk:Fvl Tryz.prog 143 0 0 true 3:=Fvl.of Tryz.underlying143 rfl rfl Ks rfl
instance GE:cF Tryz.prog 143 1 3:=⟨fun ad w=> by kernel_rfl⟩
instance ID:Fvl Tryz.prog 143 1 3 false 1:=Fvl.of Tryz.underlying143 rfl rfl EE rfl
instance HD:cF Tryz.prog 171 0 0:=⟨fun ad w=> by kernel_rfl⟩
instance Hx:Fvl Tryz.prog 171 0 0 true 43:=Fvl.of Tryz.underlying171 rfl rfl Ls rfl
instance Ip:cF Tryz.prog 171 1 43:=⟨fun ad w=> by kernel_rfl⟩
instance Hf:Fvl Tryz.prog 171 1 43 true 10:=Fvl.of Tryz.underlying171 rfl rfl Ew rfl
instance IC:cF Tryz.prog 171 2 53:=⟨fun ad w=> by kernel_rfl⟩
instance Hg:Fvl Tryz.prog 171 2 53 false 1:=Fvl.of Tryz.underlying171 rfl rfl Jz rfl
instance HU:cF Tryz.prog 171 3 54:=⟨fun ad w=> by kernel_rfl⟩
instance HM:Fvl Tryz.prog 171 3 54 true 5:=Fvl.of Tryz.underlying171 rfl rfl EP rfl
instance GH:cF Tryz.prog 171 4 59:=⟨fun ad w=> by kernel_rfl⟩
instance Gn:Fvl Tryz.prog 171 4 59 false 1:=Fvl.of Tryz.underlying171 rfl rfl il rfl
instance Ik:cF Tryz.prog 171 5 60:=⟨fun ad w=> by kernel_rfl⟩
instance HQ:Fvl Tryz.prog 171 5 60 false 1:=Fvl.of Tryz.underlying171 rfl rfl eV rfl
instance GG:cF Tryz.prog 171 6 61:=⟨fun ad w=> by kernel_rfl⟩
instance Jn:Fvl Tryz.prog 171 6 61 false 1:=Fvl.of Tryz.underlying171 rfl rfl eV rfl
instance IO:cF Tryz.prog 171 7 62:=⟨fun ad w=> by kernel_rfl⟩
instance HJ:Fvl Tryz.prog 171 7 62 false 1:=Fvl.of Tryz.underlying171 rfl rfl eV rfl
instance GC:cF Tryz.prog 171 8 63:=⟨fun ad w=> by kernel_rfl⟩
instance Gw:Fvl Tryz.prog 171 8 63 false 1:=Fvl.of Tryz.underlying171 rfl rfl Cm rfl
instance Gr:cF Tryz.prog 192 0 0:=⟨fun ad w=> by kernel_rfl⟩
instance IW:Fvl Tryz.prog 192 0 0 false 1:=Fvl.of Tryz.underlying192 rfl rfl eV rfl
instance GD:cF Tryz.prog 192 1 1:=⟨fun ad w=> by kernel_rfl⟩
instance HK:Fvl Tryz.prog 192 1 1 false 1:=Fvl.of Tryz.underlying192 rfl rfl eV rfl
instance Jj:cF Tryz.prog 192 2 2:=⟨fun ad w=> by kernel_rfl⟩
instance Jq:Fvl Tryz.prog 192 2 2 false 1:=Fvl.of Tryz.underlying192 rfl rfl eV rfl
instance GR:cF Tryz.prog 192 3 3:=⟨fun ad w=> by kernel_rfl⟩
instance Gy:Fvl Tryz.prog 192 3 3 false 1:=Fvl.of Tryz.underlying192 rfl rfl eV rfl
instance Hh:cF Tryz.prog 196 0 0:=⟨fun ad w=> by kernel_rfl⟩
instance Ir:Fvl Tryz.prog 196 0 0 true 5:=Fvl.of Tryz.underlying196 rfl rfl xe rfl
instance Ht:cF Tryz.prog 196 1 5:=⟨fun ad w=> by kernel_rfl⟩
instance Iz:Fvl Tryz.prog 196 1 5 false 1:=Fvl.of Tryz.underlying196 rfl rfl eV rfl
instance II:cF Tryz.prog 222 0 0:=⟨fun ad w=> by kernel_rfl⟩
instance IX:Fvl Tryz.prog 222 0 0 false 1:=Fvl.of Tryz.underlying222 rfl rfl Fa rfl
instance Jm:cF Tryz.prog 222 1 1:=⟨fun ad w=> by kernel_rfl⟩
instance Ib:Fvl Tryz.prog 222 1 1 false 1:=Fvl.of Tryz.underlying222 rfl rfl eV rfl
instance Hr:cF Tryz.prog 222 2 2:=⟨fun ad w=> by kernel_rfl⟩
instance Hj:Fvl Tryz.prog 222 2 2 false 1:=Fvl.of Tryz.underlying222 rfl rfl eV rfl
instance IA:cF Tryz.prog 222 3 3:=⟨fun ad w=> by kernel_rfl⟩
instance Iw:Fvl Tryz.prog 222 3 3 false 1:=Fvl.of Tryz.underlying222 rfl rfl Mr rfl
instance Hp:cF Tryz.prog 222 4 4:=⟨fun ad w=> by kernel_rfl⟩
instance Gt:Fvl Tryz.prog 222 4 4 false 1:=Fvl.of Tryz.underlying222 rfl rfl Ei rfl
instance Gs:cF Tryz.prog 225 0 0:=⟨fun ad w=> by kernel_rfl⟩
instance Io:Fvl Tryz.prog 225 0 0 false 1:=Fvl.of Tryz.underlying225 rfl rfl eV rfl
instance Hn:cF Tryz.prog 225 1 1:=⟨fun ad w=> by kernel_rfl⟩
instance Gu:Fvl Tryz.prog 225 1 1 false 1:=Fvl.of Tryz.underlying225 rfl rfl eV rfl
instance Is:cF Tryz.prog 225 2 2:=⟨fun ad w=> by kernel_rfl⟩
instance HA:Fvl Tryz.prog 225 2 2 false 1:=Fvl.of Tryz.underlying225 rfl rfl QI rfl
instance Ho:cF Tryz.prog 225 3 3:=⟨fun ad w=> by kernel_rfl⟩
instance HV:Fvl Tryz.prog 225 3 3 false 1:=Fvl.of Tryz.underlying225 rfl rfl eV rfl
instance TU:bZ Tryz.prog 3:=⟨fun args w=> by kernel_rfl⟩
instance TW:bZ Tryz.prog 8:=⟨fun args w=> by kernel_rfl⟩
instance Tp:bZ Tryz.prog 20:=⟨fun args w=> by kernel_rfl⟩
instance Td:bZ Tryz.prog 21:=⟨fun args w=> by kernel_rfl⟩
instance Sy:bZ Tryz.prog 22:=⟨fun args w=> by kernel_rfl⟩
instance Rn:bZ Tryz.prog 23:=⟨fun args w=> by kernel_rfl⟩
instance SK:bZ Tryz.prog 24:=⟨fun args w=> by kernel_rfl⟩
instance TG:bZ Tryz.prog 25:=⟨fun args w=> by kernel_rfl⟩
instance TA:bZ Tryz.prog 26:=⟨fun args w=> by kernel_rfl⟩
instance Sp:bZ Tryz.prog 27:=⟨fun args w=> by kernel_rfl⟩
instance SQ:bZ Tryz.prog 29:=⟨fun args w=> by kernel_rfl⟩
instance RE:bZ Tryz.prog 30:=⟨fun args w=> by kernel_rfl⟩
instance Rp:bZ Tryz.prog 31:=⟨fun args w=> by kernel_rfl⟩
instance Sj:bZ Tryz.prog 32:=⟨fun args w=> by kernel_rfl⟩
instance ST:bZ Tryz.prog 33:=⟨fun args w=> by kernel_rfl⟩
instance RG:bZ Tryz.prog 34:=⟨fun args w=> by kernel_rfl⟩
instance Tn:bZ Tryz.prog 35:=⟨fun args w=> by kernel_rfl⟩
instance Sq:bZ Tryz.prog 36:=⟨fun args w=> by kernel_rfl⟩
instance RI:bZ Tryz.prog 38:=⟨fun args w=> by kernel_rfl⟩
instance RH:bZ Tryz.prog 39:=⟨fun args w=> by kernel_rfl⟩
instance Rv:bZ Tryz.prog 44:=⟨fun args w=> by kernel_rfl⟩
instance RO:bZ Tryz.prog 47:=⟨fun args w=> by kernel_rfl⟩
instance RZ:bZ Tryz.prog 48:=⟨fun args w=> by kernel_rfl⟩
instance TO:bZ Tryz.prog 56:=⟨fun args w=> by kernel_rfl⟩
instance RC:bZ Tryz.prog 57:=⟨fun args w=> by kernel_rfl⟩
instance Tw:bZ Tryz.prog 58:=⟨fun args w=> by kernel_rfl⟩
instance Ss:bZ Tryz.prog 59:=⟨fun args w=> by kernel_rfl⟩
instance SA:bZ Tryz.prog 60:=⟨fun args w=> by kernel_rfl⟩
instance RX:bZ Tryz.prog 61:=⟨fun args w=> by kernel_rfl⟩
instance Rs:bZ Tryz.prog 62:=⟨fun args w=> by kernel_rfl⟩
instance RF:bZ Tryz.prog 63:=⟨fun args w=> by kernel_rfl⟩
instance Tg:bZ Tryz.prog 64:=⟨fun args w=> by kernel_rfl⟩
instance SF:bZ Tryz.prog 66:=⟨fun args w=> by kernel_rfl⟩
instance Ta:bZ Tryz.prog 67:=⟨fun args w=> by kernel_rfl⟩
instance Sx:bZ Tryz.prog 68:=⟨fun args w=> by kernel_rfl⟩
instance SO:bZ Tryz.prog 69:=⟨fun args w=> by kernel_rfl⟩
instance RJ:bZ Tryz.prog 70:=⟨fun args w=> by kernel_rfl⟩
instance Tz:bZ Tryz.prog 71:=⟨fun args w=> by kernel_rfl⟩
instance Sh:bZ Tryz.prog 72:=⟨fun args w=> by kernel_rfl⟩
instance Rq:bZ Tryz.prog 73:=⟨fun args w=> by kernel_rfl⟩
instance RL:bZ Tryz.prog 74:=⟨fun args w=> by kernel_rfl⟩
instance Sw:bZ Tryz.prog 75:=⟨fun args w=> by kernel_rfl⟩
instance SG:bZ Tryz.prog 77:=⟨fun args w=> by kernel_rfl⟩
instance Se:bZ Tryz.prog 78:=⟨fun args w=> by kernel_rfl⟩
instance RP:bZ Tryz.prog 79:=⟨fun args w=> by kernel_rfl⟩
instance TE:bZ Tryz.prog 80:=⟨fun args w=> by kernel_rfl⟩
instance RD:bZ Tryz.prog 81:=⟨fun args w=> by kernel_rfl⟩
instance Ru:bZ Tryz.prog 82:=⟨fun args w=> by kernel_rfl⟩
instance SB:bZ Tryz.prog 83:=⟨fun args w=> by kernel_rfl⟩
instance SM:bZ Tryz.prog 86:=⟨fun args w=> by kernel_rfl⟩
instance SW:bZ Tryz.prog 87:=⟨fun args w=> by kernel_rfl⟩
instance SI:bZ Tryz.prog 88:=⟨fun args w=> by kernel_rfl⟩
instance TN:bZ Tryz.prog 89:=⟨fun args w=> by kernel_rfl⟩
instance Sf:bZ Tryz.prog 90:=⟨fun args w=> by kernel_rfl⟩
instance RV:bZ Tryz.prog 91:=⟨fun args w=> by kernel_rfl⟩
instance Th:bZ Tryz.prog 92:=⟨fun args w=> by kernel_rfl⟩
instance Si:bZ Tryz.prog 93:=⟨fun args w=> by kernel_rfl⟩
instance Ry:bZ Tryz.prog 94:=⟨fun args w=> by kernel_rfl⟩
instance Rr:bZ Tryz.prog 95:=⟨fun args w=> by kernel_rfl⟩
instance Tu:bZ Tryz.prog 96:=⟨fun args w=> by kernel_rfl⟩
instance Rw:bZ Tryz.prog 97:=⟨fun args w=> by kernel_rfl⟩
instance TQ:bZ Tryz.prog 98:=⟨fun args w=> by kernel_rfl⟩
instance QD:bZ Tryz.prog 102:=⟨fun args w=> by kernel_rfl⟩
instance Nb:bZ Tryz.prog 103:=⟨fun args w=> by kernel_rfl⟩
instance OJ:bZ Tryz.prog 105:=⟨fun args w=> by kernel_rfl⟩
instance NF:bZ Tryz.prog 106:=⟨fun args w=> by kernel_rfl⟩
instance Qc:bZ Tryz.prog 107:=⟨fun args w=> by kernel_rfl⟩
instance QT:bZ Tryz.prog 108:=⟨fun args w=> by kernel_rfl⟩
instance NC:bZ Tryz.prog 109:=⟨fun args w=> by kernel_rfl⟩
instance Qp:bZ Tryz.prog 110:=⟨fun args w=> by kernel_rfl⟩
instance Ot:bZ Tryz.prog 111:=⟨fun args w=> by kernel_rfl⟩
instance OG:bZ Tryz.prog 112:=⟨fun args w=> by kernel_rfl⟩
instance Re:bZ Tryz.prog 113:=⟨fun args w=> by kernel_rfl⟩
instance Oy:bZ Tryz.prog 114:=⟨fun args w=> by kernel_rfl⟩
instance NL:bZ Tryz.prog 115:=⟨fun args w=> by kernel_rfl⟩
instance Nu:bZ Tryz.prog 116:=⟨fun args w=> by kernel_rfl⟩
instance PI:bZ Tryz.prog 117:=⟨fun args w=> by kernel_rfl⟩
instance NG:bZ Tryz.prog 118:=⟨fun args w=> by kernel_rfl⟩
instance QN:bZ Tryz.prog 119:=⟨fun args w=> by kernel_rfl⟩
instance Qh:bZ Tryz.prog 120:=⟨fun args w=> by kernel_rfl⟩
instance Pe:bZ Tryz.prog 121:=⟨fun args w=> by kernel_rfl⟩
instance Ol:bZ Tryz.prog 122:=⟨fun args w=> by kernel_rfl⟩
instance QJ:bZ Tryz.prog 123:=⟨fun args w=> by kernel_rfl⟩
instance Qz:bZ Tryz.prog 124:=⟨fun args w=> by kernel_rfl⟩
instance Nr:bZ Tryz.prog 125:=⟨fun args w=> by kernel_rfl⟩
instance Rh:bZ Tryz.prog 126:=⟨fun args w=> by kernel_rfl⟩
instance On:bZ Tryz.prog 127:=⟨fun args w=> by kernel_rfl⟩
instance PA:bZ Tryz.prog 128:=⟨fun args w=> by kernel_rfl⟩
instance Qt:bZ Tryz.prog 129:=⟨fun args w=> by kernel_rfl⟩
instance Ni:bZ Tryz.prog 130:=⟨fun args w=> by kernel_rfl⟩
instance OZ:bZ Tryz.prog 131:=⟨fun args w=> by kernel_rfl⟩
instance PW:bZ Tryz.prog 132:=⟨fun args w=> by kernel_rfl⟩
instance Ps:bZ Tryz.prog 133:=⟨fun args w=> by kernel_rfl⟩
instance QO:bZ Tryz.prog 134:=⟨fun args w=> by kernel_rfl⟩
instance Qf:bZ Tryz.prog 135:=⟨fun args w=> by kernel_rfl⟩
instance Qk:bZ Tryz.prog 136:=⟨fun args w=> by kernel_rfl⟩
instance Qg:bZ Tryz.prog 137:=⟨fun args w=> by kernel_rfl⟩
instance QK:bZ Tryz.prog 138:=⟨fun args w=> by kernel_rfl⟩
instance Qu:bZ Tryz.prog 139:=⟨fun args w=> by kernel_rfl⟩
instance QG:bZ Tryz.prog 140:=⟨fun args w=> by kernel_rfl⟩
instance OU:bZ Tryz.prog 141:=⟨fun args w=> by kernel_rfl⟩
instance Np:bZ Tryz.prog 142:=⟨fun args w=> by kernel_rfl⟩
instance Rj:bZ Tryz.prog 143:=⟨fun args w=> by kernel_rfl⟩
instance OO:bZ Tryz.prog 144:=⟨fun args w=> by kernel_rfl⟩
instance Qa:bZ Tryz.prog 145:=⟨fun args w=> by kernel_rfl⟩
instance Pt:bZ Tryz.prog 146:=⟨fun args w=> by kernel_rfl⟩
instance OV:bZ Tryz.prog 147:=⟨fun args w=> by kernel_rfl⟩
instance Px:bZ Tryz.prog 148:=⟨fun args w=> by kernel_rfl⟩
instance Ox:bZ Tryz.prog 149:=⟨fun args w=> by kernel_rfl⟩
instance OD:bZ Tryz.prog 150:=⟨fun args w=> by kernel_rfl⟩
instance Pf:bZ Tryz.prog 151:=⟨fun args w=> by kernel_rfl⟩
instance OC:bZ Tryz.prog 152:=⟨fun args w=> by kernel_rfl⟩
instance Pz:bZ Tryz.prog 153:=⟨fun args w=> by kernel_rfl⟩
instance OF:bZ Tryz.prog 154:=⟨fun args w=> by kernel_rfl⟩
instance QZ:bZ Tryz.prog 155:=⟨fun args w=> by kernel_rfl⟩
instance QL:bZ Tryz.prog 156:=⟨fun args w=> by kernel_rfl⟩
instance Nf:bZ Tryz.prog 157:=⟨fun args w=> by kernel_rfl⟩
instance Qb:bZ Tryz.prog 158:=⟨fun args w=> by kernel_rfl⟩
instance Pp:bZ Tryz.prog 159:=⟨fun args w=> by kernel_rfl⟩
instance NN:bZ Tryz.prog 160:=⟨fun args w=> by kernel_rfl⟩
instance Nh:bZ Tryz.prog 161:=⟨fun args w=> by kernel_rfl⟩
instance Qy:bZ Tryz.prog 162:=⟨fun args w=> by kernel_rfl⟩
instance PN:bZ Tryz.prog 163:=⟨fun args w=> by kernel_rfl⟩
instance PH:bZ Tryz.prog 164:=⟨fun args w=> by kernel_rfl⟩
instance NJ:bZ Tryz.prog 165:=⟨fun args w=> by kernel_rfl⟩
instance QA:bZ Tryz.prog 166:=⟨fun args w=> by kernel_rfl⟩
instance Oh:bZ Tryz.prog 167:=⟨fun args w=> by kernel_rfl⟩
instance Oc:bZ Tryz.prog 168:=⟨fun args w=> by kernel_rfl⟩
instance Od:bZ Tryz.prog 169:=⟨fun args w=> by kernel_rfl⟩
instance Oj:bZ Tryz.prog 170:=⟨fun args w=> by kernel_rfl⟩
instance QM:bZ Tryz.prog 171:=⟨fun args w=> by kernel_rfl⟩
instance Pv:bZ Tryz.prog 173:=⟨fun args w=> by kernel_rfl⟩
instance Nn:bZ Tryz.prog 176:=⟨fun args w=> by kernel_rfl⟩
instance Ra:bZ Tryz.prog 177:=⟨fun args w=> by kernel_rfl⟩
instance PU:bZ Tryz.prog 183:=⟨fun args w=> by kernel_rfl⟩
instance PY:bZ Tryz.prog 184:=⟨fun args w=> by kernel_rfl⟩
instance NU:bZ Tryz.prog 185:=⟨fun args w=> by kernel_rfl⟩
instance NP:bZ Tryz.prog 186:=⟨fun args w=> by kernel_rfl⟩
instance Qn:bZ Tryz.prog 187:=⟨fun args w=> by kernel_rfl⟩
instance NT:bZ Tryz.prog 188:=⟨fun args w=> by kernel_rfl⟩
instance OB:bZ Tryz.prog 189:=⟨fun args w=> by kernel_rfl⟩
instance PZ:bZ Tryz.prog 190:=⟨fun args w=> by kernel_rfl⟩
instance Oo:bZ Tryz.prog 191:=⟨fun args w=> by kernel_rfl⟩
instance OQ:bZ Tryz.prog 192:=⟨fun args w=> by kernel_rfl⟩
instance PX:bZ Tryz.prog 194:=⟨fun args w=> by kernel_rfl⟩
instance NS:bZ Tryz.prog 195:=⟨fun args w=> by kernel_rfl⟩
instance PQ:bZ Tryz.prog 196:=⟨fun args w=> by kernel_rfl⟩
instance Pl:bZ Tryz.prog 197:=⟨fun args w=> by kernel_rfl⟩
instance Ns:bZ Tryz.prog 198:=⟨fun args w=> by kernel_rfl⟩
instance NZ:bZ Tryz.prog 199:=⟨fun args w=> by kernel_rfl⟩
instance Pw:bZ Tryz.prog 200:=⟨fun args w=> by kernel_rfl⟩
instance NX:bZ Tryz.prog 201:=⟨fun args w=> by kernel_rfl⟩
instance Qm:bZ Tryz.prog 202:=⟨fun args w=> by kernel_rfl⟩
instance MY:bZ Tryz.prog 203:=⟨fun args w=> by kernel_rfl⟩
instance OM:bZ Tryz.prog 204:=⟨fun args w=> by kernel_rfl⟩
instance OY:bZ Tryz.prog 205:=⟨fun args w=> by kernel_rfl⟩
instance Nt:bZ Tryz.prog 207:=⟨fun args w=> by kernel_rfl⟩
instance PJ:bZ Tryz.prog 211:=⟨fun args w=> by kernel_rfl⟩
instance Ov:bZ Tryz.prog 212:=⟨fun args w=> by kernel_rfl⟩
instance Qj:bZ Tryz.prog 213:=⟨fun args w=> by kernel_rfl⟩
instance PC:bZ Tryz.prog 214:=⟨fun args w=> by kernel_rfl⟩
instance NQ:bZ Tryz.prog 215:=⟨fun args w=> by kernel_rfl⟩
instance Qo:bZ Tryz.prog 216:=⟨fun args w=> by kernel_rfl⟩
instance Pi:bZ Tryz.prog 217:=⟨fun args w=> by kernel_rfl⟩
instance MZ:bZ Tryz.prog 218:=⟨fun args w=> by kernel_rfl⟩
instance OA:bZ Tryz.prog 221:=⟨fun args w=> by kernel_rfl⟩
instance NE:bZ Tryz.prog 222:=⟨fun args w=> by kernel_rfl⟩
instance Nc:bZ Tryz.prog 223:=⟨fun args w=> by kernel_rfl⟩
instance Nv:bZ Tryz.prog 224:=⟨fun args w=> by kernel_rfl⟩
instance Ob:bZ Tryz.prog 225:=⟨fun args w=> by kernel_rfl⟩
instance PF:bZ Tryz.prog 226:=⟨fun args w=> by kernel_rfl⟩
instance QS:bZ Tryz.prog 227:=⟨fun args w=> by kernel_rfl⟩
instance Pc:bZ Tryz.prog 235:=⟨fun args w=> by kernel_rfl⟩
instance OT:bZ Tryz.prog 236:=⟨fun args w=> by kernel_rfl⟩
instance Oi:bZ Tryz.prog 237:=⟨fun args w=> by kernel_rfl⟩
instance Rf:bZ Tryz.prog 240:=⟨fun args w=> by kernel_rfl⟩
end Go.Proofs.YtmjnackchaahbaaGreat
