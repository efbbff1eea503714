/- Part 8 of the texts that the walk leans on: the machine, the walks, the plain laws. -/
import Derived.Test.YtmjnackchaahbaaGreatNcZ7
set_option linter.unusedSimpArgs false
set_option linter.unusedVariables false
namespace Go.Proofs.YtmjnackchaahbaaGreat
open Go.RowKit

def fy:Ex→Nat
 | .int _=> 1 | .bool _=> 2 | .var _=> 1 | .name _=> 1
 | .draw e=> if fy e=1 then 1 else 0
 | .neg e=> if fy e=1 then 1 else 0
 | .not e=> if fy e=2 then 2 else 0
 | .bin o a b=> if fy a=1∧fy b=1 then (match o with | .add=> 1 | .sub=> 1 | .mul=> 1 | .div=> 1 | _=> 2) else 0
 | .and a b=> if fy a=2∧fy b=2 then 2 else 0
 | .or a b=> if fy a=2∧fy b=2 then 2 else 0
def oT (e:Ex):Bool:=Nat.beq (fy e) 1
mutual
def zg:Sm→Bool
 | .assign _ e=> oT e
 | .send t _ a b=> oT t && oT a && oT b
 | .timer _=> true | .cancel _=> true | .sync=> true | .stop=> true
 | .reply a b=> oT a && oT b
 | .fail e=> oT e
 | .loop c b=> Nat.beq (fy c) 2 && qh b
 | .ite c a b=> Nat.beq (fy c) 2 && qh a && qh b
def qh:Bk→Bool
 | .nil=> true
 | .cons s b=> zg s && qh b
end
def fl (nv:Nat):Ex→Bool
 | .int n=> decide (-2147483647≤n) && decide (n≤2147483647)
 | .bool _=> true
 | .var i=> decide (i < nv)
 | .name k=> decide (k < 9)
 | .draw e=> fl nv e | .neg e=> fl nv e | .not e=> fl nv e
 | .bin _ a b=> fl nv a && fl nv b
 | .and a b=> fl nv a && fl nv b
 | .or a b=> fl nv a && fl nv b
mutual
def mt (nv:Nat):Sm→Bool
 | .assign i e=> decide (i < nv) && fl nv e
 | .send t k a b=> decide (k < 30) && fl nv t && fl nv a && fl nv b
 | .timer k=> decide (k < 8) | .cancel k=> decide (k < 8) | .sync=> true | .stop=> true
 | .reply a b=> fl nv a && fl nv b
 | .fail e=> fl nv e
 | .loop c b=> fl nv c && qy nv b
 | .ite c a b=> fl nv c && qy nv a && qy nv b
def qy (nv:Nat):Bk→Bool
 | .nil=> true
 | .cons s b=> mt nv s && qy nv b
end
theorem dA (nv:Nat): ∀ e,fl nv e=true→ia nv e
 | .int n,h=> by simpa [fl,ia] using h
 | .bool _,_=> trivial
 | .var i,h=> by simpa [fl,ia] using h
 | .name k,h=> by simpa [fl,ia] using h
 | .draw e,h=> dA nv e h
 | .neg e,h=> dA nv e h
 | .not e,h=> dA nv e h
 | .bin _ a b,h=> by simp only [fl,Bool.and_eq_true] at h;exact ⟨dA nv a h.1,dA nv b h.2⟩
 | .and a b,h=> by simp only [fl,Bool.and_eq_true] at h;exact ⟨dA nv a h.1,dA nv b h.2⟩
 | .or a b,h=> by simp only [fl,Bool.and_eq_true] at h;exact ⟨dA nv a h.1,dA nv b h.2⟩
mutual
theorem AK (nv:Nat): ∀ s,mt nv s=true→gJ nv s
 | .assign i e,h=> by simp only [mt,Bool.and_eq_true,decide_eq_true_eq] at h;exact ⟨h.1,dA nv e h.2⟩
 | .send t k a b,h=> by simp only [mt,Bool.and_eq_true,decide_eq_true_eq] at h;exact ⟨h.1.1.1,dA nv t h.1.1.2,dA nv a h.1.2,dA nv b h.2⟩
 | .timer k,h=> by simpa [mt,gJ] using h
 | .cancel k,h=> by simpa [mt,gJ] using h
 | .sync,_=> by simp [gJ]
 | .stop,_=> by simp [gJ]
 | .reply a b,h=> by simp only [mt,Bool.and_eq_true] at h;exact ⟨dA nv a h.1,dA nv b h.2⟩
 | .fail e,h=> by simp only [mt] at h;exact dA nv e h
 | .loop c b,h=> by simp only [mt,Bool.and_eq_true] at h;exact ⟨dA nv c h.1,ll nv b h.2⟩
 | .ite c a b,h=> by simp only [mt,Bool.and_eq_true] at h;exact ⟨dA nv c h.1.1,ll nv a h.1.2,ll nv b h.2⟩
theorem ll (nv:Nat): ∀ b,qy nv b=true→li nv b
 | .nil,_=> by simp [li]
 | .cons s b,h=> by simp only [qy,Bool.and_eq_true] at h;exact ⟨AK nv s h.1,ll nv b h.2⟩
end
structure vt (l:List (Nat×Bk)) (nv:Nat):Prop where
 ok: ∀ p∈l,li nv p.2
 wl: ∀ p∈l,qh p.2=true
 n:(bS l 0).length≤400
 h: ∀ p∈l,p.1 < 40
 nd:(l.map (·.1)).Nodup
 d: ∀ k∈mm l,k≤8
def srcB (l:List (Nat×Bk)) (nv:Nat):Bool:=l.all (fun p=> qy nv p.2 && qh p.2 && decide (p.1 < 40)) && decide ((bS l 0).length≤400) && decide (l.map (·.1)).Nodup && (mm l).all fun k=> decide (k≤8)
theorem gj {l:List (Nat×Bk)} {nv:Nat} (h:srcB l nv=true):vt l nv:=by
 simp only [srcB,Bool.and_eq_true,List.all_eq_true,decide_eq_true_eq] at h
 exact ⟨fun p hp=> ll nv _ (h.1.1.1 p hp).1.1,fun p hp=> (h.1.1.1 p hp).1.2,h.1.1.2,fun p hp=> (h.1.1.1 p hp).2,h.1.2,h.2⟩
theorem srcOk0:vt ons0 (Bx++AE).length:=gj ae
theorem srcOk1:vt ons1 (Cj++zU).length:=gj ae
theorem srcOk2:vt ons2 (zQ++Aa).length:=gj ae
theorem srcOk3:vt ons3 (Ck++Dj).length:=gj ae
theorem srcOk4:vt ons4 (As++zP).length:=gj ae
theorem srcOk5:vt ons5 (CA++zR).length:=gj ae
theorem srcOk6:vt ons6 (CI++CN).length:=gj ae
theorem srcOk7:vt ons7 (zy++BQ).length:=gj ae
theorem srcOk8:vt ons8 (BB++zN).length:=gj ae
theorem srcOk9:vt ons9 (Ax++BP).length:=gj ae
theorem srcOk10:vt ons10 (uT++ul).length:=gj ae
theorem srcOk11:vt ons11 (uj++tR).length:=gj ae
def wS (l:List (Nat×Bk)) (i:Nat):Nat:=(mm l).getD i 0
theorem sU (l:List (Nat×Bk)):Fit (wS l) 0 (mm l):=fun k d h=> by
 unfold wS
 rw [Nat.zero_add,List.getD_eq_getElem?_getD,h];rfl

abbrev DS:=List Int×Bool×Bool
def jA (n:Nat) (d:Int) (s:DS) (j:Nat):DS:=
 if n≤j then s else if s.1.getD j (-1) < 0 then (s.1.set j d,s.2.1,true) else if s.1.getD j (-1)≠d then (s.1,false,s.2.2) else s
def cY (C:List eT) (i:Nat):eT:=C.getD i { op:= .stop }
def DX (C:List eT) (i:Nat) (s:DS):Int:=max (s.1.getD i (-1) - (cY C i).op.pops) 0+(cY C i).op.puts
def lq (C:List eT) (s:DS) (i:Nat):DS:=
 if s.1.getD i (-1) < 0 then s
 else (dS i (cY C i)).foldl (jA C.length (DX C i s)) (s.1,if s.1.getD i (-1) - (cY C i).op.pops < 0 then false else s.2.1,s.2.2)
def dD (C:List eT) (s:List Int×Bool) (k:Nat):DS:=(List.range k).foldl (lq C) (s.1,s.2,false)
theorem pZ (C:List eT) (s:List Int×Bool) (k:Nat):dD C s (k+1)=lq C (dD C s k) k:=by simp [dD,List.range_succ,List.foldl_append]
def jF (C:List eT):Nat→List Int×Bool→List Int×Bool
 | 0,s=> s
 | f+1,s=> if (dD C s C.length).2.2=true then jF C f ((dD C s C.length).1,(dD C s C.length).2.1) else ((dD C s C.length).1,(dD C s C.length).2.1)
def neg (l:List Int):Nat:=l.countP fun x=> decide (x < 0)
theorem FE {l:List Int} {j:Nat} {d:Int} (hj:j < l.length) (h:l.getD j (-1) < 0) (hd:0≤d):neg (l.set j d)+1=neg l:=by
 unfold neg
 have e:l=l.take j++l[j]::l.drop (j+1):=by rw [List.getElem_cons_drop hj,List.take_append_drop]
 have h':l[j] < 0:=by rwa [List.getD_eq_getElem?_getD,List.getElem?_eq_getElem hj] at h
 rw [List.set_eq_take_append_cons_drop,if_pos hj]
 conv=> rhs;rw [e]
 simp only [List.countP_append,List.countP_cons]
 rw [decide_eq_true h',decide_eq_false (show ¬ d < 0 by omega)]
 simp
 omega
structure DI (D:Nat→Nat) (n:Nat) (s:DS):Prop where
 len:s.1.length=n
 val: ∀ i,i < n→s.1.getD i (-1)= -1∨s.1.getD i (-1)=(D i:Int)
 ok:s.2.1=true
theorem kA {l:List Int} {j i:Nat} {d:Int}:(l.set j d).getD i (-1)=if i=j∧j < l.length then d else l.getD i (-1):=by
 simp only [List.getD_eq_getElem?_getD,List.getElem?_set]
 by_cases h:j=i
 ·subst h
  by_cases h2:j < l.length
  ·simp [h2]
  simp [h2]
 simp [h,Ne.symm h]
theorem Em {D:Nat→Nat} {n:Nat} {d:Int} {s:DS} {j:Nat} (h:DI D n s) (hd:d=(D j:Int)):DI D n (jA n d s j)∧neg (jA n d s j).1≤neg s.1∧((jA n d s j).2.2=true→s.2.2=true∨neg (jA n d s j).1 < neg s.1):=by
 unfold jA
 split
 ·exact ⟨h,Nat.le_refl _,fun e=> .inl e⟩
 rename_i hj
 split
 ·rename_i hn
  have:=FE (l:=s.1) (j:=j) (d:=d) (by rw [h.len];omega) hn ab
  refine ⟨⟨by rw [List.length_set];exact h.len,fun i hi=> ?_,h.ok⟩,by simp only;omega,fun _=> .inr (by simp only;omega)⟩
  simp only
  rw [kA]
  split
  ·rename_i hc;rw [hc.1];exact .inr hd
  exact h.val i hi
 rename_i hn
 have hv:=h.val j ab
 have:s.1.getD j (-1)=d:=by rw [hd];rcases hv with hv | hv <;> omega
 rw [if_neg (fun hc=> hc this)]
 exact ⟨h,Nat.le_refl _,fun e=> .inl e⟩
theorem nJ {D:Nat→Nat} {n:Nat} {d:Int}: ∀ (l:List Nat) {s:DS},DI D n s→(∀ j∈l,d=(D j:Int))→DI D n (l.foldl (jA n d) s)∧neg (l.foldl (jA n d) s).1≤neg s.1∧((l.foldl (jA n d) s).2.2=true→s.2.2=true∨neg (l.foldl (jA n d) s).1 < neg s.1)
 | [],s,h,_=> ⟨h,Nat.le_refl _,fun e=> .inl e⟩
 | j::l,s,h,hd=> by
  obtain ⟨a1,a2,a3⟩:=Em h (hd j (by simp))
  obtain ⟨b1,b2,b3⟩:=nJ l a1 fun j hj=> hd j (by simp [hj])
  simp only [List.foldl_cons]
  refine ⟨b1,by omega,fun e=> ?_⟩
  rcases b3 e with e | e
  ·rcases a3 e with e | e
   ·exact .inl e
   exact .inr ab
  exact .inr ab
section
variable {D:Nat→Nat} {nv:Nat} {C:List eT} (hC:Good D nv 0 (C.length - 1) 0 C)
include hC
theorem CG {s:DS} {i:Nat} (hi:i < C.length) (h:DI D C.length s):DI D C.length (lq C s i)∧neg (lq C s i).1≤neg s.1∧((lq C s i).2.2=true→s.2.2=true∨neg (lq C s i).1 < neg s.1):=by
 unfold lq
 split
 ·exact ⟨h,Nat.le_refl _,fun e=> .inl e⟩
 rename_i hn
 have hx:C[i]? =some (cY C i):=by unfold cY;rw [List.getD_eq_getElem?_getD,List.getElem?_eq_getElem hi];rfl
 obtain ⟨_,g2,g3⟩:=hC i _ hx
 rw [Nat.zero_add] at g2 g3
 have hv:s.1.getD i (-1)=(D i:Int):=by rcases h.val i hi with hv | hv <;> omega
 have hdo:DX C i s=((D i - (cY C i).op.pops+(cY C i).op.puts:Nat):Int):=by unfold DX;rw [hv];omega
 rw [if_neg (by rw [hv];omega)]
 exact nJ _ ⟨h.len,h.val,h.ok⟩ fun j hj=> by rw [hdo,(g3 j hj).2.2]
theorem lA {s:List Int×Bool} (h:DI D C.length (s.1,s.2,false)): ∀ k,k≤C.length→DI D C.length (dD C s k)∧neg (dD C s k).1≤neg s.1∧((dD C s k).2.2=true→neg (dD C s k).1 < neg s.1)
 | 0,_=> ⟨h,Nat.le_refl _,fun e=> by simp [dD] at e⟩
 | k+1,hk=> by
  obtain ⟨a1,a2,a3⟩:=lA h k ab
  obtain ⟨b1,b2,b3⟩:=CG hC ab a1 (i:=k)
  rw [pZ]
  refine ⟨b1,by omega,fun e=> ?_⟩
  rcases b3 e with e | e
  ·have:=a3 e;omega
  omega
theorem tZ: ∀ f (s:List Int×Bool),DI D C.length (s.1,s.2,false)→DI D C.length ((jF C f s).1,(jF C f s).2,false)
 | 0,s,h=> h
 | f+1,s,h=> by
  obtain ⟨a1,_,_⟩:=lA hC h C.length (Nat.le_refl _)
  unfold jF
  split
  ·exact tZ f _ ⟨a1.len,a1.val,a1.ok⟩
  exact ⟨a1.len,a1.val,a1.ok⟩
end
theorem vT {C:List eT} {f:Nat} {s:List Int×Bool} (h:(dD C s C.length).2.2=true):jF C (f+1) s=jF C f ((dD C s C.length).1,(dD C s C.length).2.1):=by rw [jF,if_pos h]
theorem wn {C:List eT} {f:Nat} {s:List Int×Bool} (h:(dD C s C.length).2.2=false):jF C (f+1) s=((dD C s C.length).1,(dD C s C.length).2.1):=by rw [jF,if_neg (by simp [h])]
def jw (C:List eT) (e:Int):List Int×Bool:=if e < 0∨(C.length:Int)≤e then (List.replicate C.length (-1),true) else jF C (C.length+1) ((List.replicate C.length (-1)).set e.toNat 0,true)
theorem qF {D:Nat→Nat} {nv:Nat} {C:List eT} (hC:Good D nv 0 (C.length - 1) 0 C) {e:Int} (he:0≤e→e < C.length→D e.toNat=0):DI D C.length ((jw C e).1,(jw C e).2,false):=by
 have hr: ∀ i,(List.replicate C.length (-1:Int)).getD i (-1)= -1:=fun i=> by rw [List.getD_eq_getElem?_getD,List.getElem?_replicate];split <;> rfl
 unfold jw
 split
 ·exact ⟨by simp,fun i _=> .inl (hr i),rfl⟩
 refine tZ hC _ _ ⟨by simp,fun i hi=> ?_,rfl⟩
 simp only
 rw [kA]
 split
 ·rename_i hc
  right
  rw [hc.1,he ab ab];rfl
 exact .inl (hr i)
def la (C:List eT) (out:List Int) (k:Nat):Int:=(List.range k).foldl (fun m i=> if 0≤out.getD i (-1) then max (max m (out.getD i (-1))) (out.getD i (-1) - (cY C i).op.pops+(cY C i).op.puts) else m) 0
theorem pR (C:List eT) (out:List Int) (k:Nat):la C out (k+1)=if 0≤out.getD k (-1) then max (max (la C out k) (out.getD k (-1))) (out.getD k (-1) - (cY C k).op.pops+(cY C k).op.puts) else la C out k:=by simp [la,List.range_succ,List.foldl_append]
theorem Dz (o:Opc):o.puts≤1:=by cases o <;> decide
theorem nu {C:List eT} {out:List Int} {D:Nat→Nat} {n:Nat} {ok ch:Bool} (h:DI D n (out,ok,ch)) {B:Nat} (hB: ∀ i,i < n→D i≤B): ∀ k,k≤n→0≤la C out k∧la C out k≤B+1
 | 0,_=> by simp [la];omega
 | k+1,hk=> by
  obtain ⟨h1,h2⟩:=nu (C:=C) h hB k ab
  have h3:=hB k ab
  have h4:out.getD k (-1)= -1∨out.getD k (-1)=(D k:Int):=h.val k ab
  have h5:=Dz (cY C k).op
  have h6:=pR C out k
  rw [h6]
  rcases h4 with h4 | h4 <;> rw [h4] <;> split <;> omega
def nA (l:List (Nat×Nat)):List Int:=l.foldl (fun m p=> m.set p.1 (p.2:Int)) (List.replicate 40 (-1))
theorem CZ (l:List (Nat×Nat)):(nA l).length=40:=by
 unfold nA
 have: ∀ (l:List (Nat×Nat)) (m:List Int),m.length=40→(l.foldl (fun m p=> m.set p.1 (p.2:Int)) m).length=40:=by
  intro l
  induction l with
  | nil=> exact fun m h=> h
  | cons p l ih=> exact fun m h=> ih _ (by rw [List.length_set];exact h)
 exact this l _ (by simp)
theorem Bl: ∀ (l:List (Nat×Nat)) (h:Nat),(nA l).getD h (-1)= -1∨ ∃ e,(h,e)∈l∧(nA l).getD h (-1)=(e:Int):=by
 unfold nA
 have key: ∀ (l:List (Nat×Nat)) (m:List Int) (h:Nat),(l.foldl (fun m p=> m.set p.1 (p.2:Int)) m).getD h (-1)=m.getD h (-1)∨ ∃ e,(h,e)∈l∧(l.foldl (fun m p=> m.set p.1 (p.2:Int)) m).getD h (-1)=(e:Int):=by
  intro l
  induction l with
  | nil=> exact fun m h=> .inl rfl
  | cons p l ih=>
   intro m h
   simp only [List.foldl_cons]
   rcases ih (m.set p.1 (p.2:Int)) h with e | ⟨e,h1,h2⟩
   ·rw [e,kA]
    split
    ·rename_i hc
     exact .inr ⟨p.2,by rw [hc.1];exact List.mem_cons_self,rfl⟩
    exact .inl rfl
   exact .inr ⟨e,List.mem_cons_of_mem _ h1,h2⟩
 intro l h
 rcases key l (List.replicate 40 (-1)) h with e | e
 ·left
  rw [e,List.getD_eq_getElem?_getD,List.getElem?_replicate]
  split <;> rfl
 exact .inr e
def ld (l:List (Nat×Bk)):Bool:=decide ((bS l 0).length≤400) && (List.range 40).all fun h=> decide (la (bS l 0) (jw (bS l 0) ((nA (ku l 0)).getD h (-1))).1 (bS l 0).length≤16)
theorem wb (l:List (Nat×Bk)) (h:Nat):(nA (ku l 0)).getD h (-1)= -1∨ ∃ e:Nat,(h,e)∈ku l 0∧(nA (ku l 0)).getD h (-1)=(e:Int)∧e < (bS l 0).length∧wS l e=0:=by
 rcases Bl (ku l 0) h with e | ⟨e,h1,h2⟩
 ·exact .inl e
 obtain ⟨_,h4,h5⟩:=xt (sU l) h1
 exact .inr ⟨e,h1,h2,by omega,h5⟩
theorem yB {l:List (Nat×Bk)} {nv:Nat} (hs:vt l nv):ld l=true:=by
 unfold ld
 rw [Bool.and_eq_true,decide_eq_true_eq,List.all_eq_true]
 refine ⟨hs.n,fun h _=> ?_⟩
 rw [decide_eq_true_eq]
 have hg:=AG (wS l) nv l 0 0 ((bS l 0).length - 1) hs.ok (sU l) (Nat.le_refl _) ab
 have hd:=qF hg (e:=(nA (ku l 0)).getD h (-1)) (fun h1 h2=> by
  rcases wb l h with e | ⟨e,_,e2,_,e4⟩
  ·omega
  rw [e2];exact e4)
 have hB: ∀ i,i < (bS l 0).length→wS l i≤8:=fun i hi=> by
  unfold wS
  rw [← qz l 0] at hi
  rw [List.getD_eq_getElem?_getD,List.getElem?_eq_getElem hi]
  exact hs.d _ (List.getElem_mem hi)
 have:=(nu (C:=bS l 0) hd hB _ (Nat.le_refl _)).2
 omega

theorem iG {α β:Type} (f:α→List β) (c:Nat) (hf: ∀ a,(f a).length=c): ∀ l:List α,(l.flatMap f).length=l.length*c
 | []=> by simp
 | a::l=> by rw [List.flatMap_cons,List.length_append,hf,iG f c hf l,List.length_cons,Nat.succ_mul];omega
theorem pC {α β:Type} (f:α→List β) (c:Nat) (hf: ∀ a,(f a).length=c): ∀ (l:List α) (k:Nat),(l.flatMap f).drop (k*c)=(l.drop k).flatMap f
 | l,0=> by simp
 | [],k+1=> by simp
 | a::l,k+1=> by
  rw [List.flatMap_cons,List.drop_succ_cons,← pC f c hf l k,List.drop_append,List.drop_eq_nil_of_le (by rw [hf,Nat.succ_mul];omega),List.nil_append,hf]
  congr 1;rw [Nat.succ_mul];omega
theorem ms {α β:Type} (f:α→List β) (c:Nat) (hf: ∀ a,(f a).length=c) (l:List α) (k:Nat) (h:k < l.length):((l.flatMap f).drop (k*c)).take c=f l[k]:=by
 rw [pC f c hf,List.drop_eq_getElem_cons h,List.flatMap_cons,List.take_append_of_le_length (by rw [hf];exact Nat.le_refl _),List.take_of_length_le (by rw [hf];exact Nat.le_refl _)]
theorem lF {α β:Type} (f:α→List β) (c:Nat) (hf: ∀ a,(f a).length=c) (l:List α) (k j:Nat) (h:k < l.length) (hj:j < c):(l.flatMap f)[k*c+j]? =(f l[k])[j]? :=by
 rw [← ms f c hf l k h,List.getElem?_take_of_lt hj,List.getElem?_drop]
theorem jL {α β:Type} (f:α→List β) (l:List α) (a:α):l.flatMap f++f a=(l++[a]).flatMap f:=by simp
theorem AZ {α β:Type} (f:α→List β) (l m:List α):l.flatMap f++m.flatMap f=(l++m).flatMap f:=by simp

def fk (l:List Tx):List PV:=l.map fun t=> .v (bt t)
@[simp] theorem bv (l:List Tx):(fk l).length=l.length:=by simp [fk]
theorem jP (l:List Tx) (k:Nat) (h:k < l.length):(fk l)[k]? =some (.v (bt (l.getD k []))):=by simp [fk,h]
theorem qd (a b:List Tx):fk a++fk b=fk (a++b):=by simp [fk]
theorem mW (a:List Tx) (t:Tx):fk a++[.v (bt t)]=fk (a++[t]):=by simp [fk]
theorem ka {l:List Tx} {k:Nat} (h:k < l.length):l.getD k []∈l:=by
 rw [List.getD_eq_getElem?_getD,List.getElem?_eq_getElem h];exact List.getElem_mem h
theorem kJ {α:Type} {l:List α} {k:Nat} {x d:α} (h:x∉l.take k) (hk:k < l.length) (hx:l.getD k d≠x):x∉l.take (k+1):=by
 rw [List.take_succ_eq_append_getElem hk,List.mem_append,List.mem_singleton]
 rintro (h' | h')
 ·exact h h'
 exact hx (by rw [List.getD_eq_getElem?_getD,List.getElem?_eq_getElem hk,h'];rfl)

def GC (t:Tk):List PV:=[.v (.int .i64 (t.k:Int)), .v (.int .i64 (t.a:Int)), .v (bt t.t), .v (.int .i64 (t.n:Int))]
def sM (l:List Tk):List PV:=l.flatMap GC
theorem bu (l:List Tk):(sM l).length=l.length*4:=iG GC 4 (fun _=> rfl) l
theorem wG (l:List Tk) (k:Nat) (h:k < l.length):dj l k=l[k]:=by simp [dj,h]
theorem pU (l:List Tk) (k:Nat) (h:k < l.length):(sM l)[k*4]? =some (.v (.int .i64 ((dj l k).k:Int))):=by
 rw [wG l k h];exact lF GC 4 (fun _=> rfl) l k 0 h ab
theorem nH (l:List Tk) (k:Nat) (h:k < l.length):(sM l)[k*4+2]? =some (.v (bt (dj l k).t)):=by
 rw [wG l k h];exact lF GC 4 (fun _=> rfl) l k 2 h ab
theorem nz (l:List Tk) (k:Nat) (h:k < l.length):PV.ups (((sM l).drop (k*4)).take 4)=[.v (.int .i64 ((dj l k).k:Int)), .v (.int .i64 ((dj l k).a:Int)), .v (bt (dj l k).t), .v (.int .i64 ((dj l k).n:Int))]:=by
 rw [wG l k h,show ((sM l).drop (k*4)).take 4=GC l[k] from ms GC 4 (fun _=> rfl) l k h];rfl
theorem uS (l:List Tk) (t:Tk):sM l++GC t=sM (l++[t]):=jL GC l t

theorem gh {s:Tx} {a:Nat} {b:UInt8} (h:s[a]? =some b):s.drop a=b::s.drop (a+1):=by
 obtain ⟨hl,rfl⟩:=List.getElem?_eq_some_iff.1 h
 exact List.drop_eq_getElem_cons hl
theorem kP {s:Tx} {a:Nat} (h:a < s.length): ∃ b,s[a]? =some b:=⟨_,List.getElem?_eq_getElem h⟩
theorem LW (b:UInt8):0≤(b.toNat:Int)∧(b.toNat:Int) < 256:=⟨by omega,by have:=b.toNat_lt;omega⟩
def lb (s:Tx) (a:Nat) (c:Bool):Nat:=a+tJ (s.drop a) c
theorem sy {s:Tx} {a:Nat} (h:s.length≤a) (c:Bool):lb s a c=a:=by
 unfold lb;rw [List.drop_eq_nil_of_le h];unfold tJ;rfl
theorem Ik {s:Tx} {a:Nat} {b:UInt8} (h:s[a]? =some b) (hb:b.toNat=10):lb s a true=lb s a false:=by
 unfold lb;rw [gh h];simp [tJ,hb]
theorem He {s:Tx} {a:Nat} {b:UInt8} (h:s[a]? =some b) (hb:b.toNat≠10):lb s a true=lb s (a+1) true:=by
 unfold lb;rw [gh h];simp [tJ,hb];omega
theorem zW {s:Tx} {a:Nat} {b:UInt8} (h:s[a]? =some b) (hb:b.toNat=35):lb s a false=lb s a true:=by
 unfold lb;rw [gh h];simp [tJ,hb]
theorem vC {s:Tx} {a:Nat} {b:UInt8} (h:s[a]? =some b) (h0:b.toNat≠35) (hb:b.toNat=32∨b.toNat=9∨b.toNat=10):lb s a false=lb s (a+1) false:=by
 unfold lb;rw [gh h,tJ,if_neg h0,if_pos hb];omega
theorem Ey {s:Tx} {a:Nat} {b:UInt8} (h:s[a]? =some b) (h0:b.toNat≠35) (hb: ¬ (b.toNat=32∨b.toNat=9∨b.toNat=10)):lb s a false=a:=by
 unfold lb;rw [gh h,tJ,if_neg h0,if_neg hb];rfl
theorem ol: ∀ (l:Tx) (c:Bool),tJ l c≤l.length
 | [],c=> by unfold tJ;exact Nat.le_refl _
 | x::l,true=> by have h1:=ol l true;have h2:=ol l false;unfold tJ;split <;> simp only [List.length_cons] <;> omega
 | x::l,false=> by have h1:=ol l true;have h2:=ol l false;unfold tJ;split <;> (try split) <;> simp only [List.length_cons] <;> omega
theorem wx {s:Tx} {a:Nat} (h:a≤s.length) (c:Bool):a≤lb s a c∧lb s a c≤s.length:=by
 have:=ol (s.drop a) c
 rw [List.length_drop] at this
 unfold lb;omega
def lK (p:UInt8→Bool) (s:Tx) (a:Nat):Nat:=a+((s.drop a).takeWhile p).length
theorem xA {p:UInt8→Bool} {s:Tx} {a:Nat} (h:s.length≤a):lK p s a=a:=by
 unfold lK;rw [List.drop_eq_nil_of_le h];rfl
theorem sN {p:UInt8→Bool} {s:Tx} {a:Nat} {b:UInt8} (h:s[a]? =some b) (hb:p b=true):lK p s a=lK p s (a+1):=by
 unfold lK;rw [gh h,List.takeWhile_cons,if_pos hb,List.length_cons];omega
theorem Dq {p:UInt8→Bool} {s:Tx} {a:Nat} {b:UInt8} (h:s[a]? =some b) (hb:p b=false):lK p s a=a:=by
 unfold lK;rw [gh h,List.takeWhile_cons,if_neg (by simp [hb])];rfl
theorem sO {p:UInt8→Bool} {s:Tx} {a:Nat} (h:a≤s.length):a≤lK p s a∧lK p s a≤s.length:=by
 have:((s.drop a).takeWhile p).length≤(s.drop a).length:=(List.takeWhile_prefix p).length_le
 rw [List.length_drop] at this
 unfold lK;omega
theorem tP {p:UInt8→Bool} {s:Tx} {a:Nat} {b:UInt8} (h:s[a]? =some b):(s.drop a).take (lK p s (a+1) - a)=b::(s.drop (a+1)).takeWhile p:=by
 rw [gh h,show lK p s (a+1) - a=((s.drop (a+1)).takeWhile p).length+1 by unfold lK;omega,List.take_succ_cons]
 congr 1
 obtain ⟨t,ht⟩:=List.takeWhile_prefix p (l:=s.drop (a+1))
 conv=> lhs;arg 2;rw [← ht]
 rw [List.take_append_of_le_length (Nat.le_refl _),List.take_length]
theorem rZ (l:Tx) (b:UInt8):lg (l++[b])=10*lg l+(b.toNat - 48):=by unfold lg;rw [List.foldl_append];rfl
theorem FB (l m:Tx):lg l≤lg (l++m):=by
 induction m generalizing l with
 | nil=> simp
 | cons b m ih=>
  have:=ih (l++[b])
  rw [rZ,List.append_assoc] at this
  simp only [List.cons_append,List.nil_append] at this
  omega
theorem yx (l:Tx) (i:Nat):lg (l.take i)≤lg l:=by
 have:=FB (l.take i) (l.drop i)
 rwa [List.take_append_drop] at this
theorem yI {l:Tx} {i:Nat} {b:UInt8} (h:l[i]? =some b):lg (l.take (i+1))=10*lg (l.take i)+(b.toNat - 48):=by
 obtain ⟨hl,rfl⟩:=List.getElem?_eq_some_iff.1 h
 rw [List.take_succ_eq_append_getElem hl,rZ]
theorem By (b:UInt8):nx b=true↔97≤(b.toNat:Int)∧(b.toNat:Int)≤122:=by
 unfold nx;rw [Bool.and_eq_true,Nat.ble_eq,Nat.ble_eq];omega
theorem vj (b:UInt8):gG b=true↔48≤(b.toNat:Int)∧(b.toNat:Int)≤57:=by
 unfold gG;rw [Bool.and_eq_true,Nat.ble_eq,Nat.ble_eq];omega
theorem Gs {b:Bool} {p:Prop} (h:b=true↔p) (hn: ¬ p):b=false:=by
 cases b with
 | false=> rfl
 | true=> exact absurd (h.1 rfl) hn
def inr (x:eT):List PV:=[.v (.int .i64 (x.op.num:Int)), .v (.int .i64 x.n)]
def inl (l:List eT):List PV:=l.flatMap inr
theorem bM (l:List eT):(inl l).length=l.length*2:=iG inr 2 (fun _=> rfl) l
theorem nP (l:List eT) (k:Nat) (h:k < l.length):(inl l)[k*2]? =some (.v (.int .i64 ((cY l k).op.num:Int))):=by
 rw [show cY l k=l[k] by simp [cY,h]];exact lF inr 2 (fun _=> rfl) l k 0 h ab
theorem Be (l:List eT) (k:Nat) (h:k < l.length):(inl l)[k*2+1]? =some (.v (.int .i64 (cY l k).n)):=by
 rw [show cY l k=l[k] by simp [cY,h]];exact lF inr 2 (fun _=> rfl) l k 1 h ab
theorem zO (l:List eT) (k:Nat) (h:k < l.length):PV.ups (((inl l).drop (k*2)).take 2)=[.v (.int .i64 ((cY l k).op.num:Int)), .v (.int .i64 (cY l k).n)]:=by
 rw [show cY l k=l[k] by simp [cY,h],show ((inl l).drop (k*2)).take 2=inr l[k] from ms inr 2 (fun _=> rfl) l k h];rfl
theorem fj (l:List eT) (x:eT):inl l++inr x=inl (l++[x]):=jL inr l x
theorem lT (l m:List eT):inl l++inl m=inl (l++m):=AZ inr l m
def IT (x:Ac):List PV:=[.v (.int .i64 x.k), .v (.int .i64 x.a), .v (.int .i64 x.b), .v (.int .i64 x.c), .v (.int .i64 x.d)]
def vu (l:List Ac):List PV:=l.flatMap IT
def pE (l:List Ac) (k:Nat):Ac:=l.getD k { k:=0 }
theorem gk (l:List Ac):(vu l).length=l.length*5:=iG IT 5 (fun _=> rfl) l
theorem uE (l:List Ac) (k:Nat) (h:k < l.length):PV.ups (((vu l).drop (k*5)).take 5)=[.v (.int .i64 (pE l k).k), .v (.int .i64 (pE l k).a), .v (.int .i64 (pE l k).b), .v (.int .i64 (pE l k).c), .v (.int .i64 (pE l k).d)]:=by
 rw [show pE l k=l[k] by simp [pE,h],show ((vu l).drop (k*5)).take 5=IT l[k] from ms IT 5 (fun _=> rfl) l k h];rfl
theorem Ay (l:List Ac) (x:Ac):vu l++IT x=vu (l++[x]):=jL IT l x
end Go.Proofs.YtmjnackchaahbaaGreat

namespace Go.Proofs.YtmjnackchaahbaaGreat
abbrev Kq:List Value:=[.slice none 0 0, .int .i64 0, .int .i64 0, .int .i64 0, .int .i64 0, .int .i64 0, .int .i64 0, .int .i64 0, .int .i64 0, .int .i64 0, .int .i64 0, .int .i64 0, .int .i64 0, .int .i64 0, .int .i64 0, .int .i64 0, .int .i64 0, .int .i64 0, .int .i64 0, .int .i64 0, .int .i64 0, .int .i64 0, .int .i64 0, .int .i64 0, .int .i64 0, .int .i64 0, .int .i64 0, .int .i64 0, .int .i64 0, .int .i64 0, .int .i64 0, .int .i64 0, .int .i64 0, .int .i64 0, .int .i64 0, .int .i64 0, .int .i64 0, .int .i64 0, .int .i64 0, .int .i64 0, .int .i64 0, .int .i64 0, .int .i64 0]
abbrev Gw:List Value:=[.int .i64 0, .int .i64 0, .int .i64 0, .int .i64 0, .int .i64 0, .int .i64 0, .int .i64 0, .int .i64 0, .int .i64 0]
abbrev Ku:List Value:=[.slice none 0 0, .slice none 0 0, .int .i64 0, .bool false, .slice none 0 0]
abbrev xi:List Value:=[.int .i64 0, .int .i64 0, .int .i64 0, .int .i64 0, .int .i64 0]
abbrev OQ:List Value:=[.slice none 0 0, .slice none 0 0, .slice none 0 0]
abbrev IQ:List Value:=[.int .i64 0, .int .i64 0, .string ByteArray.empty, .slice none 0 0]
abbrev IP:List Value:=[.int .i64 0, .int .i64 0, .int .i64 0, .string ByteArray.empty, .slice none 0 0]
abbrev Pd:List Value:=[.int .i64 0, .int .i64 0, .int .i64 0, .int .i64 0, .int .i64 0, .int .i64 0, .int .i64 0, .int .i64 0, .int .i64 0, .int .i64 0, .int .i64 0, .int .i64 0, .int .i64 0, .int .i64 0, .int .i64 0, .int .i64 0, .int .i64 0, .int .i64 0, .int .i64 0, .int .i64 0, .int .i64 0, .int .i64 0, .int .i64 0, .int .i64 0, .int .i64 0, .int .i64 0, .int .i64 0, .int .i64 0, .int .i64 0, .int .i64 0, .int .i64 0, .int .i64 0, .int .i64 0, .int .i64 0, .int .i64 0, .int .i64 0, .int .i64 0, .int .i64 0, .int .i64 0, .int .i64 0, .int .i64 0]
abbrev Kg:List Value:=[.bool false, .int .i64 0, .int .i64 0, .int .i64 0, .slice none 0 0, .slice none 0 0, .slice none 0 0, .slice none 0 0, .int .i64 0, .int .i64 0, .int .i64 0, .int .i64 0, .int .i64 0, .int .i64 0, .int .i64 0, .int .i64 0, .int .i64 0, .int .i64 0, .int .i64 0, .int .i64 0, .int .i64 0, .int .i64 0, .int .i64 0, .int .i64 0, .int .i64 0, .int .i64 0, .int .i64 0, .int .i64 0, .int .i64 0, .int .i64 0, .int .i64 0, .int .i64 0, .int .i64 0, .int .i64 0, .int .i64 0, .int .i64 0, .int .i64 0, .int .i64 0, .int .i64 0, .int .i64 0, .int .i64 0, .int .i64 0, .int .i64 0, .int .i64 0, .int .i64 0, .int .i64 0, .int .i64 0, .int .i64 0, .int .i64 0, .int .i64 0, .int .i64 0, .int .i64 0]
abbrev IU:List Value:=[.int .i64 0, .int .i64 0, .int .i64 0, .int .i64 0, .int .i64 0, .int .i64 0, .int .i64 0, .int .i64 0, .int .i64 0, .int .i64 0, .int .i64 0, .int .i64 0, .int .i64 0, .slice none 0 0, .slice none 0 0]
abbrev DY:List Value:=[.int .i64 0, .int .i64 0, .int .i64 0]
abbrev Ge:List Value:=[.int .i64 0, .int .i64 0, .int .i64 0, .slice none 0 0, .bool false, .int .i64 0, .slice none 0 0, .slice none 0 0, .slice none 0 0, .int .i64 0, .bool false, .slice none 0 0]
abbrev Gh:List Value:=[.slice none 0 0, .int .i64 0, .int .i64 0, .int .i64 0, .int .i64 0, .int .i64 0, .int .i64 0, .int .i64 0, .int .i64 0, .int .i64 0]
abbrev Ev:List Value:=[.nilFunc, .nilFunc, .nilFunc, .nilFunc, .nilFunc, .nilFunc, .nilFunc, .nilFunc, .nilFunc, .nilFunc, .nilFunc, .nilFunc, .nilFunc, .nilFunc, .nilFunc, .nilFunc, .nilFunc, .nilFunc, .nilFunc, .nilFunc, .nilFunc, .nilFunc, .nilFunc, .nilFunc]
abbrev yu:List Value:=[.int .i64 0, .int .i64 0, .string ByteArray.empty, .int .i64 0]
abbrev FW:List Value:=[.int .i64 0, .int .i64 0, .int .i64 0, .int .i64 0, .int .i64 0, .int .i64 0, .int .i64 0]
abbrev DJ:List Value:=[.int .i64 0, .int .i64 0, .int .i64 0, .int .i64 0, .int .i64 0, .int .i64 0]
abbrev Jj:List Value:=[.int .i64 0, .int .i64 0, .int .i64 0, .slice none 0 0, .slice none 0 0]
abbrev JV:List Value:=[.slice none 0 0, .int .i64 0, .int .i64 0, .int .i64 0, .int .i64 0, .int .i64 0, .int .i64 0, .int .i64 0, .int .i64 0, .int .i64 0, .int .i64 0, .int .i64 0, .int .i64 0, .int .i64 0, .int .i64 0, .int .i64 0, .int .i64 0, .int .i64 0, .int .i64 0, .int .i64 0, .int .i64 0, .int .i64 0, .int .i64 0, .int .i64 0, .int .i64 0, .int .i64 0, .int .i64 0, .int .i64 0, .int .i64 0, .int .i64 0, .int .i64 0, .int .i64 0, .int .i64 0, .int .i64 0, .int .i64 0, .int .i64 0, .int .i64 0, .int .i64 0, .int .i64 0, .int .i64 0, .int .i64 0, .int .i64 0, .int .i64 0, .slice none 0 0, .int .i64 0, .int .i64 0, .int .i64 0, .int .i64 0, .int .i64 0, .int .i64 0, .int .i64 0, .int .i64 0, .int .i64 0, .nilFunc, .slice none 0 0, .slice none 0 0, .int .i64 0, .bool false, .slice none 0 0, .slice none 0 0, .int .i64 0, .int .i64 0, .int .i64 0, .bool false]
abbrev Jz:List Value:=[.slice none 0 0, .int .i64 0, .int .i64 0, .int .i64 0, .slice none 0 0]

instance zq:Ty Tryz.prog 1 false [.nilFunc]:=Ty.of (bytes:=8) (.nilFunc) Tryz.underlying1 rfl ae rfl oC
instance zp:Ty Tryz.prog 2 false [.int .i64 0]:=Ty.of (bytes:=8) (.int .i64 0) Tryz.underlying2 rfl ae rfl oC
instance Rx:Ty Tryz.prog 3 false [.int .i64 0]:=Ty.of (bytes:=8) (.int .i64 0) Tryz.underlying3 rfl ae rfl oC
instance Rw:Ty Tryz.prog 4 false [.bool false]:=Ty.of (bytes:=1) (.bool false) Tryz.underlying4 rfl ae rfl oC
instance Rv:Ty Tryz.prog 9 false [.string ByteArray.empty]:=Ty.of (bytes:=16) (.string ByteArray.empty) Tryz.underlying9 rfl ae rfl oC
instance LT:Ty Tryz.prog 22 false [.slice none 0 0]:=Ty.of (bytes:=24) (.slice none 0 0) Tryz.underlying22 rfl ae rfl oC
instance QL:Ty Tryz.prog 23 false [.slice none 0 0]:=Ty.of (bytes:=24) (.slice none 0 0) Tryz.underlying23 rfl ae rfl oC
instance Px:Ty Tryz.prog 26 true Kq:=Ty.of (bytes:=360) (.agg (Kq).toArray) Tryz.underlying26 rfl ae rfl oC
instance PB:Ty Tryz.prog 30 true Gw:=Ty.of (bytes:=72) (.agg (Gw).toArray) Tryz.underlying30 rfl ae rfl oC
instance QC:Ty Tryz.prog 32 false [.slice none 0 0]:=Ty.of (bytes:=24) (.slice none 0 0) Tryz.underlying32 rfl ae rfl oC
instance Ps:Ty Tryz.prog 34 true Ku:=Ty.of (bytes:=88) (.agg (Ku).toArray) Tryz.underlying34 rfl ae rfl oC
instance Pm:Ty Tryz.prog 43 false [.nilFunc]:=Ty.of (bytes:=8) (.nilFunc) Tryz.underlying43 rfl ae rfl oC
instance QJ:Ty Tryz.prog 48 true [.int .i64 0, .int .i64 0]:=Ty.of (bytes:=16) (.agg #[.int .i64 0, .int .i64 0]) Tryz.underlying48 rfl ae rfl oC
instance QH:Ty Tryz.prog 51 false [.nilFunc]:=Ty.of (bytes:=8) (.nilFunc) Tryz.underlying51 rfl ae rfl oC
instance QW:Ty Tryz.prog 57 true xi:=Ty.of (bytes:=40) (.agg (xi).toArray) Tryz.underlying57 rfl ae rfl oC
instance Qj:Ty Tryz.prog 61 false [.slice none 0 0]:=Ty.of (bytes:=24) (.slice none 0 0) Tryz.underlying61 rfl ae rfl oC
instance Rm:Ty Tryz.prog 62 false [.slice none 0 0]:=Ty.of (bytes:=24) (.slice none 0 0) Tryz.underlying62 rfl ae rfl oC
instance Qu:Ty Tryz.prog 64 true OQ:=Ty.of (bytes:=72) (.agg (OQ).toArray) Tryz.underlying64 rfl ae rfl oC
instance Pu:Ty Tryz.prog 66 false [.int .i64 0]:=Ty.of (bytes:=8) (.int .i64 0) Tryz.underlying66 rfl ae rfl oC
instance QG:Ty Tryz.prog 69 false [.slice none 0 0]:=Ty.of (bytes:=24) (.slice none 0 0) Tryz.underlying69 rfl ae rfl oC
instance Ro:Ty Tryz.prog 71 true IQ:=Ty.of (bytes:=56) (.agg (IQ).toArray) Tryz.underlying71 rfl ae rfl oC
instance Qe:Ty Tryz.prog 73 true IP:=Ty.of (bytes:=64) (.agg (IP).toArray) Tryz.underlying73 rfl ae rfl oC
instance PN:Ty Tryz.prog 78 false [.slice none 0 0]:=Ty.of (bytes:=24) (.slice none 0 0) Tryz.underlying78 rfl ae rfl oC
instance Rt:Ty Tryz.prog 80 true [.slice none 0 0, .slice none 0 0]:=Ty.of (bytes:=48) (.agg #[.slice none 0 0, .slice none 0 0]) Tryz.underlying80 rfl ae rfl oC
instance QP:Ty Tryz.prog 81 true Pd:=Ty.of (bytes:=328) (.agg (Pd).toArray) Tryz.underlying81 rfl ae rfl oC
instance Qn:Ty Tryz.prog 83 true Kg:=Ty.of (bytes:=480) (.agg (Kg).toArray) Tryz.underlying83 rfl ae rfl oC
instance Ql:Ty Tryz.prog 87 true IU:=Ty.of (bytes:=152) (.agg (IU).toArray) Tryz.underlying87 rfl ae rfl oC
instance QA:Ty Tryz.prog 88 false [.slice none 0 0]:=Ty.of (bytes:=24) (.slice none 0 0) Tryz.underlying88 rfl ae rfl oC
instance Rc:Ty Tryz.prog 89 false [.slice none 0 0]:=Ty.of (bytes:=24) (.slice none 0 0) Tryz.underlying89 rfl ae rfl oC
instance QO:Ty Tryz.prog 91 true DY:=Ty.of (bytes:=24) (.agg (DY).toArray) Tryz.underlying91 rfl ae rfl oC
instance PF:Ty Tryz.prog 96 true Ge:=Ty.of (bytes:=176) (.agg (Ge).toArray) Tryz.underlying96 rfl ae rfl oC
instance MZ:Ty Tryz.prog 101 false [.slice none 0 0]:=Ty.of (bytes:=24) (.slice none 0 0) Tryz.underlying101 rfl ae rfl oC
instance Of:Ty Tryz.prog 109 true xi:=Ty.of (bytes:=40) (.agg (xi).toArray) Tryz.underlying109 rfl ae rfl oC
instance NN:Ty Tryz.prog 115 true xi:=Ty.of (bytes:=40) (.agg (xi).toArray) Tryz.underlying115 rfl ae rfl oC
instance Oz:Ty Tryz.prog 126 true [.int .i64 0, .int .i64 0]:=Ty.of (bytes:=16) (.agg #[.int .i64 0, .int .i64 0]) Tryz.underlying126 rfl ae rfl oC
instance Oe:Ty Tryz.prog 132 true Gh:=Ty.of (bytes:=96) (.agg (Gh).toArray) Tryz.underlying132 rfl ae rfl oC
instance Nh:Ty Tryz.prog 161 false [.nilFunc]:=Ty.of (bytes:=8) (.nilFunc) Tryz.underlying161 rfl ae rfl oC
instance OZ:Ty Tryz.prog 172 false [.nilFunc]:=Ty.of (bytes:=8) (.nilFunc) Tryz.underlying172 rfl ae rfl oC
instance OL:Ty Tryz.prog 173 true Ev:=Ty.of (bytes:=192) (.agg (Ev).toArray) Tryz.underlying173 rfl ae rfl oC
instance Pc:Ty Tryz.prog 217 false [.slice none 0 0]:=Ty.of (bytes:=24) (.slice none 0 0) Tryz.underlying217 rfl ae rfl oC
instance Pb:Ty Tryz.prog 225 true yu:=Ty.of (bytes:=40) (.agg (yu).toArray) Tryz.underlying225 rfl ae rfl oC
instance Qd:Elem Tryz.prog 22 3 1 8 [.int .i64 0]:=Elem.of (.int .i64 0) Tryz.underlying22 ae rfl rfl ah ah oC
instance PD:Elem Tryz.prog 23 48 2 16 [.int .i64 0, .int .i64 0]:=Elem.of (.agg #[.int .i64 0, .int .i64 0]) Tryz.underlying23 ae rfl rfl ah ah oC
instance Pr:Elem Tryz.prog 32 57 5 40 xi:=Elem.of (.agg (xi).toArray) Tryz.underlying32 ae rfl rfl ah ah oC
instance PU:Elem Tryz.prog 61 9 1 16 [.string ByteArray.empty]:=Elem.of (.string ByteArray.empty) Tryz.underlying61 ae rfl rfl ah ah oC
instance QN:Elem Tryz.prog 62 73 5 64 IP:=Elem.of (.agg (IP).toArray) Tryz.underlying62 ae rfl rfl ah ah oC
instance Ru:Elem Tryz.prog 69 71 4 56 IQ:=Elem.of (.agg (IQ).toArray) Tryz.underlying69 ae rfl rfl ah ah oC
instance PI:Elem Tryz.prog 76 87 15 152 IU:=Elem.of (.agg (IU).toArray) Tryz.underlying76 ae rfl rfl ah ah oC
instance Pt:Elem Tryz.prog 78 126 2 16 [.int .i64 0, .int .i64 0]:=Elem.of (.agg #[.int .i64 0, .int .i64 0]) Tryz.underlying78 ae rfl rfl ah ah oC
instance Qh:Elem Tryz.prog 88 111 7 56 FW:=Elem.of (.agg (FW).toArray) Tryz.underlying88 ae rfl rfl ah ah oC
instance PX:Elem Tryz.prog 89 117 9 72 Gw:=Elem.of (.agg (Gw).toArray) Tryz.underlying89 ae rfl rfl ah ah oC
instance Nq:Elem Tryz.prog 101 196 6 48 DJ:=Elem.of (.agg (DJ).toArray) Tryz.underlying101 ae rfl rfl ah ah oC
instance Pa:Elem Tryz.prog 121 4 1 1 [.bool false]:=Elem.of (.bool false) Tryz.underlying121 ae rfl rfl ah ah oC
instance MX:Elem Tryz.prog 217 225 4 40 yu:=Elem.of (.agg (yu).toArray) Tryz.underlying217 ae rfl rfl ah ah oC
instance MS:Elem Tryz.prog 275 61 1 24 [.slice none 0 0]:=Elem.of (.slice none 0 0) Tryz.underlying275 ae rfl rfl ah ah oC
instance Lp:fb Tryz.prog 26 0 0:=⟨fun ad w=> by kernel_rfl⟩
instance Lt:fb Tryz.prog 26 1 1:=⟨fun ad w=> by kernel_rfl⟩
instance LX:fb Tryz.prog 26 2 41:=⟨fun ad w=> by kernel_rfl⟩
instance KZ:fb Tryz.prog 26 3 42:=⟨fun ad w=> by kernel_rfl⟩
instance Lh:fb Tryz.prog 34 0 0:=⟨fun ad w=> by kernel_rfl⟩
instance Me:fb Tryz.prog 34 1 1:=⟨fun ad w=> by kernel_rfl⟩
instance Lf:fb Tryz.prog 34 2 2:=⟨fun ad w=> by kernel_rfl⟩
instance LG:fb Tryz.prog 34 3 3:=⟨fun ad w=> by kernel_rfl⟩
instance LF:fb Tryz.prog 34 4 4:=⟨fun ad w=> by kernel_rfl⟩
instance LZ:fb Tryz.prog 48 0 0:=⟨fun ad w=> by kernel_rfl⟩
instance La:fb Tryz.prog 48 1 1:=⟨fun ad w=> by kernel_rfl⟩
instance Mt:fb Tryz.prog 57 0 0:=⟨fun ad w=> by kernel_rfl⟩
instance Mm:fb Tryz.prog 57 1 1:=⟨fun ad w=> by kernel_rfl⟩
instance Mz:fb Tryz.prog 57 2 2:=⟨fun ad w=> by kernel_rfl⟩
instance Lm:fb Tryz.prog 57 3 3:=⟨fun ad w=> by kernel_rfl⟩
instance LV:fb Tryz.prog 57 4 4:=⟨fun ad w=> by kernel_rfl⟩
instance Mr:fb Tryz.prog 64 0 0:=⟨fun ad w=> by kernel_rfl⟩
instance Mx:fb Tryz.prog 64 1 1:=⟨fun ad w=> by kernel_rfl⟩
instance Mq:fb Tryz.prog 64 2 2:=⟨fun ad w=> by kernel_rfl⟩
instance LI:fb Tryz.prog 71 0 0:=⟨fun ad w=> by kernel_rfl⟩
instance Ml:fb Tryz.prog 71 1 1:=⟨fun ad w=> by kernel_rfl⟩
instance LP:fb Tryz.prog 71 2 2:=⟨fun ad w=> by kernel_rfl⟩
instance LK:fb Tryz.prog 71 3 3:=⟨fun ad w=> by kernel_rfl⟩
instance Ma:fb Tryz.prog 73 0 0:=⟨fun ad w=> by kernel_rfl⟩
instance MA:fb Tryz.prog 73 1 1:=⟨fun ad w=> by kernel_rfl⟩
instance Ll:fb Tryz.prog 80 0 0:=⟨fun ad w=> by kernel_rfl⟩
instance Lw:Fvl Tryz.prog 80 0 0 false 1:=Fvl.of Tryz.underlying80 rfl rfl LT rfl
instance Lu:fb Tryz.prog 80 1 1:=⟨fun ad w=> by kernel_rfl⟩
instance LS:fb Tryz.prog 83 0 0:=⟨fun ad w=> by kernel_rfl⟩
instance Lr:fb Tryz.prog 83 1 1:=⟨fun ad w=> by kernel_rfl⟩
instance KT:fb Tryz.prog 83 2 2:=⟨fun ad w=> by kernel_rfl⟩
instance Mn:fb Tryz.prog 83 3 3:=⟨fun ad w=> by kernel_rfl⟩
instance Ly:fb Tryz.prog 83 4 4:=⟨fun ad w=> by kernel_rfl⟩
instance LD:fb Tryz.prog 83 5 6:=⟨fun ad w=> by kernel_rfl⟩
instance Lx:fb Tryz.prog 83 6 7:=⟨fun ad w=> by kernel_rfl⟩
instance Lq:fb Tryz.prog 83 7 8:=⟨fun ad w=> by kernel_rfl⟩
instance KU:fb Tryz.prog 83 8 49:=⟨fun ad w=> by kernel_rfl⟩
instance Mo:fb Tryz.prog 87 0 0:=⟨fun ad w=> by kernel_rfl⟩
instance Li:fb Tryz.prog 87 1 1:=⟨fun ad w=> by kernel_rfl⟩
instance LH:fb Tryz.prog 87 2 2:=⟨fun ad w=> by kernel_rfl⟩
instance Mj:fb Tryz.prog 87 3 11:=⟨fun ad w=> by kernel_rfl⟩
instance Lo:fb Tryz.prog 87 4 12:=⟨fun ad w=> by kernel_rfl⟩
instance Mb:fb Tryz.prog 87 5 13:=⟨fun ad w=> by kernel_rfl⟩
instance LY:fb Tryz.prog 87 6 14:=⟨fun ad w=> by kernel_rfl⟩
instance Md:fb Tryz.prog 96 0 0:=⟨fun ad w=> by kernel_rfl⟩
instance Mh:fb Tryz.prog 96 1 3:=⟨fun ad w=> by kernel_rfl⟩
instance LB:fb Tryz.prog 96 2 4:=⟨fun ad w=> by kernel_rfl⟩
instance KY:fb Tryz.prog 96 3 5:=⟨fun ad w=> by kernel_rfl⟩
instance LM:fb Tryz.prog 96 4 6:=⟨fun ad w=> by kernel_rfl⟩
instance Mv:fb Tryz.prog 96 5 7:=⟨fun ad w=> by kernel_rfl⟩
instance KF:fb Tryz.prog 103 0 0:=⟨fun ad w=> by kernel_rfl⟩
instance Kn:fb Tryz.prog 103 1 3:=⟨fun ad w=> by kernel_rfl⟩
instance Kd:fb Tryz.prog 103 2 4:=⟨fun ad w=> by kernel_rfl⟩
instance Kv:fb Tryz.prog 126 0 0:=⟨fun ad w=> by kernel_rfl⟩
instance KJ:fb Tryz.prog 126 1 1:=⟨fun ad w=> by kernel_rfl⟩
instance KD:fb Tryz.prog 132 0 0:=⟨fun ad w=> by kernel_rfl⟩
instance Ks:fb Tryz.prog 132 1 1:=⟨fun ad w=> by kernel_rfl⟩
instance KC:fb Tryz.prog 171 0 0:=⟨fun ad w=> by kernel_rfl⟩
instance Kw:fb Tryz.prog 171 1 43:=⟨fun ad w=> by kernel_rfl⟩
instance Kf:fb Tryz.prog 171 2 53:=⟨fun ad w=> by kernel_rfl⟩
instance Kr:fb Tryz.prog 171 3 54:=⟨fun ad w=> by kernel_rfl⟩
instance Kc:fb Tryz.prog 171 4 59:=⟨fun ad w=> by kernel_rfl⟩
instance Ki:fb Tryz.prog 171 5 60:=⟨fun ad w=> by kernel_rfl⟩
instance Ke:fb Tryz.prog 171 6 61:=⟨fun ad w=> by kernel_rfl⟩
instance Ko:fb Tryz.prog 171 7 62:=⟨fun ad w=> by kernel_rfl⟩
instance Kz:fb Tryz.prog 171 8 63:=⟨fun ad w=> by kernel_rfl⟩
instance KO:fb Tryz.prog 196 0 0:=⟨fun ad w=> by kernel_rfl⟩
instance Kh:fb Tryz.prog 196 1 5:=⟨fun ad w=> by kernel_rfl⟩
instance KL:fb Tryz.prog 222 0 0:=⟨fun ad w=> by kernel_rfl⟩
instance Kj:fb Tryz.prog 222 1 1:=⟨fun ad w=> by kernel_rfl⟩
instance KB:fb Tryz.prog 222 3 3:=⟨fun ad w=> by kernel_rfl⟩
instance KG:fb Tryz.prog 222 4 4:=⟨fun ad w=> by kernel_rfl⟩
instance Kp:fb Tryz.prog 225 0 0:=⟨fun ad w=> by kernel_rfl⟩
instance KI:fb Tryz.prog 225 2 2:=⟨fun ad w=> by kernel_rfl⟩
instance KN:fb Tryz.prog 225 3 3:=⟨fun ad w=> by kernel_rfl⟩
instance QS:cR Tryz.prog 23:=⟨fun args w=> by kernel_rfl⟩
instance QK:cR Tryz.prog 30:=⟨fun args w=> by kernel_rfl⟩
instance Re:cR Tryz.prog 33:=⟨fun args w=> by kernel_rfl⟩
instance PT:cR Tryz.prog 39:=⟨fun args w=> by kernel_rfl⟩
instance QF:cR Tryz.prog 40:=⟨fun args w=> by kernel_rfl⟩
instance Qz:cR Tryz.prog 41:=⟨fun args w=> by kernel_rfl⟩
instance Po:cR Tryz.prog 45:=⟨fun args w=> by kernel_rfl⟩
instance Qt:cR Tryz.prog 47:=⟨fun args w=> by kernel_rfl⟩
instance Pp:cR Tryz.prog 50:=⟨fun args w=> by kernel_rfl⟩
instance Qo:cR Tryz.prog 51:=⟨fun args w=> by kernel_rfl⟩
instance Rj:cR Tryz.prog 52:=⟨fun args w=> by kernel_rfl⟩
instance QQ:cR Tryz.prog 53:=⟨fun args w=> by kernel_rfl⟩
instance Rq:cR Tryz.prog 54:=⟨fun args w=> by kernel_rfl⟩
instance Rs:cR Tryz.prog 55:=⟨fun args w=> by kernel_rfl⟩
instance Py:cR Tryz.prog 56:=⟨fun args w=> by kernel_rfl⟩
instance Qw:cR Tryz.prog 57:=⟨fun args w=> by kernel_rfl⟩
instance QV:cR Tryz.prog 58:=⟨fun args w=> by kernel_rfl⟩
instance Pq:cR Tryz.prog 59:=⟨fun args w=> by kernel_rfl⟩
instance QZ:cR Tryz.prog 64:=⟨fun args w=> by kernel_rfl⟩
instance PY:cR Tryz.prog 72:=⟨fun args w=> by kernel_rfl⟩
instance Qc:cR Tryz.prog 73:=⟨fun args w=> by kernel_rfl⟩
instance Rh:cR Tryz.prog 74:=⟨fun args w=> by kernel_rfl⟩
instance PC:cR Tryz.prog 75:=⟨fun args w=> by kernel_rfl⟩
instance Qb:cR Tryz.prog 78:=⟨fun args w=> by kernel_rfl⟩
instance QI:cR Tryz.prog 81:=⟨fun args w=> by kernel_rfl⟩
instance Rk:cR Tryz.prog 82:=⟨fun args w=> by kernel_rfl⟩
instance Qy:cR Tryz.prog 85:=⟨fun args w=> by kernel_rfl⟩
instance Qv:cR Tryz.prog 86:=⟨fun args w=> by kernel_rfl⟩
instance QB:cR Tryz.prog 87:=⟨fun args w=> by kernel_rfl⟩
instance QD:cR Tryz.prog 88:=⟨fun args w=> by kernel_rfl⟩
instance QM:cR Tryz.prog 89:=⟨fun args w=> by kernel_rfl⟩
instance Pv:cR Tryz.prog 90:=⟨fun args w=> by kernel_rfl⟩
instance PQ:cR Tryz.prog 91:=⟨fun args w=> by kernel_rfl⟩
instance QT:cR Tryz.prog 92:=⟨fun args w=> by kernel_rfl⟩
instance PL:cR Tryz.prog 93:=⟨fun args w=> by kernel_rfl⟩
instance Qk:cR Tryz.prog 94:=⟨fun args w=> by kernel_rfl⟩
instance QE:cR Tryz.prog 95:=⟨fun args w=> by kernel_rfl⟩
instance QY:cR Tryz.prog 96:=⟨fun args w=> by kernel_rfl⟩
instance Ri:cR Tryz.prog 97:=⟨fun args w=> by kernel_rfl⟩
instance Ph:cR Tryz.prog 106:=⟨fun args w=> by kernel_rfl⟩
instance Nk:cR Tryz.prog 107:=⟨fun args w=> by kernel_rfl⟩
instance MO:cR Tryz.prog 108:=⟨fun args w=> by kernel_rfl⟩
instance NF:cR Tryz.prog 113:=⟨fun args w=> by kernel_rfl⟩
instance MP:cR Tryz.prog 114:=⟨fun args w=> by kernel_rfl⟩
instance NE:cR Tryz.prog 115:=⟨fun args w=> by kernel_rfl⟩
instance MB:cR Tryz.prog 117:=⟨fun args w=> by kernel_rfl⟩
instance MC:cR Tryz.prog 118:=⟨fun args w=> by kernel_rfl⟩
instance NU:cR Tryz.prog 119:=⟨fun args w=> by kernel_rfl⟩
instance MR:cR Tryz.prog 120:=⟨fun args w=> by kernel_rfl⟩
instance Nx:cR Tryz.prog 121:=⟨fun args w=> by kernel_rfl⟩
instance Nj:cR Tryz.prog 122:=⟨fun args w=> by kernel_rfl⟩
instance Pj:cR Tryz.prog 123:=⟨fun args w=> by kernel_rfl⟩
instance MD:cR Tryz.prog 124:=⟨fun args w=> by kernel_rfl⟩
instance OY:cR Tryz.prog 125:=⟨fun args w=> by kernel_rfl⟩
instance Oo:cR Tryz.prog 126:=⟨fun args w=> by kernel_rfl⟩
instance Nz:cR Tryz.prog 127:=⟨fun args w=> by kernel_rfl⟩
instance Oc:cR Tryz.prog 128:=⟨fun args w=> by kernel_rfl⟩
instance OW:cR Tryz.prog 129:=⟨fun args w=> by kernel_rfl⟩
instance NO:cR Tryz.prog 130:=⟨fun args w=> by kernel_rfl⟩
instance NW:cR Tryz.prog 131:=⟨fun args w=> by kernel_rfl⟩
instance ME:cR Tryz.prog 132:=⟨fun args w=> by kernel_rfl⟩
instance ND:cR Tryz.prog 133:=⟨fun args w=> by kernel_rfl⟩
instance Oh:cR Tryz.prog 134:=⟨fun args w=> by kernel_rfl⟩
instance Og:cR Tryz.prog 135:=⟨fun args w=> by kernel_rfl⟩
instance OT:cR Tryz.prog 136:=⟨fun args w=> by kernel_rfl⟩
instance MG:cR Tryz.prog 137:=⟨fun args w=> by kernel_rfl⟩
instance NG:cR Tryz.prog 138:=⟨fun args w=> by kernel_rfl⟩
instance OX:cR Tryz.prog 139:=⟨fun args w=> by kernel_rfl⟩
instance MH:cR Tryz.prog 140:=⟨fun args w=> by kernel_rfl⟩
instance OI:cR Tryz.prog 141:=⟨fun args w=> by kernel_rfl⟩
instance Pf:cR Tryz.prog 142:=⟨fun args w=> by kernel_rfl⟩
instance NT:cR Tryz.prog 143:=⟨fun args w=> by kernel_rfl⟩
instance Od:cR Tryz.prog 144:=⟨fun args w=> by kernel_rfl⟩
instance MM:cR Tryz.prog 145:=⟨fun args w=> by kernel_rfl⟩
instance OE:cR Tryz.prog 146:=⟨fun args w=> by kernel_rfl⟩
instance NB:cR Tryz.prog 147:=⟨fun args w=> by kernel_rfl⟩
instance NR:cR Tryz.prog 148:=⟨fun args w=> by kernel_rfl⟩
instance NX:cR Tryz.prog 149:=⟨fun args w=> by kernel_rfl⟩
instance Nb:cR Tryz.prog 150:=⟨fun args w=> by kernel_rfl⟩
instance Pk:cR Tryz.prog 151:=⟨fun args w=> by kernel_rfl⟩
instance OC:cR Tryz.prog 152:=⟨fun args w=> by kernel_rfl⟩
instance ML:cR Tryz.prog 153:=⟨fun args w=> by kernel_rfl⟩
instance Om:cR Tryz.prog 154:=⟨fun args w=> by kernel_rfl⟩
instance Pe:cR Tryz.prog 155:=⟨fun args w=> by kernel_rfl⟩
instance NL:cR Tryz.prog 159:=⟨fun args w=> by kernel_rfl⟩
instance OR:cR Tryz.prog 160:=⟨fun args w=> by kernel_rfl⟩
instance Pi:cR Tryz.prog 161:=⟨fun args w=> by kernel_rfl⟩
instance MU:cR Tryz.prog 162:=⟨fun args w=> by kernel_rfl⟩
instance OB:cR Tryz.prog 163:=⟨fun args w=> by kernel_rfl⟩
instance Nv:cR Tryz.prog 164:=⟨fun args w=> by kernel_rfl⟩
instance NV:cR Tryz.prog 165:=⟨fun args w=> by kernel_rfl⟩
instance MF:cR Tryz.prog 166:=⟨fun args w=> by kernel_rfl⟩
instance OA:cR Tryz.prog 167:=⟨fun args w=> by kernel_rfl⟩
instance NZ:cR Tryz.prog 183:=⟨fun args w=> by kernel_rfl⟩
instance Nt:cR Tryz.prog 184:=⟨fun args w=> by kernel_rfl⟩
instance OS:cR Tryz.prog 185:=⟨fun args w=> by kernel_rfl⟩
instance NY:cR Tryz.prog 187:=⟨fun args w=> by kernel_rfl⟩
instance OP:cR Tryz.prog 188:=⟨fun args w=> by kernel_rfl⟩
instance MK:cR Tryz.prog 189:=⟨fun args w=> by kernel_rfl⟩
instance NQ:cR Tryz.prog 190:=⟨fun args w=> by kernel_rfl⟩
instance Ov:cR Tryz.prog 194:=⟨fun args w=> by kernel_rfl⟩
instance OH:cR Tryz.prog 195:=⟨fun args w=> by kernel_rfl⟩
instance OG:cR Tryz.prog 196:=⟨fun args w=> by kernel_rfl⟩
instance Oy:cR Tryz.prog 197:=⟨fun args w=> by kernel_rfl⟩
instance MJ:cR Tryz.prog 199:=⟨fun args w=> by kernel_rfl⟩
instance Nu:cR Tryz.prog 200:=⟨fun args w=> by kernel_rfl⟩
instance NP:cR Tryz.prog 201:=⟨fun args w=> by kernel_rfl⟩
instance Nw:cR Tryz.prog 202:=⟨fun args w=> by kernel_rfl⟩
instance Oj:cR Tryz.prog 203:=⟨fun args w=> by kernel_rfl⟩
instance MW:cR Tryz.prog 204:=⟨fun args w=> by kernel_rfl⟩
instance MI:cR Tryz.prog 205:=⟨fun args w=> by kernel_rfl⟩
instance No:cR Tryz.prog 207:=⟨fun args w=> by kernel_rfl⟩
instance Ni:cR Tryz.prog 208:=⟨fun args w=> by kernel_rfl⟩
instance NI:cR Tryz.prog 221:=⟨fun args w=> by kernel_rfl⟩
instance Oa:cR Tryz.prog 222:=⟨fun args w=> by kernel_rfl⟩
instance Nf:cR Tryz.prog 223:=⟨fun args w=> by kernel_rfl⟩
instance MQ:cR Tryz.prog 224:=⟨fun args w=> by kernel_rfl⟩
instance MY:cR Tryz.prog 225:=⟨fun args w=> by kernel_rfl⟩
instance Ng:cR Tryz.prog 226:=⟨fun args w=> by kernel_rfl⟩
instance Oi:cR Tryz.prog 227:=⟨fun args w=> by kernel_rfl⟩
instance OJ:cR Tryz.prog 228:=⟨fun args w=> by kernel_rfl⟩
instance ON:cR Tryz.prog 235:=⟨fun args w=> by kernel_rfl⟩
instance OK:cR Tryz.prog 236:=⟨fun args w=> by kernel_rfl⟩
instance Nm:cR Tryz.prog 237:=⟨fun args w=> by kernel_rfl⟩
instance Oq:cR Tryz.prog 240:=⟨fun args w=> by kernel_rfl⟩
end Go.Proofs.YtmjnackchaahbaaGreat

namespace Go.Proofs.YtmjnackchaahbaaGreat

instance Rr:Bld Tryz.prog 26 Kq (fun i=> ([(0,1),(1,40),(41,1),(42,1)]:List (Nat×Nat))[i]?):=Bld.struct (bytes:=360) (.agg (Kq).toArray) [(0,1),(1,40),(41,1),(42,1)] Tryz.underlying26 ae rfl oC (fun w=> by kernel_rfl)
instance PH:Bld Tryz.prog 30 Gw (fun i=> some (i*1,1)):=Bld.array (bytes:=72) (.agg (Gw).toArray) Tryz.underlying30 ae rfl oC ae
instance Qp:Bld Tryz.prog 34 Ku (fun i=> ([(0,1),(1,1),(2,1),(3,1),(4,1)]:List (Nat×Nat))[i]?):=Bld.struct (bytes:=88) (.agg (Ku).toArray) [(0,1),(1,1),(2,1),(3,1),(4,1)] Tryz.underlying34 ae rfl oC (fun w=> by kernel_rfl)
instance Rn:Bld Tryz.prog 48 [.int .i64 0, .int .i64 0] (fun i=> ([(0,1),(1,1)]:List (Nat×Nat))[i]?):=Bld.struct (bytes:=16) (.agg #[.int .i64 0, .int .i64 0]) [(0,1),(1,1)] Tryz.underlying48 ae rfl oC (fun w=> by kernel_rfl)
instance Rb:Bld Tryz.prog 57 xi (fun i=> ([(0,1),(1,1),(2,1),(3,1),(4,1)]:List (Nat×Nat))[i]?):=Bld.struct (bytes:=40) (.agg (xi).toArray) [(0,1),(1,1),(2,1),(3,1),(4,1)] Tryz.underlying57 ae rfl oC (fun w=> by kernel_rfl)
instance Pz:Bld Tryz.prog 71 IQ (fun i=> ([(0,1),(1,1),(2,1),(3,1)]:List (Nat×Nat))[i]?):=Bld.struct (bytes:=56) (.agg (IQ).toArray) [(0,1),(1,1),(2,1),(3,1)] Tryz.underlying71 ae rfl oC (fun w=> by kernel_rfl)
instance QU:Bld Tryz.prog 73 IP (fun i=> ([(0,1),(1,4)]:List (Nat×Nat))[i]?):=Bld.struct (bytes:=64) (.agg (IP).toArray) [(0,1),(1,4)] Tryz.underlying73 ae rfl oC (fun w=> by kernel_rfl)
instance Rl:Bld Tryz.prog 80 [.slice none 0 0, .slice none 0 0] (fun i=> ([(0,1),(1,1)]:List (Nat×Nat))[i]?):=Bld.struct (bytes:=48) (.agg #[.slice none 0 0, .slice none 0 0]) [(0,1),(1,1)] Tryz.underlying80 ae rfl oC (fun w=> by kernel_rfl)
instance Qx:Bld Tryz.prog 83 Kg (fun i=> ([(0,1),(1,1),(2,1),(3,1),(4,2),(6,1),(7,1),(8,41),(49,1),(50,1),(51,1)]:List (Nat×Nat))[i]?):=Bld.struct (bytes:=480) (.agg (Kg).toArray) [(0,1),(1,1),(2,1),(3,1),(4,2),(6,1),(7,1),(8,41),(49,1),(50,1),(51,1)] Tryz.underlying83 ae rfl oC (fun w=> by kernel_rfl)
instance Qi:Bld Tryz.prog 87 IU (fun i=> ([(0,1),(1,1),(2,9),(11,1),(12,1),(13,1),(14,1)]:List (Nat×Nat))[i]?):=Bld.struct (bytes:=152) (.agg (IU).toArray) [(0,1),(1,1),(2,9),(11,1),(12,1),(13,1),(14,1)] Tryz.underlying87 ae rfl oC (fun w=> by kernel_rfl)
instance Qs:Bld Tryz.prog 91 DY (fun i=> ([(0,1),(1,1),(2,1)]:List (Nat×Nat))[i]?):=Bld.struct (bytes:=24) (.agg (DY).toArray) [(0,1),(1,1),(2,1)] Tryz.underlying91 ae rfl oC (fun w=> by kernel_rfl)
instance PR:Bld Tryz.prog 96 Ge (fun i=> ([(0,3),(3,1),(4,1),(5,1),(6,1),(7,5)]:List (Nat×Nat))[i]?):=Bld.struct (bytes:=176) (.agg (Ge).toArray) [(0,3),(3,1),(4,1),(5,1),(6,1),(7,5)] Tryz.underlying96 ae rfl oC (fun w=> by kernel_rfl)
instance Ou:Bld Tryz.prog 103 Jj (fun i=> ([(0,3),(3,1),(4,1)]:List (Nat×Nat))[i]?):=Bld.struct (bytes:=72) (.agg (Jj).toArray) [(0,3),(3,1),(4,1)] Tryz.underlying103 ae rfl oC (fun w=> by kernel_rfl)
instance Nc:Bld Tryz.prog 109 xi (fun i=> ([(0,3),(3,1),(4,1)]:List (Nat×Nat))[i]?):=Bld.struct (bytes:=40) (.agg (xi).toArray) [(0,3),(3,1),(4,1)] Tryz.underlying109 ae rfl oC (fun w=> by kernel_rfl)
instance Ox:Bld Tryz.prog 111 FW (fun i=> ([(0,5),(5,1),(6,1)]:List (Nat×Nat))[i]?):=Bld.struct (bytes:=56) (.agg (FW).toArray) [(0,5),(5,1),(6,1)] Tryz.underlying111 ae rfl oC (fun w=> by kernel_rfl)
instance Ok:Bld Tryz.prog 115 xi (fun i=> ([(0,3),(3,1),(4,1)]:List (Nat×Nat))[i]?):=Bld.struct (bytes:=40) (.agg (xi).toArray) [(0,3),(3,1),(4,1)] Tryz.underlying115 ae rfl oC (fun w=> by kernel_rfl)
instance MN:Bld Tryz.prog 117 Gw (fun i=> ([(0,5),(5,1),(6,1),(7,1),(8,1)]:List (Nat×Nat))[i]?):=Bld.struct (bytes:=72) (.agg (Gw).toArray) [(0,5),(5,1),(6,1),(7,1),(8,1)] Tryz.underlying117 ae rfl oC (fun w=> by kernel_rfl)
instance OF:Bld Tryz.prog 126 [.int .i64 0, .int .i64 0] (fun i=> ([(0,1),(1,1)]:List (Nat×Nat))[i]?):=Bld.struct (bytes:=16) (.agg #[.int .i64 0, .int .i64 0]) [(0,1),(1,1)] Tryz.underlying126 ae rfl oC (fun w=> by kernel_rfl)
instance Nn:Bld Tryz.prog 132 Gh (fun i=> ([(0,1),(1,9)]:List (Nat×Nat))[i]?):=Bld.struct (bytes:=96) (.agg (Gh).toArray) [(0,1),(1,9)] Tryz.underlying132 ae rfl oC (fun w=> by kernel_rfl)
instance OU:Bld Tryz.prog 171 JV (fun i=> ([(0,43),(43,10),(53,1),(54,5),(59,1),(60,1),(61,1),(62,1),(63,1)]:List (Nat×Nat))[i]?):=Bld.struct (bytes:=608) (.agg (JV).toArray) [(0,43),(43,10),(53,1),(54,5),(59,1),(60,1),(61,1),(62,1),(63,1)] Tryz.underlying171 ae rfl oC (fun w=> by kernel_rfl)
instance NM:Bld Tryz.prog 173 Ev (fun i=> some (i*1,1)):=Bld.array (bytes:=192) (.agg (Ev).toArray) Tryz.underlying173 ae rfl oC ae
instance NS:Bld Tryz.prog 176 [] (fun i=> ([]:List (Nat×Nat))[i]?):=Bld.struct (bytes:=0) (.agg #[]) [] Tryz.underlying176 ae rfl oC (fun w=> by kernel_rfl)
instance NJ:Bld Tryz.prog 196 DJ (fun i=> ([(0,5),(5,1)]:List (Nat×Nat))[i]?):=Bld.struct (bytes:=48) (.agg (DJ).toArray) [(0,5),(5,1)] Tryz.underlying196 ae rfl oC (fun w=> by kernel_rfl)
instance Ob:Bld Tryz.prog 222 Jz (fun i=> ([(0,1),(1,1),(2,1),(3,1),(4,1)]:List (Nat×Nat))[i]?):=Bld.struct (bytes:=72) (.agg (Jz).toArray) [(0,1),(1,1),(2,1),(3,1),(4,1)] Tryz.underlying222 ae rfl oC (fun w=> by kernel_rfl)
instance Ny:Bld Tryz.prog 225 yu (fun i=> ([(0,1),(1,1),(2,1),(3,1)]:List (Nat×Nat))[i]?):=Bld.struct (bytes:=40) (.agg (yu).toArray) [(0,1),(1,1),(2,1),(3,1)] Tryz.underlying225 ae rfl oC (fun w=> by kernel_rfl)
def dx (n m:Int):Int:=(if n < 0 then -(n+1) else n) % m
theorem gW (n m:Int) (h:0 < m):0≤dx n m:=Int.emod_nonneg _ ab
theorem jh (n m:Int) (h:0 < m):dx n m < m:=Int.emod_lt_of_pos _ h
theorem iw (n m:Int) (hm:1≤m) (h1:m≤4611686018427387904) (h2: -9223372036854775808≤n) (h3:n≤9223372036854775807):
  Spec Tryz.prog 33 (ba [.v (.int .i64 n), .v (.int .i64 m)] []) (aP (.v (.int .i64 (dx n m))) []):=by
 refine Spec.ofN Tryz.func33 rfl Tryz.ntmps33 rfl ?_
 refine am (be rfl (aj (aq (am (aX rfl (ai (bm _ _ rfl rfl rfl) (aj (aR rfl (fun hc6=> ?_) (fun hc6=> ?_)))))))))
 ·skip
  refine an (aX rfl (ai (aZ _ _ rfl rfl (bD ab)) ?_))
  refine ai (Cq _ rfl (bD ab)) ?_
  refine be rfl (aj (am (aX rfl (aX rfl (ai (dV _ _ rfl rfl ab (Int.tmod_eq_emod_of_nonneg ab)) ?_)))))
  refine be rfl (aj (aF (rB rfl rfl ?_)))
  unfold dx
  rw [if_pos hc6]
 refine aS (am (aX rfl (aX rfl (ai (dV _ _ rfl rfl ab (Int.tmod_eq_emod_of_nonneg ab)) ?_))))
 refine be rfl (aj (aF (rB rfl rfl ?_)))
 unfold dx
 rw [if_neg ab]

theorem rC (n m:Nat) (xs ys:List Int) (hn:xs.length=n) (hm:ys.length=m) (h1:n≤4611686018427387904) (h2:m≤4611686018427387904):
  Spec Tryz.prog 30 (ba [.sl n (co xs), .sl m (co ys)] []) (aP (.v (.bool (decide (xs=ys)))) []):=by
 subst hn;subst hm
 refine Spec.ofN Tryz.func30 rfl Tryz.ntmps30 rfl ?_
 refine am (cq rfl (aj (aq (am (eQ rfl (ai (bo _ aa rfl) (eQ rfl (ai (bo _ aa rfl) (ai (bU _ _ rfl rfl rfl) (aj ?_))))))))))
 refine aR rfl (fun hc10=> ?_) (fun hc10=> ?_)
 ·skip
  refine am (cq rfl (aj (aF (rz rfl rfl ?_))))
  exact decide_eq_false fun h=> by subst h;omega
 refine aS (aU fun K5 hK5=> ?_)
 refine am (be rfl (aj (ay ?_)))
 refine bs (α:=Nat) (fun k=> k≤xs.length∧xs.length=ys.length∧xs.take k=ys.take k) 26 [(0,_),(1,_)] [] (fun k=> [(5, .v (.int .i64 (k:Int)))]) (fun k=> []) [] [] (fun k=> xs.length - k) 0 ?_ (by
  refine Le.mkJ [] [] rfl ?_ ?_ trivial trivial ?_
  ·exact ⟨(by exact iS rfl),(by exact iS rfl),(cj ag),trivial⟩
  ·exact trivial
  kernel_rfl) ?_
 ·exact ⟨by omega,by omega,rfl⟩
 intro k hk
 obtain ⟨hk,hl,ht⟩:=hk
 refine aU fun K7 hK7=> ?_
 refine am (aX rfl (eQ rfl (ai (bo _ aa rfl) (ai (bm _ _ rfl rfl rfl) (aj (aR rfl (fun hc14=> ?_) (fun hc14=> ?_)))))))
 ·skip
  have hkx:k < xs.length:=by omega
  have hky:k < ys.length:=by omega
  refine bq (hK7 _ ?_)
  clear hK7;try clear K7
  refine aq (ay (aq ?_))
  refine aM (σ':=aD 26 [(0,_),(1,_),(5,_)] [] [] []) (by
   refine Le.mkJ [] [] rfl ?_ ?_ trivial trivial ?_
   ·exact ⟨(by exact iS rfl),(by exact iS rfl),(iV rfl),trivial⟩
   ·exact trivial
   kernel_rfl) ?_
  refine bL 9 [17,18,19,20,21,22,23,24,25] [] ae ae rfl (aK rfl) (rfl:_=[_,_,_,_,_,_,_,_,_]) (rfl:_=[]) ?_
  refine ap (_,[]) (fun τ=> aH _ nf) ?_
  refine fN rfl ?_
  refine ap (_,[]) (fun τ=> aH _ ea) ?_
  refine fO rfl ?_
  refine ap (_,[]) (fun τ=> bn _ _ aa rfl rfl _ rfl ab (by (simp only [aN,bg,bj];omega)) (by exact Nat.mul_one _)) ?_
  refine fS rfl ?_
  refine ap (_,[]) (fun τ=> bQ _ aa rfl (by exact eb _ _ ab) rfl) ?_
  refine fY rfl ?_
  refine ap (_,[]) (fun τ=> aH _ nf) ?_
  refine gz rfl ?_
  refine ap (_,[]) (fun τ=> aH _ ea) ?_
  refine hZ rfl ?_
  refine ap (_,[]) (fun τ=> bn _ _ aa rfl rfl _ rfl ab (by (simp only [aN,bg,bj];omega)) (by exact Nat.mul_one _)) ?_
  refine iX rfl ?_
  refine ap (_,[]) (fun τ=> bQ _ aa rfl (by exact eb _ _ ab) rfl) ?_
  refine jU rfl ?_
  refine ap (_,[]) (fun τ=> bU _ _ rfl rfl rfl) ?_
  refine kC rfl (bl ⟨rfl,?_⟩)
  refine aj (aR rfl (fun hc25=> ?_) (fun hc25=> ?_))
  ·skip
   refine am (cq rfl (aj (aF (rz rfl rfl ?_))))
   exact decide_eq_false fun h=> by subst h;exact hc25 rfl
  refine cu (an (aX rfl (ai (aZ _ _ rfl rfl (bD ab)) ?_)))
  refine be rfl (aJ (⟨k+1,?_,?_,?_⟩))
  ·refine ⟨by omega,hl,?_⟩
   rw [sP _ _ _ hkx,sP _ _ _ hky] at hc25
   rw [List.take_succ_eq_append_getElem hkx,List.take_succ_eq_append_getElem hky,ht,hc25]
  ·skip
   refine Le.mkJ [] [] rfl ?_ ?_ trivial trivial ?_
   ·exact ⟨(by exact iS rfl),(by exact iS rfl),(cj ag),trivial⟩
   ·exact trivial
   kernel_rfl
  omega
 refine bC (id (hK5 _ ?_))
 clear hK5;try clear K5
 refine am (cq rfl (aj (aF (rz rfl rfl ?_))))
 rw [List.take_of_length_le ab,List.take_of_length_le ab] at ht
 exact decide_eq_true ht

theorem oR (b:UInt8):Spec Tryz.prog 221 (ba [.v (.int .u8 (b.toNat:Int))] []) (aP (.v (.bool (nx b))) []):=by
 have h:=By b
 refine Spec.ofN Tryz.func221 rfl Tryz.ntmps221 rfl ?_
 refine am (cq rfl (aj (am (aX rfl (ai (ft _ _ rfl rfl rfl) (cL rfl (dv (fun hg5=> ?_) (fun hg5=> ?_))))))))
 ·skip
  have h:nx b=decide ((b.toNat:Int)≤122):=by rw [Bool.eq_iff_iff,h];simp [hg5]
  refine ax rfl rfl (aH _ ea) (ax rfl rfl (wc _ _ rfl rfl rfl) (ai (aC _ _ _ rfl bN) (cq rfl (aj (aF (rz rfl rfl ?_))))))
  exact h
 have h:nx b=false:=Gs h (fun x=> by omega)
 refine aO rfl rfl ah ?_
 refine aO rfl rfl ah ?_
 refine ai (aC _ _ _ rfl bN) (cq rfl (aj (aF (rz rfl rfl ?_))))
 exact h
theorem mT (b:UInt8):Spec Tryz.prog 222 (ba [.v (.int .u8 (b.toNat:Int))] []) (aP (.v (.bool (gG b))) []):=by
 have h:=vj b
 refine Spec.ofN Tryz.func222 rfl Tryz.ntmps222 rfl ?_
 refine am (cq rfl (aj (am (aX rfl (ai (ft _ _ rfl rfl rfl) (cL rfl (dv (fun hg5=> ?_) (fun hg5=> ?_))))))))
 ·skip
  have h:gG b=decide ((b.toNat:Int)≤57):=by rw [Bool.eq_iff_iff,h];simp [hg5]
  refine ax rfl rfl (aH _ ea) (ax rfl rfl (wc _ _ rfl rfl rfl) (ai (aC _ _ _ rfl bN) (cq rfl (aj (aF (rz rfl rfl ?_))))))
  exact h
 have h:gG b=false:=Gs h (fun x=> by omega)
 refine aO rfl rfl ah ?_
 refine aO rfl rfl ah ?_
 refine ai (aC _ _ _ rfl bN) (cq rfl (aj (aF (rz rfl rfl ?_))))
 exact h
theorem qQ (l:List Tx) (n:Nat) (hn:l.length=n) (h1:n≤1000) (t:Tx):Spec Tryz.prog 224 (ba [.sl n (fk l), .v (bt t)] []) (aP (.v (.bool (decide (t∈l)))) []):=by
 refine Spec.ofN Tryz.func224 rfl Tryz.ntmps224 rfl ?_
 refine am (cq rfl (aj (aU fun K2 hK2=> ?_)))
 refine am (be rfl (aj (ay ?_)))
 refine bs (α:=Nat) (fun k=> k≤n∧t∉l.take k) 18 [(0,_),(1,_)] [] (fun k=> [(5, .v (.int .i64 (k:Int)))]) (fun k=> []) [] [] (fun k=> n - k) 0 ?_ (by
  refine Le.mkJ [] [] rfl ?_ ?_ trivial trivial ?_
  ·exact ⟨(iS rfl),(iV rfl),(cj ag),trivial⟩
  ·exact trivial
  kernel_rfl) ?_
 ·exact ⟨Nat.zero_le _,by simp⟩
 intro k hk
 obtain ⟨hk,hnt⟩:=hk
 refine aU fun K4 hK4=> ?_
 refine am (aX rfl (eQ rfl (ai (bo _ aa rfl) (ai (bm _ _ rfl rfl rfl) (aj (aR rfl (fun hc9=> ?_) (fun hc9=> ?_)))))))
 ·skip
  refine bq (hK4 _ ?_)
  clear hK4;try clear K4
  refine aq (ay (am (eQ rfl (aX rfl (ai (bn _ _ aa rfl rfl _ rfl ab (by (simp only [aN,bg,bj,bv];omega)) (by exact Nat.mul_one _)) ?_)))))
  refine ai (bQ _ aa rfl (by exact jP _ _ ab) rfl) ?_
  refine eh rfl (ai (aV _ _ Tryz.underlying9 rfl rfl rfl) (aj (aR rfl (fun hc17=> ?_) (fun hc17=> ?_))))
  ·skip
   refine am (cq rfl (aj (aF (rz rfl rfl ?_))))
   exact decide_eq_true (hc17 ▸ ka ab)
  refine cu (an (aX rfl (ai (aZ _ _ rfl rfl (bD ab)) ?_)))
  refine be rfl (aJ (⟨k+1,?_,?_,?_⟩))
  ·exact ⟨by omega,kJ hnt ab hc17⟩
  ·skip
   refine Le.mkJ [] [] rfl ?_ ?_ trivial trivial ?_
   ·exact ⟨(iS rfl),(iV rfl),(cj ag),trivial⟩
   ·exact trivial
   kernel_rfl
  omega
 have hall:t∉l:=by rwa [List.take_of_length_le ab] at hnt
 refine bC (id (hK2 _ ?_))
 clear hK2;try clear K2
 refine am (cq rfl (aj (aF (rz rfl rfl ?_))))
 exact decide_eq_false hall
theorem sd (s:Tx) (at_:Nat) (h1:s.length≤100000) (ha:at_≤s.length):Spec Tryz.prog 194 (ba [.v (bt s), .v (.int .i64 (at_:Int))] []) (aP (.v (.int .i64 (lb s at_ false:Int))) []):=by
 refine Spec.ofN Tryz.func194 rfl Tryz.ntmps194 rfl ?_
 refine am (be rfl (aj (aU fun K2 hK2=> ?_)))
 refine ay ?_
 refine bs (α:=Nat) (fun k=> k≤s.length∧lb s k false=lb s at_ false) 41 [(0,_)] [] (fun k=> [(1, .v (.int .i64 (k:Int)))]) (fun k=> []) [] [] (fun k=> s.length - k) at_ ?_ (by
  refine Le.mkJ [] [] rfl ?_ ?_ trivial trivial ?_
  ·exact ⟨(iV rfl),(cj ag),trivial⟩
  ·exact trivial
  kernel_rfl) ?_
 ·exact ⟨ha,rfl⟩
 intro k hk
 obtain ⟨hk,hs⟩:=hk
 refine aU fun K3 hK3=> ?_
 refine am (aX rfl (eh rfl (ai (im _ Tryz.underlying9 rfl) (ai (bm _ _ rfl rfl rfl) (aj (aR rfl (fun hc9=> ?_) (fun hc9=> ?_)))))))
 ·skip
  obtain ⟨b,hb⟩:=kP (s:=s) (a:=k) ab
  have hbi:=LW b
  refine bq (hK3 _ ?_)
  clear hK3;try clear K3
  refine ay (am (eh rfl (aX rfl (ai (lQ _ _ Tryz.underlying9 rfl rfl (by assumption)) ?_))))
  refine be rfl (aj (am (aX rfl (ai (bA _ _ rfl rfl rfl) (aj (aR rfl (fun hc14=> ?_) (fun hc14=> ?_)))))))
  ·skip
   have hs:=(zW hb ab).symm.trans hs
   refine ay ?_
   refine bs (α:=Nat) (fun j=> k≤j∧j≤s.length∧lb s j true=lb s at_ false∧(j=k→j < s.length)) 41 [(0,_)] [] (fun j=> [(1, .v (.int .i64 (j:Int)))]) (fun j=> []) [] [] (fun j=> s.length - j) k ?_ (by
    refine Le.mkJ [] [] rfl ?_ ?_ trivial trivial ?_
    ·exact ⟨(iV rfl),(cj ag),trivial⟩
    ·exact trivial
    kernel_rfl) ?_
   ·exact ⟨Nat.le_refl _,by omega,hs,fun _=> by omega⟩
   intro j hj
   obtain ⟨hj1,hj2,hsj,hjk⟩:=hj
   refine aU fun K7 hK7=> ?_
   refine aU fun K8 hK8=> ?_
   refine an (aX rfl (eh rfl (ai (im _ Tryz.underlying9 rfl) (ai (bm _ _ rfl rfl rfl) (cL rfl (dv (fun hg19=> ?_) (fun hg19=> ?_)))))))
   ·skip
    obtain ⟨u,hu⟩:=kP (s:=s) (a:=j) ab
    have hui:=LW u
    refine ax rfl rfl (aH _ wX) (ax rfl rfl (aH _ ea) (ax rfl rfl (lQ _ _ Tryz.underlying9 rfl rfl (by assumption)) ?_))
    refine ax rfl rfl (bU _ _ rfl rfl rfl) (ai (aC _ _ _ rfl bN) (aJ (hK8 _ ?_)))
    clear hK8;try clear K8
    refine aR rfl (fun hc24=> ?_) (fun hc24=> ?_)
    ·skip
     refine bq (hK7 _ ?_)
     clear hK7;try clear K7
     refine ay (an (aX rfl (ai (aZ _ _ rfl rfl (bD ab)) ?_)))
     refine be rfl (aJ (⟨j+1,?_,?_,?_⟩))
     ·exact ⟨by omega,by omega,(He hu ab).symm.trans hsj,fun _=> by omega⟩
     ·skip
      refine Le.mkJ [] [] rfl ?_ ?_ trivial trivial ?_
      ·exact ⟨(iV rfl),(cj ag),trivial⟩
      ·exact trivial
      kernel_rfl
     omega
    have hjs:lb s j false=lb s at_ false:=by rw [← hsj,Ik hu ab]
    have hjk':k < j:=Nat.lt_of_le_of_ne hj1 fun e=> by subst e;rw [hb] at hu;obtain rfl:=Option.some.inj hu;omega
    refine bC (id (⟨j,?_,?_,?_⟩))
    ·exact ⟨hj2,hjs⟩
    ·skip
     refine Le.mkJ [] [] rfl ?_ ?_ trivial trivial ?_
     ·exact ⟨(iV rfl),(cj ag),trivial⟩
     ·exact trivial
     kernel_rfl
    omega
   have hjs:lb s j false=lb s at_ false:=by rw [← hsj,sy ab,sy ab]
   have hjk':k < j:=Nat.lt_of_le_of_ne hj1 fun e=> by have:=hjk e.symm;omega
   refine aO rfl rfl ah ?_
   refine aO rfl rfl ah ?_
   refine aO rfl rfl ah ?_
   refine aO rfl rfl ah ?_
   refine ai (aC _ _ _ rfl bN) (aJ (hK8 _ ?_))
   clear hK8;try clear K8
   refine aW rfl rfl (bC (id (⟨j,?_,?_,?_⟩)))
   ·exact ⟨hj2,hjs⟩
   ·skip
    refine Le.mkJ [] [] rfl ?_ ?_ trivial trivial ?_
    ·exact ⟨(iV rfl),(cj ag),trivial⟩
    ·exact trivial
    kernel_rfl
   omega
  refine am (aX rfl (ai (bA _ _ rfl rfl rfl) (cL rfl (dv (fun hg29=> ?_) (fun hg29=> ?_)))))
  ·skip
   have hs2:lb s (k+1) false=lb s at_ false:=(vC hb ab ab).symm.trans hs
   refine aO rfl rfl ah ?_
   refine aO rfl rfl ah ?_
   refine ai (aC _ _ _ rfl bN) (cL rfl (aO rfl rfl ah ?_))
   refine aO rfl rfl ah ?_
   refine ai (aC _ _ _ rfl bN) (aj (bJ rfl rfl ?_))
   refine aM (σ':=aD 41 [(0,_),(1,_)] [] [] []) kp ?_
   refine an (aX rfl (ai (aZ _ _ rfl rfl (bD ab)) ?_))
   refine be rfl (aJ (⟨k+1,?_,?_,?_⟩))
   ·exact ⟨by omega,hs2⟩
   ·skip
    refine Le.mkJ [] [] rfl ?_ ?_ trivial trivial ?_
    ·exact ⟨(iV rfl),(cj ag),trivial⟩
    ·exact trivial
    kernel_rfl
   omega
  refine ax rfl rfl (aH _ ea) (ax rfl rfl (bA _ _ rfl rfl rfl) (ai (aC _ _ _ rfl bN) (cL rfl (dv (fun hg33=> ?_) (fun hg33=> ?_)))))
  ·skip
   have hs2:lb s (k+1) false=lb s at_ false:=(vC hb ab ab).symm.trans hs
   refine aO rfl rfl ah ?_
   refine aO rfl rfl ah ?_
   refine ai (aC _ _ _ rfl bN) (aj (bJ rfl rfl ?_))
   refine aM (σ':=aD 41 [(0,_),(1,_)] [] [] []) kp ?_
   refine an (aX rfl (ai (aZ _ _ rfl rfl (bD ab)) ?_))
   refine be rfl (aJ (⟨k+1,?_,?_,?_⟩))
   ·exact ⟨by omega,hs2⟩
   ·skip
    refine Le.mkJ [] [] rfl ?_ ?_ trivial trivial ?_
    ·exact ⟨(iV rfl),(cj ag),trivial⟩
    ·exact trivial
    kernel_rfl
   omega
  refine ax rfl rfl (aH _ ea) (ax rfl rfl (bA _ _ rfl rfl rfl) (ai (aC _ _ _ rfl bN) (aj (aR rfl (fun hc36=> ?_) (fun hc36=> ?_)))))
  ·skip
   have hs2:lb s (k+1) false=lb s at_ false:=(vC hb ab ab).symm.trans hs
   refine aM (σ':=aD 41 [(0,_),(1,_)] [] [] []) kp ?_
   refine an (aX rfl (ai (aZ _ _ rfl rfl (bD ab)) ?_))
   refine be rfl (aJ (⟨k+1,?_,?_,?_⟩))
   ·exact ⟨by omega,hs2⟩
   ·skip
    refine Le.mkJ [] [] rfl ?_ ?_ trivial trivial ?_
    ·exact ⟨(iV rfl),(cj ag),trivial⟩
    ·exact trivial
    kernel_rfl
   omega
  have hs3:=(Ey hb ab ab).symm.trans hs
  refine aq ?_
  refine aM (σ':=aD 41 [(1,_)] [] [] []) kp ?_
  refine an (aX rfl (be rfl (aj (aF (rB rfl rfl ?_)))))
  rw [hs3]
 refine bC (id (hK2 _ ?_))
 clear hK2;try clear K2
 refine am (aX rfl (be rfl (aj (aF (rB rfl rfl ?_)))))
 rw [← hs,sy ab]
theorem qr (s:Tx) (h1:s.length≤100000) (hd: ∀ b∈s,gG b=true) (hv:lg s≤2147483647):Spec Tryz.prog 223 (ba [.v (bt s)] []) (aP (.v (.int .i64 (lg s:Int))) []):=by
 have hvt:=fun i=> yx s i
 refine Spec.ofN Tryz.func223 rfl Tryz.ntmps223 rfl ?_
 refine am (be rfl (aj (am (be rfl (aj (aU fun K3 hK3=> ?_))))))
 refine am (be rfl (aj (ay ?_)))
 refine bs (α:=Nat) (fun k=> k≤s.length) 22 [(0,_)] [] (fun k=> [(3, .v (.int .i64 (lg (s.take k):Int))),(4, .v (.int .i64 (k:Int)))]) (fun k=> []) [] [] (fun k=> s.length - k) 0 ?_ (by
  refine Le.mkJ [] [] rfl ?_ ?_ trivial trivial ?_
  ·exact ⟨(iV rfl),(cj ag),(cj ag),trivial⟩
  ·exact trivial
  kernel_rfl) ?_
 ·omega
 intro k hk
 refine aU fun K5 hK5=> ?_
 refine am (aX rfl (eh rfl (ai (im _ Tryz.underlying9 rfl) (ai (bm _ _ rfl rfl rfl) (aj (aR rfl (fun hc8=> ?_) (fun hc8=> ?_)))))))
 ·skip
  obtain ⟨b,hb⟩:=kP (s:=s) (a:=k) ab
  have hbi:=LW b
  have hbd:=(vj b).1 (hd b (List.mem_of_getElem? hb))
  have hvs:=yI hb
  have hv0:=hvt k
  have hv1:=hvt (k+1)
  have hvi:(10:Int)*(lg (s.take k):Int)+(b.toNat:Int) - 48=(lg (s.take (k+1)):Int):=by omega
  refine bq (hK5 _ ?_)
  clear hK5;try clear K5
  refine aq (ay (am (aX rfl (ai (AO _ _ rfl rfl (bD ab)) ?_))))
  refine eh rfl (aX rfl (ai (lQ _ _ Tryz.underlying9 rfl rfl (by assumption)) ?_))
  refine ai (sV _ Tryz.underlying5 Tryz.underlying3 rfl (bD ab)) ?_
  refine ai (aZ _ _ rfl rfl (bD ab)) ?_
  refine ai (jS _ _ rfl rfl (bD ab)) ?_
  refine be rfl (aj (am (aX rfl (ai (fU _ _ rfl rfl rfl) (aj (aW rfl (decide_eq_false ab) ?_))))))
  refine cu ?_
  refine aM (σ':=aD 22 [(0,_),(3,_),(4,_)] [] [] []) kp ?_
  refine an (aX rfl (ai (aZ _ _ rfl rfl (bD ab)) ?_))
  refine be rfl (aJ (⟨k+1,?_,?_,?_⟩))
  ·omega
  ·skip
   refine Le.mkJ [] [] rfl ?_ ?_ trivial trivial ?_
   ·exact ⟨(iV rfl),(cj ab),(cj ag),trivial⟩
   ·exact trivial
   kernel_rfl
  omega
 have he:s.take k=s:=List.take_of_length_le ab
 refine bC (id (hK3 _ ?_))
 clear hK3;try clear K3
 refine am (aX rfl (be rfl (aj (aF (rB rfl rfl ?_)))))
 rw [he]

theorem zX {p:UInt8→Bool} {c:UInt8}: ∀ {l:List UInt8},c∈l.takeWhile p→p c=true
 | [],h=> by simp at h
 | x::l,h=> by
  rw [List.takeWhile_cons] at h
  split at h
  ·rename_i hx
   rcases List.mem_cons.1 h with rfl | h
   ·exact hx
   exact zX h
  simp at h
def vc (c:UInt8):Bool:=nx c || gG c
theorem rF {s:Tx} {a:Nat} {b:UInt8} {t:Tk} (hb:s[a]? =some b) (h1:nx b=true) (h:qX (s.drop a) a=some t):lK vc s (a+1) - a≤10∧t=⟨1,a,(s.drop a).take (lK vc s (a+1) - a),0⟩:=by
 rw [tP hb]
 rw [gh hb,qX] at h
 simp only [h1,if_true] at h
 rw [show lK vc s (a+1) - a=(b::(s.drop (a+1)).takeWhile fun x=> nx x || gG x).length by unfold lK vc;rw [List.length_cons];omega]
 split at h
 ·cases h
 rename_i hl;exact ⟨by omega,(Option.some.inj h).symm⟩
theorem uO {s:Tx} {a:Nat} {b:UInt8} {t:Tk} (hb:s[a]? =some b) (h1:nx b=false) (h2:gG b=true) (h:qX (s.drop a) a=some t):
  (∀ c∈(s.drop a).take (lK gG s (a+1) - a),gG c=true)∧lg ((s.drop a).take (lK gG s (a+1) - a))≤2147483647∧t=⟨2,a,(s.drop a).take (lK gG s (a+1) - a),lg ((s.drop a).take (lK gG s (a+1) - a))⟩:=by
 rw [tP hb]
 rw [gh hb,qX] at h
 simp only [h1,h2,if_true] at h
 simp only [Bool.false_eq_true,if_false] at h
 split at h
 ·cases h
 rename_i hl
 refine ⟨fun c hc=> ?_,by omega,(Option.some.inj h).symm⟩
 rcases List.mem_cons.1 hc with rfl | hc
 ·exact h2
 exact zX hc
theorem vb {s:Tx} {a:Nat} {b:UInt8} {t:Tk} (hb:s[a]? =some b) (h1:nx b=false) (h2:gG b=false) (h:qX (s.drop a) a=some t):
  ((s.drop a).take 2∈Fo∧t=⟨3,a,(s.drop a).take 2,0⟩)∨((s.drop a).take 2∉Fo∧(s.drop a).take 1∈Iq∧t=⟨3,a,(s.drop a).take 1,0⟩):=by
 rw [gh hb,qX] at h
 simp only [h1,h2,Bool.false_eq_true,if_false] at h
 rw [gh hb]
 split at h
 ·rename_i hm;exact .inl ⟨hm,(Option.some.inj h).symm⟩
 rename_i hm
 split at h
 ·rename_i hs;exact .inr ⟨hm,hs,(Option.some.inj h).symm⟩
 cases h
theorem yp {s:Tx} {a:Nat} (h:a < s.length):(s.drop a).take (min (a+2) s.length - a)=(s.drop a).take 2:=by
 by_cases h2:a+2≤s.length
 ·congr 1;omega
 rw [List.take_of_length_le (by rw [List.length_drop];omega),List.take_of_length_le (by rw [List.length_drop];omega)]
theorem wh (s:Tx) (a:Nat) (h1:s.length≤100000) (ha:a < s.length) (t:Tk) (ht:qX (s.drop a) a=some t):
  Spec Tryz.prog 195 (ba [.v (bt s), .v (.int .i64 (a:Int))] []) (aP (.tup [.agg [.v (.int .i64 (t.k:Int)), .v (.int .i64 (t.a:Int)), .v (bt t.t), .v (.int .i64 (t.n:Int))], .v (.int .i64 0)]) []):=by
 obtain ⟨b,hb⟩:=kP ha
 have hwl:=sO (p:=vc) (s:=s) (a:=a+1) ab
 have hdl:=sO (p:=gG) (s:=s) (a:=a+1) ab
 refine Spec.ofN Tryz.func195 rfl Tryz.ntmps195 rfl ?_
 refine am (ai (aB (4,0) aa rfl rfl) (be rfl (aj (am (aX rfl (ai (aZ _ _ rfl rfl (bD ab)) ?_))))))
 refine be rfl (aj (aq (am (eh rfl (aX rfl (ai (lQ _ _ Tryz.underlying9 rfl rfl (by assumption)) ?_))))))
 refine ai (aI aa al (oR b) rfl rfl) ?_
 refine aj (aR rfl (fun hc15=> ?_) (fun hc15=> ?_))
 ·skip
  obtain ⟨htl,hte⟩:=rF hb hc15 ht
  refine aU fun K5 hK5=> ?_
  refine ay ?_
  refine bs (α:=Nat) (fun e=> a+1≤e∧e≤s.length∧lK vc s e=lK vc s (a+1)) 101 [(0,_),(1,_),(4,_)] [((4,0),_)] (fun e=> [(6, .v (.int .i64 (e:Int)))]) (fun e=> []) [] [] (fun e=> s.length - e) (a+1) ?_ (by
   refine Le.mkJ [] [] rfl ?_ ?_ trivial trivial ?_
   ·exact ⟨(iV rfl),(iV rfl),(iP rfl),(cj ag),trivial⟩
   ·exact ⟨(cp rfl rfl rfl),trivial⟩
   kernel_rfl) ?_
  ·exact ⟨Nat.le_refl _,by omega,rfl⟩
  intro e he
  obtain ⟨he1,he2,het⟩:=he
  refine aU fun K6 hK6=> ?_
  refine aU fun K7 hK7=> ?_
  refine an (aX rfl (eh rfl (ai (im _ Tryz.underlying9 rfl) (ai (bm _ _ rfl rfl rfl) (cL rfl (dv (fun hg20=> ?_) (fun hg20=> ?_)))))))
  ·skip
   obtain ⟨u,hu⟩:=kP (s:=s) (a:=e) ab
   refine ax rfl rfl (aH _ wX) (ax rfl rfl (aH _ ea) (ax rfl rfl (lQ _ _ Tryz.underlying9 rfl rfl (by assumption)) ?_))
   refine ax rfl rfl (aI aa al (oR u) rfl rfl) ?_
   refine ax rfl rfl (aH _ bN) (dv (fun hg25=> ?_) (fun hg25=> ?_))
   ·skip
    have hnx:lK vc s (e+1)=lK vc s (a+1):=(sN hu (by unfold vc;rw [hg25];rfl)).symm.trans het
    refine aO rfl rfl ah ?_
    refine aO rfl rfl ah ?_
    refine aO rfl rfl ah ?_
    refine aO rfl rfl ah ?_
    refine ax rfl rfl (aC _ _ _ rfl bN) (ai (aC _ _ _ rfl bN) (aJ (hK7 _ ?_)))
    clear hK7;try clear K7
    refine bJ rfl rfl (bq (hK6 _ ?_))
    clear hK6;try clear K6
    refine ay ?_
    refine aM (σ':=aD 101 [(0,_),(1,_),(4,_),(6,_)] [((4,0),_)] [] []) kp ?_
    refine an (aX rfl (ai (aZ _ _ rfl rfl (bD ab)) ?_))
    refine be rfl (aJ (⟨e+1,?_,?_,?_⟩))
    ·exact ⟨by omega,by omega,hnx⟩
    ·skip
     refine Le.mkJ [] [] rfl ?_ ?_ trivial trivial ?_
     ·exact ⟨(iV rfl),(iV rfl),(iP rfl),(cj ag),trivial⟩
     ·exact ⟨(cp rfl rfl rfl),trivial⟩
     kernel_rfl
    omega
   refine ax rfl rfl (aH _ wX) (ax rfl rfl (aH _ ea) (ax rfl rfl (lQ _ _ Tryz.underlying9 rfl rfl (by assumption)) ?_))
   refine ax rfl rfl (aI aa al (mT u) rfl rfl) ?_
   refine ax rfl rfl (aC _ _ _ rfl bN) (ai (aC _ _ _ rfl bN) (aJ (hK7 _ ?_)))
   clear hK7;try clear K7
   refine aR rfl (fun hc31=> ?_) (fun hc31=> ?_)
   ·skip
    have hnx:lK vc s (e+1)=lK vc s (a+1):=(sN hu (by unfold vc;rw [hg25,hc31];rfl)).symm.trans het
    refine bq (hK6 _ ?_)
    clear hK6;try clear K6
    refine ay ?_
    refine aM (σ':=aD 101 [(0,_),(1,_),(4,_),(6,_)] [((4,0),_)] [] []) kp ?_
    refine an (aX rfl (ai (aZ _ _ rfl rfl (bD ab)) ?_))
    refine be rfl (aJ (⟨e+1,?_,?_,?_⟩))
    ·exact ⟨by omega,by omega,hnx⟩
    ·skip
     refine Le.mkJ [] [] rfl ?_ ?_ trivial trivial ?_
     ·exact ⟨(iV rfl),(iV rfl),(iP rfl),(cj ag),trivial⟩
     ·exact ⟨(cp rfl rfl rfl),trivial⟩
     kernel_rfl
    omega
   have hfin:e=lK vc s (a+1):=(Dq hu (by unfold vc;rw [hg25,hc31];rfl)).symm.trans het
   refine bC (id (hK5 _ ?_))
   clear hK5;try clear K5
   refine aq (aq ?_)
   refine aM (σ':=aD 101 [(0,_),(1,_),(4,_),(6,_)] [((4,0),_)] [] []) kp ?_
   refine an (aX rfl (aX rfl (ai (jS _ _ rfl rfl (bD ab)) ?_)))
   refine ai (fU _ _ rfl rfl rfl) (aj (aW rfl (decide_eq_false ab) ?_))
   refine aS (am (aX rfl (eh rfl (aX rfl (aX rfl (ai (lH _ _ _ Tryz.underlying9 rfl _ _ (.lit rfl rfl) (.lit rfl rfl) ab ab rfl) ?_))))))
   refine ai (aL _ aa rfl (by exact kY)) ?_
   refine bF rfl rfl rfl rfl rfl rfl (be rfl (aj (aF ?_)))
   subst hte;subst hfin
   exact jT (.inr rfl) rfl (.cellA aa rfl rfl rfl) (.tmp kH) (Le.out [] [] (.tup rfl lz) rfl rfl rfl trivial trivial)
  have hfin:e=lK vc s (a+1):=(xA ab).symm.trans het
  refine aO rfl rfl ah ?_
  refine aO rfl rfl ah ?_
  refine aO rfl rfl ah ?_
  refine aO rfl rfl ah ?_
  refine aO rfl rfl ah ?_
  refine fE rfl rfl (fE rfl rfl (fE rfl rfl (fE rfl rfl (aO rfl rfl ah ?_))))
  refine ai (aC _ _ _ rfl bN) (aJ (hK7 _ ?_))
  clear hK7;try clear K7
  refine aW rfl rfl (bC (id (hK5 _ ?_)))
  clear hK5;try clear K5
  refine aq (aq ?_)
  refine aM (σ':=aD 101 [(0,_),(1,_),(4,_),(6,_)] [((4,0),_)] [] []) kp ?_
  refine an (aX rfl (aX rfl (ai (jS _ _ rfl rfl (bD ab)) ?_)))
  refine ai (fU _ _ rfl rfl rfl) (aj (aW rfl (decide_eq_false ab) ?_))
  refine aS (am (aX rfl (eh rfl (aX rfl (aX rfl (ai (lH _ _ _ Tryz.underlying9 rfl _ _ (.lit rfl rfl) (.lit rfl rfl) ab ab rfl) ?_))))))
  refine ai (aL _ aa rfl (by exact kY)) ?_
  refine bF rfl rfl rfl rfl rfl rfl (be rfl (aj (aF ?_)))
  subst hte;subst hfin
  exact jT (.inr rfl) rfl (.cellA aa rfl rfl rfl) (.tmp kH) (Le.out [] [] (.tup rfl lz) rfl rfl rfl trivial trivial)
 have hlb:=hc15
 refine aS (aq (am (eh rfl (aX rfl (ai (lQ _ _ Tryz.underlying9 rfl rfl (by assumption)) ?_)))))
 refine ai (aI aa al (mT b) rfl rfl) ?_
 refine aj (aR rfl (fun hc48=> ?_) (fun hc48=> ?_))
 ·skip
  obtain ⟨htd,htv,hte⟩:=uO hb hlb hc48 ht
  refine aU fun K16 hK16=> ?_
  refine ay ?_
  refine bs (α:=Nat) (fun e=> a+1≤e∧e≤s.length∧lK gG s e=lK gG s (a+1)) 101 [(0,_),(1,_),(4,_)] [((4,0),_)] (fun e=> [(6, .v (.int .i64 (e:Int)))]) (fun e=> []) [] [] (fun e=> s.length - e) (a+1) ?_ (by
   refine Le.mkJ [] [] rfl ?_ ?_ trivial trivial ?_
   ·exact ⟨(iV rfl),(iV rfl),(iP rfl),(cj ag),trivial⟩
   ·exact ⟨(cp rfl rfl rfl),trivial⟩
   kernel_rfl) ?_
  ·exact ⟨Nat.le_refl _,by omega,rfl⟩
  intro e he
  obtain ⟨he1,he2,het⟩:=he
  refine aU fun K17 hK17=> ?_
  refine aU fun K18 hK18=> ?_
  refine an (aX rfl (eh rfl (ai (im _ Tryz.underlying9 rfl) (ai (bm _ _ rfl rfl rfl) (cL rfl (dv (fun hg53=> ?_) (fun hg53=> ?_)))))))
  ·skip
   obtain ⟨u,hu⟩:=kP (s:=s) (a:=e) ab
   refine ax rfl rfl (aH _ wX) (ax rfl rfl (aH _ ea) (ax rfl rfl (lQ _ _ Tryz.underlying9 rfl rfl (by assumption)) ?_))
   refine ax rfl rfl (aI aa al (mT u) rfl rfl) ?_
   refine ai (aC _ _ _ rfl bN) (aJ (hK18 _ ?_))
   clear hK18;try clear K18
   refine aR rfl (fun hc58=> ?_) (fun hc58=> ?_)
   ·skip
    have hnx:lK gG s (e+1)=lK gG s (a+1):=(sN hu hc58).symm.trans het
    refine bq (hK17 _ ?_)
    clear hK17;try clear K17
    refine ay (an (aX rfl (ai (aZ _ _ rfl rfl (bD ab)) ?_)))
    refine be rfl (aJ (⟨e+1,?_,?_,?_⟩))
    ·exact ⟨by omega,by omega,hnx⟩
    ·skip
     refine Le.mkJ [] [] rfl ?_ ?_ trivial trivial ?_
     ·exact ⟨(iV rfl),(iV rfl),(iP rfl),(cj ag),trivial⟩
     ·exact ⟨(cp rfl rfl rfl),trivial⟩
     kernel_rfl
    omega
   have hfin:e=lK gG s (a+1):=(Dq hu hc58).symm.trans het
   refine bC (id (hK16 _ ?_))
   clear hK16;try clear K16
   refine am (eh rfl (aX rfl (aX rfl (ai (lH _ _ _ Tryz.underlying9 rfl _ _ (.lit rfl rfl) (.lit rfl rfl) ab ab rfl) ?_))))
   refine ai (aI aa al (qr ((s.drop a).take (e - a)) (by simp;omega) (by rw [hfin];exact htd) (by rw [hfin];exact htv)) rfl rfl) ?_
   refine be rfl (aj (aq (aq ?_)))
   refine aM (σ':=aD 101 [(0,_),(1,_),(4,_),(6,_),(7,_)] [((4,0),_)] [] []) kp ?_
   refine an (aX rfl (ai (bm _ _ rfl rfl rfl) (aj (aW rfl (decide_eq_false ab) ?_))))
   refine aS (am (aX rfl (eh rfl (aX rfl (aX rfl (ai (lH _ _ _ Tryz.underlying9 rfl _ _ (.lit rfl rfl) (.lit rfl rfl) ab ab rfl) ?_))))))
   refine aX rfl (ai (aL _ aa rfl (by exact kY)) ?_)
   refine bF rfl rfl rfl rfl rfl rfl (be rfl (aj (aF ?_)))
   subst hte;subst hfin
   exact jT (.inr rfl) rfl (.cellA aa rfl rfl rfl) (.tmp kH) (Le.out [] [] (.tup rfl lz) rfl rfl rfl trivial trivial)
  have hfin:e=lK gG s (a+1):=(xA ab).symm.trans het
  refine aO rfl rfl ah ?_
  refine aO rfl rfl ah ?_
  refine aO rfl rfl ah ?_
  refine aO rfl rfl ah ?_
  refine ai (aC _ _ _ rfl bN) (aJ (hK18 _ ?_))
  clear hK18;try clear K18
  refine aW rfl rfl (bC (id (hK16 _ ?_)))
  clear hK16;try clear K16
  refine am (eh rfl (aX rfl (aX rfl (ai (lH _ _ _ Tryz.underlying9 rfl _ _ (.lit rfl rfl) (.lit rfl rfl) ab ab rfl) ?_))))
  refine ai (aI aa al (qr ((s.drop a).take (e - a)) (by simp;omega) (by rw [hfin];exact htd) (by rw [hfin];exact htv)) rfl rfl) ?_
  refine be rfl (aj (aq (aq ?_)))
  refine aM (σ':=aD 101 [(0,_),(1,_),(4,_),(6,_),(7,_)] [((4,0),_)] [] []) kp ?_
  refine an (aX rfl (ai (bm _ _ rfl rfl rfl) (aj (aW rfl (decide_eq_false ab) ?_))))
  refine aS (am (aX rfl (eh rfl (aX rfl (aX rfl (ai (lH _ _ _ Tryz.underlying9 rfl _ _ (.lit rfl rfl) (.lit rfl rfl) ab ab rfl) ?_))))))
  refine aX rfl (ai (aL _ aa rfl (by exact kY)) ?_)
  refine bF rfl rfl rfl rfl rfl rfl (be rfl (aj (aF ?_)))
  subst hte;subst hfin
  exact jT (.inr rfl) rfl (.cellA aa rfl rfl rfl) (.tmp kH) (Le.out [] [] (.tup rfl lz) rfl rfl rfl trivial trivial)
 have hsy:=vb hb hlb hc48 ht
 refine aS (am (eh rfl (aX rfl (aX rfl (ai (aZ _ _ rfl rfl (bD ab)) ?_)))))
 refine eh rfl (ai (im _ Tryz.underlying9 rfl) (ai (CF _ _ rfl rfl rfl) (ai (lH _ _ _ Tryz.underlying9 rfl a (min (a+2) s.length) (.lit rfl rfl) (.lit rfl ab) ab ab (yp ha)) ?_)))
 refine oa rfl (aj (aq (aq ?_)))
 refine aM (σ':=aD 101 [(0,_),(1,_),(4,_),(6,_),(8,_)] [((4,0),_)] [] []) kp ?_
 refine an (ai (bh _ _ aa rfl ag (by (simp <;> rfl)) ah rfl) ?_)
 refine eh rfl (ai (aI aa al (qQ Fo 6 rfl ab ((s.drop a).take 2)) rfl rfl) ?_)
 refine aj (aR rfl (fun hc86=> ?_) (fun hc86=> ?_))
 ·skip
  have hte:t=⟨3,a,(s.drop a).take 2,0⟩:=hsy.elim (·.2) fun h=> absurd hc86 h.1
  refine am (aX rfl (eh rfl (ai (aL _ aa rfl (by exact kY)) ?_)))
  refine bF rfl rfl rfl rfl rfl rfl (be rfl (aj (aF ?_)))
  subst hte
  exact jT (.inr rfl) rfl (.cellA aa rfl rfl rfl) (.tmp kH) (Le.out [] [] (.tup rfl lz) rfl rfl rfl trivial trivial)
 obtain ⟨_,hs1,hte⟩:=hsy.resolve_left fun h=> hc86 h.1
 refine aS (am (eh rfl (aX rfl (aX rfl (ai (lH _ _ _ Tryz.underlying9 rfl a (a+1) (.lit rfl rfl) (.lit rfl rfl) ab ab (by rw [Nat.add_sub_cancel_left])) ?_)))))
 refine oa rfl (aj (aq (am (ai (bh _ _ aa rfl ag (by (simp <;> rfl)) ah rfl) ?_))))
 refine eh rfl (ai (aI aa al (qQ Iq 16 rfl ab ((s.drop a).take 1)) rfl rfl) ?_)
 refine aj (bJ rfl (decide_eq_true hs1) ?_)
 refine am (aX rfl (eh rfl (ai (aL _ aa rfl (by exact kY)) ?_)))
 refine bF rfl rfl rfl rfl rfl rfl (be rfl (aj (aF ?_)))
 subst hte
 exact jT (.inr rfl) rfl (.cellA aa rfl rfl rfl) (.tmp kH) (Le.out [] [] (.tup rfl lz) rfl rfl rfl trivial trivial)
theorem mH {f:Nat} {s:Tx} {a:Nat} {l:List Tk} (h:nn (f+1) s a=some l):(s.length≤a∧l=[⟨0,s.length,[],0⟩])∨(a < s.length∧ ∃ t m,qX (s.drop a) a=some t∧nn f s (lb s (a+t.t.length) false)=some m∧l=t::m):=by
 unfold nn at h
 split at h
 ·exact .inl ⟨by assumption,(Option.some.inj h).symm⟩
 split at h
 ·cases h
 split at h
 ·cases h
 rename_i t ht _ m hm
 exact .inr ⟨by omega,t,m,ht,hm,(Option.some.inj h).symm⟩
theorem ua {s:Tx} {a:Nat} {t:Tk} (ha:a < s.length) (h:qX (s.drop a) a=some t):0 < t.t.length∧a+t.t.length≤s.length:=by
 obtain ⟨b,hb⟩:=kP ha
 have key: ∀ k,0 < k→0 < ((s.drop a).take k).length∧a+((s.drop a).take k).length≤s.length:=fun k hk=> by rw [List.length_take,List.length_drop];omega
 cases h1:nx b with
 | true=> obtain ⟨_,rfl⟩:=rF hb h1 h;exact key _ (by have:=sO (p:=vc) (s:=s) (a:=a+1) ab;omega)
 | false=>
  cases h2:gG b with
  | true=> obtain ⟨_,_,rfl⟩:=uO hb h1 h2 h;exact key _ (by have:=sO (p:=gG) (s:=s) (a:=a+1) ab;omega)
  | false=>
   rcases vb hb h1 h2 h with ⟨_,rfl⟩ | ⟨_,_,rfl⟩
   ·exact key _ ab
   exact key _ ab
def HO (s:Tx) (l:List Tk) (z:Nat×List Tk):Prop:=z.1≤s.length∧z.2.length≤z.1∧ ∃ f m,nn f s z.1=some m∧l=z.2++m
theorem ux (s:Tx) (h1:s.length≤100000) (l:List Tk) (hl:FJ s=some l):
  Spec Tryz.prog 159 (ba [.v (bt s)] []) (aP (.tup [.sl l.length (sM l), .v (.int .i64 0), .v (.int .i64 0)]) []):=by
 have hs0:=wx (s:=s) (a:=0) (Nat.zero_le _) false
 refine Spec.ofN Tryz.func159 rfl Tryz.ntmps159 rfl ?_
 refine am (ai (bp _ fA) (be rfl (be rfl (aj (am (ai (tA (5,0) _ 225 4 rfl rfl) ?_))))))
 refine aj (am (eh rfl (ai (aI aa al (sd s 0 h1 (Nat.zero_le _)) rfl rfl) ?_)))
 refine be rfl (aj (aU fun K4 hK4=> ?_))
 refine ay ?_
 refine bs (α:=Nat×List Tk) (fun z=> HO s l z) 42 [(0,_)] [] (fun z=> [(6, .v (.int .i64 (z.1:Int))),(5, .ref (5,0) 0 z.2.length)]) (fun z=> [((5,0), .row 225 4 (sM z.2))]) [] [] (fun z=> s.length - z.1) (lb s 0 false,[]) ?_ (by
  refine Le.mkJ [] [] rfl ?_ ?_ trivial trivial ?_
  ·exact ⟨(iV rfl),(cj ag),(cP rfl ag),trivial⟩
  ·exact ⟨(fi rfl rfl rfl ag),trivial⟩
  kernel_rfl) ?_
 ·exact ⟨hs0.2,Nat.zero_le _,s.length+1,l,by rw [← hl];unfold FJ lb;rw [List.drop_zero,Nat.zero_add],rfl⟩
 intro z hz
 obtain ⟨hz1,hz2,f,m,hf,hlm⟩:=hz
 obtain ⟨f,rfl⟩: ∃ g,f=g+1:=by cases f with | zero=> (simp [nn] at hf) | succ g=> exact ⟨g,rfl⟩
 refine aU fun K5 hK5=> ?_
 refine am (aX rfl (eh rfl (ai (im _ Tryz.underlying9 rfl) (ai (bm _ _ rfl rfl rfl) (aj (aR rfl (fun hc14=> ?_) (fun hc14=> ?_)))))))
 ·skip
  obtain ⟨_,t,m',ht,hm',hm⟩:=(mH hf).resolve_left fun h=> by omega
  obtain ⟨htl,hta⟩:=ua ab ht
  have hsk:=wx (s:=s) (a:=z.1+t.t.length) hta false
  have hlen:(z.2++[t]).length=z.2.length+1:=by simp
  refine bq (hK5 _ ?_)
  clear hK5;try clear K5
  refine ay (am (eh rfl (aX rfl (ai (aI aa al (wh s z.1 h1 ab t ht) rfl rfl) ?_))))
  refine ai (aH _ tK) (ai (cm _ rfl pD) (ai (cm _ rfl eo) (ai (aB (7,0) aa rfl rfl) (bF rfl rfl rfl rfl rfl rfl (be rfl (aj (aq (am (aX rfl (ai (bU (r:=false) _ _ rfl rfl rfl) ?_))))))))))
  refine aj (aW rfl rfl (aS (aq ?_)))
  refine aM (σ':=aD 42 [(0,_),(5,_),(6,_),(7,_)] [((5,0),_),((7,0),_)] [] []) kp ?_
  refine an (gF rfl (ai (az _ aa rfl rfl rfl rfl) (ai (bh _ _ aa rfl ag (by (simp <;> rfl)) ah rfl) ?_)))
  refine ai (du (28,0) _ _ aa rfl rfl (bu _).symm (.sl rfl) ab rfl (uS _ _) hlen.symm) ?_
  refine fh rfl (aj (an (eh rfl (aX rfl (bb rfl rfl rfl (ai (aG _ aa rfl rfl fw) (ai (im _ Tryz.underlying9 rfl) (ai (aZ _ _ rfl rfl (bD ab)) ?_))))))))
  refine ai (aI aa al (sd s (z.1+t.t.length) h1 hta) rfl rfl) ?_
  refine be rfl (aJ (⟨(lb s (z.1+t.t.length) false,z.2++[t]),?_,?_,?_⟩))
  ·exact ⟨hsk.2,by simp only;omega,f,m',hm',by rw [hlm,hm];simp⟩
  ·skip
   refine Le.mkJ [((5,0),(28,0))] [] rfl ?_ ?_ trivial trivial ?_
   ·exact ⟨(by repeat' (exact Lv.v)),(cj ag),(cP rfl ag),trivial⟩
   ·exact ⟨(fi rfl rfl rfl ag),trivial⟩
   kernel_rfl
  simp only;omega
 obtain ⟨_,hm⟩:=(mH hf).resolve_right fun h=> by omega
 have hlen:(z.2++[(⟨0,s.length,[],0⟩:Tk)]).length=z.2.length+1:=by simp
 rw [hm] at hlm;subst hlm
 refine bC (id (hK4 _ ?_))
 clear hK4;try clear K4
 refine am (gF rfl (eh rfl (ai (im _ Tryz.underlying9 rfl) (ai (aL _ aa rfl (by exact kY)) ?_))))
 refine ai (bh _ _ aa rfl ag (by (simp <;> rfl)) ah rfl) ?_
 refine ai (du (41,0) _ _ aa rfl rfl (bu _).symm (.sl rfl) ab rfl (uS _ ⟨0,s.length,[],0⟩) hlen.symm) ?_
 exact fh rfl (be rfl (be rfl (aj (aF (wA (.inr rfl) rfl (.tmp dT) (.tmp kH) (.tmp kH) (Le.out [] [(41,0)] (.tup rfl (au (fe rfl rfl (bu _).symm rfl) lz)) rfl rfl rfl tr trivial))))))
end Go.Proofs.YtmjnackchaahbaaGreat
