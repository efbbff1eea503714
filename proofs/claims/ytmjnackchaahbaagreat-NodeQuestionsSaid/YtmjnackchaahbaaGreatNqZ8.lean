/- part 8 -/
import Derived.Test.YtmjnackchaahbaaGreatNqZ7
set_option linter.unusedSimpArgs false
set_option linter.unusedVariables false
namespace Go.Proofs.YtmjnackchaahbaaGreat
open Go.RowKit

def fy:Ex→Nat
 | .int _=> 1 | .bool _=> 2 | .var _=> 1 | .name _=> 1
 | .draw e=> if fy e=1 then 1 else 0
 | .neg e=> if fy e=1 then 1 else 0
 | .not e=> if fy e=2 then 2 else 0
 | .bin o a b=> if fy a=1∧fy b=1 then (match o with | .add=> 1 | .sub=> 1 | .mul=> 1 | .div=> 1 | _=> 2) else 0
 | .and a b=> if fy a=2∧fy b=2 then 2 else 0
 | .or a b=> if fy a=2∧fy b=2 then 2 else 0
def po (e:Ex):Bool:=Nat.beq (fy e) 1
mutual
def yn:Sm→Bool
 | .assign _ e=> po e
 | .send t _ a b=> po t && po a && po b
 | .timer _=> true | .cancel _=> true | .sync=> true | .stop=> true
 | .reply a b=> po a && po b
 | .fail e=> po e
 | .loop c b=> Nat.beq (fy c) 2 && qF b
 | .ite c a b=> Nat.beq (fy c) 2 && qF a && qF b
def qF:Bk→Bool
 | .nil=> true
 | .cons s b=> yn s && qF b
end
def fq (nv:Nat):Ex→Bool
 | .int n=> decide (-2147483647≤n) && decide (n≤2147483647)
 | .bool _=> true
 | .var i=> decide (i < nv)
 | .name k=> decide (k < 9)
 | .draw e=> fq nv e | .neg e=> fq nv e | .not e=> fq nv e
 | .bin _ a b=> fq nv a && fq nv b
 | .and a b=> fq nv a && fq nv b
 | .or a b=> fq nv a && fq nv b
mutual
def mx (nv:Nat):Sm→Bool
 | .assign i e=> decide (i < nv) && fq nv e
 | .send t k a b=> decide (k < 30) && fq nv t && fq nv a && fq nv b
 | .timer k=> decide (k < 8) | .cancel k=> decide (k < 8) | .sync=> true | .stop=> true
 | .reply a b=> fq nv a && fq nv b
 | .fail e=> fq nv e
 | .loop c b=> fq nv c && qa nv b
 | .ite c a b=> fq nv c && qa nv a && qa nv b
def qa (nv:Nat):Bk→Bool
 | .nil=> true
 | .cons s b=> mx nv s && qa nv b
end
theorem dC (nv:Nat): ∀ e,fq nv e=true→ic nv e
 | .int n,h=> by simpa [fq,ic] using h
 | .bool _,_=> trivial
 | .var i,h=> by simpa [fq,ic] using h
 | .name k,h=> by simpa [fq,ic] using h
 | .draw e,h=> dC nv e h
 | .neg e,h=> dC nv e h
 | .not e,h=> dC nv e h
 | .bin _ a b,h=> by simp only [fq,Bool.and_eq_true] at h;exact ⟨dC nv a h.1,dC nv b h.2⟩
 | .and a b,h=> by simp only [fq,Bool.and_eq_true] at h;exact ⟨dC nv a h.1,dC nv b h.2⟩
 | .or a b,h=> by simp only [fq,Bool.and_eq_true] at h;exact ⟨dC nv a h.1,dC nv b h.2⟩
mutual
theorem CM (nv:Nat): ∀ s,mx nv s=true→gK nv s
 | .assign i e,h=> by simp only [mx,Bool.and_eq_true,decide_eq_true_eq] at h;exact ⟨h.1,dC nv e h.2⟩
 | .send t k a b,h=> by simp only [mx,Bool.and_eq_true,decide_eq_true_eq] at h;exact ⟨h.1.1.1,dC nv t h.1.1.2,dC nv a h.1.2,dC nv b h.2⟩
 | .timer k,h=> by simpa [mx,gK] using h
 | .cancel k,h=> by simpa [mx,gK] using h
 | .sync,_=> by simp [gK]
 | .stop,_=> by simp [gK]
 | .reply a b,h=> by simp only [mx,Bool.and_eq_true] at h;exact ⟨dC nv a h.1,dC nv b h.2⟩
 | .fail e,h=> by simp only [mx] at h;exact dC nv e h
 | .loop c b,h=> by simp only [mx,Bool.and_eq_true] at h;exact ⟨dC nv c h.1,lR nv b h.2⟩
 | .ite c a b,h=> by simp only [mx,Bool.and_eq_true] at h;exact ⟨dC nv c h.1.1,lR nv a h.1.2,lR nv b h.2⟩
theorem lR (nv:Nat): ∀ b,qa nv b=true→lj nv b
 | .nil,_=> by simp [lj]
 | .cons s b,h=> by simp only [qa,Bool.and_eq_true] at h;exact ⟨CM nv s h.1,lR nv b h.2⟩
end
structure vC (l:List (Nat×Bk)) (nv:Nat):Prop where
 ok: ∀ p∈l,lj nv p.2
 wl: ∀ p∈l,qF p.2=true
 n:(bV l 0).length≤400
 h: ∀ p∈l,p.1 < 40
 nd:(l.map (·.1)).Nodup
 d: ∀ k∈ms l,k≤8
def srcB (l:List (Nat×Bk)) (nv:Nat):Bool:=l.all (fun p=> qa nv p.2 && qF p.2 && decide (p.1 < 40)) && decide ((bV l 0).length≤400) && decide (l.map (·.1)).Nodup && (ms l).all fun k=> decide (k≤8)
theorem gp {l:List (Nat×Bk)} {nv:Nat} (h:srcB l nv=true):vC l nv:=by
 simp only [srcB,Bool.and_eq_true,List.all_eq_true,decide_eq_true_eq] at h
 exact ⟨fun p hp=> lR nv _ (h.1.1.1 p hp).1.1,fun p hp=> (h.1.1.1 p hp).1.2,h.1.1.2,fun p hp=> (h.1.1.1 p hp).2,h.1.2,h.2⟩
theorem srcOk0:vC ons0 (Do++AC).length:=gp ae
theorem srcOk1:vC ons1 (zx++zR).length:=gp ae
theorem srcOk2:vC ons2 (Ad++Bi).length:=gp ae
theorem srcOk3:vC ons3 (Dq++Cf).length:=gp ae
theorem srcOk4:vC ons4 (BF++Ak).length:=gp ae
theorem srcOk5:vC ons5 (Dj++BZ).length:=gp ae
theorem srcOk6:vC ons6 (Br++AM).length:=gp ae
theorem srcOk7:vC ons7 (Ai++Au).length:=gp ae
theorem srcOk8:vC ons8 (Dh++Ck).length:=gp ae
theorem srcOk9:vC ons9 (zB++AT).length:=gp ae
theorem srcOk10:vC ons10 (vk++uF).length:=gp ae
theorem srcOk11:vC ons11 (tY++vt).length:=gp ae
def wP (l:List (Nat×Bk)) (i:Nat):Nat:=(ms l).getD i 0
theorem sQ (l:List (Nat×Bk)):Fit (wP l) 0 (ms l):=fun k d h=> by
 unfold wP
 rw [Nat.zero_add,List.getD_eq_getElem?_getD,h];rfl

abbrev DS:=List Int×Bool×Bool
def jJ (n:Nat) (d:Int) (s:DS) (j:Nat):DS:=
 if n≤j then s else if s.1.getD j (-1) < 0 then (s.1.set j d,s.2.1,true) else if s.1.getD j (-1)≠d then (s.1,false,s.2.2) else s
def cZ (C:List eW) (i:Nat):eW:=C.getD i { op:= .stop }
def Fs (C:List eW) (i:Nat) (s:DS):Int:=max (s.1.getD i (-1) - (cZ C i).op.pops) 0+(cZ C i).op.puts
def lw (C:List eW) (s:DS) (i:Nat):DS:=
 if s.1.getD i (-1) < 0 then s
 else (dR i (cZ C i)).foldl (jJ C.length (Fs C i s)) (s.1,if s.1.getD i (-1) - (cZ C i).op.pops < 0 then false else s.2.1,s.2.2)
def dE (C:List eW) (s:List Int×Bool) (k:Nat):DS:=(List.range k).foldl (lw C) (s.1,s.2,false)
theorem qf (C:List eW) (s:List Int×Bool) (k:Nat):dE C s (k+1)=lw C (dE C s k) k:=by simp [dE,List.range_succ,List.foldl_append]
def jT (C:List eW):Nat→List Int×Bool→List Int×Bool
 | 0,s=> s
 | f+1,s=> if (dE C s C.length).2.2=true then jT C f ((dE C s C.length).1,(dE C s C.length).2.1) else ((dE C s C.length).1,(dE C s C.length).2.1)
def neg (l:List Int):Nat:=l.countP fun x=> decide (x < 0)
theorem Ft {l:List Int} {j:Nat} {d:Int} (hj:j < l.length) (h:l.getD j (-1) < 0) (hd:0≤d):neg (l.set j d)+1=neg l:=by
 unfold neg
 have e:l=l.take j++l[j]::l.drop (j+1):=by rw [List.getElem_cons_drop hj,List.take_append_drop]
 have h':l[j] < 0:=by rwa [List.getD_eq_getElem?_getD,List.getElem?_eq_getElem hj] at h
 rw [List.set_eq_take_append_cons_drop,if_pos hj]
 conv=> rhs;rw [e]
 simp only [List.countP_append,List.countP_cons]
 rw [decide_eq_true h',decide_eq_false (show ¬ d < 0 by omega)]
 simp
 omega
structure DI (D:Nat→Nat) (n:Nat) (s:DS):Prop where
 len:s.1.length=n
 val: ∀ i,i < n→s.1.getD i (-1)= -1∨s.1.getD i (-1)=(D i:Int)
 ok:s.2.1=true
theorem kA {l:List Int} {j i:Nat} {d:Int}:(l.set j d).getD i (-1)=if i=j∧j < l.length then d else l.getD i (-1):=by
 simp only [List.getD_eq_getElem?_getD,List.getElem?_set]
 by_cases h:j=i
 ·subst h
  by_cases h2:j < l.length
  ·simp [h2]
  simp [h2]
 simp [h,Ne.symm h]
theorem FQ {D:Nat→Nat} {n:Nat} {d:Int} {s:DS} {j:Nat} (h:DI D n s) (hd:d=(D j:Int)):DI D n (jJ n d s j)∧neg (jJ n d s j).1≤neg s.1∧((jJ n d s j).2.2=true→s.2.2=true∨neg (jJ n d s j).1 < neg s.1):=by
 unfold jJ
 split
 ·exact ⟨h,Nat.le_refl _,fun e=> .inl e⟩
 rename_i hj
 split
 ·rename_i hn
  have:=Ft (l:=s.1) (j:=j) (d:=d) (by rw [h.len];omega) hn ab
  refine ⟨⟨by rw [List.length_set];exact h.len,fun i hi=> ?_,h.ok⟩,by simp only;omega,fun _=> .inr (by simp only;omega)⟩
  simp only
  rw [kA]
  split
  ·rename_i hc;rw [hc.1];exact .inr hd
  exact h.val i hi
 rename_i hn
 have hv:=h.val j ab
 have:s.1.getD j (-1)=d:=by rw [hd];rcases hv with hv | hv <;> omega
 rw [if_neg (fun hc=> hc this)]
 exact ⟨h,Nat.le_refl _,fun e=> .inl e⟩
theorem og {D:Nat→Nat} {n:Nat} {d:Int}: ∀ (l:List Nat) {s:DS},DI D n s→(∀ j∈l,d=(D j:Int))→DI D n (l.foldl (jJ n d) s)∧neg (l.foldl (jJ n d) s).1≤neg s.1∧((l.foldl (jJ n d) s).2.2=true→s.2.2=true∨neg (l.foldl (jJ n d) s).1 < neg s.1)
 | [],s,h,_=> ⟨h,Nat.le_refl _,fun e=> .inl e⟩
 | j::l,s,h,hd=> by
  obtain ⟨a1,a2,a3⟩:=FQ h (hd j (by simp))
  obtain ⟨b1,b2,b3⟩:=og l a1 fun j hj=> hd j (by simp [hj])
  simp only [List.foldl_cons]
  refine ⟨b1,by omega,fun e=> ?_⟩
  rcases b3 e with e | e
  ·rcases a3 e with e | e
   ·exact .inl e
   exact .inr ab
  exact .inr ab
section
variable {D:Nat→Nat} {nv:Nat} {C:List eW} (hC:Good D nv 0 (C.length - 1) 0 C)
include hC
theorem zD {s:DS} {i:Nat} (hi:i < C.length) (h:DI D C.length s):DI D C.length (lw C s i)∧neg (lw C s i).1≤neg s.1∧((lw C s i).2.2=true→s.2.2=true∨neg (lw C s i).1 < neg s.1):=by
 unfold lw
 split
 ·exact ⟨h,Nat.le_refl _,fun e=> .inl e⟩
 rename_i hn
 have hx:C[i]? =some (cZ C i):=by unfold cZ;rw [List.getD_eq_getElem?_getD,List.getElem?_eq_getElem hi];rfl
 obtain ⟨_,g2,g3⟩:=hC i _ hx
 rw [Nat.zero_add] at g2 g3
 have hv:s.1.getD i (-1)=(D i:Int):=by rcases h.val i hi with hv | hv <;> omega
 have hdo:Fs C i s=((D i - (cZ C i).op.pops+(cZ C i).op.puts:Nat):Int):=by unfold Fs;rw [hv];omega
 rw [if_neg (by rw [hv];omega)]
 exact og _ ⟨h.len,h.val,h.ok⟩ fun j hj=> by rw [hdo,(g3 j hj).2.2]
theorem ls {s:List Int×Bool} (h:DI D C.length (s.1,s.2,false)): ∀ k,k≤C.length→DI D C.length (dE C s k)∧neg (dE C s k).1≤neg s.1∧((dE C s k).2.2=true→neg (dE C s k).1 < neg s.1)
 | 0,_=> ⟨h,Nat.le_refl _,fun e=> by simp [dE] at e⟩
 | k+1,hk=> by
  obtain ⟨a1,a2,a3⟩:=ls h k ab
  obtain ⟨b1,b2,b3⟩:=zD hC ab a1 (i:=k)
  rw [qf]
  refine ⟨b1,by omega,fun e=> ?_⟩
  rcases b3 e with e | e
  ·have:=a3 e;omega
  omega
theorem uD: ∀ f (s:List Int×Bool),DI D C.length (s.1,s.2,false)→DI D C.length ((jT C f s).1,(jT C f s).2,false)
 | 0,s,h=> h
 | f+1,s,h=> by
  obtain ⟨a1,_,_⟩:=ls hC h C.length (Nat.le_refl _)
  unfold jT
  split
  ·exact uD f _ ⟨a1.len,a1.val,a1.ok⟩
  exact ⟨a1.len,a1.val,a1.ok⟩
end
theorem wD {C:List eW} {f:Nat} {s:List Int×Bool} (h:(dE C s C.length).2.2=true):jT C (f+1) s=jT C f ((dE C s C.length).1,(dE C s C.length).2.1):=by rw [jT,if_pos h]
theorem vX {C:List eW} {f:Nat} {s:List Int×Bool} (h:(dE C s C.length).2.2=false):jT C (f+1) s=((dE C s C.length).1,(dE C s C.length).2.1):=by rw [jT,if_neg (by simp [h])]
def jy (C:List eW) (e:Int):List Int×Bool:=if e < 0∨(C.length:Int)≤e then (List.replicate C.length (-1),true) else jT C (C.length+1) ((List.replicate C.length (-1)).set e.toNat 0,true)
theorem qR {D:Nat→Nat} {nv:Nat} {C:List eW} (hC:Good D nv 0 (C.length - 1) 0 C) {e:Int} (he:0≤e→e < C.length→D e.toNat=0):DI D C.length ((jy C e).1,(jy C e).2,false):=by
 have hr: ∀ i,(List.replicate C.length (-1:Int)).getD i (-1)= -1:=fun i=> by rw [List.getD_eq_getElem?_getD,List.getElem?_replicate];split <;> rfl
 unfold jy
 split
 ·exact ⟨by simp,fun i _=> .inl (hr i),rfl⟩
 refine uD hC _ _ ⟨by simp,fun i hi=> ?_,rfl⟩
 simp only
 rw [kA]
 split
 ·rename_i hc
  right
  rw [hc.1,he ab ab];rfl
 exact .inl (hr i)
def ld (C:List eW) (out:List Int) (k:Nat):Int:=(List.range k).foldl (fun m i=> if 0≤out.getD i (-1) then max (max m (out.getD i (-1))) (out.getD i (-1) - (cZ C i).op.pops+(cZ C i).op.puts) else m) 0
theorem pP (C:List eW) (out:List Int) (k:Nat):ld C out (k+1)=if 0≤out.getD k (-1) then max (max (ld C out k) (out.getD k (-1))) (out.getD k (-1) - (cZ C k).op.pops+(cZ C k).op.puts) else ld C out k:=by simp [ld,List.range_succ,List.foldl_append]
theorem FO (o:Opc):o.puts≤1:=by cases o <;> decide
theorem oe {C:List eW} {out:List Int} {D:Nat→Nat} {n:Nat} {ok ch:Bool} (h:DI D n (out,ok,ch)) {B:Nat} (hB: ∀ i,i < n→D i≤B): ∀ k,k≤n→0≤ld C out k∧ld C out k≤B+1
 | 0,_=> by simp [ld];omega
 | k+1,hk=> by
  obtain ⟨h1,h2⟩:=oe (C:=C) h hB k ab
  have h3:=hB k ab
  have h4:out.getD k (-1)= -1∨out.getD k (-1)=(D k:Int):=h.val k ab
  have h5:=FO (cZ C k).op
  have h6:=pP C out k
  rw [h6]
  rcases h4 with h4 | h4 <;> rw [h4] <;> split <;> omega
def nk (l:List (Nat×Nat)):List Int:=l.foldl (fun m p=> m.set p.1 (p.2:Int)) (List.replicate 40 (-1))
theorem Am (l:List (Nat×Nat)):(nk l).length=40:=by
 unfold nk
 have: ∀ (l:List (Nat×Nat)) (m:List Int),m.length=40→(l.foldl (fun m p=> m.set p.1 (p.2:Int)) m).length=40:=by
  intro l
  induction l with
  | nil=> exact fun m h=> h
  | cons p l ih=> exact fun m h=> ih _ (by rw [List.length_set];exact h)
 exact this l _ (by simp)
theorem Cl: ∀ (l:List (Nat×Nat)) (h:Nat),(nk l).getD h (-1)= -1∨ ∃ e,(h,e)∈l∧(nk l).getD h (-1)=(e:Int):=by
 unfold nk
 have key: ∀ (l:List (Nat×Nat)) (m:List Int) (h:Nat),(l.foldl (fun m p=> m.set p.1 (p.2:Int)) m).getD h (-1)=m.getD h (-1)∨ ∃ e,(h,e)∈l∧(l.foldl (fun m p=> m.set p.1 (p.2:Int)) m).getD h (-1)=(e:Int):=by
  intro l
  induction l with
  | nil=> exact fun m h=> .inl rfl
  | cons p l ih=>
   intro m h
   simp only [List.foldl_cons]
   rcases ih (m.set p.1 (p.2:Int)) h with e | ⟨e,h1,h2⟩
   ·rw [e,kA]
    split
    ·rename_i hc
     exact .inr ⟨p.2,by rw [hc.1];exact List.mem_cons_self,rfl⟩
    exact .inl rfl
   exact .inr ⟨e,List.mem_cons_of_mem _ h1,h2⟩
 intro l h
 rcases key l (List.replicate 40 (-1)) h with e | e
 ·left
  rw [e,List.getD_eq_getElem?_getD,List.getElem?_replicate]
  split <;> rfl
 exact .inr e
def lf (l:List (Nat×Bk)):Bool:=decide ((bV l 0).length≤400) && (List.range 40).all fun h=> decide (ld (bV l 0) (jy (bV l 0) ((nk (kD l 0)).getD h (-1))).1 (bV l 0).length≤16)
theorem vJ (l:List (Nat×Bk)) (h:Nat):(nk (kD l 0)).getD h (-1)= -1∨ ∃ e:Nat,(h,e)∈kD l 0∧(nk (kD l 0)).getD h (-1)=(e:Int)∧e < (bV l 0).length∧wP l e=0:=by
 rcases Cl (kD l 0) h with e | ⟨e,h1,h2⟩
 ·exact .inl e
 obtain ⟨_,h4,h5⟩:=wT (sQ l) h1
 exact .inr ⟨e,h1,h2,by omega,h5⟩
theorem zb {l:List (Nat×Bk)} {nv:Nat} (hs:vC l nv):lf l=true:=by
 unfold lf
 rw [Bool.and_eq_true,decide_eq_true_eq,List.all_eq_true]
 refine ⟨hs.n,fun h _=> ?_⟩
 rw [decide_eq_true_eq]
 have hg:=BV (wP l) nv l 0 0 ((bV l 0).length - 1) hs.ok (sQ l) (Nat.le_refl _) ab
 have hd:=qR hg (e:=(nk (kD l 0)).getD h (-1)) (fun h1 h2=> by
  rcases vJ l h with e | ⟨e,_,e2,_,e4⟩
  ·omega
  rw [e2];exact e4)
 have hB: ∀ i,i < (bV l 0).length→wP l i≤8:=fun i hi=> by
  unfold wP
  rw [← qb l 0] at hi
  rw [List.getD_eq_getElem?_getD,List.getElem?_eq_getElem hi]
  exact hs.d _ (List.getElem_mem hi)
 have:=(oe (C:=bV l 0) hd hB _ (Nat.le_refl _)).2
 omega

theorem iW {α β:Type} (f:α→List β) (c:Nat) (hf: ∀ a,(f a).length=c): ∀ l:List α,(l.flatMap f).length=l.length*c
 | []=> by simp
 | a::l=> by rw [List.flatMap_cons,List.length_append,hf,iW f c hf l,List.length_cons,Nat.succ_mul];omega
theorem pJ {α β:Type} (f:α→List β) (c:Nat) (hf: ∀ a,(f a).length=c): ∀ (l:List α) (k:Nat),(l.flatMap f).drop (k*c)=(l.drop k).flatMap f
 | l,0=> by simp
 | [],k+1=> by simp
 | a::l,k+1=> by
  rw [List.flatMap_cons,List.drop_succ_cons,← pJ f c hf l k,List.drop_append,List.drop_eq_nil_of_le (by rw [hf,Nat.succ_mul];omega),List.nil_append,hf]
  congr 1;rw [Nat.succ_mul];omega
theorem lU {α β:Type} (f:α→List β) (c:Nat) (hf: ∀ a,(f a).length=c) (l:List α) (k:Nat) (h:k < l.length):((l.flatMap f).drop (k*c)).take c=f l[k]:=by
 rw [pJ f c hf,List.drop_eq_getElem_cons h,List.flatMap_cons,List.take_append_of_le_length (by rw [hf];exact Nat.le_refl _),List.take_of_length_le (by rw [hf];exact Nat.le_refl _)]
theorem lx {α β:Type} (f:α→List β) (c:Nat) (hf: ∀ a,(f a).length=c) (l:List α) (k j:Nat) (h:k < l.length) (hj:j < c):(l.flatMap f)[k*c+j]? =(f l[k])[j]? :=by
 rw [← lU f c hf l k h,List.getElem?_take_of_lt hj,List.getElem?_drop]
theorem jR {α β:Type} (f:α→List β) (l:List α) (a:α):l.flatMap f++f a=(l++[a]).flatMap f:=by simp
theorem CU {α β:Type} (f:α→List β) (l m:List α):l.flatMap f++m.flatMap f=(l++m).flatMap f:=by simp

def fo (l:List Tx):List PV:=l.map fun t=> .v (bt t)
@[simp] theorem bv (l:List Tx):(fo l).length=l.length:=by simp [fo]
theorem jO (l:List Tx) (k:Nat) (h:k < l.length):(fo l)[k]? =some (.v (bt (l.getD k []))):=by simp [fo,h]
theorem pT (a b:List Tx):fo a++fo b=fo (a++b):=by simp [fo]
theorem nJ (a:List Tx) (t:Tx):fo a++[.v (bt t)]=fo (a++[t]):=by simp [fo]
theorem kk {l:List Tx} {k:Nat} (h:k < l.length):l.getD k []∈l:=by
 rw [List.getD_eq_getElem?_getD,List.getElem?_eq_getElem h];exact List.getElem_mem h
theorem kW {α:Type} {l:List α} {k:Nat} {x d:α} (h:x∉l.take k) (hk:k < l.length) (hx:l.getD k d≠x):x∉l.take (k+1):=by
 rw [List.take_succ_eq_append_getElem hk,List.mem_append,List.mem_singleton]
 rintro (h' | h')
 ·exact h h'
 exact hx (by rw [List.getD_eq_getElem?_getD,List.getElem?_eq_getElem hk,h'];rfl)

def Gv (t:Tk):List PV:=[.v (.int .i64 (t.k:Int)), .v (.int .i64 (t.a:Int)), .v (bt t.t), .v (.int .i64 (t.n:Int))]
def tF (l:List Tk):List PV:=l.flatMap Gv
theorem bu (l:List Tk):(tF l).length=l.length*4:=iW Gv 4 (fun _=> rfl) l
theorem wm (l:List Tk) (k:Nat) (h:k < l.length):dm l k=l[k]:=by simp [dm,h]
theorem pW (l:List Tk) (k:Nat) (h:k < l.length):(tF l)[k*4]? =some (.v (.int .i64 ((dm l k).k:Int))):=by
 rw [wm l k h];exact lx Gv 4 (fun _=> rfl) l k 0 h ab
theorem nX (l:List Tk) (k:Nat) (h:k < l.length):(tF l)[k*4+2]? =some (.v (bt (dm l k).t)):=by
 rw [wm l k h];exact lx Gv 4 (fun _=> rfl) l k 2 h ab
theorem nD (l:List Tk) (k:Nat) (h:k < l.length):PV.ups (((tF l).drop (k*4)).take 4)=[.v (.int .i64 ((dm l k).k:Int)), .v (.int .i64 ((dm l k).a:Int)), .v (bt (dm l k).t), .v (.int .i64 ((dm l k).n:Int))]:=by
 rw [wm l k h,show ((tF l).drop (k*4)).take 4=Gv l[k] from lU Gv 4 (fun _=> rfl) l k h];rfl
theorem uP (l:List Tk) (t:Tk):tF l++Gv t=tF (l++[t]):=jR Gv l t

theorem gm {s:Tx} {a:Nat} {b:UInt8} (h:s[a]? =some b):s.drop a=b::s.drop (a+1):=by
 obtain ⟨hl,rfl⟩:=List.getElem?_eq_some_iff.1 h
 exact List.drop_eq_getElem_cons hl
theorem kM {s:Tx} {a:Nat} (h:a < s.length): ∃ b,s[a]? =some b:=⟨_,List.getElem?_eq_getElem h⟩
theorem LZ (b:UInt8):0≤(b.toNat:Int)∧(b.toNat:Int) < 256:=⟨by omega,by have:=b.toNat_lt;omega⟩
def lh (s:Tx) (a:Nat) (c:Bool):Nat:=a+tP (s.drop a) c
theorem sW {s:Tx} {a:Nat} (h:s.length≤a) (c:Bool):lh s a c=a:=by
 unfold lh;rw [List.drop_eq_nil_of_le h];unfold tP;rfl
theorem Ir {s:Tx} {a:Nat} {b:UInt8} (h:s[a]? =some b) (hb:b.toNat=10):lh s a true=lh s a false:=by
 unfold lh;rw [gm h];simp [tP,hb]
theorem IA {s:Tx} {a:Nat} {b:UInt8} (h:s[a]? =some b) (hb:b.toNat≠10):lh s a true=lh s (a+1) true:=by
 unfold lh;rw [gm h];simp [tP,hb];omega
theorem Bc {s:Tx} {a:Nat} {b:UInt8} (h:s[a]? =some b) (hb:b.toNat=35):lh s a false=lh s a true:=by
 unfold lh;rw [gm h];simp [tP,hb]
theorem wH {s:Tx} {a:Nat} {b:UInt8} (h:s[a]? =some b) (h0:b.toNat≠35) (hb:b.toNat=32∨b.toNat=9∨b.toNat=10):lh s a false=lh s (a+1) false:=by
 unfold lh;rw [gm h,tP,if_neg h0,if_pos hb];omega
theorem DX {s:Tx} {a:Nat} {b:UInt8} (h:s[a]? =some b) (h0:b.toNat≠35) (hb: ¬ (b.toNat=32∨b.toNat=9∨b.toNat=10)):lh s a false=a:=by
 unfold lh;rw [gm h,tP,if_neg h0,if_neg hb];rfl
theorem oR: ∀ (l:Tx) (c:Bool),tP l c≤l.length
 | [],c=> by unfold tP;exact Nat.le_refl _
 | x::l,true=> by have h1:=oR l true;have h2:=oR l false;unfold tP;split <;> simp only [List.length_cons] <;> omega
 | x::l,false=> by have h1:=oR l true;have h2:=oR l false;unfold tP;split <;> (try split) <;> simp only [List.length_cons] <;> omega
theorem wI {s:Tx} {a:Nat} (h:a≤s.length) (c:Bool):a≤lh s a c∧lh s a c≤s.length:=by
 have:=oR (s.drop a) c
 rw [List.length_drop] at this
 unfold lh;omega
def lN (p:UInt8→Bool) (s:Tx) (a:Nat):Nat:=a+((s.drop a).takeWhile p).length
theorem xt {p:UInt8→Bool} {s:Tx} {a:Nat} (h:s.length≤a):lN p s a=a:=by
 unfold lN;rw [List.drop_eq_nil_of_le h];rfl
theorem tj {p:UInt8→Bool} {s:Tx} {a:Nat} {b:UInt8} (h:s[a]? =some b) (hb:p b=true):lN p s a=lN p s (a+1):=by
 unfold lN;rw [gm h,List.takeWhile_cons,if_pos hb,List.length_cons];omega
theorem Bx {p:UInt8→Bool} {s:Tx} {a:Nat} {b:UInt8} (h:s[a]? =some b) (hb:p b=false):lN p s a=a:=by
 unfold lN;rw [gm h,List.takeWhile_cons,if_neg (by simp [hb])];rfl
theorem sE {p:UInt8→Bool} {s:Tx} {a:Nat} (h:a≤s.length):a≤lN p s a∧lN p s a≤s.length:=by
 have:((s.drop a).takeWhile p).length≤(s.drop a).length:=(List.takeWhile_prefix p).length_le
 rw [List.length_drop] at this
 unfold lN;omega
theorem vq {p:UInt8→Bool} {s:Tx} {a:Nat} {b:UInt8} (h:s[a]? =some b):(s.drop a).take (lN p s (a+1) - a)=b::(s.drop (a+1)).takeWhile p:=by
 rw [gm h,show lN p s (a+1) - a=((s.drop (a+1)).takeWhile p).length+1 by unfold lN;omega,List.take_succ_cons]
 congr 1
 obtain ⟨t,ht⟩:=List.takeWhile_prefix p (l:=s.drop (a+1))
 conv=> lhs;arg 2;rw [← ht]
 rw [List.take_append_of_le_length (Nat.le_refl _),List.take_length]
theorem sa (l:Tx) (b:UInt8):li (l++[b])=10*li l+(b.toNat - 48):=by unfold li;rw [List.foldl_append];rfl
theorem Fh (l m:Tx):li l≤li (l++m):=by
 induction m generalizing l with
 | nil=> simp
 | cons b m ih=>
  have:=ih (l++[b])
  rw [sa,List.append_assoc] at this
  simp only [List.cons_append,List.nil_append] at this
  omega
theorem yM (l:Tx) (i:Nat):li (l.take i)≤li l:=by
 have:=Fh (l.take i) (l.drop i)
 rwa [List.take_append_drop] at this
theorem zf {l:Tx} {i:Nat} {b:UInt8} (h:l[i]? =some b):li (l.take (i+1))=10*li (l.take i)+(b.toNat - 48):=by
 obtain ⟨hl,rfl⟩:=List.getElem?_eq_some_iff.1 h
 rw [List.take_succ_eq_append_getElem hl,sa]
theorem Ay (b:UInt8):nr b=true↔97≤(b.toNat:Int)∧(b.toNat:Int)≤122:=by
 unfold nr;rw [Bool.and_eq_true,Nat.ble_eq,Nat.ble_eq];omega
theorem tV (b:UInt8):gJ b=true↔48≤(b.toNat:Int)∧(b.toNat:Int)≤57:=by
 unfold gJ;rw [Bool.and_eq_true,Nat.ble_eq,Nat.ble_eq];omega
theorem Gy {b:Bool} {p:Prop} (h:b=true↔p) (hn: ¬ p):b=false:=by
 cases b with
 | false=> rfl
 | true=> exact absurd (h.1 rfl) hn
def inr (x:eW):List PV:=[.v (.int .i64 (x.op.num:Int)), .v (.int .i64 x.n)]
def inl (l:List eW):List PV:=l.flatMap inr
theorem bP (l:List eW):(inl l).length=l.length*2:=iW inr 2 (fun _=> rfl) l
theorem ng (l:List eW) (k:Nat) (h:k < l.length):(inl l)[k*2]? =some (.v (.int .i64 ((cZ l k).op.num:Int))):=by
 rw [show cZ l k=l[k] by simp [cZ,h]];exact lx inr 2 (fun _=> rfl) l k 0 h ab
theorem BT (l:List eW) (k:Nat) (h:k < l.length):(inl l)[k*2+1]? =some (.v (.int .i64 (cZ l k).n)):=by
 rw [show cZ l k=l[k] by simp [cZ,h]];exact lx inr 2 (fun _=> rfl) l k 1 h ab
theorem CI (l:List eW) (k:Nat) (h:k < l.length):PV.ups (((inl l).drop (k*2)).take 2)=[.v (.int .i64 ((cZ l k).op.num:Int)), .v (.int .i64 (cZ l k).n)]:=by
 rw [show cZ l k=l[k] by simp [cZ,h],show ((inl l).drop (k*2)).take 2=inr l[k] from lU inr 2 (fun _=> rfl) l k h];rfl
theorem fl (l:List eW) (x:eW):inl l++inr x=inl (l++[x]):=jR inr l x
theorem mr (l m:List eW):inl l++inl m=inl (l++m):=CU inr l m
def IW (x:Ac):List PV:=[.v (.int .i64 x.k), .v (.int .i64 x.a), .v (.int .i64 x.b), .v (.int .i64 x.c), .v (.int .i64 x.d)]
def vA (l:List Ac):List PV:=l.flatMap IW
def pB (l:List Ac) (k:Nat):Ac:=l.getD k { k:=0 }
theorem gk (l:List Ac):(vA l).length=l.length*5:=iW IW 5 (fun _=> rfl) l
theorem uH (l:List Ac) (k:Nat) (h:k < l.length):PV.ups (((vA l).drop (k*5)).take 5)=[.v (.int .i64 (pB l k).k), .v (.int .i64 (pB l k).a), .v (.int .i64 (pB l k).b), .v (.int .i64 (pB l k).c), .v (.int .i64 (pB l k).d)]:=by
 rw [show pB l k=l[k] by simp [pB,h],show ((vA l).drop (k*5)).take 5=IW l[k] from lU IW 5 (fun _=> rfl) l k h];rfl
theorem Ct (l:List Ac) (x:Ac):vA l++IW x=vA (l++[x]):=jR IW l x
end Go.Proofs.YtmjnackchaahbaaGreat

namespace Go.Proofs.YtmjnackchaahbaaGreat
abbrev KK:List Value:=[.slice none 0 0, .int .i64 0, .int .i64 0, .int .i64 0, .int .i64 0, .int .i64 0, .int .i64 0, .int .i64 0, .int .i64 0, .int .i64 0, .int .i64 0, .int .i64 0, .int .i64 0, .int .i64 0, .int .i64 0, .int .i64 0, .int .i64 0, .int .i64 0, .int .i64 0, .int .i64 0, .int .i64 0, .int .i64 0, .int .i64 0, .int .i64 0, .int .i64 0, .int .i64 0, .int .i64 0, .int .i64 0, .int .i64 0, .int .i64 0, .int .i64 0, .int .i64 0, .int .i64 0, .int .i64 0, .int .i64 0, .int .i64 0, .int .i64 0, .int .i64 0, .int .i64 0, .int .i64 0, .int .i64 0, .int .i64 0, .int .i64 0]
abbrev GA:List Value:=[.int .i64 0, .int .i64 0, .int .i64 0, .int .i64 0, .int .i64 0, .int .i64 0, .int .i64 0, .int .i64 0, .int .i64 0]
abbrev KC:List Value:=[.slice none 0 0, .slice none 0 0, .int .i64 0, .bool false, .slice none 0 0]
abbrev wX:List Value:=[.int .i64 0, .int .i64 0, .int .i64 0, .int .i64 0, .int .i64 0]
abbrev OD:List Value:=[.slice none 0 0, .slice none 0 0, .slice none 0 0]
abbrev IP:List Value:=[.int .i64 0, .int .i64 0, .string ByteArray.empty, .slice none 0 0]
abbrev IN:List Value:=[.int .i64 0, .int .i64 0, .int .i64 0, .string ByteArray.empty, .slice none 0 0]
abbrev Kr:List Value:=[.bool false, .int .i64 0, .int .i64 0, .int .i64 0, .slice none 0 0, .slice none 0 0, .slice none 0 0, .slice none 0 0, .int .i64 0, .int .i64 0, .int .i64 0, .int .i64 0, .int .i64 0, .int .i64 0, .int .i64 0, .int .i64 0, .int .i64 0, .int .i64 0, .int .i64 0, .int .i64 0, .int .i64 0, .int .i64 0, .int .i64 0, .int .i64 0, .int .i64 0, .int .i64 0, .int .i64 0, .int .i64 0, .int .i64 0, .int .i64 0, .int .i64 0, .int .i64 0, .int .i64 0, .int .i64 0, .int .i64 0, .int .i64 0, .int .i64 0, .int .i64 0, .int .i64 0, .int .i64 0, .int .i64 0, .int .i64 0, .int .i64 0, .int .i64 0, .int .i64 0, .int .i64 0, .int .i64 0, .int .i64 0, .int .i64 0, .int .i64 0, .int .i64 0, .int .i64 0]
abbrev IQ:List Value:=[.int .i64 0, .int .i64 0, .int .i64 0, .int .i64 0, .int .i64 0, .int .i64 0, .int .i64 0, .int .i64 0, .int .i64 0, .int .i64 0, .int .i64 0, .int .i64 0, .int .i64 0, .slice none 0 0, .slice none 0 0]
abbrev Kz:List Value:=[.int .i64 0, .int .i64 0, .int .i64 0]
abbrev Fu:List Value:=[.int .i64 0, .int .i64 0, .int .i64 0, .slice none 0 0, .bool false, .int .i64 0, .slice none 0 0, .slice none 0 0, .slice none 0 0, .int .i64 0, .bool false, .slice none 0 0]
abbrev zo:List Value:=[.int .i64 0, .int .i64 0, .int .i64 0, .int .i64 0, .int .i64 0, .int .i64 0, .int .i64 0]
abbrev Fv:List Value:=[.slice none 0 0, .int .i64 0, .int .i64 0, .int .i64 0, .int .i64 0, .int .i64 0, .int .i64 0, .int .i64 0, .int .i64 0, .int .i64 0]
abbrev Ed:List Value:=[.nilFunc, .nilFunc, .nilFunc, .nilFunc, .nilFunc, .nilFunc, .nilFunc, .nilFunc, .nilFunc, .nilFunc, .nilFunc, .nilFunc, .nilFunc, .nilFunc, .nilFunc, .nilFunc, .nilFunc, .nilFunc, .nilFunc, .nilFunc, .nilFunc, .nilFunc, .nilFunc, .nilFunc]
abbrev yC:List Value:=[.int .i64 0, .int .i64 0, .string ByteArray.empty, .int .i64 0]
abbrev Fg:List Value:=[.int .i64 0, .int .i64 0, .int .i64 0, .int .i64 0, .int .i64 0, .int .i64 0]
abbrev Jr:List Value:=[.int .i64 0, .int .i64 0, .int .i64 0, .slice none 0 0, .slice none 0 0]
abbrev Jw:List Value:=[.slice none 0 0, .int .i64 0, .int .i64 0, .int .i64 0, .int .i64 0, .int .i64 0, .int .i64 0, .int .i64 0, .int .i64 0, .int .i64 0, .int .i64 0, .int .i64 0, .int .i64 0, .int .i64 0, .int .i64 0, .int .i64 0, .int .i64 0, .int .i64 0, .int .i64 0, .int .i64 0, .int .i64 0, .int .i64 0, .int .i64 0, .int .i64 0, .int .i64 0, .int .i64 0, .int .i64 0, .int .i64 0, .int .i64 0, .int .i64 0, .int .i64 0, .int .i64 0, .int .i64 0, .int .i64 0, .int .i64 0, .int .i64 0, .int .i64 0, .int .i64 0, .int .i64 0, .int .i64 0, .int .i64 0, .int .i64 0, .int .i64 0, .slice none 0 0, .int .i64 0, .int .i64 0, .int .i64 0, .int .i64 0, .int .i64 0, .int .i64 0, .int .i64 0, .int .i64 0, .int .i64 0, .nilFunc, .slice none 0 0, .slice none 0 0, .int .i64 0, .bool false, .slice none 0 0, .slice none 0 0, .int .i64 0, .int .i64 0, .int .i64 0, .bool false]
abbrev JM:List Value:=[.slice none 0 0, .int .i64 0, .int .i64 0, .int .i64 0, .slice none 0 0]

instance zp:Ty Tryz.prog 1 false [.nilFunc]:=Ty.of (bytes:=8) (.nilFunc) Tryz.underlying1 rfl ae rfl oC
instance zw:Ty Tryz.prog 2 false [.int .i64 0]:=Ty.of (bytes:=8) (.int .i64 0) Tryz.underlying2 rfl ae rfl oC
instance Rw:Ty Tryz.prog 3 false [.int .i64 0]:=Ty.of (bytes:=8) (.int .i64 0) Tryz.underlying3 rfl ae rfl oC
instance Rv:Ty Tryz.prog 4 false [.bool false]:=Ty.of (bytes:=1) (.bool false) Tryz.underlying4 rfl ae rfl oC
instance Rx:Ty Tryz.prog 9 false [.string ByteArray.empty]:=Ty.of (bytes:=16) (.string ByteArray.empty) Tryz.underlying9 rfl ae rfl oC
instance LV:Ty Tryz.prog 22 false [.slice none 0 0]:=Ty.of (bytes:=24) (.slice none 0 0) Tryz.underlying22 rfl ae rfl oC
instance Qp:Ty Tryz.prog 23 false [.slice none 0 0]:=Ty.of (bytes:=24) (.slice none 0 0) Tryz.underlying23 rfl ae rfl oC
instance Qt:Ty Tryz.prog 26 true KK:=Ty.of (bytes:=360) (.agg (KK).toArray) Tryz.underlying26 rfl ae rfl oC
instance Pv:Ty Tryz.prog 30 true GA:=Ty.of (bytes:=72) (.agg (GA).toArray) Tryz.underlying30 rfl ae rfl oC
instance QL:Ty Tryz.prog 32 false [.slice none 0 0]:=Ty.of (bytes:=24) (.slice none 0 0) Tryz.underlying32 rfl ae rfl oC
instance Pu:Ty Tryz.prog 34 true KC:=Ty.of (bytes:=88) (.agg (KC).toArray) Tryz.underlying34 rfl ae rfl oC
instance Rt:Ty Tryz.prog 43 false [.nilFunc]:=Ty.of (bytes:=8) (.nilFunc) Tryz.underlying43 rfl ae rfl oC
instance Ro:Ty Tryz.prog 48 true [.int .i64 0, .int .i64 0]:=Ty.of (bytes:=16) (.agg #[.int .i64 0, .int .i64 0]) Tryz.underlying48 rfl ae rfl oC
instance QT:Ty Tryz.prog 51 false [.nilFunc]:=Ty.of (bytes:=8) (.nilFunc) Tryz.underlying51 rfl ae rfl oC
instance Qu:Ty Tryz.prog 57 true wX:=Ty.of (bytes:=40) (.agg (wX).toArray) Tryz.underlying57 rfl ae rfl oC
instance QB:Ty Tryz.prog 61 false [.slice none 0 0]:=Ty.of (bytes:=24) (.slice none 0 0) Tryz.underlying61 rfl ae rfl oC
instance PA:Ty Tryz.prog 62 false [.slice none 0 0]:=Ty.of (bytes:=24) (.slice none 0 0) Tryz.underlying62 rfl ae rfl oC
instance PF:Ty Tryz.prog 64 true OD:=Ty.of (bytes:=72) (.agg (OD).toArray) Tryz.underlying64 rfl ae rfl oC
instance PI:Ty Tryz.prog 66 false [.int .i64 0]:=Ty.of (bytes:=8) (.int .i64 0) Tryz.underlying66 rfl ae rfl oC
instance Rj:Ty Tryz.prog 69 false [.slice none 0 0]:=Ty.of (bytes:=24) (.slice none 0 0) Tryz.underlying69 rfl ae rfl oC
instance QH:Ty Tryz.prog 71 true IP:=Ty.of (bytes:=56) (.agg (IP).toArray) Tryz.underlying71 rfl ae rfl oC
instance Rp:Ty Tryz.prog 73 true IN:=Ty.of (bytes:=64) (.agg (IN).toArray) Tryz.underlying73 rfl ae rfl oC
instance Qq:Ty Tryz.prog 78 false [.slice none 0 0]:=Ty.of (bytes:=24) (.slice none 0 0) Tryz.underlying78 rfl ae rfl oC
instance Pr:Ty Tryz.prog 80 true [.slice none 0 0, .slice none 0 0]:=Ty.of (bytes:=48) (.agg #[.slice none 0 0, .slice none 0 0]) Tryz.underlying80 rfl ae rfl oC
instance Pp:Ty Tryz.prog 83 true Kr:=Ty.of (bytes:=480) (.agg (Kr).toArray) Tryz.underlying83 rfl ae rfl oC
instance PP:Ty Tryz.prog 87 true IQ:=Ty.of (bytes:=152) (.agg (IQ).toArray) Tryz.underlying87 rfl ae rfl oC
instance QS:Ty Tryz.prog 88 false [.slice none 0 0]:=Ty.of (bytes:=24) (.slice none 0 0) Tryz.underlying88 rfl ae rfl oC
instance QE:Ty Tryz.prog 89 false [.slice none 0 0]:=Ty.of (bytes:=24) (.slice none 0 0) Tryz.underlying89 rfl ae rfl oC
instance QD:Ty Tryz.prog 91 true Kz:=Ty.of (bytes:=24) (.agg (Kz).toArray) Tryz.underlying91 rfl ae rfl oC
instance Ps:Ty Tryz.prog 96 true Fu:=Ty.of (bytes:=176) (.agg (Fu).toArray) Tryz.underlying96 rfl ae rfl oC
instance MM:Ty Tryz.prog 101 false [.slice none 0 0]:=Ty.of (bytes:=24) (.slice none 0 0) Tryz.underlying101 rfl ae rfl oC
instance NQ:Ty Tryz.prog 109 true wX:=Ty.of (bytes:=40) (.agg (wX).toArray) Tryz.underlying109 rfl ae rfl oC
instance MV:Ty Tryz.prog 111 true zo:=Ty.of (bytes:=56) (.agg (zo).toArray) Tryz.underlying111 rfl ae rfl oC
instance OZ:Ty Tryz.prog 115 true wX:=Ty.of (bytes:=40) (.agg (wX).toArray) Tryz.underlying115 rfl ae rfl oC
instance No:Ty Tryz.prog 126 true [.int .i64 0, .int .i64 0]:=Ty.of (bytes:=16) (.agg #[.int .i64 0, .int .i64 0]) Tryz.underlying126 rfl ae rfl oC
instance Ow:Ty Tryz.prog 132 true Fv:=Ty.of (bytes:=96) (.agg (Fv).toArray) Tryz.underlying132 rfl ae rfl oC
instance MY:Ty Tryz.prog 161 false [.nilFunc]:=Ty.of (bytes:=8) (.nilFunc) Tryz.underlying161 rfl ae rfl oC
instance Pi:Ty Tryz.prog 172 false [.nilFunc]:=Ty.of (bytes:=8) (.nilFunc) Tryz.underlying172 rfl ae rfl oC
instance NL:Ty Tryz.prog 173 true Ed:=Ty.of (bytes:=192) (.agg (Ed).toArray) Tryz.underlying173 rfl ae rfl oC
instance OQ:Ty Tryz.prog 217 false [.slice none 0 0]:=Ty.of (bytes:=24) (.slice none 0 0) Tryz.underlying217 rfl ae rfl oC
instance OH:Ty Tryz.prog 225 true yC:=Ty.of (bytes:=40) (.agg (yC).toArray) Tryz.underlying225 rfl ae rfl oC
instance QX:Elem Tryz.prog 22 3 1 8 [.int .i64 0]:=Elem.of (.int .i64 0) Tryz.underlying22 ae rfl rfl ah ah oC
instance QC:Elem Tryz.prog 23 48 2 16 [.int .i64 0, .int .i64 0]:=Elem.of (.agg #[.int .i64 0, .int .i64 0]) Tryz.underlying23 ae rfl rfl ah ah oC
instance Rm:Elem Tryz.prog 32 57 5 40 wX:=Elem.of (.agg (wX).toArray) Tryz.underlying32 ae rfl rfl ah ah oC
instance QR:Elem Tryz.prog 61 9 1 16 [.string ByteArray.empty]:=Elem.of (.string ByteArray.empty) Tryz.underlying61 ae rfl rfl ah ah oC
instance Qh:Elem Tryz.prog 62 73 5 64 IN:=Elem.of (.agg (IN).toArray) Tryz.underlying62 ae rfl rfl ah ah oC
instance Po:Elem Tryz.prog 69 71 4 56 IP:=Elem.of (.agg (IP).toArray) Tryz.underlying69 ae rfl rfl ah ah oC
instance QA:Elem Tryz.prog 76 87 15 152 IQ:=Elem.of (.agg (IQ).toArray) Tryz.underlying76 ae rfl rfl ah ah oC
instance PW:Elem Tryz.prog 78 126 2 16 [.int .i64 0, .int .i64 0]:=Elem.of (.agg #[.int .i64 0, .int .i64 0]) Tryz.underlying78 ae rfl rfl ah ah oC
instance Qe:Elem Tryz.prog 88 111 7 56 zo:=Elem.of (.agg (zo).toArray) Tryz.underlying88 ae rfl rfl ah ah oC
instance Qn:Elem Tryz.prog 89 117 9 72 GA:=Elem.of (.agg (GA).toArray) Tryz.underlying89 ae rfl rfl ah ah oC
instance Pl:Elem Tryz.prog 101 196 6 48 Fg:=Elem.of (.agg (Fg).toArray) Tryz.underlying101 ae rfl rfl ah ah oC
instance MO:Elem Tryz.prog 121 4 1 1 [.bool false]:=Elem.of (.bool false) Tryz.underlying121 ae rfl rfl ah ah oC
instance Oz:Elem Tryz.prog 217 225 4 40 yC:=Elem.of (.agg (yC).toArray) Tryz.underlying217 ae rfl rfl ah ah oC
instance NF:Elem Tryz.prog 275 61 1 24 [.slice none 0 0]:=Elem.of (.slice none 0 0) Tryz.underlying275 ae rfl rfl ah ah oC
instance MB:eS Tryz.prog 26 0 0:=⟨fun ad w=> by kernel_rfl⟩
instance Lk:eS Tryz.prog 26 1 1:=⟨fun ad w=> by kernel_rfl⟩
instance La:eS Tryz.prog 26 2 41:=⟨fun ad w=> by kernel_rfl⟩
instance Ld:eS Tryz.prog 26 3 42:=⟨fun ad w=> by kernel_rfl⟩
instance Lj:eS Tryz.prog 34 0 0:=⟨fun ad w=> by kernel_rfl⟩
instance LE:eS Tryz.prog 34 1 1:=⟨fun ad w=> by kernel_rfl⟩
instance KU:eS Tryz.prog 34 2 2:=⟨fun ad w=> by kernel_rfl⟩
instance LB:eS Tryz.prog 34 3 3:=⟨fun ad w=> by kernel_rfl⟩
instance LD:eS Tryz.prog 34 4 4:=⟨fun ad w=> by kernel_rfl⟩
instance LJ:eS Tryz.prog 48 0 0:=⟨fun ad w=> by kernel_rfl⟩
instance Lp:eS Tryz.prog 48 1 1:=⟨fun ad w=> by kernel_rfl⟩
instance Mv:eS Tryz.prog 57 0 0:=⟨fun ad w=> by kernel_rfl⟩
instance Ma:eS Tryz.prog 57 1 1:=⟨fun ad w=> by kernel_rfl⟩
instance Ll:eS Tryz.prog 57 2 2:=⟨fun ad w=> by kernel_rfl⟩
instance LY:eS Tryz.prog 57 3 3:=⟨fun ad w=> by kernel_rfl⟩
instance My:eS Tryz.prog 57 4 4:=⟨fun ad w=> by kernel_rfl⟩
instance Lc:eS Tryz.prog 64 0 0:=⟨fun ad w=> by kernel_rfl⟩
instance LM:eS Tryz.prog 64 1 1:=⟨fun ad w=> by kernel_rfl⟩
instance Ml:eS Tryz.prog 64 2 2:=⟨fun ad w=> by kernel_rfl⟩
instance Lu:eS Tryz.prog 71 0 0:=⟨fun ad w=> by kernel_rfl⟩
instance Mx:eS Tryz.prog 71 1 1:=⟨fun ad w=> by kernel_rfl⟩
instance Ly:eS Tryz.prog 71 2 2:=⟨fun ad w=> by kernel_rfl⟩
instance Mu:eS Tryz.prog 71 3 3:=⟨fun ad w=> by kernel_rfl⟩
instance LT:eS Tryz.prog 73 0 0:=⟨fun ad w=> by kernel_rfl⟩
instance KV:eS Tryz.prog 73 1 1:=⟨fun ad w=> by kernel_rfl⟩
instance LR:eS Tryz.prog 80 0 0:=⟨fun ad w=> by kernel_rfl⟩
instance LK:Fvl Tryz.prog 80 0 0 false 1:=Fvl.of Tryz.underlying80 rfl rfl LV rfl
instance Ls:eS Tryz.prog 80 1 1:=⟨fun ad w=> by kernel_rfl⟩
instance Lz:eS Tryz.prog 83 0 0:=⟨fun ad w=> by kernel_rfl⟩
instance Lm:eS Tryz.prog 83 1 1:=⟨fun ad w=> by kernel_rfl⟩
instance Mp:eS Tryz.prog 83 2 2:=⟨fun ad w=> by kernel_rfl⟩
instance Lw:eS Tryz.prog 83 3 3:=⟨fun ad w=> by kernel_rfl⟩
instance Lr:eS Tryz.prog 83 4 4:=⟨fun ad w=> by kernel_rfl⟩
instance KX:eS Tryz.prog 83 5 6:=⟨fun ad w=> by kernel_rfl⟩
instance Mw:eS Tryz.prog 83 6 7:=⟨fun ad w=> by kernel_rfl⟩
instance LH:eS Tryz.prog 83 7 8:=⟨fun ad w=> by kernel_rfl⟩
instance MA:eS Tryz.prog 83 8 49:=⟨fun ad w=> by kernel_rfl⟩
instance Mr:eS Tryz.prog 87 0 0:=⟨fun ad w=> by kernel_rfl⟩
instance LQ:eS Tryz.prog 87 1 1:=⟨fun ad w=> by kernel_rfl⟩
instance Lf:eS Tryz.prog 87 2 2:=⟨fun ad w=> by kernel_rfl⟩
instance LF:eS Tryz.prog 87 3 11:=⟨fun ad w=> by kernel_rfl⟩
instance LL:eS Tryz.prog 87 4 12:=⟨fun ad w=> by kernel_rfl⟩
instance Mo:eS Tryz.prog 87 5 13:=⟨fun ad w=> by kernel_rfl⟩
instance Md:eS Tryz.prog 87 6 14:=⟨fun ad w=> by kernel_rfl⟩
instance LW:eS Tryz.prog 96 0 0:=⟨fun ad w=> by kernel_rfl⟩
instance Mi:eS Tryz.prog 96 1 3:=⟨fun ad w=> by kernel_rfl⟩
instance Mc:eS Tryz.prog 96 2 4:=⟨fun ad w=> by kernel_rfl⟩
instance Lg:eS Tryz.prog 96 3 5:=⟨fun ad w=> by kernel_rfl⟩
instance LX:eS Tryz.prog 96 4 6:=⟨fun ad w=> by kernel_rfl⟩
instance Mj:eS Tryz.prog 96 5 7:=⟨fun ad w=> by kernel_rfl⟩
instance JZ:eS Tryz.prog 103 0 0:=⟨fun ad w=> by kernel_rfl⟩
instance Kj:eS Tryz.prog 103 1 3:=⟨fun ad w=> by kernel_rfl⟩
instance KF:eS Tryz.prog 103 2 4:=⟨fun ad w=> by kernel_rfl⟩
instance Ky:eS Tryz.prog 109 1 3:=⟨fun ad w=> by kernel_rfl⟩
instance KI:eS Tryz.prog 109 2 4:=⟨fun ad w=> by kernel_rfl⟩
instance Kg:eS Tryz.prog 111 0 0:=⟨fun ad w=> by kernel_rfl⟩
instance Kh:eS Tryz.prog 111 1 5:=⟨fun ad w=> by kernel_rfl⟩
instance KN:eS Tryz.prog 126 0 0:=⟨fun ad w=> by kernel_rfl⟩
instance Kd:eS Tryz.prog 126 1 1:=⟨fun ad w=> by kernel_rfl⟩
instance Ks:eS Tryz.prog 132 0 0:=⟨fun ad w=> by kernel_rfl⟩
instance Km:eS Tryz.prog 132 1 1:=⟨fun ad w=> by kernel_rfl⟩
instance KL:eS Tryz.prog 171 0 0:=⟨fun ad w=> by kernel_rfl⟩
instance Kp:eS Tryz.prog 171 1 43:=⟨fun ad w=> by kernel_rfl⟩
instance Ke:eS Tryz.prog 171 2 53:=⟨fun ad w=> by kernel_rfl⟩
instance KR:eS Tryz.prog 171 3 54:=⟨fun ad w=> by kernel_rfl⟩
instance Kv:eS Tryz.prog 171 4 59:=⟨fun ad w=> by kernel_rfl⟩
instance Ki:eS Tryz.prog 171 5 60:=⟨fun ad w=> by kernel_rfl⟩
instance KH:eS Tryz.prog 171 6 61:=⟨fun ad w=> by kernel_rfl⟩
instance KS:eS Tryz.prog 171 7 62:=⟨fun ad w=> by kernel_rfl⟩
instance Kn:eS Tryz.prog 171 8 63:=⟨fun ad w=> by kernel_rfl⟩
instance KP:eS Tryz.prog 196 0 0:=⟨fun ad w=> by kernel_rfl⟩
instance Ku:eS Tryz.prog 196 1 5:=⟨fun ad w=> by kernel_rfl⟩
instance KB:eS Tryz.prog 222 0 0:=⟨fun ad w=> by kernel_rfl⟩
instance Ka:eS Tryz.prog 222 1 1:=⟨fun ad w=> by kernel_rfl⟩
instance KO:eS Tryz.prog 222 3 3:=⟨fun ad w=> by kernel_rfl⟩
instance KE:eS Tryz.prog 222 4 4:=⟨fun ad w=> by kernel_rfl⟩
instance Kt:eS Tryz.prog 225 0 0:=⟨fun ad w=> by kernel_rfl⟩
instance Kw:eS Tryz.prog 225 2 2:=⟨fun ad w=> by kernel_rfl⟩
instance KQ:eS Tryz.prog 225 3 3:=⟨fun ad w=> by kernel_rfl⟩
instance Qc:cR Tryz.prog 23:=⟨fun args w=> by kernel_rfl⟩
instance Qy:cR Tryz.prog 30:=⟨fun args w=> by kernel_rfl⟩
instance QQ:cR Tryz.prog 33:=⟨fun args w=> by kernel_rfl⟩
instance PX:cR Tryz.prog 39:=⟨fun args w=> by kernel_rfl⟩
instance Ru:cR Tryz.prog 40:=⟨fun args w=> by kernel_rfl⟩
instance QW:cR Tryz.prog 41:=⟨fun args w=> by kernel_rfl⟩
instance Qm:cR Tryz.prog 45:=⟨fun args w=> by kernel_rfl⟩
instance PH:cR Tryz.prog 47:=⟨fun args w=> by kernel_rfl⟩
instance QO:cR Tryz.prog 50:=⟨fun args w=> by kernel_rfl⟩
instance Ra:cR Tryz.prog 51:=⟨fun args w=> by kernel_rfl⟩
instance Qi:cR Tryz.prog 52:=⟨fun args w=> by kernel_rfl⟩
instance QU:cR Tryz.prog 53:=⟨fun args w=> by kernel_rfl⟩
instance PU:cR Tryz.prog 54:=⟨fun args w=> by kernel_rfl⟩
instance QJ:cR Tryz.prog 55:=⟨fun args w=> by kernel_rfl⟩
instance Ql:cR Tryz.prog 56:=⟨fun args w=> by kernel_rfl⟩
instance Qo:cR Tryz.prog 57:=⟨fun args w=> by kernel_rfl⟩
instance Rq:cR Tryz.prog 58:=⟨fun args w=> by kernel_rfl⟩
instance PR:cR Tryz.prog 59:=⟨fun args w=> by kernel_rfl⟩
instance QZ:cR Tryz.prog 64:=⟨fun args w=> by kernel_rfl⟩
instance Rl:cR Tryz.prog 72:=⟨fun args w=> by kernel_rfl⟩
instance Rc:cR Tryz.prog 73:=⟨fun args w=> by kernel_rfl⟩
instance PT:cR Tryz.prog 74:=⟨fun args w=> by kernel_rfl⟩
instance Qb:cR Tryz.prog 75:=⟨fun args w=> by kernel_rfl⟩
instance PB:cR Tryz.prog 78:=⟨fun args w=> by kernel_rfl⟩
instance Pw:cR Tryz.prog 81:=⟨fun args w=> by kernel_rfl⟩
instance Qs:cR Tryz.prog 82:=⟨fun args w=> by kernel_rfl⟩
instance Rs:cR Tryz.prog 85:=⟨fun args w=> by kernel_rfl⟩
instance PC:cR Tryz.prog 86:=⟨fun args w=> by kernel_rfl⟩
instance Rr:cR Tryz.prog 87:=⟨fun args w=> by kernel_rfl⟩
instance PN:cR Tryz.prog 88:=⟨fun args w=> by kernel_rfl⟩
instance PY:cR Tryz.prog 89:=⟨fun args w=> by kernel_rfl⟩
instance QI:cR Tryz.prog 90:=⟨fun args w=> by kernel_rfl⟩
instance Rb:cR Tryz.prog 91:=⟨fun args w=> by kernel_rfl⟩
instance PL:cR Tryz.prog 92:=⟨fun args w=> by kernel_rfl⟩
instance Qd:cR Tryz.prog 93:=⟨fun args w=> by kernel_rfl⟩
instance QM:cR Tryz.prog 94:=⟨fun args w=> by kernel_rfl⟩
instance Pt:cR Tryz.prog 95:=⟨fun args w=> by kernel_rfl⟩
instance Qw:cR Tryz.prog 96:=⟨fun args w=> by kernel_rfl⟩
instance Re:cR Tryz.prog 97:=⟨fun args w=> by kernel_rfl⟩
instance Nq:cR Tryz.prog 106:=⟨fun args w=> by kernel_rfl⟩
instance ND:cR Tryz.prog 107:=⟨fun args w=> by kernel_rfl⟩
instance NK:cR Tryz.prog 108:=⟨fun args w=> by kernel_rfl⟩
instance MU:cR Tryz.prog 113:=⟨fun args w=> by kernel_rfl⟩
instance NB:cR Tryz.prog 114:=⟨fun args w=> by kernel_rfl⟩
instance NW:cR Tryz.prog 115:=⟨fun args w=> by kernel_rfl⟩
instance Ok:cR Tryz.prog 117:=⟨fun args w=> by kernel_rfl⟩
instance Oq:cR Tryz.prog 118:=⟨fun args w=> by kernel_rfl⟩
instance ON:cR Tryz.prog 119:=⟨fun args w=> by kernel_rfl⟩
instance Nv:cR Tryz.prog 120:=⟨fun args w=> by kernel_rfl⟩
instance NU:cR Tryz.prog 121:=⟨fun args w=> by kernel_rfl⟩
instance NX:cR Tryz.prog 122:=⟨fun args w=> by kernel_rfl⟩
instance MH:cR Tryz.prog 123:=⟨fun args w=> by kernel_rfl⟩
instance OX:cR Tryz.prog 124:=⟨fun args w=> by kernel_rfl⟩
instance Nn:cR Tryz.prog 125:=⟨fun args w=> by kernel_rfl⟩
instance Nw:cR Tryz.prog 126:=⟨fun args w=> by kernel_rfl⟩
instance Oj:cR Tryz.prog 127:=⟨fun args w=> by kernel_rfl⟩
instance Om:cR Tryz.prog 128:=⟨fun args w=> by kernel_rfl⟩
instance NA:cR Tryz.prog 129:=⟨fun args w=> by kernel_rfl⟩
instance NG:cR Tryz.prog 130:=⟨fun args w=> by kernel_rfl⟩
instance Nt:cR Tryz.prog 131:=⟨fun args w=> by kernel_rfl⟩
instance OO:cR Tryz.prog 132:=⟨fun args w=> by kernel_rfl⟩
instance NR:cR Tryz.prog 133:=⟨fun args w=> by kernel_rfl⟩
instance Np:cR Tryz.prog 134:=⟨fun args w=> by kernel_rfl⟩
instance MG:cR Tryz.prog 135:=⟨fun args w=> by kernel_rfl⟩
instance Ni:cR Tryz.prog 136:=⟨fun args w=> by kernel_rfl⟩
instance Of:cR Tryz.prog 137:=⟨fun args w=> by kernel_rfl⟩
instance Pk:cR Tryz.prog 138:=⟨fun args w=> by kernel_rfl⟩
instance Nz:cR Tryz.prog 139:=⟨fun args w=> by kernel_rfl⟩
instance NE:cR Tryz.prog 140:=⟨fun args w=> by kernel_rfl⟩
instance NC:cR Tryz.prog 141:=⟨fun args w=> by kernel_rfl⟩
instance OY:cR Tryz.prog 142:=⟨fun args w=> by kernel_rfl⟩
instance NN:cR Tryz.prog 143:=⟨fun args w=> by kernel_rfl⟩
instance Ox:cR Tryz.prog 144:=⟨fun args w=> by kernel_rfl⟩
instance Oc:cR Tryz.prog 145:=⟨fun args w=> by kernel_rfl⟩
instance Oy:cR Tryz.prog 146:=⟨fun args w=> by kernel_rfl⟩
instance OR:cR Tryz.prog 147:=⟨fun args w=> by kernel_rfl⟩
instance MQ:cR Tryz.prog 148:=⟨fun args w=> by kernel_rfl⟩
instance Oh:cR Tryz.prog 149:=⟨fun args w=> by kernel_rfl⟩
instance Nh:cR Tryz.prog 150:=⟨fun args w=> by kernel_rfl⟩
instance On:cR Tryz.prog 151:=⟨fun args w=> by kernel_rfl⟩
instance Ng:cR Tryz.prog 152:=⟨fun args w=> by kernel_rfl⟩
instance Nu:cR Tryz.prog 153:=⟨fun args w=> by kernel_rfl⟩
instance MD:cR Tryz.prog 154:=⟨fun args w=> by kernel_rfl⟩
instance Nx:cR Tryz.prog 155:=⟨fun args w=> by kernel_rfl⟩
instance NY:cR Tryz.prog 159:=⟨fun args w=> by kernel_rfl⟩
instance Oi:cR Tryz.prog 160:=⟨fun args w=> by kernel_rfl⟩
instance Pm:cR Tryz.prog 161:=⟨fun args w=> by kernel_rfl⟩
instance Nm:cR Tryz.prog 162:=⟨fun args w=> by kernel_rfl⟩
instance NO:cR Tryz.prog 163:=⟨fun args w=> by kernel_rfl⟩
instance Pd:cR Tryz.prog 164:=⟨fun args w=> by kernel_rfl⟩
instance NJ:cR Tryz.prog 165:=⟨fun args w=> by kernel_rfl⟩
instance Nk:cR Tryz.prog 166:=⟨fun args w=> by kernel_rfl⟩
instance MK:cR Tryz.prog 167:=⟨fun args w=> by kernel_rfl⟩
instance Oe:cR Tryz.prog 183:=⟨fun args w=> by kernel_rfl⟩
instance ML:cR Tryz.prog 184:=⟨fun args w=> by kernel_rfl⟩
instance Nb:cR Tryz.prog 185:=⟨fun args w=> by kernel_rfl⟩
instance OM:cR Tryz.prog 187:=⟨fun args w=> by kernel_rfl⟩
instance OF:cR Tryz.prog 188:=⟨fun args w=> by kernel_rfl⟩
instance NM:cR Tryz.prog 189:=⟨fun args w=> by kernel_rfl⟩
instance NZ:cR Tryz.prog 190:=⟨fun args w=> by kernel_rfl⟩
instance OP:cR Tryz.prog 194:=⟨fun args w=> by kernel_rfl⟩
instance Oo:cR Tryz.prog 195:=⟨fun args w=> by kernel_rfl⟩
instance OJ:cR Tryz.prog 196:=⟨fun args w=> by kernel_rfl⟩
instance NH:cR Tryz.prog 197:=⟨fun args w=> by kernel_rfl⟩
instance OA:cR Tryz.prog 199:=⟨fun args w=> by kernel_rfl⟩
instance MT:cR Tryz.prog 200:=⟨fun args w=> by kernel_rfl⟩
instance OB:cR Tryz.prog 201:=⟨fun args w=> by kernel_rfl⟩
instance Od:cR Tryz.prog 202:=⟨fun args w=> by kernel_rfl⟩
instance OW:cR Tryz.prog 203:=⟨fun args w=> by kernel_rfl⟩
instance Nc:cR Tryz.prog 204:=⟨fun args w=> by kernel_rfl⟩
instance OI:cR Tryz.prog 205:=⟨fun args w=> by kernel_rfl⟩
instance NT:cR Tryz.prog 207:=⟨fun args w=> by kernel_rfl⟩
instance Ou:cR Tryz.prog 208:=⟨fun args w=> by kernel_rfl⟩
instance NP:cR Tryz.prog 221:=⟨fun args w=> by kernel_rfl⟩
instance OU:cR Tryz.prog 222:=⟨fun args w=> by kernel_rfl⟩
instance Nl:cR Tryz.prog 223:=⟨fun args w=> by kernel_rfl⟩
instance OE:cR Tryz.prog 224:=⟨fun args w=> by kernel_rfl⟩
instance MI:cR Tryz.prog 225:=⟨fun args w=> by kernel_rfl⟩
instance NV:cR Tryz.prog 226:=⟨fun args w=> by kernel_rfl⟩
instance MR:cR Tryz.prog 227:=⟨fun args w=> by kernel_rfl⟩
instance Ny:cR Tryz.prog 228:=⟨fun args w=> by kernel_rfl⟩
instance Pf:cR Tryz.prog 235:=⟨fun args w=> by kernel_rfl⟩
instance OL:cR Tryz.prog 236:=⟨fun args w=> by kernel_rfl⟩
instance Ov:cR Tryz.prog 237:=⟨fun args w=> by kernel_rfl⟩
instance Pb:cR Tryz.prog 240:=⟨fun args w=> by kernel_rfl⟩
end Go.Proofs.YtmjnackchaahbaaGreat

namespace Go.Proofs.YtmjnackchaahbaaGreat

instance Qx:Bld Tryz.prog 26 KK (fun i=> ([(0,1),(1,40),(41,1),(42,1)]:List (Nat×Nat))[i]?):=Bld.struct (bytes:=360) (.agg (KK).toArray) [(0,1),(1,40),(41,1),(42,1)] Tryz.underlying26 ae rfl oC (fun w=> by kernel_rfl)
instance PM:Bld Tryz.prog 30 GA (fun i=> some (i*1,1)):=Bld.array (bytes:=72) (.agg (GA).toArray) Tryz.underlying30 ae rfl oC ae
instance Qk:Bld Tryz.prog 34 KC (fun i=> ([(0,1),(1,1),(2,1),(3,1),(4,1)]:List (Nat×Nat))[i]?):=Bld.struct (bytes:=88) (.agg (KC).toArray) [(0,1),(1,1),(2,1),(3,1),(4,1)] Tryz.underlying34 ae rfl oC (fun w=> by kernel_rfl)
instance Qf:Bld Tryz.prog 48 [.int .i64 0, .int .i64 0] (fun i=> ([(0,1),(1,1)]:List (Nat×Nat))[i]?):=Bld.struct (bytes:=16) (.agg #[.int .i64 0, .int .i64 0]) [(0,1),(1,1)] Tryz.underlying48 ae rfl oC (fun w=> by kernel_rfl)
instance Px:Bld Tryz.prog 57 wX (fun i=> ([(0,1),(1,1),(2,1),(3,1),(4,1)]:List (Nat×Nat))[i]?):=Bld.struct (bytes:=40) (.agg (wX).toArray) [(0,1),(1,1),(2,1),(3,1),(4,1)] Tryz.underlying57 ae rfl oC (fun w=> by kernel_rfl)
instance QK:Bld Tryz.prog 71 IP (fun i=> ([(0,1),(1,1),(2,1),(3,1)]:List (Nat×Nat))[i]?):=Bld.struct (bytes:=56) (.agg (IP).toArray) [(0,1),(1,1),(2,1),(3,1)] Tryz.underlying71 ae rfl oC (fun w=> by kernel_rfl)
instance PQ:Bld Tryz.prog 73 IN (fun i=> ([(0,1),(1,4)]:List (Nat×Nat))[i]?):=Bld.struct (bytes:=64) (.agg (IN).toArray) [(0,1),(1,4)] Tryz.underlying73 ae rfl oC (fun w=> by kernel_rfl)
instance PZ:Bld Tryz.prog 80 [.slice none 0 0, .slice none 0 0] (fun i=> ([(0,1),(1,1)]:List (Nat×Nat))[i]?):=Bld.struct (bytes:=48) (.agg #[.slice none 0 0, .slice none 0 0]) [(0,1),(1,1)] Tryz.underlying80 ae rfl oC (fun w=> by kernel_rfl)
instance Rk:Bld Tryz.prog 83 Kr (fun i=> ([(0,1),(1,1),(2,1),(3,1),(4,2),(6,1),(7,1),(8,41),(49,1),(50,1),(51,1)]:List (Nat×Nat))[i]?):=Bld.struct (bytes:=480) (.agg (Kr).toArray) [(0,1),(1,1),(2,1),(3,1),(4,2),(6,1),(7,1),(8,41),(49,1),(50,1),(51,1)] Tryz.underlying83 ae rfl oC (fun w=> by kernel_rfl)
instance Qg:Bld Tryz.prog 87 IQ (fun i=> ([(0,1),(1,1),(2,9),(11,1),(12,1),(13,1),(14,1)]:List (Nat×Nat))[i]?):=Bld.struct (bytes:=152) (.agg (IQ).toArray) [(0,1),(1,1),(2,9),(11,1),(12,1),(13,1),(14,1)] Tryz.underlying87 ae rfl oC (fun w=> by kernel_rfl)
instance PD:Bld Tryz.prog 91 Kz (fun i=> ([(0,1),(1,1),(2,1)]:List (Nat×Nat))[i]?):=Bld.struct (bytes:=24) (.agg (Kz).toArray) [(0,1),(1,1),(2,1)] Tryz.underlying91 ae rfl oC (fun w=> by kernel_rfl)
instance PJ:Bld Tryz.prog 96 Fu (fun i=> ([(0,3),(3,1),(4,1),(5,1),(6,1),(7,5)]:List (Nat×Nat))[i]?):=Bld.struct (bytes:=176) (.agg (Fu).toArray) [(0,3),(3,1),(4,1),(5,1),(6,1),(7,5)] Tryz.underlying96 ae rfl oC (fun w=> by kernel_rfl)
instance Ob:Bld Tryz.prog 103 Jr (fun i=> ([(0,3),(3,1),(4,1)]:List (Nat×Nat))[i]?):=Bld.struct (bytes:=72) (.agg (Jr).toArray) [(0,3),(3,1),(4,1)] Tryz.underlying103 ae rfl oC (fun w=> by kernel_rfl)
instance NS:Bld Tryz.prog 109 wX (fun i=> ([(0,3),(3,1),(4,1)]:List (Nat×Nat))[i]?):=Bld.struct (bytes:=40) (.agg (wX).toArray) [(0,3),(3,1),(4,1)] Tryz.underlying109 ae rfl oC (fun w=> by kernel_rfl)
instance MF:Bld Tryz.prog 111 zo (fun i=> ([(0,5),(5,1),(6,1)]:List (Nat×Nat))[i]?):=Bld.struct (bytes:=56) (.agg (zo).toArray) [(0,5),(5,1),(6,1)] Tryz.underlying111 ae rfl oC (fun w=> by kernel_rfl)
instance MW:Bld Tryz.prog 115 wX (fun i=> ([(0,3),(3,1),(4,1)]:List (Nat×Nat))[i]?):=Bld.struct (bytes:=40) (.agg (wX).toArray) [(0,3),(3,1),(4,1)] Tryz.underlying115 ae rfl oC (fun w=> by kernel_rfl)
instance Nj:Bld Tryz.prog 117 GA (fun i=> ([(0,5),(5,1),(6,1),(7,1),(8,1)]:List (Nat×Nat))[i]?):=Bld.struct (bytes:=72) (.agg (GA).toArray) [(0,5),(5,1),(6,1),(7,1),(8,1)] Tryz.underlying117 ae rfl oC (fun w=> by kernel_rfl)
instance MX:Bld Tryz.prog 126 [.int .i64 0, .int .i64 0] (fun i=> ([(0,1),(1,1)]:List (Nat×Nat))[i]?):=Bld.struct (bytes:=16) (.agg #[.int .i64 0, .int .i64 0]) [(0,1),(1,1)] Tryz.underlying126 ae rfl oC (fun w=> by kernel_rfl)
instance OT:Bld Tryz.prog 132 Fv (fun i=> ([(0,1),(1,9)]:List (Nat×Nat))[i]?):=Bld.struct (bytes:=96) (.agg (Fv).toArray) [(0,1),(1,9)] Tryz.underlying132 ae rfl oC (fun w=> by kernel_rfl)
instance ME:Bld Tryz.prog 171 Jw (fun i=> ([(0,43),(43,10),(53,1),(54,5),(59,1),(60,1),(61,1),(62,1),(63,1)]:List (Nat×Nat))[i]?):=Bld.struct (bytes:=608) (.agg (Jw).toArray) [(0,43),(43,10),(53,1),(54,5),(59,1),(60,1),(61,1),(62,1),(63,1)] Tryz.underlying171 ae rfl oC (fun w=> by kernel_rfl)
instance OK:Bld Tryz.prog 173 Ed (fun i=> some (i*1,1)):=Bld.array (bytes:=192) (.agg (Ed).toArray) Tryz.underlying173 ae rfl oC ae
instance OS:Bld Tryz.prog 176 [] (fun i=> ([]:List (Nat×Nat))[i]?):=Bld.struct (bytes:=0) (.agg #[]) [] Tryz.underlying176 ae rfl oC (fun w=> by kernel_rfl)
instance Og:Bld Tryz.prog 196 Fg (fun i=> ([(0,5),(5,1)]:List (Nat×Nat))[i]?):=Bld.struct (bytes:=48) (.agg (Fg).toArray) [(0,5),(5,1)] Tryz.underlying196 ae rfl oC (fun w=> by kernel_rfl)
instance OV:Bld Tryz.prog 222 JM (fun i=> ([(0,1),(1,1),(2,1),(3,1),(4,1)]:List (Nat×Nat))[i]?):=Bld.struct (bytes:=72) (.agg (JM).toArray) [(0,1),(1,1),(2,1),(3,1),(4,1)] Tryz.underlying222 ae rfl oC (fun w=> by kernel_rfl)
instance Pa:Bld Tryz.prog 225 yC (fun i=> ([(0,1),(1,1),(2,1),(3,1)]:List (Nat×Nat))[i]?):=Bld.struct (bytes:=40) (.agg (yC).toArray) [(0,1),(1,1),(2,1),(3,1)] Tryz.underlying225 ae rfl oC (fun w=> by kernel_rfl)
def dv (n m:Int):Int:=(if n < 0 then -(n+1) else n) % m
theorem ia (n m:Int) (h:0 < m):0≤dv n m:=Int.emod_nonneg _ ab
theorem jo (n m:Int) (h:0 < m):dv n m < m:=Int.emod_lt_of_pos _ h
theorem ir (n m:Int) (hm:1≤m) (h1:m≤4611686018427387904) (h2: -9223372036854775808≤n) (h3:n≤9223372036854775807):
  Spec Tryz.prog 33 (ba [.v (.int .i64 n), .v (.int .i64 m)] []) (aP (.v (.int .i64 (dv n m))) []):=by
 refine Spec.ofN Tryz.func33 rfl Tryz.ntmps33 rfl ?_
 refine am (be rfl (aj (aq (am (aX rfl (ai (bl _ _ rfl rfl rfl) (aj (aR rfl (fun hc6=> ?_) (fun hc6=> ?_)))))))))
 ·skip
  refine an (aX rfl (ai (aZ _ _ rfl rfl (bD ab)) ?_))
  refine ai (Ar _ rfl (bD ab)) ?_
  refine be rfl (aj (am (aX rfl (aX rfl (ai (dX _ _ rfl rfl ab (Int.tmod_eq_emod_of_nonneg ab)) ?_)))))
  refine be rfl (aj (aG (rK rfl rfl ?_)))
  unfold dv
  rw [if_pos hc6]
 refine aT (am (aX rfl (aX rfl (ai (dX _ _ rfl rfl ab (Int.tmod_eq_emod_of_nonneg ab)) ?_))))
 refine be rfl (aj (aG (rK rfl rfl ?_)))
 unfold dv
 rw [if_neg ab]

theorem rT (n m:Nat) (xs ys:List Int) (hn:xs.length=n) (hm:ys.length=m) (h1:n≤4611686018427387904) (h2:m≤4611686018427387904):
  Spec Tryz.prog 30 (ba [.sl n (cw xs), .sl m (cw ys)] []) (aP (.v (.bool (decide (xs=ys)))) []):=by
 subst hn;subst hm
 refine Spec.ofN Tryz.func30 rfl Tryz.ntmps30 rfl ?_
 refine am (cu rfl (aj (aq (am (eY rfl (ai (bo _ aa rfl) (eY rfl (ai (bo _ aa rfl) (ai (bL _ _ rfl rfl rfl) (aj ?_))))))))))
 refine aR rfl (fun hc10=> ?_) (fun hc10=> ?_)
 ·skip
  refine am (cu rfl (aj (aG (rJ rfl rfl ?_))))
  exact decide_eq_false fun h=> by subst h;omega
 refine aT (aU fun K5 hK5=> ?_)
 refine am (be rfl (aj (ay ?_)))
 refine bq (α:=Nat) (fun k=> k≤xs.length∧xs.length=ys.length∧xs.take k=ys.take k) 26 [(0,_),(1,_)] [] (fun k=> [(5, .v (.int .i64 (k:Int)))]) (fun k=> []) [] [] (fun k=> xs.length - k) 0 ?_ (by
  refine Le.mkJ [] [] rfl ?_ ?_ trivial trivial ?_
  ·exact ⟨(by exact iS rfl),(by exact iS rfl),(co ag),trivial⟩
  ·exact trivial
  kernel_rfl) ?_
 ·exact ⟨by omega,by omega,rfl⟩
 intro k hk
 obtain ⟨hk,hl,ht⟩:=hk
 refine aU fun K7 hK7=> ?_
 refine am (aX rfl (eY rfl (ai (bo _ aa rfl) (ai (bl _ _ rfl rfl rfl) (aj (aR rfl (fun hc14=> ?_) (fun hc14=> ?_)))))))
 ·skip
  have hkx:k < xs.length:=by omega
  have hky:k < ys.length:=by omega
  refine bs (hK7 _ ?_)
  clear hK7;try clear K7
  refine aq (ay (aq ?_))
  refine aM (σ':=aE 26 [(0,_),(1,_),(5,_)] [] [] []) (by
   refine Le.mkJ [] [] rfl ?_ ?_ trivial trivial ?_
   ·exact ⟨(by exact iS rfl),(by exact iS rfl),(iV rfl),trivial⟩
   ·exact trivial
   kernel_rfl) ?_
  refine bO 9 [17,18,19,20,21,22,23,24,25] [] ae ae rfl (aL rfl) (rfl:_=[_,_,_,_,_,_,_,_,_]) (rfl:_=[]) ?_
  refine ap (_,[]) (fun τ=> aH _ mL) ?_
  refine fP rfl ?_
  refine ap (_,[]) (fun τ=> aH _ eg) ?_
  refine fQ rfl ?_
  refine ap (_,[]) (fun τ=> bn _ _ aa rfl rfl _ rfl ab (by (simp only [aO,bg,bj];omega)) (by exact Nat.mul_one _)) ?_
  refine fU rfl ?_
  refine ap (_,[]) (fun τ=> bT _ aa rfl (by exact eb _ _ ab) rfl) ?_
  refine fY rfl ?_
  refine ap (_,[]) (fun τ=> aH _ mL) ?_
  refine gz rfl ?_
  refine ap (_,[]) (fun τ=> aH _ eg) ?_
  refine gZ rfl ?_
  refine ap (_,[]) (fun τ=> bn _ _ aa rfl rfl _ rfl ab (by (simp only [aO,bg,bj];omega)) (by exact Nat.mul_one _)) ?_
  refine jg rfl ?_
  refine ap (_,[]) (fun τ=> bT _ aa rfl (by exact eb _ _ ab) rfl) ?_
  refine ka rfl ?_
  refine ap (_,[]) (fun τ=> bL _ _ rfl rfl rfl) ?_
  refine kG rfl (bm ⟨rfl,?_⟩)
  refine aj (aR rfl (fun hc25=> ?_) (fun hc25=> ?_))
  ·skip
   refine am (cu rfl (aj (aG (rJ rfl rfl ?_))))
   exact decide_eq_false fun h=> by subst h;exact hc25 rfl
  refine cp (an (aX rfl (ai (aZ _ _ rfl rfl (bD ab)) ?_)))
  refine be rfl (aJ (⟨k+1,?_,?_,?_⟩))
  ·refine ⟨by omega,hl,?_⟩
   rw [tC _ _ _ hkx,tC _ _ _ hky] at hc25
   rw [List.take_succ_eq_append_getElem hkx,List.take_succ_eq_append_getElem hky,ht,hc25]
  ·skip
   refine Le.mkJ [] [] rfl ?_ ?_ trivial trivial ?_
   ·exact ⟨(by exact iS rfl),(by exact iS rfl),(co ag),trivial⟩
   ·exact trivial
   kernel_rfl
  omega
 refine bB (id (hK5 _ ?_))
 clear hK5;try clear K5
 refine am (cu rfl (aj (aG (rJ rfl rfl ?_))))
 rw [List.take_of_length_le ab,List.take_of_length_le ab] at ht
 exact decide_eq_true ht

theorem pm (b:UInt8):Spec Tryz.prog 221 (ba [.v (.int .u8 (b.toNat:Int))] []) (aP (.v (.bool (nr b))) []):=by
 have h:=Ay b
 refine Spec.ofN Tryz.func221 rfl Tryz.ntmps221 rfl ?_
 refine am (cu rfl (aj (am (aX rfl (ai (fw _ _ rfl rfl rfl) (cE rfl (dw (fun hg5=> ?_) (fun hg5=> ?_))))))))
 ·skip
  have h:nr b=decide ((b.toNat:Int)≤122):=by rw [Bool.eq_iff_iff,h];simp [hg5]
  refine au rfl rfl (aH _ eg) (au rfl rfl (wv _ _ rfl rfl rfl) (ai (aB _ _ _ rfl bJ) (cu rfl (aj (aG (rJ rfl rfl ?_))))))
  exact h
 have h:nr b=false:=Gy h (fun x=> by omega)
 refine aK rfl rfl ah ?_
 refine aK rfl rfl ah ?_
 refine ai (aB _ _ _ rfl bJ) (cu rfl (aj (aG (rJ rfl rfl ?_))))
 exact h
theorem mM (b:UInt8):Spec Tryz.prog 222 (ba [.v (.int .u8 (b.toNat:Int))] []) (aP (.v (.bool (gJ b))) []):=by
 have h:=tV b
 refine Spec.ofN Tryz.func222 rfl Tryz.ntmps222 rfl ?_
 refine am (cu rfl (aj (am (aX rfl (ai (fw _ _ rfl rfl rfl) (cE rfl (dw (fun hg5=> ?_) (fun hg5=> ?_))))))))
 ·skip
  have h:gJ b=decide ((b.toNat:Int)≤57):=by rw [Bool.eq_iff_iff,h];simp [hg5]
  refine au rfl rfl (aH _ eg) (au rfl rfl (wv _ _ rfl rfl rfl) (ai (aB _ _ _ rfl bJ) (cu rfl (aj (aG (rJ rfl rfl ?_))))))
  exact h
 have h:gJ b=false:=Gy h (fun x=> by omega)
 refine aK rfl rfl ah ?_
 refine aK rfl rfl ah ?_
 refine ai (aB _ _ _ rfl bJ) (cu rfl (aj (aG (rJ rfl rfl ?_))))
 exact h
theorem qo (l:List Tx) (n:Nat) (hn:l.length=n) (h1:n≤1000) (t:Tx):Spec Tryz.prog 224 (ba [.sl n (fo l), .v (bt t)] []) (aP (.v (.bool (decide (t∈l)))) []):=by
 refine Spec.ofN Tryz.func224 rfl Tryz.ntmps224 rfl ?_
 refine am (cu rfl (aj (aU fun K2 hK2=> ?_)))
 refine am (be rfl (aj (ay ?_)))
 refine bq (α:=Nat) (fun k=> k≤n∧t∉l.take k) 18 [(0,_),(1,_)] [] (fun k=> [(5, .v (.int .i64 (k:Int)))]) (fun k=> []) [] [] (fun k=> n - k) 0 ?_ (by
  refine Le.mkJ [] [] rfl ?_ ?_ trivial trivial ?_
  ·exact ⟨(iS rfl),(iV rfl),(co ag),trivial⟩
  ·exact trivial
  kernel_rfl) ?_
 ·exact ⟨Nat.zero_le _,by simp⟩
 intro k hk
 obtain ⟨hk,hnt⟩:=hk
 refine aU fun K4 hK4=> ?_
 refine am (aX rfl (eY rfl (ai (bo _ aa rfl) (ai (bl _ _ rfl rfl rfl) (aj (aR rfl (fun hc9=> ?_) (fun hc9=> ?_)))))))
 ·skip
  refine bs (hK4 _ ?_)
  clear hK4;try clear K4
  refine aq (ay (am (eY rfl (aX rfl (ai (bn _ _ aa rfl rfl _ rfl ab (by (simp only [aO,bg,bj,bv];omega)) (by exact Nat.mul_one _)) ?_)))))
  refine ai (bT _ aa rfl (by exact jO _ _ ab) rfl) ?_
  refine ej rfl (ai (aV _ _ Tryz.underlying9 rfl rfl rfl) (aj (aR rfl (fun hc17=> ?_) (fun hc17=> ?_))))
  ·skip
   refine am (cu rfl (aj (aG (rJ rfl rfl ?_))))
   exact decide_eq_true (hc17 ▸ kk ab)
  refine cp (an (aX rfl (ai (aZ _ _ rfl rfl (bD ab)) ?_)))
  refine be rfl (aJ (⟨k+1,?_,?_,?_⟩))
  ·exact ⟨by omega,kW hnt ab hc17⟩
  ·skip
   refine Le.mkJ [] [] rfl ?_ ?_ trivial trivial ?_
   ·exact ⟨(iS rfl),(iV rfl),(co ag),trivial⟩
   ·exact trivial
   kernel_rfl
  omega
 have hall:t∉l:=by rwa [List.take_of_length_le ab] at hnt
 refine bB (id (hK2 _ ?_))
 clear hK2;try clear K2
 refine am (cu rfl (aj (aG (rJ rfl rfl ?_))))
 exact decide_eq_false hall
theorem rl (s:Tx) (at_:Nat) (h1:s.length≤100000) (ha:at_≤s.length):Spec Tryz.prog 194 (ba [.v (bt s), .v (.int .i64 (at_:Int))] []) (aP (.v (.int .i64 (lh s at_ false:Int))) []):=by
 refine Spec.ofN Tryz.func194 rfl Tryz.ntmps194 rfl ?_
 refine am (be rfl (aj (aU fun K2 hK2=> ?_)))
 refine ay ?_
 refine bq (α:=Nat) (fun k=> k≤s.length∧lh s k false=lh s at_ false) 41 [(0,_)] [] (fun k=> [(1, .v (.int .i64 (k:Int)))]) (fun k=> []) [] [] (fun k=> s.length - k) at_ ?_ (by
  refine Le.mkJ [] [] rfl ?_ ?_ trivial trivial ?_
  ·exact ⟨(iV rfl),(co ag),trivial⟩
  ·exact trivial
  kernel_rfl) ?_
 ·exact ⟨ha,rfl⟩
 intro k hk
 obtain ⟨hk,hs⟩:=hk
 refine aU fun K3 hK3=> ?_
 refine am (aX rfl (ej rfl (ai (ii _ Tryz.underlying9 rfl) (ai (bl _ _ rfl rfl rfl) (aj (aR rfl (fun hc9=> ?_) (fun hc9=> ?_)))))))
 ·skip
  obtain ⟨b,hb⟩:=kM (s:=s) (a:=k) ab
  have hbi:=LZ b
  refine bs (hK3 _ ?_)
  clear hK3;try clear K3
  refine ay (am (ej rfl (aX rfl (ai (lC _ _ Tryz.underlying9 rfl rfl (by assumption)) ?_))))
  refine be rfl (aj (am (aX rfl (ai (bC _ _ rfl rfl rfl) (aj (aR rfl (fun hc14=> ?_) (fun hc14=> ?_)))))))
  ·skip
   have hs:=(Bc hb ab).symm.trans hs
   refine ay ?_
   refine bq (α:=Nat) (fun j=> k≤j∧j≤s.length∧lh s j true=lh s at_ false∧(j=k→j < s.length)) 41 [(0,_)] [] (fun j=> [(1, .v (.int .i64 (j:Int)))]) (fun j=> []) [] [] (fun j=> s.length - j) k ?_ (by
    refine Le.mkJ [] [] rfl ?_ ?_ trivial trivial ?_
    ·exact ⟨(iV rfl),(co ag),trivial⟩
    ·exact trivial
    kernel_rfl) ?_
   ·exact ⟨Nat.le_refl _,by omega,hs,fun _=> by omega⟩
   intro j hj
   obtain ⟨hj1,hj2,hsj,hjk⟩:=hj
   refine aU fun K7 hK7=> ?_
   refine aU fun K8 hK8=> ?_
   refine an (aX rfl (ej rfl (ai (ii _ Tryz.underlying9 rfl) (ai (bl _ _ rfl rfl rfl) (cE rfl (dw (fun hg19=> ?_) (fun hg19=> ?_)))))))
   ·skip
    obtain ⟨u,hu⟩:=kM (s:=s) (a:=j) ab
    have hui:=LZ u
    refine au rfl rfl (aH _ xD) (au rfl rfl (aH _ eg) (au rfl rfl (lC _ _ Tryz.underlying9 rfl rfl (by assumption)) ?_))
    refine au rfl rfl (bL _ _ rfl rfl rfl) (ai (aB _ _ _ rfl bJ) (aJ (hK8 _ ?_)))
    clear hK8;try clear K8
    refine aR rfl (fun hc24=> ?_) (fun hc24=> ?_)
    ·skip
     refine bs (hK7 _ ?_)
     clear hK7;try clear K7
     refine ay (an (aX rfl (ai (aZ _ _ rfl rfl (bD ab)) ?_)))
     refine be rfl (aJ (⟨j+1,?_,?_,?_⟩))
     ·exact ⟨by omega,by omega,(IA hu ab).symm.trans hsj,fun _=> by omega⟩
     ·skip
      refine Le.mkJ [] [] rfl ?_ ?_ trivial trivial ?_
      ·exact ⟨(iV rfl),(co ag),trivial⟩
      ·exact trivial
      kernel_rfl
     omega
    have hjs:lh s j false=lh s at_ false:=by rw [← hsj,Ir hu ab]
    have hjk':k < j:=Nat.lt_of_le_of_ne hj1 fun e=> by subst e;rw [hb] at hu;obtain rfl:=Option.some.inj hu;omega
    refine bB (id (⟨j,?_,?_,?_⟩))
    ·exact ⟨hj2,hjs⟩
    ·skip
     refine Le.mkJ [] [] rfl ?_ ?_ trivial trivial ?_
     ·exact ⟨(iV rfl),(co ag),trivial⟩
     ·exact trivial
     kernel_rfl
    omega
   have hjs:lh s j false=lh s at_ false:=by rw [← hsj,sW ab,sW ab]
   have hjk':k < j:=Nat.lt_of_le_of_ne hj1 fun e=> by have:=hjk e.symm;omega
   refine aK rfl rfl ah ?_
   refine aK rfl rfl ah ?_
   refine aK rfl rfl ah ?_
   refine aK rfl rfl ah ?_
   refine ai (aB _ _ _ rfl bJ) (aJ (hK8 _ ?_))
   clear hK8;try clear K8
   refine aW rfl rfl (bB (id (⟨j,?_,?_,?_⟩)))
   ·exact ⟨hj2,hjs⟩
   ·skip
    refine Le.mkJ [] [] rfl ?_ ?_ trivial trivial ?_
    ·exact ⟨(iV rfl),(co ag),trivial⟩
    ·exact trivial
    kernel_rfl
   omega
  refine am (aX rfl (ai (bC _ _ rfl rfl rfl) (cE rfl (dw (fun hg29=> ?_) (fun hg29=> ?_)))))
  ·skip
   have hs2:lh s (k+1) false=lh s at_ false:=(wH hb ab ab).symm.trans hs
   refine aK rfl rfl ah ?_
   refine aK rfl rfl ah ?_
   refine ai (aB _ _ _ rfl bJ) (cE rfl (aK rfl rfl ah ?_))
   refine aK rfl rfl ah ?_
   refine ai (aB _ _ _ rfl bJ) (aj (bM rfl rfl ?_))
   refine aM (σ':=aE 41 [(0,_),(1,_)] [] [] []) kp ?_
   refine an (aX rfl (ai (aZ _ _ rfl rfl (bD ab)) ?_))
   refine be rfl (aJ (⟨k+1,?_,?_,?_⟩))
   ·exact ⟨by omega,hs2⟩
   ·skip
    refine Le.mkJ [] [] rfl ?_ ?_ trivial trivial ?_
    ·exact ⟨(iV rfl),(co ag),trivial⟩
    ·exact trivial
    kernel_rfl
   omega
  refine au rfl rfl (aH _ eg) (au rfl rfl (bC _ _ rfl rfl rfl) (ai (aB _ _ _ rfl bJ) (cE rfl (dw (fun hg33=> ?_) (fun hg33=> ?_)))))
  ·skip
   have hs2:lh s (k+1) false=lh s at_ false:=(wH hb ab ab).symm.trans hs
   refine aK rfl rfl ah ?_
   refine aK rfl rfl ah ?_
   refine ai (aB _ _ _ rfl bJ) (aj (bM rfl rfl ?_))
   refine aM (σ':=aE 41 [(0,_),(1,_)] [] [] []) kp ?_
   refine an (aX rfl (ai (aZ _ _ rfl rfl (bD ab)) ?_))
   refine be rfl (aJ (⟨k+1,?_,?_,?_⟩))
   ·exact ⟨by omega,hs2⟩
   ·skip
    refine Le.mkJ [] [] rfl ?_ ?_ trivial trivial ?_
    ·exact ⟨(iV rfl),(co ag),trivial⟩
    ·exact trivial
    kernel_rfl
   omega
  refine au rfl rfl (aH _ eg) (au rfl rfl (bC _ _ rfl rfl rfl) (ai (aB _ _ _ rfl bJ) (aj (aR rfl (fun hc36=> ?_) (fun hc36=> ?_)))))
  ·skip
   have hs2:lh s (k+1) false=lh s at_ false:=(wH hb ab ab).symm.trans hs
   refine aM (σ':=aE 41 [(0,_),(1,_)] [] [] []) kp ?_
   refine an (aX rfl (ai (aZ _ _ rfl rfl (bD ab)) ?_))
   refine be rfl (aJ (⟨k+1,?_,?_,?_⟩))
   ·exact ⟨by omega,hs2⟩
   ·skip
    refine Le.mkJ [] [] rfl ?_ ?_ trivial trivial ?_
    ·exact ⟨(iV rfl),(co ag),trivial⟩
    ·exact trivial
    kernel_rfl
   omega
  have hs3:=(DX hb ab ab).symm.trans hs
  refine aq ?_
  refine aM (σ':=aE 41 [(1,_)] [] [] []) kp ?_
  refine an (aX rfl (be rfl (aj (aG (rK rfl rfl ?_)))))
  rw [hs3]
 refine bB (id (hK2 _ ?_))
 clear hK2;try clear K2
 refine am (aX rfl (be rfl (aj (aG (rK rfl rfl ?_)))))
 rw [← hs,sW ab]
theorem qW (s:Tx) (h1:s.length≤100000) (hd: ∀ b∈s,gJ b=true) (hv:li s≤2147483647):Spec Tryz.prog 223 (ba [.v (bt s)] []) (aP (.v (.int .i64 (li s:Int))) []):=by
 have hvt:=fun i=> yM s i
 refine Spec.ofN Tryz.func223 rfl Tryz.ntmps223 rfl ?_
 refine am (be rfl (aj (am (be rfl (aj (aU fun K3 hK3=> ?_))))))
 refine am (be rfl (aj (ay ?_)))
 refine bq (α:=Nat) (fun k=> k≤s.length) 22 [(0,_)] [] (fun k=> [(3, .v (.int .i64 (li (s.take k):Int))),(4, .v (.int .i64 (k:Int)))]) (fun k=> []) [] [] (fun k=> s.length - k) 0 ?_ (by
  refine Le.mkJ [] [] rfl ?_ ?_ trivial trivial ?_
  ·exact ⟨(iV rfl),(co ag),(co ag),trivial⟩
  ·exact trivial
  kernel_rfl) ?_
 ·omega
 intro k hk
 refine aU fun K5 hK5=> ?_
 refine am (aX rfl (ej rfl (ai (ii _ Tryz.underlying9 rfl) (ai (bl _ _ rfl rfl rfl) (aj (aR rfl (fun hc8=> ?_) (fun hc8=> ?_)))))))
 ·skip
  obtain ⟨b,hb⟩:=kM (s:=s) (a:=k) ab
  have hbi:=LZ b
  have hbd:=(tV b).1 (hd b (List.mem_of_getElem? hb))
  have hvs:=zf hb
  have hv0:=hvt k
  have hv1:=hvt (k+1)
  have hvi:(10:Int)*(li (s.take k):Int)+(b.toNat:Int) - 48=(li (s.take (k+1)):Int):=by omega
  refine bs (hK5 _ ?_)
  clear hK5;try clear K5
  refine aq (ay (am (aX rfl (ai (BH _ _ rfl rfl (bD ab)) ?_))))
  refine ej rfl (aX rfl (ai (lC _ _ Tryz.underlying9 rfl rfl (by assumption)) ?_))
  refine ai (ti _ Tryz.underlying5 Tryz.underlying3 rfl (bD ab)) ?_
  refine ai (aZ _ _ rfl rfl (bD ab)) ?_
  refine ai (jt _ _ rfl rfl (bD ab)) ?_
  refine be rfl (aj (am (aX rfl (ai (fM _ _ rfl rfl rfl) (aj (aW rfl (decide_eq_false ab) ?_))))))
  refine cp ?_
  refine aM (σ':=aE 22 [(0,_),(3,_),(4,_)] [] [] []) kp ?_
  refine an (aX rfl (ai (aZ _ _ rfl rfl (bD ab)) ?_))
  refine be rfl (aJ (⟨k+1,?_,?_,?_⟩))
  ·omega
  ·skip
   refine Le.mkJ [] [] rfl ?_ ?_ trivial trivial ?_
   ·exact ⟨(iV rfl),(co ab),(co ag),trivial⟩
   ·exact trivial
   kernel_rfl
  omega
 have he:s.take k=s:=List.take_of_length_le ab
 refine bB (id (hK3 _ ?_))
 clear hK3;try clear K3
 refine am (aX rfl (be rfl (aj (aG (rK rfl rfl ?_)))))
 rw [he]

theorem Dg {p:UInt8→Bool} {c:UInt8}: ∀ {l:List UInt8},c∈l.takeWhile p→p c=true
 | [],h=> by simp at h
 | x::l,h=> by
  rw [List.takeWhile_cons] at h
  split at h
  ·rename_i hx
   rcases List.mem_cons.1 h with rfl | h
   ·exact hx
   exact Dg h
  simp at h
def uJ (c:UInt8):Bool:=nr c || gJ c
theorem rS {s:Tx} {a:Nat} {b:UInt8} {t:Tk} (hb:s[a]? =some b) (h1:nr b=true) (h:rh (s.drop a) a=some t):lN uJ s (a+1) - a≤10∧t=⟨1,a,(s.drop a).take (lN uJ s (a+1) - a),0⟩:=by
 rw [vq hb]
 rw [gm hb,rh] at h
 simp only [h1,if_true] at h
 rw [show lN uJ s (a+1) - a=(b::(s.drop (a+1)).takeWhile fun x=> nr x || gJ x).length by unfold lN uJ;rw [List.length_cons];omega]
 split at h
 ·cases h
 rename_i hl;exact ⟨by omega,(Option.some.inj h).symm⟩
theorem uk {s:Tx} {a:Nat} {b:UInt8} {t:Tk} (hb:s[a]? =some b) (h1:nr b=false) (h2:gJ b=true) (h:rh (s.drop a) a=some t):
  (∀ c∈(s.drop a).take (lN gJ s (a+1) - a),gJ c=true)∧li ((s.drop a).take (lN gJ s (a+1) - a))≤2147483647∧t=⟨2,a,(s.drop a).take (lN gJ s (a+1) - a),li ((s.drop a).take (lN gJ s (a+1) - a))⟩:=by
 rw [vq hb]
 rw [gm hb,rh] at h
 simp only [h1,h2,if_true] at h
 simp only [Bool.false_eq_true,if_false] at h
 split at h
 ·cases h
 rename_i hl
 refine ⟨fun c hc=> ?_,by omega,(Option.some.inj h).symm⟩
 rcases List.mem_cons.1 hc with rfl | hc
 ·exact h2
 exact Dg hc
theorem uU {s:Tx} {a:Nat} {b:UInt8} {t:Tk} (hb:s[a]? =some b) (h1:nr b=false) (h2:gJ b=false) (h:rh (s.drop a) a=some t):
  ((s.drop a).take 2∈Gc∧t=⟨3,a,(s.drop a).take 2,0⟩)∨((s.drop a).take 2∉Gc∧(s.drop a).take 1∈Hb∧t=⟨3,a,(s.drop a).take 1,0⟩):=by
 rw [gm hb,rh] at h
 simp only [h1,h2,Bool.false_eq_true,if_false] at h
 rw [gm hb]
 split at h
 ·rename_i hm;exact .inl ⟨hm,(Option.some.inj h).symm⟩
 rename_i hm
 split at h
 ·rename_i hs;exact .inr ⟨hm,hs,(Option.some.inj h).symm⟩
 cases h
theorem xX {s:Tx} {a:Nat} (h:a < s.length):(s.drop a).take (min (a+2) s.length - a)=(s.drop a).take 2:=by
 by_cases h2:a+2≤s.length
 ·congr 1;omega
 rw [List.take_of_length_le (by rw [List.length_drop];omega),List.take_of_length_le (by rw [List.length_drop];omega)]
theorem we (s:Tx) (a:Nat) (h1:s.length≤100000) (ha:a < s.length) (t:Tk) (ht:rh (s.drop a) a=some t):
  Spec Tryz.prog 195 (ba [.v (bt s), .v (.int .i64 (a:Int))] []) (aP (.tup [.agg [.v (.int .i64 (t.k:Int)), .v (.int .i64 (t.a:Int)), .v (bt t.t), .v (.int .i64 (t.n:Int))], .v (.int .i64 0)]) []):=by
 obtain ⟨b,hb⟩:=kM ha
 have hwl:=sE (p:=uJ) (s:=s) (a:=a+1) ab
 have hdl:=sE (p:=gJ) (s:=s) (a:=a+1) ab
 refine Spec.ofN Tryz.func195 rfl Tryz.ntmps195 rfl ?_
 refine am (ai (aD (4,0) aa rfl rfl) (be rfl (aj (am (aX rfl (ai (aZ _ _ rfl rfl (bD ab)) ?_))))))
 refine be rfl (aj (aq (am (ej rfl (aX rfl (ai (lC _ _ Tryz.underlying9 rfl rfl (by assumption)) ?_))))))
 refine ai (aI aa al (pm b) rfl rfl) ?_
 refine aj (aR rfl (fun hc15=> ?_) (fun hc15=> ?_))
 ·skip
  obtain ⟨htl,hte⟩:=rS hb hc15 ht
  refine aU fun K5 hK5=> ?_
  refine ay ?_
  refine bq (α:=Nat) (fun e=> a+1≤e∧e≤s.length∧lN uJ s e=lN uJ s (a+1)) 101 [(0,_),(1,_),(4,_)] [((4,0),_)] (fun e=> [(6, .v (.int .i64 (e:Int)))]) (fun e=> []) [] [] (fun e=> s.length - e) (a+1) ?_ (by
   refine Le.mkJ [] [] rfl ?_ ?_ trivial trivial ?_
   ·exact ⟨(iV rfl),(iV rfl),(iP rfl),(co ag),trivial⟩
   ·exact ⟨(bF rfl rfl rfl),trivial⟩
   kernel_rfl) ?_
  ·exact ⟨Nat.le_refl _,by omega,rfl⟩
  intro e he
  obtain ⟨he1,he2,het⟩:=he
  refine aU fun K6 hK6=> ?_
  refine aU fun K7 hK7=> ?_
  refine an (aX rfl (ej rfl (ai (ii _ Tryz.underlying9 rfl) (ai (bl _ _ rfl rfl rfl) (cE rfl (dw (fun hg20=> ?_) (fun hg20=> ?_)))))))
  ·skip
   obtain ⟨u,hu⟩:=kM (s:=s) (a:=e) ab
   refine au rfl rfl (aH _ xD) (au rfl rfl (aH _ eg) (au rfl rfl (lC _ _ Tryz.underlying9 rfl rfl (by assumption)) ?_))
   refine au rfl rfl (aI aa al (pm u) rfl rfl) ?_
   refine au rfl rfl (aH _ bJ) (dw (fun hg25=> ?_) (fun hg25=> ?_))
   ·skip
    have hnx:lN uJ s (e+1)=lN uJ s (a+1):=(tj hu (by unfold uJ;rw [hg25];rfl)).symm.trans het
    refine aK rfl rfl ah ?_
    refine aK rfl rfl ah ?_
    refine aK rfl rfl ah ?_
    refine aK rfl rfl ah ?_
    refine au rfl rfl (aB _ _ _ rfl bJ) (ai (aB _ _ _ rfl bJ) (aJ (hK7 _ ?_)))
    clear hK7;try clear K7
    refine bM rfl rfl (bs (hK6 _ ?_))
    clear hK6;try clear K6
    refine ay ?_
    refine aM (σ':=aE 101 [(0,_),(1,_),(4,_),(6,_)] [((4,0),_)] [] []) kp ?_
    refine an (aX rfl (ai (aZ _ _ rfl rfl (bD ab)) ?_))
    refine be rfl (aJ (⟨e+1,?_,?_,?_⟩))
    ·exact ⟨by omega,by omega,hnx⟩
    ·skip
     refine Le.mkJ [] [] rfl ?_ ?_ trivial trivial ?_
     ·exact ⟨(iV rfl),(iV rfl),(iP rfl),(co ag),trivial⟩
     ·exact ⟨(bF rfl rfl rfl),trivial⟩
     kernel_rfl
    omega
   refine au rfl rfl (aH _ xD) (au rfl rfl (aH _ eg) (au rfl rfl (lC _ _ Tryz.underlying9 rfl rfl (by assumption)) ?_))
   refine au rfl rfl (aI aa al (mM u) rfl rfl) ?_
   refine au rfl rfl (aB _ _ _ rfl bJ) (ai (aB _ _ _ rfl bJ) (aJ (hK7 _ ?_)))
   clear hK7;try clear K7
   refine aR rfl (fun hc31=> ?_) (fun hc31=> ?_)
   ·skip
    have hnx:lN uJ s (e+1)=lN uJ s (a+1):=(tj hu (by unfold uJ;rw [hg25,hc31];rfl)).symm.trans het
    refine bs (hK6 _ ?_)
    clear hK6;try clear K6
    refine ay ?_
    refine aM (σ':=aE 101 [(0,_),(1,_),(4,_),(6,_)] [((4,0),_)] [] []) kp ?_
    refine an (aX rfl (ai (aZ _ _ rfl rfl (bD ab)) ?_))
    refine be rfl (aJ (⟨e+1,?_,?_,?_⟩))
    ·exact ⟨by omega,by omega,hnx⟩
    ·skip
     refine Le.mkJ [] [] rfl ?_ ?_ trivial trivial ?_
     ·exact ⟨(iV rfl),(iV rfl),(iP rfl),(co ag),trivial⟩
     ·exact ⟨(bF rfl rfl rfl),trivial⟩
     kernel_rfl
    omega
   have hfin:e=lN uJ s (a+1):=(Bx hu (by unfold uJ;rw [hg25,hc31];rfl)).symm.trans het
   refine bB (id (hK5 _ ?_))
   clear hK5;try clear K5
   refine aq (aq ?_)
   refine aM (σ':=aE 101 [(0,_),(1,_),(4,_),(6,_)] [((4,0),_)] [] []) kp ?_
   refine an (aX rfl (aX rfl (ai (jt _ _ rfl rfl (bD ab)) ?_)))
   refine ai (fM _ _ rfl rfl rfl) (aj (aW rfl (decide_eq_false ab) ?_))
   refine aT (am (aX rfl (ej rfl (aX rfl (aX rfl (ai (lE _ _ _ Tryz.underlying9 rfl _ _ (.lit rfl rfl) (.lit rfl rfl) ab ab rfl) ?_))))))
   refine ai (aN _ aa rfl (by exact kK)) ?_
   refine bG rfl rfl rfl rfl rfl rfl (be rfl (aj (aG ?_)))
   subst hte;subst hfin
   exact jW (.inr rfl) rfl (.cellA aa rfl rfl rfl) (.tmp lb) (Le.out [] [] (.tup rfl lz) rfl rfl rfl trivial trivial)
  have hfin:e=lN uJ s (a+1):=(xt ab).symm.trans het
  refine aK rfl rfl ah ?_
  refine aK rfl rfl ah ?_
  refine aK rfl rfl ah ?_
  refine aK rfl rfl ah ?_
  refine aK rfl rfl ah ?_
  refine eN rfl rfl (eN rfl rfl (eN rfl rfl (eN rfl rfl (aK rfl rfl ah ?_))))
  refine ai (aB _ _ _ rfl bJ) (aJ (hK7 _ ?_))
  clear hK7;try clear K7
  refine aW rfl rfl (bB (id (hK5 _ ?_)))
  clear hK5;try clear K5
  refine aq (aq ?_)
  refine aM (σ':=aE 101 [(0,_),(1,_),(4,_),(6,_)] [((4,0),_)] [] []) kp ?_
  refine an (aX rfl (aX rfl (ai (jt _ _ rfl rfl (bD ab)) ?_)))
  refine ai (fM _ _ rfl rfl rfl) (aj (aW rfl (decide_eq_false ab) ?_))
  refine aT (am (aX rfl (ej rfl (aX rfl (aX rfl (ai (lE _ _ _ Tryz.underlying9 rfl _ _ (.lit rfl rfl) (.lit rfl rfl) ab ab rfl) ?_))))))
  refine ai (aN _ aa rfl (by exact kK)) ?_
  refine bG rfl rfl rfl rfl rfl rfl (be rfl (aj (aG ?_)))
  subst hte;subst hfin
  exact jW (.inr rfl) rfl (.cellA aa rfl rfl rfl) (.tmp lb) (Le.out [] [] (.tup rfl lz) rfl rfl rfl trivial trivial)
 have hlb:=hc15
 refine aT (aq (am (ej rfl (aX rfl (ai (lC _ _ Tryz.underlying9 rfl rfl (by assumption)) ?_)))))
 refine ai (aI aa al (mM b) rfl rfl) ?_
 refine aj (aR rfl (fun hc48=> ?_) (fun hc48=> ?_))
 ·skip
  obtain ⟨htd,htv,hte⟩:=uk hb hlb hc48 ht
  refine aU fun K16 hK16=> ?_
  refine ay ?_
  refine bq (α:=Nat) (fun e=> a+1≤e∧e≤s.length∧lN gJ s e=lN gJ s (a+1)) 101 [(0,_),(1,_),(4,_)] [((4,0),_)] (fun e=> [(6, .v (.int .i64 (e:Int)))]) (fun e=> []) [] [] (fun e=> s.length - e) (a+1) ?_ (by
   refine Le.mkJ [] [] rfl ?_ ?_ trivial trivial ?_
   ·exact ⟨(iV rfl),(iV rfl),(iP rfl),(co ag),trivial⟩
   ·exact ⟨(bF rfl rfl rfl),trivial⟩
   kernel_rfl) ?_
  ·exact ⟨Nat.le_refl _,by omega,rfl⟩
  intro e he
  obtain ⟨he1,he2,het⟩:=he
  refine aU fun K17 hK17=> ?_
  refine aU fun K18 hK18=> ?_
  refine an (aX rfl (ej rfl (ai (ii _ Tryz.underlying9 rfl) (ai (bl _ _ rfl rfl rfl) (cE rfl (dw (fun hg53=> ?_) (fun hg53=> ?_)))))))
  ·skip
   obtain ⟨u,hu⟩:=kM (s:=s) (a:=e) ab
   refine au rfl rfl (aH _ xD) (au rfl rfl (aH _ eg) (au rfl rfl (lC _ _ Tryz.underlying9 rfl rfl (by assumption)) ?_))
   refine au rfl rfl (aI aa al (mM u) rfl rfl) ?_
   refine ai (aB _ _ _ rfl bJ) (aJ (hK18 _ ?_))
   clear hK18;try clear K18
   refine aR rfl (fun hc58=> ?_) (fun hc58=> ?_)
   ·skip
    have hnx:lN gJ s (e+1)=lN gJ s (a+1):=(tj hu hc58).symm.trans het
    refine bs (hK17 _ ?_)
    clear hK17;try clear K17
    refine ay (an (aX rfl (ai (aZ _ _ rfl rfl (bD ab)) ?_)))
    refine be rfl (aJ (⟨e+1,?_,?_,?_⟩))
    ·exact ⟨by omega,by omega,hnx⟩
    ·skip
     refine Le.mkJ [] [] rfl ?_ ?_ trivial trivial ?_
     ·exact ⟨(iV rfl),(iV rfl),(iP rfl),(co ag),trivial⟩
     ·exact ⟨(bF rfl rfl rfl),trivial⟩
     kernel_rfl
    omega
   have hfin:e=lN gJ s (a+1):=(Bx hu hc58).symm.trans het
   refine bB (id (hK16 _ ?_))
   clear hK16;try clear K16
   refine am (ej rfl (aX rfl (aX rfl (ai (lE _ _ _ Tryz.underlying9 rfl _ _ (.lit rfl rfl) (.lit rfl rfl) ab ab rfl) ?_))))
   refine ai (aI aa al (qW ((s.drop a).take (e - a)) (by simp;omega) (by rw [hfin];exact htd) (by rw [hfin];exact htv)) rfl rfl) ?_
   refine be rfl (aj (aq (aq ?_)))
   refine aM (σ':=aE 101 [(0,_),(1,_),(4,_),(6,_),(7,_)] [((4,0),_)] [] []) kp ?_
   refine an (aX rfl (ai (bl _ _ rfl rfl rfl) (aj (aW rfl (decide_eq_false ab) ?_))))
   refine aT (am (aX rfl (ej rfl (aX rfl (aX rfl (ai (lE _ _ _ Tryz.underlying9 rfl _ _ (.lit rfl rfl) (.lit rfl rfl) ab ab rfl) ?_))))))
   refine aX rfl (ai (aN _ aa rfl (by exact kK)) ?_)
   refine bG rfl rfl rfl rfl rfl rfl (be rfl (aj (aG ?_)))
   subst hte;subst hfin
   exact jW (.inr rfl) rfl (.cellA aa rfl rfl rfl) (.tmp lb) (Le.out [] [] (.tup rfl lz) rfl rfl rfl trivial trivial)
  have hfin:e=lN gJ s (a+1):=(xt ab).symm.trans het
  refine aK rfl rfl ah ?_
  refine aK rfl rfl ah ?_
  refine aK rfl rfl ah ?_
  refine aK rfl rfl ah ?_
  refine ai (aB _ _ _ rfl bJ) (aJ (hK18 _ ?_))
  clear hK18;try clear K18
  refine aW rfl rfl (bB (id (hK16 _ ?_)))
  clear hK16;try clear K16
  refine am (ej rfl (aX rfl (aX rfl (ai (lE _ _ _ Tryz.underlying9 rfl _ _ (.lit rfl rfl) (.lit rfl rfl) ab ab rfl) ?_))))
  refine ai (aI aa al (qW ((s.drop a).take (e - a)) (by simp;omega) (by rw [hfin];exact htd) (by rw [hfin];exact htv)) rfl rfl) ?_
  refine be rfl (aj (aq (aq ?_)))
  refine aM (σ':=aE 101 [(0,_),(1,_),(4,_),(6,_),(7,_)] [((4,0),_)] [] []) kp ?_
  refine an (aX rfl (ai (bl _ _ rfl rfl rfl) (aj (aW rfl (decide_eq_false ab) ?_))))
  refine aT (am (aX rfl (ej rfl (aX rfl (aX rfl (ai (lE _ _ _ Tryz.underlying9 rfl _ _ (.lit rfl rfl) (.lit rfl rfl) ab ab rfl) ?_))))))
  refine aX rfl (ai (aN _ aa rfl (by exact kK)) ?_)
  refine bG rfl rfl rfl rfl rfl rfl (be rfl (aj (aG ?_)))
  subst hte;subst hfin
  exact jW (.inr rfl) rfl (.cellA aa rfl rfl rfl) (.tmp lb) (Le.out [] [] (.tup rfl lz) rfl rfl rfl trivial trivial)
 have hsy:=uU hb hlb hc48 ht
 refine aT (am (ej rfl (aX rfl (aX rfl (ai (aZ _ _ rfl rfl (bD ab)) ?_)))))
 refine ej rfl (ai (ii _ Tryz.underlying9 rfl) (ai (Cq _ _ rfl rfl rfl) (ai (lE _ _ _ Tryz.underlying9 rfl a (min (a+2) s.length) (.lit rfl rfl) (.lit rfl ab) ab ab (xX ha)) ?_)))
 refine oH rfl (aj (aq (aq ?_)))
 refine aM (σ':=aE 101 [(0,_),(1,_),(4,_),(6,_),(8,_)] [((4,0),_)] [] []) kp ?_
 refine an (ai (bh _ _ aa rfl ag (by (simp <;> rfl)) ah rfl) ?_)
 refine ej rfl (ai (aI aa al (qo Gc 6 rfl ab ((s.drop a).take 2)) rfl rfl) ?_)
 refine aj (aR rfl (fun hc86=> ?_) (fun hc86=> ?_))
 ·skip
  have hte:t=⟨3,a,(s.drop a).take 2,0⟩:=hsy.elim (·.2) fun h=> absurd hc86 h.1
  refine am (aX rfl (ej rfl (ai (aN _ aa rfl (by exact kK)) ?_)))
  refine bG rfl rfl rfl rfl rfl rfl (be rfl (aj (aG ?_)))
  subst hte
  exact jW (.inr rfl) rfl (.cellA aa rfl rfl rfl) (.tmp lb) (Le.out [] [] (.tup rfl lz) rfl rfl rfl trivial trivial)
 obtain ⟨_,hs1,hte⟩:=hsy.resolve_left fun h=> hc86 h.1
 refine aT (am (ej rfl (aX rfl (aX rfl (ai (lE _ _ _ Tryz.underlying9 rfl a (a+1) (.lit rfl rfl) (.lit rfl rfl) ab ab (by rw [Nat.add_sub_cancel_left])) ?_)))))
 refine oH rfl (aj (aq (am (ai (bh _ _ aa rfl ag (by (simp <;> rfl)) ah rfl) ?_))))
 refine ej rfl (ai (aI aa al (qo Hb 16 rfl ab ((s.drop a).take 1)) rfl rfl) ?_)
 refine aj (bM rfl (decide_eq_true hs1) ?_)
 refine am (aX rfl (ej rfl (ai (aN _ aa rfl (by exact kK)) ?_)))
 refine bG rfl rfl rfl rfl rfl rfl (be rfl (aj (aG ?_)))
 subst hte
 exact jW (.inr rfl) rfl (.cellA aa rfl rfl rfl) (.tmp lb) (Le.out [] [] (.tup rfl lz) rfl rfl rfl trivial trivial)
theorem mT {f:Nat} {s:Tx} {a:Nat} {l:List Tk} (h:nV (f+1) s a=some l):(s.length≤a∧l=[⟨0,s.length,[],0⟩])∨(a < s.length∧ ∃ t m,rh (s.drop a) a=some t∧nV f s (lh s (a+t.t.length) false)=some m∧l=t::m):=by
 unfold nV at h
 split at h
 ·exact .inl ⟨by assumption,(Option.some.inj h).symm⟩
 split at h
 ·cases h
 split at h
 ·cases h
 rename_i t ht _ m hm
 exact .inr ⟨by omega,t,m,ht,hm,(Option.some.inj h).symm⟩
theorem um {s:Tx} {a:Nat} {t:Tk} (ha:a < s.length) (h:rh (s.drop a) a=some t):0 < t.t.length∧a+t.t.length≤s.length:=by
 obtain ⟨b,hb⟩:=kM ha
 have key: ∀ k,0 < k→0 < ((s.drop a).take k).length∧a+((s.drop a).take k).length≤s.length:=fun k hk=> by rw [List.length_take,List.length_drop];omega
 cases h1:nr b with
 | true=> obtain ⟨_,rfl⟩:=rS hb h1 h;exact key _ (by have:=sE (p:=uJ) (s:=s) (a:=a+1) ab;omega)
 | false=>
  cases h2:gJ b with
  | true=> obtain ⟨_,_,rfl⟩:=uk hb h1 h2 h;exact key _ (by have:=sE (p:=gJ) (s:=s) (a:=a+1) ab;omega)
  | false=>
   rcases uU hb h1 h2 h with ⟨_,rfl⟩ | ⟨_,_,rfl⟩
   ·exact key _ ab
   exact key _ ab
def It (s:Tx) (l:List Tk) (z:Nat×List Tk):Prop:=z.1≤s.length∧z.2.length≤z.1∧ ∃ f m,nV f s z.1=some m∧l=z.2++m
theorem ve (s:Tx) (h1:s.length≤100000) (l:List Tk) (hl:EN s=some l):
  Spec Tryz.prog 159 (ba [.v (bt s)] []) (aP (.tup [.sl l.length (tF l), .v (.int .i64 0), .v (.int .i64 0)]) []):=by
 have hs0:=wI (s:=s) (a:=0) (Nat.zero_le _) false
 refine Spec.ofN Tryz.func159 rfl Tryz.ntmps159 rfl ?_
 refine am (ai (bp _ fC) (be rfl (be rfl (aj (am (ai (so (5,0) _ 225 4 rfl rfl) ?_))))))
 refine aj (am (ej rfl (ai (aI aa al (rl s 0 h1 (Nat.zero_le _)) rfl rfl) ?_)))
 refine be rfl (aj (aU fun K4 hK4=> ?_))
 refine ay ?_
 refine bq (α:=Nat×List Tk) (fun z=> It s l z) 42 [(0,_)] [] (fun z=> [(6, .v (.int .i64 (z.1:Int))),(5, .ref (5,0) 0 z.2.length)]) (fun z=> [((5,0), .row 225 4 (tF z.2))]) [] [] (fun z=> s.length - z.1) (lh s 0 false,[]) ?_ (by
  refine Le.mkJ [] [] rfl ?_ ?_ trivial trivial ?_
  ·exact ⟨(iV rfl),(co ag),(cP rfl ag),trivial⟩
  ·exact ⟨(fj rfl rfl rfl ag),trivial⟩
  kernel_rfl) ?_
 ·exact ⟨hs0.2,Nat.zero_le _,s.length+1,l,by rw [← hl];unfold EN lh;rw [List.drop_zero,Nat.zero_add],rfl⟩
 intro z hz
 obtain ⟨hz1,hz2,f,m,hf,hlm⟩:=hz
 obtain ⟨f,rfl⟩: ∃ g,f=g+1:=by cases f with | zero=> (simp [nV] at hf) | succ g=> exact ⟨g,rfl⟩
 refine aU fun K5 hK5=> ?_
 refine am (aX rfl (ej rfl (ai (ii _ Tryz.underlying9 rfl) (ai (bl _ _ rfl rfl rfl) (aj (aR rfl (fun hc14=> ?_) (fun hc14=> ?_)))))))
 ·skip
  obtain ⟨_,t,m',ht,hm',hm⟩:=(mT hf).resolve_left fun h=> by omega
  obtain ⟨htl,hta⟩:=um ab ht
  have hsk:=wI (s:=s) (a:=z.1+t.t.length) hta false
  have hlen:(z.2++[t]).length=z.2.length+1:=by simp
  refine bs (hK5 _ ?_)
  clear hK5;try clear K5
  refine ay (am (ej rfl (aX rfl (ai (aI aa al (we s z.1 h1 ab t ht) rfl rfl) ?_))))
  refine ai (aH _ tQ) (ai (cq _ rfl pF) (ai (cq _ rfl ee) (ai (aD (7,0) aa rfl rfl) (bG rfl rfl rfl rfl rfl rfl (be rfl (aj (aq (am (aX rfl (ai (bL (r:=false) _ _ rfl rfl rfl) ?_))))))))))
  refine aj (aW rfl rfl (aT (aq ?_)))
  refine aM (σ':=aE 42 [(0,_),(5,_),(6,_),(7,_)] [((5,0),_),((7,0),_)] [] []) kp ?_
  refine an (gI rfl (ai (az _ aa rfl rfl rfl rfl) (ai (bh _ _ aa rfl ag (by (simp <;> rfl)) ah rfl) ?_)))
  refine ai (du (28,0) _ _ aa rfl rfl (bu _).symm (.sl rfl) ab rfl (uP _ _) hlen.symm) ?_
  refine fk rfl (aj (an (ej rfl (aX rfl (bb rfl rfl rfl (ai (aF _ aa rfl rfl fA) (ai (ii _ Tryz.underlying9 rfl) (ai (aZ _ _ rfl rfl (bD ab)) ?_))))))))
  refine ai (aI aa al (rl s (z.1+t.t.length) h1 hta) rfl rfl) ?_
  refine be rfl (aJ (⟨(lh s (z.1+t.t.length) false,z.2++[t]),?_,?_,?_⟩))
  ·exact ⟨hsk.2,by simp only;omega,f,m',hm',by rw [hlm,hm];simp⟩
  ·skip
   refine Le.mkJ [((5,0),(28,0))] [] rfl ?_ ?_ trivial trivial ?_
   ·exact ⟨(by repeat' (exact Lv.v)),(co ag),(cP rfl ag),trivial⟩
   ·exact ⟨(fj rfl rfl rfl ag),trivial⟩
   kernel_rfl
  simp only;omega
 obtain ⟨_,hm⟩:=(mT hf).resolve_right fun h=> by omega
 have hlen:(z.2++[(⟨0,s.length,[],0⟩:Tk)]).length=z.2.length+1:=by simp
 rw [hm] at hlm;subst hlm
 refine bB (id (hK4 _ ?_))
 clear hK4;try clear K4
 refine am (gI rfl (ej rfl (ai (ii _ Tryz.underlying9 rfl) (ai (aN _ aa rfl (by exact kK)) ?_))))
 refine ai (bh _ _ aa rfl ag (by (simp <;> rfl)) ah rfl) ?_
 refine ai (du (41,0) _ _ aa rfl rfl (bu _).symm (.sl rfl) ab rfl (uP _ ⟨0,s.length,[],0⟩) hlen.symm) ?_
 exact fk rfl (be rfl (be rfl (aj (aG (vE (.inr rfl) rfl (.tmp dW) (.tmp lb) (.tmp lb) (Le.out [] [(41,0)] (.tup rfl (ax (fi rfl rfl (bu _).symm rfl) lz)) rfl rfl rfl tr trivial))))))
end Go.Proofs.YtmjnackchaahbaaGreat
