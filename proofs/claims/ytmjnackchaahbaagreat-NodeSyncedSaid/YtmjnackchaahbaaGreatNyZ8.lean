/- Part 8 of the texts that the walk leans on: the machine, the walks, the plain laws. -/
import Derived.Test.YtmjnackchaahbaaGreatNyZ7
set_option linter.unusedSimpArgs false
set_option linter.unusedVariables false
namespace Go.Proofs.YtmjnackchaahbaaGreat
open Go.RowKit

def fv:Ex→Nat
 | .int _=> 1 | .bool _=> 2 | .var _=> 1 | .name _=> 1
 | .draw e=> if fv e=1 then 1 else 0
 | .neg e=> if fv e=1 then 1 else 0
 | .not e=> if fv e=2 then 2 else 0
 | .bin o a b=> if fv a=1∧fv b=1 then (match o with | .add=> 1 | .sub=> 1 | .mul=> 1 | .div=> 1 | _=> 2) else 0
 | .and a b=> if fv a=2∧fv b=2 then 2 else 0
 | .or a b=> if fv a=2∧fv b=2 then 2 else 0
def pi (e:Ex):Bool:=Nat.beq (fv e) 1
mutual
def xZ:Sm→Bool
 | .assign _ e=> pi e
 | .send t _ a b=> pi t && pi a && pi b
 | .timer _=> true | .cancel _=> true | .sync=> true | .stop=> true
 | .reply a b=> pi a && pi b
 | .fail e=> pi e
 | .loop c b=> Nat.beq (fv c) 2 && pP b
 | .ite c a b=> Nat.beq (fv c) 2 && pP a && pP b
def pP:Bk→Bool
 | .nil=> true
 | .cons s b=> xZ s && pP b
end
def fj (nv:Nat):Ex→Bool
 | .int n=> decide (-2147483647≤n) && decide (n≤2147483647)
 | .bool _=> true
 | .var i=> decide (i < nv)
 | .name k=> decide (k < 9)
 | .draw e=> fj nv e | .neg e=> fj nv e | .not e=> fj nv e
 | .bin _ a b=> fj nv a && fj nv b
 | .and a b=> fj nv a && fj nv b
 | .or a b=> fj nv a && fj nv b
mutual
def mt (nv:Nat):Sm→Bool
 | .assign i e=> decide (i < nv) && fj nv e
 | .send t k a b=> decide (k < 30) && fj nv t && fj nv a && fj nv b
 | .timer k=> decide (k < 8) | .cancel k=> decide (k < 8) | .sync=> true | .stop=> true
 | .reply a b=> fj nv a && fj nv b
 | .fail e=> fj nv e
 | .loop c b=> fj nv c && qO nv b
 | .ite c a b=> fj nv c && qO nv a && qO nv b
def qO (nv:Nat):Bk→Bool
 | .nil=> true
 | .cons s b=> mt nv s && qO nv b
end
theorem dx (nv:Nat): ∀ e,fj nv e=true→gZ nv e
 | .int n,h=> by simpa [fj,gZ] using h
 | .bool _,_=> trivial
 | .var i,h=> by simpa [fj,gZ] using h
 | .name k,h=> by simpa [fj,gZ] using h
 | .draw e,h=> dx nv e h
 | .neg e,h=> dx nv e h
 | .not e,h=> dx nv e h
 | .bin _ a b,h=> by simp only [fj,Bool.and_eq_true] at h;exact ⟨dx nv a h.1,dx nv b h.2⟩
 | .and a b,h=> by simp only [fj,Bool.and_eq_true] at h;exact ⟨dx nv a h.1,dx nv b h.2⟩
 | .or a b,h=> by simp only [fj,Bool.and_eq_true] at h;exact ⟨dx nv a h.1,dx nv b h.2⟩
mutual
theorem Bu (nv:Nat): ∀ s,mt nv s=true→gH nv s
 | .assign i e,h=> by simp only [mt,Bool.and_eq_true,decide_eq_true_eq] at h;exact ⟨h.1,dx nv e h.2⟩
 | .send t k a b,h=> by simp only [mt,Bool.and_eq_true,decide_eq_true_eq] at h;exact ⟨h.1.1.1,dx nv t h.1.1.2,dx nv a h.1.2,dx nv b h.2⟩
 | .timer k,h=> by simpa [mt,gH] using h
 | .cancel k,h=> by simpa [mt,gH] using h
 | .sync,_=> by simp [gH]
 | .stop,_=> by simp [gH]
 | .reply a b,h=> by simp only [mt,Bool.and_eq_true] at h;exact ⟨dx nv a h.1,dx nv b h.2⟩
 | .fail e,h=> by simp only [mt] at h;exact dx nv e h
 | .loop c b,h=> by simp only [mt,Bool.and_eq_true] at h;exact ⟨dx nv c h.1,lO nv b h.2⟩
 | .ite c a b,h=> by simp only [mt,Bool.and_eq_true] at h;exact ⟨dx nv c h.1.1,lO nv a h.1.2,lO nv b h.2⟩
theorem lO (nv:Nat): ∀ b,qO nv b=true→lg nv b
 | .nil,_=> by simp [lg]
 | .cons s b,h=> by simp only [qO,Bool.and_eq_true] at h;exact ⟨Bu nv s h.1,lO nv b h.2⟩
end
structure vy (l:List (Nat×Bk)) (nv:Nat):Prop where
 ok: ∀ p∈l,lg nv p.2
 wl: ∀ p∈l,pP p.2=true
 n:(bT l 0).length≤400
 h: ∀ p∈l,p.1 < 40
 nd:(l.map (·.1)).Nodup
 d: ∀ k∈ml l,k≤8
def srcB (l:List (Nat×Bk)) (nv:Nat):Bool:=l.all (fun p=> qO nv p.2 && pP p.2 && decide (p.1 < 40)) && decide ((bT l 0).length≤400) && decide (l.map (·.1)).Nodup && (ml l).all fun k=> decide (k≤8)
theorem gn {l:List (Nat×Bk)} {nv:Nat} (h:srcB l nv=true):vy l nv:=by
 simp only [srcB,Bool.and_eq_true,List.all_eq_true,decide_eq_true_eq] at h
 exact ⟨fun p hp=> lO nv _ (h.1.1.1 p hp).1.1,fun p hp=> (h.1.1.1 p hp).1.2,h.1.1.2,fun p hp=> (h.1.1.1 p hp).2,h.1.2,h.2⟩
theorem srcOk0:vy ons0 (Dc++AE).length:=gn ae
theorem srcOk1:vy ons1 (BG++De).length:=gn ae
theorem srcOk2:vy ons2 (Ci++Bp).length:=gn ae
theorem srcOk3:vy ons3 (AZ++BV).length:=gn ae
theorem srcOk4:vy ons4 (zR++Df).length:=gn ae
theorem srcOk5:vy ons5 (AC++Bn).length:=gn ae
theorem srcOk6:vy ons6 (Cl++zF).length:=gn ae
theorem srcOk7:vy ons7 (zY++BA).length:=gn ae
theorem srcOk8:vy ons8 (CG++CF).length:=gn ae
theorem srcOk9:vy ons9 (Cs++zE).length:=gn ae
theorem srcOk10:vy ons10 (ud++uc).length:=gn ae
theorem srcOk11:vy ons11 (uw++vh).length:=gn ae
def xx (l:List (Nat×Bk)) (i:Nat):Nat:=(ml l).getD i 0
theorem sr (l:List (Nat×Bk)):Fit (xx l) 0 (ml l):=fun k d h=> by
 unfold xx
 rw [Nat.zero_add,List.getD_eq_getElem?_getD,h];rfl

abbrev DS:=List Int×Bool×Bool
def jF (n:Nat) (d:Int) (s:DS) (j:Nat):DS:=
 if n≤j then s else if s.1.getD j (-1) < 0 then (s.1.set j d,s.2.1,true) else if s.1.getD j (-1)≠d then (s.1,false,s.2.2) else s
def cZ (C:List eU) (i:Nat):eU:=C.getD i { op:= .stop }
def Ep (C:List eU) (i:Nat) (s:DS):Int:=max (s.1.getD i (-1) - (cZ C i).op.pops) 0+(cZ C i).op.puts
def ln (C:List eU) (s:DS) (i:Nat):DS:=
 if s.1.getD i (-1) < 0 then s
 else (dQ i (cZ C i)).foldl (jF C.length (Ep C i s)) (s.1,if s.1.getD i (-1) - (cZ C i).op.pops < 0 then false else s.2.1,s.2.2)
def dy (C:List eU) (s:List Int×Bool) (k:Nat):DS:=(List.range k).foldl (ln C) (s.1,s.2,false)
theorem qQ (C:List eU) (s:List Int×Bool) (k:Nat):dy C s (k+1)=ln C (dy C s k) k:=by simp [dy,List.range_succ,List.foldl_append]
def jJ (C:List eU):Nat→List Int×Bool→List Int×Bool
 | 0,s=> s
 | f+1,s=> if (dy C s C.length).2.2=true then jJ C f ((dy C s C.length).1,(dy C s C.length).2.1) else ((dy C s C.length).1,(dy C s C.length).2.1)
def neg (l:List Int):Nat:=l.countP fun x=> decide (x < 0)
theorem DM {l:List Int} {j:Nat} {d:Int} (hj:j < l.length) (h:l.getD j (-1) < 0) (hd:0≤d):neg (l.set j d)+1=neg l:=by
 unfold neg
 have e:l=l.take j++l[j]::l.drop (j+1):=by rw [List.getElem_cons_drop hj,List.take_append_drop]
 have h':l[j] < 0:=by rwa [List.getD_eq_getElem?_getD,List.getElem?_eq_getElem hj] at h
 rw [List.set_eq_take_append_cons_drop,if_pos hj]
 conv=> rhs;rw [e]
 simp only [List.countP_append,List.countP_cons]
 rw [decide_eq_true h',decide_eq_false (show ¬ d < 0 by omega)]
 simp
 omega
structure DI (D:Nat→Nat) (n:Nat) (s:DS):Prop where
 len:s.1.length=n
 val: ∀ i,i < n→s.1.getD i (-1)= -1∨s.1.getD i (-1)=(D i:Int)
 ok:s.2.1=true
theorem jZ {l:List Int} {j i:Nat} {d:Int}:(l.set j d).getD i (-1)=if i=j∧j < l.length then d else l.getD i (-1):=by
 simp only [List.getD_eq_getElem?_getD,List.getElem?_set]
 by_cases h:j=i
 ·subst h
  by_cases h2:j < l.length
  ·simp [h2]
  simp [h2]
 simp [h,Ne.symm h]
theorem Ef {D:Nat→Nat} {n:Nat} {d:Int} {s:DS} {j:Nat} (h:DI D n s) (hd:d=(D j:Int)):DI D n (jF n d s j)∧neg (jF n d s j).1≤neg s.1∧((jF n d s j).2.2=true→s.2.2=true∨neg (jF n d s j).1 < neg s.1):=by
 unfold jF
 split
 ·exact ⟨h,Nat.le_refl _,fun e=> .inl e⟩
 rename_i hj
 split
 ·rename_i hn
  have:=DM (l:=s.1) (j:=j) (d:=d) (by rw [h.len];omega) hn ab
  refine ⟨⟨by rw [List.length_set];exact h.len,fun i hi=> ?_,h.ok⟩,by simp only;omega,fun _=> .inr (by simp only;omega)⟩
  simp only
  rw [jZ]
  split
  ·rename_i hc;rw [hc.1];exact .inr hd
  exact h.val i hi
 rename_i hn
 have hv:=h.val j ab
 have:s.1.getD j (-1)=d:=by rw [hd];rcases hv with hv | hv <;> omega
 rw [if_neg (fun hc=> hc this)]
 exact ⟨h,Nat.le_refl _,fun e=> .inl e⟩
theorem nn {D:Nat→Nat} {n:Nat} {d:Int}: ∀ (l:List Nat) {s:DS},DI D n s→(∀ j∈l,d=(D j:Int))→DI D n (l.foldl (jF n d) s)∧neg (l.foldl (jF n d) s).1≤neg s.1∧((l.foldl (jF n d) s).2.2=true→s.2.2=true∨neg (l.foldl (jF n d) s).1 < neg s.1)
 | [],s,h,_=> ⟨h,Nat.le_refl _,fun e=> .inl e⟩
 | j::l,s,h,hd=> by
  obtain ⟨a1,a2,a3⟩:=Ef h (hd j (by simp))
  obtain ⟨b1,b2,b3⟩:=nn l a1 fun j hj=> hd j (by simp [hj])
  simp only [List.foldl_cons]
  refine ⟨b1,by omega,fun e=> ?_⟩
  rcases b3 e with e | e
  ·rcases a3 e with e | e
   ·exact .inl e
   exact .inr ab
  exact .inr ab
section
variable {D:Nat→Nat} {nv:Nat} {C:List eU} (hC:Good D nv 0 (C.length - 1) 0 C)
include hC
theorem CB {s:DS} {i:Nat} (hi:i < C.length) (h:DI D C.length s):DI D C.length (ln C s i)∧neg (ln C s i).1≤neg s.1∧((ln C s i).2.2=true→s.2.2=true∨neg (ln C s i).1 < neg s.1):=by
 unfold ln
 split
 ·exact ⟨h,Nat.le_refl _,fun e=> .inl e⟩
 rename_i hn
 have hx:C[i]? =some (cZ C i):=by unfold cZ;rw [List.getD_eq_getElem?_getD,List.getElem?_eq_getElem hi];rfl
 obtain ⟨_,g2,g3⟩:=hC i _ hx
 rw [Nat.zero_add] at g2 g3
 have hv:s.1.getD i (-1)=(D i:Int):=by rcases h.val i hi with hv | hv <;> omega
 have hdo:Ep C i s=((D i - (cZ C i).op.pops+(cZ C i).op.puts:Nat):Int):=by unfold Ep;rw [hv];omega
 rw [if_neg (by rw [hv];omega)]
 exact nn _ ⟨h.len,h.val,h.ok⟩ fun j hj=> by rw [hdo,(g3 j hj).2.2]
theorem lV {s:List Int×Bool} (h:DI D C.length (s.1,s.2,false)): ∀ k,k≤C.length→DI D C.length (dy C s k)∧neg (dy C s k).1≤neg s.1∧((dy C s k).2.2=true→neg (dy C s k).1 < neg s.1)
 | 0,_=> ⟨h,Nat.le_refl _,fun e=> by simp [dy] at e⟩
 | k+1,hk=> by
  obtain ⟨a1,a2,a3⟩:=lV h k ab
  obtain ⟨b1,b2,b3⟩:=CB hC ab a1 (i:=k)
  rw [qQ]
  refine ⟨b1,by omega,fun e=> ?_⟩
  rcases b3 e with e | e
  ·have:=a3 e;omega
  omega
theorem ue: ∀ f (s:List Int×Bool),DI D C.length (s.1,s.2,false)→DI D C.length ((jJ C f s).1,(jJ C f s).2,false)
 | 0,s,h=> h
 | f+1,s,h=> by
  obtain ⟨a1,_,_⟩:=lV hC h C.length (Nat.le_refl _)
  unfold jJ
  split
  ·exact ue f _ ⟨a1.len,a1.val,a1.ok⟩
  exact ⟨a1.len,a1.val,a1.ok⟩
end
theorem wz {C:List eU} {f:Nat} {s:List Int×Bool} (h:(dy C s C.length).2.2=true):jJ C (f+1) s=jJ C f ((dy C s C.length).1,(dy C s C.length).2.1):=by rw [jJ,if_pos h]
theorem wD {C:List eU} {f:Nat} {s:List Int×Bool} (h:(dy C s C.length).2.2=false):jJ C (f+1) s=((dy C s C.length).1,(dy C s C.length).2.1):=by rw [jJ,if_neg (by simp [h])]
def jy (C:List eU) (e:Int):List Int×Bool:=if e < 0∨(C.length:Int)≤e then (List.replicate C.length (-1),true) else jJ C (C.length+1) ((List.replicate C.length (-1)).set e.toNat 0,true)
theorem qE {D:Nat→Nat} {nv:Nat} {C:List eU} (hC:Good D nv 0 (C.length - 1) 0 C) {e:Int} (he:0≤e→e < C.length→D e.toNat=0):DI D C.length ((jy C e).1,(jy C e).2,false):=by
 have hr: ∀ i,(List.replicate C.length (-1:Int)).getD i (-1)= -1:=fun i=> by rw [List.getD_eq_getElem?_getD,List.getElem?_replicate];split <;> rfl
 unfold jy
 split
 ·exact ⟨by simp,fun i _=> .inl (hr i),rfl⟩
 refine ue hC _ _ ⟨by simp,fun i hi=> ?_,rfl⟩
 simp only
 rw [jZ]
 split
 ·rename_i hc
  right
  rw [hc.1,he ab ab];rfl
 exact .inl (hr i)
def lb (C:List eU) (out:List Int) (k:Nat):Int:=(List.range k).foldl (fun m i=> if 0≤out.getD i (-1) then max (max m (out.getD i (-1))) (out.getD i (-1) - (cZ C i).op.pops+(cZ C i).op.puts) else m) 0
theorem qr (C:List eU) (out:List Int) (k:Nat):lb C out (k+1)=if 0≤out.getD k (-1) then max (max (lb C out k) (out.getD k (-1))) (out.getD k (-1) - (cZ C k).op.pops+(cZ C k).op.puts) else lb C out k:=by simp [lb,List.range_succ,List.foldl_append]
theorem Fx (o:Opc):o.puts≤1:=by cases o <;> decide
theorem nX {C:List eU} {out:List Int} {D:Nat→Nat} {n:Nat} {ok ch:Bool} (h:DI D n (out,ok,ch)) {B:Nat} (hB: ∀ i,i < n→D i≤B): ∀ k,k≤n→0≤lb C out k∧lb C out k≤B+1
 | 0,_=> by simp [lb];omega
 | k+1,hk=> by
  obtain ⟨h1,h2⟩:=nX (C:=C) h hB k ab
  have h3:=hB k ab
  have h4:out.getD k (-1)= -1∨out.getD k (-1)=(D k:Int):=h.val k ab
  have h5:=Fx (cZ C k).op
  have h6:=qr C out k
  rw [h6]
  rcases h4 with h4 | h4 <;> rw [h4] <;> split <;> omega
def nC (l:List (Nat×Nat)):List Int:=l.foldl (fun m p=> m.set p.1 (p.2:Int)) (List.replicate 40 (-1))
theorem zW (l:List (Nat×Nat)):(nC l).length=40:=by
 unfold nC
 have: ∀ (l:List (Nat×Nat)) (m:List Int),m.length=40→(l.foldl (fun m p=> m.set p.1 (p.2:Int)) m).length=40:=by
  intro l
  induction l with
  | nil=> exact fun m h=> h
  | cons p l ih=> exact fun m h=> ih _ (by rw [List.length_set];exact h)
 exact this l _ (by simp)
theorem Bh: ∀ (l:List (Nat×Nat)) (h:Nat),(nC l).getD h (-1)= -1∨ ∃ e,(h,e)∈l∧(nC l).getD h (-1)=(e:Int):=by
 unfold nC
 have key: ∀ (l:List (Nat×Nat)) (m:List Int) (h:Nat),(l.foldl (fun m p=> m.set p.1 (p.2:Int)) m).getD h (-1)=m.getD h (-1)∨ ∃ e,(h,e)∈l∧(l.foldl (fun m p=> m.set p.1 (p.2:Int)) m).getD h (-1)=(e:Int):=by
  intro l
  induction l with
  | nil=> exact fun m h=> .inl rfl
  | cons p l ih=>
   intro m h
   simp only [List.foldl_cons]
   rcases ih (m.set p.1 (p.2:Int)) h with e | ⟨e,h1,h2⟩
   ·rw [e,jZ]
    split
    ·rename_i hc
     exact .inr ⟨p.2,by rw [hc.1];exact List.mem_cons_self,rfl⟩
    exact .inl rfl
   exact .inr ⟨e,List.mem_cons_of_mem _ h1,h2⟩
 intro l h
 rcases key l (List.replicate 40 (-1)) h with e | e
 ·left
  rw [e,List.getD_eq_getElem?_getD,List.getElem?_replicate]
  split <;> rfl
 exact .inr e
def kZ (l:List (Nat×Bk)):Bool:=decide ((bT l 0).length≤400) && (List.range 40).all fun h=> decide (lb (bT l 0) (jy (bT l 0) ((nC (ka l 0)).getD h (-1))).1 (bT l 0).length≤16)
theorem vM (l:List (Nat×Bk)) (h:Nat):(nC (ka l 0)).getD h (-1)= -1∨ ∃ e:Nat,(h,e)∈ka l 0∧(nC (ka l 0)).getD h (-1)=(e:Int)∧e < (bT l 0).length∧xx l e=0:=by
 rcases Bh (ka l 0) h with e | ⟨e,h1,h2⟩
 ·exact .inl e
 obtain ⟨_,h4,h5⟩:=xn (sr l) h1
 exact .inr ⟨e,h1,h2,by omega,h5⟩
theorem xO {l:List (Nat×Bk)} {nv:Nat} (hs:vy l nv):kZ l=true:=by
 unfold kZ
 rw [Bool.and_eq_true,decide_eq_true_eq,List.all_eq_true]
 refine ⟨hs.n,fun h _=> ?_⟩
 rw [decide_eq_true_eq]
 have hg:=BO (xx l) nv l 0 0 ((bT l 0).length - 1) hs.ok (sr l) (Nat.le_refl _) ab
 have hd:=qE hg (e:=(nC (ka l 0)).getD h (-1)) (fun h1 h2=> by
  rcases vM l h with e | ⟨e,_,e2,_,e4⟩
  ·omega
  rw [e2];exact e4)
 have hB: ∀ i,i < (bT l 0).length→xx l i≤8:=fun i hi=> by
  unfold xx
  rw [← qP l 0] at hi
  rw [List.getD_eq_getElem?_getD,List.getElem?_eq_getElem hi]
  exact hs.d _ (List.getElem_mem hi)
 have:=(nX (C:=bT l 0) hd hB _ (Nat.le_refl _)).2
 omega

theorem iG {α β:Type} (f:α→List β) (c:Nat) (hf: ∀ a,(f a).length=c): ∀ l:List α,(l.flatMap f).length=l.length*c
 | []=> by simp
 | a::l=> by rw [List.flatMap_cons,List.length_append,hf,iG f c hf l,List.length_cons,Nat.succ_mul];omega
theorem pG {α β:Type} (f:α→List β) (c:Nat) (hf: ∀ a,(f a).length=c): ∀ (l:List α) (k:Nat),(l.flatMap f).drop (k*c)=(l.drop k).flatMap f
 | l,0=> by simp
 | [],k+1=> by simp
 | a::l,k+1=> by
  rw [List.flatMap_cons,List.drop_succ_cons,← pG f c hf l k,List.drop_append,List.drop_eq_nil_of_le (by rw [hf,Nat.succ_mul];omega),List.nil_append,hf]
  congr 1;rw [Nat.succ_mul];omega
theorem ms {α β:Type} (f:α→List β) (c:Nat) (hf: ∀ a,(f a).length=c) (l:List α) (k:Nat) (h:k < l.length):((l.flatMap f).drop (k*c)).take c=f l[k]:=by
 rw [pG f c hf,List.drop_eq_getElem_cons h,List.flatMap_cons,List.take_append_of_le_length (by rw [hf];exact Nat.le_refl _),List.take_of_length_le (by rw [hf];exact Nat.le_refl _)]
theorem lA {α β:Type} (f:α→List β) (c:Nat) (hf: ∀ a,(f a).length=c) (l:List α) (k j:Nat) (h:k < l.length) (hj:j < c):(l.flatMap f)[k*c+j]? =(f l[k])[j]? :=by
 rw [← ms f c hf l k h,List.getElem?_take_of_lt hj,List.getElem?_drop]
theorem jT {α β:Type} (f:α→List β) (l:List α) (a:α):l.flatMap f++f a=(l++[a]).flatMap f:=by simp
theorem CA {α β:Type} (f:α→List β) (l m:List α):l.flatMap f++m.flatMap f=(l++m).flatMap f:=by simp

def fl (l:List Tx):List PV:=l.map fun t=> .v (bt t)
@[simp] theorem bv (l:List Tx):(fl l).length=l.length:=by simp [fl]
theorem jQ (l:List Tx) (k:Nat) (h:k < l.length):(fl l)[k]? =some (.v (bt (l.getD k []))):=by simp [fl,h]
theorem qp (a b:List Tx):fl a++fl b=fl (a++b):=by simp [fl]
theorem mY (a:List Tx) (t:Tx):fl a++[.v (bt t)]=fl (a++[t]):=by simp [fl]
theorem kb {l:List Tx} {k:Nat} (h:k < l.length):l.getD k []∈l:=by
 rw [List.getD_eq_getElem?_getD,List.getElem?_eq_getElem h];exact List.getElem_mem h
theorem kK {α:Type} {l:List α} {k:Nat} {x d:α} (h:x∉l.take k) (hk:k < l.length) (hx:l.getD k d≠x):x∉l.take (k+1):=by
 rw [List.take_succ_eq_append_getElem hk,List.mem_append,List.mem_singleton]
 rintro (h' | h')
 ·exact h h'
 exact hx (by rw [List.getD_eq_getElem?_getD,List.getElem?_eq_getElem hk,h'];rfl)

def GH (t:Tk):List PV:=[.v (.int .i64 (t.k:Int)), .v (.int .i64 (t.a:Int)), .v (bt t.t), .v (.int .i64 (t.n:Int))]
def sY (l:List Tk):List PV:=l.flatMap GH
theorem bu (l:List Tk):(sY l).length=l.length*4:=iG GH 4 (fun _=> rfl) l
theorem vQ (l:List Tk) (k:Nat) (h:k < l.length):di l k=l[k]:=by simp [di,h]
theorem qV (l:List Tk) (k:Nat) (h:k < l.length):(sY l)[k*4]? =some (.v (.int .i64 ((di l k).k:Int))):=by
 rw [vQ l k h];exact lA GH 4 (fun _=> rfl) l k 0 h ab
theorem oa (l:List Tk) (k:Nat) (h:k < l.length):(sY l)[k*4+2]? =some (.v (bt (di l k).t)):=by
 rw [vQ l k h];exact lA GH 4 (fun _=> rfl) l k 2 h ab
theorem nu (l:List Tk) (k:Nat) (h:k < l.length):PV.ups (((sY l).drop (k*4)).take 4)=[.v (.int .i64 ((di l k).k:Int)), .v (.int .i64 ((di l k).a:Int)), .v (bt (di l k).t), .v (.int .i64 ((di l k).n:Int))]:=by
 rw [vQ l k h,show ((sY l).drop (k*4)).take 4=GH l[k] from ms GH 4 (fun _=> rfl) l k h];rfl
theorem uK (l:List Tk) (t:Tk):sY l++GH t=sY (l++[t]):=jT GH l t

theorem gm {s:Tx} {a:Nat} {b:UInt8} (h:s[a]? =some b):s.drop a=b::s.drop (a+1):=by
 obtain ⟨hl,rfl⟩:=List.getElem?_eq_some_iff.1 h
 exact List.drop_eq_getElem_cons hl
theorem kF {s:Tx} {a:Nat} (h:a < s.length): ∃ b,s[a]? =some b:=⟨_,List.getElem?_eq_getElem h⟩
theorem LX (b:UInt8):0≤(b.toNat:Int)∧(b.toNat:Int) < 256:=⟨by omega,by have:=b.toNat_lt;omega⟩
def lc (s:Tx) (a:Nat) (c:Bool):Nat:=a+tL (s.drop a) c
theorem sX {s:Tx} {a:Nat} (h:s.length≤a) (c:Bool):lc s a c=a:=by
 unfold lc;rw [List.drop_eq_nil_of_le h];unfold tL;rfl
theorem GR {s:Tx} {a:Nat} {b:UInt8} (h:s[a]? =some b) (hb:b.toNat=10):lc s a true=lc s a false:=by
 unfold lc;rw [gm h];simp [tL,hb]
theorem HS {s:Tx} {a:Nat} {b:UInt8} (h:s[a]? =some b) (hb:b.toNat≠10):lc s a true=lc s (a+1) true:=by
 unfold lc;rw [gm h];simp [tL,hb];omega
theorem CR {s:Tx} {a:Nat} {b:UInt8} (h:s[a]? =some b) (hb:b.toNat=35):lc s a false=lc s a true:=by
 unfold lc;rw [gm h];simp [tL,hb]
theorem vX {s:Tx} {a:Nat} {b:UInt8} (h:s[a]? =some b) (h0:b.toNat≠35) (hb:b.toNat=32∨b.toNat=9∨b.toNat=10):lc s a false=lc s (a+1) false:=by
 unfold lc;rw [gm h,tL,if_neg h0,if_pos hb];omega
theorem EW {s:Tx} {a:Nat} {b:UInt8} (h:s[a]? =some b) (h0:b.toNat≠35) (hb: ¬ (b.toNat=32∨b.toNat=9∨b.toNat=10)):lc s a false=a:=by
 unfold lc;rw [gm h,tL,if_neg h0,if_neg hb];rfl
theorem oJ: ∀ (l:Tx) (c:Bool),tL l c≤l.length
 | [],c=> by unfold tL;exact Nat.le_refl _
 | x::l,true=> by have h1:=oJ l true;have h2:=oJ l false;unfold tL;split <;> simp only [List.length_cons] <;> omega
 | x::l,false=> by have h1:=oJ l true;have h2:=oJ l false;unfold tL;split <;> (try split) <;> simp only [List.length_cons] <;> omega
theorem vZ {s:Tx} {a:Nat} (h:a≤s.length) (c:Bool):a≤lc s a c∧lc s a c≤s.length:=by
 have:=oJ (s.drop a) c
 rw [List.length_drop] at this
 unfold lc;omega
def lH (p:UInt8→Bool) (s:Tx) (a:Nat):Nat:=a+((s.drop a).takeWhile p).length
theorem xC {p:UInt8→Bool} {s:Tx} {a:Nat} (h:s.length≤a):lH p s a=a:=by
 unfold lH;rw [List.drop_eq_nil_of_le h];rfl
theorem sV {p:UInt8→Bool} {s:Tx} {a:Nat} {b:UInt8} (h:s[a]? =some b) (hb:p b=true):lH p s a=lH p s (a+1):=by
 unfold lH;rw [gm h,List.takeWhile_cons,if_pos hb,List.length_cons];omega
theorem BC {p:UInt8→Bool} {s:Tx} {a:Nat} {b:UInt8} (h:s[a]? =some b) (hb:p b=false):lH p s a=a:=by
 unfold lH;rw [gm h,List.takeWhile_cons,if_neg (by simp [hb])];rfl
theorem sN {p:UInt8→Bool} {s:Tx} {a:Nat} (h:a≤s.length):a≤lH p s a∧lH p s a≤s.length:=by
 have:((s.drop a).takeWhile p).length≤(s.drop a).length:=(List.takeWhile_prefix p).length_le
 rw [List.length_drop] at this
 unfold lH;omega
theorem uM {p:UInt8→Bool} {s:Tx} {a:Nat} {b:UInt8} (h:s[a]? =some b):(s.drop a).take (lH p s (a+1) - a)=b::(s.drop (a+1)).takeWhile p:=by
 rw [gm h,show lH p s (a+1) - a=((s.drop (a+1)).takeWhile p).length+1 by unfold lH;omega,List.take_succ_cons]
 congr 1
 obtain ⟨t,ht⟩:=List.takeWhile_prefix p (l:=s.drop (a+1))
 conv=> lhs;arg 2;rw [← ht]
 rw [List.take_append_of_le_length (Nat.le_refl _),List.take_length]
theorem rq (l:Tx) (b:UInt8):lf (l++[b])=10*lf l+(b.toNat - 48):=by unfold lf;rw [List.foldl_append];rfl
theorem FV (l m:Tx):lf l≤lf (l++m):=by
 induction m generalizing l with
 | nil=> simp
 | cons b m ih=>
  have:=ih (l++[b])
  rw [rq,List.append_assoc] at this
  simp only [List.cons_append,List.nil_append] at this
  omega
theorem ya (l:Tx) (i:Nat):lf (l.take i)≤lf l:=by
 have:=FV (l.take i) (l.drop i)
 rwa [List.take_append_drop] at this
theorem xQ {l:Tx} {i:Nat} {b:UInt8} (h:l[i]? =some b):lf (l.take (i+1))=10*lf (l.take i)+(b.toNat - 48):=by
 obtain ⟨hl,rfl⟩:=List.getElem?_eq_some_iff.1 h
 rw [List.take_succ_eq_append_getElem hl,rq]
theorem AR (b:UInt8):ng b=true↔97≤(b.toNat:Int)∧(b.toNat:Int)≤122:=by
 unfold ng;rw [Bool.and_eq_true,Nat.ble_eq,Nat.ble_eq];omega
theorem uN (b:UInt8):gF b=true↔48≤(b.toNat:Int)∧(b.toNat:Int)≤57:=by
 unfold gF;rw [Bool.and_eq_true,Nat.ble_eq,Nat.ble_eq];omega
theorem GB {b:Bool} {p:Prop} (h:b=true↔p) (hn: ¬ p):b=false:=by
 cases b with
 | false=> rfl
 | true=> exact absurd (h.1 rfl) hn
def inr (x:eU):List PV:=[.v (.int .i64 (x.op.num:Int)), .v (.int .i64 x.n)]
def inl (l:List eU):List PV:=l.flatMap inr
theorem bM (l:List eU):(inl l).length=l.length*2:=iG inr 2 (fun _=> rfl) l
theorem nY (l:List eU) (k:Nat) (h:k < l.length):(inl l)[k*2]? =some (.v (.int .i64 ((cZ l k).op.num:Int))):=by
 rw [show cZ l k=l[k] by simp [cZ,h]];exact lA inr 2 (fun _=> rfl) l k 0 h ab
theorem BN (l:List eU) (k:Nat) (h:k < l.length):(inl l)[k*2+1]? =some (.v (.int .i64 (cZ l k).n)):=by
 rw [show cZ l k=l[k] by simp [cZ,h]];exact lA inr 2 (fun _=> rfl) l k 1 h ab
theorem BI (l:List eU) (k:Nat) (h:k < l.length):PV.ups (((inl l).drop (k*2)).take 2)=[.v (.int .i64 ((cZ l k).op.num:Int)), .v (.int .i64 (cZ l k).n)]:=by
 rw [show cZ l k=l[k] by simp [cZ,h],show ((inl l).drop (k*2)).take 2=inr l[k] from ms inr 2 (fun _=> rfl) l k h];rfl
theorem fi (l:List eU) (x:eU):inl l++inr x=inl (l++[x]):=jT inr l x
theorem lW (l m:List eU):inl l++inl m=inl (l++m):=CA inr l m
def Ha (x:Ac):List PV:=[.v (.int .i64 x.k), .v (.int .i64 x.a), .v (.int .i64 x.b), .v (.int .i64 x.c), .v (.int .i64 x.d)]
def vk (l:List Ac):List PV:=l.flatMap Ha
def mH (l:List Ac) (k:Nat):Ac:=l.getD k { k:=0 }
theorem fS (l:List Ac):(vk l).length=l.length*5:=iG Ha 5 (fun _=> rfl) l
theorem Aq (l:List Ac) (k:Nat) (h:k < l.length):(vk l)[k*5]? =some (.v (.int .i64 (mH l k).k)):=by
 rw [show mH l k=l[k] by simp [mH,h]];exact lA Ha 5 (fun _=> rfl) l k 0 h ab
theorem uT (l:List Ac) (k:Nat) (h:k < l.length):PV.ups (((vk l).drop (k*5)).take 5)=[.v (.int .i64 (mH l k).k), .v (.int .i64 (mH l k).a), .v (.int .i64 (mH l k).b), .v (.int .i64 (mH l k).c), .v (.int .i64 (mH l k).d)]:=by
 rw [show mH l k=l[k] by simp [mH,h],show ((vk l).drop (k*5)).take 5=Ha l[k] from ms Ha 5 (fun _=> rfl) l k h];rfl
theorem zP (l:List Ac) (x:Ac):vk l++Ha x=vk (l++[x]):=jT Ha l x
end Go.Proofs.YtmjnackchaahbaaGreat

namespace Go.Proofs.YtmjnackchaahbaaGreat
abbrev Kr:List Value:=[.slice none 0 0, .int .i64 0, .int .i64 0, .int .i64 0, .int .i64 0, .int .i64 0, .int .i64 0, .int .i64 0, .int .i64 0, .int .i64 0, .int .i64 0, .int .i64 0, .int .i64 0, .int .i64 0, .int .i64 0, .int .i64 0, .int .i64 0, .int .i64 0, .int .i64 0, .int .i64 0, .int .i64 0, .int .i64 0, .int .i64 0, .int .i64 0, .int .i64 0, .int .i64 0, .int .i64 0, .int .i64 0, .int .i64 0, .int .i64 0, .int .i64 0, .int .i64 0, .int .i64 0, .int .i64 0, .int .i64 0, .int .i64 0, .int .i64 0, .int .i64 0, .int .i64 0, .int .i64 0, .int .i64 0, .int .i64 0, .int .i64 0]
abbrev Gw:List Value:=[.int .i64 0, .int .i64 0, .int .i64 0, .int .i64 0, .int .i64 0, .int .i64 0, .int .i64 0, .int .i64 0, .int .i64 0]
abbrev KB:List Value:=[.slice none 0 0, .slice none 0 0, .int .i64 0, .bool false, .slice none 0 0]
abbrev wX:List Value:=[.int .i64 0, .int .i64 0, .int .i64 0, .int .i64 0, .int .i64 0]
abbrev Nq:List Value:=[.slice none 0 0, .slice none 0 0, .slice none 0 0]
abbrev IW:List Value:=[.int .i64 0, .int .i64 0, .string ByteArray.empty, .slice none 0 0]
abbrev IY:List Value:=[.int .i64 0, .int .i64 0, .int .i64 0, .string ByteArray.empty, .slice none 0 0]
abbrev Km:List Value:=[.bool false, .int .i64 0, .int .i64 0, .int .i64 0, .slice none 0 0, .slice none 0 0, .slice none 0 0, .slice none 0 0, .int .i64 0, .int .i64 0, .int .i64 0, .int .i64 0, .int .i64 0, .int .i64 0, .int .i64 0, .int .i64 0, .int .i64 0, .int .i64 0, .int .i64 0, .int .i64 0, .int .i64 0, .int .i64 0, .int .i64 0, .int .i64 0, .int .i64 0, .int .i64 0, .int .i64 0, .int .i64 0, .int .i64 0, .int .i64 0, .int .i64 0, .int .i64 0, .int .i64 0, .int .i64 0, .int .i64 0, .int .i64 0, .int .i64 0, .int .i64 0, .int .i64 0, .int .i64 0, .int .i64 0, .int .i64 0, .int .i64 0, .int .i64 0, .int .i64 0, .int .i64 0, .int .i64 0, .int .i64 0, .int .i64 0, .int .i64 0, .int .i64 0, .int .i64 0]
abbrev IR:List Value:=[.int .i64 0, .int .i64 0, .int .i64 0, .int .i64 0, .int .i64 0, .int .i64 0, .int .i64 0, .int .i64 0, .int .i64 0, .int .i64 0, .int .i64 0, .int .i64 0, .int .i64 0, .slice none 0 0, .slice none 0 0]
abbrev KS:List Value:=[.int .i64 0, .int .i64 0, .int .i64 0]
abbrev DW:List Value:=[.int .i64 0, .int .i64 0, .int .i64 0, .slice none 0 0, .bool false, .int .i64 0, .slice none 0 0, .slice none 0 0, .slice none 0 0, .int .i64 0, .bool false, .slice none 0 0]
abbrev Ge:List Value:=[.slice none 0 0, .int .i64 0, .int .i64 0, .int .i64 0, .int .i64 0, .int .i64 0, .int .i64 0, .int .i64 0, .int .i64 0, .int .i64 0]
abbrev ER:List Value:=[.nilFunc, .nilFunc, .nilFunc, .nilFunc, .nilFunc, .nilFunc, .nilFunc, .nilFunc, .nilFunc, .nilFunc, .nilFunc, .nilFunc, .nilFunc, .nilFunc, .nilFunc, .nilFunc, .nilFunc, .nilFunc, .nilFunc, .nilFunc, .nilFunc, .nilFunc, .nilFunc, .nilFunc]
abbrev xX:List Value:=[.int .i64 0, .int .i64 0, .string ByteArray.empty, .int .i64 0]
abbrev Fo:List Value:=[.int .i64 0, .int .i64 0, .int .i64 0, .int .i64 0, .int .i64 0, .int .i64 0, .int .i64 0]
abbrev DD:List Value:=[.int .i64 0, .int .i64 0, .int .i64 0, .int .i64 0, .int .i64 0, .int .i64 0]
abbrev JF:List Value:=[.int .i64 0, .int .i64 0, .int .i64 0, .slice none 0 0, .slice none 0 0]
abbrev Jy:List Value:=[.slice none 0 0, .int .i64 0, .int .i64 0, .int .i64 0, .int .i64 0, .int .i64 0, .int .i64 0, .int .i64 0, .int .i64 0, .int .i64 0, .int .i64 0, .int .i64 0, .int .i64 0, .int .i64 0, .int .i64 0, .int .i64 0, .int .i64 0, .int .i64 0, .int .i64 0, .int .i64 0, .int .i64 0, .int .i64 0, .int .i64 0, .int .i64 0, .int .i64 0, .int .i64 0, .int .i64 0, .int .i64 0, .int .i64 0, .int .i64 0, .int .i64 0, .int .i64 0, .int .i64 0, .int .i64 0, .int .i64 0, .int .i64 0, .int .i64 0, .int .i64 0, .int .i64 0, .int .i64 0, .int .i64 0, .int .i64 0, .int .i64 0, .slice none 0 0, .int .i64 0, .int .i64 0, .int .i64 0, .int .i64 0, .int .i64 0, .int .i64 0, .int .i64 0, .int .i64 0, .int .i64 0, .nilFunc, .slice none 0 0, .slice none 0 0, .int .i64 0, .bool false, .slice none 0 0, .slice none 0 0, .int .i64 0, .int .i64 0, .int .i64 0, .bool false]
abbrev JU:List Value:=[.slice none 0 0, .int .i64 0, .int .i64 0, .int .i64 0, .slice none 0 0]

instance zx:Ty Tryz.prog 1 false [.nilFunc]:=Ty.of (bytes:=8) (.nilFunc) Tryz.underlying1 rfl ae rfl oC
instance zw:Ty Tryz.prog 2 false [.int .i64 0]:=Ty.of (bytes:=8) (.int .i64 0) Tryz.underlying2 rfl ae rfl oC
instance Rv:Ty Tryz.prog 3 false [.int .i64 0]:=Ty.of (bytes:=8) (.int .i64 0) Tryz.underlying3 rfl ae rfl oC
instance Ru:Ty Tryz.prog 4 false [.bool false]:=Ty.of (bytes:=1) (.bool false) Tryz.underlying4 rfl ae rfl oC
instance Rw:Ty Tryz.prog 9 false [.string ByteArray.empty]:=Ty.of (bytes:=16) (.string ByteArray.empty) Tryz.underlying9 rfl ae rfl oC
instance Lm:Ty Tryz.prog 22 false [.slice none 0 0]:=Ty.of (bytes:=24) (.slice none 0 0) Tryz.underlying22 rfl ae rfl oC
instance Pq:Ty Tryz.prog 23 false [.slice none 0 0]:=Ty.of (bytes:=24) (.slice none 0 0) Tryz.underlying23 rfl ae rfl oC
instance PI:Ty Tryz.prog 26 true Kr:=Ty.of (bytes:=360) (.agg (Kr).toArray) Tryz.underlying26 rfl ae rfl oC
instance Qt:Ty Tryz.prog 30 true Gw:=Ty.of (bytes:=72) (.agg (Gw).toArray) Tryz.underlying30 rfl ae rfl oC
instance QF:Ty Tryz.prog 32 false [.slice none 0 0]:=Ty.of (bytes:=24) (.slice none 0 0) Tryz.underlying32 rfl ae rfl oC
instance Rn:Ty Tryz.prog 34 true KB:=Ty.of (bytes:=88) (.agg (KB).toArray) Tryz.underlying34 rfl ae rfl oC
instance QG:Ty Tryz.prog 43 false [.nilFunc]:=Ty.of (bytes:=8) (.nilFunc) Tryz.underlying43 rfl ae rfl oC
instance Qp:Ty Tryz.prog 48 true [.int .i64 0, .int .i64 0]:=Ty.of (bytes:=16) (.agg #[.int .i64 0, .int .i64 0]) Tryz.underlying48 rfl ae rfl oC
instance Rc:Ty Tryz.prog 51 false [.nilFunc]:=Ty.of (bytes:=8) (.nilFunc) Tryz.underlying51 rfl ae rfl oC
instance Rk:Ty Tryz.prog 57 true wX:=Ty.of (bytes:=40) (.agg (wX).toArray) Tryz.underlying57 rfl ae rfl oC
instance Re:Ty Tryz.prog 61 false [.slice none 0 0]:=Ty.of (bytes:=24) (.slice none 0 0) Tryz.underlying61 rfl ae rfl oC
instance QL:Ty Tryz.prog 62 false [.slice none 0 0]:=Ty.of (bytes:=24) (.slice none 0 0) Tryz.underlying62 rfl ae rfl oC
instance Ro:Ty Tryz.prog 64 true Nq:=Ty.of (bytes:=72) (.agg (Nq).toArray) Tryz.underlying64 rfl ae rfl oC
instance QS:Ty Tryz.prog 66 false [.int .i64 0]:=Ty.of (bytes:=8) (.int .i64 0) Tryz.underlying66 rfl ae rfl oC
instance Pz:Ty Tryz.prog 69 false [.slice none 0 0]:=Ty.of (bytes:=24) (.slice none 0 0) Tryz.underlying69 rfl ae rfl oC
instance QZ:Ty Tryz.prog 71 true IW:=Ty.of (bytes:=56) (.agg (IW).toArray) Tryz.underlying71 rfl ae rfl oC
instance Pv:Ty Tryz.prog 73 true IY:=Ty.of (bytes:=64) (.agg (IY).toArray) Tryz.underlying73 rfl ae rfl oC
instance QK:Ty Tryz.prog 78 false [.slice none 0 0]:=Ty.of (bytes:=24) (.slice none 0 0) Tryz.underlying78 rfl ae rfl oC
instance Rl:Ty Tryz.prog 80 true [.slice none 0 0, .slice none 0 0]:=Ty.of (bytes:=48) (.agg #[.slice none 0 0, .slice none 0 0]) Tryz.underlying80 rfl ae rfl oC
instance QI:Ty Tryz.prog 83 true Km:=Ty.of (bytes:=480) (.agg (Km).toArray) Tryz.underlying83 rfl ae rfl oC
instance Qx:Ty Tryz.prog 87 true IR:=Ty.of (bytes:=152) (.agg (IR).toArray) Tryz.underlying87 rfl ae rfl oC
instance Ri:Ty Tryz.prog 88 false [.slice none 0 0]:=Ty.of (bytes:=24) (.slice none 0 0) Tryz.underlying88 rfl ae rfl oC
instance Rj:Ty Tryz.prog 89 false [.slice none 0 0]:=Ty.of (bytes:=24) (.slice none 0 0) Tryz.underlying89 rfl ae rfl oC
instance PQ:Ty Tryz.prog 91 true KS:=Ty.of (bytes:=24) (.agg (KS).toArray) Tryz.underlying91 rfl ae rfl oC
instance PC:Ty Tryz.prog 96 true DW:=Ty.of (bytes:=176) (.agg (DW).toArray) Tryz.underlying96 rfl ae rfl oC
instance NA:Ty Tryz.prog 101 false [.slice none 0 0]:=Ty.of (bytes:=24) (.slice none 0 0) Tryz.underlying101 rfl ae rfl oC
instance Pk:Ty Tryz.prog 109 true wX:=Ty.of (bytes:=40) (.agg (wX).toArray) Tryz.underlying109 rfl ae rfl oC
instance OJ:Ty Tryz.prog 115 true wX:=Ty.of (bytes:=40) (.agg (wX).toArray) Tryz.underlying115 rfl ae rfl oC
instance NS:Ty Tryz.prog 126 true [.int .i64 0, .int .i64 0]:=Ty.of (bytes:=16) (.agg #[.int .i64 0, .int .i64 0]) Tryz.underlying126 rfl ae rfl oC
instance ME:Ty Tryz.prog 132 true Ge:=Ty.of (bytes:=96) (.agg (Ge).toArray) Tryz.underlying132 rfl ae rfl oC
instance MZ:Ty Tryz.prog 161 false [.nilFunc]:=Ty.of (bytes:=8) (.nilFunc) Tryz.underlying161 rfl ae rfl oC
instance Ov:Ty Tryz.prog 172 false [.nilFunc]:=Ty.of (bytes:=8) (.nilFunc) Tryz.underlying172 rfl ae rfl oC
instance NP:Ty Tryz.prog 173 true ER:=Ty.of (bytes:=192) (.agg (ER).toArray) Tryz.underlying173 rfl ae rfl oC
instance Nm:Ty Tryz.prog 217 false [.slice none 0 0]:=Ty.of (bytes:=24) (.slice none 0 0) Tryz.underlying217 rfl ae rfl oC
instance Nz:Ty Tryz.prog 225 true xX:=Ty.of (bytes:=40) (.agg (xX).toArray) Tryz.underlying225 rfl ae rfl oC
instance Pp:Elem Tryz.prog 22 3 1 8 [.int .i64 0]:=Elem.of (.int .i64 0) Tryz.underlying22 ae rfl rfl ah ah oC
instance PM:Elem Tryz.prog 23 48 2 16 [.int .i64 0, .int .i64 0]:=Elem.of (.agg #[.int .i64 0, .int .i64 0]) Tryz.underlying23 ae rfl rfl ah ah oC
instance PR:Elem Tryz.prog 32 57 5 40 wX:=Elem.of (.agg (wX).toArray) Tryz.underlying32 ae rfl rfl ah ah oC
instance QX:Elem Tryz.prog 61 9 1 16 [.string ByteArray.empty]:=Elem.of (.string ByteArray.empty) Tryz.underlying61 ae rfl rfl ah ah oC
instance Qu:Elem Tryz.prog 62 73 5 64 IY:=Elem.of (.agg (IY).toArray) Tryz.underlying62 ae rfl rfl ah ah oC
instance Qi:Elem Tryz.prog 69 71 4 56 IW:=Elem.of (.agg (IW).toArray) Tryz.underlying69 ae rfl rfl ah ah oC
instance Qm:Elem Tryz.prog 76 87 15 152 IR:=Elem.of (.agg (IR).toArray) Tryz.underlying76 ae rfl rfl ah ah oC
instance PT:Elem Tryz.prog 78 126 2 16 [.int .i64 0, .int .i64 0]:=Elem.of (.agg #[.int .i64 0, .int .i64 0]) Tryz.underlying78 ae rfl rfl ah ah oC
instance QV:Elem Tryz.prog 88 111 7 56 Fo:=Elem.of (.agg (Fo).toArray) Tryz.underlying88 ae rfl rfl ah ah oC
instance Pw:Elem Tryz.prog 89 117 9 72 Gw:=Elem.of (.agg (Gw).toArray) Tryz.underlying89 ae rfl rfl ah ah oC
instance OL:Elem Tryz.prog 101 196 6 48 DD:=Elem.of (.agg (DD).toArray) Tryz.underlying101 ae rfl rfl ah ah oC
instance Nn:Elem Tryz.prog 121 4 1 1 [.bool false]:=Elem.of (.bool false) Tryz.underlying121 ae rfl rfl ah ah oC
instance Oa:Elem Tryz.prog 217 225 4 40 xX:=Elem.of (.agg (xX).toArray) Tryz.underlying217 ae rfl rfl ah ah oC
instance OP:Elem Tryz.prog 275 61 1 24 [.slice none 0 0]:=Elem.of (.slice none 0 0) Tryz.underlying275 ae rfl rfl ah ah oC
instance Lr:eZ Tryz.prog 26 0 0:=⟨fun ad w=> by kernel_rfl⟩
instance LK:eZ Tryz.prog 26 1 1:=⟨fun ad w=> by kernel_rfl⟩
instance Mo:eZ Tryz.prog 26 2 41:=⟨fun ad w=> by kernel_rfl⟩
instance LN:eZ Tryz.prog 26 3 42:=⟨fun ad w=> by kernel_rfl⟩
instance Mi:eZ Tryz.prog 34 0 0:=⟨fun ad w=> by kernel_rfl⟩
instance Ls:eZ Tryz.prog 34 1 1:=⟨fun ad w=> by kernel_rfl⟩
instance KX:eZ Tryz.prog 34 2 2:=⟨fun ad w=> by kernel_rfl⟩
instance LS:eZ Tryz.prog 34 3 3:=⟨fun ad w=> by kernel_rfl⟩
instance La:eZ Tryz.prog 34 4 4:=⟨fun ad w=> by kernel_rfl⟩
instance Ly:eZ Tryz.prog 48 0 0:=⟨fun ad w=> by kernel_rfl⟩
instance Lu:eZ Tryz.prog 48 1 1:=⟨fun ad w=> by kernel_rfl⟩
instance Mx:eZ Tryz.prog 57 0 0:=⟨fun ad w=> by kernel_rfl⟩
instance LA:eZ Tryz.prog 57 1 1:=⟨fun ad w=> by kernel_rfl⟩
instance Lx:eZ Tryz.prog 57 2 2:=⟨fun ad w=> by kernel_rfl⟩
instance Mf:eZ Tryz.prog 57 3 3:=⟨fun ad w=> by kernel_rfl⟩
instance LV:eZ Tryz.prog 57 4 4:=⟨fun ad w=> by kernel_rfl⟩
instance Lk:eZ Tryz.prog 64 0 0:=⟨fun ad w=> by kernel_rfl⟩
instance Lg:eZ Tryz.prog 64 1 1:=⟨fun ad w=> by kernel_rfl⟩
instance LT:eZ Tryz.prog 64 2 2:=⟨fun ad w=> by kernel_rfl⟩
instance LM:eZ Tryz.prog 71 0 0:=⟨fun ad w=> by kernel_rfl⟩
instance KV:eZ Tryz.prog 71 1 1:=⟨fun ad w=> by kernel_rfl⟩
instance Ml:eZ Tryz.prog 71 2 2:=⟨fun ad w=> by kernel_rfl⟩
instance LE:eZ Tryz.prog 71 3 3:=⟨fun ad w=> by kernel_rfl⟩
instance LY:eZ Tryz.prog 73 0 0:=⟨fun ad w=> by kernel_rfl⟩
instance Lt:eZ Tryz.prog 73 1 1:=⟨fun ad w=> by kernel_rfl⟩
instance LZ:eZ Tryz.prog 80 0 0:=⟨fun ad w=> by kernel_rfl⟩
instance LP:Fvl Tryz.prog 80 0 0 false 1:=Fvl.of Tryz.underlying80 rfl rfl Lm rfl
instance Me:eZ Tryz.prog 80 1 1:=⟨fun ad w=> by kernel_rfl⟩
instance LJ:eZ Tryz.prog 83 0 0:=⟨fun ad w=> by kernel_rfl⟩
instance KY:eZ Tryz.prog 83 1 1:=⟨fun ad w=> by kernel_rfl⟩
instance Li:eZ Tryz.prog 83 2 2:=⟨fun ad w=> by kernel_rfl⟩
instance Ld:eZ Tryz.prog 83 3 3:=⟨fun ad w=> by kernel_rfl⟩
instance LF:eZ Tryz.prog 83 4 4:=⟨fun ad w=> by kernel_rfl⟩
instance Mq:eZ Tryz.prog 83 5 6:=⟨fun ad w=> by kernel_rfl⟩
instance Lb:eZ Tryz.prog 83 6 7:=⟨fun ad w=> by kernel_rfl⟩
instance LG:eZ Tryz.prog 83 7 8:=⟨fun ad w=> by kernel_rfl⟩
instance Lz:eZ Tryz.prog 83 8 49:=⟨fun ad w=> by kernel_rfl⟩
instance KW:eZ Tryz.prog 87 0 0:=⟨fun ad w=> by kernel_rfl⟩
instance Mb:eZ Tryz.prog 87 1 1:=⟨fun ad w=> by kernel_rfl⟩
instance Mg:eZ Tryz.prog 87 2 2:=⟨fun ad w=> by kernel_rfl⟩
instance Mc:eZ Tryz.prog 87 3 11:=⟨fun ad w=> by kernel_rfl⟩
instance Lh:eZ Tryz.prog 87 4 12:=⟨fun ad w=> by kernel_rfl⟩
instance LC:eZ Tryz.prog 87 5 13:=⟨fun ad w=> by kernel_rfl⟩
instance Lp:eZ Tryz.prog 87 6 14:=⟨fun ad w=> by kernel_rfl⟩
instance LR:eZ Tryz.prog 96 0 0:=⟨fun ad w=> by kernel_rfl⟩
instance MD:eZ Tryz.prog 96 1 3:=⟨fun ad w=> by kernel_rfl⟩
instance Ll:eZ Tryz.prog 96 2 4:=⟨fun ad w=> by kernel_rfl⟩
instance Lq:eZ Tryz.prog 96 3 5:=⟨fun ad w=> by kernel_rfl⟩
instance LL:eZ Tryz.prog 96 4 6:=⟨fun ad w=> by kernel_rfl⟩
instance My:eZ Tryz.prog 96 5 7:=⟨fun ad w=> by kernel_rfl⟩
instance KO:eZ Tryz.prog 103 0 0:=⟨fun ad w=> by kernel_rfl⟩
instance KF:eZ Tryz.prog 103 1 3:=⟨fun ad w=> by kernel_rfl⟩
instance Kt:eZ Tryz.prog 103 2 4:=⟨fun ad w=> by kernel_rfl⟩
instance KD:eZ Tryz.prog 126 0 0:=⟨fun ad w=> by kernel_rfl⟩
instance KA:eZ Tryz.prog 126 1 1:=⟨fun ad w=> by kernel_rfl⟩
instance KC:eZ Tryz.prog 132 0 0:=⟨fun ad w=> by kernel_rfl⟩
instance KL:eZ Tryz.prog 132 1 1:=⟨fun ad w=> by kernel_rfl⟩
instance Ku:eZ Tryz.prog 171 0 0:=⟨fun ad w=> by kernel_rfl⟩
instance KQ:eZ Tryz.prog 171 1 43:=⟨fun ad w=> by kernel_rfl⟩
instance KP:eZ Tryz.prog 171 2 53:=⟨fun ad w=> by kernel_rfl⟩
instance Ko:eZ Tryz.prog 171 3 54:=⟨fun ad w=> by kernel_rfl⟩
instance Kn:eZ Tryz.prog 171 4 59:=⟨fun ad w=> by kernel_rfl⟩
instance Kj:eZ Tryz.prog 171 5 60:=⟨fun ad w=> by kernel_rfl⟩
instance Ky:eZ Tryz.prog 171 6 61:=⟨fun ad w=> by kernel_rfl⟩
instance Ks:eZ Tryz.prog 171 7 62:=⟨fun ad w=> by kernel_rfl⟩
instance Kf:eZ Tryz.prog 171 8 63:=⟨fun ad w=> by kernel_rfl⟩
instance KI:eZ Tryz.prog 196 0 0:=⟨fun ad w=> by kernel_rfl⟩
instance Ki:eZ Tryz.prog 196 1 5:=⟨fun ad w=> by kernel_rfl⟩
instance KG:eZ Tryz.prog 222 0 0:=⟨fun ad w=> by kernel_rfl⟩
instance KE:eZ Tryz.prog 222 1 1:=⟨fun ad w=> by kernel_rfl⟩
instance KH:eZ Tryz.prog 222 3 3:=⟨fun ad w=> by kernel_rfl⟩
instance Ke:eZ Tryz.prog 222 4 4:=⟨fun ad w=> by kernel_rfl⟩
instance Kq:eZ Tryz.prog 225 0 0:=⟨fun ad w=> by kernel_rfl⟩
instance Kw:eZ Tryz.prog 225 2 2:=⟨fun ad w=> by kernel_rfl⟩
instance Kh:eZ Tryz.prog 225 3 3:=⟨fun ad w=> by kernel_rfl⟩
instance QH:cQ Tryz.prog 23:=⟨fun args w=> by kernel_rfl⟩
instance Pr:cQ Tryz.prog 30:=⟨fun args w=> by kernel_rfl⟩
instance QU:cQ Tryz.prog 33:=⟨fun args w=> by kernel_rfl⟩
instance Qf:cQ Tryz.prog 39:=⟨fun args w=> by kernel_rfl⟩
instance PW:cQ Tryz.prog 40:=⟨fun args w=> by kernel_rfl⟩
instance QT:cQ Tryz.prog 41:=⟨fun args w=> by kernel_rfl⟩
instance PL:cQ Tryz.prog 45:=⟨fun args w=> by kernel_rfl⟩
instance Ra:cQ Tryz.prog 47:=⟨fun args w=> by kernel_rfl⟩
instance PF:cQ Tryz.prog 50:=⟨fun args w=> by kernel_rfl⟩
instance Ql:cQ Tryz.prog 51:=⟨fun args w=> by kernel_rfl⟩
instance QW:cQ Tryz.prog 52:=⟨fun args w=> by kernel_rfl⟩
instance PX:cQ Tryz.prog 53:=⟨fun args w=> by kernel_rfl⟩
instance QB:cQ Tryz.prog 54:=⟨fun args w=> by kernel_rfl⟩
instance Rr:cQ Tryz.prog 55:=⟨fun args w=> by kernel_rfl⟩
instance QO:cQ Tryz.prog 56:=⟨fun args w=> by kernel_rfl⟩
instance QP:cQ Tryz.prog 57:=⟨fun args w=> by kernel_rfl⟩
instance QA:cQ Tryz.prog 58:=⟨fun args w=> by kernel_rfl⟩
instance PZ:cQ Tryz.prog 59:=⟨fun args w=> by kernel_rfl⟩
instance Rp:cQ Tryz.prog 64:=⟨fun args w=> by kernel_rfl⟩
instance Qk:cQ Tryz.prog 72:=⟨fun args w=> by kernel_rfl⟩
instance PU:cQ Tryz.prog 73:=⟨fun args w=> by kernel_rfl⟩
instance Qc:cQ Tryz.prog 74:=⟨fun args w=> by kernel_rfl⟩
instance Pt:cQ Tryz.prog 75:=⟨fun args w=> by kernel_rfl⟩
instance Qv:cQ Tryz.prog 78:=⟨fun args w=> by kernel_rfl⟩
instance QE:cQ Tryz.prog 81:=⟨fun args w=> by kernel_rfl⟩
instance Py:cQ Tryz.prog 82:=⟨fun args w=> by kernel_rfl⟩
instance PJ:cQ Tryz.prog 85:=⟨fun args w=> by kernel_rfl⟩
instance Rt:cQ Tryz.prog 86:=⟨fun args w=> by kernel_rfl⟩
instance Qj:cQ Tryz.prog 87:=⟨fun args w=> by kernel_rfl⟩
instance QC:cQ Tryz.prog 88:=⟨fun args w=> by kernel_rfl⟩
instance QQ:cQ Tryz.prog 89:=⟨fun args w=> by kernel_rfl⟩
instance Qh:cQ Tryz.prog 90:=⟨fun args w=> by kernel_rfl⟩
instance Pu:cQ Tryz.prog 91:=⟨fun args w=> by kernel_rfl⟩
instance Rm:cQ Tryz.prog 92:=⟨fun args w=> by kernel_rfl⟩
instance PP:cQ Tryz.prog 93:=⟨fun args w=> by kernel_rfl⟩
instance QN:cQ Tryz.prog 94:=⟨fun args w=> by kernel_rfl⟩
instance Ps:cQ Tryz.prog 95:=⟨fun args w=> by kernel_rfl⟩
instance Rf:cQ Tryz.prog 96:=⟨fun args w=> by kernel_rfl⟩
instance Rh:cQ Tryz.prog 97:=⟨fun args w=> by kernel_rfl⟩
instance NN:cQ Tryz.prog 106:=⟨fun args w=> by kernel_rfl⟩
instance MT:cQ Tryz.prog 107:=⟨fun args w=> by kernel_rfl⟩
instance No:cQ Tryz.prog 108:=⟨fun args w=> by kernel_rfl⟩
instance Nw:cQ Tryz.prog 113:=⟨fun args w=> by kernel_rfl⟩
instance MR:cQ Tryz.prog 114:=⟨fun args w=> by kernel_rfl⟩
instance OZ:cQ Tryz.prog 115:=⟨fun args w=> by kernel_rfl⟩
instance OK:cQ Tryz.prog 117:=⟨fun args w=> by kernel_rfl⟩
instance Nk:cQ Tryz.prog 118:=⟨fun args w=> by kernel_rfl⟩
instance OQ:cQ Tryz.prog 119:=⟨fun args w=> by kernel_rfl⟩
instance Pj:cQ Tryz.prog 120:=⟨fun args w=> by kernel_rfl⟩
instance Og:cQ Tryz.prog 121:=⟨fun args w=> by kernel_rfl⟩
instance OA:cQ Tryz.prog 122:=⟨fun args w=> by kernel_rfl⟩
instance Ou:cQ Tryz.prog 123:=⟨fun args w=> by kernel_rfl⟩
instance NE:cQ Tryz.prog 124:=⟨fun args w=> by kernel_rfl⟩
instance Oj:cQ Tryz.prog 125:=⟨fun args w=> by kernel_rfl⟩
instance OC:cQ Tryz.prog 126:=⟨fun args w=> by kernel_rfl⟩
instance NY:cQ Tryz.prog 127:=⟨fun args w=> by kernel_rfl⟩
instance NO:cQ Tryz.prog 128:=⟨fun args w=> by kernel_rfl⟩
instance OT:cQ Tryz.prog 129:=⟨fun args w=> by kernel_rfl⟩
instance Nc:cQ Tryz.prog 130:=⟨fun args w=> by kernel_rfl⟩
instance Oz:cQ Tryz.prog 131:=⟨fun args w=> by kernel_rfl⟩
instance MH:cQ Tryz.prog 132:=⟨fun args w=> by kernel_rfl⟩
instance Pc:cQ Tryz.prog 133:=⟨fun args w=> by kernel_rfl⟩
instance Oe:cQ Tryz.prog 134:=⟨fun args w=> by kernel_rfl⟩
instance OH:cQ Tryz.prog 135:=⟨fun args w=> by kernel_rfl⟩
instance OW:cQ Tryz.prog 136:=⟨fun args w=> by kernel_rfl⟩
instance OB:cQ Tryz.prog 137:=⟨fun args w=> by kernel_rfl⟩
instance Oq:cQ Tryz.prog 138:=⟨fun args w=> by kernel_rfl⟩
instance Ng:cQ Tryz.prog 139:=⟨fun args w=> by kernel_rfl⟩
instance Nl:cQ Tryz.prog 140:=⟨fun args w=> by kernel_rfl⟩
instance On:cQ Tryz.prog 141:=⟨fun args w=> by kernel_rfl⟩
instance Pm:cQ Tryz.prog 142:=⟨fun args w=> by kernel_rfl⟩
instance OY:cQ Tryz.prog 143:=⟨fun args w=> by kernel_rfl⟩
instance OE:cQ Tryz.prog 144:=⟨fun args w=> by kernel_rfl⟩
instance NI:cQ Tryz.prog 145:=⟨fun args w=> by kernel_rfl⟩
instance OM:cQ Tryz.prog 146:=⟨fun args w=> by kernel_rfl⟩
instance MY:cQ Tryz.prog 147:=⟨fun args w=> by kernel_rfl⟩
instance NZ:cQ Tryz.prog 148:=⟨fun args w=> by kernel_rfl⟩
instance Nb:cQ Tryz.prog 149:=⟨fun args w=> by kernel_rfl⟩
instance MG:cQ Tryz.prog 150:=⟨fun args w=> by kernel_rfl⟩
instance OU:cQ Tryz.prog 151:=⟨fun args w=> by kernel_rfl⟩
instance Pb:cQ Tryz.prog 152:=⟨fun args w=> by kernel_rfl⟩
instance MO:cQ Tryz.prog 153:=⟨fun args w=> by kernel_rfl⟩
instance Of:cQ Tryz.prog 154:=⟨fun args w=> by kernel_rfl⟩
instance NX:cQ Tryz.prog 155:=⟨fun args w=> by kernel_rfl⟩
instance MK:cQ Tryz.prog 159:=⟨fun args w=> by kernel_rfl⟩
instance MM:cQ Tryz.prog 160:=⟨fun args w=> by kernel_rfl⟩
instance NW:cQ Tryz.prog 161:=⟨fun args w=> by kernel_rfl⟩
instance Np:cQ Tryz.prog 162:=⟨fun args w=> by kernel_rfl⟩
instance Nu:cQ Tryz.prog 163:=⟨fun args w=> by kernel_rfl⟩
instance OS:cQ Tryz.prog 164:=⟨fun args w=> by kernel_rfl⟩
instance Pd:cQ Tryz.prog 165:=⟨fun args w=> by kernel_rfl⟩
instance OD:cQ Tryz.prog 166:=⟨fun args w=> by kernel_rfl⟩
instance NT:cQ Tryz.prog 167:=⟨fun args w=> by kernel_rfl⟩
instance OO:cQ Tryz.prog 183:=⟨fun args w=> by kernel_rfl⟩
instance MU:cQ Tryz.prog 184:=⟨fun args w=> by kernel_rfl⟩
instance NF:cQ Tryz.prog 185:=⟨fun args w=> by kernel_rfl⟩
instance MN:cQ Tryz.prog 187:=⟨fun args w=> by kernel_rfl⟩
instance OR:cQ Tryz.prog 188:=⟨fun args w=> by kernel_rfl⟩
instance ND:cQ Tryz.prog 189:=⟨fun args w=> by kernel_rfl⟩
instance Ok:cQ Tryz.prog 190:=⟨fun args w=> by kernel_rfl⟩
instance MW:cQ Tryz.prog 194:=⟨fun args w=> by kernel_rfl⟩
instance NM:cQ Tryz.prog 195:=⟨fun args w=> by kernel_rfl⟩
instance Oo:cQ Tryz.prog 196:=⟨fun args w=> by kernel_rfl⟩
instance NR:cQ Tryz.prog 197:=⟨fun args w=> by kernel_rfl⟩
instance Od:cQ Tryz.prog 199:=⟨fun args w=> by kernel_rfl⟩
instance Nt:cQ Tryz.prog 200:=⟨fun args w=> by kernel_rfl⟩
instance NU:cQ Tryz.prog 201:=⟨fun args w=> by kernel_rfl⟩
instance Nf:cQ Tryz.prog 202:=⟨fun args w=> by kernel_rfl⟩
instance Nh:cQ Tryz.prog 203:=⟨fun args w=> by kernel_rfl⟩
instance NQ:cQ Tryz.prog 204:=⟨fun args w=> by kernel_rfl⟩
instance MV:cQ Tryz.prog 205:=⟨fun args w=> by kernel_rfl⟩
instance NG:cQ Tryz.prog 207:=⟨fun args w=> by kernel_rfl⟩
instance OX:cQ Tryz.prog 208:=⟨fun args w=> by kernel_rfl⟩
instance OV:cQ Tryz.prog 221:=⟨fun args w=> by kernel_rfl⟩
instance MP:cQ Tryz.prog 222:=⟨fun args w=> by kernel_rfl⟩
instance NB:cQ Tryz.prog 223:=⟨fun args w=> by kernel_rfl⟩
instance NK:cQ Tryz.prog 224:=⟨fun args w=> by kernel_rfl⟩
instance MQ:cQ Tryz.prog 225:=⟨fun args w=> by kernel_rfl⟩
instance NC:cQ Tryz.prog 226:=⟨fun args w=> by kernel_rfl⟩
instance Ob:cQ Tryz.prog 227:=⟨fun args w=> by kernel_rfl⟩
instance Oi:cQ Tryz.prog 228:=⟨fun args w=> by kernel_rfl⟩
instance NJ:cQ Tryz.prog 235:=⟨fun args w=> by kernel_rfl⟩
instance Nj:cQ Tryz.prog 236:=⟨fun args w=> by kernel_rfl⟩
instance Nv:cQ Tryz.prog 237:=⟨fun args w=> by kernel_rfl⟩
instance Ni:cQ Tryz.prog 240:=⟨fun args w=> by kernel_rfl⟩
end Go.Proofs.YtmjnackchaahbaaGreat

namespace Go.Proofs.YtmjnackchaahbaaGreat

instance Rs:Bld Tryz.prog 26 Kr (fun i=> ([(0,1),(1,40),(41,1),(42,1)]:List (Nat×Nat))[i]?):=Bld.struct (bytes:=360) (.agg (Kr).toArray) [(0,1),(1,40),(41,1),(42,1)] Tryz.underlying26 ae rfl oC (fun w=> by kernel_rfl)
instance QD:Bld Tryz.prog 30 Gw (fun i=> some (i*1,1)):=Bld.array (bytes:=72) (.agg (Gw).toArray) Tryz.underlying30 ae rfl oC ae
instance QY:Bld Tryz.prog 34 KB (fun i=> ([(0,1),(1,1),(2,1),(3,1),(4,1)]:List (Nat×Nat))[i]?):=Bld.struct (bytes:=88) (.agg (KB).toArray) [(0,1),(1,1),(2,1),(3,1),(4,1)] Tryz.underlying34 ae rfl oC (fun w=> by kernel_rfl)
instance Rb:Bld Tryz.prog 48 [.int .i64 0, .int .i64 0] (fun i=> ([(0,1),(1,1)]:List (Nat×Nat))[i]?):=Bld.struct (bytes:=16) (.agg #[.int .i64 0, .int .i64 0]) [(0,1),(1,1)] Tryz.underlying48 ae rfl oC (fun w=> by kernel_rfl)
instance Qo:Bld Tryz.prog 57 wX (fun i=> ([(0,1),(1,1),(2,1),(3,1),(4,1)]:List (Nat×Nat))[i]?):=Bld.struct (bytes:=40) (.agg (wX).toArray) [(0,1),(1,1),(2,1),(3,1),(4,1)] Tryz.underlying57 ae rfl oC (fun w=> by kernel_rfl)
instance Qe:Bld Tryz.prog 71 IW (fun i=> ([(0,1),(1,1),(2,1),(3,1)]:List (Nat×Nat))[i]?):=Bld.struct (bytes:=56) (.agg (IW).toArray) [(0,1),(1,1),(2,1),(3,1)] Tryz.underlying71 ae rfl oC (fun w=> by kernel_rfl)
instance PY:Bld Tryz.prog 73 IY (fun i=> ([(0,1),(1,4)]:List (Nat×Nat))[i]?):=Bld.struct (bytes:=64) (.agg (IY).toArray) [(0,1),(1,4)] Tryz.underlying73 ae rfl oC (fun w=> by kernel_rfl)
instance Qq:Bld Tryz.prog 80 [.slice none 0 0, .slice none 0 0] (fun i=> ([(0,1),(1,1)]:List (Nat×Nat))[i]?):=Bld.struct (bytes:=48) (.agg #[.slice none 0 0, .slice none 0 0]) [(0,1),(1,1)] Tryz.underlying80 ae rfl oC (fun w=> by kernel_rfl)
instance Qz:Bld Tryz.prog 83 Km (fun i=> ([(0,1),(1,1),(2,1),(3,1),(4,2),(6,1),(7,1),(8,41),(49,1),(50,1),(51,1)]:List (Nat×Nat))[i]?):=Bld.struct (bytes:=480) (.agg (Km).toArray) [(0,1),(1,1),(2,1),(3,1),(4,2),(6,1),(7,1),(8,41),(49,1),(50,1),(51,1)] Tryz.underlying83 ae rfl oC (fun w=> by kernel_rfl)
instance PH:Bld Tryz.prog 87 IR (fun i=> ([(0,1),(1,1),(2,9),(11,1),(12,1),(13,1),(14,1)]:List (Nat×Nat))[i]?):=Bld.struct (bytes:=152) (.agg (IR).toArray) [(0,1),(1,1),(2,9),(11,1),(12,1),(13,1),(14,1)] Tryz.underlying87 ae rfl oC (fun w=> by kernel_rfl)
instance PN:Bld Tryz.prog 91 KS (fun i=> ([(0,1),(1,1),(2,1)]:List (Nat×Nat))[i]?):=Bld.struct (bytes:=24) (.agg (KS).toArray) [(0,1),(1,1),(2,1)] Tryz.underlying91 ae rfl oC (fun w=> by kernel_rfl)
instance QM:Bld Tryz.prog 96 DW (fun i=> ([(0,3),(3,1),(4,1),(5,1),(6,1),(7,5)]:List (Nat×Nat))[i]?):=Bld.struct (bytes:=176) (.agg (DW).toArray) [(0,3),(3,1),(4,1),(5,1),(6,1),(7,5)] Tryz.underlying96 ae rfl oC (fun w=> by kernel_rfl)
instance MJ:Bld Tryz.prog 103 JF (fun i=> ([(0,3),(3,1),(4,1)]:List (Nat×Nat))[i]?):=Bld.struct (bytes:=72) (.agg (JF).toArray) [(0,3),(3,1),(4,1)] Tryz.underlying103 ae rfl oC (fun w=> by kernel_rfl)
instance ML:Bld Tryz.prog 109 wX (fun i=> ([(0,3),(3,1),(4,1)]:List (Nat×Nat))[i]?):=Bld.struct (bytes:=40) (.agg (wX).toArray) [(0,3),(3,1),(4,1)] Tryz.underlying109 ae rfl oC (fun w=> by kernel_rfl)
instance Pe:Bld Tryz.prog 111 Fo (fun i=> ([(0,5),(5,1),(6,1)]:List (Nat×Nat))[i]?):=Bld.struct (bytes:=56) (.agg (Fo).toArray) [(0,5),(5,1),(6,1)] Tryz.underlying111 ae rfl oC (fun w=> by kernel_rfl)
instance Ow:Bld Tryz.prog 115 wX (fun i=> ([(0,3),(3,1),(4,1)]:List (Nat×Nat))[i]?):=Bld.struct (bytes:=40) (.agg (wX).toArray) [(0,3),(3,1),(4,1)] Tryz.underlying115 ae rfl oC (fun w=> by kernel_rfl)
instance Oc:Bld Tryz.prog 117 Gw (fun i=> ([(0,5),(5,1),(6,1),(7,1),(8,1)]:List (Nat×Nat))[i]?):=Bld.struct (bytes:=72) (.agg (Gw).toArray) [(0,5),(5,1),(6,1),(7,1),(8,1)] Tryz.underlying117 ae rfl oC (fun w=> by kernel_rfl)
instance OI:Bld Tryz.prog 126 [.int .i64 0, .int .i64 0] (fun i=> ([(0,1),(1,1)]:List (Nat×Nat))[i]?):=Bld.struct (bytes:=16) (.agg #[.int .i64 0, .int .i64 0]) [(0,1),(1,1)] Tryz.underlying126 ae rfl oC (fun w=> by kernel_rfl)
instance Pl:Bld Tryz.prog 132 Ge (fun i=> ([(0,1),(1,9)]:List (Nat×Nat))[i]?):=Bld.struct (bytes:=96) (.agg (Ge).toArray) [(0,1),(1,9)] Tryz.underlying132 ae rfl oC (fun w=> by kernel_rfl)
instance NH:Bld Tryz.prog 171 Jy (fun i=> ([(0,43),(43,10),(53,1),(54,5),(59,1),(60,1),(61,1),(62,1),(63,1)]:List (Nat×Nat))[i]?):=Bld.struct (bytes:=608) (.agg (Jy).toArray) [(0,43),(43,10),(53,1),(54,5),(59,1),(60,1),(61,1),(62,1),(63,1)] Tryz.underlying171 ae rfl oC (fun w=> by kernel_rfl)
instance Nx:Bld Tryz.prog 173 ER (fun i=> some (i*1,1)):=Bld.array (bytes:=192) (.agg (ER).toArray) Tryz.underlying173 ae rfl oC ae
instance ON:Bld Tryz.prog 176 [] (fun i=> ([]:List (Nat×Nat))[i]?):=Bld.struct (bytes:=0) (.agg #[]) [] Tryz.underlying176 ae rfl oC (fun w=> by kernel_rfl)
instance Oy:Bld Tryz.prog 196 DD (fun i=> ([(0,5),(5,1)]:List (Nat×Nat))[i]?):=Bld.struct (bytes:=48) (.agg (DD).toArray) [(0,5),(5,1)] Tryz.underlying196 ae rfl oC (fun w=> by kernel_rfl)
instance OF:Bld Tryz.prog 222 JU (fun i=> ([(0,1),(1,1),(2,1),(3,1),(4,1)]:List (Nat×Nat))[i]?):=Bld.struct (bytes:=72) (.agg (JU).toArray) [(0,1),(1,1),(2,1),(3,1),(4,1)] Tryz.underlying222 ae rfl oC (fun w=> by kernel_rfl)
instance NL:Bld Tryz.prog 225 xX (fun i=> ([(0,1),(1,1),(2,1),(3,1)]:List (Nat×Nat))[i]?):=Bld.struct (bytes:=40) (.agg (xX).toArray) [(0,1),(1,1),(2,1),(3,1)] Tryz.underlying225 ae rfl oC (fun w=> by kernel_rfl)
def dL (n m:Int):Int:=(if n < 0 then -(n+1) else n) % m
theorem jg (n m:Int) (h:0 < m):0≤dL n m:=Int.emod_nonneg _ ab
theorem kw (n m:Int) (h:0 < m):dL n m < m:=Int.emod_lt_of_pos _ h
theorem jP (n m:Int) (hm:1≤m) (h1:m≤4611686018427387904) (h2: -9223372036854775808≤n) (h3:n≤9223372036854775807):
  Spec Tryz.prog 33 (ba [.v (.int .i64 n), .v (.int .i64 m)] []) (aO (.v (.int .i64 (dL n m))) []):=by
 refine Spec.ofN Tryz.func33 rfl Tryz.ntmps33 rfl ?_
 refine am (be rfl (aj (aq (am (aX rfl (ai (bm _ _ rfl rfl rfl) (aj (aP rfl (fun hc6=> ?_) (fun hc6=> ?_)))))))))
 ·skip
  refine an (aX rfl (ai (aZ _ _ rfl rfl (bE ab)) ?_))
  refine ai (Be _ rfl (bE ab)) ?_
  refine be rfl (aj (am (aX rfl (aX rfl (ai (dU _ _ rfl rfl ab (Int.tmod_eq_emod_of_nonneg ab)) ?_)))))
  refine be rfl (aj (aG (rQ rfl rfl ?_)))
  unfold dL
  rw [if_pos hc6]
 refine aS (am (aX rfl (aX rfl (ai (dU _ _ rfl rfl ab (Int.tmod_eq_emod_of_nonneg ab)) ?_))))
 refine be rfl (aj (aG (rQ rfl rfl ?_)))
 unfold dL
 rw [if_neg ab]

theorem oE (n m:Nat) (xs ys:List Int) (hn:xs.length=n) (hm:ys.length=m) (h1:n≤4611686018427387904) (h2:m≤4611686018427387904):
  Spec Tryz.prog 30 (ba [.sl n (cm xs), .sl m (cm ys)] []) (aO (.v (.bool (decide (xs=ys)))) []):=by
 subst hn;subst hm
 refine Spec.ofN Tryz.func30 rfl Tryz.ntmps30 rfl ?_
 refine am (cp rfl (aj (aq (am (eW rfl (ai (bn _ aa rfl) (eW rfl (ai (bn _ aa rfl) (ai (bY _ _ rfl rfl rfl) (aj ?_))))))))))
 refine aP rfl (fun hc10=> ?_) (fun hc10=> ?_)
 ·skip
  refine am (cp rfl (aj (aG (rZ rfl rfl ?_))))
  exact decide_eq_false fun h=> by subst h;omega
 refine aS (aU fun K5 hK5=> ?_)
 refine am (be rfl (aj (ax ?_)))
 refine bq (α:=Nat) (fun k=> k≤xs.length∧xs.length=ys.length∧xs.take k=ys.take k) 26 [(0,_),(1,_)] [] (fun k=> [(5, .v (.int .i64 (k:Int)))]) (fun k=> []) [] [] (fun k=> xs.length - k) 0 ?_ (by
  refine Le.mkJ [] [] rfl ?_ ?_ trivial trivial ?_
  ·exact ⟨(by exact iS rfl),(by exact iS rfl),(co ag),trivial⟩
  ·exact trivial
  kernel_rfl) ?_
 ·exact ⟨by omega,by omega,rfl⟩
 intro k hk
 obtain ⟨hk,hl,ht⟩:=hk
 refine aU fun K7 hK7=> ?_
 refine am (aX rfl (eW rfl (ai (bn _ aa rfl) (ai (bm _ _ rfl rfl rfl) (aj (aP rfl (fun hc14=> ?_) (fun hc14=> ?_)))))))
 ·skip
  have hkx:k < xs.length:=by omega
  have hky:k < ys.length:=by omega
  refine bs (hK7 _ ?_)
  clear hK7;try clear K7
  refine aq (ax (aq ?_))
  refine aM (σ':=aD 26 [(0,_),(1,_),(5,_)] [] [] []) (by
   refine Le.mkJ [] [] rfl ?_ ?_ trivial trivial ?_
   ·exact ⟨(by exact iS rfl),(by exact iS rfl),(iV rfl),trivial⟩
   ·exact trivial
   kernel_rfl) ?_
  refine bK 9 [17,18,19,20,21,22,23,24,25] [] ae ae rfl (aK rfl) (rfl:_=[_,_,_,_,_,_,_,_,_]) (rfl:_=[]) ?_
  refine ap (_,[]) (fun τ=> aI _ nB) ?_
  refine fF rfl ?_
  refine ap (_,[]) (fun τ=> aI _ eu) ?_
  refine fL rfl ?_
  refine ap (_,[]) (fun τ=> bo _ _ aa rfl rfl _ rfl ab (by (simp only [aN,bg,bj];omega)) (by exact Nat.mul_one _)) ?_
  refine fA rfl ?_
  refine ap (_,[]) (fun τ=> bO _ aa rfl (by exact eb _ _ ab) rfl) ?_
  refine fT rfl ?_
  refine ap (_,[]) (fun τ=> aI _ nB) ?_
  refine gj rfl ?_
  refine ap (_,[]) (fun τ=> aI _ eu) ?_
  refine gU rfl ?_
  refine ap (_,[]) (fun τ=> bo _ _ aa rfl rfl _ rfl ab (by (simp only [aN,bg,bj];omega)) (by exact Nat.mul_one _)) ?_
  refine iC rfl ?_
  refine ap (_,[]) (fun τ=> bO _ aa rfl (by exact eb _ _ ab) rfl) ?_
  refine jM rfl ?_
  refine ap (_,[]) (fun τ=> bY _ _ rfl rfl rfl) ?_
  refine jX rfl (bl ⟨rfl,?_⟩)
  refine aj (aP rfl (fun hc25=> ?_) (fun hc25=> ?_))
  ·skip
   refine am (cp rfl (aj (aG (rZ rfl rfl ?_))))
   exact decide_eq_false fun h=> by subst h;exact hc25 rfl
  refine cr (an (aX rfl (ai (aZ _ _ rfl rfl (bE ab)) ?_)))
  refine be rfl (aJ (⟨k+1,?_,?_,?_⟩))
  ·refine ⟨by omega,hl,?_⟩
   rw [tH _ _ _ hkx,tH _ _ _ hky] at hc25
   rw [List.take_succ_eq_append_getElem hkx,List.take_succ_eq_append_getElem hky,ht,hc25]
  ·skip
   refine Le.mkJ [] [] rfl ?_ ?_ trivial trivial ?_
   ·exact ⟨(by exact iS rfl),(by exact iS rfl),(co ag),trivial⟩
   ·exact trivial
   kernel_rfl
  omega
 refine bD (id (hK5 _ ?_))
 clear hK5;try clear K5
 refine am (cp rfl (aj (aG (rZ rfl rfl ?_))))
 rw [List.take_of_length_le ab,List.take_of_length_le ab] at ht
 exact decide_eq_true ht

theorem pb (b:UInt8):Spec Tryz.prog 221 (ba [.v (.int .u8 (b.toNat:Int))] []) (aO (.v (.bool (ng b))) []):=by
 have h:=AR b
 refine Spec.ofN Tryz.func221 rfl Tryz.ntmps221 rfl ?_
 refine am (cp rfl (aj (am (aX rfl (ai (fq _ _ rfl rfl rfl) (cL rfl (dv (fun hg5=> ?_) (fun hg5=> ?_))))))))
 ·skip
  have h:ng b=decide ((b.toNat:Int)≤122):=by rw [Bool.eq_iff_iff,h];simp [hg5]
  refine ay rfl rfl (aI _ eu) (ay rfl rfl (vS _ _ rfl rfl rfl) (ai (aE _ _ _ rfl bR) (cp rfl (aj (aG (rZ rfl rfl ?_))))))
  exact h
 have h:ng b=false:=GB h (fun x=> by omega)
 refine aQ rfl rfl ah ?_
 refine aQ rfl rfl ah ?_
 refine ai (aE _ _ _ rfl bR) (cp rfl (aj (aG (rZ rfl rfl ?_))))
 exact h
theorem mM (b:UInt8):Spec Tryz.prog 222 (ba [.v (.int .u8 (b.toNat:Int))] []) (aO (.v (.bool (gF b))) []):=by
 have h:=uN b
 refine Spec.ofN Tryz.func222 rfl Tryz.ntmps222 rfl ?_
 refine am (cp rfl (aj (am (aX rfl (ai (fq _ _ rfl rfl rfl) (cL rfl (dv (fun hg5=> ?_) (fun hg5=> ?_))))))))
 ·skip
  have h:gF b=decide ((b.toNat:Int)≤57):=by rw [Bool.eq_iff_iff,h];simp [hg5]
  refine ay rfl rfl (aI _ eu) (ay rfl rfl (vS _ _ rfl rfl rfl) (ai (aE _ _ _ rfl bR) (cp rfl (aj (aG (rZ rfl rfl ?_))))))
  exact h
 have h:gF b=false:=GB h (fun x=> by omega)
 refine aQ rfl rfl ah ?_
 refine aQ rfl rfl ah ?_
 refine ai (aE _ _ _ rfl bR) (cp rfl (aj (aG (rZ rfl rfl ?_))))
 exact h
theorem qR (l:List Tx) (n:Nat) (hn:l.length=n) (h1:n≤1000) (t:Tx):Spec Tryz.prog 224 (ba [.sl n (fl l), .v (bt t)] []) (aO (.v (.bool (decide (t∈l)))) []):=by
 refine Spec.ofN Tryz.func224 rfl Tryz.ntmps224 rfl ?_
 refine am (cp rfl (aj (aU fun K2 hK2=> ?_)))
 refine am (be rfl (aj (ax ?_)))
 refine bq (α:=Nat) (fun k=> k≤n∧t∉l.take k) 18 [(0,_),(1,_)] [] (fun k=> [(5, .v (.int .i64 (k:Int)))]) (fun k=> []) [] [] (fun k=> n - k) 0 ?_ (by
  refine Le.mkJ [] [] rfl ?_ ?_ trivial trivial ?_
  ·exact ⟨(iS rfl),(iV rfl),(co ag),trivial⟩
  ·exact trivial
  kernel_rfl) ?_
 ·exact ⟨Nat.zero_le _,by simp⟩
 intro k hk
 obtain ⟨hk,hnt⟩:=hk
 refine aU fun K4 hK4=> ?_
 refine am (aX rfl (eW rfl (ai (bn _ aa rfl) (ai (bm _ _ rfl rfl rfl) (aj (aP rfl (fun hc9=> ?_) (fun hc9=> ?_)))))))
 ·skip
  refine bs (hK4 _ ?_)
  clear hK4;try clear K4
  refine aq (ax (am (eW rfl (aX rfl (ai (bo _ _ aa rfl rfl _ rfl ab (by (simp only [aN,bg,bj,bv];omega)) (by exact Nat.mul_one _)) ?_)))))
  refine ai (bO _ aa rfl (by exact jQ _ _ ab) rfl) ?_
  refine eh rfl (ai (aV _ _ Tryz.underlying9 rfl rfl rfl) (aj (aP rfl (fun hc17=> ?_) (fun hc17=> ?_))))
  ·skip
   refine am (cp rfl (aj (aG (rZ rfl rfl ?_))))
   exact decide_eq_true (hc17 ▸ kb ab)
  refine cr (an (aX rfl (ai (aZ _ _ rfl rfl (bE ab)) ?_)))
  refine be rfl (aJ (⟨k+1,?_,?_,?_⟩))
  ·exact ⟨by omega,kK hnt ab hc17⟩
  ·skip
   refine Le.mkJ [] [] rfl ?_ ?_ trivial trivial ?_
   ·exact ⟨(iS rfl),(iV rfl),(co ag),trivial⟩
   ·exact trivial
   kernel_rfl
  omega
 have hall:t∉l:=by rwa [List.take_of_length_le ab] at hnt
 refine bD (id (hK2 _ ?_))
 clear hK2;try clear K2
 refine am (cp rfl (aj (aG (rZ rfl rfl ?_))))
 exact decide_eq_false hall
theorem rO (s:Tx) (at_:Nat) (h1:s.length≤100000) (ha:at_≤s.length):Spec Tryz.prog 194 (ba [.v (bt s), .v (.int .i64 (at_:Int))] []) (aO (.v (.int .i64 (lc s at_ false:Int))) []):=by
 refine Spec.ofN Tryz.func194 rfl Tryz.ntmps194 rfl ?_
 refine am (be rfl (aj (aU fun K2 hK2=> ?_)))
 refine ax ?_
 refine bq (α:=Nat) (fun k=> k≤s.length∧lc s k false=lc s at_ false) 41 [(0,_)] [] (fun k=> [(1, .v (.int .i64 (k:Int)))]) (fun k=> []) [] [] (fun k=> s.length - k) at_ ?_ (by
  refine Le.mkJ [] [] rfl ?_ ?_ trivial trivial ?_
  ·exact ⟨(iV rfl),(co ag),trivial⟩
  ·exact trivial
  kernel_rfl) ?_
 ·exact ⟨ha,rfl⟩
 intro k hk
 obtain ⟨hk,hs⟩:=hk
 refine aU fun K3 hK3=> ?_
 refine am (aX rfl (eh rfl (ai (ig _ Tryz.underlying9 rfl) (ai (bm _ _ rfl rfl rfl) (aj (aP rfl (fun hc9=> ?_) (fun hc9=> ?_)))))))
 ·skip
  obtain ⟨b,hb⟩:=kF (s:=s) (a:=k) ab
  have hbi:=LX b
  refine bs (hK3 _ ?_)
  clear hK3;try clear K3
  refine ax (am (eh rfl (aX rfl (ai (lI _ _ Tryz.underlying9 rfl rfl (by assumption)) ?_))))
  refine be rfl (aj (am (aX rfl (ai (bB _ _ rfl rfl rfl) (aj (aP rfl (fun hc14=> ?_) (fun hc14=> ?_)))))))
  ·skip
   have hs:=(CR hb ab).symm.trans hs
   refine ax ?_
   refine bq (α:=Nat) (fun j=> k≤j∧j≤s.length∧lc s j true=lc s at_ false∧(j=k→j < s.length)) 41 [(0,_)] [] (fun j=> [(1, .v (.int .i64 (j:Int)))]) (fun j=> []) [] [] (fun j=> s.length - j) k ?_ (by
    refine Le.mkJ [] [] rfl ?_ ?_ trivial trivial ?_
    ·exact ⟨(iV rfl),(co ag),trivial⟩
    ·exact trivial
    kernel_rfl) ?_
   ·exact ⟨Nat.le_refl _,by omega,hs,fun _=> by omega⟩
   intro j hj
   obtain ⟨hj1,hj2,hsj,hjk⟩:=hj
   refine aU fun K7 hK7=> ?_
   refine aU fun K8 hK8=> ?_
   refine an (aX rfl (eh rfl (ai (ig _ Tryz.underlying9 rfl) (ai (bm _ _ rfl rfl rfl) (cL rfl (dv (fun hg19=> ?_) (fun hg19=> ?_)))))))
   ·skip
    obtain ⟨u,hu⟩:=kF (s:=s) (a:=j) ab
    have hui:=LX u
    refine ay rfl rfl (aI _ wV) (ay rfl rfl (aI _ eu) (ay rfl rfl (lI _ _ Tryz.underlying9 rfl rfl (by assumption)) ?_))
    refine ay rfl rfl (bY _ _ rfl rfl rfl) (ai (aE _ _ _ rfl bR) (aJ (hK8 _ ?_)))
    clear hK8;try clear K8
    refine aP rfl (fun hc24=> ?_) (fun hc24=> ?_)
    ·skip
     refine bs (hK7 _ ?_)
     clear hK7;try clear K7
     refine ax (an (aX rfl (ai (aZ _ _ rfl rfl (bE ab)) ?_)))
     refine be rfl (aJ (⟨j+1,?_,?_,?_⟩))
     ·exact ⟨by omega,by omega,(HS hu ab).symm.trans hsj,fun _=> by omega⟩
     ·skip
      refine Le.mkJ [] [] rfl ?_ ?_ trivial trivial ?_
      ·exact ⟨(iV rfl),(co ag),trivial⟩
      ·exact trivial
      kernel_rfl
     omega
    have hjs:lc s j false=lc s at_ false:=by rw [← hsj,GR hu ab]
    have hjk':k < j:=Nat.lt_of_le_of_ne hj1 fun e=> by subst e;rw [hb] at hu;obtain rfl:=Option.some.inj hu;omega
    refine bD (id (⟨j,?_,?_,?_⟩))
    ·exact ⟨hj2,hjs⟩
    ·skip
     refine Le.mkJ [] [] rfl ?_ ?_ trivial trivial ?_
     ·exact ⟨(iV rfl),(co ag),trivial⟩
     ·exact trivial
     kernel_rfl
    omega
   have hjs:lc s j false=lc s at_ false:=by rw [← hsj,sX ab,sX ab]
   have hjk':k < j:=Nat.lt_of_le_of_ne hj1 fun e=> by have:=hjk e.symm;omega
   refine aQ rfl rfl ah ?_
   refine aQ rfl rfl ah ?_
   refine aQ rfl rfl ah ?_
   refine aQ rfl rfl ah ?_
   refine ai (aE _ _ _ rfl bR) (aJ (hK8 _ ?_))
   clear hK8;try clear K8
   refine aW rfl rfl (bD (id (⟨j,?_,?_,?_⟩)))
   ·exact ⟨hj2,hjs⟩
   ·skip
    refine Le.mkJ [] [] rfl ?_ ?_ trivial trivial ?_
    ·exact ⟨(iV rfl),(co ag),trivial⟩
    ·exact trivial
    kernel_rfl
   omega
  refine am (aX rfl (ai (bB _ _ rfl rfl rfl) (cL rfl (dv (fun hg29=> ?_) (fun hg29=> ?_)))))
  ·skip
   have hs2:lc s (k+1) false=lc s at_ false:=(vX hb ab ab).symm.trans hs
   refine aQ rfl rfl ah ?_
   refine aQ rfl rfl ah ?_
   refine ai (aE _ _ _ rfl bR) (cL rfl (aQ rfl rfl ah ?_))
   refine aQ rfl rfl ah ?_
   refine ai (aE _ _ _ rfl bR) (aj (bL rfl rfl ?_))
   refine aM (σ':=aD 41 [(0,_),(1,_)] [] [] []) kp ?_
   refine an (aX rfl (ai (aZ _ _ rfl rfl (bE ab)) ?_))
   refine be rfl (aJ (⟨k+1,?_,?_,?_⟩))
   ·exact ⟨by omega,hs2⟩
   ·skip
    refine Le.mkJ [] [] rfl ?_ ?_ trivial trivial ?_
    ·exact ⟨(iV rfl),(co ag),trivial⟩
    ·exact trivial
    kernel_rfl
   omega
  refine ay rfl rfl (aI _ eu) (ay rfl rfl (bB _ _ rfl rfl rfl) (ai (aE _ _ _ rfl bR) (cL rfl (dv (fun hg33=> ?_) (fun hg33=> ?_)))))
  ·skip
   have hs2:lc s (k+1) false=lc s at_ false:=(vX hb ab ab).symm.trans hs
   refine aQ rfl rfl ah ?_
   refine aQ rfl rfl ah ?_
   refine ai (aE _ _ _ rfl bR) (aj (bL rfl rfl ?_))
   refine aM (σ':=aD 41 [(0,_),(1,_)] [] [] []) kp ?_
   refine an (aX rfl (ai (aZ _ _ rfl rfl (bE ab)) ?_))
   refine be rfl (aJ (⟨k+1,?_,?_,?_⟩))
   ·exact ⟨by omega,hs2⟩
   ·skip
    refine Le.mkJ [] [] rfl ?_ ?_ trivial trivial ?_
    ·exact ⟨(iV rfl),(co ag),trivial⟩
    ·exact trivial
    kernel_rfl
   omega
  refine ay rfl rfl (aI _ eu) (ay rfl rfl (bB _ _ rfl rfl rfl) (ai (aE _ _ _ rfl bR) (aj (aP rfl (fun hc36=> ?_) (fun hc36=> ?_)))))
  ·skip
   have hs2:lc s (k+1) false=lc s at_ false:=(vX hb ab ab).symm.trans hs
   refine aM (σ':=aD 41 [(0,_),(1,_)] [] [] []) kp ?_
   refine an (aX rfl (ai (aZ _ _ rfl rfl (bE ab)) ?_))
   refine be rfl (aJ (⟨k+1,?_,?_,?_⟩))
   ·exact ⟨by omega,hs2⟩
   ·skip
    refine Le.mkJ [] [] rfl ?_ ?_ trivial trivial ?_
    ·exact ⟨(iV rfl),(co ag),trivial⟩
    ·exact trivial
    kernel_rfl
   omega
  have hs3:=(EW hb ab ab).symm.trans hs
  refine aq ?_
  refine aM (σ':=aD 41 [(1,_)] [] [] []) kp ?_
  refine an (aX rfl (be rfl (aj (aG (rQ rfl rfl ?_)))))
  rw [hs3]
 refine bD (id (hK2 _ ?_))
 clear hK2;try clear K2
 refine am (aX rfl (be rfl (aj (aG (rQ rfl rfl ?_)))))
 rw [← hs,sX ab]
theorem qC (s:Tx) (h1:s.length≤100000) (hd: ∀ b∈s,gF b=true) (hv:lf s≤2147483647):Spec Tryz.prog 223 (ba [.v (bt s)] []) (aO (.v (.int .i64 (lf s:Int))) []):=by
 have hvt:=fun i=> ya s i
 refine Spec.ofN Tryz.func223 rfl Tryz.ntmps223 rfl ?_
 refine am (be rfl (aj (am (be rfl (aj (aU fun K3 hK3=> ?_))))))
 refine am (be rfl (aj (ax ?_)))
 refine bq (α:=Nat) (fun k=> k≤s.length) 22 [(0,_)] [] (fun k=> [(3, .v (.int .i64 (lf (s.take k):Int))),(4, .v (.int .i64 (k:Int)))]) (fun k=> []) [] [] (fun k=> s.length - k) 0 ?_ (by
  refine Le.mkJ [] [] rfl ?_ ?_ trivial trivial ?_
  ·exact ⟨(iV rfl),(co ag),(co ag),trivial⟩
  ·exact trivial
  kernel_rfl) ?_
 ·omega
 intro k hk
 refine aU fun K5 hK5=> ?_
 refine am (aX rfl (eh rfl (ai (ig _ Tryz.underlying9 rfl) (ai (bm _ _ rfl rfl rfl) (aj (aP rfl (fun hc8=> ?_) (fun hc8=> ?_)))))))
 ·skip
  obtain ⟨b,hb⟩:=kF (s:=s) (a:=k) ab
  have hbi:=LX b
  have hbd:=(uN b).1 (hd b (List.mem_of_getElem? hb))
  have hvs:=xQ hb
  have hv0:=hvt k
  have hv1:=hvt (k+1)
  have hvi:(10:Int)*(lf (s.take k):Int)+(b.toNat:Int) - 48=(lf (s.take (k+1)):Int):=by omega
  refine bs (hK5 _ ?_)
  clear hK5;try clear K5
  refine aq (ax (am (aX rfl (ai (zI _ _ rfl rfl (bE ab)) ?_))))
  refine eh rfl (aX rfl (ai (lI _ _ Tryz.underlying9 rfl rfl (by assumption)) ?_))
  refine ai (tD _ Tryz.underlying5 Tryz.underlying3 rfl (bE ab)) ?_
  refine ai (aZ _ _ rfl rfl (bE ab)) ?_
  refine ai (kY _ _ rfl rfl (bE ab)) ?_
  refine be rfl (aj (am (aX rfl (ai (gA _ _ rfl rfl rfl) (aj (aW rfl (decide_eq_false ab) ?_))))))
  refine cr ?_
  refine aM (σ':=aD 22 [(0,_),(3,_),(4,_)] [] [] []) kp ?_
  refine an (aX rfl (ai (aZ _ _ rfl rfl (bE ab)) ?_))
  refine be rfl (aJ (⟨k+1,?_,?_,?_⟩))
  ·omega
  ·skip
   refine Le.mkJ [] [] rfl ?_ ?_ trivial trivial ?_
   ·exact ⟨(iV rfl),(co ab),(co ag),trivial⟩
   ·exact trivial
   kernel_rfl
  omega
 have he:s.take k=s:=List.take_of_length_le ab
 refine bD (id (hK3 _ ?_))
 clear hK3;try clear K3
 refine am (aX rfl (be rfl (aj (aG (rQ rfl rfl ?_)))))
 rw [he]

theorem AB {p:UInt8→Bool} {c:UInt8}: ∀ {l:List UInt8},c∈l.takeWhile p→p c=true
 | [],h=> by simp at h
 | x::l,h=> by
  rw [List.takeWhile_cons] at h
  split at h
  ·rename_i hx
   rcases List.mem_cons.1 h with rfl | h
   ·exact hx
   exact AB h
  simp at h
def uz (c:UInt8):Bool:=ng c || gF c
theorem rB {s:Tx} {a:Nat} {b:UInt8} {t:Tk} (hb:s[a]? =some b) (h1:ng b=true) (h:rf (s.drop a) a=some t):lH uz s (a+1) - a≤10∧t=⟨1,a,(s.drop a).take (lH uz s (a+1) - a),0⟩:=by
 rw [uM hb]
 rw [gm hb,rf] at h
 simp only [h1,if_true] at h
 rw [show lH uz s (a+1) - a=(b::(s.drop (a+1)).takeWhile fun x=> ng x || gF x).length by unfold lH uz;rw [List.length_cons];omega]
 split at h
 ·cases h
 rename_i hl;exact ⟨by omega,(Option.some.inj h).symm⟩
theorem uH {s:Tx} {a:Nat} {b:UInt8} {t:Tk} (hb:s[a]? =some b) (h1:ng b=false) (h2:gF b=true) (h:rf (s.drop a) a=some t):
  (∀ c∈(s.drop a).take (lH gF s (a+1) - a),gF c=true)∧lf ((s.drop a).take (lH gF s (a+1) - a))≤2147483647∧t=⟨2,a,(s.drop a).take (lH gF s (a+1) - a),lf ((s.drop a).take (lH gF s (a+1) - a))⟩:=by
 rw [uM hb]
 rw [gm hb,rf] at h
 simp only [h1,h2,if_true] at h
 simp only [Bool.false_eq_true,if_false] at h
 split at h
 ·cases h
 rename_i hl
 refine ⟨fun c hc=> ?_,by omega,(Option.some.inj h).symm⟩
 rcases List.mem_cons.1 hc with rfl | hc
 ·exact h2
 exact AB hc
theorem ua {s:Tx} {a:Nat} {b:UInt8} {t:Tk} (hb:s[a]? =some b) (h1:ng b=false) (h2:gF b=false) (h:rf (s.drop a) a=some t):
  ((s.drop a).take 2∈EZ∧t=⟨3,a,(s.drop a).take 2,0⟩)∨((s.drop a).take 2∉EZ∧(s.drop a).take 1∈Ih∧t=⟨3,a,(s.drop a).take 1,0⟩):=by
 rw [gm hb,rf] at h
 simp only [h1,h2,Bool.false_eq_true,if_false] at h
 rw [gm hb]
 split at h
 ·rename_i hm;exact .inl ⟨hm,(Option.some.inj h).symm⟩
 rename_i hm
 split at h
 ·rename_i hs;exact .inr ⟨hm,hs,(Option.some.inj h).symm⟩
 cases h
theorem yH {s:Tx} {a:Nat} (h:a < s.length):(s.drop a).take (min (a+2) s.length - a)=(s.drop a).take 2:=by
 by_cases h2:a+2≤s.length
 ·congr 1;omega
 rw [List.take_of_length_le (by rw [List.length_drop];omega),List.take_of_length_le (by rw [List.length_drop];omega)]
theorem vI (s:Tx) (a:Nat) (h1:s.length≤100000) (ha:a < s.length) (t:Tk) (ht:rf (s.drop a) a=some t):
  Spec Tryz.prog 195 (ba [.v (bt s), .v (.int .i64 (a:Int))] []) (aO (.tup [.agg [.v (.int .i64 (t.k:Int)), .v (.int .i64 (t.a:Int)), .v (bt t.t), .v (.int .i64 (t.n:Int))], .v (.int .i64 0)]) []):=by
 obtain ⟨b,hb⟩:=kF ha
 have hwl:=sN (p:=uz) (s:=s) (a:=a+1) ab
 have hdl:=sN (p:=gF) (s:=s) (a:=a+1) ab
 refine Spec.ofN Tryz.func195 rfl Tryz.ntmps195 rfl ?_
 refine am (ai (aC (4,0) aa rfl rfl) (be rfl (aj (am (aX rfl (ai (aZ _ _ rfl rfl (bE ab)) ?_))))))
 refine be rfl (aj (aq (am (eh rfl (aX rfl (ai (lI _ _ Tryz.underlying9 rfl rfl (by assumption)) ?_))))))
 refine ai (aH aa al (pb b) rfl rfl) ?_
 refine aj (aP rfl (fun hc15=> ?_) (fun hc15=> ?_))
 ·skip
  obtain ⟨htl,hte⟩:=rB hb hc15 ht
  refine aU fun K5 hK5=> ?_
  refine ax ?_
  refine bq (α:=Nat) (fun e=> a+1≤e∧e≤s.length∧lH uz s e=lH uz s (a+1)) 101 [(0,_),(1,_),(4,_)] [((4,0),_)] (fun e=> [(6, .v (.int .i64 (e:Int)))]) (fun e=> []) [] [] (fun e=> s.length - e) (a+1) ?_ (by
   refine Le.mkJ [] [] rfl ?_ ?_ trivial trivial ?_
   ·exact ⟨(iV rfl),(iV rfl),(iP rfl),(co ag),trivial⟩
   ·exact ⟨(ca rfl rfl rfl),trivial⟩
   kernel_rfl) ?_
  ·exact ⟨Nat.le_refl _,by omega,rfl⟩
  intro e he
  obtain ⟨he1,he2,het⟩:=he
  refine aU fun K6 hK6=> ?_
  refine aU fun K7 hK7=> ?_
  refine an (aX rfl (eh rfl (ai (ig _ Tryz.underlying9 rfl) (ai (bm _ _ rfl rfl rfl) (cL rfl (dv (fun hg20=> ?_) (fun hg20=> ?_)))))))
  ·skip
   obtain ⟨u,hu⟩:=kF (s:=s) (a:=e) ab
   refine ay rfl rfl (aI _ wV) (ay rfl rfl (aI _ eu) (ay rfl rfl (lI _ _ Tryz.underlying9 rfl rfl (by assumption)) ?_))
   refine ay rfl rfl (aH aa al (pb u) rfl rfl) ?_
   refine ay rfl rfl (aI _ bR) (dv (fun hg25=> ?_) (fun hg25=> ?_))
   ·skip
    have hnx:lH uz s (e+1)=lH uz s (a+1):=(sV hu (by unfold uz;rw [hg25];rfl)).symm.trans het
    refine aQ rfl rfl ah ?_
    refine aQ rfl rfl ah ?_
    refine aQ rfl rfl ah ?_
    refine aQ rfl rfl ah ?_
    refine ay rfl rfl (aE _ _ _ rfl bR) (ai (aE _ _ _ rfl bR) (aJ (hK7 _ ?_)))
    clear hK7;try clear K7
    refine bL rfl rfl (bs (hK6 _ ?_))
    clear hK6;try clear K6
    refine ax ?_
    refine aM (σ':=aD 101 [(0,_),(1,_),(4,_),(6,_)] [((4,0),_)] [] []) kp ?_
    refine an (aX rfl (ai (aZ _ _ rfl rfl (bE ab)) ?_))
    refine be rfl (aJ (⟨e+1,?_,?_,?_⟩))
    ·exact ⟨by omega,by omega,hnx⟩
    ·skip
     refine Le.mkJ [] [] rfl ?_ ?_ trivial trivial ?_
     ·exact ⟨(iV rfl),(iV rfl),(iP rfl),(co ag),trivial⟩
     ·exact ⟨(ca rfl rfl rfl),trivial⟩
     kernel_rfl
    omega
   refine ay rfl rfl (aI _ wV) (ay rfl rfl (aI _ eu) (ay rfl rfl (lI _ _ Tryz.underlying9 rfl rfl (by assumption)) ?_))
   refine ay rfl rfl (aH aa al (mM u) rfl rfl) ?_
   refine ay rfl rfl (aE _ _ _ rfl bR) (ai (aE _ _ _ rfl bR) (aJ (hK7 _ ?_)))
   clear hK7;try clear K7
   refine aP rfl (fun hc31=> ?_) (fun hc31=> ?_)
   ·skip
    have hnx:lH uz s (e+1)=lH uz s (a+1):=(sV hu (by unfold uz;rw [hg25,hc31];rfl)).symm.trans het
    refine bs (hK6 _ ?_)
    clear hK6;try clear K6
    refine ax ?_
    refine aM (σ':=aD 101 [(0,_),(1,_),(4,_),(6,_)] [((4,0),_)] [] []) kp ?_
    refine an (aX rfl (ai (aZ _ _ rfl rfl (bE ab)) ?_))
    refine be rfl (aJ (⟨e+1,?_,?_,?_⟩))
    ·exact ⟨by omega,by omega,hnx⟩
    ·skip
     refine Le.mkJ [] [] rfl ?_ ?_ trivial trivial ?_
     ·exact ⟨(iV rfl),(iV rfl),(iP rfl),(co ag),trivial⟩
     ·exact ⟨(ca rfl rfl rfl),trivial⟩
     kernel_rfl
    omega
   have hfin:e=lH uz s (a+1):=(BC hu (by unfold uz;rw [hg25,hc31];rfl)).symm.trans het
   refine bD (id (hK5 _ ?_))
   clear hK5;try clear K5
   refine aq (aq ?_)
   refine aM (σ':=aD 101 [(0,_),(1,_),(4,_),(6,_)] [((4,0),_)] [] []) kp ?_
   refine an (aX rfl (aX rfl (ai (kY _ _ rfl rfl (bE ab)) ?_)))
   refine ai (gA _ _ rfl rfl rfl) (aj (aW rfl (decide_eq_false ab) ?_))
   refine aS (am (aX rfl (eh rfl (aX rfl (aX rfl (ai (lu _ _ _ Tryz.underlying9 rfl _ _ (.lit rfl rfl) (.lit rfl rfl) ab ab rfl) ?_))))))
   refine ai (aL _ aa rfl (by exact kQ)) ?_
   refine bG rfl rfl rfl rfl rfl rfl (be rfl (aj (aG ?_)))
   subst hte;subst hfin
   exact jV (.inr rfl) rfl (.cellA aa rfl rfl rfl) (.tmp kU) (Le.out [] [] (.tup rfl lz) rfl rfl rfl trivial trivial)
  have hfin:e=lH uz s (a+1):=(xC ab).symm.trans het
  refine aQ rfl rfl ah ?_
  refine aQ rfl rfl ah ?_
  refine aQ rfl rfl ah ?_
  refine aQ rfl rfl ah ?_
  refine aQ rfl rfl ah ?_
  refine gP rfl rfl (gP rfl rfl (gP rfl rfl (gP rfl rfl (aQ rfl rfl ah ?_))))
  refine ai (aE _ _ _ rfl bR) (aJ (hK7 _ ?_))
  clear hK7;try clear K7
  refine aW rfl rfl (bD (id (hK5 _ ?_)))
  clear hK5;try clear K5
  refine aq (aq ?_)
  refine aM (σ':=aD 101 [(0,_),(1,_),(4,_),(6,_)] [((4,0),_)] [] []) kp ?_
  refine an (aX rfl (aX rfl (ai (kY _ _ rfl rfl (bE ab)) ?_)))
  refine ai (gA _ _ rfl rfl rfl) (aj (aW rfl (decide_eq_false ab) ?_))
  refine aS (am (aX rfl (eh rfl (aX rfl (aX rfl (ai (lu _ _ _ Tryz.underlying9 rfl _ _ (.lit rfl rfl) (.lit rfl rfl) ab ab rfl) ?_))))))
  refine ai (aL _ aa rfl (by exact kQ)) ?_
  refine bG rfl rfl rfl rfl rfl rfl (be rfl (aj (aG ?_)))
  subst hte;subst hfin
  exact jV (.inr rfl) rfl (.cellA aa rfl rfl rfl) (.tmp kU) (Le.out [] [] (.tup rfl lz) rfl rfl rfl trivial trivial)
 have hlb:=hc15
 refine aS (aq (am (eh rfl (aX rfl (ai (lI _ _ Tryz.underlying9 rfl rfl (by assumption)) ?_)))))
 refine ai (aH aa al (mM b) rfl rfl) ?_
 refine aj (aP rfl (fun hc48=> ?_) (fun hc48=> ?_))
 ·skip
  obtain ⟨htd,htv,hte⟩:=uH hb hlb hc48 ht
  refine aU fun K16 hK16=> ?_
  refine ax ?_
  refine bq (α:=Nat) (fun e=> a+1≤e∧e≤s.length∧lH gF s e=lH gF s (a+1)) 101 [(0,_),(1,_),(4,_)] [((4,0),_)] (fun e=> [(6, .v (.int .i64 (e:Int)))]) (fun e=> []) [] [] (fun e=> s.length - e) (a+1) ?_ (by
   refine Le.mkJ [] [] rfl ?_ ?_ trivial trivial ?_
   ·exact ⟨(iV rfl),(iV rfl),(iP rfl),(co ag),trivial⟩
   ·exact ⟨(ca rfl rfl rfl),trivial⟩
   kernel_rfl) ?_
  ·exact ⟨Nat.le_refl _,by omega,rfl⟩
  intro e he
  obtain ⟨he1,he2,het⟩:=he
  refine aU fun K17 hK17=> ?_
  refine aU fun K18 hK18=> ?_
  refine an (aX rfl (eh rfl (ai (ig _ Tryz.underlying9 rfl) (ai (bm _ _ rfl rfl rfl) (cL rfl (dv (fun hg53=> ?_) (fun hg53=> ?_)))))))
  ·skip
   obtain ⟨u,hu⟩:=kF (s:=s) (a:=e) ab
   refine ay rfl rfl (aI _ wV) (ay rfl rfl (aI _ eu) (ay rfl rfl (lI _ _ Tryz.underlying9 rfl rfl (by assumption)) ?_))
   refine ay rfl rfl (aH aa al (mM u) rfl rfl) ?_
   refine ai (aE _ _ _ rfl bR) (aJ (hK18 _ ?_))
   clear hK18;try clear K18
   refine aP rfl (fun hc58=> ?_) (fun hc58=> ?_)
   ·skip
    have hnx:lH gF s (e+1)=lH gF s (a+1):=(sV hu hc58).symm.trans het
    refine bs (hK17 _ ?_)
    clear hK17;try clear K17
    refine ax (an (aX rfl (ai (aZ _ _ rfl rfl (bE ab)) ?_)))
    refine be rfl (aJ (⟨e+1,?_,?_,?_⟩))
    ·exact ⟨by omega,by omega,hnx⟩
    ·skip
     refine Le.mkJ [] [] rfl ?_ ?_ trivial trivial ?_
     ·exact ⟨(iV rfl),(iV rfl),(iP rfl),(co ag),trivial⟩
     ·exact ⟨(ca rfl rfl rfl),trivial⟩
     kernel_rfl
    omega
   have hfin:e=lH gF s (a+1):=(BC hu hc58).symm.trans het
   refine bD (id (hK16 _ ?_))
   clear hK16;try clear K16
   refine am (eh rfl (aX rfl (aX rfl (ai (lu _ _ _ Tryz.underlying9 rfl _ _ (.lit rfl rfl) (.lit rfl rfl) ab ab rfl) ?_))))
   refine ai (aH aa al (qC ((s.drop a).take (e - a)) (by simp;omega) (by rw [hfin];exact htd) (by rw [hfin];exact htv)) rfl rfl) ?_
   refine be rfl (aj (aq (aq ?_)))
   refine aM (σ':=aD 101 [(0,_),(1,_),(4,_),(6,_),(7,_)] [((4,0),_)] [] []) kp ?_
   refine an (aX rfl (ai (bm _ _ rfl rfl rfl) (aj (aW rfl (decide_eq_false ab) ?_))))
   refine aS (am (aX rfl (eh rfl (aX rfl (aX rfl (ai (lu _ _ _ Tryz.underlying9 rfl _ _ (.lit rfl rfl) (.lit rfl rfl) ab ab rfl) ?_))))))
   refine aX rfl (ai (aL _ aa rfl (by exact kQ)) ?_)
   refine bG rfl rfl rfl rfl rfl rfl (be rfl (aj (aG ?_)))
   subst hte;subst hfin
   exact jV (.inr rfl) rfl (.cellA aa rfl rfl rfl) (.tmp kU) (Le.out [] [] (.tup rfl lz) rfl rfl rfl trivial trivial)
  have hfin:e=lH gF s (a+1):=(xC ab).symm.trans het
  refine aQ rfl rfl ah ?_
  refine aQ rfl rfl ah ?_
  refine aQ rfl rfl ah ?_
  refine aQ rfl rfl ah ?_
  refine ai (aE _ _ _ rfl bR) (aJ (hK18 _ ?_))
  clear hK18;try clear K18
  refine aW rfl rfl (bD (id (hK16 _ ?_)))
  clear hK16;try clear K16
  refine am (eh rfl (aX rfl (aX rfl (ai (lu _ _ _ Tryz.underlying9 rfl _ _ (.lit rfl rfl) (.lit rfl rfl) ab ab rfl) ?_))))
  refine ai (aH aa al (qC ((s.drop a).take (e - a)) (by simp;omega) (by rw [hfin];exact htd) (by rw [hfin];exact htv)) rfl rfl) ?_
  refine be rfl (aj (aq (aq ?_)))
  refine aM (σ':=aD 101 [(0,_),(1,_),(4,_),(6,_),(7,_)] [((4,0),_)] [] []) kp ?_
  refine an (aX rfl (ai (bm _ _ rfl rfl rfl) (aj (aW rfl (decide_eq_false ab) ?_))))
  refine aS (am (aX rfl (eh rfl (aX rfl (aX rfl (ai (lu _ _ _ Tryz.underlying9 rfl _ _ (.lit rfl rfl) (.lit rfl rfl) ab ab rfl) ?_))))))
  refine aX rfl (ai (aL _ aa rfl (by exact kQ)) ?_)
  refine bG rfl rfl rfl rfl rfl rfl (be rfl (aj (aG ?_)))
  subst hte;subst hfin
  exact jV (.inr rfl) rfl (.cellA aa rfl rfl rfl) (.tmp kU) (Le.out [] [] (.tup rfl lz) rfl rfl rfl trivial trivial)
 have hsy:=ua hb hlb hc48 ht
 refine aS (am (eh rfl (aX rfl (aX rfl (ai (aZ _ _ rfl rfl (bE ab)) ?_)))))
 refine eh rfl (ai (ig _ Tryz.underlying9 rfl) (ai (Bd _ _ rfl rfl rfl) (ai (lu _ _ _ Tryz.underlying9 rfl a (min (a+2) s.length) (.lit rfl rfl) (.lit rfl ab) ab ab (yH ha)) ?_)))
 refine oO rfl (aj (aq (aq ?_)))
 refine aM (σ':=aD 101 [(0,_),(1,_),(4,_),(6,_),(8,_)] [((4,0),_)] [] []) kp ?_
 refine an (ai (bh _ _ aa rfl ag (by (simp <;> rfl)) ah rfl) ?_)
 refine eh rfl (ai (aH aa al (qR EZ 6 rfl ab ((s.drop a).take 2)) rfl rfl) ?_)
 refine aj (aP rfl (fun hc86=> ?_) (fun hc86=> ?_))
 ·skip
  have hte:t=⟨3,a,(s.drop a).take 2,0⟩:=hsy.elim (·.2) fun h=> absurd hc86 h.1
  refine am (aX rfl (eh rfl (ai (aL _ aa rfl (by exact kQ)) ?_)))
  refine bG rfl rfl rfl rfl rfl rfl (be rfl (aj (aG ?_)))
  subst hte
  exact jV (.inr rfl) rfl (.cellA aa rfl rfl rfl) (.tmp kU) (Le.out [] [] (.tup rfl lz) rfl rfl rfl trivial trivial)
 obtain ⟨_,hs1,hte⟩:=hsy.resolve_left fun h=> hc86 h.1
 refine aS (am (eh rfl (aX rfl (aX rfl (ai (lu _ _ _ Tryz.underlying9 rfl a (a+1) (.lit rfl rfl) (.lit rfl rfl) ab ab (by rw [Nat.add_sub_cancel_left])) ?_)))))
 refine oO rfl (aj (aq (am (ai (bh _ _ aa rfl ag (by (simp <;> rfl)) ah rfl) ?_))))
 refine eh rfl (ai (aH aa al (qR Ih 16 rfl ab ((s.drop a).take 1)) rfl rfl) ?_)
 refine aj (bL rfl (decide_eq_true hs1) ?_)
 refine am (aX rfl (eh rfl (ai (aL _ aa rfl (by exact kQ)) ?_)))
 refine bG rfl rfl rfl rfl rfl rfl (be rfl (aj (aG ?_)))
 subst hte
 exact jV (.inr rfl) rfl (.cellA aa rfl rfl rfl) (.tmp kU) (Le.out [] [] (.tup rfl lz) rfl rfl rfl trivial trivial)
theorem mB {f:Nat} {s:Tx} {a:Nat} {l:List Tk} (h:nb (f+1) s a=some l):(s.length≤a∧l=[⟨0,s.length,[],0⟩])∨(a < s.length∧ ∃ t m,rf (s.drop a) a=some t∧nb f s (lc s (a+t.t.length) false)=some m∧l=t::m):=by
 unfold nb at h
 split at h
 ·exact .inl ⟨by assumption,(Option.some.inj h).symm⟩
 split at h
 ·cases h
 split at h
 ·cases h
 rename_i t ht _ m hm
 exact .inr ⟨by omega,t,m,ht,hm,(Option.some.inj h).symm⟩
theorem uR {s:Tx} {a:Nat} {t:Tk} (ha:a < s.length) (h:rf (s.drop a) a=some t):0 < t.t.length∧a+t.t.length≤s.length:=by
 obtain ⟨b,hb⟩:=kF ha
 have key: ∀ k,0 < k→0 < ((s.drop a).take k).length∧a+((s.drop a).take k).length≤s.length:=fun k hk=> by rw [List.length_take,List.length_drop];omega
 cases h1:ng b with
 | true=> obtain ⟨_,rfl⟩:=rB hb h1 h;exact key _ (by have:=sN (p:=uz) (s:=s) (a:=a+1) ab;omega)
 | false=>
  cases h2:gF b with
  | true=> obtain ⟨_,_,rfl⟩:=uH hb h1 h2 h;exact key _ (by have:=sN (p:=gF) (s:=s) (a:=a+1) ab;omega)
  | false=>
   rcases ua hb h1 h2 h with ⟨_,rfl⟩ | ⟨_,_,rfl⟩
   ·exact key _ ab
   exact key _ ab
def IL (s:Tx) (l:List Tk) (z:Nat×List Tk):Prop:=z.1≤s.length∧z.2.length≤z.1∧ ∃ f m,nb f s z.1=some m∧l=z.2++m
theorem vt (s:Tx) (h1:s.length≤100000) (l:List Tk) (hl:Fw s=some l):
  Spec Tryz.prog 159 (ba [.v (bt s)] []) (aO (.tup [.sl l.length (sY l), .v (.int .i64 0), .v (.int .i64 0)]) []):=by
 have hs0:=vZ (s:=s) (a:=0) (Nat.zero_le _) false
 refine Spec.ofN Tryz.func159 rfl Tryz.ntmps159 rfl ?_
 refine am (ai (bp _ fz) (be rfl (be rfl (aj (am (ai (si (5,0) _ 225 4 rfl rfl) ?_))))))
 refine aj (am (eh rfl (ai (aH aa al (rO s 0 h1 (Nat.zero_le _)) rfl rfl) ?_)))
 refine be rfl (aj (aU fun K4 hK4=> ?_))
 refine ax ?_
 refine bq (α:=Nat×List Tk) (fun z=> IL s l z) 42 [(0,_)] [] (fun z=> [(6, .v (.int .i64 (z.1:Int))),(5, .ref (5,0) 0 z.2.length)]) (fun z=> [((5,0), .row 225 4 (sY z.2))]) [] [] (fun z=> s.length - z.1) (lc s 0 false,[]) ?_ (by
  refine Le.mkJ [] [] rfl ?_ ?_ trivial trivial ?_
  ·exact ⟨(iV rfl),(co ag),(cP rfl ag),trivial⟩
  ·exact ⟨(fg rfl rfl rfl ag),trivial⟩
  kernel_rfl) ?_
 ·exact ⟨hs0.2,Nat.zero_le _,s.length+1,l,by rw [← hl];unfold Fw lc;rw [List.drop_zero,Nat.zero_add],rfl⟩
 intro z hz
 obtain ⟨hz1,hz2,f,m,hf,hlm⟩:=hz
 obtain ⟨f,rfl⟩: ∃ g,f=g+1:=by cases f with | zero=> (simp [nb] at hf) | succ g=> exact ⟨g,rfl⟩
 refine aU fun K5 hK5=> ?_
 refine am (aX rfl (eh rfl (ai (ig _ Tryz.underlying9 rfl) (ai (bm _ _ rfl rfl rfl) (aj (aP rfl (fun hc14=> ?_) (fun hc14=> ?_)))))))
 ·skip
  obtain ⟨_,t,m',ht,hm',hm⟩:=(mB hf).resolve_left fun h=> by omega
  obtain ⟨htl,hta⟩:=uR ab ht
  have hsk:=vZ (s:=s) (a:=z.1+t.t.length) hta false
  have hlen:(z.2++[t]).length=z.2.length+1:=by simp
  refine bs (hK5 _ ?_)
  clear hK5;try clear K5
  refine ax (am (eh rfl (aX rfl (ai (aH aa al (vI s z.1 h1 ab t ht) rfl rfl) ?_))))
  refine ai (aI _ tN) (ai (cq _ rfl pE) (ai (cq _ rfl eg) (ai (aC (7,0) aa rfl rfl) (bG rfl rfl rfl rfl rfl rfl (be rfl (aj (aq (am (aX rfl (ai (bY (r:=false) _ _ rfl rfl rfl) ?_))))))))))
  refine aj (aW rfl rfl (aS (aq ?_)))
  refine aM (σ':=aD 42 [(0,_),(5,_),(6,_),(7,_)] [((5,0),_),((7,0),_)] [] []) kp ?_
  refine an (gG rfl (ai (az _ aa rfl rfl rfl rfl) (ai (bh _ _ aa rfl ag (by (simp <;> rfl)) ah rfl) ?_)))
  refine ai (dt (28,0) _ _ aa rfl rfl (bu _).symm (.sl rfl) ab rfl (uK _ _) hlen.symm) ?_
  refine fh rfl (aj (an (eh rfl (aX rfl (bb rfl rfl rfl (ai (aF _ aa rfl rfl fx) (ai (ig _ Tryz.underlying9 rfl) (ai (aZ _ _ rfl rfl (bE ab)) ?_))))))))
  refine ai (aH aa al (rO s (z.1+t.t.length) h1 hta) rfl rfl) ?_
  refine be rfl (aJ (⟨(lc s (z.1+t.t.length) false,z.2++[t]),?_,?_,?_⟩))
  ·exact ⟨hsk.2,by simp only;omega,f,m',hm',by rw [hlm,hm];simp⟩
  ·skip
   refine Le.mkJ [((5,0),(28,0))] [] rfl ?_ ?_ trivial trivial ?_
   ·exact ⟨(by repeat' (exact Lv.v)),(co ag),(cP rfl ag),trivial⟩
   ·exact ⟨(fg rfl rfl rfl ag),trivial⟩
   kernel_rfl
  simp only;omega
 obtain ⟨_,hm⟩:=(mB hf).resolve_right fun h=> by omega
 have hlen:(z.2++[(⟨0,s.length,[],0⟩:Tk)]).length=z.2.length+1:=by simp
 rw [hm] at hlm;subst hlm
 refine bD (id (hK4 _ ?_))
 clear hK4;try clear K4
 refine am (gG rfl (eh rfl (ai (ig _ Tryz.underlying9 rfl) (ai (aL _ aa rfl (by exact kQ)) ?_))))
 refine ai (bh _ _ aa rfl ag (by (simp <;> rfl)) ah rfl) ?_
 refine ai (dt (41,0) _ _ aa rfl rfl (bu _).symm (.sl rfl) ab rfl (uK _ ⟨0,s.length,[],0⟩) hlen.symm) ?_
 exact fh rfl (be rfl (be rfl (aj (aG (wC (.inr rfl) rfl (.tmp dT) (.tmp kU) (.tmp kU) (Le.out [] [(41,0)] (.tup rfl (au (ff rfl rfl (bu _).symm rfl) lz)) rfl rfl rfl tr trivial))))))
end Go.Proofs.YtmjnackchaahbaaGreat
