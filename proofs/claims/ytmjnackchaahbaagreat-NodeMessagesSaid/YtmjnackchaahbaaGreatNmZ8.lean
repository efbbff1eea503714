/- Part 8 of the texts that the walk leans on: the machine, the walks, the plain laws. -/
import Derived.Test.YtmjnackchaahbaaGreatNmZ7
set_option linter.unusedSimpArgs false
set_option linter.unusedVariables false
namespace Go.Proofs.YtmjnackchaahbaaGreat
open Go.RowKit

def fA:Ex→Nat
 | .int _=> 1 | .bool _=> 2 | .var _=> 1 | .name _=> 1
 | .draw e=> if fA e=1 then 1 else 0
 | .neg e=> if fA e=1 then 1 else 0
 | .not e=> if fA e=2 then 2 else 0
 | .bin o a b=> if fA a=1∧fA b=1 then (match o with | .add=> 1 | .sub=> 1 | .mul=> 1 | .div=> 1 | _=> 2) else 0
 | .and a b=> if fA a=2∧fA b=2 then 2 else 0
 | .or a b=> if fA a=2∧fA b=2 then 2 else 0
def pd (e:Ex):Bool:=Nat.beq (fA e) 1
mutual
def yH:Sm→Bool
 | .assign _ e=> pd e
 | .send t _ a b=> pd t && pd a && pd b
 | .timer _=> true | .cancel _=> true | .sync=> true | .stop=> true
 | .reply a b=> pd a && pd b
 | .fail e=> pd e
 | .loop c b=> Nat.beq (fA c) 2 && pY b
 | .ite c a b=> Nat.beq (fA c) 2 && pY a && pY b
def pY:Bk→Bool
 | .nil=> true
 | .cons s b=> yH s && pY b
end
def fl (nv:Nat):Ex→Bool
 | .int n=> decide (-2147483647≤n) && decide (n≤2147483647)
 | .bool _=> true
 | .var i=> decide (i < nv)
 | .name k=> decide (k < 9)
 | .draw e=> fl nv e | .neg e=> fl nv e | .not e=> fl nv e
 | .bin _ a b=> fl nv a && fl nv b
 | .and a b=> fl nv a && fl nv b
 | .or a b=> fl nv a && fl nv b
mutual
def mu (nv:Nat):Sm→Bool
 | .assign i e=> decide (i < nv) && fl nv e
 | .send t k a b=> decide (k < 30) && fl nv t && fl nv a && fl nv b
 | .timer k=> decide (k < 8) | .cancel k=> decide (k < 8) | .sync=> true | .stop=> true
 | .reply a b=> fl nv a && fl nv b
 | .fail e=> fl nv e
 | .loop c b=> fl nv c && qL nv b
 | .ite c a b=> fl nv c && qL nv a && qL nv b
def qL (nv:Nat):Bk→Bool
 | .nil=> true
 | .cons s b=> mu nv s && qL nv b
end
theorem dG (nv:Nat): ∀ e,fl nv e=true→hY nv e
 | .int n,h=> by simpa [fl,hY] using h
 | .bool _,_=> trivial
 | .var i,h=> by simpa [fl,hY] using h
 | .name k,h=> by simpa [fl,hY] using h
 | .draw e,h=> dG nv e h
 | .neg e,h=> dG nv e h
 | .not e,h=> dG nv e h
 | .bin _ a b,h=> by simp only [fl,Bool.and_eq_true] at h;exact ⟨dG nv a h.1,dG nv b h.2⟩
 | .and a b,h=> by simp only [fl,Bool.and_eq_true] at h;exact ⟨dG nv a h.1,dG nv b h.2⟩
 | .or a b,h=> by simp only [fl,Bool.and_eq_true] at h;exact ⟨dG nv a h.1,dG nv b h.2⟩
mutual
theorem BJ (nv:Nat): ∀ s,mu nv s=true→gI nv s
 | .assign i e,h=> by simp only [mu,Bool.and_eq_true,decide_eq_true_eq] at h;exact ⟨h.1,dG nv e h.2⟩
 | .send t k a b,h=> by simp only [mu,Bool.and_eq_true,decide_eq_true_eq] at h;exact ⟨h.1.1.1,dG nv t h.1.1.2,dG nv a h.1.2,dG nv b h.2⟩
 | .timer k,h=> by simpa [mu,gI] using h
 | .cancel k,h=> by simpa [mu,gI] using h
 | .sync,_=> by simp [gI]
 | .stop,_=> by simp [gI]
 | .reply a b,h=> by simp only [mu,Bool.and_eq_true] at h;exact ⟨dG nv a h.1,dG nv b h.2⟩
 | .fail e,h=> by simp only [mu] at h;exact dG nv e h
 | .loop c b,h=> by simp only [mu,Bool.and_eq_true] at h;exact ⟨dG nv c h.1,lV nv b h.2⟩
 | .ite c a b,h=> by simp only [mu,Bool.and_eq_true] at h;exact ⟨dG nv c h.1.1,lV nv a h.1.2,lV nv b h.2⟩
theorem lV (nv:Nat): ∀ b,qL nv b=true→lm nv b
 | .nil,_=> by simp [lm]
 | .cons s b,h=> by simp only [qL,Bool.and_eq_true] at h;exact ⟨BJ nv s h.1,lV nv b h.2⟩
end
structure vE (l:List (Nat×Bk)) (nv:Nat):Prop where
 ok: ∀ p∈l,lm nv p.2
 wl: ∀ p∈l,pY p.2=true
 n:(bS l 0).length≤400
 h: ∀ p∈l,p.1 < 40
 nd:(l.map (·.1)).Nodup
 d: ∀ k∈mo l,k≤8
def srcB (l:List (Nat×Bk)) (nv:Nat):Bool:=l.all (fun p=> qL nv p.2 && pY p.2 && decide (p.1 < 40)) && decide ((bS l 0).length≤400) && decide (l.map (·.1)).Nodup && (mo l).all fun k=> decide (k≤8)
theorem gj {l:List (Nat×Bk)} {nv:Nat} (h:srcB l nv=true):vE l nv:=by
 simp only [srcB,Bool.and_eq_true,List.all_eq_true,decide_eq_true_eq] at h
 exact ⟨fun p hp=> lV nv _ (h.1.1.1 p hp).1.1,fun p hp=> (h.1.1.1 p hp).1.2,h.1.1.2,fun p hp=> (h.1.1.1 p hp).2,h.1.2,h.2⟩
theorem srcOk0:vE ons0 (zJ++AB).length:=gj ae
theorem srcOk1:vE ons1 (Dh++Cc).length:=gj ae
theorem srcOk2:vE ons2 (BZ++Ds).length:=gj ae
theorem srcOk3:vE ons3 (AE++CP).length:=gj ae
theorem srcOk4:vE ons4 (BS++Aq).length:=gj ae
theorem srcOk5:vE ons5 (AS++BR).length:=gj ae
theorem srcOk6:vE ons6 (Bz++Dw).length:=gj ae
theorem srcOk7:vE ons7 (Ab++Au).length:=gj ae
theorem srcOk8:vE ons8 (Dt++BD).length:=gj ae
theorem srcOk9:vE ons9 (CN++Dn).length:=gj ae
theorem srcOk10:vE ons10 (um++vc).length:=gj ae
theorem srcOk11:vE ons11 (vA++uA).length:=gj ae
def xC (l:List (Nat×Bk)) (i:Nat):Nat:=(mo l).getD i 0
theorem sR (l:List (Nat×Bk)):Fit (xC l) 0 (mo l):=fun k d h=> by
 unfold xC
 rw [Nat.zero_add,List.getD_eq_getElem?_getD,h];rfl

abbrev DS:=List Int×Bool×Bool
def jD (n:Nat) (d:Int) (s:DS) (j:Nat):DS:=
 if n≤j then s else if s.1.getD j (-1) < 0 then (s.1.set j d,s.2.1,true) else if s.1.getD j (-1)≠d then (s.1,false,s.2.2) else s
def cY (C:List eV) (i:Nat):eV:=C.getD i { op:= .stop }
def Ey (C:List eV) (i:Nat) (s:DS):Int:=max (s.1.getD i (-1) - (cY C i).op.pops) 0+(cY C i).op.puts
def lA (C:List eV) (s:DS) (i:Nat):DS:=
 if s.1.getD i (-1) < 0 then s
 else (dU i (cY C i)).foldl (jD C.length (Ey C i s)) (s.1,if s.1.getD i (-1) - (cY C i).op.pops < 0 then false else s.2.1,s.2.2)
def dC (C:List eV) (s:List Int×Bool) (k:Nat):DS:=(List.range k).foldl (lA C) (s.1,s.2,false)
theorem qz (C:List eV) (s:List Int×Bool) (k:Nat):dC C s (k+1)=lA C (dC C s k) k:=by simp [dC,List.range_succ,List.foldl_append]
def jM (C:List eV):Nat→List Int×Bool→List Int×Bool
 | 0,s=> s
 | f+1,s=> if (dC C s C.length).2.2=true then jM C f ((dC C s C.length).1,(dC C s C.length).2.1) else ((dC C s C.length).1,(dC C s C.length).2.1)
def neg (l:List Int):Nat:=l.countP fun x=> decide (x < 0)
theorem DH {l:List Int} {j:Nat} {d:Int} (hj:j < l.length) (h:l.getD j (-1) < 0) (hd:0≤d):neg (l.set j d)+1=neg l:=by
 unfold neg
 have e:l=l.take j++l[j]::l.drop (j+1):=by rw [List.getElem_cons_drop hj,List.take_append_drop]
 have h':l[j] < 0:=by rwa [List.getD_eq_getElem?_getD,List.getElem?_eq_getElem hj] at h
 rw [List.set_eq_take_append_cons_drop,if_pos hj]
 conv=> rhs;rw [e]
 simp only [List.countP_append,List.countP_cons]
 rw [decide_eq_true h',decide_eq_false (show ¬ d < 0 by omega)]
 simp
 omega
structure DI (D:Nat→Nat) (n:Nat) (s:DS):Prop where
 len:s.1.length=n
 val: ∀ i,i < n→s.1.getD i (-1)= -1∨s.1.getD i (-1)=(D i:Int)
 ok:s.2.1=true
theorem kz {l:List Int} {j i:Nat} {d:Int}:(l.set j d).getD i (-1)=if i=j∧j < l.length then d else l.getD i (-1):=by
 simp only [List.getD_eq_getElem?_getD,List.getElem?_set]
 by_cases h:j=i
 ·subst h
  by_cases h2:j < l.length
  ·simp [h2]
  simp [h2]
 simp [h,Ne.symm h]
theorem Fd {D:Nat→Nat} {n:Nat} {d:Int} {s:DS} {j:Nat} (h:DI D n s) (hd:d=(D j:Int)):DI D n (jD n d s j)∧neg (jD n d s j).1≤neg s.1∧((jD n d s j).2.2=true→s.2.2=true∨neg (jD n d s j).1 < neg s.1):=by
 unfold jD
 split
 ·exact ⟨h,Nat.le_refl _,fun e=> .inl e⟩
 rename_i hj
 split
 ·rename_i hn
  have:=DH (l:=s.1) (j:=j) (d:=d) (by rw [h.len];omega) hn ab
  refine ⟨⟨by rw [List.length_set];exact h.len,fun i hi=> ?_,h.ok⟩,by simp only;omega,fun _=> .inr (by simp only;omega)⟩
  simp only
  rw [kz]
  split
  ·rename_i hc;rw [hc.1];exact .inr hd
  exact h.val i hi
 rename_i hn
 have hv:=h.val j ab
 have:s.1.getD j (-1)=d:=by rw [hd];rcases hv with hv | hv <;> omega
 rw [if_neg (fun hc=> hc this)]
 exact ⟨h,Nat.le_refl _,fun e=> .inl e⟩
theorem nR {D:Nat→Nat} {n:Nat} {d:Int}: ∀ (l:List Nat) {s:DS},DI D n s→(∀ j∈l,d=(D j:Int))→DI D n (l.foldl (jD n d) s)∧neg (l.foldl (jD n d) s).1≤neg s.1∧((l.foldl (jD n d) s).2.2=true→s.2.2=true∨neg (l.foldl (jD n d) s).1 < neg s.1)
 | [],s,h,_=> ⟨h,Nat.le_refl _,fun e=> .inl e⟩
 | j::l,s,h,hd=> by
  obtain ⟨a1,a2,a3⟩:=Fd h (hd j (by simp))
  obtain ⟨b1,b2,b3⟩:=nR l a1 fun j hj=> hd j (by simp [hj])
  simp only [List.foldl_cons]
  refine ⟨b1,by omega,fun e=> ?_⟩
  rcases b3 e with e | e
  ·rcases a3 e with e | e
   ·exact .inl e
   exact .inr ab
  exact .inr ab
section
variable {D:Nat→Nat} {nv:Nat} {C:List eV} (hC:Good D nv 0 (C.length - 1) 0 C)
include hC
theorem De {s:DS} {i:Nat} (hi:i < C.length) (h:DI D C.length s):DI D C.length (lA C s i)∧neg (lA C s i).1≤neg s.1∧((lA C s i).2.2=true→s.2.2=true∨neg (lA C s i).1 < neg s.1):=by
 unfold lA
 split
 ·exact ⟨h,Nat.le_refl _,fun e=> .inl e⟩
 rename_i hn
 have hx:C[i]? =some (cY C i):=by unfold cY;rw [List.getD_eq_getElem?_getD,List.getElem?_eq_getElem hi];rfl
 obtain ⟨_,g2,g3⟩:=hC i _ hx
 rw [Nat.zero_add] at g2 g3
 have hv:s.1.getD i (-1)=(D i:Int):=by rcases h.val i hi with hv | hv <;> omega
 have hdo:Ey C i s=((D i - (cY C i).op.pops+(cY C i).op.puts:Nat):Int):=by unfold Ey;rw [hv];omega
 rw [if_neg (by rw [hv];omega)]
 exact nR _ ⟨h.len,h.val,h.ok⟩ fun j hj=> by rw [hdo,(g3 j hj).2.2]
theorem lx {s:List Int×Bool} (h:DI D C.length (s.1,s.2,false)): ∀ k,k≤C.length→DI D C.length (dC C s k)∧neg (dC C s k).1≤neg s.1∧((dC C s k).2.2=true→neg (dC C s k).1 < neg s.1)
 | 0,_=> ⟨h,Nat.le_refl _,fun e=> by simp [dC] at e⟩
 | k+1,hk=> by
  obtain ⟨a1,a2,a3⟩:=lx h k ab
  obtain ⟨b1,b2,b3⟩:=De hC ab a1 (i:=k)
  rw [qz]
  refine ⟨b1,by omega,fun e=> ?_⟩
  rcases b3 e with e | e
  ·have:=a3 e;omega
  omega
theorem uI: ∀ f (s:List Int×Bool),DI D C.length (s.1,s.2,false)→DI D C.length ((jM C f s).1,(jM C f s).2,false)
 | 0,s,h=> h
 | f+1,s,h=> by
  obtain ⟨a1,_,_⟩:=lx hC h C.length (Nat.le_refl _)
  unfold jM
  split
  ·exact uI f _ ⟨a1.len,a1.val,a1.ok⟩
  exact ⟨a1.len,a1.val,a1.ok⟩
end
theorem wz {C:List eV} {f:Nat} {s:List Int×Bool} (h:(dC C s C.length).2.2=true):jM C (f+1) s=jM C f ((dC C s C.length).1,(dC C s C.length).2.1):=by rw [jM,if_pos h]
theorem wo {C:List eV} {f:Nat} {s:List Int×Bool} (h:(dC C s C.length).2.2=false):jM C (f+1) s=((dC C s C.length).1,(dC C s C.length).2.1):=by rw [jM,if_neg (by simp [h])]
def jq (C:List eV) (e:Int):List Int×Bool:=if e < 0∨(C.length:Int)≤e then (List.replicate C.length (-1),true) else jM C (C.length+1) ((List.replicate C.length (-1)).set e.toNat 0,true)
theorem qC {D:Nat→Nat} {nv:Nat} {C:List eV} (hC:Good D nv 0 (C.length - 1) 0 C) {e:Int} (he:0≤e→e < C.length→D e.toNat=0):DI D C.length ((jq C e).1,(jq C e).2,false):=by
 have hr: ∀ i,(List.replicate C.length (-1:Int)).getD i (-1)= -1:=fun i=> by rw [List.getD_eq_getElem?_getD,List.getElem?_replicate];split <;> rfl
 unfold jq
 split
 ·exact ⟨by simp,fun i _=> .inl (hr i),rfl⟩
 refine uI hC _ _ ⟨by simp,fun i hi=> ?_,rfl⟩
 simp only
 rw [kz]
 split
 ·rename_i hc
  right
  rw [hc.1,he ab ab];rfl
 exact .inl (hr i)
def ld (C:List eV) (out:List Int) (k:Nat):Int:=(List.range k).foldl (fun m i=> if 0≤out.getD i (-1) then max (max m (out.getD i (-1))) (out.getD i (-1) - (cY C i).op.pops+(cY C i).op.puts) else m) 0
theorem qW (C:List eV) (out:List Int) (k:Nat):ld C out (k+1)=if 0≤out.getD k (-1) then max (max (ld C out k) (out.getD k (-1))) (out.getD k (-1) - (cY C k).op.pops+(cY C k).op.puts) else ld C out k:=by simp [ld,List.range_succ,List.foldl_append]
theorem FE (o:Opc):o.puts≤1:=by cases o <;> decide
theorem ny {C:List eV} {out:List Int} {D:Nat→Nat} {n:Nat} {ok ch:Bool} (h:DI D n (out,ok,ch)) {B:Nat} (hB: ∀ i,i < n→D i≤B): ∀ k,k≤n→0≤ld C out k∧ld C out k≤B+1
 | 0,_=> by simp [ld];omega
 | k+1,hk=> by
  obtain ⟨h1,h2⟩:=ny (C:=C) h hB k ab
  have h3:=hB k ab
  have h4:out.getD k (-1)= -1∨out.getD k (-1)=(D k:Int):=h.val k ab
  have h5:=FE (cY C k).op
  have h6:=qW C out k
  rw [h6]
  rcases h4 with h4 | h4 <;> rw [h4] <;> split <;> omega
def nU (l:List (Nat×Nat)):List Int:=l.foldl (fun m p=> m.set p.1 (p.2:Int)) (List.replicate 40 (-1))
theorem CX (l:List (Nat×Nat)):(nU l).length=40:=by
 unfold nU
 have: ∀ (l:List (Nat×Nat)) (m:List Int),m.length=40→(l.foldl (fun m p=> m.set p.1 (p.2:Int)) m).length=40:=by
  intro l
  induction l with
  | nil=> exact fun m h=> h
  | cons p l ih=> exact fun m h=> ih _ (by rw [List.length_set];exact h)
 exact this l _ (by simp)
theorem Bm: ∀ (l:List (Nat×Nat)) (h:Nat),(nU l).getD h (-1)= -1∨ ∃ e,(h,e)∈l∧(nU l).getD h (-1)=(e:Int):=by
 unfold nU
 have key: ∀ (l:List (Nat×Nat)) (m:List Int) (h:Nat),(l.foldl (fun m p=> m.set p.1 (p.2:Int)) m).getD h (-1)=m.getD h (-1)∨ ∃ e,(h,e)∈l∧(l.foldl (fun m p=> m.set p.1 (p.2:Int)) m).getD h (-1)=(e:Int):=by
  intro l
  induction l with
  | nil=> exact fun m h=> .inl rfl
  | cons p l ih=>
   intro m h
   simp only [List.foldl_cons]
   rcases ih (m.set p.1 (p.2:Int)) h with e | ⟨e,h1,h2⟩
   ·rw [e,kz]
    split
    ·rename_i hc
     exact .inr ⟨p.2,by rw [hc.1];exact List.mem_cons_self,rfl⟩
    exact .inl rfl
   exact .inr ⟨e,List.mem_cons_of_mem _ h1,h2⟩
 intro l h
 rcases key l (List.replicate 40 (-1)) h with e | e
 ·left
  rw [e,List.getD_eq_getElem?_getD,List.getElem?_replicate]
  split <;> rfl
 exact .inr e
def lc (l:List (Nat×Bk)):Bool:=decide ((bS l 0).length≤400) && (List.range 40).all fun h=> decide (ld (bS l 0) (jq (bS l 0) ((nU (ko l 0)).getD h (-1))).1 (bS l 0).length≤16)
theorem wJ (l:List (Nat×Bk)) (h:Nat):(nU (ko l 0)).getD h (-1)= -1∨ ∃ e:Nat,(h,e)∈ko l 0∧(nU (ko l 0)).getD h (-1)=(e:Int)∧e < (bS l 0).length∧xC l e=0:=by
 rcases Bm (ko l 0) h with e | ⟨e,h1,h2⟩
 ·exact .inl e
 obtain ⟨_,h4,h5⟩:=xD (sR l) h1
 exact .inr ⟨e,h1,h2,by omega,h5⟩
theorem zq {l:List (Nat×Bk)} {nv:Nat} (hs:vE l nv):lc l=true:=by
 unfold lc
 rw [Bool.and_eq_true,decide_eq_true_eq,List.all_eq_true]
 refine ⟨hs.n,fun h _=> ?_⟩
 rw [decide_eq_true_eq]
 have hg:=Cn (xC l) nv l 0 0 ((bS l 0).length - 1) hs.ok (sR l) (Nat.le_refl _) ab
 have hd:=qC hg (e:=(nU (ko l 0)).getD h (-1)) (fun h1 h2=> by
  rcases wJ l h with e | ⟨e,_,e2,_,e4⟩
  ·omega
  rw [e2];exact e4)
 have hB: ∀ i,i < (bS l 0).length→xC l i≤8:=fun i hi=> by
  unfold xC
  rw [← qG l 0] at hi
  rw [List.getD_eq_getElem?_getD,List.getElem?_eq_getElem hi]
  exact hs.d _ (List.getElem_mem hi)
 have:=(ny (C:=bS l 0) hd hB _ (Nat.le_refl _)).2
 omega

theorem ic {α β:Type} (f:α→List β) (c:Nat) (hf: ∀ a,(f a).length=c): ∀ l:List α,(l.flatMap f).length=l.length*c
 | []=> by simp
 | a::l=> by rw [List.flatMap_cons,List.length_append,hf,ic f c hf l,List.length_cons,Nat.succ_mul];omega
theorem pD {α β:Type} (f:α→List β) (c:Nat) (hf: ∀ a,(f a).length=c): ∀ (l:List α) (k:Nat),(l.flatMap f).drop (k*c)=(l.drop k).flatMap f
 | l,0=> by simp
 | [],k+1=> by simp
 | a::l,k+1=> by
  rw [List.flatMap_cons,List.drop_succ_cons,← pD f c hf l k,List.drop_append,List.drop_eq_nil_of_le (by rw [hf,Nat.succ_mul];omega),List.nil_append,hf]
  congr 1;rw [Nat.succ_mul];omega
theorem lf {α β:Type} (f:α→List β) (c:Nat) (hf: ∀ a,(f a).length=c) (l:List α) (k:Nat) (h:k < l.length):((l.flatMap f).drop (k*c)).take c=f l[k]:=by
 rw [pD f c hf,List.drop_eq_getElem_cons h,List.flatMap_cons,List.take_append_of_le_length (by rw [hf];exact Nat.le_refl _),List.take_of_length_le (by rw [hf];exact Nat.le_refl _)]
theorem mV {α β:Type} (f:α→List β) (c:Nat) (hf: ∀ a,(f a).length=c) (l:List α) (k j:Nat) (h:k < l.length) (hj:j < c):(l.flatMap f)[k*c+j]? =(f l[k])[j]? :=by
 rw [← lf f c hf l k h,List.getElem?_take_of_lt hj,List.getElem?_drop]
theorem jh {α β:Type} (f:α→List β) (l:List α) (a:α):l.flatMap f++f a=(l++[a]).flatMap f:=by simp
theorem Bu {α β:Type} (f:α→List β) (l m:List α):l.flatMap f++m.flatMap f=(l++m).flatMap f:=by simp

def fm (l:List Tx):List PV:=l.map fun t=> .v (bt t)
@[simp] theorem bv (l:List Tx):(fm l).length=l.length:=by simp [fm]
theorem jK (l:List Tx) (k:Nat) (h:k < l.length):(fm l)[k]? =some (.v (bt (l.getD k []))):=by simp [fm,h]
theorem qd (a b:List Tx):fm a++fm b=fm (a++b):=by simp [fm]
theorem nP (a:List Tx) (t:Tx):fm a++[.v (bt t)]=fm (a++[t]):=by simp [fm]
theorem kf {l:List Tx} {k:Nat} (h:k < l.length):l.getD k []∈l:=by
 rw [List.getD_eq_getElem?_getD,List.getElem?_eq_getElem h];exact List.getElem_mem h
theorem kV {α:Type} {l:List α} {k:Nat} {x d:α} (h:x∉l.take k) (hk:k < l.length) (hx:l.getD k d≠x):x∉l.take (k+1):=by
 rw [List.take_succ_eq_append_getElem hk,List.mem_append,List.mem_singleton]
 rintro (h' | h')
 ·exact h h'
 exact hx (by rw [List.getD_eq_getElem?_getD,List.getElem?_eq_getElem hk,h'];rfl)

def GM (t:Tk):List PV:=[.v (.int .i64 (t.k:Int)), .v (.int .i64 (t.a:Int)), .v (bt t.t), .v (.int .i64 (t.n:Int))]
def tB (l:List Tk):List PV:=l.flatMap GM
theorem bu (l:List Tk):(tB l).length=l.length*4:=ic GM 4 (fun _=> rfl) l
theorem vY (l:List Tk) (k:Nat) (h:k < l.length):dj l k=l[k]:=by simp [dj,h]
theorem qf (l:List Tk) (k:Nat) (h:k < l.length):(tB l)[k*4]? =some (.v (.int .i64 ((dj l k).k:Int))):=by
 rw [vY l k h];exact mV GM 4 (fun _=> rfl) l k 0 h ab
theorem nJ (l:List Tk) (k:Nat) (h:k < l.length):(tB l)[k*4+2]? =some (.v (bt (dj l k).t)):=by
 rw [vY l k h];exact mV GM 4 (fun _=> rfl) l k 2 h ab
theorem nr (l:List Tk) (k:Nat) (h:k < l.length):PV.ups (((tB l).drop (k*4)).take 4)=[.v (.int .i64 ((dj l k).k:Int)), .v (.int .i64 ((dj l k).a:Int)), .v (bt (dj l k).t), .v (.int .i64 ((dj l k).n:Int))]:=by
 rw [vY l k h,show ((tB l).drop (k*4)).take 4=GM l[k] from lf GM 4 (fun _=> rfl) l k h];rfl
theorem vf (l:List Tk) (t:Tk):tB l++GM t=tB (l++[t]):=jh GM l t

theorem gp {s:Tx} {a:Nat} {b:UInt8} (h:s[a]? =some b):s.drop a=b::s.drop (a+1):=by
 obtain ⟨hl,rfl⟩:=List.getElem?_eq_some_iff.1 h
 exact List.drop_eq_getElem_cons hl
theorem kL {s:Tx} {a:Nat} (h:a < s.length): ∃ b,s[a]? =some b:=⟨_,List.getElem?_eq_getElem h⟩
theorem MI (b:UInt8):0≤(b.toNat:Int)∧(b.toNat:Int) < 256:=⟨by omega,by have:=b.toNat_lt;omega⟩
def lh (s:Tx) (a:Nat) (c:Bool):Nat:=a+tT (s.drop a) c
theorem sE {s:Tx} {a:Nat} (h:s.length≤a) (c:Bool):lh s a c=a:=by
 unfold lh;rw [List.drop_eq_nil_of_le h];unfold tT;rfl
theorem If {s:Tx} {a:Nat} {b:UInt8} (h:s[a]? =some b) (hb:b.toNat=10):lh s a true=lh s a false:=by
 unfold lh;rw [gp h];simp [tT,hb]
theorem Hm {s:Tx} {a:Nat} {b:UInt8} (h:s[a]? =some b) (hb:b.toNat≠10):lh s a true=lh s (a+1) true:=by
 unfold lh;rw [gp h];simp [tT,hb];omega
theorem Bc {s:Tx} {a:Nat} {b:UInt8} (h:s[a]? =some b) (hb:b.toNat=35):lh s a false=lh s a true:=by
 unfold lh;rw [gp h];simp [tT,hb]
theorem wE {s:Tx} {a:Nat} {b:UInt8} (h:s[a]? =some b) (h0:b.toNat≠35) (hb:b.toNat=32∨b.toNat=9∨b.toNat=10):lh s a false=lh s (a+1) false:=by
 unfold lh;rw [gp h,tT,if_neg h0,if_pos hb];omega
theorem Eg {s:Tx} {a:Nat} {b:UInt8} (h:s[a]? =some b) (h0:b.toNat≠35) (hb: ¬ (b.toNat=32∨b.toNat=9∨b.toNat=10)):lh s a false=a:=by
 unfold lh;rw [gp h,tT,if_neg h0,if_neg hb];rfl
theorem oX: ∀ (l:Tx) (c:Bool),tT l c≤l.length
 | [],c=> by unfold tT;exact Nat.le_refl _
 | x::l,true=> by have h1:=oX l true;have h2:=oX l false;unfold tT;split <;> simp only [List.length_cons] <;> omega
 | x::l,false=> by have h1:=oX l true;have h2:=oX l false;unfold tT;split <;> (try split) <;> simp only [List.length_cons] <;> omega
theorem wv {s:Tx} {a:Nat} (h:a≤s.length) (c:Bool):a≤lh s a c∧lh s a c≤s.length:=by
 have:=oX (s.drop a) c
 rw [List.length_drop] at this
 unfold lh;omega
def lF (p:UInt8→Bool) (s:Tx) (a:Nat):Nat:=a+((s.drop a).takeWhile p).length
theorem xi {p:UInt8→Bool} {s:Tx} {a:Nat} (h:s.length≤a):lF p s a=a:=by
 unfold lF;rw [List.drop_eq_nil_of_le h];rfl
theorem tN {p:UInt8→Bool} {s:Tx} {a:Nat} {b:UInt8} (h:s[a]? =some b) (hb:p b=true):lF p s a=lF p s (a+1):=by
 unfold lF;rw [gp h,List.takeWhile_cons,if_pos hb,List.length_cons];omega
theorem CV {p:UInt8→Bool} {s:Tx} {a:Nat} {b:UInt8} (h:s[a]? =some b) (hb:p b=false):lF p s a=a:=by
 unfold lF;rw [gp h,List.takeWhile_cons,if_neg (by simp [hb])];rfl
theorem tv {p:UInt8→Bool} {s:Tx} {a:Nat} (h:a≤s.length):a≤lF p s a∧lF p s a≤s.length:=by
 have:((s.drop a).takeWhile p).length≤(s.drop a).length:=(List.takeWhile_prefix p).length_le
 rw [List.length_drop] at this
 unfold lF;omega
theorem vg {p:UInt8→Bool} {s:Tx} {a:Nat} {b:UInt8} (h:s[a]? =some b):(s.drop a).take (lF p s (a+1) - a)=b::(s.drop (a+1)).takeWhile p:=by
 rw [gp h,show lF p s (a+1) - a=((s.drop (a+1)).takeWhile p).length+1 by unfold lF;omega,List.take_succ_cons]
 congr 1
 obtain ⟨t,ht⟩:=List.takeWhile_prefix p (l:=s.drop (a+1))
 conv=> lhs;arg 2;rw [← ht]
 rw [List.take_append_of_le_length (Nat.le_refl _),List.take_length]
theorem rC (l:Tx) (b:UInt8):ln (l++[b])=10*ln l+(b.toNat - 48):=by unfold ln;rw [List.foldl_append];rfl
theorem DV (l m:Tx):ln l≤ln (l++m):=by
 induction m generalizing l with
 | nil=> simp
 | cons b m ih=>
  have:=ih (l++[b])
  rw [rC,List.append_assoc] at this
  simp only [List.cons_append,List.nil_append] at this
  omega
theorem yI (l:Tx) (i:Nat):ln (l.take i)≤ln l:=by
 have:=DV (l.take i) (l.drop i)
 rwa [List.take_append_drop] at this
theorem zb {l:Tx} {i:Nat} {b:UInt8} (h:l[i]? =some b):ln (l.take (i+1))=10*ln (l.take i)+(b.toNat - 48):=by
 obtain ⟨hl,rfl⟩:=List.getElem?_eq_some_iff.1 h
 rw [List.take_succ_eq_append_getElem hl,rC]
theorem Ar (b:UInt8):nn b=true↔97≤(b.toNat:Int)∧(b.toNat:Int)≤122:=by
 unfold nn;rw [Bool.and_eq_true,Nat.ble_eq,Nat.ble_eq];omega
theorem vw (b:UInt8):gG b=true↔48≤(b.toNat:Int)∧(b.toNat:Int)≤57:=by
 unfold gG;rw [Bool.and_eq_true,Nat.ble_eq,Nat.ble_eq];omega
theorem GJ {b:Bool} {p:Prop} (h:b=true↔p) (hn: ¬ p):b=false:=by
 cases b with
 | false=> rfl
 | true=> exact absurd (h.1 rfl) hn
def inr (x:eV):List PV:=[.v (.int .i64 (x.op.num:Int)), .v (.int .i64 x.n)]
def inl (l:List eV):List PV:=l.flatMap inr
theorem bM (l:List eV):(inl l).length=l.length*2:=ic inr 2 (fun _=> rfl) l
theorem nc (l:List eV) (k:Nat) (h:k < l.length):(inl l)[k*2]? =some (.v (.int .i64 ((cY l k).op.num:Int))):=by
 rw [show cY l k=l[k] by simp [cY,h]];exact mV inr 2 (fun _=> rfl) l k 0 h ab
theorem zY (l:List eV) (k:Nat) (h:k < l.length):(inl l)[k*2+1]? =some (.v (.int .i64 (cY l k).n)):=by
 rw [show cY l k=l[k] by simp [cY,h]];exact mV inr 2 (fun _=> rfl) l k 1 h ab
theorem Bx (l:List eV) (k:Nat) (h:k < l.length):PV.ups (((inl l).drop (k*2)).take 2)=[.v (.int .i64 ((cY l k).op.num:Int)), .v (.int .i64 (cY l k).n)]:=by
 rw [show cY l k=l[k] by simp [cY,h],show ((inl l).drop (k*2)).take 2=inr l[k] from lf inr 2 (fun _=> rfl) l k h];rfl
theorem fo (l:List eV) (x:eV):inl l++inr x=inl (l++[x]):=jh inr l x
theorem lY (l m:List eV):inl l++inl m=inl (l++m):=Bu inr l m
def Jd (x:Ac):List PV:=[.v (.int .i64 x.k), .v (.int .i64 x.a), .v (.int .i64 x.b), .v (.int .i64 x.c), .v (.int .i64 x.d)]
def vG (l:List Ac):List PV:=l.flatMap Jd
def mO (l:List Ac) (k:Nat):Ac:=l.getD k { k:=0 }
theorem gM (l:List Ac):(vG l).length=l.length*5:=ic Jd 5 (fun _=> rfl) l
theorem ve (l:List Ac) (k:Nat) (h:k < l.length):PV.ups (((vG l).drop (k*5)).take 5)=[.v (.int .i64 (mO l k).k), .v (.int .i64 (mO l k).a), .v (.int .i64 (mO l k).b), .v (.int .i64 (mO l k).c), .v (.int .i64 (mO l k).d)]:=by
 rw [show mO l k=l[k] by simp [mO,h],show ((vG l).drop (k*5)).take 5=Jd l[k] from lf Jd 5 (fun _=> rfl) l k h];rfl
theorem Ap (l:List Ac) (x:Ac):vG l++Jd x=vG (l++[x]):=jh Jd l x
end Go.Proofs.YtmjnackchaahbaaGreat

namespace Go.Proofs.YtmjnackchaahbaaGreat
abbrev Lb:List Value:=[.slice none 0 0, .int .i64 0, .int .i64 0, .int .i64 0, .int .i64 0, .int .i64 0, .int .i64 0, .int .i64 0, .int .i64 0, .int .i64 0, .int .i64 0, .int .i64 0, .int .i64 0, .int .i64 0, .int .i64 0, .int .i64 0, .int .i64 0, .int .i64 0, .int .i64 0, .int .i64 0, .int .i64 0, .int .i64 0, .int .i64 0, .int .i64 0, .int .i64 0, .int .i64 0, .int .i64 0, .int .i64 0, .int .i64 0, .int .i64 0, .int .i64 0, .int .i64 0, .int .i64 0, .int .i64 0, .int .i64 0, .int .i64 0, .int .i64 0, .int .i64 0, .int .i64 0, .int .i64 0, .int .i64 0, .int .i64 0, .int .i64 0]
abbrev DG:List Value:=[.int .i64 0, .int .i64 0, .int .i64 0, .int .i64 0, .int .i64 0, .int .i64 0, .int .i64 0, .int .i64 0, .int .i64 0]
abbrev La:List Value:=[.slice none 0 0, .slice none 0 0, .int .i64 0, .bool false, .slice none 0 0]
abbrev vH:List Value:=[.int .i64 0, .int .i64 0, .int .i64 0, .int .i64 0, .int .i64 0]
abbrev Ny:List Value:=[.slice none 0 0, .slice none 0 0, .slice none 0 0]
abbrev Jg:List Value:=[.int .i64 0, .int .i64 0, .string ByteArray.empty, .slice none 0 0]
abbrev Jf:List Value:=[.int .i64 0, .int .i64 0, .int .i64 0, .string ByteArray.empty, .slice none 0 0]
abbrev KO:List Value:=[.bool false, .int .i64 0, .int .i64 0, .int .i64 0, .slice none 0 0, .slice none 0 0, .slice none 0 0, .slice none 0 0, .int .i64 0, .int .i64 0, .int .i64 0, .int .i64 0, .int .i64 0, .int .i64 0, .int .i64 0, .int .i64 0, .int .i64 0, .int .i64 0, .int .i64 0, .int .i64 0, .int .i64 0, .int .i64 0, .int .i64 0, .int .i64 0, .int .i64 0, .int .i64 0, .int .i64 0, .int .i64 0, .int .i64 0, .int .i64 0, .int .i64 0, .int .i64 0, .int .i64 0, .int .i64 0, .int .i64 0, .int .i64 0, .int .i64 0, .int .i64 0, .int .i64 0, .int .i64 0, .int .i64 0, .int .i64 0, .int .i64 0, .int .i64 0, .int .i64 0, .int .i64 0, .int .i64 0, .int .i64 0, .int .i64 0, .int .i64 0, .int .i64 0, .int .i64 0]
abbrev Jh:List Value:=[.int .i64 0, .int .i64 0, .int .i64 0, .int .i64 0, .int .i64 0, .int .i64 0, .int .i64 0, .int .i64 0, .int .i64 0, .int .i64 0, .int .i64 0, .int .i64 0, .int .i64 0, .slice none 0 0, .slice none 0 0]
abbrev Lj:List Value:=[.int .i64 0, .int .i64 0, .int .i64 0]
abbrev EM:List Value:=[.int .i64 0, .int .i64 0, .int .i64 0, .slice none 0 0, .bool false, .int .i64 0, .slice none 0 0, .slice none 0 0, .slice none 0 0, .int .i64 0, .bool false, .slice none 0 0]
abbrev DM:List Value:=[.slice none 0 0, .int .i64 0, .int .i64 0, .int .i64 0, .int .i64 0, .int .i64 0, .int .i64 0, .int .i64 0, .int .i64 0, .int .i64 0]
abbrev FU:List Value:=[.nilFunc, .nilFunc, .nilFunc, .nilFunc, .nilFunc, .nilFunc, .nilFunc, .nilFunc, .nilFunc, .nilFunc, .nilFunc, .nilFunc, .nilFunc, .nilFunc, .nilFunc, .nilFunc, .nilFunc, .nilFunc, .nilFunc, .nilFunc, .nilFunc, .nilFunc, .nilFunc, .nilFunc]
abbrev yR:List Value:=[.int .i64 0, .int .i64 0, .string ByteArray.empty, .int .i64 0]
abbrev Fp:List Value:=[.int .i64 0, .int .i64 0, .int .i64 0, .int .i64 0, .int .i64 0, .int .i64 0, .int .i64 0]
abbrev Fe:List Value:=[.int .i64 0, .int .i64 0, .int .i64 0, .int .i64 0, .int .i64 0, .int .i64 0]
abbrev JP:List Value:=[.int .i64 0, .int .i64 0, .int .i64 0, .slice none 0 0, .slice none 0 0]
abbrev Kk:List Value:=[.slice none 0 0, .int .i64 0, .int .i64 0, .int .i64 0, .int .i64 0, .int .i64 0, .int .i64 0, .int .i64 0, .int .i64 0, .int .i64 0, .int .i64 0, .int .i64 0, .int .i64 0, .int .i64 0, .int .i64 0, .int .i64 0, .int .i64 0, .int .i64 0, .int .i64 0, .int .i64 0, .int .i64 0, .int .i64 0, .int .i64 0, .int .i64 0, .int .i64 0, .int .i64 0, .int .i64 0, .int .i64 0, .int .i64 0, .int .i64 0, .int .i64 0, .int .i64 0, .int .i64 0, .int .i64 0, .int .i64 0, .int .i64 0, .int .i64 0, .int .i64 0, .int .i64 0, .int .i64 0, .int .i64 0, .int .i64 0, .int .i64 0, .slice none 0 0, .int .i64 0, .int .i64 0, .int .i64 0, .int .i64 0, .int .i64 0, .int .i64 0, .int .i64 0, .int .i64 0, .int .i64 0, .nilFunc, .slice none 0 0, .slice none 0 0, .int .i64 0, .bool false, .slice none 0 0, .slice none 0 0, .int .i64 0, .int .i64 0, .int .i64 0, .bool false]
abbrev JL:List Value:=[.slice none 0 0, .int .i64 0, .int .i64 0, .int .i64 0, .slice none 0 0]

instance zx:Ty Tryz.prog 1 false [.nilFunc]:=Ty.of (bytes:=8) (.nilFunc) Tryz.underlying1 rfl ae rfl oC
instance zy:Ty Tryz.prog 2 false [.int .i64 0]:=Ty.of (bytes:=8) (.int .i64 0) Tryz.underlying2 rfl ae rfl oC
instance RO:Ty Tryz.prog 3 false [.int .i64 0]:=Ty.of (bytes:=8) (.int .i64 0) Tryz.underlying3 rfl ae rfl oC
instance RM:Ty Tryz.prog 4 false [.bool false]:=Ty.of (bytes:=1) (.bool false) Tryz.underlying4 rfl ae rfl oC
instance RN:Ty Tryz.prog 9 false [.string ByteArray.empty]:=Ty.of (bytes:=16) (.string ByteArray.empty) Tryz.underlying9 rfl ae rfl oC
instance MD:Ty Tryz.prog 22 false [.slice none 0 0]:=Ty.of (bytes:=24) (.slice none 0 0) Tryz.underlying22 rfl ae rfl oC
instance Rs:Ty Tryz.prog 23 false [.slice none 0 0]:=Ty.of (bytes:=24) (.slice none 0 0) Tryz.underlying23 rfl ae rfl oC
instance QR:Ty Tryz.prog 26 true Lb:=Ty.of (bytes:=360) (.agg (Lb).toArray) Tryz.underlying26 rfl ae rfl oC
instance Qh:Ty Tryz.prog 30 true DG:=Ty.of (bytes:=72) (.agg (DG).toArray) Tryz.underlying30 rfl ae rfl oC
instance PH:Ty Tryz.prog 32 false [.slice none 0 0]:=Ty.of (bytes:=24) (.slice none 0 0) Tryz.underlying32 rfl ae rfl oC
instance PW:Ty Tryz.prog 34 true La:=Ty.of (bytes:=88) (.agg (La).toArray) Tryz.underlying34 rfl ae rfl oC
instance Rb:Ty Tryz.prog 43 false [.nilFunc]:=Ty.of (bytes:=8) (.nilFunc) Tryz.underlying43 rfl ae rfl oC
instance QA:Ty Tryz.prog 48 true [.int .i64 0, .int .i64 0]:=Ty.of (bytes:=16) (.agg #[.int .i64 0, .int .i64 0]) Tryz.underlying48 rfl ae rfl oC
instance Qo:Ty Tryz.prog 51 false [.nilFunc]:=Ty.of (bytes:=8) (.nilFunc) Tryz.underlying51 rfl ae rfl oC
instance Ry:Ty Tryz.prog 57 true vH:=Ty.of (bytes:=40) (.agg (vH).toArray) Tryz.underlying57 rfl ae rfl oC
instance Qw:Ty Tryz.prog 61 false [.slice none 0 0]:=Ty.of (bytes:=24) (.slice none 0 0) Tryz.underlying61 rfl ae rfl oC
instance Rp:Ty Tryz.prog 62 false [.slice none 0 0]:=Ty.of (bytes:=24) (.slice none 0 0) Tryz.underlying62 rfl ae rfl oC
instance Ra:Ty Tryz.prog 64 true Ny:=Ty.of (bytes:=72) (.agg (Ny).toArray) Tryz.underlying64 rfl ae rfl oC
instance QF:Ty Tryz.prog 66 false [.int .i64 0]:=Ty.of (bytes:=8) (.int .i64 0) Tryz.underlying66 rfl ae rfl oC
instance Qb:Ty Tryz.prog 69 false [.slice none 0 0]:=Ty.of (bytes:=24) (.slice none 0 0) Tryz.underlying69 rfl ae rfl oC
instance Rx:Ty Tryz.prog 71 true Jg:=Ty.of (bytes:=56) (.agg (Jg).toArray) Tryz.underlying71 rfl ae rfl oC
instance RC:Ty Tryz.prog 73 true Jf:=Ty.of (bytes:=64) (.agg (Jf).toArray) Tryz.underlying73 rfl ae rfl oC
instance Rn:Ty Tryz.prog 78 false [.slice none 0 0]:=Ty.of (bytes:=24) (.slice none 0 0) Tryz.underlying78 rfl ae rfl oC
instance PI:Ty Tryz.prog 80 true [.slice none 0 0, .slice none 0 0]:=Ty.of (bytes:=48) (.agg #[.slice none 0 0, .slice none 0 0]) Tryz.underlying80 rfl ae rfl oC
instance Qn:Ty Tryz.prog 83 true KO:=Ty.of (bytes:=480) (.agg (KO).toArray) Tryz.underlying83 rfl ae rfl oC
instance QZ:Ty Tryz.prog 87 true Jh:=Ty.of (bytes:=152) (.agg (Jh).toArray) Tryz.underlying87 rfl ae rfl oC
instance QL:Ty Tryz.prog 88 false [.slice none 0 0]:=Ty.of (bytes:=24) (.slice none 0 0) Tryz.underlying88 rfl ae rfl oC
instance Qd:Ty Tryz.prog 89 false [.slice none 0 0]:=Ty.of (bytes:=24) (.slice none 0 0) Tryz.underlying89 rfl ae rfl oC
instance Rq:Ty Tryz.prog 91 true Lj:=Ty.of (bytes:=24) (.agg (Lj).toArray) Tryz.underlying91 rfl ae rfl oC
instance QO:Ty Tryz.prog 96 true EM:=Ty.of (bytes:=176) (.agg (EM).toArray) Tryz.underlying96 rfl ae rfl oC
instance Of:Ty Tryz.prog 101 false [.slice none 0 0]:=Ty.of (bytes:=24) (.slice none 0 0) Tryz.underlying101 rfl ae rfl oC
instance Ow:Ty Tryz.prog 109 true vH:=Ty.of (bytes:=40) (.agg (vH).toArray) Tryz.underlying109 rfl ae rfl oC
instance MX:Ty Tryz.prog 115 true vH:=Ty.of (bytes:=40) (.agg (vH).toArray) Tryz.underlying115 rfl ae rfl oC
instance OR:Ty Tryz.prog 117 true DG:=Ty.of (bytes:=72) (.agg (DG).toArray) Tryz.underlying117 rfl ae rfl oC
instance Ob:Ty Tryz.prog 126 true [.int .i64 0, .int .i64 0]:=Ty.of (bytes:=16) (.agg #[.int .i64 0, .int .i64 0]) Tryz.underlying126 rfl ae rfl oC
instance Oy:Ty Tryz.prog 132 true DM:=Ty.of (bytes:=96) (.agg (DM).toArray) Tryz.underlying132 rfl ae rfl oC
instance Nk:Ty Tryz.prog 161 false [.nilFunc]:=Ty.of (bytes:=8) (.nilFunc) Tryz.underlying161 rfl ae rfl oC
instance Px:Ty Tryz.prog 172 false [.nilFunc]:=Ty.of (bytes:=8) (.nilFunc) Tryz.underlying172 rfl ae rfl oC
instance Oz:Ty Tryz.prog 173 true FU:=Ty.of (bytes:=192) (.agg (FU).toArray) Tryz.underlying173 rfl ae rfl oC
instance Py:Ty Tryz.prog 217 false [.slice none 0 0]:=Ty.of (bytes:=24) (.slice none 0 0) Tryz.underlying217 rfl ae rfl oC
instance NB:Ty Tryz.prog 225 true yR:=Ty.of (bytes:=40) (.agg (yR).toArray) Tryz.underlying225 rfl ae rfl oC
instance Rz:Elem Tryz.prog 22 3 1 8 [.int .i64 0]:=Elem.of (.int .i64 0) Tryz.underlying22 ae rfl rfl ah ah oC
instance Qq:Elem Tryz.prog 23 48 2 16 [.int .i64 0, .int .i64 0]:=Elem.of (.agg #[.int .i64 0, .int .i64 0]) Tryz.underlying23 ae rfl rfl ah ah oC
instance RD:Elem Tryz.prog 32 57 5 40 vH:=Elem.of (.agg (vH).toArray) Tryz.underlying32 ae rfl rfl ah ah oC
instance Qz:Elem Tryz.prog 61 9 1 16 [.string ByteArray.empty]:=Elem.of (.string ByteArray.empty) Tryz.underlying61 ae rfl rfl ah ah oC
instance Qc:Elem Tryz.prog 62 73 5 64 Jf:=Elem.of (.agg (Jf).toArray) Tryz.underlying62 ae rfl rfl ah ah oC
instance Qv:Elem Tryz.prog 69 71 4 56 Jg:=Elem.of (.agg (Jg).toArray) Tryz.underlying69 ae rfl rfl ah ah oC
instance Qt:Elem Tryz.prog 76 87 15 152 Jh:=Elem.of (.agg (Jh).toArray) Tryz.underlying76 ae rfl rfl ah ah oC
instance Qu:Elem Tryz.prog 78 126 2 16 [.int .i64 0, .int .i64 0]:=Elem.of (.agg #[.int .i64 0, .int .i64 0]) Tryz.underlying78 ae rfl rfl ah ah oC
instance Qj:Elem Tryz.prog 88 111 7 56 Fp:=Elem.of (.agg (Fp).toArray) Tryz.underlying88 ae rfl rfl ah ah oC
instance Rw:Elem Tryz.prog 89 117 9 72 DG:=Elem.of (.agg (DG).toArray) Tryz.underlying89 ae rfl rfl ah ah oC
instance Ou:Elem Tryz.prog 101 196 6 48 Fe:=Elem.of (.agg (Fe).toArray) Tryz.underlying101 ae rfl rfl ah ah oC
instance OO:Elem Tryz.prog 113 115 5 40 vH:=Elem.of (.agg (vH).toArray) Tryz.underlying113 ae rfl rfl ah ah oC
instance NM:Elem Tryz.prog 121 4 1 1 [.bool false]:=Elem.of (.bool false) Tryz.underlying121 ae rfl rfl ah ah oC
instance NE:Elem Tryz.prog 217 225 4 40 yR:=Elem.of (.agg (yR).toArray) Tryz.underlying217 ae rfl rfl ah ah oC
instance Ov:Elem Tryz.prog 275 61 1 24 [.slice none 0 0]:=Elem.of (.slice none 0 0) Tryz.underlying275 ae rfl rfl ah ah oC
instance Lt:eN Tryz.prog 26 0 0:=⟨fun ad w=> by kernel_rfl⟩
instance MA:eN Tryz.prog 26 1 1:=⟨fun ad w=> by kernel_rfl⟩
instance Mj:eN Tryz.prog 26 2 41:=⟨fun ad w=> by kernel_rfl⟩
instance LG:eN Tryz.prog 26 3 42:=⟨fun ad w=> by kernel_rfl⟩
instance MS:eN Tryz.prog 34 0 0:=⟨fun ad w=> by kernel_rfl⟩
instance Lq:eN Tryz.prog 34 1 1:=⟨fun ad w=> by kernel_rfl⟩
instance MH:eN Tryz.prog 34 2 2:=⟨fun ad w=> by kernel_rfl⟩
instance LD:eN Tryz.prog 34 3 3:=⟨fun ad w=> by kernel_rfl⟩
instance LF:eN Tryz.prog 34 4 4:=⟨fun ad w=> by kernel_rfl⟩
instance Mb:eN Tryz.prog 48 0 0:=⟨fun ad w=> by kernel_rfl⟩
instance Lm:eN Tryz.prog 48 1 1:=⟨fun ad w=> by kernel_rfl⟩
instance LL:eN Tryz.prog 57 0 0:=⟨fun ad w=> by kernel_rfl⟩
instance ML:eN Tryz.prog 57 1 1:=⟨fun ad w=> by kernel_rfl⟩
instance MK:eN Tryz.prog 57 2 2:=⟨fun ad w=> by kernel_rfl⟩
instance Ll:eN Tryz.prog 57 3 3:=⟨fun ad w=> by kernel_rfl⟩
instance LZ:eN Tryz.prog 57 4 4:=⟨fun ad w=> by kernel_rfl⟩
instance LK:eN Tryz.prog 64 0 0:=⟨fun ad w=> by kernel_rfl⟩
instance Lx:eN Tryz.prog 64 1 1:=⟨fun ad w=> by kernel_rfl⟩
instance LN:eN Tryz.prog 64 2 2:=⟨fun ad w=> by kernel_rfl⟩
instance LS:eN Tryz.prog 71 0 0:=⟨fun ad w=> by kernel_rfl⟩
instance LP:eN Tryz.prog 71 1 1:=⟨fun ad w=> by kernel_rfl⟩
instance Mm:eN Tryz.prog 71 2 2:=⟨fun ad w=> by kernel_rfl⟩
instance LJ:eN Tryz.prog 71 3 3:=⟨fun ad w=> by kernel_rfl⟩
instance LR:eN Tryz.prog 73 0 0:=⟨fun ad w=> by kernel_rfl⟩
instance LT:eN Tryz.prog 73 1 1:=⟨fun ad w=> by kernel_rfl⟩
instance Mz:eN Tryz.prog 80 0 0:=⟨fun ad w=> by kernel_rfl⟩
instance LO:Fvl Tryz.prog 80 0 0 false 1:=Fvl.of Tryz.underlying80 rfl rfl MD rfl
instance LC:eN Tryz.prog 80 1 1:=⟨fun ad w=> by kernel_rfl⟩
instance MO:eN Tryz.prog 83 0 0:=⟨fun ad w=> by kernel_rfl⟩
instance MG:eN Tryz.prog 83 1 1:=⟨fun ad w=> by kernel_rfl⟩
instance Mv:eN Tryz.prog 83 2 2:=⟨fun ad w=> by kernel_rfl⟩
instance Mu:eN Tryz.prog 83 3 3:=⟨fun ad w=> by kernel_rfl⟩
instance Lz:eN Tryz.prog 83 4 4:=⟨fun ad w=> by kernel_rfl⟩
instance Mi:eN Tryz.prog 83 5 6:=⟨fun ad w=> by kernel_rfl⟩
instance MC:eN Tryz.prog 83 6 7:=⟨fun ad w=> by kernel_rfl⟩
instance Md:eN Tryz.prog 83 7 8:=⟨fun ad w=> by kernel_rfl⟩
instance LU:eN Tryz.prog 83 8 49:=⟨fun ad w=> by kernel_rfl⟩
instance Lu:eN Tryz.prog 87 0 0:=⟨fun ad w=> by kernel_rfl⟩
instance Mt:eN Tryz.prog 87 1 1:=⟨fun ad w=> by kernel_rfl⟩
instance MQ:eN Tryz.prog 87 2 2:=⟨fun ad w=> by kernel_rfl⟩
instance LM:eN Tryz.prog 87 3 11:=⟨fun ad w=> by kernel_rfl⟩
instance MM:eN Tryz.prog 87 4 12:=⟨fun ad w=> by kernel_rfl⟩
instance Mx:eN Tryz.prog 87 5 13:=⟨fun ad w=> by kernel_rfl⟩
instance Ma:eN Tryz.prog 87 6 14:=⟨fun ad w=> by kernel_rfl⟩
instance LX:eN Tryz.prog 96 0 0:=⟨fun ad w=> by kernel_rfl⟩
instance Mr:eN Tryz.prog 96 1 3:=⟨fun ad w=> by kernel_rfl⟩
instance LQ:eN Tryz.prog 96 2 4:=⟨fun ad w=> by kernel_rfl⟩
instance LH:eN Tryz.prog 96 3 5:=⟨fun ad w=> by kernel_rfl⟩
instance MB:eN Tryz.prog 96 4 6:=⟨fun ad w=> by kernel_rfl⟩
instance MJ:eN Tryz.prog 96 5 7:=⟨fun ad w=> by kernel_rfl⟩
instance KM:eN Tryz.prog 103 0 0:=⟨fun ad w=> by kernel_rfl⟩
instance KQ:eN Tryz.prog 103 1 3:=⟨fun ad w=> by kernel_rfl⟩
instance KF:eN Tryz.prog 103 2 4:=⟨fun ad w=> by kernel_rfl⟩
instance Kt:eN Tryz.prog 115 0 0:=⟨fun ad w=> by kernel_rfl⟩
instance KK:eN Tryz.prog 115 1 3:=⟨fun ad w=> by kernel_rfl⟩
instance Kp:eN Tryz.prog 115 2 4:=⟨fun ad w=> by kernel_rfl⟩
instance KV:eN Tryz.prog 117 0 0:=⟨fun ad w=> by kernel_rfl⟩
instance KU:eN Tryz.prog 117 1 5:=⟨fun ad w=> by kernel_rfl⟩
instance Ky:eN Tryz.prog 126 0 0:=⟨fun ad w=> by kernel_rfl⟩
instance Ko:eN Tryz.prog 126 1 1:=⟨fun ad w=> by kernel_rfl⟩
instance Ld:eN Tryz.prog 132 0 0:=⟨fun ad w=> by kernel_rfl⟩
instance KD:eN Tryz.prog 132 1 1:=⟨fun ad w=> by kernel_rfl⟩
instance Kr:eN Tryz.prog 171 0 0:=⟨fun ad w=> by kernel_rfl⟩
instance KL:eN Tryz.prog 171 1 43:=⟨fun ad w=> by kernel_rfl⟩
instance KG:eN Tryz.prog 171 2 53:=⟨fun ad w=> by kernel_rfl⟩
instance KJ:eN Tryz.prog 171 3 54:=⟨fun ad w=> by kernel_rfl⟩
instance KN:eN Tryz.prog 171 4 59:=⟨fun ad w=> by kernel_rfl⟩
instance KA:eN Tryz.prog 171 5 60:=⟨fun ad w=> by kernel_rfl⟩
instance Lc:eN Tryz.prog 171 6 61:=⟨fun ad w=> by kernel_rfl⟩
instance Ks:eN Tryz.prog 171 7 62:=⟨fun ad w=> by kernel_rfl⟩
instance KI:eN Tryz.prog 171 8 63:=⟨fun ad w=> by kernel_rfl⟩
instance KR:eN Tryz.prog 196 0 0:=⟨fun ad w=> by kernel_rfl⟩
instance KE:eN Tryz.prog 196 1 5:=⟨fun ad w=> by kernel_rfl⟩
instance KB:eN Tryz.prog 222 0 0:=⟨fun ad w=> by kernel_rfl⟩
instance KY:eN Tryz.prog 222 1 1:=⟨fun ad w=> by kernel_rfl⟩
instance Kw:eN Tryz.prog 222 3 3:=⟨fun ad w=> by kernel_rfl⟩
instance Lf:eN Tryz.prog 222 4 4:=⟨fun ad w=> by kernel_rfl⟩
instance Ku:eN Tryz.prog 225 0 0:=⟨fun ad w=> by kernel_rfl⟩
instance KH:eN Tryz.prog 225 2 2:=⟨fun ad w=> by kernel_rfl⟩
instance KZ:eN Tryz.prog 225 3 3:=⟨fun ad w=> by kernel_rfl⟩
instance Qy:cR Tryz.prog 23:=⟨fun args w=> by kernel_rfl⟩
instance Qe:cR Tryz.prog 30:=⟨fun args w=> by kernel_rfl⟩
instance Rj:cR Tryz.prog 33:=⟨fun args w=> by kernel_rfl⟩
instance RG:cR Tryz.prog 39:=⟨fun args w=> by kernel_rfl⟩
instance RF:cR Tryz.prog 40:=⟨fun args w=> by kernel_rfl⟩
instance Qs:cR Tryz.prog 41:=⟨fun args w=> by kernel_rfl⟩
instance QG:cR Tryz.prog 45:=⟨fun args w=> by kernel_rfl⟩
instance QT:cR Tryz.prog 47:=⟨fun args w=> by kernel_rfl⟩
instance QJ:cR Tryz.prog 50:=⟨fun args w=> by kernel_rfl⟩
instance PZ:cR Tryz.prog 51:=⟨fun args w=> by kernel_rfl⟩
instance QD:cR Tryz.prog 52:=⟨fun args w=> by kernel_rfl⟩
instance Rr:cR Tryz.prog 53:=⟨fun args w=> by kernel_rfl⟩
instance PQ:cR Tryz.prog 54:=⟨fun args w=> by kernel_rfl⟩
instance Qx:cR Tryz.prog 55:=⟨fun args w=> by kernel_rfl⟩
instance QK:cR Tryz.prog 56:=⟨fun args w=> by kernel_rfl⟩
instance PP:cR Tryz.prog 57:=⟨fun args w=> by kernel_rfl⟩
instance Ql:cR Tryz.prog 58:=⟨fun args w=> by kernel_rfl⟩
instance QC:cR Tryz.prog 59:=⟨fun args w=> by kernel_rfl⟩
instance Qi:cR Tryz.prog 64:=⟨fun args w=> by kernel_rfl⟩
instance RJ:cR Tryz.prog 72:=⟨fun args w=> by kernel_rfl⟩
instance Ro:cR Tryz.prog 73:=⟨fun args w=> by kernel_rfl⟩
instance PK:cR Tryz.prog 74:=⟨fun args w=> by kernel_rfl⟩
instance PY:cR Tryz.prog 75:=⟨fun args w=> by kernel_rfl⟩
instance PU:cR Tryz.prog 78:=⟨fun args w=> by kernel_rfl⟩
instance Rl:cR Tryz.prog 81:=⟨fun args w=> by kernel_rfl⟩
instance QV:cR Tryz.prog 82:=⟨fun args w=> by kernel_rfl⟩
instance Qk:cR Tryz.prog 85:=⟨fun args w=> by kernel_rfl⟩
instance RA:cR Tryz.prog 86:=⟨fun args w=> by kernel_rfl⟩
instance Ru:cR Tryz.prog 87:=⟨fun args w=> by kernel_rfl⟩
instance Rv:cR Tryz.prog 88:=⟨fun args w=> by kernel_rfl⟩
instance QS:cR Tryz.prog 89:=⟨fun args w=> by kernel_rfl⟩
instance Rc:cR Tryz.prog 90:=⟨fun args w=> by kernel_rfl⟩
instance Re:cR Tryz.prog 91:=⟨fun args w=> by kernel_rfl⟩
instance Rh:cR Tryz.prog 92:=⟨fun args w=> by kernel_rfl⟩
instance RB:cR Tryz.prog 93:=⟨fun args w=> by kernel_rfl⟩
instance PT:cR Tryz.prog 94:=⟨fun args w=> by kernel_rfl⟩
instance Qf:cR Tryz.prog 95:=⟨fun args w=> by kernel_rfl⟩
instance PR:cR Tryz.prog 96:=⟨fun args w=> by kernel_rfl⟩
instance Qg:cR Tryz.prog 97:=⟨fun args w=> by kernel_rfl⟩
instance Oj:cR Tryz.prog 106:=⟨fun args w=> by kernel_rfl⟩
instance OP:cR Tryz.prog 107:=⟨fun args w=> by kernel_rfl⟩
instance Nz:cR Tryz.prog 108:=⟨fun args w=> by kernel_rfl⟩
instance Nm:cR Tryz.prog 113:=⟨fun args w=> by kernel_rfl⟩
instance NL:cR Tryz.prog 114:=⟨fun args w=> by kernel_rfl⟩
instance Pt:cR Tryz.prog 115:=⟨fun args w=> by kernel_rfl⟩
instance OD:cR Tryz.prog 117:=⟨fun args w=> by kernel_rfl⟩
instance Pb:cR Tryz.prog 118:=⟨fun args w=> by kernel_rfl⟩
instance OT:cR Tryz.prog 119:=⟨fun args w=> by kernel_rfl⟩
instance Nq:cR Tryz.prog 120:=⟨fun args w=> by kernel_rfl⟩
instance Po:cR Tryz.prog 121:=⟨fun args w=> by kernel_rfl⟩
instance Oc:cR Tryz.prog 122:=⟨fun args w=> by kernel_rfl⟩
instance Pq:cR Tryz.prog 123:=⟨fun args w=> by kernel_rfl⟩
instance Od:cR Tryz.prog 124:=⟨fun args w=> by kernel_rfl⟩
instance PD:cR Tryz.prog 125:=⟨fun args w=> by kernel_rfl⟩
instance Pd:cR Tryz.prog 126:=⟨fun args w=> by kernel_rfl⟩
instance OV:cR Tryz.prog 127:=⟨fun args w=> by kernel_rfl⟩
instance PC:cR Tryz.prog 128:=⟨fun args w=> by kernel_rfl⟩
instance PA:cR Tryz.prog 129:=⟨fun args w=> by kernel_rfl⟩
instance Np:cR Tryz.prog 130:=⟨fun args w=> by kernel_rfl⟩
instance OC:cR Tryz.prog 131:=⟨fun args w=> by kernel_rfl⟩
instance NJ:cR Tryz.prog 132:=⟨fun args w=> by kernel_rfl⟩
instance NP:cR Tryz.prog 133:=⟨fun args w=> by kernel_rfl⟩
instance OE:cR Tryz.prog 134:=⟨fun args w=> by kernel_rfl⟩
instance Nw:cR Tryz.prog 135:=⟨fun args w=> by kernel_rfl⟩
instance Pu:cR Tryz.prog 136:=⟨fun args w=> by kernel_rfl⟩
instance ON:cR Tryz.prog 137:=⟨fun args w=> by kernel_rfl⟩
instance Nt:cR Tryz.prog 138:=⟨fun args w=> by kernel_rfl⟩
instance OK:cR Tryz.prog 139:=⟨fun args w=> by kernel_rfl⟩
instance MZ:cR Tryz.prog 140:=⟨fun args w=> by kernel_rfl⟩
instance Oa:cR Tryz.prog 141:=⟨fun args w=> by kernel_rfl⟩
instance OW:cR Tryz.prog 142:=⟨fun args w=> by kernel_rfl⟩
instance NT:cR Tryz.prog 143:=⟨fun args w=> by kernel_rfl⟩
instance Og:cR Tryz.prog 144:=⟨fun args w=> by kernel_rfl⟩
instance NF:cR Tryz.prog 145:=⟨fun args w=> by kernel_rfl⟩
instance OL:cR Tryz.prog 146:=⟨fun args w=> by kernel_rfl⟩
instance PB:cR Tryz.prog 147:=⟨fun args w=> by kernel_rfl⟩
instance MW:cR Tryz.prog 148:=⟨fun args w=> by kernel_rfl⟩
instance Pk:cR Tryz.prog 149:=⟨fun args w=> by kernel_rfl⟩
instance Nf:cR Tryz.prog 150:=⟨fun args w=> by kernel_rfl⟩
instance Ol:cR Tryz.prog 151:=⟨fun args w=> by kernel_rfl⟩
instance NY:cR Tryz.prog 152:=⟨fun args w=> by kernel_rfl⟩
instance NZ:cR Tryz.prog 153:=⟨fun args w=> by kernel_rfl⟩
instance NW:cR Tryz.prog 154:=⟨fun args w=> by kernel_rfl⟩
instance NU:cR Tryz.prog 155:=⟨fun args w=> by kernel_rfl⟩
instance Pw:cR Tryz.prog 159:=⟨fun args w=> by kernel_rfl⟩
instance NR:cR Tryz.prog 160:=⟨fun args w=> by kernel_rfl⟩
instance Oe:cR Tryz.prog 161:=⟨fun args w=> by kernel_rfl⟩
instance Pv:cR Tryz.prog 162:=⟨fun args w=> by kernel_rfl⟩
instance OH:cR Tryz.prog 163:=⟨fun args w=> by kernel_rfl⟩
instance OX:cR Tryz.prog 164:=⟨fun args w=> by kernel_rfl⟩
instance OQ:cR Tryz.prog 165:=⟨fun args w=> by kernel_rfl⟩
instance NA:cR Tryz.prog 166:=⟨fun args w=> by kernel_rfl⟩
instance Pi:cR Tryz.prog 167:=⟨fun args w=> by kernel_rfl⟩
instance ND:cR Tryz.prog 183:=⟨fun args w=> by kernel_rfl⟩
instance Nj:cR Tryz.prog 184:=⟨fun args w=> by kernel_rfl⟩
instance OY:cR Tryz.prog 185:=⟨fun args w=> by kernel_rfl⟩
instance NK:cR Tryz.prog 187:=⟨fun args w=> by kernel_rfl⟩
instance OF:cR Tryz.prog 188:=⟨fun args w=> by kernel_rfl⟩
instance Pj:cR Tryz.prog 189:=⟨fun args w=> by kernel_rfl⟩
instance Nx:cR Tryz.prog 190:=⟨fun args w=> by kernel_rfl⟩
instance OS:cR Tryz.prog 194:=⟨fun args w=> by kernel_rfl⟩
instance Ng:cR Tryz.prog 195:=⟨fun args w=> by kernel_rfl⟩
instance NI:cR Tryz.prog 196:=⟨fun args w=> by kernel_rfl⟩
instance Pc:cR Tryz.prog 197:=⟨fun args w=> by kernel_rfl⟩
instance Nv:cR Tryz.prog 199:=⟨fun args w=> by kernel_rfl⟩
instance OM:cR Tryz.prog 200:=⟨fun args w=> by kernel_rfl⟩
instance Nn:cR Tryz.prog 201:=⟨fun args w=> by kernel_rfl⟩
instance OZ:cR Tryz.prog 202:=⟨fun args w=> by kernel_rfl⟩
instance Ps:cR Tryz.prog 203:=⟨fun args w=> by kernel_rfl⟩
instance Nb:cR Tryz.prog 204:=⟨fun args w=> by kernel_rfl⟩
instance Pp:cR Tryz.prog 205:=⟨fun args w=> by kernel_rfl⟩
instance Oi:cR Tryz.prog 207:=⟨fun args w=> by kernel_rfl⟩
instance Pf:cR Tryz.prog 208:=⟨fun args w=> by kernel_rfl⟩
instance Nu:cR Tryz.prog 221:=⟨fun args w=> by kernel_rfl⟩
instance OI:cR Tryz.prog 222:=⟨fun args w=> by kernel_rfl⟩
instance Pm:cR Tryz.prog 223:=⟨fun args w=> by kernel_rfl⟩
instance NN:cR Tryz.prog 224:=⟨fun args w=> by kernel_rfl⟩
instance No:cR Tryz.prog 225:=⟨fun args w=> by kernel_rfl⟩
instance MY:cR Tryz.prog 226:=⟨fun args w=> by kernel_rfl⟩
instance Ph:cR Tryz.prog 227:=⟨fun args w=> by kernel_rfl⟩
instance OB:cR Tryz.prog 228:=⟨fun args w=> by kernel_rfl⟩
instance MV:cR Tryz.prog 235:=⟨fun args w=> by kernel_rfl⟩
instance Pl:cR Tryz.prog 236:=⟨fun args w=> by kernel_rfl⟩
instance NQ:cR Tryz.prog 237:=⟨fun args w=> by kernel_rfl⟩
instance MU:cR Tryz.prog 240:=⟨fun args w=> by kernel_rfl⟩
end Go.Proofs.YtmjnackchaahbaaGreat

namespace Go.Proofs.YtmjnackchaahbaaGreat

instance QH:Bld Tryz.prog 26 Lb (fun i=> ([(0,1),(1,40),(41,1),(42,1)]:List (Nat×Nat))[i]?):=Bld.struct (bytes:=360) (.agg (Lb).toArray) [(0,1),(1,40),(41,1),(42,1)] Tryz.underlying26 ae rfl oC (fun w=> by kernel_rfl)
instance Qp:Bld Tryz.prog 30 DG (fun i=> some (i*1,1)):=Bld.array (bytes:=72) (.agg (DG).toArray) Tryz.underlying30 ae rfl oC ae
instance Ri:Bld Tryz.prog 34 La (fun i=> ([(0,1),(1,1),(2,1),(3,1),(4,1)]:List (Nat×Nat))[i]?):=Bld.struct (bytes:=88) (.agg (La).toArray) [(0,1),(1,1),(2,1),(3,1),(4,1)] Tryz.underlying34 ae rfl oC (fun w=> by kernel_rfl)
instance QW:Bld Tryz.prog 48 [.int .i64 0, .int .i64 0] (fun i=> ([(0,1),(1,1)]:List (Nat×Nat))[i]?):=Bld.struct (bytes:=16) (.agg #[.int .i64 0, .int .i64 0]) [(0,1),(1,1)] Tryz.underlying48 ae rfl oC (fun w=> by kernel_rfl)
instance Rf:Bld Tryz.prog 57 vH (fun i=> ([(0,1),(1,1),(2,1),(3,1),(4,1)]:List (Nat×Nat))[i]?):=Bld.struct (bytes:=40) (.agg (vH).toArray) [(0,1),(1,1),(2,1),(3,1),(4,1)] Tryz.underlying57 ae rfl oC (fun w=> by kernel_rfl)
instance RH:Bld Tryz.prog 71 Jg (fun i=> ([(0,1),(1,1),(2,1),(3,1)]:List (Nat×Nat))[i]?):=Bld.struct (bytes:=56) (.agg (Jg).toArray) [(0,1),(1,1),(2,1),(3,1)] Tryz.underlying71 ae rfl oC (fun w=> by kernel_rfl)
instance PX:Bld Tryz.prog 73 Jf (fun i=> ([(0,1),(1,4)]:List (Nat×Nat))[i]?):=Bld.struct (bytes:=64) (.agg (Jf).toArray) [(0,1),(1,4)] Tryz.underlying73 ae rfl oC (fun w=> by kernel_rfl)
instance QE:Bld Tryz.prog 80 [.slice none 0 0, .slice none 0 0] (fun i=> ([(0,1),(1,1)]:List (Nat×Nat))[i]?):=Bld.struct (bytes:=48) (.agg #[.slice none 0 0, .slice none 0 0]) [(0,1),(1,1)] Tryz.underlying80 ae rfl oC (fun w=> by kernel_rfl)
instance Qm:Bld Tryz.prog 83 KO (fun i=> ([(0,1),(1,1),(2,1),(3,1),(4,2),(6,1),(7,1),(8,41),(49,1),(50,1),(51,1)]:List (Nat×Nat))[i]?):=Bld.struct (bytes:=480) (.agg (KO).toArray) [(0,1),(1,1),(2,1),(3,1),(4,2),(6,1),(7,1),(8,41),(49,1),(50,1),(51,1)] Tryz.underlying83 ae rfl oC (fun w=> by kernel_rfl)
instance RI:Bld Tryz.prog 87 Jh (fun i=> ([(0,1),(1,1),(2,9),(11,1),(12,1),(13,1),(14,1)]:List (Nat×Nat))[i]?):=Bld.struct (bytes:=152) (.agg (Jh).toArray) [(0,1),(1,1),(2,9),(11,1),(12,1),(13,1),(14,1)] Tryz.underlying87 ae rfl oC (fun w=> by kernel_rfl)
instance RL:Bld Tryz.prog 91 Lj (fun i=> ([(0,1),(1,1),(2,1)]:List (Nat×Nat))[i]?):=Bld.struct (bytes:=24) (.agg (Lj).toArray) [(0,1),(1,1),(2,1)] Tryz.underlying91 ae rfl oC (fun w=> by kernel_rfl)
instance Rt:Bld Tryz.prog 96 EM (fun i=> ([(0,3),(3,1),(4,1),(5,1),(6,1),(7,5)]:List (Nat×Nat))[i]?):=Bld.struct (bytes:=176) (.agg (EM).toArray) [(0,3),(3,1),(4,1),(5,1),(6,1),(7,5)] Tryz.underlying96 ae rfl oC (fun w=> by kernel_rfl)
instance NX:Bld Tryz.prog 103 JP (fun i=> ([(0,3),(3,1),(4,1)]:List (Nat×Nat))[i]?):=Bld.struct (bytes:=72) (.agg (JP).toArray) [(0,3),(3,1),(4,1)] Tryz.underlying103 ae rfl oC (fun w=> by kernel_rfl)
instance NH:Bld Tryz.prog 109 vH (fun i=> ([(0,3),(3,1),(4,1)]:List (Nat×Nat))[i]?):=Bld.struct (bytes:=40) (.agg (vH).toArray) [(0,3),(3,1),(4,1)] Tryz.underlying109 ae rfl oC (fun w=> by kernel_rfl)
instance OU:Bld Tryz.prog 111 Fp (fun i=> ([(0,5),(5,1),(6,1)]:List (Nat×Nat))[i]?):=Bld.struct (bytes:=56) (.agg (Fp).toArray) [(0,5),(5,1),(6,1)] Tryz.underlying111 ae rfl oC (fun w=> by kernel_rfl)
instance Om:Bld Tryz.prog 115 vH (fun i=> ([(0,3),(3,1),(4,1)]:List (Nat×Nat))[i]?):=Bld.struct (bytes:=40) (.agg (vH).toArray) [(0,3),(3,1),(4,1)] Tryz.underlying115 ae rfl oC (fun w=> by kernel_rfl)
instance PF:Bld Tryz.prog 117 DG (fun i=> ([(0,5),(5,1),(6,1),(7,1),(8,1)]:List (Nat×Nat))[i]?):=Bld.struct (bytes:=72) (.agg (DG).toArray) [(0,5),(5,1),(6,1),(7,1),(8,1)] Tryz.underlying117 ae rfl oC (fun w=> by kernel_rfl)
instance Pa:Bld Tryz.prog 126 [.int .i64 0, .int .i64 0] (fun i=> ([(0,1),(1,1)]:List (Nat×Nat))[i]?):=Bld.struct (bytes:=16) (.agg #[.int .i64 0, .int .i64 0]) [(0,1),(1,1)] Tryz.underlying126 ae rfl oC (fun w=> by kernel_rfl)
instance OG:Bld Tryz.prog 132 DM (fun i=> ([(0,1),(1,9)]:List (Nat×Nat))[i]?):=Bld.struct (bytes:=96) (.agg (DM).toArray) [(0,1),(1,9)] Tryz.underlying132 ae rfl oC (fun w=> by kernel_rfl)
instance NO:Bld Tryz.prog 171 Kk (fun i=> ([(0,43),(43,10),(53,1),(54,5),(59,1),(60,1),(61,1),(62,1),(63,1)]:List (Nat×Nat))[i]?):=Bld.struct (bytes:=608) (.agg (Kk).toArray) [(0,43),(43,10),(53,1),(54,5),(59,1),(60,1),(61,1),(62,1),(63,1)] Tryz.underlying171 ae rfl oC (fun w=> by kernel_rfl)
instance Pz:Bld Tryz.prog 173 FU (fun i=> some (i*1,1)):=Bld.array (bytes:=192) (.agg (FU).toArray) Tryz.underlying173 ae rfl oC ae
instance MT:Bld Tryz.prog 176 [] (fun i=> ([]:List (Nat×Nat))[i]?):=Bld.struct (bytes:=0) (.agg #[]) [] Tryz.underlying176 ae rfl oC (fun w=> by kernel_rfl)
instance NG:Bld Tryz.prog 196 Fe (fun i=> ([(0,5),(5,1)]:List (Nat×Nat))[i]?):=Bld.struct (bytes:=48) (.agg (Fe).toArray) [(0,5),(5,1)] Tryz.underlying196 ae rfl oC (fun w=> by kernel_rfl)
instance Ox:Bld Tryz.prog 222 JL (fun i=> ([(0,1),(1,1),(2,1),(3,1),(4,1)]:List (Nat×Nat))[i]?):=Bld.struct (bytes:=72) (.agg (JL).toArray) [(0,1),(1,1),(2,1),(3,1),(4,1)] Tryz.underlying222 ae rfl oC (fun w=> by kernel_rfl)
instance Pr:Bld Tryz.prog 225 yR (fun i=> ([(0,1),(1,1),(2,1),(3,1)]:List (Nat×Nat))[i]?):=Bld.struct (bytes:=40) (.agg (yR).toArray) [(0,1),(1,1),(2,1),(3,1)] Tryz.underlying225 ae rfl oC (fun w=> by kernel_rfl)
def dx (n m:Int):Int:=(if n < 0 then -(n+1) else n) % m
theorem gZ (n m:Int) (h:0 < m):0≤dx n m:=Int.emod_nonneg _ ab
theorem jj (n m:Int) (h:0 < m):dx n m < m:=Int.emod_lt_of_pos _ h
theorem iz (n m:Int) (hm:1≤m) (h1:m≤4611686018427387904) (h2: -9223372036854775808≤n) (h3:n≤9223372036854775807):
  Spec Tryz.prog 33 (ba [.v (.int .i64 n), .v (.int .i64 m)] []) (aO (.v (.int .i64 (dx n m))) []):=by
 refine Spec.ofN Tryz.func33 rfl Tryz.ntmps33 rfl ?_
 refine am (be rfl (aj (aq (am (aX rfl (ai (bl _ _ rfl rfl rfl) (aj (aR rfl (fun hc6=> ?_) (fun hc6=> ?_)))))))))
 ·skip
  refine an (aX rfl (ai (aZ _ _ rfl rfl (bE ab)) ?_))
  refine ai (Do _ rfl (bE ab)) ?_
  refine be rfl (aj (am (aX rfl (aX rfl (ai (dX _ _ rfl rfl ab (Int.tmod_eq_emod_of_nonneg ab)) ?_)))))
  refine be rfl (aj (aG (rU rfl rfl ?_)))
  unfold dx
  rw [if_pos hc6]
 refine aS (am (aX rfl (aX rfl (ai (dX _ _ rfl rfl ab (Int.tmod_eq_emod_of_nonneg ab)) ?_))))
 refine be rfl (aj (aG (rU rfl rfl ?_)))
 unfold dx
 rw [if_neg ab]

theorem rA (n m:Nat) (xs ys:List Int) (hn:xs.length=n) (hm:ys.length=m) (h1:n≤4611686018427387904) (h2:m≤4611686018427387904):
  Spec Tryz.prog 30 (ba [.sl n (cp xs), .sl m (cp ys)] []) (aO (.v (.bool (decide (xs=ys)))) []):=by
 subst hn;subst hm
 refine Spec.ofN Tryz.func30 rfl Tryz.ntmps30 rfl ?_
 refine am (cr rfl (aj (aq (am (eY rfl (ai (bn _ aa rfl) (eY rfl (ai (bn _ aa rfl) (ai (bX _ _ rfl rfl rfl) (aj ?_))))))))))
 refine aR rfl (fun hc10=> ?_) (fun hc10=> ?_)
 ·skip
  refine am (cr rfl (aj (aG (rK rfl rfl ?_))))
  exact decide_eq_false fun h=> by subst h;omega
 refine aS (aU fun K5 hK5=> ?_)
 refine am (be rfl (aj (ay ?_)))
 refine bq (α:=Nat) (fun k=> k≤xs.length∧xs.length=ys.length∧xs.take k=ys.take k) 26 [(0,_),(1,_)] [] (fun k=> [(5, .v (.int .i64 (k:Int)))]) (fun k=> []) [] [] (fun k=> xs.length - k) 0 ?_ (by
  refine Le.mkJ [] [] rfl ?_ ?_ trivial trivial ?_
  ·exact ⟨(by exact iS rfl),(by exact iS rfl),(cm ag),trivial⟩
  ·exact trivial
  kernel_rfl) ?_
 ·exact ⟨by omega,by omega,rfl⟩
 intro k hk
 obtain ⟨hk,hl,ht⟩:=hk
 refine aU fun K7 hK7=> ?_
 refine am (aX rfl (eY rfl (ai (bn _ aa rfl) (ai (bl _ _ rfl rfl rfl) (aj (aR rfl (fun hc14=> ?_) (fun hc14=> ?_)))))))
 ·skip
  have hkx:k < xs.length:=by omega
  have hky:k < ys.length:=by omega
  refine bs (hK7 _ ?_)
  clear hK7;try clear K7
  refine aq (ay (aq ?_))
  refine aM (σ':=aD 26 [(0,_),(1,_),(5,_)] [] [] []) (by
   refine Le.mkJ [] [] rfl ?_ ?_ trivial trivial ?_
   ·exact ⟨(by exact iS rfl),(by exact iS rfl),(iV rfl),trivial⟩
   ·exact trivial
   kernel_rfl) ?_
  refine bJ 9 [17,18,19,20,21,22,23,24,25] [] ae ae rfl (aK rfl) (rfl:_=[_,_,_,_,_,_,_,_,_]) (rfl:_=[]) ?_
  refine ap (_,[]) (fun τ=> aI _ nh) ?_
  refine fP rfl ?_
  refine ap (_,[]) (fun τ=> aI _ em) ?_
  refine fO rfl ?_
  refine ap (_,[]) (fun τ=> bo _ _ aa rfl rfl _ rfl ab (by (simp only [aN,bh,bk];omega)) (by exact Nat.mul_one _)) ?_
  refine fN rfl ?_
  refine ap (_,[]) (fun τ=> bU _ aa rfl (by exact ee _ _ ab) rfl) ?_
  refine fS rfl ?_
  refine ap (_,[]) (fun τ=> aI _ nh) ?_
  refine gk rfl ?_
  refine ap (_,[]) (fun τ=> aI _ em) ?_
  refine gU rfl ?_
  refine ap (_,[]) (fun τ=> bo _ _ aa rfl rfl _ rfl ab (by (simp only [aN,bh,bk];omega)) (by exact Nat.mul_one _)) ?_
  refine iL rfl ?_
  refine ap (_,[]) (fun τ=> bU _ aa rfl (by exact ee _ _ ab) rfl) ?_
  refine jU rfl ?_
  refine ap (_,[]) (fun τ=> bX _ _ rfl rfl rfl) ?_
  refine kD rfl (bm ⟨rfl,?_⟩)
  refine aj (aR rfl (fun hc25=> ?_) (fun hc25=> ?_))
  ·skip
   refine am (cr rfl (aj (aG (rK rfl rfl ?_))))
   exact decide_eq_false fun h=> by subst h;exact hc25 rfl
  refine cq (an (aX rfl (ai (aZ _ _ rfl rfl (bE ab)) ?_)))
  refine be rfl (aJ (⟨k+1,?_,?_,?_⟩))
  ·refine ⟨by omega,hl,?_⟩
   rw [tz _ _ _ hkx,tz _ _ _ hky] at hc25
   rw [List.take_succ_eq_append_getElem hkx,List.take_succ_eq_append_getElem hky,ht,hc25]
  ·skip
   refine Le.mkJ [] [] rfl ?_ ?_ trivial trivial ?_
   ·exact ⟨(by exact iS rfl),(by exact iS rfl),(cm ag),trivial⟩
   ·exact trivial
   kernel_rfl
  omega
 refine bA (id (hK5 _ ?_))
 clear hK5;try clear K5
 refine am (cr rfl (aj (aG (rK rfl rfl ?_))))
 rw [List.take_of_length_le ab,List.take_of_length_le ab] at ht
 exact decide_eq_true ht

theorem pj (b:UInt8):Spec Tryz.prog 221 (ba [.v (.int .u8 (b.toNat:Int))] []) (aO (.v (.bool (nn b))) []):=by
 have h:=Ar b
 refine Spec.ofN Tryz.func221 rfl Tryz.ntmps221 rfl ?_
 refine am (cr rfl (aj (am (aX rfl (ai (fv _ _ rfl rfl rfl) (cL rfl (dw (fun hg5=> ?_) (fun hg5=> ?_))))))))
 ·skip
  have h:nn b=decide ((b.toNat:Int)≤122):=by rw [Bool.eq_iff_iff,h];simp [hg5]
  refine ax rfl rfl (aI _ em) (ax rfl rfl (wQ _ _ rfl rfl rfl) (ai (aE _ _ _ rfl bR) (cr rfl (aj (aG (rK rfl rfl ?_))))))
  exact h
 have h:nn b=false:=GJ h (fun x=> by omega)
 refine aP rfl rfl ah ?_
 refine aP rfl rfl ah ?_
 refine ai (aE _ _ _ rfl bR) (cr rfl (aj (aG (rK rfl rfl ?_))))
 exact h
theorem mU (b:UInt8):Spec Tryz.prog 222 (ba [.v (.int .u8 (b.toNat:Int))] []) (aO (.v (.bool (gG b))) []):=by
 have h:=vw b
 refine Spec.ofN Tryz.func222 rfl Tryz.ntmps222 rfl ?_
 refine am (cr rfl (aj (am (aX rfl (ai (fv _ _ rfl rfl rfl) (cL rfl (dw (fun hg5=> ?_) (fun hg5=> ?_))))))))
 ·skip
  have h:gG b=decide ((b.toNat:Int)≤57):=by rw [Bool.eq_iff_iff,h];simp [hg5]
  refine ax rfl rfl (aI _ em) (ax rfl rfl (wQ _ _ rfl rfl rfl) (ai (aE _ _ _ rfl bR) (cr rfl (aj (aG (rK rfl rfl ?_))))))
  exact h
 have h:gG b=false:=GJ h (fun x=> by omega)
 refine aP rfl rfl ah ?_
 refine aP rfl rfl ah ?_
 refine ai (aE _ _ _ rfl bR) (cr rfl (aj (aG (rK rfl rfl ?_))))
 exact h
theorem qE (l:List Tx) (n:Nat) (hn:l.length=n) (h1:n≤1000) (t:Tx):Spec Tryz.prog 224 (ba [.sl n (fm l), .v (bt t)] []) (aO (.v (.bool (decide (t∈l)))) []):=by
 refine Spec.ofN Tryz.func224 rfl Tryz.ntmps224 rfl ?_
 refine am (cr rfl (aj (aU fun K2 hK2=> ?_)))
 refine am (be rfl (aj (ay ?_)))
 refine bq (α:=Nat) (fun k=> k≤n∧t∉l.take k) 18 [(0,_),(1,_)] [] (fun k=> [(5, .v (.int .i64 (k:Int)))]) (fun k=> []) [] [] (fun k=> n - k) 0 ?_ (by
  refine Le.mkJ [] [] rfl ?_ ?_ trivial trivial ?_
  ·exact ⟨(iS rfl),(iV rfl),(cm ag),trivial⟩
  ·exact trivial
  kernel_rfl) ?_
 ·exact ⟨Nat.zero_le _,by simp⟩
 intro k hk
 obtain ⟨hk,hnt⟩:=hk
 refine aU fun K4 hK4=> ?_
 refine am (aX rfl (eY rfl (ai (bn _ aa rfl) (ai (bl _ _ rfl rfl rfl) (aj (aR rfl (fun hc9=> ?_) (fun hc9=> ?_)))))))
 ·skip
  refine bs (hK4 _ ?_)
  clear hK4;try clear K4
  refine aq (ay (am (eY rfl (aX rfl (ai (bo _ _ aa rfl rfl _ rfl ab (by (simp only [aN,bh,bk,bv];omega)) (by exact Nat.mul_one _)) ?_)))))
  refine ai (bU _ aa rfl (by exact jK _ _ ab) rfl) ?_
  refine ej rfl (ai (aV _ _ Tryz.underlying9 rfl rfl rfl) (aj (aR rfl (fun hc17=> ?_) (fun hc17=> ?_))))
  ·skip
   refine am (cr rfl (aj (aG (rK rfl rfl ?_))))
   exact decide_eq_true (hc17 ▸ kf ab)
  refine cq (an (aX rfl (ai (aZ _ _ rfl rfl (bE ab)) ?_)))
  refine be rfl (aJ (⟨k+1,?_,?_,?_⟩))
  ·exact ⟨by omega,kV hnt ab hc17⟩
  ·skip
   refine Le.mkJ [] [] rfl ?_ ?_ trivial trivial ?_
   ·exact ⟨(iS rfl),(iV rfl),(cm ag),trivial⟩
   ·exact trivial
   kernel_rfl
  omega
 have hall:t∉l:=by rwa [List.take_of_length_le ab] at hnt
 refine bA (id (hK2 _ ?_))
 clear hK2;try clear K2
 refine am (cr rfl (aj (aG (rK rfl rfl ?_))))
 exact decide_eq_false hall
theorem rG (s:Tx) (at_:Nat) (h1:s.length≤100000) (ha:at_≤s.length):Spec Tryz.prog 194 (ba [.v (bt s), .v (.int .i64 (at_:Int))] []) (aO (.v (.int .i64 (lh s at_ false:Int))) []):=by
 refine Spec.ofN Tryz.func194 rfl Tryz.ntmps194 rfl ?_
 refine am (be rfl (aj (aU fun K2 hK2=> ?_)))
 refine ay ?_
 refine bq (α:=Nat) (fun k=> k≤s.length∧lh s k false=lh s at_ false) 41 [(0,_)] [] (fun k=> [(1, .v (.int .i64 (k:Int)))]) (fun k=> []) [] [] (fun k=> s.length - k) at_ ?_ (by
  refine Le.mkJ [] [] rfl ?_ ?_ trivial trivial ?_
  ·exact ⟨(iV rfl),(cm ag),trivial⟩
  ·exact trivial
  kernel_rfl) ?_
 ·exact ⟨ha,rfl⟩
 intro k hk
 obtain ⟨hk,hs⟩:=hk
 refine aU fun K3 hK3=> ?_
 refine am (aX rfl (ej rfl (ai (ik _ Tryz.underlying9 rfl) (ai (bl _ _ rfl rfl rfl) (aj (aR rfl (fun hc9=> ?_) (fun hc9=> ?_)))))))
 ·skip
  obtain ⟨b,hb⟩:=kL (s:=s) (a:=k) ab
  have hbi:=MI b
  refine bs (hK3 _ ?_)
  clear hK3;try clear K3
  refine ay (am (ej rfl (aX rfl (ai (lG _ _ Tryz.underlying9 rfl rfl (by assumption)) ?_))))
  refine be rfl (aj (am (aX rfl (ai (bC _ _ rfl rfl rfl) (aj (aR rfl (fun hc14=> ?_) (fun hc14=> ?_)))))))
  ·skip
   have hs:=(Bc hb ab).symm.trans hs
   refine ay ?_
   refine bq (α:=Nat) (fun j=> k≤j∧j≤s.length∧lh s j true=lh s at_ false∧(j=k→j < s.length)) 41 [(0,_)] [] (fun j=> [(1, .v (.int .i64 (j:Int)))]) (fun j=> []) [] [] (fun j=> s.length - j) k ?_ (by
    refine Le.mkJ [] [] rfl ?_ ?_ trivial trivial ?_
    ·exact ⟨(iV rfl),(cm ag),trivial⟩
    ·exact trivial
    kernel_rfl) ?_
   ·exact ⟨Nat.le_refl _,by omega,hs,fun _=> by omega⟩
   intro j hj
   obtain ⟨hj1,hj2,hsj,hjk⟩:=hj
   refine aU fun K7 hK7=> ?_
   refine aU fun K8 hK8=> ?_
   refine an (aX rfl (ej rfl (ai (ik _ Tryz.underlying9 rfl) (ai (bl _ _ rfl rfl rfl) (cL rfl (dw (fun hg19=> ?_) (fun hg19=> ?_)))))))
   ·skip
    obtain ⟨u,hu⟩:=kL (s:=s) (a:=j) ab
    have hui:=MI u
    refine ax rfl rfl (aI _ xh) (ax rfl rfl (aI _ em) (ax rfl rfl (lG _ _ Tryz.underlying9 rfl rfl (by assumption)) ?_))
    refine ax rfl rfl (bX _ _ rfl rfl rfl) (ai (aE _ _ _ rfl bR) (aJ (hK8 _ ?_)))
    clear hK8;try clear K8
    refine aR rfl (fun hc24=> ?_) (fun hc24=> ?_)
    ·skip
     refine bs (hK7 _ ?_)
     clear hK7;try clear K7
     refine ay (an (aX rfl (ai (aZ _ _ rfl rfl (bE ab)) ?_)))
     refine be rfl (aJ (⟨j+1,?_,?_,?_⟩))
     ·exact ⟨by omega,by omega,(Hm hu ab).symm.trans hsj,fun _=> by omega⟩
     ·skip
      refine Le.mkJ [] [] rfl ?_ ?_ trivial trivial ?_
      ·exact ⟨(iV rfl),(cm ag),trivial⟩
      ·exact trivial
      kernel_rfl
     omega
    have hjs:lh s j false=lh s at_ false:=by rw [← hsj,If hu ab]
    have hjk':k < j:=Nat.lt_of_le_of_ne hj1 fun e=> by subst e;rw [hb] at hu;obtain rfl:=Option.some.inj hu;omega
    refine bA (id (⟨j,?_,?_,?_⟩))
    ·exact ⟨hj2,hjs⟩
    ·skip
     refine Le.mkJ [] [] rfl ?_ ?_ trivial trivial ?_
     ·exact ⟨(iV rfl),(cm ag),trivial⟩
     ·exact trivial
     kernel_rfl
    omega
   have hjs:lh s j false=lh s at_ false:=by rw [← hsj,sE ab,sE ab]
   have hjk':k < j:=Nat.lt_of_le_of_ne hj1 fun e=> by have:=hjk e.symm;omega
   refine aP rfl rfl ah ?_
   refine aP rfl rfl ah ?_
   refine aP rfl rfl ah ?_
   refine aP rfl rfl ah ?_
   refine ai (aE _ _ _ rfl bR) (aJ (hK8 _ ?_))
   clear hK8;try clear K8
   refine aW rfl rfl (bA (id (⟨j,?_,?_,?_⟩)))
   ·exact ⟨hj2,hjs⟩
   ·skip
    refine Le.mkJ [] [] rfl ?_ ?_ trivial trivial ?_
    ·exact ⟨(iV rfl),(cm ag),trivial⟩
    ·exact trivial
    kernel_rfl
   omega
  refine am (aX rfl (ai (bC _ _ rfl rfl rfl) (cL rfl (dw (fun hg29=> ?_) (fun hg29=> ?_)))))
  ·skip
   have hs2:lh s (k+1) false=lh s at_ false:=(wE hb ab ab).symm.trans hs
   refine aP rfl rfl ah ?_
   refine aP rfl rfl ah ?_
   refine ai (aE _ _ _ rfl bR) (cL rfl (aP rfl rfl ah ?_))
   refine aP rfl rfl ah ?_
   refine ai (aE _ _ _ rfl bR) (aj (bK rfl rfl ?_))
   refine aM (σ':=aD 41 [(0,_),(1,_)] [] [] []) kp ?_
   refine an (aX rfl (ai (aZ _ _ rfl rfl (bE ab)) ?_))
   refine be rfl (aJ (⟨k+1,?_,?_,?_⟩))
   ·exact ⟨by omega,hs2⟩
   ·skip
    refine Le.mkJ [] [] rfl ?_ ?_ trivial trivial ?_
    ·exact ⟨(iV rfl),(cm ag),trivial⟩
    ·exact trivial
    kernel_rfl
   omega
  refine ax rfl rfl (aI _ em) (ax rfl rfl (bC _ _ rfl rfl rfl) (ai (aE _ _ _ rfl bR) (cL rfl (dw (fun hg33=> ?_) (fun hg33=> ?_)))))
  ·skip
   have hs2:lh s (k+1) false=lh s at_ false:=(wE hb ab ab).symm.trans hs
   refine aP rfl rfl ah ?_
   refine aP rfl rfl ah ?_
   refine ai (aE _ _ _ rfl bR) (aj (bK rfl rfl ?_))
   refine aM (σ':=aD 41 [(0,_),(1,_)] [] [] []) kp ?_
   refine an (aX rfl (ai (aZ _ _ rfl rfl (bE ab)) ?_))
   refine be rfl (aJ (⟨k+1,?_,?_,?_⟩))
   ·exact ⟨by omega,hs2⟩
   ·skip
    refine Le.mkJ [] [] rfl ?_ ?_ trivial trivial ?_
    ·exact ⟨(iV rfl),(cm ag),trivial⟩
    ·exact trivial
    kernel_rfl
   omega
  refine ax rfl rfl (aI _ em) (ax rfl rfl (bC _ _ rfl rfl rfl) (ai (aE _ _ _ rfl bR) (aj (aR rfl (fun hc36=> ?_) (fun hc36=> ?_)))))
  ·skip
   have hs2:lh s (k+1) false=lh s at_ false:=(wE hb ab ab).symm.trans hs
   refine aM (σ':=aD 41 [(0,_),(1,_)] [] [] []) kp ?_
   refine an (aX rfl (ai (aZ _ _ rfl rfl (bE ab)) ?_))
   refine be rfl (aJ (⟨k+1,?_,?_,?_⟩))
   ·exact ⟨by omega,hs2⟩
   ·skip
    refine Le.mkJ [] [] rfl ?_ ?_ trivial trivial ?_
    ·exact ⟨(iV rfl),(cm ag),trivial⟩
    ·exact trivial
    kernel_rfl
   omega
  have hs3:=(Eg hb ab ab).symm.trans hs
  refine aq ?_
  refine aM (σ':=aD 41 [(1,_)] [] [] []) kp ?_
  refine an (aX rfl (be rfl (aj (aG (rU rfl rfl ?_)))))
  rw [hs3]
 refine bA (id (hK2 _ ?_))
 clear hK2;try clear K2
 refine am (aX rfl (be rfl (aj (aG (rU rfl rfl ?_)))))
 rw [← hs,sE ab]
theorem pQ (s:Tx) (h1:s.length≤100000) (hd: ∀ b∈s,gG b=true) (hv:ln s≤2147483647):Spec Tryz.prog 223 (ba [.v (bt s)] []) (aO (.v (.int .i64 (ln s:Int))) []):=by
 have hvt:=fun i=> yI s i
 refine Spec.ofN Tryz.func223 rfl Tryz.ntmps223 rfl ?_
 refine am (be rfl (aj (am (be rfl (aj (aU fun K3 hK3=> ?_))))))
 refine am (be rfl (aj (ay ?_)))
 refine bq (α:=Nat) (fun k=> k≤s.length) 22 [(0,_)] [] (fun k=> [(3, .v (.int .i64 (ln (s.take k):Int))),(4, .v (.int .i64 (k:Int)))]) (fun k=> []) [] [] (fun k=> s.length - k) 0 ?_ (by
  refine Le.mkJ [] [] rfl ?_ ?_ trivial trivial ?_
  ·exact ⟨(iV rfl),(cm ag),(cm ag),trivial⟩
  ·exact trivial
  kernel_rfl) ?_
 ·omega
 intro k hk
 refine aU fun K5 hK5=> ?_
 refine am (aX rfl (ej rfl (ai (ik _ Tryz.underlying9 rfl) (ai (bl _ _ rfl rfl rfl) (aj (aR rfl (fun hc8=> ?_) (fun hc8=> ?_)))))))
 ·skip
  obtain ⟨b,hb⟩:=kL (s:=s) (a:=k) ab
  have hbi:=MI b
  have hbd:=(vw b).1 (hd b (List.mem_of_getElem? hb))
  have hvs:=zb hb
  have hv0:=hvt k
  have hv1:=hvt (k+1)
  have hvi:(10:Int)*(ln (s.take k):Int)+(b.toNat:Int) - 48=(ln (s.take (k+1)):Int):=by omega
  refine bs (hK5 _ ?_)
  clear hK5;try clear K5
  refine aq (ay (am (aX rfl (ai (Dv _ _ rfl rfl (bE ab)) ?_))))
  refine ej rfl (aX rfl (ai (lG _ _ Tryz.underlying9 rfl rfl (by assumption)) ?_))
  refine ai (sZ _ Tryz.underlying5 Tryz.underlying3 rfl (bE ab)) ?_
  refine ai (aZ _ _ rfl rfl (bE ab)) ?_
  refine ai (kO _ _ rfl rfl (bE ab)) ?_
  refine be rfl (aj (am (aX rfl (ai (fU _ _ rfl rfl rfl) (aj (aW rfl (decide_eq_false ab) ?_))))))
  refine cq ?_
  refine aM (σ':=aD 22 [(0,_),(3,_),(4,_)] [] [] []) kp ?_
  refine an (aX rfl (ai (aZ _ _ rfl rfl (bE ab)) ?_))
  refine be rfl (aJ (⟨k+1,?_,?_,?_⟩))
  ·omega
  ·skip
   refine Le.mkJ [] [] rfl ?_ ?_ trivial trivial ?_
   ·exact ⟨(iV rfl),(cm ab),(cm ag),trivial⟩
   ·exact trivial
   kernel_rfl
  omega
 have he:s.take k=s:=List.take_of_length_le ab
 refine bA (id (hK3 _ ?_))
 clear hK3;try clear K3
 refine am (aX rfl (be rfl (aj (aG (rU rfl rfl ?_)))))
 rw [he]

theorem Cg {p:UInt8→Bool} {c:UInt8}: ∀ {l:List UInt8},c∈l.takeWhile p→p c=true
 | [],h=> by simp at h
 | x::l,h=> by
  rw [List.takeWhile_cons] at h
  split at h
  ·rename_i hx
   rcases List.mem_cons.1 h with rfl | h
   ·exact hx
   exact Cg h
  simp at h
def va (c:UInt8):Bool:=nn c || gG c
theorem sj {s:Tx} {a:Nat} {b:UInt8} {t:Tk} (hb:s[a]? =some b) (h1:nn b=true) (h:rl (s.drop a) a=some t):lF va s (a+1) - a≤10∧t=⟨1,a,(s.drop a).take (lF va s (a+1) - a),0⟩:=by
 rw [vg hb]
 rw [gp hb,rl] at h
 simp only [h1,if_true] at h
 rw [show lF va s (a+1) - a=(b::(s.drop (a+1)).takeWhile fun x=> nn x || gG x).length by unfold lF va;rw [List.length_cons];omega]
 split at h
 ·cases h
 rename_i hl;exact ⟨by omega,(Option.some.inj h).symm⟩
theorem vk {s:Tx} {a:Nat} {b:UInt8} {t:Tk} (hb:s[a]? =some b) (h1:nn b=false) (h2:gG b=true) (h:rl (s.drop a) a=some t):
  (∀ c∈(s.drop a).take (lF gG s (a+1) - a),gG c=true)∧ln ((s.drop a).take (lF gG s (a+1) - a))≤2147483647∧t=⟨2,a,(s.drop a).take (lF gG s (a+1) - a),ln ((s.drop a).take (lF gG s (a+1) - a))⟩:=by
 rw [vg hb]
 rw [gp hb,rl] at h
 simp only [h1,h2,if_true] at h
 simp only [Bool.false_eq_true,if_false] at h
 split at h
 ·cases h
 rename_i hl
 refine ⟨fun c hc=> ?_,by omega,(Option.some.inj h).symm⟩
 rcases List.mem_cons.1 hc with rfl | hc
 ·exact h2
 exact Cg hc
theorem tZ {s:Tx} {a:Nat} {b:UInt8} {t:Tk} (hb:s[a]? =some b) (h1:nn b=false) (h2:gG b=false) (h:rl (s.drop a) a=some t):
  ((s.drop a).take 2∈El∧t=⟨3,a,(s.drop a).take 2,0⟩)∨((s.drop a).take 2∉El∧(s.drop a).take 1∈Hw∧t=⟨3,a,(s.drop a).take 1,0⟩):=by
 rw [gp hb,rl] at h
 simp only [h1,h2,Bool.false_eq_true,if_false] at h
 rw [gp hb]
 split at h
 ·rename_i hm;exact .inl ⟨hm,(Option.some.inj h).symm⟩
 rename_i hm
 split at h
 ·rename_i hs;exact .inr ⟨hm,hs,(Option.some.inj h).symm⟩
 cases h
theorem xN {s:Tx} {a:Nat} (h:a < s.length):(s.drop a).take (min (a+2) s.length - a)=(s.drop a).take 2:=by
 by_cases h2:a+2≤s.length
 ·congr 1;omega
 rw [List.take_of_length_le (by rw [List.length_drop];omega),List.take_of_length_le (by rw [List.length_drop];omega)]
theorem wc (s:Tx) (a:Nat) (h1:s.length≤100000) (ha:a < s.length) (t:Tk) (ht:rl (s.drop a) a=some t):
  Spec Tryz.prog 195 (ba [.v (bt s), .v (.int .i64 (a:Int))] []) (aO (.tup [.agg [.v (.int .i64 (t.k:Int)), .v (.int .i64 (t.a:Int)), .v (bt t.t), .v (.int .i64 (t.n:Int))], .v (.int .i64 0)]) []):=by
 obtain ⟨b,hb⟩:=kL ha
 have hwl:=tv (p:=va) (s:=s) (a:=a+1) ab
 have hdl:=tv (p:=gG) (s:=s) (a:=a+1) ab
 refine Spec.ofN Tryz.func195 rfl Tryz.ntmps195 rfl ?_
 refine am (ai (aC (4,0) aa rfl rfl) (be rfl (aj (am (aX rfl (ai (aZ _ _ rfl rfl (bE ab)) ?_))))))
 refine be rfl (aj (aq (am (ej rfl (aX rfl (ai (lG _ _ Tryz.underlying9 rfl rfl (by assumption)) ?_))))))
 refine ai (aH aa al (pj b) rfl rfl) ?_
 refine aj (aR rfl (fun hc15=> ?_) (fun hc15=> ?_))
 ·skip
  obtain ⟨htl,hte⟩:=sj hb hc15 ht
  refine aU fun K5 hK5=> ?_
  refine ay ?_
  refine bq (α:=Nat) (fun e=> a+1≤e∧e≤s.length∧lF va s e=lF va s (a+1)) 101 [(0,_),(1,_),(4,_)] [((4,0),_)] (fun e=> [(6, .v (.int .i64 (e:Int)))]) (fun e=> []) [] [] (fun e=> s.length - e) (a+1) ?_ (by
   refine Le.mkJ [] [] rfl ?_ ?_ trivial trivial ?_
   ·exact ⟨(iV rfl),(iV rfl),(iP rfl),(cm ag),trivial⟩
   ·exact ⟨(ci rfl rfl rfl),trivial⟩
   kernel_rfl) ?_
  ·exact ⟨Nat.le_refl _,by omega,rfl⟩
  intro e he
  obtain ⟨he1,he2,het⟩:=he
  refine aU fun K6 hK6=> ?_
  refine aU fun K7 hK7=> ?_
  refine an (aX rfl (ej rfl (ai (ik _ Tryz.underlying9 rfl) (ai (bl _ _ rfl rfl rfl) (cL rfl (dw (fun hg20=> ?_) (fun hg20=> ?_)))))))
  ·skip
   obtain ⟨u,hu⟩:=kL (s:=s) (a:=e) ab
   refine ax rfl rfl (aI _ xh) (ax rfl rfl (aI _ em) (ax rfl rfl (lG _ _ Tryz.underlying9 rfl rfl (by assumption)) ?_))
   refine ax rfl rfl (aH aa al (pj u) rfl rfl) ?_
   refine ax rfl rfl (aI _ bR) (dw (fun hg25=> ?_) (fun hg25=> ?_))
   ·skip
    have hnx:lF va s (e+1)=lF va s (a+1):=(tN hu (by unfold va;rw [hg25];rfl)).symm.trans het
    refine aP rfl rfl ah ?_
    refine aP rfl rfl ah ?_
    refine aP rfl rfl ah ?_
    refine aP rfl rfl ah ?_
    refine ax rfl rfl (aE _ _ _ rfl bR) (ai (aE _ _ _ rfl bR) (aJ (hK7 _ ?_)))
    clear hK7;try clear K7
    refine bK rfl rfl (bs (hK6 _ ?_))
    clear hK6;try clear K6
    refine ay ?_
    refine aM (σ':=aD 101 [(0,_),(1,_),(4,_),(6,_)] [((4,0),_)] [] []) kp ?_
    refine an (aX rfl (ai (aZ _ _ rfl rfl (bE ab)) ?_))
    refine be rfl (aJ (⟨e+1,?_,?_,?_⟩))
    ·exact ⟨by omega,by omega,hnx⟩
    ·skip
     refine Le.mkJ [] [] rfl ?_ ?_ trivial trivial ?_
     ·exact ⟨(iV rfl),(iV rfl),(iP rfl),(cm ag),trivial⟩
     ·exact ⟨(ci rfl rfl rfl),trivial⟩
     kernel_rfl
    omega
   refine ax rfl rfl (aI _ xh) (ax rfl rfl (aI _ em) (ax rfl rfl (lG _ _ Tryz.underlying9 rfl rfl (by assumption)) ?_))
   refine ax rfl rfl (aH aa al (mU u) rfl rfl) ?_
   refine ax rfl rfl (aE _ _ _ rfl bR) (ai (aE _ _ _ rfl bR) (aJ (hK7 _ ?_)))
   clear hK7;try clear K7
   refine aR rfl (fun hc31=> ?_) (fun hc31=> ?_)
   ·skip
    have hnx:lF va s (e+1)=lF va s (a+1):=(tN hu (by unfold va;rw [hg25,hc31];rfl)).symm.trans het
    refine bs (hK6 _ ?_)
    clear hK6;try clear K6
    refine ay ?_
    refine aM (σ':=aD 101 [(0,_),(1,_),(4,_),(6,_)] [((4,0),_)] [] []) kp ?_
    refine an (aX rfl (ai (aZ _ _ rfl rfl (bE ab)) ?_))
    refine be rfl (aJ (⟨e+1,?_,?_,?_⟩))
    ·exact ⟨by omega,by omega,hnx⟩
    ·skip
     refine Le.mkJ [] [] rfl ?_ ?_ trivial trivial ?_
     ·exact ⟨(iV rfl),(iV rfl),(iP rfl),(cm ag),trivial⟩
     ·exact ⟨(ci rfl rfl rfl),trivial⟩
     kernel_rfl
    omega
   have hfin:e=lF va s (a+1):=(CV hu (by unfold va;rw [hg25,hc31];rfl)).symm.trans het
   refine bA (id (hK5 _ ?_))
   clear hK5;try clear K5
   refine aq (aq ?_)
   refine aM (σ':=aD 101 [(0,_),(1,_),(4,_),(6,_)] [((4,0),_)] [] []) kp ?_
   refine an (aX rfl (aX rfl (ai (kO _ _ rfl rfl (bE ab)) ?_)))
   refine ai (fU _ _ rfl rfl rfl) (aj (aW rfl (decide_eq_false ab) ?_))
   refine aS (am (aX rfl (ej rfl (aX rfl (aX rfl (ai (lP _ _ _ Tryz.underlying9 rfl _ _ (.lit rfl rfl) (.lit rfl rfl) ab ab rfl) ?_))))))
   refine ai (aL _ aa rfl (by exact kG)) ?_
   refine bF rfl rfl rfl rfl rfl rfl (be rfl (aj (aG ?_)))
   subst hte;subst hfin
   exact jR (.inr rfl) rfl (.cellA aa rfl rfl rfl) (.tmp kQ) (Le.out [] [] (.tup rfl lz) rfl rfl rfl trivial trivial)
  have hfin:e=lF va s (a+1):=(xi ab).symm.trans het
  refine aP rfl rfl ah ?_
  refine aP rfl rfl ah ?_
  refine aP rfl rfl ah ?_
  refine aP rfl rfl ah ?_
  refine aP rfl rfl ah ?_
  refine gK rfl rfl (gK rfl rfl (gK rfl rfl (gK rfl rfl (aP rfl rfl ah ?_))))
  refine ai (aE _ _ _ rfl bR) (aJ (hK7 _ ?_))
  clear hK7;try clear K7
  refine aW rfl rfl (bA (id (hK5 _ ?_)))
  clear hK5;try clear K5
  refine aq (aq ?_)
  refine aM (σ':=aD 101 [(0,_),(1,_),(4,_),(6,_)] [((4,0),_)] [] []) kp ?_
  refine an (aX rfl (aX rfl (ai (kO _ _ rfl rfl (bE ab)) ?_)))
  refine ai (fU _ _ rfl rfl rfl) (aj (aW rfl (decide_eq_false ab) ?_))
  refine aS (am (aX rfl (ej rfl (aX rfl (aX rfl (ai (lP _ _ _ Tryz.underlying9 rfl _ _ (.lit rfl rfl) (.lit rfl rfl) ab ab rfl) ?_))))))
  refine ai (aL _ aa rfl (by exact kG)) ?_
  refine bF rfl rfl rfl rfl rfl rfl (be rfl (aj (aG ?_)))
  subst hte;subst hfin
  exact jR (.inr rfl) rfl (.cellA aa rfl rfl rfl) (.tmp kQ) (Le.out [] [] (.tup rfl lz) rfl rfl rfl trivial trivial)
 have hlb:=hc15
 refine aS (aq (am (ej rfl (aX rfl (ai (lG _ _ Tryz.underlying9 rfl rfl (by assumption)) ?_)))))
 refine ai (aH aa al (mU b) rfl rfl) ?_
 refine aj (aR rfl (fun hc48=> ?_) (fun hc48=> ?_))
 ·skip
  obtain ⟨htd,htv,hte⟩:=vk hb hlb hc48 ht
  refine aU fun K16 hK16=> ?_
  refine ay ?_
  refine bq (α:=Nat) (fun e=> a+1≤e∧e≤s.length∧lF gG s e=lF gG s (a+1)) 101 [(0,_),(1,_),(4,_)] [((4,0),_)] (fun e=> [(6, .v (.int .i64 (e:Int)))]) (fun e=> []) [] [] (fun e=> s.length - e) (a+1) ?_ (by
   refine Le.mkJ [] [] rfl ?_ ?_ trivial trivial ?_
   ·exact ⟨(iV rfl),(iV rfl),(iP rfl),(cm ag),trivial⟩
   ·exact ⟨(ci rfl rfl rfl),trivial⟩
   kernel_rfl) ?_
  ·exact ⟨Nat.le_refl _,by omega,rfl⟩
  intro e he
  obtain ⟨he1,he2,het⟩:=he
  refine aU fun K17 hK17=> ?_
  refine aU fun K18 hK18=> ?_
  refine an (aX rfl (ej rfl (ai (ik _ Tryz.underlying9 rfl) (ai (bl _ _ rfl rfl rfl) (cL rfl (dw (fun hg53=> ?_) (fun hg53=> ?_)))))))
  ·skip
   obtain ⟨u,hu⟩:=kL (s:=s) (a:=e) ab
   refine ax rfl rfl (aI _ xh) (ax rfl rfl (aI _ em) (ax rfl rfl (lG _ _ Tryz.underlying9 rfl rfl (by assumption)) ?_))
   refine ax rfl rfl (aH aa al (mU u) rfl rfl) ?_
   refine ai (aE _ _ _ rfl bR) (aJ (hK18 _ ?_))
   clear hK18;try clear K18
   refine aR rfl (fun hc58=> ?_) (fun hc58=> ?_)
   ·skip
    have hnx:lF gG s (e+1)=lF gG s (a+1):=(tN hu hc58).symm.trans het
    refine bs (hK17 _ ?_)
    clear hK17;try clear K17
    refine ay (an (aX rfl (ai (aZ _ _ rfl rfl (bE ab)) ?_)))
    refine be rfl (aJ (⟨e+1,?_,?_,?_⟩))
    ·exact ⟨by omega,by omega,hnx⟩
    ·skip
     refine Le.mkJ [] [] rfl ?_ ?_ trivial trivial ?_
     ·exact ⟨(iV rfl),(iV rfl),(iP rfl),(cm ag),trivial⟩
     ·exact ⟨(ci rfl rfl rfl),trivial⟩
     kernel_rfl
    omega
   have hfin:e=lF gG s (a+1):=(CV hu hc58).symm.trans het
   refine bA (id (hK16 _ ?_))
   clear hK16;try clear K16
   refine am (ej rfl (aX rfl (aX rfl (ai (lP _ _ _ Tryz.underlying9 rfl _ _ (.lit rfl rfl) (.lit rfl rfl) ab ab rfl) ?_))))
   refine ai (aH aa al (pQ ((s.drop a).take (e - a)) (by simp;omega) (by rw [hfin];exact htd) (by rw [hfin];exact htv)) rfl rfl) ?_
   refine be rfl (aj (aq (aq ?_)))
   refine aM (σ':=aD 101 [(0,_),(1,_),(4,_),(6,_),(7,_)] [((4,0),_)] [] []) kp ?_
   refine an (aX rfl (ai (bl _ _ rfl rfl rfl) (aj (aW rfl (decide_eq_false ab) ?_))))
   refine aS (am (aX rfl (ej rfl (aX rfl (aX rfl (ai (lP _ _ _ Tryz.underlying9 rfl _ _ (.lit rfl rfl) (.lit rfl rfl) ab ab rfl) ?_))))))
   refine aX rfl (ai (aL _ aa rfl (by exact kG)) ?_)
   refine bF rfl rfl rfl rfl rfl rfl (be rfl (aj (aG ?_)))
   subst hte;subst hfin
   exact jR (.inr rfl) rfl (.cellA aa rfl rfl rfl) (.tmp kQ) (Le.out [] [] (.tup rfl lz) rfl rfl rfl trivial trivial)
  have hfin:e=lF gG s (a+1):=(xi ab).symm.trans het
  refine aP rfl rfl ah ?_
  refine aP rfl rfl ah ?_
  refine aP rfl rfl ah ?_
  refine aP rfl rfl ah ?_
  refine ai (aE _ _ _ rfl bR) (aJ (hK18 _ ?_))
  clear hK18;try clear K18
  refine aW rfl rfl (bA (id (hK16 _ ?_)))
  clear hK16;try clear K16
  refine am (ej rfl (aX rfl (aX rfl (ai (lP _ _ _ Tryz.underlying9 rfl _ _ (.lit rfl rfl) (.lit rfl rfl) ab ab rfl) ?_))))
  refine ai (aH aa al (pQ ((s.drop a).take (e - a)) (by simp;omega) (by rw [hfin];exact htd) (by rw [hfin];exact htv)) rfl rfl) ?_
  refine be rfl (aj (aq (aq ?_)))
  refine aM (σ':=aD 101 [(0,_),(1,_),(4,_),(6,_),(7,_)] [((4,0),_)] [] []) kp ?_
  refine an (aX rfl (ai (bl _ _ rfl rfl rfl) (aj (aW rfl (decide_eq_false ab) ?_))))
  refine aS (am (aX rfl (ej rfl (aX rfl (aX rfl (ai (lP _ _ _ Tryz.underlying9 rfl _ _ (.lit rfl rfl) (.lit rfl rfl) ab ab rfl) ?_))))))
  refine aX rfl (ai (aL _ aa rfl (by exact kG)) ?_)
  refine bF rfl rfl rfl rfl rfl rfl (be rfl (aj (aG ?_)))
  subst hte;subst hfin
  exact jR (.inr rfl) rfl (.cellA aa rfl rfl rfl) (.tmp kQ) (Le.out [] [] (.tup rfl lz) rfl rfl rfl trivial trivial)
 have hsy:=tZ hb hlb hc48 ht
 refine aS (am (ej rfl (aX rfl (aX rfl (ai (aZ _ _ rfl rfl (bE ab)) ?_)))))
 refine ej rfl (ai (ik _ Tryz.underlying9 rfl) (ai (Bg _ _ rfl rfl rfl) (ai (lP _ _ _ Tryz.underlying9 rfl a (min (a+2) s.length) (.lit rfl rfl) (.lit rfl ab) ab ab (xN ha)) ?_)))
 refine oT rfl (aj (aq (aq ?_)))
 refine aM (σ':=aD 101 [(0,_),(1,_),(4,_),(6,_),(8,_)] [((4,0),_)] [] []) kp ?_
 refine an (ai (bg _ _ aa rfl ag (by (simp <;> rfl)) ah rfl) ?_)
 refine ej rfl (ai (aH aa al (qE El 6 rfl ab ((s.drop a).take 2)) rfl rfl) ?_)
 refine aj (aR rfl (fun hc86=> ?_) (fun hc86=> ?_))
 ·skip
  have hte:t=⟨3,a,(s.drop a).take 2,0⟩:=hsy.elim (·.2) fun h=> absurd hc86 h.1
  refine am (aX rfl (ej rfl (ai (aL _ aa rfl (by exact kG)) ?_)))
  refine bF rfl rfl rfl rfl rfl rfl (be rfl (aj (aG ?_)))
  subst hte
  exact jR (.inr rfl) rfl (.cellA aa rfl rfl rfl) (.tmp kQ) (Le.out [] [] (.tup rfl lz) rfl rfl rfl trivial trivial)
 obtain ⟨_,hs1,hte⟩:=hsy.resolve_left fun h=> hc86 h.1
 refine aS (am (ej rfl (aX rfl (aX rfl (ai (lP _ _ _ Tryz.underlying9 rfl a (a+1) (.lit rfl rfl) (.lit rfl rfl) ab ab (by rw [Nat.add_sub_cancel_left])) ?_)))))
 refine oT rfl (aj (aq (am (ai (bg _ _ aa rfl ag (by (simp <;> rfl)) ah rfl) ?_))))
 refine ej rfl (ai (aH aa al (qE Hw 16 rfl ab ((s.drop a).take 1)) rfl rfl) ?_)
 refine aj (bK rfl (decide_eq_true hs1) ?_)
 refine am (aX rfl (ej rfl (ai (aL _ aa rfl (by exact kG)) ?_)))
 refine bF rfl rfl rfl rfl rfl rfl (be rfl (aj (aG ?_)))
 subst hte
 exact jR (.inr rfl) rfl (.cellA aa rfl rfl rfl) (.tmp kQ) (Le.out [] [] (.tup rfl lz) rfl rfl rfl trivial trivial)
theorem mQ {f:Nat} {s:Tx} {a:Nat} {l:List Tk} (h:nM (f+1) s a=some l):(s.length≤a∧l=[⟨0,s.length,[],0⟩])∨(a < s.length∧ ∃ t m,rl (s.drop a) a=some t∧nM f s (lh s (a+t.t.length) false)=some m∧l=t::m):=by
 unfold nM at h
 split at h
 ·exact .inl ⟨by assumption,(Option.some.inj h).symm⟩
 split at h
 ·cases h
 split at h
 ·cases h
 rename_i t ht _ m hm
 exact .inr ⟨by omega,t,m,ht,hm,(Option.some.inj h).symm⟩
theorem uf {s:Tx} {a:Nat} {t:Tk} (ha:a < s.length) (h:rl (s.drop a) a=some t):0 < t.t.length∧a+t.t.length≤s.length:=by
 obtain ⟨b,hb⟩:=kL ha
 have key: ∀ k,0 < k→0 < ((s.drop a).take k).length∧a+((s.drop a).take k).length≤s.length:=fun k hk=> by rw [List.length_take,List.length_drop];omega
 cases h1:nn b with
 | true=> obtain ⟨_,rfl⟩:=sj hb h1 h;exact key _ (by have:=tv (p:=va) (s:=s) (a:=a+1) ab;omega)
 | false=>
  cases h2:gG b with
  | true=> obtain ⟨_,_,rfl⟩:=vk hb h1 h2 h;exact key _ (by have:=tv (p:=gG) (s:=s) (a:=a+1) ab;omega)
  | false=>
   rcases tZ hb h1 h2 h with ⟨_,rfl⟩ | ⟨_,_,rfl⟩
   ·exact key _ ab
   exact key _ ab
def Hu (s:Tx) (l:List Tk) (z:Nat×List Tk):Prop:=z.1≤s.length∧z.2.length≤z.1∧ ∃ f m,nM f s z.1=some m∧l=z.2++m
theorem uY (s:Tx) (h1:s.length≤100000) (l:List Tk) (hl:Gm s=some l):
  Spec Tryz.prog 159 (ba [.v (bt s)] []) (aO (.tup [.sl l.length (tB l), .v (.int .i64 0), .v (.int .i64 0)]) []):=by
 have hs0:=wv (s:=s) (a:=0) (Nat.zero_le _) false
 refine Spec.ofN Tryz.func159 rfl Tryz.ntmps159 rfl ?_
 refine am (ai (bp _ fy) (be rfl (be rfl (aj (am (ai (ta (5,0) _ 225 4 rfl rfl) ?_))))))
 refine aj (am (ej rfl (ai (aH aa al (rG s 0 h1 (Nat.zero_le _)) rfl rfl) ?_)))
 refine be rfl (aj (aU fun K4 hK4=> ?_))
 refine ay ?_
 refine bq (α:=Nat×List Tk) (fun z=> Hu s l z) 42 [(0,_)] [] (fun z=> [(6, .v (.int .i64 (z.1:Int))),(5, .ref (5,0) 0 z.2.length)]) (fun z=> [((5,0), .row 225 4 (tB z.2))]) [] [] (fun z=> s.length - z.1) (lh s 0 false,[]) ?_ (by
  refine Le.mkJ [] [] rfl ?_ ?_ trivial trivial ?_
  ·exact ⟨(iV rfl),(cm ag),(cI rfl ag),trivial⟩
  ·exact ⟨(eX rfl rfl rfl ag),trivial⟩
  kernel_rfl) ?_
 ·exact ⟨hs0.2,Nat.zero_le _,s.length+1,l,by rw [← hl];unfold Gm lh;rw [List.drop_zero,Nat.zero_add],rfl⟩
 intro z hz
 obtain ⟨hz1,hz2,f,m,hf,hlm⟩:=hz
 obtain ⟨f,rfl⟩: ∃ g,f=g+1:=by cases f with | zero=> (simp [nM] at hf) | succ g=> exact ⟨g,rfl⟩
 refine aU fun K5 hK5=> ?_
 refine am (aX rfl (ej rfl (ai (ik _ Tryz.underlying9 rfl) (ai (bl _ _ rfl rfl rfl) (aj (aR rfl (fun hc14=> ?_) (fun hc14=> ?_)))))))
 ·skip
  obtain ⟨_,t,m',ht,hm',hm⟩:=(mQ hf).resolve_left fun h=> by omega
  obtain ⟨htl,hta⟩:=uf ab ht
  have hsk:=wv (s:=s) (a:=z.1+t.t.length) hta false
  have hlen:(z.2++[t]).length=z.2.length+1:=by simp
  refine bs (hK5 _ ?_)
  clear hK5;try clear K5
  refine ay (am (ej rfl (aX rfl (ai (aH aa al (wc s z.1 h1 ab t ht) rfl rfl) ?_))))
  refine ai (aI _ tU) (ai (co _ rfl pI) (ai (co _ rfl ei) (ai (aC (7,0) aa rfl rfl) (bF rfl rfl rfl rfl rfl rfl (be rfl (aj (aq (am (aX rfl (ai (bX (r:=false) _ _ rfl rfl rfl) ?_))))))))))
  refine aj (aW rfl rfl (aS (aq ?_)))
  refine aM (σ':=aD 42 [(0,_),(5,_),(6,_),(7,_)] [((5,0),_),((7,0),_)] [] []) kp ?_
  refine an (gw rfl (ai (az _ aa rfl rfl rfl rfl) (ai (bg _ _ aa rfl ag (by (simp <;> rfl)) ah rfl) ?_)))
  refine ai (dq (28,0) _ _ aa rfl rfl (bu _).symm (.sl rfl) ab rfl (vf _ _) hlen.symm) ?_
  refine fh rfl (aj (an (ej rfl (aX rfl (bb rfl rfl rfl (ai (aF _ aa rfl rfl fB) (ai (ik _ Tryz.underlying9 rfl) (ai (aZ _ _ rfl rfl (bE ab)) ?_))))))))
  refine ai (aH aa al (rG s (z.1+t.t.length) h1 hta) rfl rfl) ?_
  refine be rfl (aJ (⟨(lh s (z.1+t.t.length) false,z.2++[t]),?_,?_,?_⟩))
  ·exact ⟨hsk.2,by simp only;omega,f,m',hm',by rw [hlm,hm];simp⟩
  ·skip
   refine Le.mkJ [((5,0),(28,0))] [] rfl ?_ ?_ trivial trivial ?_
   ·exact ⟨(by repeat' (exact Lv.v)),(cm ag),(cI rfl ag),trivial⟩
   ·exact ⟨(eX rfl rfl rfl ag),trivial⟩
   kernel_rfl
  simp only;omega
 obtain ⟨_,hm⟩:=(mQ hf).resolve_right fun h=> by omega
 have hlen:(z.2++[(⟨0,s.length,[],0⟩:Tk)]).length=z.2.length+1:=by simp
 rw [hm] at hlm;subst hlm
 refine bA (id (hK4 _ ?_))
 clear hK4;try clear K4
 refine am (gw rfl (ej rfl (ai (ik _ Tryz.underlying9 rfl) (ai (aL _ aa rfl (by exact kG)) ?_))))
 refine ai (bg _ _ aa rfl ag (by (simp <;> rfl)) ah rfl) ?_
 refine ai (dq (41,0) _ _ aa rfl rfl (bu _).symm (.sl rfl) ab rfl (vf _ ⟨0,s.length,[],0⟩) hlen.symm) ?_
 exact fh rfl (be rfl (be rfl (aj (aG (vK (.inr rfl) rfl (.tmp dR) (.tmp kQ) (.tmp kQ) (Le.out [] [(41,0)] (.tup rfl (au (fg rfl rfl (bu _).symm rfl) lz)) rfl rfl rfl tr trivial))))))
end Go.Proofs.YtmjnackchaahbaaGreat
