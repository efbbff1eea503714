/- Part 8 of the texts that the walk leans on: the machine, the walks, the plain laws. -/
import Derived.Test.YtmjnackchaahbaaGreatNrZ7
set_option linter.unusedSimpArgs false
set_option linter.unusedVariables false
namespace Go.Proofs.YtmjnackchaahbaaGreat
open Go.RowKit

def fx:Ex→Nat
 | .int _=> 1 | .bool _=> 2 | .var _=> 1 | .name _=> 1
 | .draw e=> if fx e=1 then 1 else 0
 | .neg e=> if fx e=1 then 1 else 0
 | .not e=> if fx e=2 then 2 else 0
 | .bin o a b=> if fx a=1∧fx b=1 then (match o with | .add=> 1 | .sub=> 1 | .mul=> 1 | .div=> 1 | _=> 2) else 0
 | .and a b=> if fx a=2∧fx b=2 then 2 else 0
 | .or a b=> if fx a=2∧fx b=2 then 2 else 0
def oV (e:Ex):Bool:=Nat.beq (fx e) 1
mutual
def yZ:Sm→Bool
 | .assign _ e=> oV e
 | .send t _ a b=> oV t && oV a && oV b
 | .timer _=> true | .cancel _=> true | .sync=> true | .stop=> true
 | .reply a b=> oV a && oV b
 | .fail e=> oV e
 | .loop c b=> Nat.beq (fx c) 2 && qF b
 | .ite c a b=> Nat.beq (fx c) 2 && qF a && qF b
def qF:Bk→Bool
 | .nil=> true
 | .cons s b=> yZ s && qF b
end
def fm (nv:Nat):Ex→Bool
 | .int n=> decide (-2147483647≤n) && decide (n≤2147483647)
 | .bool _=> true
 | .var i=> decide (i < nv)
 | .name k=> decide (k < 9)
 | .draw e=> fm nv e | .neg e=> fm nv e | .not e=> fm nv e
 | .bin _ a b=> fm nv a && fm nv b
 | .and a b=> fm nv a && fm nv b
 | .or a b=> fm nv a && fm nv b
mutual
def mx (nv:Nat):Sm→Bool
 | .assign i e=> decide (i < nv) && fm nv e
 | .send t k a b=> decide (k < 30) && fm nv t && fm nv a && fm nv b
 | .timer k=> decide (k < 8) | .cancel k=> decide (k < 8) | .sync=> true | .stop=> true
 | .reply a b=> fm nv a && fm nv b
 | .fail e=> fm nv e
 | .loop c b=> fm nv c && qp nv b
 | .ite c a b=> fm nv c && qp nv a && qp nv b
def qp (nv:Nat):Bk→Bool
 | .nil=> true
 | .cons s b=> mx nv s && qp nv b
end
theorem dD (nv:Nat): ∀ e,fm nv e=true→hY nv e
 | .int n,h=> by simpa [fm,hY] using h
 | .bool _,_=> trivial
 | .var i,h=> by simpa [fm,hY] using h
 | .name k,h=> by simpa [fm,hY] using h
 | .draw e,h=> dD nv e h
 | .neg e,h=> dD nv e h
 | .not e,h=> dD nv e h
 | .bin _ a b,h=> by simp only [fm,Bool.and_eq_true] at h;exact ⟨dD nv a h.1,dD nv b h.2⟩
 | .and a b,h=> by simp only [fm,Bool.and_eq_true] at h;exact ⟨dD nv a h.1,dD nv b h.2⟩
 | .or a b,h=> by simp only [fm,Bool.and_eq_true] at h;exact ⟨dD nv a h.1,dD nv b h.2⟩
mutual
theorem Bc (nv:Nat): ∀ s,mx nv s=true→gI nv s
 | .assign i e,h=> by simp only [mx,Bool.and_eq_true,decide_eq_true_eq] at h;exact ⟨h.1,dD nv e h.2⟩
 | .send t k a b,h=> by simp only [mx,Bool.and_eq_true,decide_eq_true_eq] at h;exact ⟨h.1.1.1,dD nv t h.1.1.2,dD nv a h.1.2,dD nv b h.2⟩
 | .timer k,h=> by simpa [mx,gI] using h
 | .cancel k,h=> by simpa [mx,gI] using h
 | .sync,_=> by simp [gI]
 | .stop,_=> by simp [gI]
 | .reply a b,h=> by simp only [mx,Bool.and_eq_true] at h;exact ⟨dD nv a h.1,dD nv b h.2⟩
 | .fail e,h=> by simp only [mx] at h;exact dD nv e h
 | .loop c b,h=> by simp only [mx,Bool.and_eq_true] at h;exact ⟨dD nv c h.1,lr nv b h.2⟩
 | .ite c a b,h=> by simp only [mx,Bool.and_eq_true] at h;exact ⟨dD nv c h.1.1,lr nv a h.1.2,lr nv b h.2⟩
theorem lr (nv:Nat): ∀ b,qp nv b=true→lj nv b
 | .nil,_=> by simp [lj]
 | .cons s b,h=> by simp only [qp,Bool.and_eq_true] at h;exact ⟨Bc nv s h.1,lr nv b h.2⟩
end
structure vw (l:List (Nat×Bk)) (nv:Nat):Prop where
 ok: ∀ p∈l,lj nv p.2
 wl: ∀ p∈l,qF p.2=true
 n:(bV l 0).length≤400
 h: ∀ p∈l,p.1 < 40
 nd:(l.map (·.1)).Nodup
 d: ∀ k∈mi l,k≤8
def srcB (l:List (Nat×Bk)) (nv:Nat):Bool:=l.all (fun p=> qp nv p.2 && qF p.2 && decide (p.1 < 40)) && decide ((bV l 0).length≤400) && decide (l.map (·.1)).Nodup && (mi l).all fun k=> decide (k≤8)
theorem gm {l:List (Nat×Bk)} {nv:Nat} (h:srcB l nv=true):vw l nv:=by
 simp only [srcB,Bool.and_eq_true,List.all_eq_true,decide_eq_true_eq] at h
 exact ⟨fun p hp=> lr nv _ (h.1.1.1 p hp).1.1,fun p hp=> (h.1.1.1 p hp).1.2,h.1.1.2,fun p hp=> (h.1.1.1 p hp).2,h.1.2,h.2⟩
theorem srcOk0:vw ons0 (BL++Bb).length:=gm ae
theorem srcOk1:vw ons1 (Br++By).length:=gm ae
theorem srcOk2:vw ons2 (Ai++Af).length:=gm ae
theorem srcOk3:vw ons3 (BK++BT).length:=gm ae
theorem srcOk4:vw ons4 (CL++Dg).length:=gm ae
theorem srcOk5:vw ons5 (BM++Bm).length:=gm ae
theorem srcOk6:vw ons6 (Ct++Bd).length:=gm ae
theorem srcOk7:vw ons7 (zO++CZ).length:=gm ae
theorem srcOk8:vw ons8 (Bp++Bf).length:=gm ae
theorem srcOk9:vw ons9 (AR++BE).length:=gm ae
theorem srcOk10:vw ons10 (tX++uG).length:=gm ae
theorem srcOk11:vw ons11 (uP++uC).length:=gm ae
def wS (l:List (Nat×Bk)) (i:Nat):Nat:=(mi l).getD i 0
theorem sL (l:List (Nat×Bk)):Fit (wS l) 0 (mi l):=fun k d h=> by
 unfold wS
 rw [Nat.zero_add,List.getD_eq_getElem?_getD,h];rfl

abbrev DS:=List Int×Bool×Bool
def jB (n:Nat) (d:Int) (s:DS) (j:Nat):DS:=
 if n≤j then s else if s.1.getD j (-1) < 0 then (s.1.set j d,s.2.1,true) else if s.1.getD j (-1)≠d then (s.1,false,s.2.2) else s
def da (C:List eR) (i:Nat):eR:=C.getD i { op:= .stop }
def Er (C:List eR) (i:Nat) (s:DS):Int:=max (s.1.getD i (-1) - (da C i).op.pops) 0+(da C i).op.puts
def lJ (C:List eR) (s:DS) (i:Nat):DS:=
 if s.1.getD i (-1) < 0 then s
 else (dR i (da C i)).foldl (jB C.length (Er C i s)) (s.1,if s.1.getD i (-1) - (da C i).op.pops < 0 then false else s.2.1,s.2.2)
def dz (C:List eR) (s:List Int×Bool) (k:Nat):DS:=(List.range k).foldl (lJ C) (s.1,s.2,false)
theorem pW (C:List eR) (s:List Int×Bool) (k:Nat):dz C s (k+1)=lJ C (dz C s k) k:=by simp [dz,List.range_succ,List.foldl_append]
def jJ (C:List eR):Nat→List Int×Bool→List Int×Bool
 | 0,s=> s
 | f+1,s=> if (dz C s C.length).2.2=true then jJ C f ((dz C s C.length).1,(dz C s C.length).2.1) else ((dz C s C.length).1,(dz C s C.length).2.1)
def neg (l:List Int):Nat:=l.countP fun x=> decide (x < 0)
theorem Fv {l:List Int} {j:Nat} {d:Int} (hj:j < l.length) (h:l.getD j (-1) < 0) (hd:0≤d):neg (l.set j d)+1=neg l:=by
 unfold neg
 have e:l=l.take j++l[j]::l.drop (j+1):=by rw [List.getElem_cons_drop hj,List.take_append_drop]
 have h':l[j] < 0:=by rwa [List.getD_eq_getElem?_getD,List.getElem?_eq_getElem hj] at h
 rw [List.set_eq_take_append_cons_drop,if_pos hj]
 conv=> rhs;rw [e]
 simp only [List.countP_append,List.countP_cons]
 rw [decide_eq_true h',decide_eq_false (show ¬ d < 0 by omega)]
 simp
 omega
structure DI (D:Nat→Nat) (n:Nat) (s:DS):Prop where
 len:s.1.length=n
 val: ∀ i,i < n→s.1.getD i (-1)= -1∨s.1.getD i (-1)=(D i:Int)
 ok:s.2.1=true
theorem ku {l:List Int} {j i:Nat} {d:Int}:(l.set j d).getD i (-1)=if i=j∧j < l.length then d else l.getD i (-1):=by
 simp only [List.getD_eq_getElem?_getD,List.getElem?_set]
 by_cases h:j=i
 ·subst h
  by_cases h2:j < l.length
  ·simp [h2]
  simp [h2]
 simp [h,Ne.symm h]
theorem Fl {D:Nat→Nat} {n:Nat} {d:Int} {s:DS} {j:Nat} (h:DI D n s) (hd:d=(D j:Int)):DI D n (jB n d s j)∧neg (jB n d s j).1≤neg s.1∧((jB n d s j).2.2=true→s.2.2=true∨neg (jB n d s j).1 < neg s.1):=by
 unfold jB
 split
 ·exact ⟨h,Nat.le_refl _,fun e=> .inl e⟩
 rename_i hj
 split
 ·rename_i hn
  have:=Fv (l:=s.1) (j:=j) (d:=d) (by rw [h.len];omega) hn ab
  refine ⟨⟨by rw [List.length_set];exact h.len,fun i hi=> ?_,h.ok⟩,by simp only;omega,fun _=> .inr (by simp only;omega)⟩
  simp only
  rw [ku]
  split
  ·rename_i hc;rw [hc.1];exact .inr hd
  exact h.val i hi
 rename_i hn
 have hv:=h.val j ab
 have:s.1.getD j (-1)=d:=by rw [hd];rcases hv with hv | hv <;> omega
 rw [if_neg (fun hc=> hc this)]
 exact ⟨h,Nat.le_refl _,fun e=> .inl e⟩
theorem nJ {D:Nat→Nat} {n:Nat} {d:Int}: ∀ (l:List Nat) {s:DS},DI D n s→(∀ j∈l,d=(D j:Int))→DI D n (l.foldl (jB n d) s)∧neg (l.foldl (jB n d) s).1≤neg s.1∧((l.foldl (jB n d) s).2.2=true→s.2.2=true∨neg (l.foldl (jB n d) s).1 < neg s.1)
 | [],s,h,_=> ⟨h,Nat.le_refl _,fun e=> .inl e⟩
 | j::l,s,h,hd=> by
  obtain ⟨a1,a2,a3⟩:=Fl h (hd j (by simp))
  obtain ⟨b1,b2,b3⟩:=nJ l a1 fun j hj=> hd j (by simp [hj])
  simp only [List.foldl_cons]
  refine ⟨b1,by omega,fun e=> ?_⟩
  rcases b3 e with e | e
  ·rcases a3 e with e | e
   ·exact .inl e
   exact .inr ab
  exact .inr ab
section
variable {D:Nat→Nat} {nv:Nat} {C:List eR} (hC:Good D nv 0 (C.length - 1) 0 C)
include hC
theorem Dt {s:DS} {i:Nat} (hi:i < C.length) (h:DI D C.length s):DI D C.length (lJ C s i)∧neg (lJ C s i).1≤neg s.1∧((lJ C s i).2.2=true→s.2.2=true∨neg (lJ C s i).1 < neg s.1):=by
 unfold lJ
 split
 ·exact ⟨h,Nat.le_refl _,fun e=> .inl e⟩
 rename_i hn
 have hx:C[i]? =some (da C i):=by unfold da;rw [List.getD_eq_getElem?_getD,List.getElem?_eq_getElem hi];rfl
 obtain ⟨_,g2,g3⟩:=hC i _ hx
 rw [Nat.zero_add] at g2 g3
 have hv:s.1.getD i (-1)=(D i:Int):=by rcases h.val i hi with hv | hv <;> omega
 have hdo:Er C i s=((D i - (da C i).op.pops+(da C i).op.puts:Nat):Int):=by unfold Er;rw [hv];omega
 rw [if_neg (by rw [hv];omega)]
 exact nJ _ ⟨h.len,h.val,h.ok⟩ fun j hj=> by rw [hdo,(g3 j hj).2.2]
theorem lB {s:List Int×Bool} (h:DI D C.length (s.1,s.2,false)): ∀ k,k≤C.length→DI D C.length (dz C s k)∧neg (dz C s k).1≤neg s.1∧((dz C s k).2.2=true→neg (dz C s k).1 < neg s.1)
 | 0,_=> ⟨h,Nat.le_refl _,fun e=> by simp [dz] at e⟩
 | k+1,hk=> by
  obtain ⟨a1,a2,a3⟩:=lB h k ab
  obtain ⟨b1,b2,b3⟩:=Dt hC ab a1 (i:=k)
  rw [pW]
  refine ⟨b1,by omega,fun e=> ?_⟩
  rcases b3 e with e | e
  ·have:=a3 e;omega
  omega
theorem vi: ∀ f (s:List Int×Bool),DI D C.length (s.1,s.2,false)→DI D C.length ((jJ C f s).1,(jJ C f s).2,false)
 | 0,s,h=> h
 | f+1,s,h=> by
  obtain ⟨a1,_,_⟩:=lB hC h C.length (Nat.le_refl _)
  unfold jJ
  split
  ·exact vi f _ ⟨a1.len,a1.val,a1.ok⟩
  exact ⟨a1.len,a1.val,a1.ok⟩
end
theorem wL {C:List eR} {f:Nat} {s:List Int×Bool} (h:(dz C s C.length).2.2=true):jJ C (f+1) s=jJ C f ((dz C s C.length).1,(dz C s C.length).2.1):=by rw [jJ,if_pos h]
theorem wp {C:List eR} {f:Nat} {s:List Int×Bool} (h:(dz C s C.length).2.2=false):jJ C (f+1) s=((dz C s C.length).1,(dz C s C.length).2.1):=by rw [jJ,if_neg (by simp [h])]
def jv (C:List eR) (e:Int):List Int×Bool:=if e < 0∨(C.length:Int)≤e then (List.replicate C.length (-1),true) else jJ C (C.length+1) ((List.replicate C.length (-1)).set e.toNat 0,true)
theorem qD {D:Nat→Nat} {nv:Nat} {C:List eR} (hC:Good D nv 0 (C.length - 1) 0 C) {e:Int} (he:0≤e→e < C.length→D e.toNat=0):DI D C.length ((jv C e).1,(jv C e).2,false):=by
 have hr: ∀ i,(List.replicate C.length (-1:Int)).getD i (-1)= -1:=fun i=> by rw [List.getD_eq_getElem?_getD,List.getElem?_replicate];split <;> rfl
 unfold jv
 split
 ·exact ⟨by simp,fun i _=> .inl (hr i),rfl⟩
 refine vi hC _ _ ⟨by simp,fun i hi=> ?_,rfl⟩
 simp only
 rw [ku]
 split
 ·rename_i hc
  right
  rw [hc.1,he ab ab];rfl
 exact .inl (hr i)
def la (C:List eR) (out:List Int) (k:Nat):Int:=(List.range k).foldl (fun m i=> if 0≤out.getD i (-1) then max (max m (out.getD i (-1))) (out.getD i (-1) - (da C i).op.pops+(da C i).op.puts) else m) 0
theorem qg (C:List eR) (out:List Int) (k:Nat):la C out (k+1)=if 0≤out.getD k (-1) then max (max (la C out k) (out.getD k (-1))) (out.getD k (-1) - (da C k).op.pops+(da C k).op.puts) else la C out k:=by simp [la,List.range_succ,List.foldl_append]
theorem FH (o:Opc):o.puts≤1:=by cases o <;> decide
theorem mW {C:List eR} {out:List Int} {D:Nat→Nat} {n:Nat} {ok ch:Bool} (h:DI D n (out,ok,ch)) {B:Nat} (hB: ∀ i,i < n→D i≤B): ∀ k,k≤n→0≤la C out k∧la C out k≤B+1
 | 0,_=> by simp [la];omega
 | k+1,hk=> by
  obtain ⟨h1,h2⟩:=mW (C:=C) h hB k ab
  have h3:=hB k ab
  have h4:out.getD k (-1)= -1∨out.getD k (-1)=(D k:Int):=h.val k ab
  have h5:=FH (da C k).op
  have h6:=qg C out k
  rw [h6]
  rcases h4 with h4 | h4 <;> rw [h4] <;> split <;> omega
def nn (l:List (Nat×Nat)):List Int:=l.foldl (fun m p=> m.set p.1 (p.2:Int)) (List.replicate 40 (-1))
theorem Ag (l:List (Nat×Nat)):(nn l).length=40:=by
 unfold nn
 have: ∀ (l:List (Nat×Nat)) (m:List Int),m.length=40→(l.foldl (fun m p=> m.set p.1 (p.2:Int)) m).length=40:=by
  intro l
  induction l with
  | nil=> exact fun m h=> h
  | cons p l ih=> exact fun m h=> ih _ (by rw [List.length_set];exact h)
 exact this l _ (by simp)
theorem BH: ∀ (l:List (Nat×Nat)) (h:Nat),(nn l).getD h (-1)= -1∨ ∃ e,(h,e)∈l∧(nn l).getD h (-1)=(e:Int):=by
 unfold nn
 have key: ∀ (l:List (Nat×Nat)) (m:List Int) (h:Nat),(l.foldl (fun m p=> m.set p.1 (p.2:Int)) m).getD h (-1)=m.getD h (-1)∨ ∃ e,(h,e)∈l∧(l.foldl (fun m p=> m.set p.1 (p.2:Int)) m).getD h (-1)=(e:Int):=by
  intro l
  induction l with
  | nil=> exact fun m h=> .inl rfl
  | cons p l ih=>
   intro m h
   simp only [List.foldl_cons]
   rcases ih (m.set p.1 (p.2:Int)) h with e | ⟨e,h1,h2⟩
   ·rw [e,ku]
    split
    ·rename_i hc
     exact .inr ⟨p.2,by rw [hc.1];exact List.mem_cons_self,rfl⟩
    exact .inl rfl
   exact .inr ⟨e,List.mem_cons_of_mem _ h1,h2⟩
 intro l h
 rcases key l (List.replicate 40 (-1)) h with e | e
 ·left
  rw [e,List.getD_eq_getElem?_getD,List.getElem?_replicate]
  split <;> rfl
 exact .inr e
def lc (l:List (Nat×Bk)):Bool:=decide ((bV l 0).length≤400) && (List.range 40).all fun h=> decide (la (bV l 0) (jv (bV l 0) ((nn (jY l 0)).getD h (-1))).1 (bV l 0).length≤16)
theorem ww (l:List (Nat×Bk)) (h:Nat):(nn (jY l 0)).getD h (-1)= -1∨ ∃ e:Nat,(h,e)∈jY l 0∧(nn (jY l 0)).getD h (-1)=(e:Int)∧e < (bV l 0).length∧wS l e=0:=by
 rcases BH (jY l 0) h with e | ⟨e,h1,h2⟩
 ·exact .inl e
 obtain ⟨_,h4,h5⟩:=xr (sL l) h1
 exact .inr ⟨e,h1,h2,by omega,h5⟩
theorem zB {l:List (Nat×Bk)} {nv:Nat} (hs:vw l nv):lc l=true:=by
 unfold lc
 rw [Bool.and_eq_true,decide_eq_true_eq,List.all_eq_true]
 refine ⟨hs.n,fun h _=> ?_⟩
 rw [decide_eq_true_eq]
 have hg:=CJ (wS l) nv l 0 0 ((bV l 0).length - 1) hs.ok (sL l) (Nat.le_refl _) ab
 have hd:=qD hg (e:=(nn (jY l 0)).getD h (-1)) (fun h1 h2=> by
  rcases ww l h with e | ⟨e,_,e2,_,e4⟩
  ·omega
  rw [e2];exact e4)
 have hB: ∀ i,i < (bV l 0).length→wS l i≤8:=fun i hi=> by
  unfold wS
  rw [← qy l 0] at hi
  rw [List.getD_eq_getElem?_getD,List.getElem?_eq_getElem hi]
  exact hs.d _ (List.getElem_mem hi)
 have:=(mW (C:=bV l 0) hd hB _ (Nat.le_refl _)).2
 omega

theorem iL {α β:Type} (f:α→List β) (c:Nat) (hf: ∀ a,(f a).length=c): ∀ l:List α,(l.flatMap f).length=l.length*c
 | []=> by simp
 | a::l=> by rw [List.flatMap_cons,List.length_append,hf,iL f c hf l,List.length_cons,Nat.succ_mul];omega
theorem pA {α β:Type} (f:α→List β) (c:Nat) (hf: ∀ a,(f a).length=c): ∀ (l:List α) (k:Nat),(l.flatMap f).drop (k*c)=(l.drop k).flatMap f
 | l,0=> by simp
 | [],k+1=> by simp
 | a::l,k+1=> by
  rw [List.flatMap_cons,List.drop_succ_cons,← pA f c hf l k,List.drop_append,List.drop_eq_nil_of_le (by rw [hf,Nat.succ_mul];omega),List.nil_append,hf]
  congr 1;rw [Nat.succ_mul];omega
theorem mt {α β:Type} (f:α→List β) (c:Nat) (hf: ∀ a,(f a).length=c) (l:List α) (k:Nat) (h:k < l.length):((l.flatMap f).drop (k*c)).take c=f l[k]:=by
 rw [pA f c hf,List.drop_eq_getElem_cons h,List.flatMap_cons,List.take_append_of_le_length (by rw [hf];exact Nat.le_refl _),List.take_of_length_le (by rw [hf];exact Nat.le_refl _)]
theorem mO {α β:Type} (f:α→List β) (c:Nat) (hf: ∀ a,(f a).length=c) (l:List α) (k j:Nat) (h:k < l.length) (hj:j < c):(l.flatMap f)[k*c+j]? =(f l[k])[j]? :=by
 rw [← mt f c hf l k h,List.getElem?_take_of_lt hj,List.getElem?_drop]
theorem jM {α β:Type} (f:α→List β) (l:List α) (a:α):l.flatMap f++f a=(l++[a]).flatMap f:=by simp
theorem Ba {α β:Type} (f:α→List β) (l m:List α):l.flatMap f++m.flatMap f=(l++m).flatMap f:=by simp

def fj (l:List Tx):List PV:=l.map fun t=> .v (bt t)
@[simp] theorem bw (l:List Tx):(fj l).length=l.length:=by simp [fj]
theorem jP (l:List Tx) (k:Nat) (h:k < l.length):(fj l)[k]? =some (.v (bt (l.getD k []))):=by simp [fj,h]
theorem pZ (a b:List Tx):fj a++fj b=fj (a++b):=by simp [fj]
theorem nD (a:List Tx) (t:Tx):fj a++[.v (bt t)]=fj (a++[t]):=by simp [fj]
theorem kv {l:List Tx} {k:Nat} (h:k < l.length):l.getD k []∈l:=by
 rw [List.getD_eq_getElem?_getD,List.getElem?_eq_getElem h];exact List.getElem_mem h
theorem kP {α:Type} {l:List α} {k:Nat} {x d:α} (h:x∉l.take k) (hk:k < l.length) (hx:l.getD k d≠x):x∉l.take (k+1):=by
 rw [List.take_succ_eq_append_getElem hk,List.mem_append,List.mem_singleton]
 rintro (h' | h')
 ·exact h h'
 exact hx (by rw [List.getD_eq_getElem?_getD,List.getElem?_eq_getElem hk,h'];rfl)

def Gk (t:Tk):List PV:=[.v (.int .i64 (t.k:Int)), .v (.int .i64 (t.a:Int)), .v (bt t.t), .v (.int .i64 (t.n:Int))]
def sM (l:List Tk):List PV:=l.flatMap Gk
theorem bv (l:List Tk):(sM l).length=l.length*4:=iL Gk 4 (fun _=> rfl) l
theorem wN (l:List Tk) (k:Nat) (h:k < l.length):di l k=l[k]:=by simp [di,h]
theorem qH (l:List Tk) (k:Nat) (h:k < l.length):(sM l)[k*4]? =some (.v (.int .i64 ((di l k).k:Int))):=by
 rw [wN l k h];exact mO Gk 4 (fun _=> rfl) l k 0 h ab
theorem nx (l:List Tk) (k:Nat) (h:k < l.length):(sM l)[k*4+2]? =some (.v (bt (di l k).t)):=by
 rw [wN l k h];exact mO Gk 4 (fun _=> rfl) l k 2 h ab
theorem nb (l:List Tk) (k:Nat) (h:k < l.length):PV.ups (((sM l).drop (k*4)).take 4)=[.v (.int .i64 ((di l k).k:Int)), .v (.int .i64 ((di l k).a:Int)), .v (bt (di l k).t), .v (.int .i64 ((di l k).n:Int))]:=by
 rw [wN l k h,show ((sM l).drop (k*4)).take 4=Gk l[k] from mt Gk 4 (fun _=> rfl) l k h];rfl
theorem tZ (l:List Tk) (t:Tk):sM l++Gk t=sM (l++[t]):=jM Gk l t

theorem gp {s:Tx} {a:Nat} {b:UInt8} (h:s[a]? =some b):s.drop a=b::s.drop (a+1):=by
 obtain ⟨hl,rfl⟩:=List.getElem?_eq_some_iff.1 h
 exact List.drop_eq_getElem_cons hl
theorem kK {s:Tx} {a:Nat} (h:a < s.length): ∃ b,s[a]? =some b:=⟨_,List.getElem?_eq_getElem h⟩
theorem KY (b:UInt8):0≤(b.toNat:Int)∧(b.toNat:Int) < 256:=⟨by omega,by have:=b.toNat_lt;omega⟩
def kZ (s:Tx) (a:Nat) (c:Bool):Nat:=a+tM (s.drop a) c
theorem sw {s:Tx} {a:Nat} (h:s.length≤a) (c:Bool):kZ s a c=a:=by
 unfold kZ;rw [List.drop_eq_nil_of_le h];unfold tM;rfl
theorem HS {s:Tx} {a:Nat} {b:UInt8} (h:s[a]? =some b) (hb:b.toNat=10):kZ s a true=kZ s a false:=by
 unfold kZ;rw [gp h];simp [tM,hb]
theorem HD {s:Tx} {a:Nat} {b:UInt8} (h:s[a]? =some b) (hb:b.toNat≠10):kZ s a true=kZ s (a+1) true:=by
 unfold kZ;rw [gp h];simp [tM,hb];omega
theorem AQ {s:Tx} {a:Nat} {b:UInt8} (h:s[a]? =some b) (hb:b.toNat=35):kZ s a false=kZ s a true:=by
 unfold kZ;rw [gp h];simp [tM,hb]
theorem we {s:Tx} {a:Nat} {b:UInt8} (h:s[a]? =some b) (h0:b.toNat≠35) (hb:b.toNat=32∨b.toNat=9∨b.toNat=10):kZ s a false=kZ s (a+1) false:=by
 unfold kZ;rw [gp h,tM,if_neg h0,if_pos hb];omega
theorem EA {s:Tx} {a:Nat} {b:UInt8} (h:s[a]? =some b) (h0:b.toNat≠35) (hb: ¬ (b.toNat=32∨b.toNat=9∨b.toNat=10)):kZ s a false=a:=by
 unfold kZ;rw [gp h,tM,if_neg h0,if_neg hb];rfl
theorem oD: ∀ (l:Tx) (c:Bool),tM l c≤l.length
 | [],c=> by unfold tM;exact Nat.le_refl _
 | x::l,true=> by have h1:=oD l true;have h2:=oD l false;unfold tM;split <;> simp only [List.length_cons] <;> omega
 | x::l,false=> by have h1:=oD l true;have h2:=oD l false;unfold tM;split <;> (try split) <;> simp only [List.length_cons] <;> omega
theorem wI {s:Tx} {a:Nat} (h:a≤s.length) (c:Bool):a≤kZ s a c∧kZ s a c≤s.length:=by
 have:=oD (s.drop a) c
 rw [List.length_drop] at this
 unfold kZ;omega
def lR (p:UInt8→Bool) (s:Tx) (a:Nat):Nat:=a+((s.drop a).takeWhile p).length
theorem xu {p:UInt8→Bool} {s:Tx} {a:Nat} (h:s.length≤a):lR p s a=a:=by
 unfold lR;rw [List.drop_eq_nil_of_le h];rfl
theorem tz {p:UInt8→Bool} {s:Tx} {a:Nat} {b:UInt8} (h:s[a]? =some b) (hb:p b=true):lR p s a=lR p s (a+1):=by
 unfold lR;rw [gp h,List.takeWhile_cons,if_pos hb,List.length_cons];omega
theorem zM {p:UInt8→Bool} {s:Tx} {a:Nat} {b:UInt8} (h:s[a]? =some b) (hb:p b=false):lR p s a=a:=by
 unfold lR;rw [gp h,List.takeWhile_cons,if_neg (by simp [hb])];rfl
theorem te {p:UInt8→Bool} {s:Tx} {a:Nat} (h:a≤s.length):a≤lR p s a∧lR p s a≤s.length:=by
 have:((s.drop a).takeWhile p).length≤(s.drop a).length:=(List.takeWhile_prefix p).length_le
 rw [List.length_drop] at this
 unfold lR;omega
theorem uk {p:UInt8→Bool} {s:Tx} {a:Nat} {b:UInt8} (h:s[a]? =some b):(s.drop a).take (lR p s (a+1) - a)=b::(s.drop (a+1)).takeWhile p:=by
 rw [gp h,show lR p s (a+1) - a=((s.drop (a+1)).takeWhile p).length+1 by unfold lR;omega,List.take_succ_cons]
 congr 1
 obtain ⟨t,ht⟩:=List.takeWhile_prefix p (l:=s.drop (a+1))
 conv=> lhs;arg 2;rw [← ht]
 rw [List.take_append_of_le_length (Nat.le_refl _),List.take_length]
theorem rl (l:Tx) (b:UInt8):ld (l++[b])=10*ld l+(b.toNat - 48):=by unfold ld;rw [List.foldl_append];rfl
theorem FB (l m:Tx):ld l≤ld (l++m):=by
 induction m generalizing l with
 | nil=> simp
 | cons b m ih=>
  have:=ih (l++[b])
  rw [rl,List.append_assoc] at this
  simp only [List.cons_append,List.nil_append] at this
  omega
theorem xX (l:Tx) (i:Nat):ld (l.take i)≤ld l:=by
 have:=FB (l.take i) (l.drop i)
 rwa [List.take_append_drop] at this
theorem xS {l:Tx} {i:Nat} {b:UInt8} (h:l[i]? =some b):ld (l.take (i+1))=10*ld (l.take i)+(b.toNat - 48):=by
 obtain ⟨hl,rfl⟩:=List.getElem?_eq_some_iff.1 h
 rw [List.take_succ_eq_append_getElem hl,rl]
theorem CS (b:UInt8):mZ b=true↔97≤(b.toNat:Int)∧(b.toNat:Int)≤122:=by
 unfold mZ;rw [Bool.and_eq_true,Nat.ble_eq,Nat.ble_eq];omega
theorem uc (b:UInt8):gH b=true↔48≤(b.toNat:Int)∧(b.toNat:Int)≤57:=by
 unfold gH;rw [Bool.and_eq_true,Nat.ble_eq,Nat.ble_eq];omega
theorem GC {b:Bool} {p:Prop} (h:b=true↔p) (hn: ¬ p):b=false:=by
 cases b with
 | false=> rfl
 | true=> exact absurd (h.1 rfl) hn
def inr (x:eR):List PV:=[.v (.int .i64 (x.op.num:Int)), .v (.int .i64 x.n)]
def inl (l:List eR):List PV:=l.flatMap inr
theorem bP (l:List eR):(inl l).length=l.length*2:=iL inr 2 (fun _=> rfl) l
theorem mX (l:List eR) (k:Nat) (h:k < l.length):(inl l)[k*2]? =some (.v (.int .i64 ((da l k).op.num:Int))):=by
 rw [show da l k=l[k] by simp [da,h]];exact mO inr 2 (fun _=> rfl) l k 0 h ab
theorem Dr (l:List eR) (k:Nat) (h:k < l.length):(inl l)[k*2+1]? =some (.v (.int .i64 (da l k).n)):=by
 rw [show da l k=l[k] by simp [da,h]];exact mO inr 2 (fun _=> rfl) l k 1 h ab
theorem Bw (l:List eR) (k:Nat) (h:k < l.length):PV.ups (((inl l).drop (k*2)).take 2)=[.v (.int .i64 ((da l k).op.num:Int)), .v (.int .i64 (da l k).n)]:=by
 rw [show da l k=l[k] by simp [da,h],show ((inl l).drop (k*2)).take 2=inr l[k] from mt inr 2 (fun _=> rfl) l k h];rfl
theorem fl (l:List eR) (x:eR):inl l++inr x=inl (l++[x]):=jM inr l x
theorem mf (l m:List eR):inl l++inl m=inl (l++m):=Ba inr l m
def IK (x:Ac):List PV:=[.v (.int .i64 x.k), .v (.int .i64 x.a), .v (.int .i64 x.b), .v (.int .i64 x.c), .v (.int .i64 x.d)]
def vB (l:List Ac):List PV:=l.flatMap IK
def pG (l:List Ac) (k:Nat):Ac:=l.getD k { k:=0 }
theorem fu (l:List Ac):(vB l).length=l.length*5:=iL IK 5 (fun _=> rfl) l
theorem um (l:List Ac) (k:Nat) (h:k < l.length):PV.ups (((vB l).drop (k*5)).take 5)=[.v (.int .i64 (pG l k).k), .v (.int .i64 (pG l k).a), .v (.int .i64 (pG l k).b), .v (.int .i64 (pG l k).c), .v (.int .i64 (pG l k).d)]:=by
 rw [show pG l k=l[k] by simp [pG,h],show ((vB l).drop (k*5)).take 5=IK l[k] from mt IK 5 (fun _=> rfl) l k h];rfl
theorem Ap (l:List Ac) (x:Ac):vB l++IK x=vB (l++[x]):=jM IK l x
end Go.Proofs.YtmjnackchaahbaaGreat

namespace Go.Proofs.YtmjnackchaahbaaGreat
abbrev KB:List Value:=[.slice none 0 0, .int .i64 0, .int .i64 0, .int .i64 0, .int .i64 0, .int .i64 0, .int .i64 0, .int .i64 0, .int .i64 0, .int .i64 0, .int .i64 0, .int .i64 0, .int .i64 0, .int .i64 0, .int .i64 0, .int .i64 0, .int .i64 0, .int .i64 0, .int .i64 0, .int .i64 0, .int .i64 0, .int .i64 0, .int .i64 0, .int .i64 0, .int .i64 0, .int .i64 0, .int .i64 0, .int .i64 0, .int .i64 0, .int .i64 0, .int .i64 0, .int .i64 0, .int .i64 0, .int .i64 0, .int .i64 0, .int .i64 0, .int .i64 0, .int .i64 0, .int .i64 0, .int .i64 0, .int .i64 0, .int .i64 0, .int .i64 0]
abbrev Gm:List Value:=[.int .i64 0, .int .i64 0, .int .i64 0, .int .i64 0, .int .i64 0, .int .i64 0, .int .i64 0, .int .i64 0, .int .i64 0]
abbrev Kn:List Value:=[.slice none 0 0, .slice none 0 0, .int .i64 0, .bool false, .slice none 0 0]
abbrev xE:List Value:=[.int .i64 0, .int .i64 0, .int .i64 0, .int .i64 0, .int .i64 0]
abbrev Nn:List Value:=[.slice none 0 0, .slice none 0 0, .slice none 0 0]
abbrev IM:List Value:=[.int .i64 0, .int .i64 0, .string ByteArray.empty, .slice none 0 0]
abbrev IP:List Value:=[.int .i64 0, .int .i64 0, .int .i64 0, .string ByteArray.empty, .slice none 0 0]
abbrev Km:List Value:=[.bool false, .int .i64 0, .int .i64 0, .int .i64 0, .slice none 0 0, .slice none 0 0, .slice none 0 0, .slice none 0 0, .int .i64 0, .int .i64 0, .int .i64 0, .int .i64 0, .int .i64 0, .int .i64 0, .int .i64 0, .int .i64 0, .int .i64 0, .int .i64 0, .int .i64 0, .int .i64 0, .int .i64 0, .int .i64 0, .int .i64 0, .int .i64 0, .int .i64 0, .int .i64 0, .int .i64 0, .int .i64 0, .int .i64 0, .int .i64 0, .int .i64 0, .int .i64 0, .int .i64 0, .int .i64 0, .int .i64 0, .int .i64 0, .int .i64 0, .int .i64 0, .int .i64 0, .int .i64 0, .int .i64 0, .int .i64 0, .int .i64 0, .int .i64 0, .int .i64 0, .int .i64 0, .int .i64 0, .int .i64 0, .int .i64 0, .int .i64 0, .int .i64 0, .int .i64 0]
abbrev II:List Value:=[.int .i64 0, .int .i64 0, .int .i64 0, .int .i64 0, .int .i64 0, .int .i64 0, .int .i64 0, .int .i64 0, .int .i64 0, .int .i64 0, .int .i64 0, .int .i64 0, .int .i64 0, .slice none 0 0, .slice none 0 0]
abbrev KE:List Value:=[.int .i64 0, .int .i64 0, .int .i64 0]
abbrev EB:List Value:=[.int .i64 0, .int .i64 0, .int .i64 0, .slice none 0 0, .bool false, .int .i64 0, .slice none 0 0, .slice none 0 0, .slice none 0 0, .int .i64 0, .bool false, .slice none 0 0]
abbrev FA:List Value:=[.slice none 0 0, .int .i64 0, .int .i64 0, .int .i64 0, .int .i64 0, .int .i64 0, .int .i64 0, .int .i64 0, .int .i64 0, .int .i64 0]
abbrev EG:List Value:=[.nilFunc, .nilFunc, .nilFunc, .nilFunc, .nilFunc, .nilFunc, .nilFunc, .nilFunc, .nilFunc, .nilFunc, .nilFunc, .nilFunc, .nilFunc, .nilFunc, .nilFunc, .nilFunc, .nilFunc, .nilFunc, .nilFunc, .nilFunc, .nilFunc, .nilFunc, .nilFunc, .nilFunc]
abbrev zo:List Value:=[.int .i64 0, .int .i64 0, .string ByteArray.empty, .int .i64 0]
abbrev DO:List Value:=[.int .i64 0, .int .i64 0, .int .i64 0, .int .i64 0, .int .i64 0, .int .i64 0, .int .i64 0]
abbrev Ge:List Value:=[.int .i64 0, .int .i64 0, .int .i64 0, .int .i64 0, .int .i64 0, .int .i64 0]
abbrev JO:List Value:=[.int .i64 0, .int .i64 0, .int .i64 0, .slice none 0 0, .slice none 0 0]
abbrev JU:List Value:=[.slice none 0 0, .int .i64 0, .int .i64 0, .int .i64 0, .int .i64 0, .int .i64 0, .int .i64 0, .int .i64 0, .int .i64 0, .int .i64 0, .int .i64 0, .int .i64 0, .int .i64 0, .int .i64 0, .int .i64 0, .int .i64 0, .int .i64 0, .int .i64 0, .int .i64 0, .int .i64 0, .int .i64 0, .int .i64 0, .int .i64 0, .int .i64 0, .int .i64 0, .int .i64 0, .int .i64 0, .int .i64 0, .int .i64 0, .int .i64 0, .int .i64 0, .int .i64 0, .int .i64 0, .int .i64 0, .int .i64 0, .int .i64 0, .int .i64 0, .int .i64 0, .int .i64 0, .int .i64 0, .int .i64 0, .int .i64 0, .int .i64 0, .slice none 0 0, .int .i64 0, .int .i64 0, .int .i64 0, .int .i64 0, .int .i64 0, .int .i64 0, .int .i64 0, .int .i64 0, .int .i64 0, .nilFunc, .slice none 0 0, .slice none 0 0, .int .i64 0, .bool false, .slice none 0 0, .slice none 0 0, .int .i64 0, .int .i64 0, .int .i64 0, .bool false]
abbrev JC:List Value:=[.slice none 0 0, .int .i64 0, .int .i64 0, .int .i64 0, .slice none 0 0]

instance zH:Ty Tryz.prog 1 false [.nilFunc]:=Ty.of (bytes:=8) (.nilFunc) Tryz.underlying1 rfl ae rfl oC
instance zF:Ty Tryz.prog 2 false [.int .i64 0]:=Ty.of (bytes:=8) (.int .i64 0) Tryz.underlying2 rfl ae rfl oC
instance Rn:Ty Tryz.prog 3 false [.int .i64 0]:=Ty.of (bytes:=8) (.int .i64 0) Tryz.underlying3 rfl ae rfl oC
instance Rm:Ty Tryz.prog 4 false [.bool false]:=Ty.of (bytes:=1) (.bool false) Tryz.underlying4 rfl ae rfl oC
instance Ro:Ty Tryz.prog 9 false [.string ByteArray.empty]:=Ty.of (bytes:=16) (.string ByteArray.empty) Tryz.underlying9 rfl ae rfl oC
instance Lo:Ty Tryz.prog 22 false [.slice none 0 0]:=Ty.of (bytes:=24) (.slice none 0 0) Tryz.underlying22 rfl ae rfl oC
instance QA:Ty Tryz.prog 23 false [.slice none 0 0]:=Ty.of (bytes:=24) (.slice none 0 0) Tryz.underlying23 rfl ae rfl oC
instance PJ:Ty Tryz.prog 26 true KB:=Ty.of (bytes:=360) (.agg (KB).toArray) Tryz.underlying26 rfl ae rfl oC
instance Qz:Ty Tryz.prog 30 true Gm:=Ty.of (bytes:=72) (.agg (Gm).toArray) Tryz.underlying30 rfl ae rfl oC
instance QY:Ty Tryz.prog 32 false [.slice none 0 0]:=Ty.of (bytes:=24) (.slice none 0 0) Tryz.underlying32 rfl ae rfl oC
instance Pq:Ty Tryz.prog 34 true Kn:=Ty.of (bytes:=88) (.agg (Kn).toArray) Tryz.underlying34 rfl ae rfl oC
instance Rh:Ty Tryz.prog 43 false [.nilFunc]:=Ty.of (bytes:=8) (.nilFunc) Tryz.underlying43 rfl ae rfl oC
instance PP:Ty Tryz.prog 48 true [.int .i64 0, .int .i64 0]:=Ty.of (bytes:=16) (.agg #[.int .i64 0, .int .i64 0]) Tryz.underlying48 rfl ae rfl oC
instance QS:Ty Tryz.prog 51 false [.nilFunc]:=Ty.of (bytes:=8) (.nilFunc) Tryz.underlying51 rfl ae rfl oC
instance PF:Ty Tryz.prog 57 true xE:=Ty.of (bytes:=40) (.agg (xE).toArray) Tryz.underlying57 rfl ae rfl oC
instance Pk:Ty Tryz.prog 61 false [.slice none 0 0]:=Ty.of (bytes:=24) (.slice none 0 0) Tryz.underlying61 rfl ae rfl oC
instance PZ:Ty Tryz.prog 62 false [.slice none 0 0]:=Ty.of (bytes:=24) (.slice none 0 0) Tryz.underlying62 rfl ae rfl oC
instance QX:Ty Tryz.prog 64 true Nn:=Ty.of (bytes:=72) (.agg (Nn).toArray) Tryz.underlying64 rfl ae rfl oC
instance Po:Ty Tryz.prog 66 false [.int .i64 0]:=Ty.of (bytes:=8) (.int .i64 0) Tryz.underlying66 rfl ae rfl oC
instance Pe:Ty Tryz.prog 69 false [.slice none 0 0]:=Ty.of (bytes:=24) (.slice none 0 0) Tryz.underlying69 rfl ae rfl oC
instance PT:Ty Tryz.prog 71 true IM:=Ty.of (bytes:=56) (.agg (IM).toArray) Tryz.underlying71 rfl ae rfl oC
instance Qp:Ty Tryz.prog 73 true IP:=Ty.of (bytes:=64) (.agg (IP).toArray) Tryz.underlying73 rfl ae rfl oC
instance Pm:Ty Tryz.prog 78 false [.slice none 0 0]:=Ty.of (bytes:=24) (.slice none 0 0) Tryz.underlying78 rfl ae rfl oC
instance PW:Ty Tryz.prog 80 true [.slice none 0 0, .slice none 0 0]:=Ty.of (bytes:=48) (.agg #[.slice none 0 0, .slice none 0 0]) Tryz.underlying80 rfl ae rfl oC
instance PQ:Ty Tryz.prog 83 true Km:=Ty.of (bytes:=480) (.agg (Km).toArray) Tryz.underlying83 rfl ae rfl oC
instance Rk:Ty Tryz.prog 87 true II:=Ty.of (bytes:=152) (.agg (II).toArray) Tryz.underlying87 rfl ae rfl oC
instance QC:Ty Tryz.prog 88 false [.slice none 0 0]:=Ty.of (bytes:=24) (.slice none 0 0) Tryz.underlying88 rfl ae rfl oC
instance PK:Ty Tryz.prog 89 false [.slice none 0 0]:=Ty.of (bytes:=24) (.slice none 0 0) Tryz.underlying89 rfl ae rfl oC
instance QW:Ty Tryz.prog 91 true KE:=Ty.of (bytes:=24) (.agg (KE).toArray) Tryz.underlying91 rfl ae rfl oC
instance QV:Ty Tryz.prog 96 true EB:=Ty.of (bytes:=176) (.agg (EB).toArray) Tryz.underlying96 rfl ae rfl oC
instance Ni:Ty Tryz.prog 101 false [.slice none 0 0]:=Ty.of (bytes:=24) (.slice none 0 0) Tryz.underlying101 rfl ae rfl oC
instance OS:Ty Tryz.prog 109 true xE:=Ty.of (bytes:=40) (.agg (xE).toArray) Tryz.underlying109 rfl ae rfl oC
instance Nb:Ty Tryz.prog 115 true xE:=Ty.of (bytes:=40) (.agg (xE).toArray) Tryz.underlying115 rfl ae rfl oC
instance Pc:Ty Tryz.prog 126 true [.int .i64 0, .int .i64 0]:=Ty.of (bytes:=16) (.agg #[.int .i64 0, .int .i64 0]) Tryz.underlying126 rfl ae rfl oC
instance MI:Ty Tryz.prog 132 true FA:=Ty.of (bytes:=96) (.agg (FA).toArray) Tryz.underlying132 rfl ae rfl oC
instance OZ:Ty Tryz.prog 161 false [.nilFunc]:=Ty.of (bytes:=8) (.nilFunc) Tryz.underlying161 rfl ae rfl oC
instance Nv:Ty Tryz.prog 172 false [.nilFunc]:=Ty.of (bytes:=8) (.nilFunc) Tryz.underlying172 rfl ae rfl oC
instance Nh:Ty Tryz.prog 173 true EG:=Ty.of (bytes:=192) (.agg (EG).toArray) Tryz.underlying173 rfl ae rfl oC
instance MB:Ty Tryz.prog 217 false [.slice none 0 0]:=Ty.of (bytes:=24) (.slice none 0 0) Tryz.underlying217 rfl ae rfl oC
instance Nw:Ty Tryz.prog 225 true zo:=Ty.of (bytes:=40) (.agg (zo).toArray) Tryz.underlying225 rfl ae rfl oC
instance Rc:Elem Tryz.prog 22 3 1 8 [.int .i64 0]:=Elem.of (.int .i64 0) Tryz.underlying22 ae rfl rfl ah ah oC
instance QO:Elem Tryz.prog 23 48 2 16 [.int .i64 0, .int .i64 0]:=Elem.of (.agg #[.int .i64 0, .int .i64 0]) Tryz.underlying23 ae rfl rfl ah ah oC
instance Pj:Elem Tryz.prog 32 57 5 40 xE:=Elem.of (.agg (xE).toArray) Tryz.underlying32 ae rfl rfl ah ah oC
instance QU:Elem Tryz.prog 61 9 1 16 [.string ByteArray.empty]:=Elem.of (.string ByteArray.empty) Tryz.underlying61 ae rfl rfl ah ah oC
instance Rj:Elem Tryz.prog 62 73 5 64 IP:=Elem.of (.agg (IP).toArray) Tryz.underlying62 ae rfl rfl ah ah oC
instance PN:Elem Tryz.prog 69 71 4 56 IM:=Elem.of (.agg (IM).toArray) Tryz.underlying69 ae rfl rfl ah ah oC
instance QR:Elem Tryz.prog 76 87 15 152 II:=Elem.of (.agg (II).toArray) Tryz.underlying76 ae rfl rfl ah ah oC
instance Ph:Elem Tryz.prog 78 126 2 16 [.int .i64 0, .int .i64 0]:=Elem.of (.agg #[.int .i64 0, .int .i64 0]) Tryz.underlying78 ae rfl rfl ah ah oC
instance PA:Elem Tryz.prog 88 111 7 56 DO:=Elem.of (.agg (DO).toArray) Tryz.underlying88 ae rfl rfl ah ah oC
instance Re:Elem Tryz.prog 89 117 9 72 Gm:=Elem.of (.agg (Gm).toArray) Tryz.underlying89 ae rfl rfl ah ah oC
instance NH:Elem Tryz.prog 101 196 6 48 Ge:=Elem.of (.agg (Ge).toArray) Tryz.underlying101 ae rfl rfl ah ah oC
instance Oq:Elem Tryz.prog 121 4 1 1 [.bool false]:=Elem.of (.bool false) Tryz.underlying121 ae rfl rfl ah ah oC
instance NC:Elem Tryz.prog 217 225 4 40 zo:=Elem.of (.agg (zo).toArray) Tryz.underlying217 ae rfl rfl ah ah oC
instance ND:Elem Tryz.prog 275 61 1 24 [.slice none 0 0]:=Elem.of (.slice none 0 0) Tryz.underlying275 ae rfl rfl ah ah oC
instance Mm:eZ Tryz.prog 26 0 0:=⟨fun ad w=> by kernel_rfl⟩
instance Mc:eZ Tryz.prog 26 1 1:=⟨fun ad w=> by kernel_rfl⟩
instance Lf:eZ Tryz.prog 26 2 41:=⟨fun ad w=> by kernel_rfl⟩
instance LR:eZ Tryz.prog 26 3 42:=⟨fun ad w=> by kernel_rfl⟩
instance Lr:eZ Tryz.prog 34 0 0:=⟨fun ad w=> by kernel_rfl⟩
instance Ls:eZ Tryz.prog 34 1 1:=⟨fun ad w=> by kernel_rfl⟩
instance KX:eZ Tryz.prog 34 2 2:=⟨fun ad w=> by kernel_rfl⟩
instance KZ:eZ Tryz.prog 34 3 3:=⟨fun ad w=> by kernel_rfl⟩
instance Lp:eZ Tryz.prog 34 4 4:=⟨fun ad w=> by kernel_rfl⟩
instance Md:eZ Tryz.prog 48 0 0:=⟨fun ad w=> by kernel_rfl⟩
instance LS:eZ Tryz.prog 48 1 1:=⟨fun ad w=> by kernel_rfl⟩
instance KV:eZ Tryz.prog 57 0 0:=⟨fun ad w=> by kernel_rfl⟩
instance Ml:eZ Tryz.prog 57 1 1:=⟨fun ad w=> by kernel_rfl⟩
instance Me:eZ Tryz.prog 57 2 2:=⟨fun ad w=> by kernel_rfl⟩
instance Lt:eZ Tryz.prog 57 3 3:=⟨fun ad w=> by kernel_rfl⟩
instance KQ:eZ Tryz.prog 57 4 4:=⟨fun ad w=> by kernel_rfl⟩
instance KR:eZ Tryz.prog 64 0 0:=⟨fun ad w=> by kernel_rfl⟩
instance LL:eZ Tryz.prog 64 1 1:=⟨fun ad w=> by kernel_rfl⟩
instance LF:eZ Tryz.prog 64 2 2:=⟨fun ad w=> by kernel_rfl⟩
instance Mh:eZ Tryz.prog 71 0 0:=⟨fun ad w=> by kernel_rfl⟩
instance Mv:eZ Tryz.prog 71 1 1:=⟨fun ad w=> by kernel_rfl⟩
instance LQ:eZ Tryz.prog 71 2 2:=⟨fun ad w=> by kernel_rfl⟩
instance LD:eZ Tryz.prog 71 3 3:=⟨fun ad w=> by kernel_rfl⟩
instance Ll:eZ Tryz.prog 73 0 0:=⟨fun ad w=> by kernel_rfl⟩
instance LZ:eZ Tryz.prog 73 1 1:=⟨fun ad w=> by kernel_rfl⟩
instance LP:eZ Tryz.prog 80 0 0:=⟨fun ad w=> by kernel_rfl⟩
instance KO:Fvl Tryz.prog 80 0 0 false 1:=Fvl.of Tryz.underlying80 rfl rfl Lo rfl
instance LG:eZ Tryz.prog 80 1 1:=⟨fun ad w=> by kernel_rfl⟩
instance LX:eZ Tryz.prog 83 0 0:=⟨fun ad w=> by kernel_rfl⟩
instance LB:eZ Tryz.prog 83 1 1:=⟨fun ad w=> by kernel_rfl⟩
instance LE:eZ Tryz.prog 83 2 2:=⟨fun ad w=> by kernel_rfl⟩
instance Mt:eZ Tryz.prog 83 3 3:=⟨fun ad w=> by kernel_rfl⟩
instance LK:eZ Tryz.prog 83 4 4:=⟨fun ad w=> by kernel_rfl⟩
instance Mn:eZ Tryz.prog 83 5 6:=⟨fun ad w=> by kernel_rfl⟩
instance Ly:eZ Tryz.prog 83 6 7:=⟨fun ad w=> by kernel_rfl⟩
instance Li:eZ Tryz.prog 83 7 8:=⟨fun ad w=> by kernel_rfl⟩
instance Lz:eZ Tryz.prog 83 8 49:=⟨fun ad w=> by kernel_rfl⟩
instance LC:eZ Tryz.prog 87 0 0:=⟨fun ad w=> by kernel_rfl⟩
instance LU:eZ Tryz.prog 87 1 1:=⟨fun ad w=> by kernel_rfl⟩
instance LA:eZ Tryz.prog 87 2 2:=⟨fun ad w=> by kernel_rfl⟩
instance Ma:eZ Tryz.prog 87 3 11:=⟨fun ad w=> by kernel_rfl⟩
instance LM:eZ Tryz.prog 87 4 12:=⟨fun ad w=> by kernel_rfl⟩
instance KU:eZ Tryz.prog 87 5 13:=⟨fun ad w=> by kernel_rfl⟩
instance Mq:eZ Tryz.prog 87 6 14:=⟨fun ad w=> by kernel_rfl⟩
instance Mj:eZ Tryz.prog 96 0 0:=⟨fun ad w=> by kernel_rfl⟩
instance Mu:eZ Tryz.prog 96 1 3:=⟨fun ad w=> by kernel_rfl⟩
instance LI:eZ Tryz.prog 96 2 4:=⟨fun ad w=> by kernel_rfl⟩
instance Mi:eZ Tryz.prog 96 3 5:=⟨fun ad w=> by kernel_rfl⟩
instance Mb:eZ Tryz.prog 96 4 6:=⟨fun ad w=> by kernel_rfl⟩
instance La:eZ Tryz.prog 96 5 7:=⟨fun ad w=> by kernel_rfl⟩
instance Ky:eZ Tryz.prog 103 0 0:=⟨fun ad w=> by kernel_rfl⟩
instance KC:eZ Tryz.prog 103 1 3:=⟨fun ad w=> by kernel_rfl⟩
instance KA:eZ Tryz.prog 103 2 4:=⟨fun ad w=> by kernel_rfl⟩
instance Kf:eZ Tryz.prog 126 0 0:=⟨fun ad w=> by kernel_rfl⟩
instance JX:eZ Tryz.prog 126 1 1:=⟨fun ad w=> by kernel_rfl⟩
instance Kp:eZ Tryz.prog 132 0 0:=⟨fun ad w=> by kernel_rfl⟩
instance KF:eZ Tryz.prog 132 1 1:=⟨fun ad w=> by kernel_rfl⟩
instance Ke:eZ Tryz.prog 171 0 0:=⟨fun ad w=> by kernel_rfl⟩
instance KJ:eZ Tryz.prog 171 1 43:=⟨fun ad w=> by kernel_rfl⟩
instance Kd:eZ Tryz.prog 171 2 53:=⟨fun ad w=> by kernel_rfl⟩
instance Kz:eZ Tryz.prog 171 3 54:=⟨fun ad w=> by kernel_rfl⟩
instance JY:eZ Tryz.prog 171 4 59:=⟨fun ad w=> by kernel_rfl⟩
instance Kt:eZ Tryz.prog 171 5 60:=⟨fun ad w=> by kernel_rfl⟩
instance KH:eZ Tryz.prog 171 6 61:=⟨fun ad w=> by kernel_rfl⟩
instance Ku:eZ Tryz.prog 171 7 62:=⟨fun ad w=> by kernel_rfl⟩
instance Kq:eZ Tryz.prog 171 8 63:=⟨fun ad w=> by kernel_rfl⟩
instance Kh:eZ Tryz.prog 196 0 0:=⟨fun ad w=> by kernel_rfl⟩
instance JZ:eZ Tryz.prog 196 1 5:=⟨fun ad w=> by kernel_rfl⟩
instance KD:eZ Tryz.prog 222 0 0:=⟨fun ad w=> by kernel_rfl⟩
instance Kj:eZ Tryz.prog 222 1 1:=⟨fun ad w=> by kernel_rfl⟩
instance Kl:eZ Tryz.prog 222 3 3:=⟨fun ad w=> by kernel_rfl⟩
instance Kb:eZ Tryz.prog 222 4 4:=⟨fun ad w=> by kernel_rfl⟩
instance JW:eZ Tryz.prog 225 0 0:=⟨fun ad w=> by kernel_rfl⟩
instance Ki:eZ Tryz.prog 225 2 2:=⟨fun ad w=> by kernel_rfl⟩
instance KI:eZ Tryz.prog 225 3 3:=⟨fun ad w=> by kernel_rfl⟩
instance Pl:cR Tryz.prog 23:=⟨fun args w=> by kernel_rfl⟩
instance QP:cR Tryz.prog 30:=⟨fun args w=> by kernel_rfl⟩
instance Qt:cR Tryz.prog 33:=⟨fun args w=> by kernel_rfl⟩
instance Qk:cR Tryz.prog 39:=⟨fun args w=> by kernel_rfl⟩
instance PL:cR Tryz.prog 40:=⟨fun args w=> by kernel_rfl⟩
instance Qh:cR Tryz.prog 41:=⟨fun args w=> by kernel_rfl⟩
instance Qg:cR Tryz.prog 45:=⟨fun args w=> by kernel_rfl⟩
instance Pv:cR Tryz.prog 47:=⟨fun args w=> by kernel_rfl⟩
instance QL:cR Tryz.prog 50:=⟨fun args w=> by kernel_rfl⟩
instance QQ:cR Tryz.prog 51:=⟨fun args w=> by kernel_rfl⟩
instance PH:cR Tryz.prog 52:=⟨fun args w=> by kernel_rfl⟩
instance Pf:cR Tryz.prog 53:=⟨fun args w=> by kernel_rfl⟩
instance Qv:cR Tryz.prog 54:=⟨fun args w=> by kernel_rfl⟩
instance QI:cR Tryz.prog 55:=⟨fun args w=> by kernel_rfl⟩
instance PB:cR Tryz.prog 56:=⟨fun args w=> by kernel_rfl⟩
instance Qm:cR Tryz.prog 57:=⟨fun args w=> by kernel_rfl⟩
instance QN:cR Tryz.prog 58:=⟨fun args w=> by kernel_rfl⟩
instance Qc:cR Tryz.prog 59:=⟨fun args w=> by kernel_rfl⟩
instance Pt:cR Tryz.prog 64:=⟨fun args w=> by kernel_rfl⟩
instance QF:cR Tryz.prog 72:=⟨fun args w=> by kernel_rfl⟩
instance PC:cR Tryz.prog 73:=⟨fun args w=> by kernel_rfl⟩
instance QH:cR Tryz.prog 74:=⟨fun args w=> by kernel_rfl⟩
instance Pi:cR Tryz.prog 75:=⟨fun args w=> by kernel_rfl⟩
instance QD:cR Tryz.prog 78:=⟨fun args w=> by kernel_rfl⟩
instance PR:cR Tryz.prog 81:=⟨fun args w=> by kernel_rfl⟩
instance QE:cR Tryz.prog 82:=⟨fun args w=> by kernel_rfl⟩
instance QT:cR Tryz.prog 85:=⟨fun args w=> by kernel_rfl⟩
instance Ps:cR Tryz.prog 86:=⟨fun args w=> by kernel_rfl⟩
instance Pw:cR Tryz.prog 87:=⟨fun args w=> by kernel_rfl⟩
instance Px:cR Tryz.prog 88:=⟨fun args w=> by kernel_rfl⟩
instance QM:cR Tryz.prog 89:=⟨fun args w=> by kernel_rfl⟩
instance Qq:cR Tryz.prog 90:=⟨fun args w=> by kernel_rfl⟩
instance Qy:cR Tryz.prog 91:=⟨fun args w=> by kernel_rfl⟩
instance Ql:cR Tryz.prog 92:=⟨fun args w=> by kernel_rfl⟩
instance QJ:cR Tryz.prog 93:=⟨fun args w=> by kernel_rfl⟩
instance Pu:cR Tryz.prog 94:=⟨fun args w=> by kernel_rfl⟩
instance PD:cR Tryz.prog 95:=⟨fun args w=> by kernel_rfl⟩
instance Qw:cR Tryz.prog 96:=⟨fun args w=> by kernel_rfl⟩
instance Qn:cR Tryz.prog 97:=⟨fun args w=> by kernel_rfl⟩
instance Om:cR Tryz.prog 106:=⟨fun args w=> by kernel_rfl⟩
instance Mw:cR Tryz.prog 107:=⟨fun args w=> by kernel_rfl⟩
instance NV:cR Tryz.prog 108:=⟨fun args w=> by kernel_rfl⟩
instance NY:cR Tryz.prog 113:=⟨fun args w=> by kernel_rfl⟩
instance Mz:cR Tryz.prog 114:=⟨fun args w=> by kernel_rfl⟩
instance OO:cR Tryz.prog 115:=⟨fun args w=> by kernel_rfl⟩
instance NO:cR Tryz.prog 117:=⟨fun args w=> by kernel_rfl⟩
instance OP:cR Tryz.prog 118:=⟨fun args w=> by kernel_rfl⟩
instance Oc:cR Tryz.prog 119:=⟨fun args w=> by kernel_rfl⟩
instance Of:cR Tryz.prog 120:=⟨fun args w=> by kernel_rfl⟩
instance Ov:cR Tryz.prog 121:=⟨fun args w=> by kernel_rfl⟩
instance NU:cR Tryz.prog 122:=⟨fun args w=> by kernel_rfl⟩
instance Nt:cR Tryz.prog 123:=⟨fun args w=> by kernel_rfl⟩
instance OT:cR Tryz.prog 124:=⟨fun args w=> by kernel_rfl⟩
instance Oj:cR Tryz.prog 125:=⟨fun args w=> by kernel_rfl⟩
instance Ol:cR Tryz.prog 126:=⟨fun args w=> by kernel_rfl⟩
instance MX:cR Tryz.prog 127:=⟨fun args w=> by kernel_rfl⟩
instance NA:cR Tryz.prog 128:=⟨fun args w=> by kernel_rfl⟩
instance NT:cR Tryz.prog 129:=⟨fun args w=> by kernel_rfl⟩
instance MH:cR Tryz.prog 130:=⟨fun args w=> by kernel_rfl⟩
instance Nz:cR Tryz.prog 131:=⟨fun args w=> by kernel_rfl⟩
instance Pd:cR Tryz.prog 132:=⟨fun args w=> by kernel_rfl⟩
instance NX:cR Tryz.prog 133:=⟨fun args w=> by kernel_rfl⟩
instance OF:cR Tryz.prog 134:=⟨fun args w=> by kernel_rfl⟩
instance Nm:cR Tryz.prog 135:=⟨fun args w=> by kernel_rfl⟩
instance OH:cR Tryz.prog 136:=⟨fun args w=> by kernel_rfl⟩
instance Ou:cR Tryz.prog 137:=⟨fun args w=> by kernel_rfl⟩
instance Oe:cR Tryz.prog 138:=⟨fun args w=> by kernel_rfl⟩
instance Ob:cR Tryz.prog 139:=⟨fun args w=> by kernel_rfl⟩
instance MM:cR Tryz.prog 140:=⟨fun args w=> by kernel_rfl⟩
instance OR:cR Tryz.prog 141:=⟨fun args w=> by kernel_rfl⟩
instance NM:cR Tryz.prog 142:=⟨fun args w=> by kernel_rfl⟩
instance MC:cR Tryz.prog 143:=⟨fun args w=> by kernel_rfl⟩
instance MW:cR Tryz.prog 144:=⟨fun args w=> by kernel_rfl⟩
instance MN:cR Tryz.prog 145:=⟨fun args w=> by kernel_rfl⟩
instance MV:cR Tryz.prog 146:=⟨fun args w=> by kernel_rfl⟩
instance OM:cR Tryz.prog 147:=⟨fun args w=> by kernel_rfl⟩
instance Od:cR Tryz.prog 148:=⟨fun args w=> by kernel_rfl⟩
instance MO:cR Tryz.prog 149:=⟨fun args w=> by kernel_rfl⟩
instance Og:cR Tryz.prog 150:=⟨fun args w=> by kernel_rfl⟩
instance OY:cR Tryz.prog 151:=⟨fun args w=> by kernel_rfl⟩
instance MS:cR Tryz.prog 152:=⟨fun args w=> by kernel_rfl⟩
instance OA:cR Tryz.prog 153:=⟨fun args w=> by kernel_rfl⟩
instance Nq:cR Tryz.prog 154:=⟨fun args w=> by kernel_rfl⟩
instance OX:cR Tryz.prog 155:=⟨fun args w=> by kernel_rfl⟩
instance ON:cR Tryz.prog 159:=⟨fun args w=> by kernel_rfl⟩
instance MP:cR Tryz.prog 160:=⟨fun args w=> by kernel_rfl⟩
instance NS:cR Tryz.prog 161:=⟨fun args w=> by kernel_rfl⟩
instance Oy:cR Tryz.prog 162:=⟨fun args w=> by kernel_rfl⟩
instance OJ:cR Tryz.prog 163:=⟨fun args w=> by kernel_rfl⟩
instance Oo:cR Tryz.prog 164:=⟨fun args w=> by kernel_rfl⟩
instance MJ:cR Tryz.prog 165:=⟨fun args w=> by kernel_rfl⟩
instance NP:cR Tryz.prog 166:=⟨fun args w=> by kernel_rfl⟩
instance My:cR Tryz.prog 167:=⟨fun args w=> by kernel_rfl⟩
instance MT:cR Tryz.prog 183:=⟨fun args w=> by kernel_rfl⟩
instance NE:cR Tryz.prog 184:=⟨fun args w=> by kernel_rfl⟩
instance OD:cR Tryz.prog 185:=⟨fun args w=> by kernel_rfl⟩
instance Nx:cR Tryz.prog 187:=⟨fun args w=> by kernel_rfl⟩
instance MF:cR Tryz.prog 188:=⟨fun args w=> by kernel_rfl⟩
instance Oz:cR Tryz.prog 189:=⟨fun args w=> by kernel_rfl⟩
instance Oi:cR Tryz.prog 190:=⟨fun args w=> by kernel_rfl⟩
instance On:cR Tryz.prog 194:=⟨fun args w=> by kernel_rfl⟩
instance Ox:cR Tryz.prog 195:=⟨fun args w=> by kernel_rfl⟩
instance Ow:cR Tryz.prog 196:=⟨fun args w=> by kernel_rfl⟩
instance Pa:cR Tryz.prog 197:=⟨fun args w=> by kernel_rfl⟩
instance Mx:cR Tryz.prog 199:=⟨fun args w=> by kernel_rfl⟩
instance NR:cR Tryz.prog 200:=⟨fun args w=> by kernel_rfl⟩
instance MR:cR Tryz.prog 201:=⟨fun args w=> by kernel_rfl⟩
instance OL:cR Tryz.prog 202:=⟨fun args w=> by kernel_rfl⟩
instance NK:cR Tryz.prog 203:=⟨fun args w=> by kernel_rfl⟩
instance NG:cR Tryz.prog 204:=⟨fun args w=> by kernel_rfl⟩
instance OI:cR Tryz.prog 205:=⟨fun args w=> by kernel_rfl⟩
instance Ny:cR Tryz.prog 207:=⟨fun args w=> by kernel_rfl⟩
instance Oh:cR Tryz.prog 208:=⟨fun args w=> by kernel_rfl⟩
instance Nc:cR Tryz.prog 221:=⟨fun args w=> by kernel_rfl⟩
instance NL:cR Tryz.prog 222:=⟨fun args w=> by kernel_rfl⟩
instance NJ:cR Tryz.prog 223:=⟨fun args w=> by kernel_rfl⟩
instance NW:cR Tryz.prog 224:=⟨fun args w=> by kernel_rfl⟩
instance OW:cR Tryz.prog 225:=⟨fun args w=> by kernel_rfl⟩
instance OK:cR Tryz.prog 226:=⟨fun args w=> by kernel_rfl⟩
instance NQ:cR Tryz.prog 227:=⟨fun args w=> by kernel_rfl⟩
instance Np:cR Tryz.prog 228:=⟨fun args w=> by kernel_rfl⟩
instance MY:cR Tryz.prog 235:=⟨fun args w=> by kernel_rfl⟩
instance No:cR Tryz.prog 236:=⟨fun args w=> by kernel_rfl⟩
instance ML:cR Tryz.prog 237:=⟨fun args w=> by kernel_rfl⟩
instance Nk:cR Tryz.prog 240:=⟨fun args w=> by kernel_rfl⟩
end Go.Proofs.YtmjnackchaahbaaGreat

namespace Go.Proofs.YtmjnackchaahbaaGreat

instance PI:Bld Tryz.prog 26 KB (fun i=> ([(0,1),(1,40),(41,1),(42,1)]:List (Nat×Nat))[i]?):=Bld.struct (bytes:=360) (.agg (KB).toArray) [(0,1),(1,40),(41,1),(42,1)] Tryz.underlying26 ae rfl oC (fun w=> by kernel_rfl)
instance Rl:Bld Tryz.prog 30 Gm (fun i=> some (i*1,1)):=Bld.array (bytes:=72) (.agg (Gm).toArray) Tryz.underlying30 ae rfl oC ae
instance QZ:Bld Tryz.prog 34 Kn (fun i=> ([(0,1),(1,1),(2,1),(3,1),(4,1)]:List (Nat×Nat))[i]?):=Bld.struct (bytes:=88) (.agg (Kn).toArray) [(0,1),(1,1),(2,1),(3,1),(4,1)] Tryz.underlying34 ae rfl oC (fun w=> by kernel_rfl)
instance Pp:Bld Tryz.prog 48 [.int .i64 0, .int .i64 0] (fun i=> ([(0,1),(1,1)]:List (Nat×Nat))[i]?):=Bld.struct (bytes:=16) (.agg #[.int .i64 0, .int .i64 0]) [(0,1),(1,1)] Tryz.underlying48 ae rfl oC (fun w=> by kernel_rfl)
instance Rb:Bld Tryz.prog 57 xE (fun i=> ([(0,1),(1,1),(2,1),(3,1),(4,1)]:List (Nat×Nat))[i]?):=Bld.struct (bytes:=40) (.agg (xE).toArray) [(0,1),(1,1),(2,1),(3,1),(4,1)] Tryz.underlying57 ae rfl oC (fun w=> by kernel_rfl)
instance Qs:Bld Tryz.prog 71 IM (fun i=> ([(0,1),(1,1),(2,1),(3,1)]:List (Nat×Nat))[i]?):=Bld.struct (bytes:=56) (.agg (IM).toArray) [(0,1),(1,1),(2,1),(3,1)] Tryz.underlying71 ae rfl oC (fun w=> by kernel_rfl)
instance QB:Bld Tryz.prog 73 IP (fun i=> ([(0,1),(1,4)]:List (Nat×Nat))[i]?):=Bld.struct (bytes:=64) (.agg (IP).toArray) [(0,1),(1,4)] Tryz.underlying73 ae rfl oC (fun w=> by kernel_rfl)
instance Qd:Bld Tryz.prog 80 [.slice none 0 0, .slice none 0 0] (fun i=> ([(0,1),(1,1)]:List (Nat×Nat))[i]?):=Bld.struct (bytes:=48) (.agg #[.slice none 0 0, .slice none 0 0]) [(0,1),(1,1)] Tryz.underlying80 ae rfl oC (fun w=> by kernel_rfl)
instance Py:Bld Tryz.prog 83 Km (fun i=> ([(0,1),(1,1),(2,1),(3,1),(4,2),(6,1),(7,1),(8,41),(49,1),(50,1),(51,1)]:List (Nat×Nat))[i]?):=Bld.struct (bytes:=480) (.agg (Km).toArray) [(0,1),(1,1),(2,1),(3,1),(4,2),(6,1),(7,1),(8,41),(49,1),(50,1),(51,1)] Tryz.underlying83 ae rfl oC (fun w=> by kernel_rfl)
instance PY:Bld Tryz.prog 87 II (fun i=> ([(0,1),(1,1),(2,9),(11,1),(12,1),(13,1),(14,1)]:List (Nat×Nat))[i]?):=Bld.struct (bytes:=152) (.agg (II).toArray) [(0,1),(1,1),(2,9),(11,1),(12,1),(13,1),(14,1)] Tryz.underlying87 ae rfl oC (fun w=> by kernel_rfl)
instance Pr:Bld Tryz.prog 91 KE (fun i=> ([(0,1),(1,1),(2,1)]:List (Nat×Nat))[i]?):=Bld.struct (bytes:=24) (.agg (KE).toArray) [(0,1),(1,1),(2,1)] Tryz.underlying91 ae rfl oC (fun w=> by kernel_rfl)
instance Qu:Bld Tryz.prog 96 EB (fun i=> ([(0,3),(3,1),(4,1),(5,1),(6,1),(7,5)]:List (Nat×Nat))[i]?):=Bld.struct (bytes:=176) (.agg (EB).toArray) [(0,3),(3,1),(4,1),(5,1),(6,1),(7,5)] Tryz.underlying96 ae rfl oC (fun w=> by kernel_rfl)
instance NZ:Bld Tryz.prog 103 JO (fun i=> ([(0,3),(3,1),(4,1)]:List (Nat×Nat))[i]?):=Bld.struct (bytes:=72) (.agg (JO).toArray) [(0,3),(3,1),(4,1)] Tryz.underlying103 ae rfl oC (fun w=> by kernel_rfl)
instance NI:Bld Tryz.prog 109 xE (fun i=> ([(0,3),(3,1),(4,1)]:List (Nat×Nat))[i]?):=Bld.struct (bytes:=40) (.agg (xE).toArray) [(0,3),(3,1),(4,1)] Tryz.underlying109 ae rfl oC (fun w=> by kernel_rfl)
instance Nj:Bld Tryz.prog 111 DO (fun i=> ([(0,5),(5,1),(6,1)]:List (Nat×Nat))[i]?):=Bld.struct (bytes:=56) (.agg (DO).toArray) [(0,5),(5,1),(6,1)] Tryz.underlying111 ae rfl oC (fun w=> by kernel_rfl)
instance Nu:Bld Tryz.prog 115 xE (fun i=> ([(0,3),(3,1),(4,1)]:List (Nat×Nat))[i]?):=Bld.struct (bytes:=40) (.agg (xE).toArray) [(0,3),(3,1),(4,1)] Tryz.underlying115 ae rfl oC (fun w=> by kernel_rfl)
instance OB:Bld Tryz.prog 117 Gm (fun i=> ([(0,5),(5,1),(6,1),(7,1),(8,1)]:List (Nat×Nat))[i]?):=Bld.struct (bytes:=72) (.agg (Gm).toArray) [(0,5),(5,1),(6,1),(7,1),(8,1)] Tryz.underlying117 ae rfl oC (fun w=> by kernel_rfl)
instance Oa:Bld Tryz.prog 126 [.int .i64 0, .int .i64 0] (fun i=> ([(0,1),(1,1)]:List (Nat×Nat))[i]?):=Bld.struct (bytes:=16) (.agg #[.int .i64 0, .int .i64 0]) [(0,1),(1,1)] Tryz.underlying126 ae rfl oC (fun w=> by kernel_rfl)
instance OE:Bld Tryz.prog 132 FA (fun i=> ([(0,1),(1,9)]:List (Nat×Nat))[i]?):=Bld.struct (bytes:=96) (.agg (FA).toArray) [(0,1),(1,9)] Tryz.underlying132 ae rfl oC (fun w=> by kernel_rfl)
instance Nl:Bld Tryz.prog 171 JU (fun i=> ([(0,43),(43,10),(53,1),(54,5),(59,1),(60,1),(61,1),(62,1),(63,1)]:List (Nat×Nat))[i]?):=Bld.struct (bytes:=608) (.agg (JU).toArray) [(0,43),(43,10),(53,1),(54,5),(59,1),(60,1),(61,1),(62,1),(63,1)] Tryz.underlying171 ae rfl oC (fun w=> by kernel_rfl)
instance Pb:Bld Tryz.prog 173 EG (fun i=> some (i*1,1)):=Bld.array (bytes:=192) (.agg (EG).toArray) Tryz.underlying173 ae rfl oC ae
instance NB:Bld Tryz.prog 176 [] (fun i=> ([]:List (Nat×Nat))[i]?):=Bld.struct (bytes:=0) (.agg #[]) [] Tryz.underlying176 ae rfl oC (fun w=> by kernel_rfl)
instance OC:Bld Tryz.prog 196 Ge (fun i=> ([(0,5),(5,1)]:List (Nat×Nat))[i]?):=Bld.struct (bytes:=48) (.agg (Ge).toArray) [(0,5),(5,1)] Tryz.underlying196 ae rfl oC (fun w=> by kernel_rfl)
instance MA:Bld Tryz.prog 222 JC (fun i=> ([(0,1),(1,1),(2,1),(3,1),(4,1)]:List (Nat×Nat))[i]?):=Bld.struct (bytes:=72) (.agg (JC).toArray) [(0,1),(1,1),(2,1),(3,1),(4,1)] Tryz.underlying222 ae rfl oC (fun w=> by kernel_rfl)
instance MK:Bld Tryz.prog 225 zo (fun i=> ([(0,1),(1,1),(2,1),(3,1)]:List (Nat×Nat))[i]?):=Bld.struct (bytes:=40) (.agg (zo).toArray) [(0,1),(1,1),(2,1),(3,1)] Tryz.underlying225 ae rfl oC (fun w=> by kernel_rfl)
def dO (n m:Int):Int:=(if n < 0 then -(n+1) else n) % m
theorem jf (n m:Int) (h:0 < m):0≤dO n m:=Int.emod_nonneg _ ab
theorem jX (n m:Int) (h:0 < m):dO n m < m:=Int.emod_lt_of_pos _ h
theorem jH (n m:Int) (hm:1≤m) (h1:m≤4611686018427387904) (h2: -9223372036854775808≤n) (h3:n≤9223372036854775807):
  Spec Tryz.prog 33 (ba [.v (.int .i64 n), .v (.int .i64 m)] []) (aP (.v (.int .i64 (dO n m))) []):=by
 refine Spec.ofN Tryz.func33 rfl Tryz.ntmps33 rfl ?_
 refine am (be rfl (aj (aq (am (aX rfl (ai (bn _ _ rfl rfl rfl) (aj (aR rfl (fun hc6=> ?_) (fun hc6=> ?_)))))))))
 ·skip
  refine an (aX rfl (ai (aZ _ _ rfl rfl (bF ab)) ?_))
  refine ai (Ce _ rfl (bF ab)) ?_
  refine be rfl (aj (am (aX rfl (aX rfl (ai (dW _ _ rfl rfl ab (Int.tmod_eq_emod_of_nonneg ab)) ?_)))))
  refine be rfl (aj (aG (rx rfl rfl ?_)))
  unfold dO
  rw [if_pos hc6]
 refine aS (am (aX rfl (aX rfl (ai (dW _ _ rfl rfl ab (Int.tmod_eq_emod_of_nonneg ab)) ?_))))
 refine be rfl (aj (aG (rx rfl rfl ?_)))
 unfold dO
 rw [if_neg ab]

theorem rE (n m:Nat) (xs ys:List Int) (hn:xs.length=n) (hm:ys.length=m) (h1:n≤4611686018427387904) (h2:m≤4611686018427387904):
  Spec Tryz.prog 30 (ba [.sl n (cu xs), .sl m (cu ys)] []) (aP (.v (.bool (decide (xs=ys)))) []):=by
 subst hn;subst hm
 refine Spec.ofN Tryz.func30 rfl Tryz.ntmps30 rfl ?_
 refine am (cp rfl (aj (aq (am (eV rfl (ai (bp _ aa rfl) (eV rfl (ai (bp _ aa rfl) (ai (bT _ _ rfl rfl rfl) (aj ?_))))))))))
 refine aR rfl (fun hc10=> ?_) (fun hc10=> ?_)
 ·skip
  refine am (cp rfl (aj (aG (rP rfl rfl ?_))))
  exact decide_eq_false fun h=> by subst h;omega
 refine aS (aU fun K5 hK5=> ?_)
 refine am (be rfl (aj (ay ?_)))
 refine bu (α:=Nat) (fun k=> k≤xs.length∧xs.length=ys.length∧xs.take k=ys.take k) 26 [(0,_),(1,_)] [] (fun k=> [(5, .v (.int .i64 (k:Int)))]) (fun k=> []) [] [] (fun k=> xs.length - k) 0 ?_ (by
  refine Le.mkJ [] [] rfl ?_ ?_ trivial trivial ?_
  ·exact ⟨(by exact iS rfl),(by exact iS rfl),(cr ag),trivial⟩
  ·exact trivial
  kernel_rfl) ?_
 ·exact ⟨by omega,by omega,rfl⟩
 intro k hk
 obtain ⟨hk,hl,ht⟩:=hk
 refine aU fun K7 hK7=> ?_
 refine am (aX rfl (eV rfl (ai (bp _ aa rfl) (ai (bn _ _ rfl rfl rfl) (aj (aR rfl (fun hc14=> ?_) (fun hc14=> ?_)))))))
 ·skip
  have hkx:k < xs.length:=by omega
  have hky:k < ys.length:=by omega
  refine br (hK7 _ ?_)
  clear hK7;try clear K7
  refine aq (ay (aq ?_))
  refine aN (σ':=aE 26 [(0,_),(1,_),(5,_)] [] [] []) (by
   refine Le.mkJ [] [] rfl ?_ ?_ trivial trivial ?_
   ·exact ⟨(by exact iS rfl),(by exact iS rfl),(iV rfl),trivial⟩
   ·exact trivial
   kernel_rfl) ?_
  refine bK 9 [17,18,19,20,21,22,23,24,25] [] ae ae rfl (aK rfl) (rfl:_=[_,_,_,_,_,_,_,_,_]) (rfl:_=[]) ?_
  refine ap (_,[]) (fun τ=> aH _ mm) ?_
  refine fB rfl ?_
  refine ap (_,[]) (fun τ=> aH _ ek) ?_
  refine fH rfl ?_
  refine ap (_,[]) (fun τ=> bo _ _ aa rfl rfl _ rfl ab (by (simp only [aL,bf,bh];omega)) (by exact Nat.mul_one _)) ?_
  refine fQ rfl ?_
  refine ap (_,[]) (fun τ=> bO _ aa rfl (by exact ef _ _ ab) rfl) ?_
  refine fV rfl ?_
  refine ap (_,[]) (fun τ=> aH _ mm) ?_
  refine gd rfl ?_
  refine ap (_,[]) (fun τ=> aH _ ek) ?_
  refine gV rfl ?_
  refine ap (_,[]) (fun τ=> bo _ _ aa rfl rfl _ rfl ab (by (simp only [aL,bf,bh];omega)) (by exact Nat.mul_one _)) ?_
  refine iG rfl ?_
  refine ap (_,[]) (fun τ=> bO _ aa rfl (by exact ef _ _ ab) rfl) ?_
  refine jO rfl ?_
  refine ap (_,[]) (fun τ=> bT _ _ rfl rfl rfl) ?_
  refine jW rfl (bl ⟨rfl,?_⟩)
  refine aj (aR rfl (fun hc25=> ?_) (fun hc25=> ?_))
  ·skip
   refine am (cp rfl (aj (aG (rP rfl rfl ?_))))
   exact decide_eq_false fun h=> by subst h;exact hc25 rfl
  refine cw (an (aX rfl (ai (aZ _ _ rfl rfl (bF ab)) ?_)))
  refine be rfl (aJ (⟨k+1,?_,?_,?_⟩))
  ·refine ⟨by omega,hl,?_⟩
   rw [sG _ _ _ hkx,sG _ _ _ hky] at hc25
   rw [List.take_succ_eq_append_getElem hkx,List.take_succ_eq_append_getElem hky,ht,hc25]
  ·skip
   refine Le.mkJ [] [] rfl ?_ ?_ trivial trivial ?_
   ·exact ⟨(by exact iS rfl),(by exact iS rfl),(cr ag),trivial⟩
   ·exact trivial
   kernel_rfl
  omega
 refine bD (id (hK5 _ ?_))
 clear hK5;try clear K5
 refine am (cp rfl (aj (aG (rP rfl rfl ?_))))
 rw [List.take_of_length_le ab,List.take_of_length_le ab] at ht
 exact decide_eq_true ht

theorem pj (b:UInt8):Spec Tryz.prog 221 (ba [.v (.int .u8 (b.toNat:Int))] []) (aP (.v (.bool (mZ b))) []):=by
 have h:=CS b
 refine Spec.ofN Tryz.func221 rfl Tryz.ntmps221 rfl ?_
 refine am (cp rfl (aj (am (aX rfl (ai (ft _ _ rfl rfl rfl) (cM rfl (dw (fun hg5=> ?_) (fun hg5=> ?_))))))))
 ·skip
  have h:mZ b=decide ((b.toNat:Int)≤122):=by rw [Bool.eq_iff_iff,h];simp [hg5]
  refine ax rfl rfl (aH _ ek) (ax rfl rfl (wJ _ _ rfl rfl rfl) (ai (aC _ _ _ rfl bN) (cp rfl (aj (aG (rP rfl rfl ?_))))))
  exact h
 have h:mZ b=false:=GC h (fun x=> by omega)
 refine aO rfl rfl ah ?_
 refine aO rfl rfl ah ?_
 refine ai (aC _ _ _ rfl bN) (cp rfl (aj (aG (rP rfl rfl ?_))))
 exact h
theorem mD (b:UInt8):Spec Tryz.prog 222 (ba [.v (.int .u8 (b.toNat:Int))] []) (aP (.v (.bool (gH b))) []):=by
 have h:=uc b
 refine Spec.ofN Tryz.func222 rfl Tryz.ntmps222 rfl ?_
 refine am (cp rfl (aj (am (aX rfl (ai (ft _ _ rfl rfl rfl) (cM rfl (dw (fun hg5=> ?_) (fun hg5=> ?_))))))))
 ·skip
  have h:gH b=decide ((b.toNat:Int)≤57):=by rw [Bool.eq_iff_iff,h];simp [hg5]
  refine ax rfl rfl (aH _ ek) (ax rfl rfl (wJ _ _ rfl rfl rfl) (ai (aC _ _ _ rfl bN) (cp rfl (aj (aG (rP rfl rfl ?_))))))
  exact h
 have h:gH b=false:=GC h (fun x=> by omega)
 refine aO rfl rfl ah ?_
 refine aO rfl rfl ah ?_
 refine ai (aC _ _ _ rfl bN) (cp rfl (aj (aG (rP rfl rfl ?_))))
 exact h
theorem qB (l:List Tx) (n:Nat) (hn:l.length=n) (h1:n≤1000) (t:Tx):Spec Tryz.prog 224 (ba [.sl n (fj l), .v (bt t)] []) (aP (.v (.bool (decide (t∈l)))) []):=by
 refine Spec.ofN Tryz.func224 rfl Tryz.ntmps224 rfl ?_
 refine am (cp rfl (aj (aU fun K2 hK2=> ?_)))
 refine am (be rfl (aj (ay ?_)))
 refine bu (α:=Nat) (fun k=> k≤n∧t∉l.take k) 18 [(0,_),(1,_)] [] (fun k=> [(5, .v (.int .i64 (k:Int)))]) (fun k=> []) [] [] (fun k=> n - k) 0 ?_ (by
  refine Le.mkJ [] [] rfl ?_ ?_ trivial trivial ?_
  ·exact ⟨(iS rfl),(iV rfl),(cr ag),trivial⟩
  ·exact trivial
  kernel_rfl) ?_
 ·exact ⟨Nat.zero_le _,by simp⟩
 intro k hk
 obtain ⟨hk,hnt⟩:=hk
 refine aU fun K4 hK4=> ?_
 refine am (aX rfl (eV rfl (ai (bp _ aa rfl) (ai (bn _ _ rfl rfl rfl) (aj (aR rfl (fun hc9=> ?_) (fun hc9=> ?_)))))))
 ·skip
  refine br (hK4 _ ?_)
  clear hK4;try clear K4
  refine aq (ay (am (eV rfl (aX rfl (ai (bo _ _ aa rfl rfl _ rfl ab (by (simp only [aL,bf,bh,bw];omega)) (by exact Nat.mul_one _)) ?_)))))
  refine ai (bO _ aa rfl (by exact jP _ _ ab) rfl) ?_
  refine eh rfl (ai (aV _ _ Tryz.underlying9 rfl rfl rfl) (aj (aR rfl (fun hc17=> ?_) (fun hc17=> ?_))))
  ·skip
   refine am (cp rfl (aj (aG (rP rfl rfl ?_))))
   exact decide_eq_true (hc17 ▸ kv ab)
  refine cw (an (aX rfl (ai (aZ _ _ rfl rfl (bF ab)) ?_)))
  refine be rfl (aJ (⟨k+1,?_,?_,?_⟩))
  ·exact ⟨by omega,kP hnt ab hc17⟩
  ·skip
   refine Le.mkJ [] [] rfl ?_ ?_ trivial trivial ?_
   ·exact ⟨(iS rfl),(iV rfl),(cr ag),trivial⟩
   ·exact trivial
   kernel_rfl
  omega
 have hall:t∉l:=by rwa [List.take_of_length_le ab] at hnt
 refine bD (id (hK2 _ ?_))
 clear hK2;try clear K2
 refine am (cp rfl (aj (aG (rP rfl rfl ?_))))
 exact decide_eq_false hall
theorem rM (s:Tx) (at_:Nat) (h1:s.length≤100000) (ha:at_≤s.length):Spec Tryz.prog 194 (ba [.v (bt s), .v (.int .i64 (at_:Int))] []) (aP (.v (.int .i64 (kZ s at_ false:Int))) []):=by
 refine Spec.ofN Tryz.func194 rfl Tryz.ntmps194 rfl ?_
 refine am (be rfl (aj (aU fun K2 hK2=> ?_)))
 refine ay ?_
 refine bu (α:=Nat) (fun k=> k≤s.length∧kZ s k false=kZ s at_ false) 41 [(0,_)] [] (fun k=> [(1, .v (.int .i64 (k:Int)))]) (fun k=> []) [] [] (fun k=> s.length - k) at_ ?_ (by
  refine Le.mkJ [] [] rfl ?_ ?_ trivial trivial ?_
  ·exact ⟨(iV rfl),(cr ag),trivial⟩
  ·exact trivial
  kernel_rfl) ?_
 ·exact ⟨ha,rfl⟩
 intro k hk
 obtain ⟨hk,hs⟩:=hk
 refine aU fun K3 hK3=> ?_
 refine am (aX rfl (eh rfl (ai (im _ Tryz.underlying9 rfl) (ai (bn _ _ rfl rfl rfl) (aj (aR rfl (fun hc9=> ?_) (fun hc9=> ?_)))))))
 ·skip
  obtain ⟨b,hb⟩:=kK (s:=s) (a:=k) ab
  have hbi:=KY b
  refine br (hK3 _ ?_)
  clear hK3;try clear K3
  refine ay (am (eh rfl (aX rfl (ai (ln _ _ Tryz.underlying9 rfl rfl (by assumption)) ?_))))
  refine be rfl (aj (am (aX rfl (ai (bB _ _ rfl rfl rfl) (aj (aR rfl (fun hc14=> ?_) (fun hc14=> ?_)))))))
  ·skip
   have hs:=(AQ hb ab).symm.trans hs
   refine ay ?_
   refine bu (α:=Nat) (fun j=> k≤j∧j≤s.length∧kZ s j true=kZ s at_ false∧(j=k→j < s.length)) 41 [(0,_)] [] (fun j=> [(1, .v (.int .i64 (j:Int)))]) (fun j=> []) [] [] (fun j=> s.length - j) k ?_ (by
    refine Le.mkJ [] [] rfl ?_ ?_ trivial trivial ?_
    ·exact ⟨(iV rfl),(cr ag),trivial⟩
    ·exact trivial
    kernel_rfl) ?_
   ·exact ⟨Nat.le_refl _,by omega,hs,fun _=> by omega⟩
   intro j hj
   obtain ⟨hj1,hj2,hsj,hjk⟩:=hj
   refine aU fun K7 hK7=> ?_
   refine aU fun K8 hK8=> ?_
   refine an (aX rfl (eh rfl (ai (im _ Tryz.underlying9 rfl) (ai (bn _ _ rfl rfl rfl) (cM rfl (dw (fun hg19=> ?_) (fun hg19=> ?_)))))))
   ·skip
    obtain ⟨u,hu⟩:=kK (s:=s) (a:=j) ab
    have hui:=KY u
    refine ax rfl rfl (aH _ xo) (ax rfl rfl (aH _ ek) (ax rfl rfl (ln _ _ Tryz.underlying9 rfl rfl (by assumption)) ?_))
    refine ax rfl rfl (bT _ _ rfl rfl rfl) (ai (aC _ _ _ rfl bN) (aJ (hK8 _ ?_)))
    clear hK8;try clear K8
    refine aR rfl (fun hc24=> ?_) (fun hc24=> ?_)
    ·skip
     refine br (hK7 _ ?_)
     clear hK7;try clear K7
     refine ay (an (aX rfl (ai (aZ _ _ rfl rfl (bF ab)) ?_)))
     refine be rfl (aJ (⟨j+1,?_,?_,?_⟩))
     ·exact ⟨by omega,by omega,(HD hu ab).symm.trans hsj,fun _=> by omega⟩
     ·skip
      refine Le.mkJ [] [] rfl ?_ ?_ trivial trivial ?_
      ·exact ⟨(iV rfl),(cr ag),trivial⟩
      ·exact trivial
      kernel_rfl
     omega
    have hjs:kZ s j false=kZ s at_ false:=by rw [← hsj,HS hu ab]
    have hjk':k < j:=Nat.lt_of_le_of_ne hj1 fun e=> by subst e;rw [hb] at hu;obtain rfl:=Option.some.inj hu;omega
    refine bD (id (⟨j,?_,?_,?_⟩))
    ·exact ⟨hj2,hjs⟩
    ·skip
     refine Le.mkJ [] [] rfl ?_ ?_ trivial trivial ?_
     ·exact ⟨(iV rfl),(cr ag),trivial⟩
     ·exact trivial
     kernel_rfl
    omega
   have hjs:kZ s j false=kZ s at_ false:=by rw [← hsj,sw ab,sw ab]
   have hjk':k < j:=Nat.lt_of_le_of_ne hj1 fun e=> by have:=hjk e.symm;omega
   refine aO rfl rfl ah ?_
   refine aO rfl rfl ah ?_
   refine aO rfl rfl ah ?_
   refine aO rfl rfl ah ?_
   refine ai (aC _ _ _ rfl bN) (aJ (hK8 _ ?_))
   clear hK8;try clear K8
   refine aW rfl rfl (bD (id (⟨j,?_,?_,?_⟩)))
   ·exact ⟨hj2,hjs⟩
   ·skip
    refine Le.mkJ [] [] rfl ?_ ?_ trivial trivial ?_
    ·exact ⟨(iV rfl),(cr ag),trivial⟩
    ·exact trivial
    kernel_rfl
   omega
  refine am (aX rfl (ai (bB _ _ rfl rfl rfl) (cM rfl (dw (fun hg29=> ?_) (fun hg29=> ?_)))))
  ·skip
   have hs2:kZ s (k+1) false=kZ s at_ false:=(we hb ab ab).symm.trans hs
   refine aO rfl rfl ah ?_
   refine aO rfl rfl ah ?_
   refine ai (aC _ _ _ rfl bN) (cM rfl (aO rfl rfl ah ?_))
   refine aO rfl rfl ah ?_
   refine ai (aC _ _ _ rfl bN) (aj (bL rfl rfl ?_))
   refine aN (σ':=aE 41 [(0,_),(1,_)] [] [] []) kp ?_
   refine an (aX rfl (ai (aZ _ _ rfl rfl (bF ab)) ?_))
   refine be rfl (aJ (⟨k+1,?_,?_,?_⟩))
   ·exact ⟨by omega,hs2⟩
   ·skip
    refine Le.mkJ [] [] rfl ?_ ?_ trivial trivial ?_
    ·exact ⟨(iV rfl),(cr ag),trivial⟩
    ·exact trivial
    kernel_rfl
   omega
  refine ax rfl rfl (aH _ ek) (ax rfl rfl (bB _ _ rfl rfl rfl) (ai (aC _ _ _ rfl bN) (cM rfl (dw (fun hg33=> ?_) (fun hg33=> ?_)))))
  ·skip
   have hs2:kZ s (k+1) false=kZ s at_ false:=(we hb ab ab).symm.trans hs
   refine aO rfl rfl ah ?_
   refine aO rfl rfl ah ?_
   refine ai (aC _ _ _ rfl bN) (aj (bL rfl rfl ?_))
   refine aN (σ':=aE 41 [(0,_),(1,_)] [] [] []) kp ?_
   refine an (aX rfl (ai (aZ _ _ rfl rfl (bF ab)) ?_))
   refine be rfl (aJ (⟨k+1,?_,?_,?_⟩))
   ·exact ⟨by omega,hs2⟩
   ·skip
    refine Le.mkJ [] [] rfl ?_ ?_ trivial trivial ?_
    ·exact ⟨(iV rfl),(cr ag),trivial⟩
    ·exact trivial
    kernel_rfl
   omega
  refine ax rfl rfl (aH _ ek) (ax rfl rfl (bB _ _ rfl rfl rfl) (ai (aC _ _ _ rfl bN) (aj (aR rfl (fun hc36=> ?_) (fun hc36=> ?_)))))
  ·skip
   have hs2:kZ s (k+1) false=kZ s at_ false:=(we hb ab ab).symm.trans hs
   refine aN (σ':=aE 41 [(0,_),(1,_)] [] [] []) kp ?_
   refine an (aX rfl (ai (aZ _ _ rfl rfl (bF ab)) ?_))
   refine be rfl (aJ (⟨k+1,?_,?_,?_⟩))
   ·exact ⟨by omega,hs2⟩
   ·skip
    refine Le.mkJ [] [] rfl ?_ ?_ trivial trivial ?_
    ·exact ⟨(iV rfl),(cr ag),trivial⟩
    ·exact trivial
    kernel_rfl
   omega
  have hs3:=(EA hb ab ab).symm.trans hs
  refine aq ?_
  refine aN (σ':=aE 41 [(1,_)] [] [] []) kp ?_
  refine an (aX rfl (be rfl (aj (aG (rx rfl rfl ?_)))))
  rw [hs3]
 refine bD (id (hK2 _ ?_))
 clear hK2;try clear K2
 refine am (aX rfl (be rfl (aj (aG (rx rfl rfl ?_)))))
 rw [← hs,sw ab]
theorem qo (s:Tx) (h1:s.length≤100000) (hd: ∀ b∈s,gH b=true) (hv:ld s≤2147483647):Spec Tryz.prog 223 (ba [.v (bt s)] []) (aP (.v (.int .i64 (ld s:Int))) []):=by
 have hvt:=fun i=> xX s i
 refine Spec.ofN Tryz.func223 rfl Tryz.ntmps223 rfl ?_
 refine am (be rfl (aj (am (be rfl (aj (aU fun K3 hK3=> ?_))))))
 refine am (be rfl (aj (ay ?_)))
 refine bu (α:=Nat) (fun k=> k≤s.length) 22 [(0,_)] [] (fun k=> [(3, .v (.int .i64 (ld (s.take k):Int))),(4, .v (.int .i64 (k:Int)))]) (fun k=> []) [] [] (fun k=> s.length - k) 0 ?_ (by
  refine Le.mkJ [] [] rfl ?_ ?_ trivial trivial ?_
  ·exact ⟨(iV rfl),(cr ag),(cr ag),trivial⟩
  ·exact trivial
  kernel_rfl) ?_
 ·omega
 intro k hk
 refine aU fun K5 hK5=> ?_
 refine am (aX rfl (eh rfl (ai (im _ Tryz.underlying9 rfl) (ai (bn _ _ rfl rfl rfl) (aj (aR rfl (fun hc8=> ?_) (fun hc8=> ?_)))))))
 ·skip
  obtain ⟨b,hb⟩:=kK (s:=s) (a:=k) ab
  have hbi:=KY b
  have hbd:=(uc b).1 (hd b (List.mem_of_getElem? hb))
  have hvs:=xS hb
  have hv0:=hvt k
  have hv1:=hvt (k+1)
  have hvi:(10:Int)*(ld (s.take k):Int)+(b.toNat:Int) - 48=(ld (s.take (k+1)):Int):=by omega
  refine br (hK5 _ ?_)
  clear hK5;try clear K5
  refine aq (ay (am (aX rfl (ai (AU _ _ rfl rfl (bF ab)) ?_))))
  refine eh rfl (aX rfl (ai (ln _ _ Tryz.underlying9 rfl rfl (by assumption)) ?_))
  refine ai (sg _ Tryz.underlying5 Tryz.underlying3 rfl (bF ab)) ?_
  refine ai (aZ _ _ rfl rfl (bF ab)) ?_
  refine ai (kR _ _ rfl rfl (bF ab)) ?_
  refine be rfl (aj (am (aX rfl (ai (gx _ _ rfl rfl rfl) (aj (aW rfl (decide_eq_false ab) ?_))))))
  refine cw ?_
  refine aN (σ':=aE 22 [(0,_),(3,_),(4,_)] [] [] []) kp ?_
  refine an (aX rfl (ai (aZ _ _ rfl rfl (bF ab)) ?_))
  refine be rfl (aJ (⟨k+1,?_,?_,?_⟩))
  ·omega
  ·skip
   refine Le.mkJ [] [] rfl ?_ ?_ trivial trivial ?_
   ·exact ⟨(iV rfl),(cr ab),(cr ag),trivial⟩
   ·exact trivial
   kernel_rfl
  omega
 have he:s.take k=s:=List.take_of_length_le ab
 refine bD (id (hK3 _ ?_))
 clear hK3;try clear K3
 refine am (aX rfl (be rfl (aj (aG (rx rfl rfl ?_)))))
 rw [he]

theorem Cn {p:UInt8→Bool} {c:UInt8}: ∀ {l:List UInt8},c∈l.takeWhile p→p c=true
 | [],h=> by simp at h
 | x::l,h=> by
  rw [List.takeWhile_cons] at h
  split at h
  ·rename_i hx
   rcases List.mem_cons.1 h with rfl | h
   ·exact hx
   exact Cn h
  simp at h
def va (c:UInt8):Bool:=mZ c || gH c
theorem rK {s:Tx} {a:Nat} {b:UInt8} {t:Tk} (hb:s[a]? =some b) (h1:mZ b=true) (h:qX (s.drop a) a=some t):lR va s (a+1) - a≤10∧t=⟨1,a,(s.drop a).take (lR va s (a+1) - a),0⟩:=by
 rw [uk hb]
 rw [gp hb,qX] at h
 simp only [h1,if_true] at h
 rw [show lR va s (a+1) - a=(b::(s.drop (a+1)).takeWhile fun x=> mZ x || gH x).length by unfold lR va;rw [List.length_cons];omega]
 split at h
 ·cases h
 rename_i hl;exact ⟨by omega,(Option.some.inj h).symm⟩
theorem uV {s:Tx} {a:Nat} {b:UInt8} {t:Tk} (hb:s[a]? =some b) (h1:mZ b=false) (h2:gH b=true) (h:qX (s.drop a) a=some t):
  (∀ c∈(s.drop a).take (lR gH s (a+1) - a),gH c=true)∧ld ((s.drop a).take (lR gH s (a+1) - a))≤2147483647∧t=⟨2,a,(s.drop a).take (lR gH s (a+1) - a),ld ((s.drop a).take (lR gH s (a+1) - a))⟩:=by
 rw [uk hb]
 rw [gp hb,qX] at h
 simp only [h1,h2,if_true] at h
 simp only [Bool.false_eq_true,if_false] at h
 split at h
 ·cases h
 rename_i hl
 refine ⟨fun c hc=> ?_,by omega,(Option.some.inj h).symm⟩
 rcases List.mem_cons.1 hc with rfl | hc
 ·exact h2
 exact Cn hc
theorem vn {s:Tx} {a:Nat} {b:UInt8} {t:Tk} (hb:s[a]? =some b) (h1:mZ b=false) (h2:gH b=false) (h:qX (s.drop a) a=some t):
  ((s.drop a).take 2∈DU∧t=⟨3,a,(s.drop a).take 2,0⟩)∨((s.drop a).take 2∉DU∧(s.drop a).take 1∈HZ∧t=⟨3,a,(s.drop a).take 1,0⟩):=by
 rw [gp hb,qX] at h
 simp only [h1,h2,Bool.false_eq_true,if_false] at h
 rw [gp hb]
 split at h
 ·rename_i hm;exact .inl ⟨hm,(Option.some.inj h).symm⟩
 rename_i hm
 split at h
 ·rename_i hs;exact .inr ⟨hm,hs,(Option.some.inj h).symm⟩
 cases h
theorem zq {s:Tx} {a:Nat} (h:a < s.length):(s.drop a).take (min (a+2) s.length - a)=(s.drop a).take 2:=by
 by_cases h2:a+2≤s.length
 ·congr 1;omega
 rw [List.take_of_length_le (by rw [List.length_drop];omega),List.take_of_length_le (by rw [List.length_drop];omega)]
theorem vV (s:Tx) (a:Nat) (h1:s.length≤100000) (ha:a < s.length) (t:Tk) (ht:qX (s.drop a) a=some t):
  Spec Tryz.prog 195 (ba [.v (bt s), .v (.int .i64 (a:Int))] []) (aP (.tup [.agg [.v (.int .i64 (t.k:Int)), .v (.int .i64 (t.a:Int)), .v (bt t.t), .v (.int .i64 (t.n:Int))], .v (.int .i64 0)]) []):=by
 obtain ⟨b,hb⟩:=kK ha
 have hwl:=te (p:=va) (s:=s) (a:=a+1) ab
 have hdl:=te (p:=gH) (s:=s) (a:=a+1) ab
 refine Spec.ofN Tryz.func195 rfl Tryz.ntmps195 rfl ?_
 refine am (ai (aD (4,0) aa rfl rfl) (be rfl (aj (am (aX rfl (ai (aZ _ _ rfl rfl (bF ab)) ?_))))))
 refine be rfl (aj (aq (am (eh rfl (aX rfl (ai (ln _ _ Tryz.underlying9 rfl rfl (by assumption)) ?_))))))
 refine ai (aI aa al (pj b) rfl rfl) ?_
 refine aj (aR rfl (fun hc15=> ?_) (fun hc15=> ?_))
 ·skip
  obtain ⟨htl,hte⟩:=rK hb hc15 ht
  refine aU fun K5 hK5=> ?_
  refine ay ?_
  refine bu (α:=Nat) (fun e=> a+1≤e∧e≤s.length∧lR va s e=lR va s (a+1)) 101 [(0,_),(1,_),(4,_)] [((4,0),_)] (fun e=> [(6, .v (.int .i64 (e:Int)))]) (fun e=> []) [] [] (fun e=> s.length - e) (a+1) ?_ (by
   refine Le.mkJ [] [] rfl ?_ ?_ trivial trivial ?_
   ·exact ⟨(iV rfl),(iV rfl),(iP rfl),(cr ag),trivial⟩
   ·exact ⟨(cm rfl rfl rfl),trivial⟩
   kernel_rfl) ?_
  ·exact ⟨Nat.le_refl _,by omega,rfl⟩
  intro e he
  obtain ⟨he1,he2,het⟩:=he
  refine aU fun K6 hK6=> ?_
  refine aU fun K7 hK7=> ?_
  refine an (aX rfl (eh rfl (ai (im _ Tryz.underlying9 rfl) (ai (bn _ _ rfl rfl rfl) (cM rfl (dw (fun hg20=> ?_) (fun hg20=> ?_)))))))
  ·skip
   obtain ⟨u,hu⟩:=kK (s:=s) (a:=e) ab
   refine ax rfl rfl (aH _ xo) (ax rfl rfl (aH _ ek) (ax rfl rfl (ln _ _ Tryz.underlying9 rfl rfl (by assumption)) ?_))
   refine ax rfl rfl (aI aa al (pj u) rfl rfl) ?_
   refine ax rfl rfl (aH _ bN) (dw (fun hg25=> ?_) (fun hg25=> ?_))
   ·skip
    have hnx:lR va s (e+1)=lR va s (a+1):=(tz hu (by unfold va;rw [hg25];rfl)).symm.trans het
    refine aO rfl rfl ah ?_
    refine aO rfl rfl ah ?_
    refine aO rfl rfl ah ?_
    refine aO rfl rfl ah ?_
    refine ax rfl rfl (aC _ _ _ rfl bN) (ai (aC _ _ _ rfl bN) (aJ (hK7 _ ?_)))
    clear hK7;try clear K7
    refine bL rfl rfl (br (hK6 _ ?_))
    clear hK6;try clear K6
    refine ay ?_
    refine aN (σ':=aE 101 [(0,_),(1,_),(4,_),(6,_)] [((4,0),_)] [] []) kp ?_
    refine an (aX rfl (ai (aZ _ _ rfl rfl (bF ab)) ?_))
    refine be rfl (aJ (⟨e+1,?_,?_,?_⟩))
    ·exact ⟨by omega,by omega,hnx⟩
    ·skip
     refine Le.mkJ [] [] rfl ?_ ?_ trivial trivial ?_
     ·exact ⟨(iV rfl),(iV rfl),(iP rfl),(cr ag),trivial⟩
     ·exact ⟨(cm rfl rfl rfl),trivial⟩
     kernel_rfl
    omega
   refine ax rfl rfl (aH _ xo) (ax rfl rfl (aH _ ek) (ax rfl rfl (ln _ _ Tryz.underlying9 rfl rfl (by assumption)) ?_))
   refine ax rfl rfl (aI aa al (mD u) rfl rfl) ?_
   refine ax rfl rfl (aC _ _ _ rfl bN) (ai (aC _ _ _ rfl bN) (aJ (hK7 _ ?_)))
   clear hK7;try clear K7
   refine aR rfl (fun hc31=> ?_) (fun hc31=> ?_)
   ·skip
    have hnx:lR va s (e+1)=lR va s (a+1):=(tz hu (by unfold va;rw [hg25,hc31];rfl)).symm.trans het
    refine br (hK6 _ ?_)
    clear hK6;try clear K6
    refine ay ?_
    refine aN (σ':=aE 101 [(0,_),(1,_),(4,_),(6,_)] [((4,0),_)] [] []) kp ?_
    refine an (aX rfl (ai (aZ _ _ rfl rfl (bF ab)) ?_))
    refine be rfl (aJ (⟨e+1,?_,?_,?_⟩))
    ·exact ⟨by omega,by omega,hnx⟩
    ·skip
     refine Le.mkJ [] [] rfl ?_ ?_ trivial trivial ?_
     ·exact ⟨(iV rfl),(iV rfl),(iP rfl),(cr ag),trivial⟩
     ·exact ⟨(cm rfl rfl rfl),trivial⟩
     kernel_rfl
    omega
   have hfin:e=lR va s (a+1):=(zM hu (by unfold va;rw [hg25,hc31];rfl)).symm.trans het
   refine bD (id (hK5 _ ?_))
   clear hK5;try clear K5
   refine aq (aq ?_)
   refine aN (σ':=aE 101 [(0,_),(1,_),(4,_),(6,_)] [((4,0),_)] [] []) kp ?_
   refine an (aX rfl (aX rfl (ai (kR _ _ rfl rfl (bF ab)) ?_)))
   refine ai (gx _ _ rfl rfl rfl) (aj (aW rfl (decide_eq_false ab) ?_))
   refine aS (am (aX rfl (eh rfl (aX rfl (aX rfl (ai (lO _ _ _ Tryz.underlying9 rfl _ _ (.lit rfl rfl) (.lit rfl rfl) ab ab rfl) ?_))))))
   refine ai (aM _ aa rfl (by exact kH)) ?_
   refine bG rfl rfl rfl rfl rfl rfl (be rfl (aj (aG ?_)))
   subst hte;subst hfin
   exact jT (.inr rfl) rfl (.cellA aa rfl rfl rfl) (.tmp kN) (Le.out [] [] (.tup rfl lz) rfl rfl rfl trivial trivial)
  have hfin:e=lR va s (a+1):=(xu ab).symm.trans het
  refine aO rfl rfl ah ?_
  refine aO rfl rfl ah ?_
  refine aO rfl rfl ah ?_
  refine aO rfl rfl ah ?_
  refine aO rfl rfl ah ?_
  refine gQ rfl rfl (gQ rfl rfl (gQ rfl rfl (gQ rfl rfl (aO rfl rfl ah ?_))))
  refine ai (aC _ _ _ rfl bN) (aJ (hK7 _ ?_))
  clear hK7;try clear K7
  refine aW rfl rfl (bD (id (hK5 _ ?_)))
  clear hK5;try clear K5
  refine aq (aq ?_)
  refine aN (σ':=aE 101 [(0,_),(1,_),(4,_),(6,_)] [((4,0),_)] [] []) kp ?_
  refine an (aX rfl (aX rfl (ai (kR _ _ rfl rfl (bF ab)) ?_)))
  refine ai (gx _ _ rfl rfl rfl) (aj (aW rfl (decide_eq_false ab) ?_))
  refine aS (am (aX rfl (eh rfl (aX rfl (aX rfl (ai (lO _ _ _ Tryz.underlying9 rfl _ _ (.lit rfl rfl) (.lit rfl rfl) ab ab rfl) ?_))))))
  refine ai (aM _ aa rfl (by exact kH)) ?_
  refine bG rfl rfl rfl rfl rfl rfl (be rfl (aj (aG ?_)))
  subst hte;subst hfin
  exact jT (.inr rfl) rfl (.cellA aa rfl rfl rfl) (.tmp kN) (Le.out [] [] (.tup rfl lz) rfl rfl rfl trivial trivial)
 have hlb:=hc15
 refine aS (aq (am (eh rfl (aX rfl (ai (ln _ _ Tryz.underlying9 rfl rfl (by assumption)) ?_)))))
 refine ai (aI aa al (mD b) rfl rfl) ?_
 refine aj (aR rfl (fun hc48=> ?_) (fun hc48=> ?_))
 ·skip
  obtain ⟨htd,htv,hte⟩:=uV hb hlb hc48 ht
  refine aU fun K16 hK16=> ?_
  refine ay ?_
  refine bu (α:=Nat) (fun e=> a+1≤e∧e≤s.length∧lR gH s e=lR gH s (a+1)) 101 [(0,_),(1,_),(4,_)] [((4,0),_)] (fun e=> [(6, .v (.int .i64 (e:Int)))]) (fun e=> []) [] [] (fun e=> s.length - e) (a+1) ?_ (by
   refine Le.mkJ [] [] rfl ?_ ?_ trivial trivial ?_
   ·exact ⟨(iV rfl),(iV rfl),(iP rfl),(cr ag),trivial⟩
   ·exact ⟨(cm rfl rfl rfl),trivial⟩
   kernel_rfl) ?_
  ·exact ⟨Nat.le_refl _,by omega,rfl⟩
  intro e he
  obtain ⟨he1,he2,het⟩:=he
  refine aU fun K17 hK17=> ?_
  refine aU fun K18 hK18=> ?_
  refine an (aX rfl (eh rfl (ai (im _ Tryz.underlying9 rfl) (ai (bn _ _ rfl rfl rfl) (cM rfl (dw (fun hg53=> ?_) (fun hg53=> ?_)))))))
  ·skip
   obtain ⟨u,hu⟩:=kK (s:=s) (a:=e) ab
   refine ax rfl rfl (aH _ xo) (ax rfl rfl (aH _ ek) (ax rfl rfl (ln _ _ Tryz.underlying9 rfl rfl (by assumption)) ?_))
   refine ax rfl rfl (aI aa al (mD u) rfl rfl) ?_
   refine ai (aC _ _ _ rfl bN) (aJ (hK18 _ ?_))
   clear hK18;try clear K18
   refine aR rfl (fun hc58=> ?_) (fun hc58=> ?_)
   ·skip
    have hnx:lR gH s (e+1)=lR gH s (a+1):=(tz hu hc58).symm.trans het
    refine br (hK17 _ ?_)
    clear hK17;try clear K17
    refine ay (an (aX rfl (ai (aZ _ _ rfl rfl (bF ab)) ?_)))
    refine be rfl (aJ (⟨e+1,?_,?_,?_⟩))
    ·exact ⟨by omega,by omega,hnx⟩
    ·skip
     refine Le.mkJ [] [] rfl ?_ ?_ trivial trivial ?_
     ·exact ⟨(iV rfl),(iV rfl),(iP rfl),(cr ag),trivial⟩
     ·exact ⟨(cm rfl rfl rfl),trivial⟩
     kernel_rfl
    omega
   have hfin:e=lR gH s (a+1):=(zM hu hc58).symm.trans het
   refine bD (id (hK16 _ ?_))
   clear hK16;try clear K16
   refine am (eh rfl (aX rfl (aX rfl (ai (lO _ _ _ Tryz.underlying9 rfl _ _ (.lit rfl rfl) (.lit rfl rfl) ab ab rfl) ?_))))
   refine ai (aI aa al (qo ((s.drop a).take (e - a)) (by simp;omega) (by rw [hfin];exact htd) (by rw [hfin];exact htv)) rfl rfl) ?_
   refine be rfl (aj (aq (aq ?_)))
   refine aN (σ':=aE 101 [(0,_),(1,_),(4,_),(6,_),(7,_)] [((4,0),_)] [] []) kp ?_
   refine an (aX rfl (ai (bn _ _ rfl rfl rfl) (aj (aW rfl (decide_eq_false ab) ?_))))
   refine aS (am (aX rfl (eh rfl (aX rfl (aX rfl (ai (lO _ _ _ Tryz.underlying9 rfl _ _ (.lit rfl rfl) (.lit rfl rfl) ab ab rfl) ?_))))))
   refine aX rfl (ai (aM _ aa rfl (by exact kH)) ?_)
   refine bG rfl rfl rfl rfl rfl rfl (be rfl (aj (aG ?_)))
   subst hte;subst hfin
   exact jT (.inr rfl) rfl (.cellA aa rfl rfl rfl) (.tmp kN) (Le.out [] [] (.tup rfl lz) rfl rfl rfl trivial trivial)
  have hfin:e=lR gH s (a+1):=(xu ab).symm.trans het
  refine aO rfl rfl ah ?_
  refine aO rfl rfl ah ?_
  refine aO rfl rfl ah ?_
  refine aO rfl rfl ah ?_
  refine ai (aC _ _ _ rfl bN) (aJ (hK18 _ ?_))
  clear hK18;try clear K18
  refine aW rfl rfl (bD (id (hK16 _ ?_)))
  clear hK16;try clear K16
  refine am (eh rfl (aX rfl (aX rfl (ai (lO _ _ _ Tryz.underlying9 rfl _ _ (.lit rfl rfl) (.lit rfl rfl) ab ab rfl) ?_))))
  refine ai (aI aa al (qo ((s.drop a).take (e - a)) (by simp;omega) (by rw [hfin];exact htd) (by rw [hfin];exact htv)) rfl rfl) ?_
  refine be rfl (aj (aq (aq ?_)))
  refine aN (σ':=aE 101 [(0,_),(1,_),(4,_),(6,_),(7,_)] [((4,0),_)] [] []) kp ?_
  refine an (aX rfl (ai (bn _ _ rfl rfl rfl) (aj (aW rfl (decide_eq_false ab) ?_))))
  refine aS (am (aX rfl (eh rfl (aX rfl (aX rfl (ai (lO _ _ _ Tryz.underlying9 rfl _ _ (.lit rfl rfl) (.lit rfl rfl) ab ab rfl) ?_))))))
  refine aX rfl (ai (aM _ aa rfl (by exact kH)) ?_)
  refine bG rfl rfl rfl rfl rfl rfl (be rfl (aj (aG ?_)))
  subst hte;subst hfin
  exact jT (.inr rfl) rfl (.cellA aa rfl rfl rfl) (.tmp kN) (Le.out [] [] (.tup rfl lz) rfl rfl rfl trivial trivial)
 have hsy:=vn hb hlb hc48 ht
 refine aS (am (eh rfl (aX rfl (aX rfl (ai (aZ _ _ rfl rfl (bF ab)) ?_)))))
 refine eh rfl (ai (im _ Tryz.underlying9 rfl) (ai (AN _ _ rfl rfl rfl) (ai (lO _ _ _ Tryz.underlying9 rfl a (min (a+2) s.length) (.lit rfl rfl) (.lit rfl ab) ab ab (zq ha)) ?_)))
 refine oP rfl (aj (aq (aq ?_)))
 refine aN (σ':=aE 101 [(0,_),(1,_),(4,_),(6,_),(8,_)] [((4,0),_)] [] []) kp ?_
 refine an (ai (bi _ _ aa rfl ag (by (simp <;> rfl)) ah rfl) ?_)
 refine eh rfl (ai (aI aa al (qB DU 6 rfl ab ((s.drop a).take 2)) rfl rfl) ?_)
 refine aj (aR rfl (fun hc86=> ?_) (fun hc86=> ?_))
 ·skip
  have hte:t=⟨3,a,(s.drop a).take 2,0⟩:=hsy.elim (·.2) fun h=> absurd hc86 h.1
  refine am (aX rfl (eh rfl (ai (aM _ aa rfl (by exact kH)) ?_)))
  refine bG rfl rfl rfl rfl rfl rfl (be rfl (aj (aG ?_)))
  subst hte
  exact jT (.inr rfl) rfl (.cellA aa rfl rfl rfl) (.tmp kN) (Le.out [] [] (.tup rfl lz) rfl rfl rfl trivial trivial)
 obtain ⟨_,hs1,hte⟩:=hsy.resolve_left fun h=> hc86 h.1
 refine aS (am (eh rfl (aX rfl (aX rfl (ai (lO _ _ _ Tryz.underlying9 rfl a (a+1) (.lit rfl rfl) (.lit rfl rfl) ab ab (by rw [Nat.add_sub_cancel_left])) ?_)))))
 refine oP rfl (aj (aq (am (ai (bi _ _ aa rfl ag (by (simp <;> rfl)) ah rfl) ?_))))
 refine eh rfl (ai (aI aa al (qB HZ 16 rfl ab ((s.drop a).take 1)) rfl rfl) ?_)
 refine aj (bL rfl (decide_eq_true hs1) ?_)
 refine am (aX rfl (eh rfl (ai (aM _ aa rfl (by exact kH)) ?_)))
 refine bG rfl rfl rfl rfl rfl rfl (be rfl (aj (aG ?_)))
 subst hte
 exact jT (.inr rfl) rfl (.cellA aa rfl rfl rfl) (.tmp kN) (Le.out [] [] (.tup rfl lz) rfl rfl rfl trivial trivial)
theorem mA {f:Nat} {s:Tx} {a:Nat} {l:List Tk} (h:nf (f+1) s a=some l):(s.length≤a∧l=[⟨0,s.length,[],0⟩])∨(a < s.length∧ ∃ t m,qX (s.drop a) a=some t∧nf f s (kZ s (a+t.t.length) false)=some m∧l=t::m):=by
 unfold nf at h
 split at h
 ·exact .inl ⟨by assumption,(Option.some.inj h).symm⟩
 split at h
 ·cases h
 split at h
 ·cases h
 rename_i t ht _ m hm
 exact .inr ⟨by omega,t,m,ht,hm,(Option.some.inj h).symm⟩
theorem uz {s:Tx} {a:Nat} {t:Tk} (ha:a < s.length) (h:qX (s.drop a) a=some t):0 < t.t.length∧a+t.t.length≤s.length:=by
 obtain ⟨b,hb⟩:=kK ha
 have key: ∀ k,0 < k→0 < ((s.drop a).take k).length∧a+((s.drop a).take k).length≤s.length:=fun k hk=> by rw [List.length_take,List.length_drop];omega
 cases h1:mZ b with
 | true=> obtain ⟨_,rfl⟩:=rK hb h1 h;exact key _ (by have:=te (p:=va) (s:=s) (a:=a+1) ab;omega)
 | false=>
  cases h2:gH b with
  | true=> obtain ⟨_,_,rfl⟩:=uV hb h1 h2 h;exact key _ (by have:=te (p:=gH) (s:=s) (a:=a+1) ab;omega)
  | false=>
   rcases vn hb h1 h2 h with ⟨_,rfl⟩ | ⟨_,_,rfl⟩
   ·exact key _ ab
   exact key _ ab
def Hy (s:Tx) (l:List Tk) (z:Nat×List Tk):Prop:=z.1≤s.length∧z.2.length≤z.1∧ ∃ f m,nf f s z.1=some m∧l=z.2++m
theorem tO (s:Tx) (h1:s.length≤100000) (l:List Tk) (hl:Eh s=some l):
  Spec Tryz.prog 159 (ba [.v (bt s)] []) (aP (.tup [.sl l.length (sM l), .v (.int .i64 0), .v (.int .i64 0)]) []):=by
 have hs0:=wI (s:=s) (a:=0) (Nat.zero_le _) false
 refine Spec.ofN Tryz.func159 rfl Tryz.ntmps159 rfl ?_
 refine am (ai (bq _ fA) (be rfl (be rfl (aj (am (ai (th (5,0) _ 225 4 rfl rfl) ?_))))))
 refine aj (am (eh rfl (ai (aI aa al (rM s 0 h1 (Nat.zero_le _)) rfl rfl) ?_)))
 refine be rfl (aj (aU fun K4 hK4=> ?_))
 refine ay ?_
 refine bu (α:=Nat×List Tk) (fun z=> Hy s l z) 42 [(0,_)] [] (fun z=> [(6, .v (.int .i64 (z.1:Int))),(5, .ref (5,0) 0 z.2.length)]) (fun z=> [((5,0), .row 225 4 (sM z.2))]) [] [] (fun z=> s.length - z.1) (kZ s 0 false,[]) ?_ (by
  refine Le.mkJ [] [] rfl ?_ ?_ trivial trivial ?_
  ·exact ⟨(iV rfl),(cr ag),(cP rfl ag),trivial⟩
  ·exact ⟨(fg rfl rfl rfl ag),trivial⟩
  kernel_rfl) ?_
 ·exact ⟨hs0.2,Nat.zero_le _,s.length+1,l,by rw [← hl];unfold Eh kZ;rw [List.drop_zero,Nat.zero_add],rfl⟩
 intro z hz
 obtain ⟨hz1,hz2,f,m,hf,hlm⟩:=hz
 obtain ⟨f,rfl⟩: ∃ g,f=g+1:=by cases f with | zero=> (simp [nf] at hf) | succ g=> exact ⟨g,rfl⟩
 refine aU fun K5 hK5=> ?_
 refine am (aX rfl (eh rfl (ai (im _ Tryz.underlying9 rfl) (ai (bn _ _ rfl rfl rfl) (aj (aR rfl (fun hc14=> ?_) (fun hc14=> ?_)))))))
 ·skip
  obtain ⟨_,t,m',ht,hm',hm⟩:=(mA hf).resolve_left fun h=> by omega
  obtain ⟨htl,hta⟩:=uz ab ht
  have hsk:=wI (s:=s) (a:=z.1+t.t.length) hta false
  have hlen:(z.2++[t]).length=z.2.length+1:=by simp
  refine br (hK5 _ ?_)
  clear hK5;try clear K5
  refine ay (am (eh rfl (aX rfl (ai (aI aa al (vV s z.1 h1 ab t ht) rfl rfl) ?_))))
  refine ai (aH _ tN) (ai (cq _ rfl pE) (ai (cq _ rfl ei) (ai (aD (7,0) aa rfl rfl) (bG rfl rfl rfl rfl rfl rfl (be rfl (aj (aq (am (aX rfl (ai (bT (r:=false) _ _ rfl rfl rfl) ?_))))))))))
  refine aj (aW rfl rfl (aS (aq ?_)))
  refine aN (σ':=aE 42 [(0,_),(5,_),(6,_),(7,_)] [((5,0),_),((7,0),_)] [] []) kp ?_
  refine an (gK rfl (ai (az _ aa rfl rfl rfl rfl) (ai (bi _ _ aa rfl ag (by (simp <;> rfl)) ah rfl) ?_)))
  refine ai (du (28,0) _ _ aa rfl rfl (bv _).symm (.sl rfl) ab rfl (tZ _ _) hlen.symm) ?_
  refine fh rfl (aj (an (eh rfl (aX rfl (bb rfl rfl rfl (ai (aF _ aa rfl rfl fy) (ai (im _ Tryz.underlying9 rfl) (ai (aZ _ _ rfl rfl (bF ab)) ?_))))))))
  refine ai (aI aa al (rM s (z.1+t.t.length) h1 hta) rfl rfl) ?_
  refine be rfl (aJ (⟨(kZ s (z.1+t.t.length) false,z.2++[t]),?_,?_,?_⟩))
  ·exact ⟨hsk.2,by simp only;omega,f,m',hm',by rw [hlm,hm];simp⟩
  ·skip
   refine Le.mkJ [((5,0),(28,0))] [] rfl ?_ ?_ trivial trivial ?_
   ·exact ⟨(by repeat' (exact Lv.v)),(cr ag),(cP rfl ag),trivial⟩
   ·exact ⟨(fg rfl rfl rfl ag),trivial⟩
   kernel_rfl
  simp only;omega
 obtain ⟨_,hm⟩:=(mA hf).resolve_right fun h=> by omega
 have hlen:(z.2++[(⟨0,s.length,[],0⟩:Tk)]).length=z.2.length+1:=by simp
 rw [hm] at hlm;subst hlm
 refine bD (id (hK4 _ ?_))
 clear hK4;try clear K4
 refine am (gK rfl (eh rfl (ai (im _ Tryz.underlying9 rfl) (ai (aM _ aa rfl (by exact kH)) ?_))))
 refine ai (bi _ _ aa rfl ag (by (simp <;> rfl)) ah rfl) ?_
 refine ai (du (41,0) _ _ aa rfl rfl (bv _).symm (.sl rfl) ab rfl (tZ _ ⟨0,s.length,[],0⟩) hlen.symm) ?_
 exact fh rfl (be rfl (be rfl (aj (aG (wr (.inr rfl) rfl (.tmp dV) (.tmp kN) (.tmp kN) (Le.out [] [(41,0)] (.tup rfl (au (fe rfl rfl (bv _).symm rfl) lz)) rfl rfl rfl tr trivial))))))
end Go.Proofs.YtmjnackchaahbaaGreat
