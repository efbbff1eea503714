/- Part 8 of the texts that the walk leans on: the machine, the walks, the plain laws. -/
import Derived.Test.YtmjnackchaahbaaGreatNkZ7
set_option linter.unusedSimpArgs false
set_option linter.unusedVariables false
namespace Go.Proofs.YtmjnackchaahbaaGreat
open Go.RowKit

def fB:Ex→Nat
 | .int _=> 1 | .bool _=> 2 | .var _=> 1 | .name _=> 1
 | .draw e=> if fB e=1 then 1 else 0
 | .neg e=> if fB e=1 then 1 else 0
 | .not e=> if fB e=2 then 2 else 0
 | .bin o a b=> if fB a=1∧fB b=1 then (match o with | .add=> 1 | .sub=> 1 | .mul=> 1 | .div=> 1 | _=> 2) else 0
 | .and a b=> if fB a=2∧fB b=2 then 2 else 0
 | .or a b=> if fB a=2∧fB b=2 then 2 else 0
def oV (e:Ex):Bool:=Nat.beq (fB e) 1
mutual
def yo:Sm→Bool
 | .assign _ e=> oV e
 | .send t _ a b=> oV t && oV a && oV b
 | .timer _=> true | .cancel _=> true | .sync=> true | .stop=> true
 | .reply a b=> oV a && oV b
 | .fail e=> oV e
 | .loop c b=> Nat.beq (fB c) 2 && qR b
 | .ite c a b=> Nat.beq (fB c) 2 && qR a && qR b
def qR:Bk→Bool
 | .nil=> true
 | .cons s b=> yo s && qR b
end
def fo (nv:Nat):Ex→Bool
 | .int n=> decide (-2147483647≤n) && decide (n≤2147483647)
 | .bool _=> true
 | .var i=> decide (i < nv)
 | .name k=> decide (k < 9)
 | .draw e=> fo nv e | .neg e=> fo nv e | .not e=> fo nv e
 | .bin _ a b=> fo nv a && fo nv b
 | .and a b=> fo nv a && fo nv b
 | .or a b=> fo nv a && fo nv b
mutual
def mn (nv:Nat):Sm→Bool
 | .assign i e=> decide (i < nv) && fo nv e
 | .send t k a b=> decide (k < 30) && fo nv t && fo nv a && fo nv b
 | .timer k=> decide (k < 8) | .cancel k=> decide (k < 8) | .sync=> true | .stop=> true
 | .reply a b=> fo nv a && fo nv b
 | .fail e=> fo nv e
 | .loop c b=> fo nv c && qu nv b
 | .ite c a b=> fo nv c && qu nv a && qu nv b
def qu (nv:Nat):Bk→Bool
 | .nil=> true
 | .cons s b=> mn nv s && qu nv b
end
theorem dz (nv:Nat): ∀ e,fo nv e=true→ig nv e
 | .int n,h=> by simpa [fo,ig] using h
 | .bool _,_=> trivial
 | .var i,h=> by simpa [fo,ig] using h
 | .name k,h=> by simpa [fo,ig] using h
 | .draw e,h=> dz nv e h
 | .neg e,h=> dz nv e h
 | .not e,h=> dz nv e h
 | .bin _ a b,h=> by simp only [fo,Bool.and_eq_true] at h;exact ⟨dz nv a h.1,dz nv b h.2⟩
 | .and a b,h=> by simp only [fo,Bool.and_eq_true] at h;exact ⟨dz nv a h.1,dz nv b h.2⟩
 | .or a b,h=> by simp only [fo,Bool.and_eq_true] at h;exact ⟨dz nv a h.1,dz nv b h.2⟩
mutual
theorem CH (nv:Nat): ∀ s,mn nv s=true→gL nv s
 | .assign i e,h=> by simp only [mn,Bool.and_eq_true,decide_eq_true_eq] at h;exact ⟨h.1,dz nv e h.2⟩
 | .send t k a b,h=> by simp only [mn,Bool.and_eq_true,decide_eq_true_eq] at h;exact ⟨h.1.1.1,dz nv t h.1.1.2,dz nv a h.1.2,dz nv b h.2⟩
 | .timer k,h=> by simpa [mn,gL] using h
 | .cancel k,h=> by simpa [mn,gL] using h
 | .sync,_=> by simp [gL]
 | .stop,_=> by simp [gL]
 | .reply a b,h=> by simp only [mn,Bool.and_eq_true] at h;exact ⟨dz nv a h.1,dz nv b h.2⟩
 | .fail e,h=> by simp only [mn] at h;exact dz nv e h
 | .loop c b,h=> by simp only [mn,Bool.and_eq_true] at h;exact ⟨dz nv c h.1,lG nv b h.2⟩
 | .ite c a b,h=> by simp only [mn,Bool.and_eq_true] at h;exact ⟨dz nv c h.1.1,lG nv a h.1.2,lG nv b h.2⟩
theorem lG (nv:Nat): ∀ b,qu nv b=true→ld nv b
 | .nil,_=> by simp [ld]
 | .cons s b,h=> by simp only [qu,Bool.and_eq_true] at h;exact ⟨CH nv s h.1,lG nv b h.2⟩
end
structure vt (l:List (Nat×Bk)) (nv:Nat):Prop where
 ok: ∀ p∈l,ld nv p.2
 wl: ∀ p∈l,qR p.2=true
 n:(bV l 0).length≤400
 h: ∀ p∈l,p.1 < 40
 nd:(l.map (·.1)).Nodup
 d: ∀ k∈mf l,k≤8
def srcB (l:List (Nat×Bk)) (nv:Nat):Bool:=l.all (fun p=> qu nv p.2 && qR p.2 && decide (p.1 < 40)) && decide ((bV l 0).length≤400) && decide (l.map (·.1)).Nodup && (mf l).all fun k=> decide (k≤8)
theorem gp {l:List (Nat×Bk)} {nv:Nat} (h:srcB l nv=true):vt l nv:=by
 simp only [srcB,Bool.and_eq_true,List.all_eq_true,decide_eq_true_eq] at h
 exact ⟨fun p hp=> lG nv _ (h.1.1.1 p hp).1.1,fun p hp=> (h.1.1.1 p hp).1.2,h.1.1.2,fun p hp=> (h.1.1.1 p hp).2,h.1.2,h.2⟩
theorem srcOk0:vt ons0 (CI++AJ).length:=gp ae
theorem srcOk1:vt ons1 (Cu++CC).length:=gp ae
theorem srcOk2:vt ons2 (BZ++BB).length:=gp ae
theorem srcOk3:vt ons3 (zw++Cn).length:=gp ae
theorem srcOk4:vt ons4 (Bn++AE).length:=gp ae
theorem srcOk5:vt ons5 (AW++CJ).length:=gp ae
theorem srcOk6:vt ons6 (zu++CD).length:=gp ae
theorem srcOk7:vt ons7 (Bu++CK).length:=gp ae
theorem srcOk8:vt ons8 (CS++zC).length:=gp ae
theorem srcOk9:vt ons9 (zJ++AS).length:=gp ae
theorem srcOk10:vt ons10 (uR++ve).length:=gp ae
theorem srcOk11:vt ons11 (vd++uk).length:=gp ae
def xw (l:List (Nat×Bk)) (i:Nat):Nat:=(mf l).getD i 0
theorem tE (l:List (Nat×Bk)):Fit (xw l) 0 (mf l):=fun k d h=> by
 unfold xw
 rw [Nat.zero_add,List.getD_eq_getElem?_getD,h];rfl

abbrev DS:=List Int×Bool×Bool
def jC (n:Nat) (d:Int) (s:DS) (j:Nat):DS:=
 if n≤j then s else if s.1.getD j (-1) < 0 then (s.1.set j d,s.2.1,true) else if s.1.getD j (-1)≠d then (s.1,false,s.2.2) else s
def cW (C:List eW) (i:Nat):eW:=C.getD i { op:= .stop }
def EO (C:List eW) (i:Nat) (s:DS):Int:=max (s.1.getD i (-1) - (cW C i).op.pops) 0+(cW C i).op.puts
def ll (C:List eW) (s:DS) (i:Nat):DS:=
 if s.1.getD i (-1) < 0 then s
 else (dT i (cW C i)).foldl (jC C.length (EO C i s)) (s.1,if s.1.getD i (-1) - (cW C i).op.pops < 0 then false else s.2.1,s.2.2)
def dD (C:List eW) (s:List Int×Bool) (k:Nat):DS:=(List.range k).foldl (ll C) (s.1,s.2,false)
theorem pM (C:List eW) (s:List Int×Bool) (k:Nat):dD C s (k+1)=ll C (dD C s k) k:=by simp [dD,List.range_succ,List.foldl_append]
def jN (C:List eW):Nat→List Int×Bool→List Int×Bool
 | 0,s=> s
 | f+1,s=> if (dD C s C.length).2.2=true then jN C f ((dD C s C.length).1,(dD C s C.length).2.1) else ((dD C s C.length).1,(dD C s C.length).2.1)
def neg (l:List Int):Nat:=l.countP fun x=> decide (x < 0)
theorem EC {l:List Int} {j:Nat} {d:Int} (hj:j < l.length) (h:l.getD j (-1) < 0) (hd:0≤d):neg (l.set j d)+1=neg l:=by
 unfold neg
 have e:l=l.take j++l[j]::l.drop (j+1):=by rw [List.getElem_cons_drop hj,List.take_append_drop]
 have h':l[j] < 0:=by rwa [List.getD_eq_getElem?_getD,List.getElem?_eq_getElem hj] at h
 rw [List.set_eq_take_append_cons_drop,if_pos hj]
 conv=> rhs;rw [e]
 simp only [List.countP_append,List.countP_cons]
 rw [decide_eq_true h',decide_eq_false (show ¬ d < 0 by omega)]
 simp
 omega
structure DI (D:Nat→Nat) (n:Nat) (s:DS):Prop where
 len:s.1.length=n
 val: ∀ i,i < n→s.1.getD i (-1)= -1∨s.1.getD i (-1)=(D i:Int)
 ok:s.2.1=true
theorem kw {l:List Int} {j i:Nat} {d:Int}:(l.set j d).getD i (-1)=if i=j∧j < l.length then d else l.getD i (-1):=by
 simp only [List.getD_eq_getElem?_getD,List.getElem?_set]
 by_cases h:j=i
 ·subst h
  by_cases h2:j < l.length
  ·simp [h2]
  simp [h2]
 simp [h,Ne.symm h]
theorem DU {D:Nat→Nat} {n:Nat} {d:Int} {s:DS} {j:Nat} (h:DI D n s) (hd:d=(D j:Int)):DI D n (jC n d s j)∧neg (jC n d s j).1≤neg s.1∧((jC n d s j).2.2=true→s.2.2=true∨neg (jC n d s j).1 < neg s.1):=by
 unfold jC
 split
 ·exact ⟨h,Nat.le_refl _,fun e=> .inl e⟩
 rename_i hj
 split
 ·rename_i hn
  have:=EC (l:=s.1) (j:=j) (d:=d) (by rw [h.len];omega) hn ab
  refine ⟨⟨by rw [List.length_set];exact h.len,fun i hi=> ?_,h.ok⟩,by simp only;omega,fun _=> .inr (by simp only;omega)⟩
  simp only
  rw [kw]
  split
  ·rename_i hc;rw [hc.1];exact .inr hd
  exact h.val i hi
 rename_i hn
 have hv:=h.val j ab
 have:s.1.getD j (-1)=d:=by rw [hd];rcases hv with hv | hv <;> omega
 rw [if_neg (fun hc=> hc this)]
 exact ⟨h,Nat.le_refl _,fun e=> .inl e⟩
theorem nI {D:Nat→Nat} {n:Nat} {d:Int}: ∀ (l:List Nat) {s:DS},DI D n s→(∀ j∈l,d=(D j:Int))→DI D n (l.foldl (jC n d) s)∧neg (l.foldl (jC n d) s).1≤neg s.1∧((l.foldl (jC n d) s).2.2=true→s.2.2=true∨neg (l.foldl (jC n d) s).1 < neg s.1)
 | [],s,h,_=> ⟨h,Nat.le_refl _,fun e=> .inl e⟩
 | j::l,s,h,hd=> by
  obtain ⟨a1,a2,a3⟩:=DU h (hd j (by simp))
  obtain ⟨b1,b2,b3⟩:=nI l a1 fun j hj=> hd j (by simp [hj])
  simp only [List.foldl_cons]
  refine ⟨b1,by omega,fun e=> ?_⟩
  rcases b3 e with e | e
  ·rcases a3 e with e | e
   ·exact .inl e
   exact .inr ab
  exact .inr ab
section
variable {D:Nat→Nat} {nv:Nat} {C:List eW} (hC:Good D nv 0 (C.length - 1) 0 C)
include hC
theorem Ci {s:DS} {i:Nat} (hi:i < C.length) (h:DI D C.length s):DI D C.length (ll C s i)∧neg (ll C s i).1≤neg s.1∧((ll C s i).2.2=true→s.2.2=true∨neg (ll C s i).1 < neg s.1):=by
 unfold ll
 split
 ·exact ⟨h,Nat.le_refl _,fun e=> .inl e⟩
 rename_i hn
 have hx:C[i]? =some (cW C i):=by unfold cW;rw [List.getD_eq_getElem?_getD,List.getElem?_eq_getElem hi];rfl
 obtain ⟨_,g2,g3⟩:=hC i _ hx
 rw [Nat.zero_add] at g2 g3
 have hv:s.1.getD i (-1)=(D i:Int):=by rcases h.val i hi with hv | hv <;> omega
 have hdo:EO C i s=((D i - (cW C i).op.pops+(cW C i).op.puts:Nat):Int):=by unfold EO;rw [hv];omega
 rw [if_neg (by rw [hv];omega)]
 exact nI _ ⟨h.len,h.val,h.ok⟩ fun j hj=> by rw [hdo,(g3 j hj).2.2]
theorem lO {s:List Int×Bool} (h:DI D C.length (s.1,s.2,false)): ∀ k,k≤C.length→DI D C.length (dD C s k)∧neg (dD C s k).1≤neg s.1∧((dD C s k).2.2=true→neg (dD C s k).1 < neg s.1)
 | 0,_=> ⟨h,Nat.le_refl _,fun e=> by simp [dD] at e⟩
 | k+1,hk=> by
  obtain ⟨a1,a2,a3⟩:=lO h k ab
  obtain ⟨b1,b2,b3⟩:=Ci hC ab a1 (i:=k)
  rw [pM]
  refine ⟨b1,by omega,fun e=> ?_⟩
  rcases b3 e with e | e
  ·have:=a3 e;omega
  omega
theorem uv: ∀ f (s:List Int×Bool),DI D C.length (s.1,s.2,false)→DI D C.length ((jN C f s).1,(jN C f s).2,false)
 | 0,s,h=> h
 | f+1,s,h=> by
  obtain ⟨a1,_,_⟩:=lO hC h C.length (Nat.le_refl _)
  unfold jN
  split
  ·exact uv f _ ⟨a1.len,a1.val,a1.ok⟩
  exact ⟨a1.len,a1.val,a1.ok⟩
end
theorem wi {C:List eW} {f:Nat} {s:List Int×Bool} (h:(dD C s C.length).2.2=true):jN C (f+1) s=jN C f ((dD C s C.length).1,(dD C s C.length).2.1):=by rw [jN,if_pos h]
theorem vE {C:List eW} {f:Nat} {s:List Int×Bool} (h:(dD C s C.length).2.2=false):jN C (f+1) s=((dD C s C.length).1,(dD C s C.length).2.1):=by rw [jN,if_neg (by simp [h])]
def jn (C:List eW) (e:Int):List Int×Bool:=if e < 0∨(C.length:Int)≤e then (List.replicate C.length (-1),true) else jN C (C.length+1) ((List.replicate C.length (-1)).set e.toNat 0,true)
theorem qm {D:Nat→Nat} {nv:Nat} {C:List eW} (hC:Good D nv 0 (C.length - 1) 0 C) {e:Int} (he:0≤e→e < C.length→D e.toNat=0):DI D C.length ((jn C e).1,(jn C e).2,false):=by
 have hr: ∀ i,(List.replicate C.length (-1:Int)).getD i (-1)= -1:=fun i=> by rw [List.getD_eq_getElem?_getD,List.getElem?_replicate];split <;> rfl
 unfold jn
 split
 ·exact ⟨by simp,fun i _=> .inl (hr i),rfl⟩
 refine uv hC _ _ ⟨by simp,fun i hi=> ?_,rfl⟩
 simp only
 rw [kw]
 split
 ·rename_i hc
  right
  rw [hc.1,he ab ab];rfl
 exact .inl (hr i)
def kX (C:List eW) (out:List Int) (k:Nat):Int:=(List.range k).foldl (fun m i=> if 0≤out.getD i (-1) then max (max m (out.getD i (-1))) (out.getD i (-1) - (cW C i).op.pops+(cW C i).op.puts) else m) 0
theorem qF (C:List eW) (out:List Int) (k:Nat):kX C out (k+1)=if 0≤out.getD k (-1) then max (max (kX C out k) (out.getD k (-1))) (out.getD k (-1) - (cW C k).op.pops+(cW C k).op.puts) else kX C out k:=by simp [kX,List.range_succ,List.foldl_append]
theorem Dz (o:Opc):o.puts≤1:=by cases o <;> decide
theorem nz {C:List eW} {out:List Int} {D:Nat→Nat} {n:Nat} {ok ch:Bool} (h:DI D n (out,ok,ch)) {B:Nat} (hB: ∀ i,i < n→D i≤B): ∀ k,k≤n→0≤kX C out k∧kX C out k≤B+1
 | 0,_=> by simp [kX];omega
 | k+1,hk=> by
  obtain ⟨h1,h2⟩:=nz (C:=C) h hB k ab
  have h3:=hB k ab
  have h4:out.getD k (-1)= -1∨out.getD k (-1)=(D k:Int):=h.val k ab
  have h5:=Dz (cW C k).op
  have h6:=qF C out k
  rw [h6]
  rcases h4 with h4 | h4 <;> rw [h4] <;> split <;> omega
def ny (l:List (Nat×Nat)):List Int:=l.foldl (fun m p=> m.set p.1 (p.2:Int)) (List.replicate 40 (-1))
theorem Bd (l:List (Nat×Nat)):(ny l).length=40:=by
 unfold ny
 have: ∀ (l:List (Nat×Nat)) (m:List Int),m.length=40→(l.foldl (fun m p=> m.set p.1 (p.2:Int)) m).length=40:=by
  intro l
  induction l with
  | nil=> exact fun m h=> h
  | cons p l ih=> exact fun m h=> ih _ (by rw [List.length_set];exact h)
 exact this l _ (by simp)
theorem BK: ∀ (l:List (Nat×Nat)) (h:Nat),(ny l).getD h (-1)= -1∨ ∃ e,(h,e)∈l∧(ny l).getD h (-1)=(e:Int):=by
 unfold ny
 have key: ∀ (l:List (Nat×Nat)) (m:List Int) (h:Nat),(l.foldl (fun m p=> m.set p.1 (p.2:Int)) m).getD h (-1)=m.getD h (-1)∨ ∃ e,(h,e)∈l∧(l.foldl (fun m p=> m.set p.1 (p.2:Int)) m).getD h (-1)=(e:Int):=by
  intro l
  induction l with
  | nil=> exact fun m h=> .inl rfl
  | cons p l ih=>
   intro m h
   simp only [List.foldl_cons]
   rcases ih (m.set p.1 (p.2:Int)) h with e | ⟨e,h1,h2⟩
   ·rw [e,kw]
    split
    ·rename_i hc
     exact .inr ⟨p.2,by rw [hc.1];exact List.mem_cons_self,rfl⟩
    exact .inl rfl
   exact .inr ⟨e,List.mem_cons_of_mem _ h1,h2⟩
 intro l h
 rcases key l (List.replicate 40 (-1)) h with e | e
 ·left
  rw [e,List.getD_eq_getElem?_getD,List.getElem?_replicate]
  split <;> rfl
 exact .inr e
def kZ (l:List (Nat×Bk)):Bool:=decide ((bV l 0).length≤400) && (List.range 40).all fun h=> decide (kX (bV l 0) (jn (bV l 0) ((ny (kj l 0)).getD h (-1))).1 (bV l 0).length≤16)
theorem vY (l:List (Nat×Bk)) (h:Nat):(ny (kj l 0)).getD h (-1)= -1∨ ∃ e:Nat,(h,e)∈kj l 0∧(ny (kj l 0)).getD h (-1)=(e:Int)∧e < (bV l 0).length∧xw l e=0:=by
 rcases BK (kj l 0) h with e | ⟨e,h1,h2⟩
 ·exact .inl e
 obtain ⟨_,h4,h5⟩:=wL (tE l) h1
 exact .inr ⟨e,h1,h2,by omega,h5⟩
theorem yq {l:List (Nat×Bk)} {nv:Nat} (hs:vt l nv):kZ l=true:=by
 unfold kZ
 rw [Bool.and_eq_true,decide_eq_true_eq,List.all_eq_true]
 refine ⟨hs.n,fun h _=> ?_⟩
 rw [decide_eq_true_eq]
 have hg:=Cg (xw l) nv l 0 0 ((bV l 0).length - 1) hs.ok (tE l) (Nat.le_refl _) ab
 have hd:=qm hg (e:=(ny (kj l 0)).getD h (-1)) (fun h1 h2=> by
  rcases vY l h with e | ⟨e,_,e2,_,e4⟩
  ·omega
  rw [e2];exact e4)
 have hB: ∀ i,i < (bV l 0).length→xw l i≤8:=fun i hi=> by
  unfold xw
  rw [← qo l 0] at hi
  rw [List.getD_eq_getElem?_getD,List.getElem?_eq_getElem hi]
  exact hs.d _ (List.getElem_mem hi)
 have:=(nz (C:=bV l 0) hd hB _ (Nat.le_refl _)).2
 omega

theorem iO {α β:Type} (f:α→List β) (c:Nat) (hf: ∀ a,(f a).length=c): ∀ l:List α,(l.flatMap f).length=l.length*c
 | []=> by simp
 | a::l=> by rw [List.flatMap_cons,List.length_append,hf,iO f c hf l,List.length_cons,Nat.succ_mul];omega
theorem pG {α β:Type} (f:α→List β) (c:Nat) (hf: ∀ a,(f a).length=c): ∀ (l:List α) (k:Nat),(l.flatMap f).drop (k*c)=(l.drop k).flatMap f
 | l,0=> by simp
 | [],k+1=> by simp
 | a::l,k+1=> by
  rw [List.flatMap_cons,List.drop_succ_cons,← pG f c hf l k,List.drop_append,List.drop_eq_nil_of_le (by rw [hf,Nat.succ_mul];omega),List.nil_append,hf]
  congr 1;rw [Nat.succ_mul];omega
theorem mt {α β:Type} (f:α→List β) (c:Nat) (hf: ∀ a,(f a).length=c) (l:List α) (k:Nat) (h:k < l.length):((l.flatMap f).drop (k*c)).take c=f l[k]:=by
 rw [pG f c hf,List.drop_eq_getElem_cons h,List.flatMap_cons,List.take_append_of_le_length (by rw [hf];exact Nat.le_refl _),List.take_of_length_le (by rw [hf];exact Nat.le_refl _)]
theorem mO {α β:Type} (f:α→List β) (c:Nat) (hf: ∀ a,(f a).length=c) (l:List α) (k j:Nat) (h:k < l.length) (hj:j < c):(l.flatMap f)[k*c+j]? =(f l[k])[j]? :=by
 rw [← mt f c hf l k h,List.getElem?_take_of_lt hj,List.getElem?_drop]
theorem jP {α β:Type} (f:α→List β) (l:List α) (a:α):l.flatMap f++f a=(l++[a]).flatMap f:=by simp
theorem Ca {α β:Type} (f:α→List β) (l m:List α):l.flatMap f++m.flatMap f=(l++m).flatMap f:=by simp

def fm (l:List Tx):List PV:=l.map fun t=> .v (bt t)
@[simp] theorem bv (l:List Tx):(fm l).length=l.length:=by simp [fm]
theorem jI (l:List Tx) (k:Nat) (h:k < l.length):(fm l)[k]? =some (.v (bt (l.getD k []))):=by simp [fm,h]
theorem qw (a b:List Tx):fm a++fm b=fm (a++b):=by simp [fm]
theorem nS (a:List Tx) (t:Tx):fm a++[.v (bt t)]=fm (a++[t]):=by simp [fm]
theorem kr {l:List Tx} {k:Nat} (h:k < l.length):l.getD k []∈l:=by
 rw [List.getD_eq_getElem?_getD,List.getElem?_eq_getElem h];exact List.getElem_mem h
theorem kU {α:Type} {l:List α} {k:Nat} {x d:α} (h:x∉l.take k) (hk:k < l.length) (hx:l.getD k d≠x):x∉l.take (k+1):=by
 rw [List.take_succ_eq_append_getElem hk,List.mem_append,List.mem_singleton]
 rintro (h' | h')
 ·exact h h'
 exact hx (by rw [List.getD_eq_getElem?_getD,List.getElem?_eq_getElem hk,h'];rfl)

def Gm (t:Tk):List PV:=[.v (.int .i64 (t.k:Int)), .v (.int .i64 (t.a:Int)), .v (bt t.t), .v (.int .i64 (t.n:Int))]
def sr (l:List Tk):List PV:=l.flatMap Gm
theorem bu (l:List Tk):(sr l).length=l.length*4:=iO Gm 4 (fun _=> rfl) l
theorem vS (l:List Tk) (k:Nat) (h:k < l.length):dj l k=l[k]:=by simp [dj,h]
theorem qf (l:List Tk) (k:Nat) (h:k < l.length):(sr l)[k*4]? =some (.v (.int .i64 ((dj l k).k:Int))):=by
 rw [vS l k h];exact mO Gm 4 (fun _=> rfl) l k 0 h ab
theorem nB (l:List Tk) (k:Nat) (h:k < l.length):(sr l)[k*4+2]? =some (.v (bt (dj l k).t)):=by
 rw [vS l k h];exact mO Gm 4 (fun _=> rfl) l k 2 h ab
theorem nV (l:List Tk) (k:Nat) (h:k < l.length):PV.ups (((sr l).drop (k*4)).take 4)=[.v (.int .i64 ((dj l k).k:Int)), .v (.int .i64 ((dj l k).a:Int)), .v (bt (dj l k).t), .v (.int .i64 ((dj l k).n:Int))]:=by
 rw [vS l k h,show ((sr l).drop (k*4)).take 4=Gm l[k] from mt Gm 4 (fun _=> rfl) l k h];rfl
theorem tW (l:List Tk) (t:Tk):sr l++Gm t=sr (l++[t]):=jP Gm l t

theorem gl {s:Tx} {a:Nat} {b:UInt8} (h:s[a]? =some b):s.drop a=b::s.drop (a+1):=by
 obtain ⟨hl,rfl⟩:=List.getElem?_eq_some_iff.1 h
 exact List.drop_eq_getElem_cons hl
theorem kN {s:Tx} {a:Nat} (h:a < s.length): ∃ b,s[a]? =some b:=⟨_,List.getElem?_eq_getElem h⟩
theorem Lc (b:UInt8):0≤(b.toNat:Int)∧(b.toNat:Int) < 256:=⟨by omega,by have:=b.toNat_lt;omega⟩
def la (s:Tx) (a:Nat) (c:Bool):Nat:=a+tJ (s.drop a) c
theorem tj {s:Tx} {a:Nat} (h:s.length≤a) (c:Bool):la s a c=a:=by
 unfold la;rw [List.drop_eq_nil_of_le h];unfold tJ;rfl
theorem GD {s:Tx} {a:Nat} {b:UInt8} (h:s[a]? =some b) (hb:b.toNat=10):la s a true=la s a false:=by
 unfold la;rw [gl h];simp [tJ,hb]
theorem Ib {s:Tx} {a:Nat} {b:UInt8} (h:s[a]? =some b) (hb:b.toNat≠10):la s a true=la s (a+1) true:=by
 unfold la;rw [gl h];simp [tJ,hb];omega
theorem Bq {s:Tx} {a:Nat} {b:UInt8} (h:s[a]? =some b) (hb:b.toNat=35):la s a false=la s a true:=by
 unfold la;rw [gl h];simp [tJ,hb]
theorem vJ {s:Tx} {a:Nat} {b:UInt8} (h:s[a]? =some b) (h0:b.toNat≠35) (hb:b.toNat=32∨b.toNat=9∨b.toNat=10):la s a false=la s (a+1) false:=by
 unfold la;rw [gl h,tJ,if_neg h0,if_pos hb];omega
theorem Fu {s:Tx} {a:Nat} {b:UInt8} (h:s[a]? =some b) (h0:b.toNat≠35) (hb: ¬ (b.toNat=32∨b.toNat=9∨b.toNat=10)):la s a false=a:=by
 unfold la;rw [gl h,tJ,if_neg h0,if_neg hb];rfl
theorem oe: ∀ (l:Tx) (c:Bool),tJ l c≤l.length
 | [],c=> by unfold tJ;exact Nat.le_refl _
 | x::l,true=> by have h1:=oe l true;have h2:=oe l false;unfold tJ;split <;> simp only [List.length_cons] <;> omega
 | x::l,false=> by have h1:=oe l true;have h2:=oe l false;unfold tJ;split <;> (try split) <;> simp only [List.length_cons] <;> omega
theorem ww {s:Tx} {a:Nat} (h:a≤s.length) (c:Bool):a≤la s a c∧la s a c≤s.length:=by
 have:=oe (s.drop a) c
 rw [List.length_drop] at this
 unfold la;omega
def lL (p:UInt8→Bool) (s:Tx) (a:Nat):Nat:=a+((s.drop a).takeWhile p).length
theorem wS {p:UInt8→Bool} {s:Tx} {a:Nat} (h:s.length≤a):lL p s a=a:=by
 unfold lL;rw [List.drop_eq_nil_of_le h];rfl
theorem sX {p:UInt8→Bool} {s:Tx} {a:Nat} {b:UInt8} (h:s[a]? =some b) (hb:p b=true):lL p s a=lL p s (a+1):=by
 unfold lL;rw [gl h,List.takeWhile_cons,if_pos hb,List.length_cons];omega
theorem As {p:UInt8→Bool} {s:Tx} {a:Nat} {b:UInt8} (h:s[a]? =some b) (hb:p b=false):lL p s a=a:=by
 unfold lL;rw [gl h,List.takeWhile_cons,if_neg (by simp [hb])];rfl
theorem sx {p:UInt8→Bool} {s:Tx} {a:Nat} (h:a≤s.length):a≤lL p s a∧lL p s a≤s.length:=by
 have:((s.drop a).takeWhile p).length≤(s.drop a).length:=(List.takeWhile_prefix p).length_le
 rw [List.length_drop] at this
 unfold lL;omega
theorem ul {p:UInt8→Bool} {s:Tx} {a:Nat} {b:UInt8} (h:s[a]? =some b):(s.drop a).take (lL p s (a+1) - a)=b::(s.drop (a+1)).takeWhile p:=by
 rw [gl h,show lL p s (a+1) - a=((s.drop (a+1)).takeWhile p).length+1 by unfold lL;omega,List.take_succ_cons]
 congr 1
 obtain ⟨t,ht⟩:=List.takeWhile_prefix p (l:=s.drop (a+1))
 conv=> lhs;arg 2;rw [← ht]
 rw [List.take_append_of_le_length (Nat.le_refl _),List.take_length]
theorem rk (l:Tx) (b:UInt8):lb (l++[b])=10*lb l+(b.toNat - 48):=by unfold lb;rw [List.foldl_append];rfl
theorem Eo (l m:Tx):lb l≤lb (l++m):=by
 induction m generalizing l with
 | nil=> simp
 | cons b m ih=>
  have:=ih (l++[b])
  rw [rk,List.append_assoc] at this
  simp only [List.cons_append,List.nil_append] at this
  omega
theorem yp (l:Tx) (i:Nat):lb (l.take i)≤lb l:=by
 have:=Eo (l.take i) (l.drop i)
 rwa [List.take_append_drop] at this
theorem xW {l:Tx} {i:Nat} {b:UInt8} (h:l[i]? =some b):lb (l.take (i+1))=10*lb (l.take i)+(b.toNat - 48):=by
 obtain ⟨hl,rfl⟩:=List.getElem?_eq_some_iff.1 h
 rw [List.take_succ_eq_append_getElem hl,rk]
theorem Ct (b:UInt8):nJ b=true↔97≤(b.toNat:Int)∧(b.toNat:Int)≤122:=by
 unfold nJ;rw [Bool.and_eq_true,Nat.ble_eq,Nat.ble_eq];omega
theorem tX (b:UInt8):gI b=true↔48≤(b.toNat:Int)∧(b.toNat:Int)≤57:=by
 unfold gI;rw [Bool.and_eq_true,Nat.ble_eq,Nat.ble_eq];omega
theorem Gv {b:Bool} {p:Prop} (h:b=true↔p) (hn: ¬ p):b=false:=by
 cases b with
 | false=> rfl
 | true=> exact absurd (h.1 rfl) hn
def inr (x:eW):List PV:=[.v (.int .i64 (x.op.num:Int)), .v (.int .i64 x.n)]
def inl (l:List eW):List PV:=l.flatMap inr
theorem bO (l:List eW):(inl l).length=l.length*2:=iO inr 2 (fun _=> rfl) l
theorem mZ (l:List eW) (k:Nat) (h:k < l.length):(inl l)[k*2]? =some (.v (.int .i64 ((cW l k).op.num:Int))):=by
 rw [show cW l k=l[k] by simp [cW,h]];exact mO inr 2 (fun _=> rfl) l k 0 h ab
theorem Br (l:List eW) (k:Nat) (h:k < l.length):(inl l)[k*2+1]? =some (.v (.int .i64 (cW l k).n)):=by
 rw [show cW l k=l[k] by simp [cW,h]];exact mO inr 2 (fun _=> rfl) l k 1 h ab
theorem zI (l:List eW) (k:Nat) (h:k < l.length):PV.ups (((inl l).drop (k*2)).take 2)=[.v (.int .i64 ((cW l k).op.num:Int)), .v (.int .i64 (cW l k).n)]:=by
 rw [show cW l k=l[k] by simp [cW,h],show ((inl l).drop (k*2)).take 2=inr l[k] from mt inr 2 (fun _=> rfl) l k h];rfl
theorem fq (l:List eW) (x:eW):inl l++inr x=inl (l++[x]):=jP inr l x
theorem lT (l m:List eW):inl l++inl m=inl (l++m):=Ca inr l m
def IK (x:Ac):List PV:=[.v (.int .i64 x.k), .v (.int .i64 x.a), .v (.int .i64 x.b), .v (.int .i64 x.c), .v (.int .i64 x.d)]
def vq (l:List Ac):List PV:=l.flatMap IK
def pI (l:List Ac) (k:Nat):Ac:=l.getD k { k:=0 }
theorem fi (l:List Ac):(vq l).length=l.length*5:=iO IK 5 (fun _=> rfl) l
theorem uw (l:List Ac) (k:Nat) (h:k < l.length):PV.ups (((vq l).drop (k*5)).take 5)=[.v (.int .i64 (pI l k).k), .v (.int .i64 (pI l k).a), .v (.int .i64 (pI l k).b), .v (.int .i64 (pI l k).c), .v (.int .i64 (pI l k).d)]:=by
 rw [show pI l k=l[k] by simp [pI,h],show ((vq l).drop (k*5)).take 5=IK l[k] from mt IK 5 (fun _=> rfl) l k h];rfl
theorem Ak (l:List Ac) (x:Ac):vq l++IK x=vq (l++[x]):=jP IK l x
end Go.Proofs.YtmjnackchaahbaaGreat

namespace Go.Proofs.YtmjnackchaahbaaGreat
abbrev KG:List Value:=[.slice none 0 0, .int .i64 0, .int .i64 0, .int .i64 0, .int .i64 0, .int .i64 0, .int .i64 0, .int .i64 0, .int .i64 0, .int .i64 0, .int .i64 0, .int .i64 0, .int .i64 0, .int .i64 0, .int .i64 0, .int .i64 0, .int .i64 0, .int .i64 0, .int .i64 0, .int .i64 0, .int .i64 0, .int .i64 0, .int .i64 0, .int .i64 0, .int .i64 0, .int .i64 0, .int .i64 0, .int .i64 0, .int .i64 0, .int .i64 0, .int .i64 0, .int .i64 0, .int .i64 0, .int .i64 0, .int .i64 0, .int .i64 0, .int .i64 0, .int .i64 0, .int .i64 0, .int .i64 0, .int .i64 0, .int .i64 0, .int .i64 0]
abbrev Gw:List Value:=[.int .i64 0, .int .i64 0, .int .i64 0, .int .i64 0, .int .i64 0, .int .i64 0, .int .i64 0, .int .i64 0, .int .i64 0]
abbrev JZ:List Value:=[.slice none 0 0, .slice none 0 0, .int .i64 0, .bool false, .slice none 0 0]
abbrev xb:List Value:=[.int .i64 0, .int .i64 0, .int .i64 0, .int .i64 0, .int .i64 0]
abbrev OB:List Value:=[.slice none 0 0, .slice none 0 0, .slice none 0 0]
abbrev IH:List Value:=[.int .i64 0, .int .i64 0, .string ByteArray.empty, .slice none 0 0]
abbrev IG:List Value:=[.int .i64 0, .int .i64 0, .int .i64 0, .string ByteArray.empty, .slice none 0 0]
abbrev Kq:List Value:=[.bool false, .int .i64 0, .int .i64 0, .int .i64 0, .slice none 0 0, .slice none 0 0, .slice none 0 0, .slice none 0 0, .int .i64 0, .int .i64 0, .int .i64 0, .int .i64 0, .int .i64 0, .int .i64 0, .int .i64 0, .int .i64 0, .int .i64 0, .int .i64 0, .int .i64 0, .int .i64 0, .int .i64 0, .int .i64 0, .int .i64 0, .int .i64 0, .int .i64 0, .int .i64 0, .int .i64 0, .int .i64 0, .int .i64 0, .int .i64 0, .int .i64 0, .int .i64 0, .int .i64 0, .int .i64 0, .int .i64 0, .int .i64 0, .int .i64 0, .int .i64 0, .int .i64 0, .int .i64 0, .int .i64 0, .int .i64 0, .int .i64 0, .int .i64 0, .int .i64 0, .int .i64 0, .int .i64 0, .int .i64 0, .int .i64 0, .int .i64 0, .int .i64 0, .int .i64 0]
abbrev IF:List Value:=[.int .i64 0, .int .i64 0, .int .i64 0, .int .i64 0, .int .i64 0, .int .i64 0, .int .i64 0, .int .i64 0, .int .i64 0, .int .i64 0, .int .i64 0, .int .i64 0, .int .i64 0, .slice none 0 0, .slice none 0 0]
abbrev Kv:List Value:=[.int .i64 0, .int .i64 0, .int .i64 0]
abbrev Ft:List Value:=[.int .i64 0, .int .i64 0, .int .i64 0, .slice none 0 0, .bool false, .int .i64 0, .slice none 0 0, .slice none 0 0, .slice none 0 0, .int .i64 0, .bool false, .slice none 0 0]
abbrev DX:List Value:=[.slice none 0 0, .int .i64 0, .int .i64 0, .int .i64 0, .int .i64 0, .int .i64 0, .int .i64 0, .int .i64 0, .int .i64 0, .int .i64 0]
abbrev DQ:List Value:=[.nilFunc, .nilFunc, .nilFunc, .nilFunc, .nilFunc, .nilFunc, .nilFunc, .nilFunc, .nilFunc, .nilFunc, .nilFunc, .nilFunc, .nilFunc, .nilFunc, .nilFunc, .nilFunc, .nilFunc, .nilFunc, .nilFunc, .nilFunc, .nilFunc, .nilFunc, .nilFunc, .nilFunc]
abbrev yP:List Value:=[.int .i64 0, .int .i64 0, .string ByteArray.empty, .int .i64 0]
abbrev Dq:List Value:=[.int .i64 0, .int .i64 0, .int .i64 0, .int .i64 0, .int .i64 0, .int .i64 0, .int .i64 0]
abbrev FC:List Value:=[.int .i64 0, .int .i64 0, .int .i64 0, .int .i64 0, .int .i64 0, .int .i64 0]
abbrev Jt:List Value:=[.int .i64 0, .int .i64 0, .int .i64 0, .slice none 0 0, .slice none 0 0]
abbrev Jg:List Value:=[.slice none 0 0, .int .i64 0, .int .i64 0, .int .i64 0, .int .i64 0, .int .i64 0, .int .i64 0, .int .i64 0, .int .i64 0, .int .i64 0, .int .i64 0, .int .i64 0, .int .i64 0, .int .i64 0, .int .i64 0, .int .i64 0, .int .i64 0, .int .i64 0, .int .i64 0, .int .i64 0, .int .i64 0, .int .i64 0, .int .i64 0, .int .i64 0, .int .i64 0, .int .i64 0, .int .i64 0, .int .i64 0, .int .i64 0, .int .i64 0, .int .i64 0, .int .i64 0, .int .i64 0, .int .i64 0, .int .i64 0, .int .i64 0, .int .i64 0, .int .i64 0, .int .i64 0, .int .i64 0, .int .i64 0, .int .i64 0, .int .i64 0, .slice none 0 0, .int .i64 0, .int .i64 0, .int .i64 0, .int .i64 0, .int .i64 0, .int .i64 0, .int .i64 0, .int .i64 0, .int .i64 0, .nilFunc, .slice none 0 0, .slice none 0 0, .int .i64 0, .bool false, .slice none 0 0, .slice none 0 0, .int .i64 0, .int .i64 0, .int .i64 0, .bool false]
abbrev IU:List Value:=[.slice none 0 0, .int .i64 0, .int .i64 0, .int .i64 0, .slice none 0 0]

instance zm:Ty Tryz.prog 1 false [.nilFunc]:=Ty.of (bytes:=8) (.nilFunc) Tryz.underlying1 rfl ae rfl oC
instance zp:Ty Tryz.prog 2 false [.int .i64 0]:=Ty.of (bytes:=8) (.int .i64 0) Tryz.underlying2 rfl ae rfl oC
instance Rf:Ty Tryz.prog 3 false [.int .i64 0]:=Ty.of (bytes:=8) (.int .i64 0) Tryz.underlying3 rfl ae rfl oC
instance Rh:Ty Tryz.prog 4 false [.bool false]:=Ty.of (bytes:=1) (.bool false) Tryz.underlying4 rfl ae rfl oC
instance Ri:Ty Tryz.prog 9 false [.string ByteArray.empty]:=Ty.of (bytes:=16) (.string ByteArray.empty) Tryz.underlying9 rfl ae rfl oC
instance Lg:Ty Tryz.prog 22 false [.slice none 0 0]:=Ty.of (bytes:=24) (.slice none 0 0) Tryz.underlying22 rfl ae rfl oC
instance Qj:Ty Tryz.prog 23 false [.slice none 0 0]:=Ty.of (bytes:=24) (.slice none 0 0) Tryz.underlying23 rfl ae rfl oC
instance QR:Ty Tryz.prog 26 true KG:=Ty.of (bytes:=360) (.agg (KG).toArray) Tryz.underlying26 rfl ae rfl oC
instance QL:Ty Tryz.prog 30 true Gw:=Ty.of (bytes:=72) (.agg (Gw).toArray) Tryz.underlying30 rfl ae rfl oC
instance Pt:Ty Tryz.prog 32 false [.slice none 0 0]:=Ty.of (bytes:=24) (.slice none 0 0) Tryz.underlying32 rfl ae rfl oC
instance Pw:Ty Tryz.prog 34 true JZ:=Ty.of (bytes:=88) (.agg (JZ).toArray) Tryz.underlying34 rfl ae rfl oC
instance Pv:Ty Tryz.prog 43 false [.nilFunc]:=Ty.of (bytes:=8) (.nilFunc) Tryz.underlying43 rfl ae rfl oC
instance PB:Ty Tryz.prog 48 true [.int .i64 0, .int .i64 0]:=Ty.of (bytes:=16) (.agg #[.int .i64 0, .int .i64 0]) Tryz.underlying48 rfl ae rfl oC
instance Qu:Ty Tryz.prog 51 false [.nilFunc]:=Ty.of (bytes:=8) (.nilFunc) Tryz.underlying51 rfl ae rfl oC
instance Qy:Ty Tryz.prog 57 true xb:=Ty.of (bytes:=40) (.agg (xb).toArray) Tryz.underlying57 rfl ae rfl oC
instance Qg:Ty Tryz.prog 61 false [.slice none 0 0]:=Ty.of (bytes:=24) (.slice none 0 0) Tryz.underlying61 rfl ae rfl oC
instance Po:Ty Tryz.prog 62 false [.slice none 0 0]:=Ty.of (bytes:=24) (.slice none 0 0) Tryz.underlying62 rfl ae rfl oC
instance Qd:Ty Tryz.prog 64 true OB:=Ty.of (bytes:=72) (.agg (OB).toArray) Tryz.underlying64 rfl ae rfl oC
instance QZ:Ty Tryz.prog 66 false [.int .i64 0]:=Ty.of (bytes:=8) (.int .i64 0) Tryz.underlying66 rfl ae rfl oC
instance Qc:Ty Tryz.prog 69 false [.slice none 0 0]:=Ty.of (bytes:=24) (.slice none 0 0) Tryz.underlying69 rfl ae rfl oC
instance Ql:Ty Tryz.prog 71 true IH:=Ty.of (bytes:=56) (.agg (IH).toArray) Tryz.underlying71 rfl ae rfl oC
instance PM:Ty Tryz.prog 73 true IG:=Ty.of (bytes:=64) (.agg (IG).toArray) Tryz.underlying73 rfl ae rfl oC
instance Pq:Ty Tryz.prog 78 false [.slice none 0 0]:=Ty.of (bytes:=24) (.slice none 0 0) Tryz.underlying78 rfl ae rfl oC
instance PN:Ty Tryz.prog 80 true [.slice none 0 0, .slice none 0 0]:=Ty.of (bytes:=48) (.agg #[.slice none 0 0, .slice none 0 0]) Tryz.underlying80 rfl ae rfl oC
instance PW:Ty Tryz.prog 83 true Kq:=Ty.of (bytes:=480) (.agg (Kq).toArray) Tryz.underlying83 rfl ae rfl oC
instance Rb:Ty Tryz.prog 87 true IF:=Ty.of (bytes:=152) (.agg (IF).toArray) Tryz.underlying87 rfl ae rfl oC
instance Re:Ty Tryz.prog 88 false [.slice none 0 0]:=Ty.of (bytes:=24) (.slice none 0 0) Tryz.underlying88 rfl ae rfl oC
instance Qw:Ty Tryz.prog 89 false [.slice none 0 0]:=Ty.of (bytes:=24) (.slice none 0 0) Tryz.underlying89 rfl ae rfl oC
instance Pe:Ty Tryz.prog 91 true Kv:=Ty.of (bytes:=24) (.agg (Kv).toArray) Tryz.underlying91 rfl ae rfl oC
instance QN:Ty Tryz.prog 96 true Ft:=Ty.of (bytes:=176) (.agg (Ft).toArray) Tryz.underlying96 rfl ae rfl oC
instance NW:Ty Tryz.prog 101 false [.slice none 0 0]:=Ty.of (bytes:=24) (.slice none 0 0) Tryz.underlying101 rfl ae rfl oC
instance MK:Ty Tryz.prog 109 true xb:=Ty.of (bytes:=40) (.agg (xb).toArray) Tryz.underlying109 rfl ae rfl oC
instance Mq:Ty Tryz.prog 115 true xb:=Ty.of (bytes:=40) (.agg (xb).toArray) Tryz.underlying115 rfl ae rfl oC
instance Ox:Ty Tryz.prog 126 true [.int .i64 0, .int .i64 0]:=Ty.of (bytes:=16) (.agg #[.int .i64 0, .int .i64 0]) Tryz.underlying126 rfl ae rfl oC
instance OE:Ty Tryz.prog 132 true DX:=Ty.of (bytes:=96) (.agg (DX).toArray) Tryz.underlying132 rfl ae rfl oC
instance ME:Ty Tryz.prog 161 false [.nilFunc]:=Ty.of (bytes:=8) (.nilFunc) Tryz.underlying161 rfl ae rfl oC
instance My:Ty Tryz.prog 172 false [.nilFunc]:=Ty.of (bytes:=8) (.nilFunc) Tryz.underlying172 rfl ae rfl oC
instance OL:Ty Tryz.prog 173 true DQ:=Ty.of (bytes:=192) (.agg (DQ).toArray) Tryz.underlying173 rfl ae rfl oC
instance Ni:Ty Tryz.prog 217 false [.slice none 0 0]:=Ty.of (bytes:=24) (.slice none 0 0) Tryz.underlying217 rfl ae rfl oC
instance Oc:Ty Tryz.prog 225 true yP:=Ty.of (bytes:=40) (.agg (yP).toArray) Tryz.underlying225 rfl ae rfl oC
instance Qn:Elem Tryz.prog 22 3 1 8 [.int .i64 0]:=Elem.of (.int .i64 0) Tryz.underlying22 ae rfl rfl ah ah oC
instance PF:Elem Tryz.prog 23 48 2 16 [.int .i64 0, .int .i64 0]:=Elem.of (.agg #[.int .i64 0, .int .i64 0]) Tryz.underlying23 ae rfl rfl ah ah oC
instance PD:Elem Tryz.prog 32 57 5 40 xb:=Elem.of (.agg (xb).toArray) Tryz.underlying32 ae rfl rfl ah ah oC
instance Pu:Elem Tryz.prog 61 9 1 16 [.string ByteArray.empty]:=Elem.of (.string ByteArray.empty) Tryz.underlying61 ae rfl rfl ah ah oC
instance Qs:Elem Tryz.prog 62 73 5 64 IG:=Elem.of (.agg (IG).toArray) Tryz.underlying62 ae rfl rfl ah ah oC
instance PJ:Elem Tryz.prog 69 71 4 56 IH:=Elem.of (.agg (IH).toArray) Tryz.underlying69 ae rfl rfl ah ah oC
instance QJ:Elem Tryz.prog 76 87 15 152 IF:=Elem.of (.agg (IF).toArray) Tryz.underlying76 ae rfl rfl ah ah oC
instance PP:Elem Tryz.prog 78 126 2 16 [.int .i64 0, .int .i64 0]:=Elem.of (.agg #[.int .i64 0, .int .i64 0]) Tryz.underlying78 ae rfl rfl ah ah oC
instance PA:Elem Tryz.prog 88 111 7 56 Dq:=Elem.of (.agg (Dq).toArray) Tryz.underlying88 ae rfl rfl ah ah oC
instance Qv:Elem Tryz.prog 89 117 9 72 Gw:=Elem.of (.agg (Gw).toArray) Tryz.underlying89 ae rfl rfl ah ah oC
instance Oy:Elem Tryz.prog 101 196 6 48 FC:=Elem.of (.agg (FC).toArray) Tryz.underlying101 ae rfl rfl ah ah oC
instance NS:Elem Tryz.prog 121 4 1 1 [.bool false]:=Elem.of (.bool false) Tryz.underlying121 ae rfl rfl ah ah oC
instance Mr:Elem Tryz.prog 217 225 4 40 yP:=Elem.of (.agg (yP).toArray) Tryz.underlying217 ae rfl rfl ah ah oC
instance OK:Elem Tryz.prog 275 61 1 24 [.slice none 0 0]:=Elem.of (.slice none 0 0) Tryz.underlying275 ae rfl rfl ah ah oC
instance Mn:fg Tryz.prog 26 0 0:=⟨fun ad w=> by kernel_rfl⟩
instance KS:fg Tryz.prog 26 1 1:=⟨fun ad w=> by kernel_rfl⟩
instance LW:fg Tryz.prog 26 2 41:=⟨fun ad w=> by kernel_rfl⟩
instance Ll:fg Tryz.prog 26 3 42:=⟨fun ad w=> by kernel_rfl⟩
instance LC:fg Tryz.prog 34 0 0:=⟨fun ad w=> by kernel_rfl⟩
instance Lf:fg Tryz.prog 34 1 1:=⟨fun ad w=> by kernel_rfl⟩
instance KU:fg Tryz.prog 34 2 2:=⟨fun ad w=> by kernel_rfl⟩
instance Mc:fg Tryz.prog 34 3 3:=⟨fun ad w=> by kernel_rfl⟩
instance LG:fg Tryz.prog 34 4 4:=⟨fun ad w=> by kernel_rfl⟩
instance Lr:fg Tryz.prog 48 0 0:=⟨fun ad w=> by kernel_rfl⟩
instance LK:fg Tryz.prog 48 1 1:=⟨fun ad w=> by kernel_rfl⟩
instance Lx:fg Tryz.prog 57 0 0:=⟨fun ad w=> by kernel_rfl⟩
instance KO:fg Tryz.prog 57 1 1:=⟨fun ad w=> by kernel_rfl⟩
instance Md:fg Tryz.prog 57 2 2:=⟨fun ad w=> by kernel_rfl⟩
instance LM:fg Tryz.prog 57 3 3:=⟨fun ad w=> by kernel_rfl⟩
instance LP:fg Tryz.prog 57 4 4:=⟨fun ad w=> by kernel_rfl⟩
instance KQ:fg Tryz.prog 64 0 0:=⟨fun ad w=> by kernel_rfl⟩
instance LO:fg Tryz.prog 64 1 1:=⟨fun ad w=> by kernel_rfl⟩
instance LQ:fg Tryz.prog 64 2 2:=⟨fun ad w=> by kernel_rfl⟩
instance LR:fg Tryz.prog 71 0 0:=⟨fun ad w=> by kernel_rfl⟩
instance Mo:fg Tryz.prog 71 1 1:=⟨fun ad w=> by kernel_rfl⟩
instance Mj:fg Tryz.prog 71 2 2:=⟨fun ad w=> by kernel_rfl⟩
instance KN:fg Tryz.prog 71 3 3:=⟨fun ad w=> by kernel_rfl⟩
instance LS:fg Tryz.prog 73 0 0:=⟨fun ad w=> by kernel_rfl⟩
instance Ld:fg Tryz.prog 73 1 1:=⟨fun ad w=> by kernel_rfl⟩
instance KH:fg Tryz.prog 80 0 0:=⟨fun ad w=> by kernel_rfl⟩
instance LJ:Fvl Tryz.prog 80 0 0 false 1:=Fvl.of Tryz.underlying80 rfl rfl Lg rfl
instance Mb:fg Tryz.prog 80 1 1:=⟨fun ad w=> by kernel_rfl⟩
instance Lw:fg Tryz.prog 83 0 0:=⟨fun ad w=> by kernel_rfl⟩
instance KW:fg Tryz.prog 83 1 1:=⟨fun ad w=> by kernel_rfl⟩
instance KL:fg Tryz.prog 83 2 2:=⟨fun ad w=> by kernel_rfl⟩
instance KP:fg Tryz.prog 83 3 3:=⟨fun ad w=> by kernel_rfl⟩
instance Ma:fg Tryz.prog 83 4 4:=⟨fun ad w=> by kernel_rfl⟩
instance LB:fg Tryz.prog 83 5 6:=⟨fun ad w=> by kernel_rfl⟩
instance Mm:fg Tryz.prog 83 6 7:=⟨fun ad w=> by kernel_rfl⟩
instance KM:fg Tryz.prog 83 7 8:=⟨fun ad w=> by kernel_rfl⟩
instance LL:fg Tryz.prog 83 8 49:=⟨fun ad w=> by kernel_rfl⟩
instance Mg:fg Tryz.prog 87 0 0:=⟨fun ad w=> by kernel_rfl⟩
instance LZ:fg Tryz.prog 87 1 1:=⟨fun ad w=> by kernel_rfl⟩
instance Ly:fg Tryz.prog 87 2 2:=⟨fun ad w=> by kernel_rfl⟩
instance LU:fg Tryz.prog 87 3 11:=⟨fun ad w=> by kernel_rfl⟩
instance Lq:fg Tryz.prog 87 4 12:=⟨fun ad w=> by kernel_rfl⟩
instance KK:fg Tryz.prog 87 5 13:=⟨fun ad w=> by kernel_rfl⟩
instance KV:fg Tryz.prog 87 6 14:=⟨fun ad w=> by kernel_rfl⟩
instance Lb:fg Tryz.prog 96 0 0:=⟨fun ad w=> by kernel_rfl⟩
instance Lo:fg Tryz.prog 96 1 3:=⟨fun ad w=> by kernel_rfl⟩
instance KI:fg Tryz.prog 96 2 4:=⟨fun ad w=> by kernel_rfl⟩
instance Lj:fg Tryz.prog 96 3 5:=⟨fun ad w=> by kernel_rfl⟩
instance KT:fg Tryz.prog 96 4 6:=⟨fun ad w=> by kernel_rfl⟩
instance La:fg Tryz.prog 96 5 7:=⟨fun ad w=> by kernel_rfl⟩
instance JT:fg Tryz.prog 103 0 0:=⟨fun ad w=> by kernel_rfl⟩
instance JR:fg Tryz.prog 103 1 3:=⟨fun ad w=> by kernel_rfl⟩
instance JS:fg Tryz.prog 103 2 4:=⟨fun ad w=> by kernel_rfl⟩
instance Ks:fg Tryz.prog 126 0 0:=⟨fun ad w=> by kernel_rfl⟩
instance Ka:fg Tryz.prog 126 1 1:=⟨fun ad w=> by kernel_rfl⟩
instance KE:fg Tryz.prog 132 0 0:=⟨fun ad w=> by kernel_rfl⟩
instance Kd:fg Tryz.prog 132 1 1:=⟨fun ad w=> by kernel_rfl⟩
instance Ko:fg Tryz.prog 171 0 0:=⟨fun ad w=> by kernel_rfl⟩
instance Kj:fg Tryz.prog 171 1 43:=⟨fun ad w=> by kernel_rfl⟩
instance Kg:fg Tryz.prog 171 2 53:=⟨fun ad w=> by kernel_rfl⟩
instance Kl:fg Tryz.prog 171 3 54:=⟨fun ad w=> by kernel_rfl⟩
instance KB:fg Tryz.prog 171 4 59:=⟨fun ad w=> by kernel_rfl⟩
instance Kp:fg Tryz.prog 171 5 60:=⟨fun ad w=> by kernel_rfl⟩
instance Ki:fg Tryz.prog 171 6 61:=⟨fun ad w=> by kernel_rfl⟩
instance JX:fg Tryz.prog 171 7 62:=⟨fun ad w=> by kernel_rfl⟩
instance JY:fg Tryz.prog 171 8 63:=⟨fun ad w=> by kernel_rfl⟩
instance Ke:fg Tryz.prog 196 0 0:=⟨fun ad w=> by kernel_rfl⟩
instance Ku:fg Tryz.prog 196 1 5:=⟨fun ad w=> by kernel_rfl⟩
instance KC:fg Tryz.prog 222 0 0:=⟨fun ad w=> by kernel_rfl⟩
instance Ky:fg Tryz.prog 222 1 1:=⟨fun ad w=> by kernel_rfl⟩
instance JQ:fg Tryz.prog 222 3 3:=⟨fun ad w=> by kernel_rfl⟩
instance Kn:fg Tryz.prog 222 4 4:=⟨fun ad w=> by kernel_rfl⟩
instance JU:fg Tryz.prog 225 0 0:=⟨fun ad w=> by kernel_rfl⟩
instance JW:fg Tryz.prog 225 2 2:=⟨fun ad w=> by kernel_rfl⟩
instance Kw:fg Tryz.prog 225 3 3:=⟨fun ad w=> by kernel_rfl⟩
instance QT:cQ Tryz.prog 23:=⟨fun args w=> by kernel_rfl⟩
instance Px:cQ Tryz.prog 30:=⟨fun args w=> by kernel_rfl⟩
instance Ph:cQ Tryz.prog 33:=⟨fun args w=> by kernel_rfl⟩
instance Qz:cQ Tryz.prog 39:=⟨fun args w=> by kernel_rfl⟩
instance PK:cQ Tryz.prog 40:=⟨fun args w=> by kernel_rfl⟩
instance PC:cQ Tryz.prog 41:=⟨fun args w=> by kernel_rfl⟩
instance Pj:cQ Tryz.prog 45:=⟨fun args w=> by kernel_rfl⟩
instance QB:cQ Tryz.prog 47:=⟨fun args w=> by kernel_rfl⟩
instance QX:cQ Tryz.prog 50:=⟨fun args w=> by kernel_rfl⟩
instance Pf:cQ Tryz.prog 51:=⟨fun args w=> by kernel_rfl⟩
instance Qq:cQ Tryz.prog 52:=⟨fun args w=> by kernel_rfl⟩
instance Pr:cQ Tryz.prog 53:=⟨fun args w=> by kernel_rfl⟩
instance Qm:cQ Tryz.prog 54:=⟨fun args w=> by kernel_rfl⟩
instance QE:cQ Tryz.prog 55:=⟨fun args w=> by kernel_rfl⟩
instance Pb:cQ Tryz.prog 56:=⟨fun args w=> by kernel_rfl⟩
instance QY:cQ Tryz.prog 57:=⟨fun args w=> by kernel_rfl⟩
instance QA:cQ Tryz.prog 58:=⟨fun args w=> by kernel_rfl⟩
instance QI:cQ Tryz.prog 59:=⟨fun args w=> by kernel_rfl⟩
instance Py:cQ Tryz.prog 64:=⟨fun args w=> by kernel_rfl⟩
instance Qe:cQ Tryz.prog 72:=⟨fun args w=> by kernel_rfl⟩
instance PT:cQ Tryz.prog 73:=⟨fun args w=> by kernel_rfl⟩
instance PR:cQ Tryz.prog 74:=⟨fun args w=> by kernel_rfl⟩
instance PQ:cQ Tryz.prog 75:=⟨fun args w=> by kernel_rfl⟩
instance PL:cQ Tryz.prog 78:=⟨fun args w=> by kernel_rfl⟩
instance Pa:cQ Tryz.prog 81:=⟨fun args w=> by kernel_rfl⟩
instance QM:cQ Tryz.prog 82:=⟨fun args w=> by kernel_rfl⟩
instance Qf:cQ Tryz.prog 85:=⟨fun args w=> by kernel_rfl⟩
instance Ra:cQ Tryz.prog 86:=⟨fun args w=> by kernel_rfl⟩
instance QO:cQ Tryz.prog 87:=⟨fun args w=> by kernel_rfl⟩
instance QV:cQ Tryz.prog 88:=⟨fun args w=> by kernel_rfl⟩
instance Qk:cQ Tryz.prog 89:=⟨fun args w=> by kernel_rfl⟩
instance Qb:cQ Tryz.prog 90:=⟨fun args w=> by kernel_rfl⟩
instance QG:cQ Tryz.prog 91:=⟨fun args w=> by kernel_rfl⟩
instance Pi:cQ Tryz.prog 92:=⟨fun args w=> by kernel_rfl⟩
instance PU:cQ Tryz.prog 93:=⟨fun args w=> by kernel_rfl⟩
instance PX:cQ Tryz.prog 94:=⟨fun args w=> by kernel_rfl⟩
instance Pm:cQ Tryz.prog 95:=⟨fun args w=> by kernel_rfl⟩
instance QQ:cQ Tryz.prog 96:=⟨fun args w=> by kernel_rfl⟩
instance Pk:cQ Tryz.prog 97:=⟨fun args w=> by kernel_rfl⟩
instance NO:cQ Tryz.prog 106:=⟨fun args w=> by kernel_rfl⟩
instance Ow:cQ Tryz.prog 107:=⟨fun args w=> by kernel_rfl⟩
instance Ov:cQ Tryz.prog 108:=⟨fun args w=> by kernel_rfl⟩
instance Nk:cQ Tryz.prog 113:=⟨fun args w=> by kernel_rfl⟩
instance NU:cQ Tryz.prog 114:=⟨fun args w=> by kernel_rfl⟩
instance Oj:cQ Tryz.prog 115:=⟨fun args w=> by kernel_rfl⟩
instance Om:cQ Tryz.prog 117:=⟨fun args w=> by kernel_rfl⟩
instance OO:cQ Tryz.prog 118:=⟨fun args w=> by kernel_rfl⟩
instance OU:cQ Tryz.prog 119:=⟨fun args w=> by kernel_rfl⟩
instance NP:cQ Tryz.prog 120:=⟨fun args w=> by kernel_rfl⟩
instance Nc:cQ Tryz.prog 121:=⟨fun args w=> by kernel_rfl⟩
instance OF:cQ Tryz.prog 122:=⟨fun args w=> by kernel_rfl⟩
instance Nz:cQ Tryz.prog 123:=⟨fun args w=> by kernel_rfl⟩
instance Mv:cQ Tryz.prog 124:=⟨fun args w=> by kernel_rfl⟩
instance Mt:cQ Tryz.prog 125:=⟨fun args w=> by kernel_rfl⟩
instance NX:cQ Tryz.prog 126:=⟨fun args w=> by kernel_rfl⟩
instance NK:cQ Tryz.prog 127:=⟨fun args w=> by kernel_rfl⟩
instance MP:cQ Tryz.prog 128:=⟨fun args w=> by kernel_rfl⟩
instance MW:cQ Tryz.prog 129:=⟨fun args w=> by kernel_rfl⟩
instance Oa:cQ Tryz.prog 130:=⟨fun args w=> by kernel_rfl⟩
instance NG:cQ Tryz.prog 131:=⟨fun args w=> by kernel_rfl⟩
instance Nn:cQ Tryz.prog 132:=⟨fun args w=> by kernel_rfl⟩
instance NC:cQ Tryz.prog 133:=⟨fun args w=> by kernel_rfl⟩
instance Nf:cQ Tryz.prog 134:=⟨fun args w=> by kernel_rfl⟩
instance Nt:cQ Tryz.prog 135:=⟨fun args w=> by kernel_rfl⟩
instance OD:cQ Tryz.prog 136:=⟨fun args w=> by kernel_rfl⟩
instance MF:cQ Tryz.prog 137:=⟨fun args w=> by kernel_rfl⟩
instance OM:cQ Tryz.prog 138:=⟨fun args w=> by kernel_rfl⟩
instance OV:cQ Tryz.prog 139:=⟨fun args w=> by kernel_rfl⟩
instance MT:cQ Tryz.prog 140:=⟨fun args w=> by kernel_rfl⟩
instance OQ:cQ Tryz.prog 141:=⟨fun args w=> by kernel_rfl⟩
instance MZ:cQ Tryz.prog 142:=⟨fun args w=> by kernel_rfl⟩
instance MD:cQ Tryz.prog 143:=⟨fun args w=> by kernel_rfl⟩
instance ND:cQ Tryz.prog 144:=⟨fun args w=> by kernel_rfl⟩
instance Mp:cQ Tryz.prog 145:=⟨fun args w=> by kernel_rfl⟩
instance Mw:cQ Tryz.prog 146:=⟨fun args w=> by kernel_rfl⟩
instance OX:cQ Tryz.prog 147:=⟨fun args w=> by kernel_rfl⟩
instance OR:cQ Tryz.prog 148:=⟨fun args w=> by kernel_rfl⟩
instance Og:cQ Tryz.prog 149:=⟨fun args w=> by kernel_rfl⟩
instance OI:cQ Tryz.prog 150:=⟨fun args w=> by kernel_rfl⟩
instance Ny:cQ Tryz.prog 151:=⟨fun args w=> by kernel_rfl⟩
instance NA:cQ Tryz.prog 152:=⟨fun args w=> by kernel_rfl⟩
instance MX:cQ Tryz.prog 153:=⟨fun args w=> by kernel_rfl⟩
instance OW:cQ Tryz.prog 154:=⟨fun args w=> by kernel_rfl⟩
instance MC:cQ Tryz.prog 155:=⟨fun args w=> by kernel_rfl⟩
instance Nm:cQ Tryz.prog 159:=⟨fun args w=> by kernel_rfl⟩
instance MR:cQ Tryz.prog 160:=⟨fun args w=> by kernel_rfl⟩
instance MA:cQ Tryz.prog 161:=⟨fun args w=> by kernel_rfl⟩
instance Nv:cQ Tryz.prog 162:=⟨fun args w=> by kernel_rfl⟩
instance NH:cQ Tryz.prog 163:=⟨fun args w=> by kernel_rfl⟩
instance NM:cQ Tryz.prog 164:=⟨fun args w=> by kernel_rfl⟩
instance OP:cQ Tryz.prog 165:=⟨fun args w=> by kernel_rfl⟩
instance NR:cQ Tryz.prog 166:=⟨fun args w=> by kernel_rfl⟩
instance MO:cQ Tryz.prog 167:=⟨fun args w=> by kernel_rfl⟩
instance MH:cQ Tryz.prog 183:=⟨fun args w=> by kernel_rfl⟩
instance MY:cQ Tryz.prog 184:=⟨fun args w=> by kernel_rfl⟩
instance Mx:cQ Tryz.prog 185:=⟨fun args w=> by kernel_rfl⟩
instance OC:cQ Tryz.prog 187:=⟨fun args w=> by kernel_rfl⟩
instance Oe:cQ Tryz.prog 188:=⟨fun args w=> by kernel_rfl⟩
instance OH:cQ Tryz.prog 189:=⟨fun args w=> by kernel_rfl⟩
instance NZ:cQ Tryz.prog 190:=⟨fun args w=> by kernel_rfl⟩
instance Oz:cQ Tryz.prog 194:=⟨fun args w=> by kernel_rfl⟩
instance Nw:cQ Tryz.prog 195:=⟨fun args w=> by kernel_rfl⟩
instance NV:cQ Tryz.prog 196:=⟨fun args w=> by kernel_rfl⟩
instance ML:cQ Tryz.prog 197:=⟨fun args w=> by kernel_rfl⟩
instance OG:cQ Tryz.prog 199:=⟨fun args w=> by kernel_rfl⟩
instance NI:cQ Tryz.prog 200:=⟨fun args w=> by kernel_rfl⟩
instance NE:cQ Tryz.prog 201:=⟨fun args w=> by kernel_rfl⟩
instance NJ:cQ Tryz.prog 202:=⟨fun args w=> by kernel_rfl⟩
instance OS:cQ Tryz.prog 203:=⟨fun args w=> by kernel_rfl⟩
instance Ok:cQ Tryz.prog 204:=⟨fun args w=> by kernel_rfl⟩
instance MN:cQ Tryz.prog 205:=⟨fun args w=> by kernel_rfl⟩
instance Oq:cQ Tryz.prog 207:=⟨fun args w=> by kernel_rfl⟩
instance NY:cQ Tryz.prog 208:=⟨fun args w=> by kernel_rfl⟩
instance MB:cQ Tryz.prog 221:=⟨fun args w=> by kernel_rfl⟩
instance MJ:cQ Tryz.prog 222:=⟨fun args w=> by kernel_rfl⟩
instance Nj:cQ Tryz.prog 223:=⟨fun args w=> by kernel_rfl⟩
instance NQ:cQ Tryz.prog 224:=⟨fun args w=> by kernel_rfl⟩
instance NF:cQ Tryz.prog 225:=⟨fun args w=> by kernel_rfl⟩
instance MS:cQ Tryz.prog 226:=⟨fun args w=> by kernel_rfl⟩
instance Ng:cQ Tryz.prog 227:=⟨fun args w=> by kernel_rfl⟩
instance MI:cQ Tryz.prog 228:=⟨fun args w=> by kernel_rfl⟩
instance MQ:cQ Tryz.prog 235:=⟨fun args w=> by kernel_rfl⟩
instance Nl:cQ Tryz.prog 236:=⟨fun args w=> by kernel_rfl⟩
instance NN:cQ Tryz.prog 237:=⟨fun args w=> by kernel_rfl⟩
instance NL:cQ Tryz.prog 240:=⟨fun args w=> by kernel_rfl⟩
end Go.Proofs.YtmjnackchaahbaaGreat

namespace Go.Proofs.YtmjnackchaahbaaGreat

instance Rc:Bld Tryz.prog 26 KG (fun i=> ([(0,1),(1,40),(41,1),(42,1)]:List (Nat×Nat))[i]?):=Bld.struct (bytes:=360) (.agg (KG).toArray) [(0,1),(1,40),(41,1),(42,1)] Tryz.underlying26 ae rfl oC (fun w=> by kernel_rfl)
instance Pl:Bld Tryz.prog 30 Gw (fun i=> some (i*1,1)):=Bld.array (bytes:=72) (.agg (Gw).toArray) Tryz.underlying30 ae rfl oC ae
instance QW:Bld Tryz.prog 34 JZ (fun i=> ([(0,1),(1,1),(2,1),(3,1),(4,1)]:List (Nat×Nat))[i]?):=Bld.struct (bytes:=88) (.agg (JZ).toArray) [(0,1),(1,1),(2,1),(3,1),(4,1)] Tryz.underlying34 ae rfl oC (fun w=> by kernel_rfl)
instance QH:Bld Tryz.prog 48 [.int .i64 0, .int .i64 0] (fun i=> ([(0,1),(1,1)]:List (Nat×Nat))[i]?):=Bld.struct (bytes:=16) (.agg #[.int .i64 0, .int .i64 0]) [(0,1),(1,1)] Tryz.underlying48 ae rfl oC (fun w=> by kernel_rfl)
instance OY:Bld Tryz.prog 57 xb (fun i=> ([(0,1),(1,1),(2,1),(3,1),(4,1)]:List (Nat×Nat))[i]?):=Bld.struct (bytes:=40) (.agg (xb).toArray) [(0,1),(1,1),(2,1),(3,1),(4,1)] Tryz.underlying57 ae rfl oC (fun w=> by kernel_rfl)
instance Pc:Bld Tryz.prog 71 IH (fun i=> ([(0,1),(1,1),(2,1),(3,1)]:List (Nat×Nat))[i]?):=Bld.struct (bytes:=56) (.agg (IH).toArray) [(0,1),(1,1),(2,1),(3,1)] Tryz.underlying71 ae rfl oC (fun w=> by kernel_rfl)
instance Pz:Bld Tryz.prog 73 IG (fun i=> ([(0,1),(1,4)]:List (Nat×Nat))[i]?):=Bld.struct (bytes:=64) (.agg (IG).toArray) [(0,1),(1,4)] Tryz.underlying73 ae rfl oC (fun w=> by kernel_rfl)
instance Pp:Bld Tryz.prog 80 [.slice none 0 0, .slice none 0 0] (fun i=> ([(0,1),(1,1)]:List (Nat×Nat))[i]?):=Bld.struct (bytes:=48) (.agg #[.slice none 0 0, .slice none 0 0]) [(0,1),(1,1)] Tryz.underlying80 ae rfl oC (fun w=> by kernel_rfl)
instance QF:Bld Tryz.prog 83 Kq (fun i=> ([(0,1),(1,1),(2,1),(3,1),(4,2),(6,1),(7,1),(8,41),(49,1),(50,1),(51,1)]:List (Nat×Nat))[i]?):=Bld.struct (bytes:=480) (.agg (Kq).toArray) [(0,1),(1,1),(2,1),(3,1),(4,2),(6,1),(7,1),(8,41),(49,1),(50,1),(51,1)] Tryz.underlying83 ae rfl oC (fun w=> by kernel_rfl)
instance QP:Bld Tryz.prog 87 IF (fun i=> ([(0,1),(1,1),(2,9),(11,1),(12,1),(13,1),(14,1)]:List (Nat×Nat))[i]?):=Bld.struct (bytes:=152) (.agg (IF).toArray) [(0,1),(1,1),(2,9),(11,1),(12,1),(13,1),(14,1)] Tryz.underlying87 ae rfl oC (fun w=> by kernel_rfl)
instance QK:Bld Tryz.prog 91 Kv (fun i=> ([(0,1),(1,1),(2,1)]:List (Nat×Nat))[i]?):=Bld.struct (bytes:=24) (.agg (Kv).toArray) [(0,1),(1,1),(2,1)] Tryz.underlying91 ae rfl oC (fun w=> by kernel_rfl)
instance PI:Bld Tryz.prog 96 Ft (fun i=> ([(0,3),(3,1),(4,1),(5,1),(6,1),(7,5)]:List (Nat×Nat))[i]?):=Bld.struct (bytes:=176) (.agg (Ft).toArray) [(0,3),(3,1),(4,1),(5,1),(6,1),(7,5)] Tryz.underlying96 ae rfl oC (fun w=> by kernel_rfl)
instance MU:Bld Tryz.prog 103 Jt (fun i=> ([(0,3),(3,1),(4,1)]:List (Nat×Nat))[i]?):=Bld.struct (bytes:=72) (.agg (Jt).toArray) [(0,3),(3,1),(4,1)] Tryz.underlying103 ae rfl oC (fun w=> by kernel_rfl)
instance MV:Bld Tryz.prog 109 xb (fun i=> ([(0,3),(3,1),(4,1)]:List (Nat×Nat))[i]?):=Bld.struct (bytes:=40) (.agg (xb).toArray) [(0,3),(3,1),(4,1)] Tryz.underlying109 ae rfl oC (fun w=> by kernel_rfl)
instance Nb:Bld Tryz.prog 111 Dq (fun i=> ([(0,5),(5,1),(6,1)]:List (Nat×Nat))[i]?):=Bld.struct (bytes:=56) (.agg (Dq).toArray) [(0,5),(5,1),(6,1)] Tryz.underlying111 ae rfl oC (fun w=> by kernel_rfl)
instance Ol:Bld Tryz.prog 115 xb (fun i=> ([(0,3),(3,1),(4,1)]:List (Nat×Nat))[i]?):=Bld.struct (bytes:=40) (.agg (xb).toArray) [(0,3),(3,1),(4,1)] Tryz.underlying115 ae rfl oC (fun w=> by kernel_rfl)
instance Nq:Bld Tryz.prog 117 Gw (fun i=> ([(0,5),(5,1),(6,1),(7,1),(8,1)]:List (Nat×Nat))[i]?):=Bld.struct (bytes:=72) (.agg (Gw).toArray) [(0,5),(5,1),(6,1),(7,1),(8,1)] Tryz.underlying117 ae rfl oC (fun w=> by kernel_rfl)
instance MM:Bld Tryz.prog 126 [.int .i64 0, .int .i64 0] (fun i=> ([(0,1),(1,1)]:List (Nat×Nat))[i]?):=Bld.struct (bytes:=16) (.agg #[.int .i64 0, .int .i64 0]) [(0,1),(1,1)] Tryz.underlying126 ae rfl oC (fun w=> by kernel_rfl)
instance Of:Bld Tryz.prog 132 DX (fun i=> ([(0,1),(1,9)]:List (Nat×Nat))[i]?):=Bld.struct (bytes:=96) (.agg (DX).toArray) [(0,1),(1,9)] Tryz.underlying132 ae rfl oC (fun w=> by kernel_rfl)
instance Mz:Bld Tryz.prog 171 Jg (fun i=> ([(0,43),(43,10),(53,1),(54,5),(59,1),(60,1),(61,1),(62,1),(63,1)]:List (Nat×Nat))[i]?):=Bld.struct (bytes:=608) (.agg (Jg).toArray) [(0,43),(43,10),(53,1),(54,5),(59,1),(60,1),(61,1),(62,1),(63,1)] Tryz.underlying171 ae rfl oC (fun w=> by kernel_rfl)
instance NB:Bld Tryz.prog 173 DQ (fun i=> some (i*1,1)):=Bld.array (bytes:=192) (.agg (DQ).toArray) Tryz.underlying173 ae rfl oC ae
instance OJ:Bld Tryz.prog 176 [] (fun i=> ([]:List (Nat×Nat))[i]?):=Bld.struct (bytes:=0) (.agg #[]) [] Tryz.underlying176 ae rfl oC (fun w=> by kernel_rfl)
instance Nu:Bld Tryz.prog 196 FC (fun i=> ([(0,5),(5,1)]:List (Nat×Nat))[i]?):=Bld.struct (bytes:=48) (.agg (FC).toArray) [(0,5),(5,1)] Tryz.underlying196 ae rfl oC (fun w=> by kernel_rfl)
instance MG:Bld Tryz.prog 222 IU (fun i=> ([(0,1),(1,1),(2,1),(3,1),(4,1)]:List (Nat×Nat))[i]?):=Bld.struct (bytes:=72) (.agg (IU).toArray) [(0,1),(1,1),(2,1),(3,1),(4,1)] Tryz.underlying222 ae rfl oC (fun w=> by kernel_rfl)
instance Mu:Bld Tryz.prog 225 yP (fun i=> ([(0,1),(1,1),(2,1),(3,1)]:List (Nat×Nat))[i]?):=Bld.struct (bytes:=40) (.agg (yP).toArray) [(0,1),(1,1),(2,1),(3,1)] Tryz.underlying225 ae rfl oC (fun w=> by kernel_rfl)
def dL (n m:Int):Int:=(if n < 0 then -(n+1) else n) % m
theorem jg (n m:Int) (h:0 < m):0≤dL n m:=Int.emod_nonneg _ ab
theorem jW (n m:Int) (h:0 < m):dL n m < m:=Int.emod_lt_of_pos _ h
theorem jL (n m:Int) (hm:1≤m) (h1:m≤4611686018427387904) (h2: -9223372036854775808≤n) (h3:n≤9223372036854775807):
  Spec Tryz.prog 33 (ba [.v (.int .i64 n), .v (.int .i64 m)] []) (aP (.v (.int .i64 (dL n m))) []):=by
 refine Spec.ofN Tryz.func33 rfl Tryz.ntmps33 rfl ?_
 refine am (bg rfl (aj (aq (am (aX rfl (ai (bm _ _ rfl rfl rfl) (aj (aR rfl (fun hc6=> ?_) (fun hc6=> ?_)))))))))
 ·skip
  refine an (aX rfl (ai (aZ _ _ rfl rfl (bD ab)) ?_))
  refine ai (Bi _ rfl (bD ab)) ?_
  refine bg rfl (aj (am (aX rfl (aX rfl (ai (dX _ _ rfl rfl ab (Int.tmod_eq_emod_of_nonneg ab)) ?_)))))
  refine bg rfl (aj (aG (ry rfl rfl ?_)))
  unfold dL
  rw [if_pos hc6]
 refine aS (am (aX rfl (aX rfl (ai (dX _ _ rfl rfl ab (Int.tmod_eq_emod_of_nonneg ab)) ?_))))
 refine bg rfl (aj (aG (ry rfl rfl ?_)))
 unfold dL
 rw [if_neg ab]

theorem od (n m:Nat) (xs ys:List Int) (hn:xs.length=n) (hm:ys.length=m) (h1:n≤4611686018427387904) (h2:m≤4611686018427387904):
  Spec Tryz.prog 30 (ba [.sl n (cm xs), .sl m (cm ys)] []) (aP (.v (.bool (decide (xs=ys)))) []):=by
 subst hn;subst hm
 refine Spec.ofN Tryz.func30 rfl Tryz.ntmps30 rfl ?_
 refine am (cu rfl (aj (aq (am (eO rfl (ai (bi _ aa rfl) (eO rfl (ai (bi _ aa rfl) (ai (bN _ _ rfl rfl rfl) (aj ?_))))))))))
 refine aR rfl (fun hc10=> ?_) (fun hc10=> ?_)
 ·skip
  refine am (cu rfl (aj (aG (rV rfl rfl ?_))))
  exact decide_eq_false fun h=> by subst h;omega
 refine aS (aT fun K5 hK5=> ?_)
 refine am (bg rfl (aj (ay ?_)))
 refine bq (α:=Nat) (fun k=> k≤xs.length∧xs.length=ys.length∧xs.take k=ys.take k) 26 [(0,_),(1,_)] [] (fun k=> [(5, .v (.int .i64 (k:Int)))]) (fun k=> []) [] [] (fun k=> xs.length - k) 0 ?_ (by
  refine Le.mkJ [] [] rfl ?_ ?_ trivial trivial ?_
  ·exact ⟨(by exact iS rfl),(by exact iS rfl),(ci ag),trivial⟩
  ·exact trivial
  kernel_rfl) ?_
 ·exact ⟨by omega,by omega,rfl⟩
 intro k hk
 obtain ⟨hk,hl,ht⟩:=hk
 refine aT fun K7 hK7=> ?_
 refine am (aX rfl (eO rfl (ai (bi _ aa rfl) (ai (bm _ _ rfl rfl rfl) (aj (aR rfl (fun hc14=> ?_) (fun hc14=> ?_)))))))
 ·skip
  have hkx:k < xs.length:=by omega
  have hky:k < ys.length:=by omega
  refine br (hK7 _ ?_)
  clear hK7;try clear K7
  refine aq (ay (aq ?_))
  refine aM (σ':=aE 26 [(0,_),(1,_),(5,_)] [] [] []) (by
   refine Le.mkJ [] [] rfl ?_ ?_ trivial trivial ?_
   ·exact ⟨(by exact iS rfl),(by exact iS rfl),(iV rfl),trivial⟩
   ·exact trivial
   kernel_rfl) ?_
  refine bJ 9 [17,18,19,20,21,22,23,24,25] [] ae ae rfl (aK rfl) (rfl:_=[_,_,_,_,_,_,_,_,_]) (rfl:_=[]) ?_
  refine ap (_,[]) (fun τ=> aI _ mx) ?_
  refine fO rfl ?_
  refine ap (_,[]) (fun τ=> aI _ et) ?_
  refine fN rfl ?_
  refine ap (_,[]) (fun τ=> bn _ _ aa rfl rfl _ rfl ab (by (simp only [aL,bb,bj];omega)) (by exact Nat.mul_one _)) ?_
  refine fP rfl ?_
  refine ap (_,[]) (fun τ=> bL _ aa rfl (by exact dI _ _ ab) rfl) ?_
  refine fV rfl ?_
  refine ap (_,[]) (fun τ=> aI _ mx) ?_
  refine gm rfl ?_
  refine ap (_,[]) (fun τ=> aI _ et) ?_
  refine gY rfl ?_
  refine ap (_,[]) (fun τ=> bn _ _ aa rfl rfl _ rfl ab (by (simp only [aL,bb,bj];omega)) (by exact Nat.mul_one _)) ?_
  refine iH rfl ?_
  refine ap (_,[]) (fun τ=> bL _ aa rfl (by exact dI _ _ ab) rfl) ?_
  refine jU rfl ?_
  refine ap (_,[]) (fun τ=> bN _ _ rfl rfl rfl) ?_
  refine kA rfl (bo ⟨rfl,?_⟩)
  refine aj (aR rfl (fun hc25=> ?_) (fun hc25=> ?_))
  ·skip
   refine am (cu rfl (aj (aG (rV rfl rfl ?_))))
   exact decide_eq_false fun h=> by subst h;exact hc25 rfl
  refine cr (an (aX rfl (ai (aZ _ _ rfl rfl (bD ab)) ?_)))
  refine bg rfl (aJ (⟨k+1,?_,?_,?_⟩))
  ·refine ⟨by omega,hl,?_⟩
   rw [si _ _ _ hkx,si _ _ _ hky] at hc25
   rw [List.take_succ_eq_append_getElem hkx,List.take_succ_eq_append_getElem hky,ht,hc25]
  ·skip
   refine Le.mkJ [] [] rfl ?_ ?_ trivial trivial ?_
   ·exact ⟨(by exact iS rfl),(by exact iS rfl),(ci ag),trivial⟩
   ·exact trivial
   kernel_rfl
  omega
 refine bA (id (hK5 _ ?_))
 clear hK5;try clear K5
 refine am (cu rfl (aj (aG (rV rfl rfl ?_))))
 rw [List.take_of_length_le ab,List.take_of_length_le ab] at ht
 exact decide_eq_true ht

theorem pi (b:UInt8):Spec Tryz.prog 221 (ba [.v (.int .u8 (b.toNat:Int))] []) (aP (.v (.bool (nJ b))) []):=by
 have h:=Ct b
 refine Spec.ofN Tryz.func221 rfl Tryz.ntmps221 rfl ?_
 refine am (cu rfl (aj (am (aX rfl (ai (fu _ _ rfl rfl rfl) (cI rfl (dv (fun hg5=> ?_) (fun hg5=> ?_))))))))
 ·skip
  have h:nJ b=decide ((b.toNat:Int)≤122):=by rw [Bool.eq_iff_iff,h];simp [hg5]
  refine au rfl rfl (aI _ et) (au rfl rfl (vI _ _ rfl rfl rfl) (ai (aD _ _ _ rfl bT) (cu rfl (aj (aG (rV rfl rfl ?_))))))
  exact h
 have h:nJ b=false:=Gv h (fun x=> by omega)
 refine aO rfl rfl ah ?_
 refine aO rfl rfl ah ?_
 refine ai (aD _ _ _ rfl bT) (cu rfl (aj (aG (rV rfl rfl ?_))))
 exact h
theorem mz (b:UInt8):Spec Tryz.prog 222 (ba [.v (.int .u8 (b.toNat:Int))] []) (aP (.v (.bool (gI b))) []):=by
 have h:=tX b
 refine Spec.ofN Tryz.func222 rfl Tryz.ntmps222 rfl ?_
 refine am (cu rfl (aj (am (aX rfl (ai (fu _ _ rfl rfl rfl) (cI rfl (dv (fun hg5=> ?_) (fun hg5=> ?_))))))))
 ·skip
  have h:gI b=decide ((b.toNat:Int)≤57):=by rw [Bool.eq_iff_iff,h];simp [hg5]
  refine au rfl rfl (aI _ et) (au rfl rfl (vI _ _ rfl rfl rfl) (ai (aD _ _ _ rfl bT) (cu rfl (aj (aG (rV rfl rfl ?_))))))
  exact h
 have h:gI b=false:=Gv h (fun x=> by omega)
 refine aO rfl rfl ah ?_
 refine aO rfl rfl ah ?_
 refine ai (aD _ _ _ rfl bT) (cu rfl (aj (aG (rV rfl rfl ?_))))
 exact h
theorem qP (l:List Tx) (n:Nat) (hn:l.length=n) (h1:n≤1000) (t:Tx):Spec Tryz.prog 224 (ba [.sl n (fm l), .v (bt t)] []) (aP (.v (.bool (decide (t∈l)))) []):=by
 refine Spec.ofN Tryz.func224 rfl Tryz.ntmps224 rfl ?_
 refine am (cu rfl (aj (aT fun K2 hK2=> ?_)))
 refine am (bg rfl (aj (ay ?_)))
 refine bq (α:=Nat) (fun k=> k≤n∧t∉l.take k) 18 [(0,_),(1,_)] [] (fun k=> [(5, .v (.int .i64 (k:Int)))]) (fun k=> []) [] [] (fun k=> n - k) 0 ?_ (by
  refine Le.mkJ [] [] rfl ?_ ?_ trivial trivial ?_
  ·exact ⟨(iS rfl),(iV rfl),(ci ag),trivial⟩
  ·exact trivial
  kernel_rfl) ?_
 ·exact ⟨Nat.zero_le _,by simp⟩
 intro k hk
 obtain ⟨hk,hnt⟩:=hk
 refine aT fun K4 hK4=> ?_
 refine am (aX rfl (eO rfl (ai (bi _ aa rfl) (ai (bm _ _ rfl rfl rfl) (aj (aR rfl (fun hc9=> ?_) (fun hc9=> ?_)))))))
 ·skip
  refine br (hK4 _ ?_)
  clear hK4;try clear K4
  refine aq (ay (am (eO rfl (aX rfl (ai (bn _ _ aa rfl rfl _ rfl ab (by (simp only [aL,bb,bj,bv];omega)) (by exact Nat.mul_one _)) ?_)))))
  refine ai (bL _ aa rfl (by exact jI _ _ ab) rfl) ?_
  refine ej rfl (ai (aV _ _ Tryz.underlying9 rfl rfl rfl) (aj (aR rfl (fun hc17=> ?_) (fun hc17=> ?_))))
  ·skip
   refine am (cu rfl (aj (aG (rV rfl rfl ?_))))
   exact decide_eq_true (hc17 ▸ kr ab)
  refine cr (an (aX rfl (ai (aZ _ _ rfl rfl (bD ab)) ?_)))
  refine bg rfl (aJ (⟨k+1,?_,?_,?_⟩))
  ·exact ⟨by omega,kU hnt ab hc17⟩
  ·skip
   refine Le.mkJ [] [] rfl ?_ ?_ trivial trivial ?_
   ·exact ⟨(iS rfl),(iV rfl),(ci ag),trivial⟩
   ·exact trivial
   kernel_rfl
  omega
 have hall:t∉l:=by rwa [List.take_of_length_le ab] at hnt
 refine bA (id (hK2 _ ?_))
 clear hK2;try clear K2
 refine am (cu rfl (aj (aG (rV rfl rfl ?_))))
 exact decide_eq_false hall
theorem rt (s:Tx) (at_:Nat) (h1:s.length≤100000) (ha:at_≤s.length):Spec Tryz.prog 194 (ba [.v (bt s), .v (.int .i64 (at_:Int))] []) (aP (.v (.int .i64 (la s at_ false:Int))) []):=by
 refine Spec.ofN Tryz.func194 rfl Tryz.ntmps194 rfl ?_
 refine am (bg rfl (aj (aT fun K2 hK2=> ?_)))
 refine ay ?_
 refine bq (α:=Nat) (fun k=> k≤s.length∧la s k false=la s at_ false) 41 [(0,_)] [] (fun k=> [(1, .v (.int .i64 (k:Int)))]) (fun k=> []) [] [] (fun k=> s.length - k) at_ ?_ (by
  refine Le.mkJ [] [] rfl ?_ ?_ trivial trivial ?_
  ·exact ⟨(iV rfl),(ci ag),trivial⟩
  ·exact trivial
  kernel_rfl) ?_
 ·exact ⟨ha,rfl⟩
 intro k hk
 obtain ⟨hk,hs⟩:=hk
 refine aT fun K3 hK3=> ?_
 refine am (aX rfl (ej rfl (ai (im _ Tryz.underlying9 rfl) (ai (bm _ _ rfl rfl rfl) (aj (aR rfl (fun hc9=> ?_) (fun hc9=> ?_)))))))
 ·skip
  obtain ⟨b,hb⟩:=kN (s:=s) (a:=k) ab
  have hbi:=Lc b
  refine br (hK3 _ ?_)
  clear hK3;try clear K3
  refine ay (am (ej rfl (aX rfl (ai (lP _ _ Tryz.underlying9 rfl rfl (by assumption)) ?_))))
  refine bg rfl (aj (am (aX rfl (ai (bC _ _ rfl rfl rfl) (aj (aR rfl (fun hc14=> ?_) (fun hc14=> ?_)))))))
  ·skip
   have hs:=(Bq hb ab).symm.trans hs
   refine ay ?_
   refine bq (α:=Nat) (fun j=> k≤j∧j≤s.length∧la s j true=la s at_ false∧(j=k→j < s.length)) 41 [(0,_)] [] (fun j=> [(1, .v (.int .i64 (j:Int)))]) (fun j=> []) [] [] (fun j=> s.length - j) k ?_ (by
    refine Le.mkJ [] [] rfl ?_ ?_ trivial trivial ?_
    ·exact ⟨(iV rfl),(ci ag),trivial⟩
    ·exact trivial
    kernel_rfl) ?_
   ·exact ⟨Nat.le_refl _,by omega,hs,fun _=> by omega⟩
   intro j hj
   obtain ⟨hj1,hj2,hsj,hjk⟩:=hj
   refine aT fun K7 hK7=> ?_
   refine aT fun K8 hK8=> ?_
   refine an (aX rfl (ej rfl (ai (im _ Tryz.underlying9 rfl) (ai (bm _ _ rfl rfl rfl) (cI rfl (dv (fun hg19=> ?_) (fun hg19=> ?_)))))))
   ·skip
    obtain ⟨u,hu⟩:=kN (s:=s) (a:=j) ab
    have hui:=Lc u
    refine au rfl rfl (aI _ wZ) (au rfl rfl (aI _ et) (au rfl rfl (lP _ _ Tryz.underlying9 rfl rfl (by assumption)) ?_))
    refine au rfl rfl (bN _ _ rfl rfl rfl) (ai (aD _ _ _ rfl bT) (aJ (hK8 _ ?_)))
    clear hK8;try clear K8
    refine aR rfl (fun hc24=> ?_) (fun hc24=> ?_)
    ·skip
     refine br (hK7 _ ?_)
     clear hK7;try clear K7
     refine ay (an (aX rfl (ai (aZ _ _ rfl rfl (bD ab)) ?_)))
     refine bg rfl (aJ (⟨j+1,?_,?_,?_⟩))
     ·exact ⟨by omega,by omega,(Ib hu ab).symm.trans hsj,fun _=> by omega⟩
     ·skip
      refine Le.mkJ [] [] rfl ?_ ?_ trivial trivial ?_
      ·exact ⟨(iV rfl),(ci ag),trivial⟩
      ·exact trivial
      kernel_rfl
     omega
    have hjs:la s j false=la s at_ false:=by rw [← hsj,GD hu ab]
    have hjk':k < j:=Nat.lt_of_le_of_ne hj1 fun e=> by subst e;rw [hb] at hu;obtain rfl:=Option.some.inj hu;omega
    refine bA (id (⟨j,?_,?_,?_⟩))
    ·exact ⟨hj2,hjs⟩
    ·skip
     refine Le.mkJ [] [] rfl ?_ ?_ trivial trivial ?_
     ·exact ⟨(iV rfl),(ci ag),trivial⟩
     ·exact trivial
     kernel_rfl
    omega
   have hjs:la s j false=la s at_ false:=by rw [← hsj,tj ab,tj ab]
   have hjk':k < j:=Nat.lt_of_le_of_ne hj1 fun e=> by have:=hjk e.symm;omega
   refine aO rfl rfl ah ?_
   refine aO rfl rfl ah ?_
   refine aO rfl rfl ah ?_
   refine aO rfl rfl ah ?_
   refine ai (aD _ _ _ rfl bT) (aJ (hK8 _ ?_))
   clear hK8;try clear K8
   refine aW rfl rfl (bA (id (⟨j,?_,?_,?_⟩)))
   ·exact ⟨hj2,hjs⟩
   ·skip
    refine Le.mkJ [] [] rfl ?_ ?_ trivial trivial ?_
    ·exact ⟨(iV rfl),(ci ag),trivial⟩
    ·exact trivial
    kernel_rfl
   omega
  refine am (aX rfl (ai (bC _ _ rfl rfl rfl) (cI rfl (dv (fun hg29=> ?_) (fun hg29=> ?_)))))
  ·skip
   have hs2:la s (k+1) false=la s at_ false:=(vJ hb ab ab).symm.trans hs
   refine aO rfl rfl ah ?_
   refine aO rfl rfl ah ?_
   refine ai (aD _ _ _ rfl bT) (cI rfl (aO rfl rfl ah ?_))
   refine aO rfl rfl ah ?_
   refine ai (aD _ _ _ rfl bT) (aj (bK rfl rfl ?_))
   refine aM (σ':=aE 41 [(0,_),(1,_)] [] [] []) kp ?_
   refine an (aX rfl (ai (aZ _ _ rfl rfl (bD ab)) ?_))
   refine bg rfl (aJ (⟨k+1,?_,?_,?_⟩))
   ·exact ⟨by omega,hs2⟩
   ·skip
    refine Le.mkJ [] [] rfl ?_ ?_ trivial trivial ?_
    ·exact ⟨(iV rfl),(ci ag),trivial⟩
    ·exact trivial
    kernel_rfl
   omega
  refine au rfl rfl (aI _ et) (au rfl rfl (bC _ _ rfl rfl rfl) (ai (aD _ _ _ rfl bT) (cI rfl (dv (fun hg33=> ?_) (fun hg33=> ?_)))))
  ·skip
   have hs2:la s (k+1) false=la s at_ false:=(vJ hb ab ab).symm.trans hs
   refine aO rfl rfl ah ?_
   refine aO rfl rfl ah ?_
   refine ai (aD _ _ _ rfl bT) (aj (bK rfl rfl ?_))
   refine aM (σ':=aE 41 [(0,_),(1,_)] [] [] []) kp ?_
   refine an (aX rfl (ai (aZ _ _ rfl rfl (bD ab)) ?_))
   refine bg rfl (aJ (⟨k+1,?_,?_,?_⟩))
   ·exact ⟨by omega,hs2⟩
   ·skip
    refine Le.mkJ [] [] rfl ?_ ?_ trivial trivial ?_
    ·exact ⟨(iV rfl),(ci ag),trivial⟩
    ·exact trivial
    kernel_rfl
   omega
  refine au rfl rfl (aI _ et) (au rfl rfl (bC _ _ rfl rfl rfl) (ai (aD _ _ _ rfl bT) (aj (aR rfl (fun hc36=> ?_) (fun hc36=> ?_)))))
  ·skip
   have hs2:la s (k+1) false=la s at_ false:=(vJ hb ab ab).symm.trans hs
   refine aM (σ':=aE 41 [(0,_),(1,_)] [] [] []) kp ?_
   refine an (aX rfl (ai (aZ _ _ rfl rfl (bD ab)) ?_))
   refine bg rfl (aJ (⟨k+1,?_,?_,?_⟩))
   ·exact ⟨by omega,hs2⟩
   ·skip
    refine Le.mkJ [] [] rfl ?_ ?_ trivial trivial ?_
    ·exact ⟨(iV rfl),(ci ag),trivial⟩
    ·exact trivial
    kernel_rfl
   omega
  have hs3:=(Fu hb ab ab).symm.trans hs
  refine aq ?_
  refine aM (σ':=aE 41 [(1,_)] [] [] []) kp ?_
  refine an (aX rfl (bg rfl (aj (aG (ry rfl rfl ?_)))))
  rw [hs3]
 refine bA (id (hK2 _ ?_))
 clear hK2;try clear K2
 refine am (aX rfl (bg rfl (aj (aG (ry rfl rfl ?_)))))
 rw [← hs,tj ab]
theorem qi (s:Tx) (h1:s.length≤100000) (hd: ∀ b∈s,gI b=true) (hv:lb s≤2147483647):Spec Tryz.prog 223 (ba [.v (bt s)] []) (aP (.v (.int .i64 (lb s:Int))) []):=by
 have hvt:=fun i=> yp s i
 refine Spec.ofN Tryz.func223 rfl Tryz.ntmps223 rfl ?_
 refine am (bg rfl (aj (am (bg rfl (aj (aT fun K3 hK3=> ?_))))))
 refine am (bg rfl (aj (ay ?_)))
 refine bq (α:=Nat) (fun k=> k≤s.length) 22 [(0,_)] [] (fun k=> [(3, .v (.int .i64 (lb (s.take k):Int))),(4, .v (.int .i64 (k:Int)))]) (fun k=> []) [] [] (fun k=> s.length - k) 0 ?_ (by
  refine Le.mkJ [] [] rfl ?_ ?_ trivial trivial ?_
  ·exact ⟨(iV rfl),(ci ag),(ci ag),trivial⟩
  ·exact trivial
  kernel_rfl) ?_
 ·omega
 intro k hk
 refine aT fun K5 hK5=> ?_
 refine am (aX rfl (ej rfl (ai (im _ Tryz.underlying9 rfl) (ai (bm _ _ rfl rfl rfl) (aj (aR rfl (fun hc8=> ?_) (fun hc8=> ?_)))))))
 ·skip
  obtain ⟨b,hb⟩:=kN (s:=s) (a:=k) ab
  have hbi:=Lc b
  have hbd:=(tX b).1 (hd b (List.mem_of_getElem? hb))
  have hvs:=xW hb
  have hv0:=hvt k
  have hv1:=hvt (k+1)
  have hvi:(10:Int)*(lb (s.take k):Int)+(b.toNat:Int) - 48=(lb (s.take (k+1)):Int):=by omega
  refine br (hK5 _ ?_)
  clear hK5;try clear K5
  refine aq (ay (am (aX rfl (ai (zx _ _ rfl rfl (bD ab)) ?_))))
  refine ej rfl (aX rfl (ai (lP _ _ Tryz.underlying9 rfl rfl (by assumption)) ?_))
  refine ai (sw _ Tryz.underlying5 Tryz.underlying3 rfl (bD ab)) ?_
  refine ai (aZ _ _ rfl rfl (bD ab)) ?_
  refine ai (kE _ _ rfl rfl (bD ab)) ?_
  refine bg rfl (aj (am (aX rfl (ai (gb _ _ rfl rfl rfl) (aj (aW rfl (decide_eq_false ab) ?_))))))
  refine cr ?_
  refine aM (σ':=aE 22 [(0,_),(3,_),(4,_)] [] [] []) kp ?_
  refine an (aX rfl (ai (aZ _ _ rfl rfl (bD ab)) ?_))
  refine bg rfl (aJ (⟨k+1,?_,?_,?_⟩))
  ·omega
  ·skip
   refine Le.mkJ [] [] rfl ?_ ?_ trivial trivial ?_
   ·exact ⟨(iV rfl),(ci ab),(ci ag),trivial⟩
   ·exact trivial
   kernel_rfl
  omega
 have he:s.take k=s:=List.take_of_length_le ab
 refine bA (id (hK3 _ ?_))
 clear hK3;try clear K3
 refine am (aX rfl (bg rfl (aj (aG (ry rfl rfl ?_)))))
 rw [he]

theorem Ag {p:UInt8→Bool} {c:UInt8}: ∀ {l:List UInt8},c∈l.takeWhile p→p c=true
 | [],h=> by simp at h
 | x::l,h=> by
  rw [List.takeWhile_cons] at h
  split at h
  ·rename_i hx
   rcases List.mem_cons.1 h with rfl | h
   ·exact hx
   exact Ag h
  simp at h
def tU (c:UInt8):Bool:=nJ c || gI c
theorem rl {s:Tx} {a:Nat} {b:UInt8} {t:Tk} (hb:s[a]? =some b) (h1:nJ b=true) (h:qZ (s.drop a) a=some t):lL tU s (a+1) - a≤10∧t=⟨1,a,(s.drop a).take (lL tU s (a+1) - a),0⟩:=by
 rw [ul hb]
 rw [gl hb,qZ] at h
 simp only [h1,if_true] at h
 rw [show lL tU s (a+1) - a=(b::(s.drop (a+1)).takeWhile fun x=> nJ x || gI x).length by unfold lL tU;rw [List.length_cons];omega]
 split at h
 ·cases h
 rename_i hl;exact ⟨by omega,(Option.some.inj h).symm⟩
theorem vk {s:Tx} {a:Nat} {b:UInt8} {t:Tk} (hb:s[a]? =some b) (h1:nJ b=false) (h2:gI b=true) (h:qZ (s.drop a) a=some t):
  (∀ c∈(s.drop a).take (lL gI s (a+1) - a),gI c=true)∧lb ((s.drop a).take (lL gI s (a+1) - a))≤2147483647∧t=⟨2,a,(s.drop a).take (lL gI s (a+1) - a),lb ((s.drop a).take (lL gI s (a+1) - a))⟩:=by
 rw [ul hb]
 rw [gl hb,qZ] at h
 simp only [h1,h2,if_true] at h
 simp only [Bool.false_eq_true,if_false] at h
 split at h
 ·cases h
 rename_i hl
 refine ⟨fun c hc=> ?_,by omega,(Option.some.inj h).symm⟩
 rcases List.mem_cons.1 hc with rfl | hc
 ·exact h2
 exact Ag hc
theorem uE {s:Tx} {a:Nat} {b:UInt8} {t:Tk} (hb:s[a]? =some b) (h1:nJ b=false) (h2:gI b=false) (h:qZ (s.drop a) a=some t):
  ((s.drop a).take 2∈Ga∧t=⟨3,a,(s.drop a).take 2,0⟩)∨((s.drop a).take 2∉Ga∧(s.drop a).take 1∈HC∧t=⟨3,a,(s.drop a).take 1,0⟩):=by
 rw [gl hb,qZ] at h
 simp only [h1,h2,Bool.false_eq_true,if_false] at h
 rw [gl hb]
 split at h
 ·rename_i hm;exact .inl ⟨hm,(Option.some.inj h).symm⟩
 rename_i hm
 split at h
 ·rename_i hs;exact .inr ⟨hm,hs,(Option.some.inj h).symm⟩
 cases h
theorem zi {s:Tx} {a:Nat} (h:a < s.length):(s.drop a).take (min (a+2) s.length - a)=(s.drop a).take 2:=by
 by_cases h2:a+2≤s.length
 ·congr 1;omega
 rw [List.take_of_length_le (by rw [List.length_drop];omega),List.take_of_length_le (by rw [List.length_drop];omega)]
theorem wb (s:Tx) (a:Nat) (h1:s.length≤100000) (ha:a < s.length) (t:Tk) (ht:qZ (s.drop a) a=some t):
  Spec Tryz.prog 195 (ba [.v (bt s), .v (.int .i64 (a:Int))] []) (aP (.tup [.agg [.v (.int .i64 (t.k:Int)), .v (.int .i64 (t.a:Int)), .v (bt t.t), .v (.int .i64 (t.n:Int))], .v (.int .i64 0)]) []):=by
 obtain ⟨b,hb⟩:=kN ha
 have hwl:=sx (p:=tU) (s:=s) (a:=a+1) ab
 have hdl:=sx (p:=gI) (s:=s) (a:=a+1) ab
 refine Spec.ofN Tryz.func195 rfl Tryz.ntmps195 rfl ?_
 refine am (ai (aB (4,0) aa rfl rfl) (bg rfl (aj (am (aX rfl (ai (aZ _ _ rfl rfl (bD ab)) ?_))))))
 refine bg rfl (aj (aq (am (ej rfl (aX rfl (ai (lP _ _ Tryz.underlying9 rfl rfl (by assumption)) ?_))))))
 refine ai (aH aa al (pi b) rfl rfl) ?_
 refine aj (aR rfl (fun hc15=> ?_) (fun hc15=> ?_))
 ·skip
  obtain ⟨htl,hte⟩:=rl hb hc15 ht
  refine aT fun K5 hK5=> ?_
  refine ay ?_
  refine bq (α:=Nat) (fun e=> a+1≤e∧e≤s.length∧lL tU s e=lL tU s (a+1)) 101 [(0,_),(1,_),(4,_)] [((4,0),_)] (fun e=> [(6, .v (.int .i64 (e:Int)))]) (fun e=> []) [] [] (fun e=> s.length - e) (a+1) ?_ (by
   refine Le.mkJ [] [] rfl ?_ ?_ trivial trivial ?_
   ·exact ⟨(iV rfl),(iV rfl),(iP rfl),(ci ag),trivial⟩
   ·exact ⟨(cj rfl rfl rfl),trivial⟩
   kernel_rfl) ?_
  ·exact ⟨Nat.le_refl _,by omega,rfl⟩
  intro e he
  obtain ⟨he1,he2,het⟩:=he
  refine aT fun K6 hK6=> ?_
  refine aT fun K7 hK7=> ?_
  refine an (aX rfl (ej rfl (ai (im _ Tryz.underlying9 rfl) (ai (bm _ _ rfl rfl rfl) (cI rfl (dv (fun hg20=> ?_) (fun hg20=> ?_)))))))
  ·skip
   obtain ⟨u,hu⟩:=kN (s:=s) (a:=e) ab
   refine au rfl rfl (aI _ wZ) (au rfl rfl (aI _ et) (au rfl rfl (lP _ _ Tryz.underlying9 rfl rfl (by assumption)) ?_))
   refine au rfl rfl (aH aa al (pi u) rfl rfl) ?_
   refine au rfl rfl (aI _ bT) (dv (fun hg25=> ?_) (fun hg25=> ?_))
   ·skip
    have hnx:lL tU s (e+1)=lL tU s (a+1):=(sX hu (by unfold tU;rw [hg25];rfl)).symm.trans het
    refine aO rfl rfl ah ?_
    refine aO rfl rfl ah ?_
    refine aO rfl rfl ah ?_
    refine aO rfl rfl ah ?_
    refine au rfl rfl (aD _ _ _ rfl bT) (ai (aD _ _ _ rfl bT) (aJ (hK7 _ ?_)))
    clear hK7;try clear K7
    refine bK rfl rfl (br (hK6 _ ?_))
    clear hK6;try clear K6
    refine ay ?_
    refine aM (σ':=aE 101 [(0,_),(1,_),(4,_),(6,_)] [((4,0),_)] [] []) kp ?_
    refine an (aX rfl (ai (aZ _ _ rfl rfl (bD ab)) ?_))
    refine bg rfl (aJ (⟨e+1,?_,?_,?_⟩))
    ·exact ⟨by omega,by omega,hnx⟩
    ·skip
     refine Le.mkJ [] [] rfl ?_ ?_ trivial trivial ?_
     ·exact ⟨(iV rfl),(iV rfl),(iP rfl),(ci ag),trivial⟩
     ·exact ⟨(cj rfl rfl rfl),trivial⟩
     kernel_rfl
    omega
   refine au rfl rfl (aI _ wZ) (au rfl rfl (aI _ et) (au rfl rfl (lP _ _ Tryz.underlying9 rfl rfl (by assumption)) ?_))
   refine au rfl rfl (aH aa al (mz u) rfl rfl) ?_
   refine au rfl rfl (aD _ _ _ rfl bT) (ai (aD _ _ _ rfl bT) (aJ (hK7 _ ?_)))
   clear hK7;try clear K7
   refine aR rfl (fun hc31=> ?_) (fun hc31=> ?_)
   ·skip
    have hnx:lL tU s (e+1)=lL tU s (a+1):=(sX hu (by unfold tU;rw [hg25,hc31];rfl)).symm.trans het
    refine br (hK6 _ ?_)
    clear hK6;try clear K6
    refine ay ?_
    refine aM (σ':=aE 101 [(0,_),(1,_),(4,_),(6,_)] [((4,0),_)] [] []) kp ?_
    refine an (aX rfl (ai (aZ _ _ rfl rfl (bD ab)) ?_))
    refine bg rfl (aJ (⟨e+1,?_,?_,?_⟩))
    ·exact ⟨by omega,by omega,hnx⟩
    ·skip
     refine Le.mkJ [] [] rfl ?_ ?_ trivial trivial ?_
     ·exact ⟨(iV rfl),(iV rfl),(iP rfl),(ci ag),trivial⟩
     ·exact ⟨(cj rfl rfl rfl),trivial⟩
     kernel_rfl
    omega
   have hfin:e=lL tU s (a+1):=(As hu (by unfold tU;rw [hg25,hc31];rfl)).symm.trans het
   refine bA (id (hK5 _ ?_))
   clear hK5;try clear K5
   refine aq (aq ?_)
   refine aM (σ':=aE 101 [(0,_),(1,_),(4,_),(6,_)] [((4,0),_)] [] []) kp ?_
   refine an (aX rfl (aX rfl (ai (kE _ _ rfl rfl (bD ab)) ?_)))
   refine ai (gb _ _ rfl rfl rfl) (aj (aW rfl (decide_eq_false ab) ?_))
   refine aS (am (aX rfl (ej rfl (aX rfl (aX rfl (ai (lj _ _ _ Tryz.underlying9 rfl _ _ (.lit rfl rfl) (.lit rfl rfl) ab ab rfl) ?_))))))
   refine ai (aN _ aa rfl (by exact kT)) ?_
   refine bF rfl rfl rfl rfl rfl rfl (bg rfl (aj (aG ?_)))
   subst hte;subst hfin
   exact jS (.inr rfl) rfl (.cellA aa rfl rfl rfl) (.tmp kL) (Le.out [] [] (.tup rfl lz) rfl rfl rfl trivial trivial)
  have hfin:e=lL tU s (a+1):=(wS ab).symm.trans het
  refine aO rfl rfl ah ?_
  refine aO rfl rfl ah ?_
  refine aO rfl rfl ah ?_
  refine aO rfl rfl ah ?_
  refine aO rfl rfl ah ?_
  refine gO rfl rfl (gO rfl rfl (gO rfl rfl (gO rfl rfl (aO rfl rfl ah ?_))))
  refine ai (aD _ _ _ rfl bT) (aJ (hK7 _ ?_))
  clear hK7;try clear K7
  refine aW rfl rfl (bA (id (hK5 _ ?_)))
  clear hK5;try clear K5
  refine aq (aq ?_)
  refine aM (σ':=aE 101 [(0,_),(1,_),(4,_),(6,_)] [((4,0),_)] [] []) kp ?_
  refine an (aX rfl (aX rfl (ai (kE _ _ rfl rfl (bD ab)) ?_)))
  refine ai (gb _ _ rfl rfl rfl) (aj (aW rfl (decide_eq_false ab) ?_))
  refine aS (am (aX rfl (ej rfl (aX rfl (aX rfl (ai (lj _ _ _ Tryz.underlying9 rfl _ _ (.lit rfl rfl) (.lit rfl rfl) ab ab rfl) ?_))))))
  refine ai (aN _ aa rfl (by exact kT)) ?_
  refine bF rfl rfl rfl rfl rfl rfl (bg rfl (aj (aG ?_)))
  subst hte;subst hfin
  exact jS (.inr rfl) rfl (.cellA aa rfl rfl rfl) (.tmp kL) (Le.out [] [] (.tup rfl lz) rfl rfl rfl trivial trivial)
 have hlb:=hc15
 refine aS (aq (am (ej rfl (aX rfl (ai (lP _ _ Tryz.underlying9 rfl rfl (by assumption)) ?_)))))
 refine ai (aH aa al (mz b) rfl rfl) ?_
 refine aj (aR rfl (fun hc48=> ?_) (fun hc48=> ?_))
 ·skip
  obtain ⟨htd,htv,hte⟩:=vk hb hlb hc48 ht
  refine aT fun K16 hK16=> ?_
  refine ay ?_
  refine bq (α:=Nat) (fun e=> a+1≤e∧e≤s.length∧lL gI s e=lL gI s (a+1)) 101 [(0,_),(1,_),(4,_)] [((4,0),_)] (fun e=> [(6, .v (.int .i64 (e:Int)))]) (fun e=> []) [] [] (fun e=> s.length - e) (a+1) ?_ (by
   refine Le.mkJ [] [] rfl ?_ ?_ trivial trivial ?_
   ·exact ⟨(iV rfl),(iV rfl),(iP rfl),(ci ag),trivial⟩
   ·exact ⟨(cj rfl rfl rfl),trivial⟩
   kernel_rfl) ?_
  ·exact ⟨Nat.le_refl _,by omega,rfl⟩
  intro e he
  obtain ⟨he1,he2,het⟩:=he
  refine aT fun K17 hK17=> ?_
  refine aT fun K18 hK18=> ?_
  refine an (aX rfl (ej rfl (ai (im _ Tryz.underlying9 rfl) (ai (bm _ _ rfl rfl rfl) (cI rfl (dv (fun hg53=> ?_) (fun hg53=> ?_)))))))
  ·skip
   obtain ⟨u,hu⟩:=kN (s:=s) (a:=e) ab
   refine au rfl rfl (aI _ wZ) (au rfl rfl (aI _ et) (au rfl rfl (lP _ _ Tryz.underlying9 rfl rfl (by assumption)) ?_))
   refine au rfl rfl (aH aa al (mz u) rfl rfl) ?_
   refine ai (aD _ _ _ rfl bT) (aJ (hK18 _ ?_))
   clear hK18;try clear K18
   refine aR rfl (fun hc58=> ?_) (fun hc58=> ?_)
   ·skip
    have hnx:lL gI s (e+1)=lL gI s (a+1):=(sX hu hc58).symm.trans het
    refine br (hK17 _ ?_)
    clear hK17;try clear K17
    refine ay (an (aX rfl (ai (aZ _ _ rfl rfl (bD ab)) ?_)))
    refine bg rfl (aJ (⟨e+1,?_,?_,?_⟩))
    ·exact ⟨by omega,by omega,hnx⟩
    ·skip
     refine Le.mkJ [] [] rfl ?_ ?_ trivial trivial ?_
     ·exact ⟨(iV rfl),(iV rfl),(iP rfl),(ci ag),trivial⟩
     ·exact ⟨(cj rfl rfl rfl),trivial⟩
     kernel_rfl
    omega
   have hfin:e=lL gI s (a+1):=(As hu hc58).symm.trans het
   refine bA (id (hK16 _ ?_))
   clear hK16;try clear K16
   refine am (ej rfl (aX rfl (aX rfl (ai (lj _ _ _ Tryz.underlying9 rfl _ _ (.lit rfl rfl) (.lit rfl rfl) ab ab rfl) ?_))))
   refine ai (aH aa al (qi ((s.drop a).take (e - a)) (by simp;omega) (by rw [hfin];exact htd) (by rw [hfin];exact htv)) rfl rfl) ?_
   refine bg rfl (aj (aq (aq ?_)))
   refine aM (σ':=aE 101 [(0,_),(1,_),(4,_),(6,_),(7,_)] [((4,0),_)] [] []) kp ?_
   refine an (aX rfl (ai (bm _ _ rfl rfl rfl) (aj (aW rfl (decide_eq_false ab) ?_))))
   refine aS (am (aX rfl (ej rfl (aX rfl (aX rfl (ai (lj _ _ _ Tryz.underlying9 rfl _ _ (.lit rfl rfl) (.lit rfl rfl) ab ab rfl) ?_))))))
   refine aX rfl (ai (aN _ aa rfl (by exact kT)) ?_)
   refine bF rfl rfl rfl rfl rfl rfl (bg rfl (aj (aG ?_)))
   subst hte;subst hfin
   exact jS (.inr rfl) rfl (.cellA aa rfl rfl rfl) (.tmp kL) (Le.out [] [] (.tup rfl lz) rfl rfl rfl trivial trivial)
  have hfin:e=lL gI s (a+1):=(wS ab).symm.trans het
  refine aO rfl rfl ah ?_
  refine aO rfl rfl ah ?_
  refine aO rfl rfl ah ?_
  refine aO rfl rfl ah ?_
  refine ai (aD _ _ _ rfl bT) (aJ (hK18 _ ?_))
  clear hK18;try clear K18
  refine aW rfl rfl (bA (id (hK16 _ ?_)))
  clear hK16;try clear K16
  refine am (ej rfl (aX rfl (aX rfl (ai (lj _ _ _ Tryz.underlying9 rfl _ _ (.lit rfl rfl) (.lit rfl rfl) ab ab rfl) ?_))))
  refine ai (aH aa al (qi ((s.drop a).take (e - a)) (by simp;omega) (by rw [hfin];exact htd) (by rw [hfin];exact htv)) rfl rfl) ?_
  refine bg rfl (aj (aq (aq ?_)))
  refine aM (σ':=aE 101 [(0,_),(1,_),(4,_),(6,_),(7,_)] [((4,0),_)] [] []) kp ?_
  refine an (aX rfl (ai (bm _ _ rfl rfl rfl) (aj (aW rfl (decide_eq_false ab) ?_))))
  refine aS (am (aX rfl (ej rfl (aX rfl (aX rfl (ai (lj _ _ _ Tryz.underlying9 rfl _ _ (.lit rfl rfl) (.lit rfl rfl) ab ab rfl) ?_))))))
  refine aX rfl (ai (aN _ aa rfl (by exact kT)) ?_)
  refine bF rfl rfl rfl rfl rfl rfl (bg rfl (aj (aG ?_)))
  subst hte;subst hfin
  exact jS (.inr rfl) rfl (.cellA aa rfl rfl rfl) (.tmp kL) (Le.out [] [] (.tup rfl lz) rfl rfl rfl trivial trivial)
 have hsy:=uE hb hlb hc48 ht
 refine aS (am (ej rfl (aX rfl (aX rfl (ai (aZ _ _ rfl rfl (bD ab)) ?_)))))
 refine ej rfl (ai (im _ Tryz.underlying9 rfl) (ai (zU _ _ rfl rfl rfl) (ai (lj _ _ _ Tryz.underlying9 rfl a (min (a+2) s.length) (.lit rfl rfl) (.lit rfl ab) ab ab (zi ha)) ?_)))
 refine oz rfl (aj (aq (aq ?_)))
 refine aM (σ':=aE 101 [(0,_),(1,_),(4,_),(6,_),(8,_)] [((4,0),_)] [] []) kp ?_
 refine an (ai (bh _ _ aa rfl ag (by (simp <;> rfl)) ah rfl) ?_)
 refine ej rfl (ai (aH aa al (qP Ga 6 rfl ab ((s.drop a).take 2)) rfl rfl) ?_)
 refine aj (aR rfl (fun hc86=> ?_) (fun hc86=> ?_))
 ·skip
  have hte:t=⟨3,a,(s.drop a).take 2,0⟩:=hsy.elim (·.2) fun h=> absurd hc86 h.1
  refine am (aX rfl (ej rfl (ai (aN _ aa rfl (by exact kT)) ?_)))
  refine bF rfl rfl rfl rfl rfl rfl (bg rfl (aj (aG ?_)))
  subst hte
  exact jS (.inr rfl) rfl (.cellA aa rfl rfl rfl) (.tmp kL) (Le.out [] [] (.tup rfl lz) rfl rfl rfl trivial trivial)
 obtain ⟨_,hs1,hte⟩:=hsy.resolve_left fun h=> hc86 h.1
 refine aS (am (ej rfl (aX rfl (aX rfl (ai (lj _ _ _ Tryz.underlying9 rfl a (a+1) (.lit rfl rfl) (.lit rfl rfl) ab ab (by rw [Nat.add_sub_cancel_left])) ?_)))))
 refine oz rfl (aj (aq (am (ai (bh _ _ aa rfl ag (by (simp <;> rfl)) ah rfl) ?_))))
 refine ej rfl (ai (aH aa al (qP HC 16 rfl ab ((s.drop a).take 1)) rfl rfl) ?_)
 refine aj (bK rfl (decide_eq_true hs1) ?_)
 refine am (aX rfl (ej rfl (ai (aN _ aa rfl (by exact kT)) ?_)))
 refine bF rfl rfl rfl rfl rfl rfl (bg rfl (aj (aG ?_)))
 subst hte
 exact jS (.inr rfl) rfl (.cellA aa rfl rfl rfl) (.tmp kL) (Le.out [] [] (.tup rfl lz) rfl rfl rfl trivial trivial)
theorem mK {f:Nat} {s:Tx} {a:Nat} {l:List Tk} (h:nk (f+1) s a=some l):(s.length≤a∧l=[⟨0,s.length,[],0⟩])∨(a < s.length∧ ∃ t m,qZ (s.drop a) a=some t∧nk f s (la s (a+t.t.length) false)=some m∧l=t::m):=by
 unfold nk at h
 split at h
 ·exact .inl ⟨by assumption,(Option.some.inj h).symm⟩
 split at h
 ·cases h
 split at h
 ·cases h
 rename_i t ht _ m hm
 exact .inr ⟨by omega,t,m,ht,hm,(Option.some.inj h).symm⟩
theorem uF {s:Tx} {a:Nat} {t:Tk} (ha:a < s.length) (h:qZ (s.drop a) a=some t):0 < t.t.length∧a+t.t.length≤s.length:=by
 obtain ⟨b,hb⟩:=kN ha
 have key: ∀ k,0 < k→0 < ((s.drop a).take k).length∧a+((s.drop a).take k).length≤s.length:=fun k hk=> by rw [List.length_take,List.length_drop];omega
 cases h1:nJ b with
 | true=> obtain ⟨_,rfl⟩:=rl hb h1 h;exact key _ (by have:=sx (p:=tU) (s:=s) (a:=a+1) ab;omega)
 | false=>
  cases h2:gI b with
  | true=> obtain ⟨_,_,rfl⟩:=vk hb h1 h2 h;exact key _ (by have:=sx (p:=gI) (s:=s) (a:=a+1) ab;omega)
  | false=>
   rcases uE hb h1 h2 h with ⟨_,rfl⟩ | ⟨_,_,rfl⟩
   ·exact key _ ab
   exact key _ ab
def Hz (s:Tx) (l:List Tk) (z:Nat×List Tk):Prop:=z.1≤s.length∧z.2.length≤z.1∧ ∃ f m,nk f s z.1=some m∧l=z.2++m
theorem tS (s:Tx) (h1:s.length≤100000) (l:List Tk) (hl:EM s=some l):
  Spec Tryz.prog 159 (ba [.v (bt s)] []) (aP (.tup [.sl l.length (sr l), .v (.int .i64 0), .v (.int .i64 0)]) []):=by
 have hs0:=ww (s:=s) (a:=0) (Nat.zero_le _) false
 refine Spec.ofN Tryz.func159 rfl Tryz.ntmps159 rfl ?_
 refine am (ai (bp _ fA) (bg rfl (bg rfl (aj (am (ai (tn (5,0) _ 225 4 rfl rfl) ?_))))))
 refine aj (am (ej rfl (ai (aH aa al (rt s 0 h1 (Nat.zero_le _)) rfl rfl) ?_)))
 refine bg rfl (aj (aT fun K4 hK4=> ?_))
 refine ay ?_
 refine bq (α:=Nat×List Tk) (fun z=> Hz s l z) 42 [(0,_)] [] (fun z=> [(6, .v (.int .i64 (z.1:Int))),(5, .ref (5,0) 0 z.2.length)]) (fun z=> [((5,0), .row 225 4 (sr z.2))]) [] [] (fun z=> s.length - z.1) (la s 0 false,[]) ?_ (by
  refine Le.mkJ [] [] rfl ?_ ?_ trivial trivial ?_
  ·exact ⟨(iV rfl),(ci ag),(cJ rfl ag),trivial⟩
  ·exact ⟨(eZ rfl rfl rfl ag),trivial⟩
  kernel_rfl) ?_
 ·exact ⟨hs0.2,Nat.zero_le _,s.length+1,l,by rw [← hl];unfold EM la;rw [List.drop_zero,Nat.zero_add],rfl⟩
 intro z hz
 obtain ⟨hz1,hz2,f,m,hf,hlm⟩:=hz
 obtain ⟨f,rfl⟩: ∃ g,f=g+1:=by cases f with | zero=> (simp [nk] at hf) | succ g=> exact ⟨g,rfl⟩
 refine aT fun K5 hK5=> ?_
 refine am (aX rfl (ej rfl (ai (im _ Tryz.underlying9 rfl) (ai (bm _ _ rfl rfl rfl) (aj (aR rfl (fun hc14=> ?_) (fun hc14=> ?_)))))))
 ·skip
  obtain ⟨_,t,m',ht,hm',hm⟩:=(mK hf).resolve_left fun h=> by omega
  obtain ⟨htl,hta⟩:=uF ab ht
  have hsk:=ww (s:=s) (a:=z.1+t.t.length) hta false
  have hlen:(z.2++[t]).length=z.2.length+1:=by simp
  refine br (hK5 _ ?_)
  clear hK5;try clear K5
  refine ay (am (ej rfl (aX rfl (ai (aH aa al (wb s z.1 h1 ab t ht) rfl rfl) ?_))))
  refine ai (aI _ tK) (ai (cp _ rfl px) (ai (cp _ rfl ef) (ai (aB (7,0) aa rfl rfl) (bF rfl rfl rfl rfl rfl rfl (bg rfl (aj (aq (am (aX rfl (ai (bN (r:=false) _ _ rfl rfl rfl) ?_))))))))))
  refine aj (aW rfl rfl (aS (aq ?_)))
  refine aM (σ':=aE 42 [(0,_),(5,_),(6,_),(7,_)] [((5,0),_),((7,0),_)] [] []) kp ?_
  refine an (gz rfl (ai (az _ aa rfl rfl rfl rfl) (ai (bh _ _ aa rfl ag (by (simp <;> rfl)) ah rfl) ?_)))
  refine ai (dh (28,0) _ _ aa rfl rfl (bu _).symm (.sl rfl) ab rfl (tW _ _) hlen.symm) ?_
  refine fe rfl (aj (an (ej rfl (aX rfl (bc rfl rfl rfl (ai (aF _ aa rfl rfl fz) (ai (im _ Tryz.underlying9 rfl) (ai (aZ _ _ rfl rfl (bD ab)) ?_))))))))
  refine ai (aH aa al (rt s (z.1+t.t.length) h1 hta) rfl rfl) ?_
  refine bg rfl (aJ (⟨(la s (z.1+t.t.length) false,z.2++[t]),?_,?_,?_⟩))
  ·exact ⟨hsk.2,by simp only;omega,f,m',hm',by rw [hlm,hm];simp⟩
  ·skip
   refine Le.mkJ [((5,0),(28,0))] [] rfl ?_ ?_ trivial trivial ?_
   ·exact ⟨(by repeat' (exact Lv.v)),(ci ag),(cJ rfl ag),trivial⟩
   ·exact ⟨(eZ rfl rfl rfl ag),trivial⟩
   kernel_rfl
  simp only;omega
 obtain ⟨_,hm⟩:=(mK hf).resolve_right fun h=> by omega
 have hlen:(z.2++[(⟨0,s.length,[],0⟩:Tk)]).length=z.2.length+1:=by simp
 rw [hm] at hlm;subst hlm
 refine bA (id (hK4 _ ?_))
 clear hK4;try clear K4
 refine am (gz rfl (ej rfl (ai (im _ Tryz.underlying9 rfl) (ai (aN _ aa rfl (by exact kT)) ?_))))
 refine ai (bh _ _ aa rfl ag (by (simp <;> rfl)) ah rfl) ?_
 refine ai (dh (41,0) _ _ aa rfl rfl (bu _).symm (.sl rfl) ab rfl (tW _ ⟨0,s.length,[],0⟩) hlen.symm) ?_
 exact fe rfl (bg rfl (bg rfl (aj (aG (vU (.inr rfl) rfl (.tmp dR) (.tmp kL) (.tmp kL) (Le.out [] [(41,0)] (.tup rfl (ax (fj rfl rfl (bu _).symm rfl) lz)) rfl rfl rfl tr trivial))))))
end Go.Proofs.YtmjnackchaahbaaGreat
