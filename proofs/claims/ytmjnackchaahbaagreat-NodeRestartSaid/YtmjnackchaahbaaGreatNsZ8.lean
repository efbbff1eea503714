/- part 8 -/
import Derived.Test.YtmjnackchaahbaaGreatNsZ7
set_option linter.unusedSimpArgs false
set_option linter.unusedVariables false
namespace Go.Proofs.YtmjnackchaahbaaGreat
open Go.RowKit

def fz:Ex→Nat
 | .int _=> 1 | .bool _=> 2 | .var _=> 1 | .name _=> 1
 | .draw e=> if fz e=1 then 1 else 0
 | .neg e=> if fz e=1 then 1 else 0
 | .not e=> if fz e=2 then 2 else 0
 | .bin o a b=> if fz a=1∧fz b=1 then (match o with | .add=> 1 | .sub=> 1 | .mul=> 1 | .div=> 1 | _=> 2) else 0
 | .and a b=> if fz a=2∧fz b=2 then 2 else 0
 | .or a b=> if fz a=2∧fz b=2 then 2 else 0
def pd (e:Ex):Bool:=Nat.beq (fz e) 1
mutual
def yt:Sm→Bool
 | .assign _ e=> pd e
 | .send t _ a b=> pd t && pd a && pd b
 | .timer _=> true | .cancel _=> true | .sync=> true | .stop=> true
 | .reply a b=> pd a && pd b
 | .fail e=> pd e
 | .loop c b=> Nat.beq (fz c) 2 && qh b
 | .ite c a b=> Nat.beq (fz c) 2 && qh a && qh b
def qh:Bk→Bool
 | .nil=> true
 | .cons s b=> yt s && qh b
end
def fo (nv:Nat):Ex→Bool
 | .int n=> decide (-2147483647≤n) && decide (n≤2147483647)
 | .bool _=> true
 | .var i=> decide (i < nv)
 | .name k=> decide (k < 9)
 | .draw e=> fo nv e | .neg e=> fo nv e | .not e=> fo nv e
 | .bin _ a b=> fo nv a && fo nv b
 | .and a b=> fo nv a && fo nv b
 | .or a b=> fo nv a && fo nv b
mutual
def ms (nv:Nat):Sm→Bool
 | .assign i e=> decide (i < nv) && fo nv e
 | .send t k a b=> decide (k < 30) && fo nv t && fo nv a && fo nv b
 | .timer k=> decide (k < 8) | .cancel k=> decide (k < 8) | .sync=> true | .stop=> true
 | .reply a b=> fo nv a && fo nv b
 | .fail e=> fo nv e
 | .loop c b=> fo nv c && qE nv b
 | .ite c a b=> fo nv c && qE nv a && qE nv b
def qE (nv:Nat):Bk→Bool
 | .nil=> true
 | .cons s b=> ms nv s && qE nv b
end
theorem dB (nv:Nat): ∀ e,fo nv e=true→hZ nv e
 | .int n,h=> by simpa [fo,hZ] using h
 | .bool _,_=> trivial
 | .var i,h=> by simpa [fo,hZ] using h
 | .name k,h=> by simpa [fo,hZ] using h
 | .draw e,h=> dB nv e h
 | .neg e,h=> dB nv e h
 | .not e,h=> dB nv e h
 | .bin _ a b,h=> by simp only [fo,Bool.and_eq_true] at h;exact ⟨dB nv a h.1,dB nv b h.2⟩
 | .and a b,h=> by simp only [fo,Bool.and_eq_true] at h;exact ⟨dB nv a h.1,dB nv b h.2⟩
 | .or a b,h=> by simp only [fo,Bool.and_eq_true] at h;exact ⟨dB nv a h.1,dB nv b h.2⟩
mutual
theorem Ck (nv:Nat): ∀ s,ms nv s=true→gH nv s
 | .assign i e,h=> by simp only [ms,Bool.and_eq_true,decide_eq_true_eq] at h;exact ⟨h.1,dB nv e h.2⟩
 | .send t k a b,h=> by simp only [ms,Bool.and_eq_true,decide_eq_true_eq] at h;exact ⟨h.1.1.1,dB nv t h.1.1.2,dB nv a h.1.2,dB nv b h.2⟩
 | .timer k,h=> by simpa [ms,gH] using h
 | .cancel k,h=> by simpa [ms,gH] using h
 | .sync,_=> by simp [gH]
 | .stop,_=> by simp [gH]
 | .reply a b,h=> by simp only [ms,Bool.and_eq_true] at h;exact ⟨dB nv a h.1,dB nv b h.2⟩
 | .fail e,h=> by simp only [ms] at h;exact dB nv e h
 | .loop c b,h=> by simp only [ms,Bool.and_eq_true] at h;exact ⟨dB nv c h.1,lp nv b h.2⟩
 | .ite c a b,h=> by simp only [ms,Bool.and_eq_true] at h;exact ⟨dB nv c h.1.1,lp nv a h.1.2,lp nv b h.2⟩
theorem lp (nv:Nat): ∀ b,qE nv b=true→lh nv b
 | .nil,_=> by simp [lh]
 | .cons s b,h=> by simp only [qE,Bool.and_eq_true] at h;exact ⟨Ck nv s h.1,lp nv b h.2⟩
end
structure vF (l:List (Nat×Bk)) (nv:Nat):Prop where
 ok: ∀ p∈l,lh nv p.2
 wl: ∀ p∈l,qh p.2=true
 n:(bW l 0).length≤400
 h: ∀ p∈l,p.1 < 40
 nd:(l.map (·.1)).Nodup
 d: ∀ k∈mm l,k≤8
def srcB (l:List (Nat×Bk)) (nv:Nat):Bool:=l.all (fun p=> qE nv p.2 && qh p.2 && decide (p.1 < 40)) && decide ((bW l 0).length≤400) && decide (l.map (·.1)).Nodup && (mm l).all fun k=> decide (k≤8)
theorem gq {l:List (Nat×Bk)} {nv:Nat} (h:srcB l nv=true):vF l nv:=by
 simp only [srcB,Bool.and_eq_true,List.all_eq_true,decide_eq_true_eq] at h
 exact ⟨fun p hp=> lp nv _ (h.1.1.1 p hp).1.1,fun p hp=> (h.1.1.1 p hp).1.2,h.1.1.2,fun p hp=> (h.1.1.1 p hp).2,h.1.2,h.2⟩
theorem srcOk0:vF ons0 (CU++Ct).length:=gq ae
theorem srcOk1:vF ons1 (AI++Ay).length:=gq ae
theorem srcOk2:vF ons2 (BD++CW).length:=gq ae
theorem srcOk3:vF ons3 (Ag++Ap).length:=gq ae
theorem srcOk4:vF ons4 (Dn++CL).length:=gq ae
theorem srcOk5:vF ons5 (Ab++Bu).length:=gq ae
theorem srcOk6:vF ons6 (BB++BV).length:=gq ae
theorem srcOk7:vF ons7 (BW++Dw).length:=gq ae
theorem srcOk8:vF ons8 (Bc++zW).length:=gq ae
theorem srcOk9:vF ons9 (Aw++AR).length:=gq ae
theorem srcOk10:vF ons10 (uA++uf).length:=gq ae
theorem srcOk11:vF ons11 (ur++uv).length:=gq ae
def xt (l:List (Nat×Bk)) (i:Nat):Nat:=(mm l).getD i 0
theorem tO (l:List (Nat×Bk)):Fit (xt l) 0 (mm l):=fun k d h=> by
 unfold xt
 rw [Nat.zero_add,List.getD_eq_getElem?_getD,h];rfl

abbrev DS:=List Int×Bool×Bool
def jF (n:Nat) (d:Int) (s:DS) (j:Nat):DS:=
 if n≤j then s else if s.1.getD j (-1) < 0 then (s.1.set j d,s.2.1,true) else if s.1.getD j (-1)≠d then (s.1,false,s.2.2) else s
def da (C:List eS) (i:Nat):eS:=C.getD i { op:= .stop }
def Ey (C:List eS) (i:Nat) (s:DS):Int:=max (s.1.getD i (-1) - (da C i).op.pops) 0+(da C i).op.puts
def lH (C:List eS) (s:DS) (i:Nat):DS:=
 if s.1.getD i (-1) < 0 then s
 else (dT i (da C i)).foldl (jF C.length (Ey C i s)) (s.1,if s.1.getD i (-1) - (da C i).op.pops < 0 then false else s.2.1,s.2.2)
def dD (C:List eS) (s:List Int×Bool) (k:Nat):DS:=(List.range k).foldl (lH C) (s.1,s.2,false)
theorem pT (C:List eS) (s:List Int×Bool) (k:Nat):dD C s (k+1)=lH C (dD C s k) k:=by simp [dD,List.range_succ,List.foldl_append]
def jL (C:List eS):Nat→List Int×Bool→List Int×Bool
 | 0,s=> s
 | f+1,s=> if (dD C s C.length).2.2=true then jL C f ((dD C s C.length).1,(dD C s C.length).2.1) else ((dD C s C.length).1,(dD C s C.length).2.1)
def neg (l:List Int):Nat:=l.countP fun x=> decide (x < 0)
theorem Gk {l:List Int} {j:Nat} {d:Int} (hj:j < l.length) (h:l.getD j (-1) < 0) (hd:0≤d):neg (l.set j d)+1=neg l:=by
 unfold neg
 have e:l=l.take j++l[j]::l.drop (j+1):=by rw [List.getElem_cons_drop hj,List.take_append_drop]
 have h':l[j] < 0:=by rwa [List.getD_eq_getElem?_getD,List.getElem?_eq_getElem hj] at h
 rw [List.set_eq_take_append_cons_drop,if_pos hj]
 conv=> rhs;rw [e]
 simp only [List.countP_append,List.countP_cons]
 rw [decide_eq_true h',decide_eq_false (show ¬ d < 0 by omega)]
 simp
 omega
structure DI (D:Nat→Nat) (n:Nat) (s:DS):Prop where
 len:s.1.length=n
 val: ∀ i,i < n→s.1.getD i (-1)= -1∨s.1.getD i (-1)=(D i:Int)
 ok:s.2.1=true
theorem ky {l:List Int} {j i:Nat} {d:Int}:(l.set j d).getD i (-1)=if i=j∧j < l.length then d else l.getD i (-1):=by
 simp only [List.getD_eq_getElem?_getD,List.getElem?_set]
 by_cases h:j=i
 ·subst h
  by_cases h2:j < l.length
  ·simp [h2]
  simp [h2]
 simp [h,Ne.symm h]
theorem FZ {D:Nat→Nat} {n:Nat} {d:Int} {s:DS} {j:Nat} (h:DI D n s) (hd:d=(D j:Int)):DI D n (jF n d s j)∧neg (jF n d s j).1≤neg s.1∧((jF n d s j).2.2=true→s.2.2=true∨neg (jF n d s j).1 < neg s.1):=by
 unfold jF
 split
 ·exact ⟨h,Nat.le_refl _,fun e=> .inl e⟩
 rename_i hj
 split
 ·rename_i hn
  have:=Gk (l:=s.1) (j:=j) (d:=d) (by rw [h.len];omega) hn ab
  refine ⟨⟨by rw [List.length_set];exact h.len,fun i hi=> ?_,h.ok⟩,by simp only;omega,fun _=> .inr (by simp only;omega)⟩
  simp only
  rw [ky]
  split
  ·rename_i hc;rw [hc.1];exact .inr hd
  exact h.val i hi
 rename_i hn
 have hv:=h.val j ab
 have:s.1.getD j (-1)=d:=by rw [hd];rcases hv with hv | hv <;> omega
 rw [if_neg (fun hc=> hc this)]
 exact ⟨h,Nat.le_refl _,fun e=> .inl e⟩
theorem od {D:Nat→Nat} {n:Nat} {d:Int}: ∀ (l:List Nat) {s:DS},DI D n s→(∀ j∈l,d=(D j:Int))→DI D n (l.foldl (jF n d) s)∧neg (l.foldl (jF n d) s).1≤neg s.1∧((l.foldl (jF n d) s).2.2=true→s.2.2=true∨neg (l.foldl (jF n d) s).1 < neg s.1)
 | [],s,h,_=> ⟨h,Nat.le_refl _,fun e=> .inl e⟩
 | j::l,s,h,hd=> by
  obtain ⟨a1,a2,a3⟩:=FZ h (hd j (by simp))
  obtain ⟨b1,b2,b3⟩:=od l a1 fun j hj=> hd j (by simp [hj])
  simp only [List.foldl_cons]
  refine ⟨b1,by omega,fun e=> ?_⟩
  rcases b3 e with e | e
  ·rcases a3 e with e | e
   ·exact .inl e
   exact .inr ab
  exact .inr ab
section
variable {D:Nat→Nat} {nv:Nat} {C:List eS} (hC:Good D nv 0 (C.length - 1) 0 C)
include hC
theorem Ai {s:DS} {i:Nat} (hi:i < C.length) (h:DI D C.length s):DI D C.length (lH C s i)∧neg (lH C s i).1≤neg s.1∧((lH C s i).2.2=true→s.2.2=true∨neg (lH C s i).1 < neg s.1):=by
 unfold lH
 split
 ·exact ⟨h,Nat.le_refl _,fun e=> .inl e⟩
 rename_i hn
 have hx:C[i]? =some (da C i):=by unfold da;rw [List.getD_eq_getElem?_getD,List.getElem?_eq_getElem hi];rfl
 obtain ⟨_,g2,g3⟩:=hC i _ hx
 rw [Nat.zero_add] at g2 g3
 have hv:s.1.getD i (-1)=(D i:Int):=by rcases h.val i hi with hv | hv <;> omega
 have hdo:Ey C i s=((D i - (da C i).op.pops+(da C i).op.puts:Nat):Int):=by unfold Ey;rw [hv];omega
 rw [if_neg (by rw [hv];omega)]
 exact od _ ⟨h.len,h.val,h.ok⟩ fun j hj=> by rw [hdo,(g3 j hj).2.2]
theorem lJ {s:List Int×Bool} (h:DI D C.length (s.1,s.2,false)): ∀ k,k≤C.length→DI D C.length (dD C s k)∧neg (dD C s k).1≤neg s.1∧((dD C s k).2.2=true→neg (dD C s k).1 < neg s.1)
 | 0,_=> ⟨h,Nat.le_refl _,fun e=> by simp [dD] at e⟩
 | k+1,hk=> by
  obtain ⟨a1,a2,a3⟩:=lJ h k ab
  obtain ⟨b1,b2,b3⟩:=Ai hC ab a1 (i:=k)
  rw [pT]
  refine ⟨b1,by omega,fun e=> ?_⟩
  rcases b3 e with e | e
  ·have:=a3 e;omega
  omega
theorem vD: ∀ f (s:List Int×Bool),DI D C.length (s.1,s.2,false)→DI D C.length ((jL C f s).1,(jL C f s).2,false)
 | 0,s,h=> h
 | f+1,s,h=> by
  obtain ⟨a1,_,_⟩:=lJ hC h C.length (Nat.le_refl _)
  unfold jL
  split
  ·exact vD f _ ⟨a1.len,a1.val,a1.ok⟩
  exact ⟨a1.len,a1.val,a1.ok⟩
end
theorem wv {C:List eS} {f:Nat} {s:List Int×Bool} (h:(dD C s C.length).2.2=true):jL C (f+1) s=jL C f ((dD C s C.length).1,(dD C s C.length).2.1):=by rw [jL,if_pos h]
theorem wy {C:List eS} {f:Nat} {s:List Int×Bool} (h:(dD C s C.length).2.2=false):jL C (f+1) s=((dD C s C.length).1,(dD C s C.length).2.1):=by rw [jL,if_neg (by simp [h])]
def jo (C:List eS) (e:Int):List Int×Bool:=if e < 0∨(C.length:Int)≤e then (List.replicate C.length (-1),true) else jL C (C.length+1) ((List.replicate C.length (-1)).set e.toNat 0,true)
theorem qd {D:Nat→Nat} {nv:Nat} {C:List eS} (hC:Good D nv 0 (C.length - 1) 0 C) {e:Int} (he:0≤e→e < C.length→D e.toNat=0):DI D C.length ((jo C e).1,(jo C e).2,false):=by
 have hr: ∀ i,(List.replicate C.length (-1:Int)).getD i (-1)= -1:=fun i=> by rw [List.getD_eq_getElem?_getD,List.getElem?_replicate];split <;> rfl
 unfold jo
 split
 ·exact ⟨by simp,fun i _=> .inl (hr i),rfl⟩
 refine vD hC _ _ ⟨by simp,fun i hi=> ?_,rfl⟩
 simp only
 rw [ky]
 split
 ·rename_i hc
  right
  rw [hc.1,he ab ab];rfl
 exact .inl (hr i)
def lb (C:List eS) (out:List Int) (k:Nat):Int:=(List.range k).foldl (fun m i=> if 0≤out.getD i (-1) then max (max m (out.getD i (-1))) (out.getD i (-1) - (da C i).op.pops+(da C i).op.puts) else m) 0
theorem qm (C:List eS) (out:List Int) (k:Nat):lb C out (k+1)=if 0≤out.getD k (-1) then max (max (lb C out k) (out.getD k (-1))) (out.getD k (-1) - (da C k).op.pops+(da C k).op.puts) else lb C out k:=by simp [lb,List.range_succ,List.foldl_append]
theorem EL (o:Opc):o.puts≤1:=by cases o <;> decide
theorem nn {C:List eS} {out:List Int} {D:Nat→Nat} {n:Nat} {ok ch:Bool} (h:DI D n (out,ok,ch)) {B:Nat} (hB: ∀ i,i < n→D i≤B): ∀ k,k≤n→0≤lb C out k∧lb C out k≤B+1
 | 0,_=> by simp [lb];omega
 | k+1,hk=> by
  obtain ⟨h1,h2⟩:=nn (C:=C) h hB k ab
  have h3:=hB k ab
  have h4:out.getD k (-1)= -1∨out.getD k (-1)=(D k:Int):=h.val k ab
  have h5:=EL (da C k).op
  have h6:=qm C out k
  rw [h6]
  rcases h4 with h4 | h4 <;> rw [h4] <;> split <;> omega
def nr (l:List (Nat×Nat)):List Int:=l.foldl (fun m p=> m.set p.1 (p.2:Int)) (List.replicate 40 (-1))
theorem DA (l:List (Nat×Nat)):(nr l).length=40:=by
 unfold nr
 have: ∀ (l:List (Nat×Nat)) (m:List Int),m.length=40→(l.foldl (fun m p=> m.set p.1 (p.2:Int)) m).length=40:=by
  intro l
  induction l with
  | nil=> exact fun m h=> h
  | cons p l ih=> exact fun m h=> ih _ (by rw [List.length_set];exact h)
 exact this l _ (by simp)
theorem Bv: ∀ (l:List (Nat×Nat)) (h:Nat),(nr l).getD h (-1)= -1∨ ∃ e,(h,e)∈l∧(nr l).getD h (-1)=(e:Int):=by
 unfold nr
 have key: ∀ (l:List (Nat×Nat)) (m:List Int) (h:Nat),(l.foldl (fun m p=> m.set p.1 (p.2:Int)) m).getD h (-1)=m.getD h (-1)∨ ∃ e,(h,e)∈l∧(l.foldl (fun m p=> m.set p.1 (p.2:Int)) m).getD h (-1)=(e:Int):=by
  intro l
  induction l with
  | nil=> exact fun m h=> .inl rfl
  | cons p l ih=>
   intro m h
   simp only [List.foldl_cons]
   rcases ih (m.set p.1 (p.2:Int)) h with e | ⟨e,h1,h2⟩
   ·rw [e,ky]
    split
    ·rename_i hc
     exact .inr ⟨p.2,by rw [hc.1];exact List.mem_cons_self,rfl⟩
    exact .inl rfl
   exact .inr ⟨e,List.mem_cons_of_mem _ h1,h2⟩
 intro l h
 rcases key l (List.replicate 40 (-1)) h with e | e
 ·left
  rw [e,List.getD_eq_getElem?_getD,List.getElem?_replicate]
  split <;> rfl
 exact .inr e
def lf (l:List (Nat×Bk)):Bool:=decide ((bW l 0).length≤400) && (List.range 40).all fun h=> decide (lb (bW l 0) (jo (bW l 0) ((nr (kw l 0)).getD h (-1))).1 (bW l 0).length≤16)
theorem wC (l:List (Nat×Bk)) (h:Nat):(nr (kw l 0)).getD h (-1)= -1∨ ∃ e:Nat,(h,e)∈kw l 0∧(nr (kw l 0)).getD h (-1)=(e:Int)∧e < (bW l 0).length∧xt l e=0:=by
 rcases Bv (kw l 0) h with e | ⟨e,h1,h2⟩
 ·exact .inl e
 obtain ⟨_,h4,h5⟩:=wX (tO l) h1
 exact .inr ⟨e,h1,h2,by omega,h5⟩
theorem zB {l:List (Nat×Bk)} {nv:Nat} (hs:vF l nv):lf l=true:=by
 unfold lf
 rw [Bool.and_eq_true,decide_eq_true_eq,List.all_eq_true]
 refine ⟨hs.n,fun h _=> ?_⟩
 rw [decide_eq_true_eq]
 have hg:=AD (xt l) nv l 0 0 ((bW l 0).length - 1) hs.ok (tO l) (Nat.le_refl _) ab
 have hd:=qd hg (e:=(nr (kw l 0)).getD h (-1)) (fun h1 h2=> by
  rcases wC l h with e | ⟨e,_,e2,_,e4⟩
  ·omega
  rw [e2];exact e4)
 have hB: ∀ i,i < (bW l 0).length→xt l i≤8:=fun i hi=> by
  unfold xt
  rw [← qs l 0] at hi
  rw [List.getD_eq_getElem?_getD,List.getElem?_eq_getElem hi]
  exact hs.d _ (List.getElem_mem hi)
 have:=(nn (C:=bW l 0) hd hB _ (Nat.le_refl _)).2
 omega

theorem iL {α β:Type} (f:α→List β) (c:Nat) (hf: ∀ a,(f a).length=c): ∀ l:List α,(l.flatMap f).length=l.length*c
 | []=> by simp
 | a::l=> by rw [List.flatMap_cons,List.length_append,hf,iL f c hf l,List.length_cons,Nat.succ_mul];omega
theorem pD {α β:Type} (f:α→List β) (c:Nat) (hf: ∀ a,(f a).length=c): ∀ (l:List α) (k:Nat),(l.flatMap f).drop (k*c)=(l.drop k).flatMap f
 | l,0=> by simp
 | [],k+1=> by simp
 | a::l,k+1=> by
  rw [List.flatMap_cons,List.drop_succ_cons,← pD f c hf l k,List.drop_append,List.drop_eq_nil_of_le (by rw [hf,Nat.succ_mul];omega),List.nil_append,hf]
  congr 1;rw [Nat.succ_mul];omega
theorem mA {α β:Type} (f:α→List β) (c:Nat) (hf: ∀ a,(f a).length=c) (l:List α) (k:Nat) (h:k < l.length):((l.flatMap f).drop (k*c)).take c=f l[k]:=by
 rw [pD f c hf,List.drop_eq_getElem_cons h,List.flatMap_cons,List.take_append_of_le_length (by rw [hf];exact Nat.le_refl _),List.take_of_length_le (by rw [hf];exact Nat.le_refl _)]
theorem kR {α β:Type} (f:α→List β) (c:Nat) (hf: ∀ a,(f a).length=c) (l:List α) (k j:Nat) (h:k < l.length) (hj:j < c):(l.flatMap f)[k*c+j]? =(f l[k])[j]? :=by
 rw [← mA f c hf l k h,List.getElem?_take_of_lt hj,List.getElem?_drop]
theorem jJ {α β:Type} (f:α→List β) (l:List α) (a:α):l.flatMap f++f a=(l++[a]).flatMap f:=by simp
theorem AE {α β:Type} (f:α→List β) (l m:List α):l.flatMap f++m.flatMap f=(l++m).flatMap f:=by simp

def fm (l:List Tx):List PV:=l.map fun t=> .v (bt t)
@[simp] theorem bw (l:List Tx):(fm l).length=l.length:=by simp [fm]
theorem jI (l:List Tx) (k:Nat) (h:k < l.length):(fm l)[k]? =some (.v (bt (l.getD k []))):=by simp [fm,h]
theorem qf (a b:List Tx):fm a++fm b=fm (a++b):=by simp [fm]
theorem nN (a:List Tx) (t:Tx):fm a++[.v (bt t)]=fm (a++[t]):=by simp [fm]
theorem jY {l:List Tx} {k:Nat} (h:k < l.length):l.getD k []∈l:=by
 rw [List.getD_eq_getElem?_getD,List.getElem?_eq_getElem h];exact List.getElem_mem h
theorem kF {α:Type} {l:List α} {k:Nat} {x d:α} (h:x∉l.take k) (hk:k < l.length) (hx:l.getD k d≠x):x∉l.take (k+1):=by
 rw [List.take_succ_eq_append_getElem hk,List.mem_append,List.mem_singleton]
 rintro (h' | h')
 ·exact h h'
 exact hx (by rw [List.getD_eq_getElem?_getD,List.getElem?_eq_getElem hk,h'];rfl)

def GB (t:Tk):List PV:=[.v (.int .i64 (t.k:Int)), .v (.int .i64 (t.a:Int)), .v (bt t.t), .v (.int .i64 (t.n:Int))]
def sP (l:List Tk):List PV:=l.flatMap GB
theorem bv (l:List Tk):(sP l).length=l.length*4:=iL GB 4 (fun _=> rfl) l
theorem vM (l:List Tk) (k:Nat) (h:k < l.length):dm l k=l[k]:=by simp [dm,h]
theorem qb (l:List Tk) (k:Nat) (h:k < l.length):(sP l)[k*4]? =some (.v (.int .i64 ((dm l k).k:Int))):=by
 rw [vM l k h];exact kR GB 4 (fun _=> rfl) l k 0 h ab
theorem nV (l:List Tk) (k:Nat) (h:k < l.length):(sP l)[k*4+2]? =some (.v (bt (dm l k).t)):=by
 rw [vM l k h];exact kR GB 4 (fun _=> rfl) l k 2 h ab
theorem nM (l:List Tk) (k:Nat) (h:k < l.length):PV.ups (((sP l).drop (k*4)).take 4)=[.v (.int .i64 ((dm l k).k:Int)), .v (.int .i64 ((dm l k).a:Int)), .v (bt (dm l k).t), .v (.int .i64 ((dm l k).n:Int))]:=by
 rw [vM l k h,show ((sP l).drop (k*4)).take 4=GB l[k] from mA GB 4 (fun _=> rfl) l k h];rfl
theorem uF (l:List Tk) (t:Tk):sP l++GB t=sP (l++[t]):=jJ GB l t

theorem gn {s:Tx} {a:Nat} {b:UInt8} (h:s[a]? =some b):s.drop a=b::s.drop (a+1):=by
 obtain ⟨hl,rfl⟩:=List.getElem?_eq_some_iff.1 h
 exact List.drop_eq_getElem_cons hl
theorem kP {s:Tx} {a:Nat} (h:a < s.length): ∃ b,s[a]? =some b:=⟨_,List.getElem?_eq_getElem h⟩
theorem Lz (b:UInt8):0≤(b.toNat:Int)∧(b.toNat:Int) < 256:=⟨by omega,by have:=b.toNat_lt;omega⟩
def lc (s:Tx) (a:Nat) (c:Bool):Nat:=a+tU (s.drop a) c
theorem tR {s:Tx} {a:Nat} (h:s.length≤a) (c:Bool):lc s a c=a:=by
 unfold lc;rw [List.drop_eq_nil_of_le h];unfold tU;rfl
theorem HD {s:Tx} {a:Nat} {b:UInt8} (h:s[a]? =some b) (hb:b.toNat=10):lc s a true=lc s a false:=by
 unfold lc;rw [gn h];simp [tU,hb]
theorem IF {s:Tx} {a:Nat} {b:UInt8} (h:s[a]? =some b) (hb:b.toNat≠10):lc s a true=lc s (a+1) true:=by
 unfold lc;rw [gn h];simp [tU,hb];omega
theorem zX {s:Tx} {a:Nat} {b:UInt8} (h:s[a]? =some b) (hb:b.toNat=35):lc s a false=lc s a true:=by
 unfold lc;rw [gn h];simp [tU,hb]
theorem wx {s:Tx} {a:Nat} {b:UInt8} (h:s[a]? =some b) (h0:b.toNat≠35) (hb:b.toNat=32∨b.toNat=9∨b.toNat=10):lc s a false=lc s (a+1) false:=by
 unfold lc;rw [gn h,tU,if_neg h0,if_pos hb];omega
theorem FW {s:Tx} {a:Nat} {b:UInt8} (h:s[a]? =some b) (h0:b.toNat≠35) (hb: ¬ (b.toNat=32∨b.toNat=9∨b.toNat=10)):lc s a false=a:=by
 unfold lc;rw [gn h,tU,if_neg h0,if_neg hb];rfl
theorem oo: ∀ (l:Tx) (c:Bool),tU l c≤l.length
 | [],c=> by unfold tU;exact Nat.le_refl _
 | x::l,true=> by have h1:=oo l true;have h2:=oo l false;unfold tU;split <;> simp only [List.length_cons] <;> omega
 | x::l,false=> by have h1:=oo l true;have h2:=oo l false;unfold tU;split <;> (try split) <;> simp only [List.length_cons] <;> omega
theorem wk {s:Tx} {a:Nat} (h:a≤s.length) (c:Bool):a≤lc s a c∧lc s a c≤s.length:=by
 have:=oo (s.drop a) c
 rw [List.length_drop] at this
 unfold lc;omega
def lI (p:UInt8→Bool) (s:Tx) (a:Nat):Nat:=a+((s.drop a).takeWhile p).length
theorem xv {p:UInt8→Bool} {s:Tx} {a:Nat} (h:s.length≤a):lI p s a=a:=by
 unfold lI;rw [List.drop_eq_nil_of_le h];rfl
theorem sY {p:UInt8→Bool} {s:Tx} {a:Nat} {b:UInt8} (h:s[a]? =some b) (hb:p b=true):lI p s a=lI p s (a+1):=by
 unfold lI;rw [gn h,List.takeWhile_cons,if_pos hb,List.length_cons];omega
theorem Cu {p:UInt8→Bool} {s:Tx} {a:Nat} {b:UInt8} (h:s[a]? =some b) (hb:p b=false):lI p s a=a:=by
 unfold lI;rw [gn h,List.takeWhile_cons,if_neg (by simp [hb])];rfl
theorem tC {p:UInt8→Bool} {s:Tx} {a:Nat} (h:a≤s.length):a≤lI p s a∧lI p s a≤s.length:=by
 have:((s.drop a).takeWhile p).length≤(s.drop a).length:=(List.takeWhile_prefix p).length_le
 rw [List.length_drop] at this
 unfold lI;omega
theorem ul {p:UInt8→Bool} {s:Tx} {a:Nat} {b:UInt8} (h:s[a]? =some b):(s.drop a).take (lI p s (a+1) - a)=b::(s.drop (a+1)).takeWhile p:=by
 rw [gn h,show lI p s (a+1) - a=((s.drop (a+1)).takeWhile p).length+1 by unfold lI;omega,List.take_succ_cons]
 congr 1
 obtain ⟨t,ht⟩:=List.takeWhile_prefix p (l:=s.drop (a+1))
 conv=> lhs;arg 2;rw [← ht]
 rw [List.take_append_of_le_length (Nat.le_refl _),List.take_length]
theorem rW (l:Tx) (b:UInt8):lj (l++[b])=10*lj l+(b.toNat - 48):=by unfold lj;rw [List.foldl_append];rfl
theorem FU (l m:Tx):lj l≤lj (l++m):=by
 induction m generalizing l with
 | nil=> simp
 | cons b m ih=>
  have:=ih (l++[b])
  rw [rW,List.append_assoc] at this
  simp only [List.cons_append,List.nil_append] at this
  omega
theorem yp (l:Tx) (i:Nat):lj (l.take i)≤lj l:=by
 have:=FU (l.take i) (l.drop i)
 rwa [List.take_append_drop] at this
theorem zE {l:Tx} {i:Nat} {b:UInt8} (h:l[i]? =some b):lj (l.take (i+1))=10*lj (l.take i)+(b.toNat - 48):=by
 obtain ⟨hl,rfl⟩:=List.getElem?_eq_some_iff.1 h
 rw [List.take_succ_eq_append_getElem hl,rW]
theorem BR (b:UInt8):nG b=true↔97≤(b.toNat:Int)∧(b.toNat:Int)≤122:=by
 unfold nG;rw [Bool.and_eq_true,Nat.ble_eq,Nat.ble_eq];omega
theorem vp (b:UInt8):gK b=true↔48≤(b.toNat:Int)∧(b.toNat:Int)≤57:=by
 unfold gK;rw [Bool.and_eq_true,Nat.ble_eq,Nat.ble_eq];omega
theorem GA {b:Bool} {p:Prop} (h:b=true↔p) (hn: ¬ p):b=false:=by
 cases b with
 | false=> rfl
 | true=> exact absurd (h.1 rfl) hn
def inr (x:eS):List PV:=[.v (.int .i64 (x.op.num:Int)), .v (.int .i64 x.n)]
def inl (l:List eS):List PV:=l.flatMap inr
theorem bP (l:List eS):(inl l).length=l.length*2:=iL inr 2 (fun _=> rfl) l
theorem nE (l:List eS) (k:Nat) (h:k < l.length):(inl l)[k*2]? =some (.v (.int .i64 ((da l k).op.num:Int))):=by
 rw [show da l k=l[k] by simp [da,h]];exact kR inr 2 (fun _=> rfl) l k 0 h ab
theorem Bh (l:List eS) (k:Nat) (h:k < l.length):(inl l)[k*2+1]? =some (.v (.int .i64 (da l k).n)):=by
 rw [show da l k=l[k] by simp [da,h]];exact kR inr 2 (fun _=> rfl) l k 1 h ab
theorem CA (l:List eS) (k:Nat) (h:k < l.length):PV.ups (((inl l).drop (k*2)).take 2)=[.v (.int .i64 ((da l k).op.num:Int)), .v (.int .i64 (da l k).n)]:=by
 rw [show da l k=l[k] by simp [da,h],show ((inl l).drop (k*2)).take 2=inr l[k] from mA inr 2 (fun _=> rfl) l k h];rfl
theorem fk (l:List eS) (x:eS):inl l++inr x=inl (l++[x]):=jJ inr l x
theorem lZ (l m:List eS):inl l++inl m=inl (l++m):=AE inr l m
def GO (x:Ac):List PV:=[.v (.int .i64 x.k), .v (.int .i64 x.a), .v (.int .i64 x.b), .v (.int .i64 x.c), .v (.int .i64 x.d)]
def ri (l:List Ac):List PV:=l.flatMap GO
def lm (l:List Ac) (k:Nat):Ac:=l.getD k { k:=0 }
theorem fw (l:List Ac):(ri l).length=l.length*5:=iL GO 5 (fun _=> rfl) l
theorem Do (l:List Ac) (k:Nat) (h:k < l.length):(ri l)[k*5]? =some (.v (.int .i64 (lm l k).k)):=by
 rw [show lm l k=l[k] by simp [lm,h]];exact kR GO 5 (fun _=> rfl) l k 0 h ab
theorem Cg (l:List Ac) (k:Nat) (h:k < l.length):(ri l)[k*5+1]? =some (.v (.int .i64 (lm l k).a)):=by
 rw [show lm l k=l[k] by simp [lm,h]];exact kR GO 5 (fun _=> rfl) l k 1 h ab
theorem uh (l:List Ac) (k:Nat) (h:k < l.length):PV.ups (((ri l).drop (k*5)).take 5)=[.v (.int .i64 (lm l k).k), .v (.int .i64 (lm l k).a), .v (.int .i64 (lm l k).b), .v (.int .i64 (lm l k).c), .v (.int .i64 (lm l k).d)]:=by
 rw [show lm l k=l[k] by simp [lm,h],show ((ri l).drop (k*5)).take 5=GO l[k] from mA GO 5 (fun _=> rfl) l k h];rfl
theorem DG (l:List Ac) (x:Ac):ri l++GO x=ri (l++[x]):=jJ GO l x
end Go.Proofs.YtmjnackchaahbaaGreat

namespace Go.Proofs.YtmjnackchaahbaaGreat
abbrev Km:List Value:=[.slice none 0 0, .int .i64 0, .int .i64 0, .int .i64 0, .int .i64 0, .int .i64 0, .int .i64 0, .int .i64 0, .int .i64 0, .int .i64 0, .int .i64 0, .int .i64 0, .int .i64 0, .int .i64 0, .int .i64 0, .int .i64 0, .int .i64 0, .int .i64 0, .int .i64 0, .int .i64 0, .int .i64 0, .int .i64 0, .int .i64 0, .int .i64 0, .int .i64 0, .int .i64 0, .int .i64 0, .int .i64 0, .int .i64 0, .int .i64 0, .int .i64 0, .int .i64 0, .int .i64 0, .int .i64 0, .int .i64 0, .int .i64 0, .int .i64 0, .int .i64 0, .int .i64 0, .int .i64 0, .int .i64 0, .int .i64 0, .int .i64 0]
abbrev Gy:List Value:=[.int .i64 0, .int .i64 0, .int .i64 0, .int .i64 0, .int .i64 0, .int .i64 0, .int .i64 0, .int .i64 0, .int .i64 0]
abbrev Kr:List Value:=[.slice none 0 0, .slice none 0 0, .int .i64 0, .bool false, .slice none 0 0]
abbrev wW:List Value:=[.int .i64 0, .int .i64 0, .int .i64 0, .int .i64 0, .int .i64 0]
abbrev OJ:List Value:=[.slice none 0 0, .slice none 0 0, .slice none 0 0]
abbrev IU:List Value:=[.int .i64 0, .int .i64 0, .string ByteArray.empty, .slice none 0 0]
abbrev IX:List Value:=[.int .i64 0, .int .i64 0, .int .i64 0, .string ByteArray.empty, .slice none 0 0]
abbrev KQ:List Value:=[.bool false, .int .i64 0, .int .i64 0, .int .i64 0, .slice none 0 0, .slice none 0 0, .slice none 0 0, .slice none 0 0, .int .i64 0, .int .i64 0, .int .i64 0, .int .i64 0, .int .i64 0, .int .i64 0, .int .i64 0, .int .i64 0, .int .i64 0, .int .i64 0, .int .i64 0, .int .i64 0, .int .i64 0, .int .i64 0, .int .i64 0, .int .i64 0, .int .i64 0, .int .i64 0, .int .i64 0, .int .i64 0, .int .i64 0, .int .i64 0, .int .i64 0, .int .i64 0, .int .i64 0, .int .i64 0, .int .i64 0, .int .i64 0, .int .i64 0, .int .i64 0, .int .i64 0, .int .i64 0, .int .i64 0, .int .i64 0, .int .i64 0, .int .i64 0, .int .i64 0, .int .i64 0, .int .i64 0, .int .i64 0, .int .i64 0, .int .i64 0, .int .i64 0, .int .i64 0]
abbrev IW:List Value:=[.int .i64 0, .int .i64 0, .int .i64 0, .int .i64 0, .int .i64 0, .int .i64 0, .int .i64 0, .int .i64 0, .int .i64 0, .int .i64 0, .int .i64 0, .int .i64 0, .int .i64 0, .slice none 0 0, .slice none 0 0]
abbrev KJ:List Value:=[.int .i64 0, .int .i64 0, .int .i64 0]
abbrev Eo:List Value:=[.int .i64 0, .int .i64 0, .int .i64 0, .slice none 0 0, .bool false, .int .i64 0, .slice none 0 0, .slice none 0 0, .slice none 0 0, .int .i64 0, .bool false, .slice none 0 0]
abbrev El:List Value:=[.slice none 0 0, .int .i64 0, .int .i64 0, .int .i64 0, .int .i64 0, .int .i64 0, .int .i64 0, .int .i64 0, .int .i64 0, .int .i64 0]
abbrev EX:List Value:=[.nilFunc, .nilFunc, .nilFunc, .nilFunc, .nilFunc, .nilFunc, .nilFunc, .nilFunc, .nilFunc, .nilFunc, .nilFunc, .nilFunc, .nilFunc, .nilFunc, .nilFunc, .nilFunc, .nilFunc, .nilFunc, .nilFunc, .nilFunc, .nilFunc, .nilFunc, .nilFunc, .nilFunc]
abbrev yO:List Value:=[.int .i64 0, .int .i64 0, .string ByteArray.empty, .int .i64 0]
abbrev FL:List Value:=[.int .i64 0, .int .i64 0, .int .i64 0, .int .i64 0, .int .i64 0, .int .i64 0, .int .i64 0]
abbrev DX:List Value:=[.int .i64 0, .int .i64 0, .int .i64 0, .int .i64 0, .int .i64 0, .int .i64 0]
abbrev JH:List Value:=[.int .i64 0, .int .i64 0, .int .i64 0, .slice none 0 0, .slice none 0 0]
abbrev Jj:List Value:=[.slice none 0 0, .int .i64 0, .int .i64 0, .int .i64 0, .int .i64 0, .int .i64 0, .int .i64 0, .int .i64 0, .int .i64 0, .int .i64 0, .int .i64 0, .int .i64 0, .int .i64 0, .int .i64 0, .int .i64 0, .int .i64 0, .int .i64 0, .int .i64 0, .int .i64 0, .int .i64 0, .int .i64 0, .int .i64 0, .int .i64 0, .int .i64 0, .int .i64 0, .int .i64 0, .int .i64 0, .int .i64 0, .int .i64 0, .int .i64 0, .int .i64 0, .int .i64 0, .int .i64 0, .int .i64 0, .int .i64 0, .int .i64 0, .int .i64 0, .int .i64 0, .int .i64 0, .int .i64 0, .int .i64 0, .int .i64 0, .int .i64 0, .slice none 0 0, .int .i64 0, .int .i64 0, .int .i64 0, .int .i64 0, .int .i64 0, .int .i64 0, .int .i64 0, .int .i64 0, .int .i64 0, .nilFunc, .slice none 0 0, .slice none 0 0, .int .i64 0, .bool false, .slice none 0 0, .slice none 0 0, .int .i64 0, .int .i64 0, .int .i64 0, .bool false]
abbrev Ji:List Value:=[.slice none 0 0, .int .i64 0, .int .i64 0, .int .i64 0, .slice none 0 0]

instance zK:Ty Tryz.prog 1 false [.nilFunc]:=Ty.of (bytes:=8) (.nilFunc) Tryz.underlying1 rfl ae rfl oC
instance zH:Ty Tryz.prog 2 false [.int .i64 0]:=Ty.of (bytes:=8) (.int .i64 0) Tryz.underlying2 rfl ae rfl oC
instance Rw:Ty Tryz.prog 3 false [.int .i64 0]:=Ty.of (bytes:=8) (.int .i64 0) Tryz.underlying3 rfl ae rfl oC
instance Ry:Ty Tryz.prog 4 false [.bool false]:=Ty.of (bytes:=1) (.bool false) Tryz.underlying4 rfl ae rfl oC
instance Rx:Ty Tryz.prog 9 false [.string ByteArray.empty]:=Ty.of (bytes:=16) (.string ByteArray.empty) Tryz.underlying9 rfl ae rfl oC
instance Mo:Ty Tryz.prog 22 false [.slice none 0 0]:=Ty.of (bytes:=24) (.slice none 0 0) Tryz.underlying22 rfl ae rfl oC
instance PZ:Ty Tryz.prog 23 false [.slice none 0 0]:=Ty.of (bytes:=24) (.slice none 0 0) Tryz.underlying23 rfl ae rfl oC
instance QQ:Ty Tryz.prog 26 true Km:=Ty.of (bytes:=360) (.agg (Km).toArray) Tryz.underlying26 rfl ae rfl oC
instance Qp:Ty Tryz.prog 30 true Gy:=Ty.of (bytes:=72) (.agg (Gy).toArray) Tryz.underlying30 rfl ae rfl oC
instance PT:Ty Tryz.prog 32 false [.slice none 0 0]:=Ty.of (bytes:=24) (.slice none 0 0) Tryz.underlying32 rfl ae rfl oC
instance QJ:Ty Tryz.prog 34 true Kr:=Ty.of (bytes:=88) (.agg (Kr).toArray) Tryz.underlying34 rfl ae rfl oC
instance PJ:Ty Tryz.prog 43 false [.nilFunc]:=Ty.of (bytes:=8) (.nilFunc) Tryz.underlying43 rfl ae rfl oC
instance Qk:Ty Tryz.prog 48 true [.int .i64 0, .int .i64 0]:=Ty.of (bytes:=16) (.agg #[.int .i64 0, .int .i64 0]) Tryz.underlying48 rfl ae rfl oC
instance Qv:Ty Tryz.prog 51 false [.nilFunc]:=Ty.of (bytes:=8) (.nilFunc) Tryz.underlying51 rfl ae rfl oC
instance PD:Ty Tryz.prog 57 true wW:=Ty.of (bytes:=40) (.agg (wW).toArray) Tryz.underlying57 rfl ae rfl oC
instance QX:Ty Tryz.prog 61 false [.slice none 0 0]:=Ty.of (bytes:=24) (.slice none 0 0) Tryz.underlying61 rfl ae rfl oC
instance PL:Ty Tryz.prog 62 false [.slice none 0 0]:=Ty.of (bytes:=24) (.slice none 0 0) Tryz.underlying62 rfl ae rfl oC
instance QF:Ty Tryz.prog 64 true OJ:=Ty.of (bytes:=72) (.agg (OJ).toArray) Tryz.underlying64 rfl ae rfl oC
instance Qm:Ty Tryz.prog 66 false [.int .i64 0]:=Ty.of (bytes:=8) (.int .i64 0) Tryz.underlying66 rfl ae rfl oC
instance Qh:Ty Tryz.prog 69 false [.slice none 0 0]:=Ty.of (bytes:=24) (.slice none 0 0) Tryz.underlying69 rfl ae rfl oC
instance QH:Ty Tryz.prog 71 true IU:=Ty.of (bytes:=56) (.agg (IU).toArray) Tryz.underlying71 rfl ae rfl oC
instance Qj:Ty Tryz.prog 73 true IX:=Ty.of (bytes:=64) (.agg (IX).toArray) Tryz.underlying73 rfl ae rfl oC
instance Rq:Ty Tryz.prog 78 false [.slice none 0 0]:=Ty.of (bytes:=24) (.slice none 0 0) Tryz.underlying78 rfl ae rfl oC
instance Qx:Ty Tryz.prog 80 true [.slice none 0 0, .slice none 0 0]:=Ty.of (bytes:=48) (.agg #[.slice none 0 0, .slice none 0 0]) Tryz.underlying80 rfl ae rfl oC
instance Qq:Ty Tryz.prog 83 true KQ:=Ty.of (bytes:=480) (.agg (KQ).toArray) Tryz.underlying83 rfl ae rfl oC
instance QM:Ty Tryz.prog 87 true IW:=Ty.of (bytes:=152) (.agg (IW).toArray) Tryz.underlying87 rfl ae rfl oC
instance QU:Ty Tryz.prog 88 false [.slice none 0 0]:=Ty.of (bytes:=24) (.slice none 0 0) Tryz.underlying88 rfl ae rfl oC
instance Rb:Ty Tryz.prog 89 false [.slice none 0 0]:=Ty.of (bytes:=24) (.slice none 0 0) Tryz.underlying89 rfl ae rfl oC
instance PW:Ty Tryz.prog 91 true KJ:=Ty.of (bytes:=24) (.agg (KJ).toArray) Tryz.underlying91 rfl ae rfl oC
instance Qy:Ty Tryz.prog 96 true Eo:=Ty.of (bytes:=176) (.agg (Eo).toArray) Tryz.underlying96 rfl ae rfl oC
instance Pd:Ty Tryz.prog 101 false [.slice none 0 0]:=Ty.of (bytes:=24) (.slice none 0 0) Tryz.underlying101 rfl ae rfl oC
instance MK:Ty Tryz.prog 109 true wW:=Ty.of (bytes:=40) (.agg (wW).toArray) Tryz.underlying109 rfl ae rfl oC
instance ON:Ty Tryz.prog 115 true wW:=Ty.of (bytes:=40) (.agg (wW).toArray) Tryz.underlying115 rfl ae rfl oC
instance MM:Ty Tryz.prog 126 true [.int .i64 0, .int .i64 0]:=Ty.of (bytes:=16) (.agg #[.int .i64 0, .int .i64 0]) Tryz.underlying126 rfl ae rfl oC
instance Oa:Ty Tryz.prog 132 true El:=Ty.of (bytes:=96) (.agg (El).toArray) Tryz.underlying132 rfl ae rfl oC
instance MX:Ty Tryz.prog 161 false [.nilFunc]:=Ty.of (bytes:=8) (.nilFunc) Tryz.underlying161 rfl ae rfl oC
instance NY:Ty Tryz.prog 172 false [.nilFunc]:=Ty.of (bytes:=8) (.nilFunc) Tryz.underlying172 rfl ae rfl oC
instance Nw:Ty Tryz.prog 173 true EX:=Ty.of (bytes:=192) (.agg (EX).toArray) Tryz.underlying173 rfl ae rfl oC
instance Pi:Ty Tryz.prog 217 false [.slice none 0 0]:=Ty.of (bytes:=24) (.slice none 0 0) Tryz.underlying217 rfl ae rfl oC
instance No:Ty Tryz.prog 225 true yO:=Ty.of (bytes:=40) (.agg (yO).toArray) Tryz.underlying225 rfl ae rfl oC
instance QP:Elem Tryz.prog 22 3 1 8 [.int .i64 0]:=Elem.of (.int .i64 0) Tryz.underlying22 ae rfl rfl ah ah oC
instance Qc:Elem Tryz.prog 23 48 2 16 [.int .i64 0, .int .i64 0]:=Elem.of (.agg #[.int .i64 0, .int .i64 0]) Tryz.underlying23 ae rfl rfl ah ah oC
instance QI:Elem Tryz.prog 32 57 5 40 wW:=Elem.of (.agg (wW).toArray) Tryz.underlying32 ae rfl rfl ah ah oC
instance Qu:Elem Tryz.prog 61 9 1 16 [.string ByteArray.empty]:=Elem.of (.string ByteArray.empty) Tryz.underlying61 ae rfl rfl ah ah oC
instance PN:Elem Tryz.prog 62 73 5 64 IX:=Elem.of (.agg (IX).toArray) Tryz.underlying62 ae rfl rfl ah ah oC
instance QY:Elem Tryz.prog 69 71 4 56 IU:=Elem.of (.agg (IU).toArray) Tryz.underlying69 ae rfl rfl ah ah oC
instance Qd:Elem Tryz.prog 76 87 15 152 IW:=Elem.of (.agg (IW).toArray) Tryz.underlying76 ae rfl rfl ah ah oC
instance QL:Elem Tryz.prog 78 126 2 16 [.int .i64 0, .int .i64 0]:=Elem.of (.agg #[.int .i64 0, .int .i64 0]) Tryz.underlying78 ae rfl rfl ah ah oC
instance Ql:Elem Tryz.prog 88 111 7 56 FL:=Elem.of (.agg (FL).toArray) Tryz.underlying88 ae rfl rfl ah ah oC
instance QS:Elem Tryz.prog 89 117 9 72 Gy:=Elem.of (.agg (Gy).toArray) Tryz.underlying89 ae rfl rfl ah ah oC
instance Oc:Elem Tryz.prog 101 196 6 48 DX:=Elem.of (.agg (DX).toArray) Tryz.underlying101 ae rfl rfl ah ah oC
instance Og:Elem Tryz.prog 121 4 1 1 [.bool false]:=Elem.of (.bool false) Tryz.underlying121 ae rfl rfl ah ah oC
instance OK:Elem Tryz.prog 217 225 4 40 yO:=Elem.of (.agg (yO).toArray) Tryz.underlying217 ae rfl rfl ah ah oC
instance OX:Elem Tryz.prog 275 61 1 24 [.slice none 0 0]:=Elem.of (.slice none 0 0) Tryz.underlying275 ae rfl rfl ah ah oC
instance Lw:eZ Tryz.prog 26 0 0:=⟨fun ad w=> by kernel_rfl⟩
instance MF:eZ Tryz.prog 26 1 1:=⟨fun ad w=> by kernel_rfl⟩
instance MH:eZ Tryz.prog 26 2 41:=⟨fun ad w=> by kernel_rfl⟩
instance LO:eZ Tryz.prog 26 3 42:=⟨fun ad w=> by kernel_rfl⟩
instance LA:eZ Tryz.prog 34 0 0:=⟨fun ad w=> by kernel_rfl⟩
instance Mj:eZ Tryz.prog 34 1 1:=⟨fun ad w=> by kernel_rfl⟩
instance Lm:eZ Tryz.prog 34 2 2:=⟨fun ad w=> by kernel_rfl⟩
instance LD:eZ Tryz.prog 34 3 3:=⟨fun ad w=> by kernel_rfl⟩
instance Lg:eZ Tryz.prog 34 4 4:=⟨fun ad w=> by kernel_rfl⟩
instance MB:eZ Tryz.prog 48 0 0:=⟨fun ad w=> by kernel_rfl⟩
instance LB:eZ Tryz.prog 48 1 1:=⟨fun ad w=> by kernel_rfl⟩
instance Mq:eZ Tryz.prog 57 0 0:=⟨fun ad w=> by kernel_rfl⟩
instance Me:eZ Tryz.prog 57 1 1:=⟨fun ad w=> by kernel_rfl⟩
instance LK:eZ Tryz.prog 57 2 2:=⟨fun ad w=> by kernel_rfl⟩
instance Lj:eZ Tryz.prog 57 3 3:=⟨fun ad w=> by kernel_rfl⟩
instance LJ:eZ Tryz.prog 57 4 4:=⟨fun ad w=> by kernel_rfl⟩
instance LF:eZ Tryz.prog 64 0 0:=⟨fun ad w=> by kernel_rfl⟩
instance LM:eZ Tryz.prog 64 1 1:=⟨fun ad w=> by kernel_rfl⟩
instance Lx:eZ Tryz.prog 64 2 2:=⟨fun ad w=> by kernel_rfl⟩
instance Mh:eZ Tryz.prog 71 0 0:=⟨fun ad w=> by kernel_rfl⟩
instance MG:eZ Tryz.prog 71 1 1:=⟨fun ad w=> by kernel_rfl⟩
instance My:eZ Tryz.prog 71 2 2:=⟨fun ad w=> by kernel_rfl⟩
instance Mc:eZ Tryz.prog 71 3 3:=⟨fun ad w=> by kernel_rfl⟩
instance Lq:eZ Tryz.prog 73 0 0:=⟨fun ad w=> by kernel_rfl⟩
instance Mr:eZ Tryz.prog 73 1 1:=⟨fun ad w=> by kernel_rfl⟩
instance LH:eZ Tryz.prog 80 0 0:=⟨fun ad w=> by kernel_rfl⟩
instance Ma:Fvl Tryz.prog 80 0 0 false 1:=Fvl.of Tryz.underlying80 rfl rfl Mo rfl
instance Ld:eZ Tryz.prog 80 1 1:=⟨fun ad w=> by kernel_rfl⟩
instance MA:eZ Tryz.prog 83 0 0:=⟨fun ad w=> by kernel_rfl⟩
instance Lo:eZ Tryz.prog 83 1 1:=⟨fun ad w=> by kernel_rfl⟩
instance Mi:eZ Tryz.prog 83 2 2:=⟨fun ad w=> by kernel_rfl⟩
instance Mf:eZ Tryz.prog 83 3 3:=⟨fun ad w=> by kernel_rfl⟩
instance LT:eZ Tryz.prog 83 4 4:=⟨fun ad w=> by kernel_rfl⟩
instance Mt:eZ Tryz.prog 83 5 6:=⟨fun ad w=> by kernel_rfl⟩
instance Lf:eZ Tryz.prog 83 6 7:=⟨fun ad w=> by kernel_rfl⟩
instance LN:eZ Tryz.prog 83 7 8:=⟨fun ad w=> by kernel_rfl⟩
instance Lh:eZ Tryz.prog 83 8 49:=⟨fun ad w=> by kernel_rfl⟩
instance KY:eZ Tryz.prog 87 0 0:=⟨fun ad w=> by kernel_rfl⟩
instance ME:eZ Tryz.prog 87 1 1:=⟨fun ad w=> by kernel_rfl⟩
instance Mp:eZ Tryz.prog 87 2 2:=⟨fun ad w=> by kernel_rfl⟩
instance Ly:eZ Tryz.prog 87 3 11:=⟨fun ad w=> by kernel_rfl⟩
instance Lc:eZ Tryz.prog 87 4 12:=⟨fun ad w=> by kernel_rfl⟩
instance Mb:eZ Tryz.prog 87 5 13:=⟨fun ad w=> by kernel_rfl⟩
instance MC:eZ Tryz.prog 87 6 14:=⟨fun ad w=> by kernel_rfl⟩
instance Lp:eZ Tryz.prog 96 0 0:=⟨fun ad w=> by kernel_rfl⟩
instance LI:eZ Tryz.prog 96 1 3:=⟨fun ad w=> by kernel_rfl⟩
instance Ls:eZ Tryz.prog 96 2 4:=⟨fun ad w=> by kernel_rfl⟩
instance Md:eZ Tryz.prog 96 3 5:=⟨fun ad w=> by kernel_rfl⟩
instance LR:eZ Tryz.prog 96 4 6:=⟨fun ad w=> by kernel_rfl⟩
instance LP:eZ Tryz.prog 96 5 7:=⟨fun ad w=> by kernel_rfl⟩
instance KI:eZ Tryz.prog 103 0 0:=⟨fun ad w=> by kernel_rfl⟩
instance KT:eZ Tryz.prog 103 1 3:=⟨fun ad w=> by kernel_rfl⟩
instance KA:eZ Tryz.prog 103 2 4:=⟨fun ad w=> by kernel_rfl⟩
instance KR:eZ Tryz.prog 126 0 0:=⟨fun ad w=> by kernel_rfl⟩
instance KU:eZ Tryz.prog 126 1 1:=⟨fun ad w=> by kernel_rfl⟩
instance KN:eZ Tryz.prog 132 0 0:=⟨fun ad w=> by kernel_rfl⟩
instance KV:eZ Tryz.prog 132 1 1:=⟨fun ad w=> by kernel_rfl⟩
instance KS:eZ Tryz.prog 171 0 0:=⟨fun ad w=> by kernel_rfl⟩
instance Kz:eZ Tryz.prog 171 1 43:=⟨fun ad w=> by kernel_rfl⟩
instance Kh:eZ Tryz.prog 171 2 53:=⟨fun ad w=> by kernel_rfl⟩
instance Kn:eZ Tryz.prog 171 3 54:=⟨fun ad w=> by kernel_rfl⟩
instance KP:eZ Tryz.prog 171 4 59:=⟨fun ad w=> by kernel_rfl⟩
instance Kj:eZ Tryz.prog 171 5 60:=⟨fun ad w=> by kernel_rfl⟩
instance KM:eZ Tryz.prog 171 6 61:=⟨fun ad w=> by kernel_rfl⟩
instance KH:eZ Tryz.prog 171 7 62:=⟨fun ad w=> by kernel_rfl⟩
instance KO:eZ Tryz.prog 171 8 63:=⟨fun ad w=> by kernel_rfl⟩
instance KF:eZ Tryz.prog 196 0 0:=⟨fun ad w=> by kernel_rfl⟩
instance Ky:eZ Tryz.prog 196 1 5:=⟨fun ad w=> by kernel_rfl⟩
instance Ke:eZ Tryz.prog 222 0 0:=⟨fun ad w=> by kernel_rfl⟩
instance KD:eZ Tryz.prog 222 1 1:=⟨fun ad w=> by kernel_rfl⟩
instance Kg:eZ Tryz.prog 222 3 3:=⟨fun ad w=> by kernel_rfl⟩
instance Kl:eZ Tryz.prog 222 4 4:=⟨fun ad w=> by kernel_rfl⟩
instance KG:eZ Tryz.prog 225 0 0:=⟨fun ad w=> by kernel_rfl⟩
instance KC:eZ Tryz.prog 225 2 2:=⟨fun ad w=> by kernel_rfl⟩
instance Kt:eZ Tryz.prog 225 3 3:=⟨fun ad w=> by kernel_rfl⟩
instance Qs:cR Tryz.prog 23:=⟨fun args w=> by kernel_rfl⟩
instance Rt:cR Tryz.prog 30:=⟨fun args w=> by kernel_rfl⟩
instance PF:cR Tryz.prog 33:=⟨fun args w=> by kernel_rfl⟩
instance PY:cR Tryz.prog 39:=⟨fun args w=> by kernel_rfl⟩
instance PB:cR Tryz.prog 40:=⟨fun args w=> by kernel_rfl⟩
instance Pw:cR Tryz.prog 41:=⟨fun args w=> by kernel_rfl⟩
instance Py:cR Tryz.prog 45:=⟨fun args w=> by kernel_rfl⟩
instance Rl:cR Tryz.prog 47:=⟨fun args w=> by kernel_rfl⟩
instance PM:cR Tryz.prog 50:=⟨fun args w=> by kernel_rfl⟩
instance PH:cR Tryz.prog 51:=⟨fun args w=> by kernel_rfl⟩
instance Qn:cR Tryz.prog 52:=⟨fun args w=> by kernel_rfl⟩
instance Rn:cR Tryz.prog 53:=⟨fun args w=> by kernel_rfl⟩
instance Rf:cR Tryz.prog 54:=⟨fun args w=> by kernel_rfl⟩
instance Qb:cR Tryz.prog 55:=⟨fun args w=> by kernel_rfl⟩
instance QR:cR Tryz.prog 56:=⟨fun args w=> by kernel_rfl⟩
instance Ro:cR Tryz.prog 57:=⟨fun args w=> by kernel_rfl⟩
instance Pu:cR Tryz.prog 58:=⟨fun args w=> by kernel_rfl⟩
instance QN:cR Tryz.prog 59:=⟨fun args w=> by kernel_rfl⟩
instance PU:cR Tryz.prog 64:=⟨fun args w=> by kernel_rfl⟩
instance Qz:cR Tryz.prog 72:=⟨fun args w=> by kernel_rfl⟩
instance Rc:cR Tryz.prog 73:=⟨fun args w=> by kernel_rfl⟩
instance PX:cR Tryz.prog 74:=⟨fun args w=> by kernel_rfl⟩
instance Qt:cR Tryz.prog 75:=⟨fun args w=> by kernel_rfl⟩
instance QC:cR Tryz.prog 78:=⟨fun args w=> by kernel_rfl⟩
instance Qe:cR Tryz.prog 81:=⟨fun args w=> by kernel_rfl⟩
instance QA:cR Tryz.prog 82:=⟨fun args w=> by kernel_rfl⟩
instance QG:cR Tryz.prog 85:=⟨fun args w=> by kernel_rfl⟩
instance Rp:cR Tryz.prog 86:=⟨fun args w=> by kernel_rfl⟩
instance Rh:cR Tryz.prog 87:=⟨fun args w=> by kernel_rfl⟩
instance PC:cR Tryz.prog 88:=⟨fun args w=> by kernel_rfl⟩
instance Rj:cR Tryz.prog 89:=⟨fun args w=> by kernel_rfl⟩
instance Pr:cR Tryz.prog 90:=⟨fun args w=> by kernel_rfl⟩
instance QT:cR Tryz.prog 91:=⟨fun args w=> by kernel_rfl⟩
instance QB:cR Tryz.prog 92:=⟨fun args w=> by kernel_rfl⟩
instance Qf:cR Tryz.prog 93:=⟨fun args w=> by kernel_rfl⟩
instance QE:cR Tryz.prog 94:=⟨fun args w=> by kernel_rfl⟩
instance PP:cR Tryz.prog 95:=⟨fun args w=> by kernel_rfl⟩
instance Qo:cR Tryz.prog 96:=⟨fun args w=> by kernel_rfl⟩
instance QD:cR Tryz.prog 97:=⟨fun args w=> by kernel_rfl⟩
instance Np:cR Tryz.prog 106:=⟨fun args w=> by kernel_rfl⟩
instance NP:cR Tryz.prog 107:=⟨fun args w=> by kernel_rfl⟩
instance NF:cR Tryz.prog 108:=⟨fun args w=> by kernel_rfl⟩
instance Ok:cR Tryz.prog 113:=⟨fun args w=> by kernel_rfl⟩
instance NR:cR Tryz.prog 114:=⟨fun args w=> by kernel_rfl⟩
instance Of:cR Tryz.prog 115:=⟨fun args w=> by kernel_rfl⟩
instance Nx:cR Tryz.prog 117:=⟨fun args w=> by kernel_rfl⟩
instance OL:cR Tryz.prog 118:=⟨fun args w=> by kernel_rfl⟩
instance OW:cR Tryz.prog 119:=⟨fun args w=> by kernel_rfl⟩
instance OB:cR Tryz.prog 120:=⟨fun args w=> by kernel_rfl⟩
instance Nn:cR Tryz.prog 121:=⟨fun args w=> by kernel_rfl⟩
instance Pp:cR Tryz.prog 122:=⟨fun args w=> by kernel_rfl⟩
instance OY:cR Tryz.prog 123:=⟨fun args w=> by kernel_rfl⟩
instance Ow:cR Tryz.prog 124:=⟨fun args w=> by kernel_rfl⟩
instance OO:cR Tryz.prog 125:=⟨fun args w=> by kernel_rfl⟩
instance MS:cR Tryz.prog 126:=⟨fun args w=> by kernel_rfl⟩
instance MV:cR Tryz.prog 127:=⟨fun args w=> by kernel_rfl⟩
instance NZ:cR Tryz.prog 128:=⟨fun args w=> by kernel_rfl⟩
instance MQ:cR Tryz.prog 129:=⟨fun args w=> by kernel_rfl⟩
instance Ni:cR Tryz.prog 130:=⟨fun args w=> by kernel_rfl⟩
instance Pe:cR Tryz.prog 131:=⟨fun args w=> by kernel_rfl⟩
instance OM:cR Tryz.prog 132:=⟨fun args w=> by kernel_rfl⟩
instance OQ:cR Tryz.prog 133:=⟨fun args w=> by kernel_rfl⟩
instance Om:cR Tryz.prog 134:=⟨fun args w=> by kernel_rfl⟩
instance Nv:cR Tryz.prog 135:=⟨fun args w=> by kernel_rfl⟩
instance Ng:cR Tryz.prog 136:=⟨fun args w=> by kernel_rfl⟩
instance OH:cR Tryz.prog 137:=⟨fun args w=> by kernel_rfl⟩
instance OV:cR Tryz.prog 138:=⟨fun args w=> by kernel_rfl⟩
instance MN:cR Tryz.prog 139:=⟨fun args w=> by kernel_rfl⟩
instance Ox:cR Tryz.prog 140:=⟨fun args w=> by kernel_rfl⟩
instance NM:cR Tryz.prog 141:=⟨fun args w=> by kernel_rfl⟩
instance Pk:cR Tryz.prog 142:=⟨fun args w=> by kernel_rfl⟩
instance Oi:cR Tryz.prog 143:=⟨fun args w=> by kernel_rfl⟩
instance Ob:cR Tryz.prog 144:=⟨fun args w=> by kernel_rfl⟩
instance NJ:cR Tryz.prog 145:=⟨fun args w=> by kernel_rfl⟩
instance Nf:cR Tryz.prog 146:=⟨fun args w=> by kernel_rfl⟩
instance NA:cR Tryz.prog 147:=⟨fun args w=> by kernel_rfl⟩
instance Pa:cR Tryz.prog 148:=⟨fun args w=> by kernel_rfl⟩
instance OS:cR Tryz.prog 149:=⟨fun args w=> by kernel_rfl⟩
instance Nt:cR Tryz.prog 150:=⟨fun args w=> by kernel_rfl⟩
instance OZ:cR Tryz.prog 151:=⟨fun args w=> by kernel_rfl⟩
instance OP:cR Tryz.prog 152:=⟨fun args w=> by kernel_rfl⟩
instance OG:cR Tryz.prog 153:=⟨fun args w=> by kernel_rfl⟩
instance NV:cR Tryz.prog 154:=⟨fun args w=> by kernel_rfl⟩
instance MO:cR Tryz.prog 155:=⟨fun args w=> by kernel_rfl⟩
instance Nb:cR Tryz.prog 159:=⟨fun args w=> by kernel_rfl⟩
instance MJ:cR Tryz.prog 160:=⟨fun args w=> by kernel_rfl⟩
instance NK:cR Tryz.prog 161:=⟨fun args w=> by kernel_rfl⟩
instance Nq:cR Tryz.prog 162:=⟨fun args w=> by kernel_rfl⟩
instance NW:cR Tryz.prog 163:=⟨fun args w=> by kernel_rfl⟩
instance NB:cR Tryz.prog 164:=⟨fun args w=> by kernel_rfl⟩
instance MW:cR Tryz.prog 165:=⟨fun args w=> by kernel_rfl⟩
instance Ov:cR Tryz.prog 166:=⟨fun args w=> by kernel_rfl⟩
instance MU:cR Tryz.prog 167:=⟨fun args w=> by kernel_rfl⟩
instance Oo:cR Tryz.prog 183:=⟨fun args w=> by kernel_rfl⟩
instance MZ:cR Tryz.prog 184:=⟨fun args w=> by kernel_rfl⟩
instance NE:cR Tryz.prog 185:=⟨fun args w=> by kernel_rfl⟩
instance Pq:cR Tryz.prog 187:=⟨fun args w=> by kernel_rfl⟩
instance Oq:cR Tryz.prog 188:=⟨fun args w=> by kernel_rfl⟩
instance Pf:cR Tryz.prog 189:=⟨fun args w=> by kernel_rfl⟩
instance Oj:cR Tryz.prog 190:=⟨fun args w=> by kernel_rfl⟩
instance OI:cR Tryz.prog 194:=⟨fun args w=> by kernel_rfl⟩
instance Od:cR Tryz.prog 195:=⟨fun args w=> by kernel_rfl⟩
instance NU:cR Tryz.prog 196:=⟨fun args w=> by kernel_rfl⟩
instance Nk:cR Tryz.prog 197:=⟨fun args w=> by kernel_rfl⟩
instance NT:cR Tryz.prog 199:=⟨fun args w=> by kernel_rfl⟩
instance Oh:cR Tryz.prog 200:=⟨fun args w=> by kernel_rfl⟩
instance MP:cR Tryz.prog 201:=⟨fun args w=> by kernel_rfl⟩
instance MT:cR Tryz.prog 202:=⟨fun args w=> by kernel_rfl⟩
instance Pl:cR Tryz.prog 203:=⟨fun args w=> by kernel_rfl⟩
instance NL:cR Tryz.prog 204:=⟨fun args w=> by kernel_rfl⟩
instance NX:cR Tryz.prog 205:=⟨fun args w=> by kernel_rfl⟩
instance NO:cR Tryz.prog 207:=⟨fun args w=> by kernel_rfl⟩
instance NH:cR Tryz.prog 208:=⟨fun args w=> by kernel_rfl⟩
instance Po:cR Tryz.prog 221:=⟨fun args w=> by kernel_rfl⟩
instance Ol:cR Tryz.prog 222:=⟨fun args w=> by kernel_rfl⟩
instance Pj:cR Tryz.prog 223:=⟨fun args w=> by kernel_rfl⟩
instance NS:cR Tryz.prog 224:=⟨fun args w=> by kernel_rfl⟩
instance NI:cR Tryz.prog 225:=⟨fun args w=> by kernel_rfl⟩
instance Oz:cR Tryz.prog 226:=⟨fun args w=> by kernel_rfl⟩
instance Nm:cR Tryz.prog 227:=⟨fun args w=> by kernel_rfl⟩
instance MY:cR Tryz.prog 228:=⟨fun args w=> by kernel_rfl⟩
instance Pb:cR Tryz.prog 235:=⟨fun args w=> by kernel_rfl⟩
instance Nl:cR Tryz.prog 236:=⟨fun args w=> by kernel_rfl⟩
instance NN:cR Tryz.prog 237:=⟨fun args w=> by kernel_rfl⟩
instance Nh:cR Tryz.prog 240:=⟨fun args w=> by kernel_rfl⟩
end Go.Proofs.YtmjnackchaahbaaGreat

namespace Go.Proofs.YtmjnackchaahbaaGreat

instance Qg:Bld Tryz.prog 26 Km (fun i=> ([(0,1),(1,40),(41,1),(42,1)]:List (Nat×Nat))[i]?):=Bld.struct (bytes:=360) (.agg (Km).toArray) [(0,1),(1,40),(41,1),(42,1)] Tryz.underlying26 ae rfl oC (fun w=> by kernel_rfl)
instance QO:Bld Tryz.prog 30 Gy (fun i=> some (i*1,1)):=Bld.array (bytes:=72) (.agg (Gy).toArray) Tryz.underlying30 ae rfl oC ae
instance Px:Bld Tryz.prog 34 Kr (fun i=> ([(0,1),(1,1),(2,1),(3,1),(4,1)]:List (Nat×Nat))[i]?):=Bld.struct (bytes:=88) (.agg (Kr).toArray) [(0,1),(1,1),(2,1),(3,1),(4,1)] Tryz.underlying34 ae rfl oC (fun w=> by kernel_rfl)
instance QK:Bld Tryz.prog 48 [.int .i64 0, .int .i64 0] (fun i=> ([(0,1),(1,1)]:List (Nat×Nat))[i]?):=Bld.struct (bytes:=16) (.agg #[.int .i64 0, .int .i64 0]) [(0,1),(1,1)] Tryz.underlying48 ae rfl oC (fun w=> by kernel_rfl)
instance PR:Bld Tryz.prog 57 wW (fun i=> ([(0,1),(1,1),(2,1),(3,1),(4,1)]:List (Nat×Nat))[i]?):=Bld.struct (bytes:=40) (.agg (wW).toArray) [(0,1),(1,1),(2,1),(3,1),(4,1)] Tryz.underlying57 ae rfl oC (fun w=> by kernel_rfl)
instance Rk:Bld Tryz.prog 71 IU (fun i=> ([(0,1),(1,1),(2,1),(3,1)]:List (Nat×Nat))[i]?):=Bld.struct (bytes:=56) (.agg (IU).toArray) [(0,1),(1,1),(2,1),(3,1)] Tryz.underlying71 ae rfl oC (fun w=> by kernel_rfl)
instance PI:Bld Tryz.prog 73 IX (fun i=> ([(0,1),(1,4)]:List (Nat×Nat))[i]?):=Bld.struct (bytes:=64) (.agg (IX).toArray) [(0,1),(1,4)] Tryz.underlying73 ae rfl oC (fun w=> by kernel_rfl)
instance Qi:Bld Tryz.prog 80 [.slice none 0 0, .slice none 0 0] (fun i=> ([(0,1),(1,1)]:List (Nat×Nat))[i]?):=Bld.struct (bytes:=48) (.agg #[.slice none 0 0, .slice none 0 0]) [(0,1),(1,1)] Tryz.underlying80 ae rfl oC (fun w=> by kernel_rfl)
instance Qw:Bld Tryz.prog 83 KQ (fun i=> ([(0,1),(1,1),(2,1),(3,1),(4,2),(6,1),(7,1),(8,41),(49,1),(50,1),(51,1)]:List (Nat×Nat))[i]?):=Bld.struct (bytes:=480) (.agg (KQ).toArray) [(0,1),(1,1),(2,1),(3,1),(4,2),(6,1),(7,1),(8,41),(49,1),(50,1),(51,1)] Tryz.underlying83 ae rfl oC (fun w=> by kernel_rfl)
instance Pt:Bld Tryz.prog 87 IW (fun i=> ([(0,1),(1,1),(2,9),(11,1),(12,1),(13,1),(14,1)]:List (Nat×Nat))[i]?):=Bld.struct (bytes:=152) (.agg (IW).toArray) [(0,1),(1,1),(2,9),(11,1),(12,1),(13,1),(14,1)] Tryz.underlying87 ae rfl oC (fun w=> by kernel_rfl)
instance QZ:Bld Tryz.prog 91 KJ (fun i=> ([(0,1),(1,1),(2,1)]:List (Nat×Nat))[i]?):=Bld.struct (bytes:=24) (.agg (KJ).toArray) [(0,1),(1,1),(2,1)] Tryz.underlying91 ae rfl oC (fun w=> by kernel_rfl)
instance Rr:Bld Tryz.prog 96 Eo (fun i=> ([(0,3),(3,1),(4,1),(5,1),(6,1),(7,5)]:List (Nat×Nat))[i]?):=Bld.struct (bytes:=176) (.agg (Eo).toArray) [(0,3),(3,1),(4,1),(5,1),(6,1),(7,5)] Tryz.underlying96 ae rfl oC (fun w=> by kernel_rfl)
instance Ny:Bld Tryz.prog 103 JH (fun i=> ([(0,3),(3,1),(4,1)]:List (Nat×Nat))[i]?):=Bld.struct (bytes:=72) (.agg (JH).toArray) [(0,3),(3,1),(4,1)] Tryz.underlying103 ae rfl oC (fun w=> by kernel_rfl)
instance OC:Bld Tryz.prog 109 wW (fun i=> ([(0,3),(3,1),(4,1)]:List (Nat×Nat))[i]?):=Bld.struct (bytes:=40) (.agg (wW).toArray) [(0,3),(3,1),(4,1)] Tryz.underlying109 ae rfl oC (fun w=> by kernel_rfl)
instance ML:Bld Tryz.prog 111 FL (fun i=> ([(0,5),(5,1),(6,1)]:List (Nat×Nat))[i]?):=Bld.struct (bytes:=56) (.agg (FL).toArray) [(0,5),(5,1),(6,1)] Tryz.underlying111 ae rfl oC (fun w=> by kernel_rfl)
instance Oy:Bld Tryz.prog 115 wW (fun i=> ([(0,3),(3,1),(4,1)]:List (Nat×Nat))[i]?):=Bld.struct (bytes:=40) (.agg (wW).toArray) [(0,3),(3,1),(4,1)] Tryz.underlying115 ae rfl oC (fun w=> by kernel_rfl)
instance OT:Bld Tryz.prog 117 Gy (fun i=> ([(0,5),(5,1),(6,1),(7,1),(8,1)]:List (Nat×Nat))[i]?):=Bld.struct (bytes:=72) (.agg (Gy).toArray) [(0,5),(5,1),(6,1),(7,1),(8,1)] Tryz.underlying117 ae rfl oC (fun w=> by kernel_rfl)
instance OD:Bld Tryz.prog 126 [.int .i64 0, .int .i64 0] (fun i=> ([(0,1),(1,1)]:List (Nat×Nat))[i]?):=Bld.struct (bytes:=16) (.agg #[.int .i64 0, .int .i64 0]) [(0,1),(1,1)] Tryz.underlying126 ae rfl oC (fun w=> by kernel_rfl)
instance Oe:Bld Tryz.prog 132 El (fun i=> ([(0,1),(1,9)]:List (Nat×Nat))[i]?):=Bld.struct (bytes:=96) (.agg (El).toArray) [(0,1),(1,9)] Tryz.underlying132 ae rfl oC (fun w=> by kernel_rfl)
instance MR:Bld Tryz.prog 171 Jj (fun i=> ([(0,43),(43,10),(53,1),(54,5),(59,1),(60,1),(61,1),(62,1),(63,1)]:List (Nat×Nat))[i]?):=Bld.struct (bytes:=608) (.agg (Jj).toArray) [(0,43),(43,10),(53,1),(54,5),(59,1),(60,1),(61,1),(62,1),(63,1)] Tryz.underlying171 ae rfl oC (fun w=> by kernel_rfl)
instance Ou:Bld Tryz.prog 173 EX (fun i=> some (i*1,1)):=Bld.array (bytes:=192) (.agg (EX).toArray) Tryz.underlying173 ae rfl oC ae
instance ND:Bld Tryz.prog 176 [] (fun i=> ([]:List (Nat×Nat))[i]?):=Bld.struct (bytes:=0) (.agg #[]) [] Tryz.underlying176 ae rfl oC (fun w=> by kernel_rfl)
instance Nj:Bld Tryz.prog 196 DX (fun i=> ([(0,5),(5,1)]:List (Nat×Nat))[i]?):=Bld.struct (bytes:=48) (.agg (DX).toArray) [(0,5),(5,1)] Tryz.underlying196 ae rfl oC (fun w=> by kernel_rfl)
instance OE:Bld Tryz.prog 222 Ji (fun i=> ([(0,1),(1,1),(2,1),(3,1),(4,1)]:List (Nat×Nat))[i]?):=Bld.struct (bytes:=72) (.agg (Ji).toArray) [(0,1),(1,1),(2,1),(3,1),(4,1)] Tryz.underlying222 ae rfl oC (fun w=> by kernel_rfl)
instance OA:Bld Tryz.prog 225 yO (fun i=> ([(0,1),(1,1),(2,1),(3,1)]:List (Nat×Nat))[i]?):=Bld.struct (bytes:=40) (.agg (yO).toArray) [(0,1),(1,1),(2,1),(3,1)] Tryz.underlying225 ae rfl oC (fun w=> by kernel_rfl)
def dL (n m:Int):Int:=(if n < 0 then -(n+1) else n) % m
theorem ji (n m:Int) (h:0 < m):0≤dL n m:=Int.emod_nonneg _ ab
theorem jV (n m:Int) (h:0 < m):dL n m < m:=Int.emod_lt_of_pos _ h
theorem jS (n m:Int) (hm:1≤m) (h1:m≤4611686018427387904) (h2: -9223372036854775808≤n) (h3:n≤9223372036854775807):
  Spec Tryz.prog 33 (ba [.v (.int .i64 n), .v (.int .i64 m)] []) (aP (.v (.int .i64 (dL n m))) []):=by
 refine Spec.ofN Tryz.func33 rfl Tryz.ntmps33 rfl ?_
 refine am (be rfl (aj (aq (am (aX rfl (ai (bm _ _ rfl rfl rfl) (aj (aR rfl (fun hc6=> ?_) (fun hc6=> ?_)))))))))
 ·skip
  refine an (aX rfl (ai (aZ _ _ rfl rfl (bE ab)) ?_))
  refine ai (BK _ rfl (bE ab)) ?_
  refine be rfl (aj (am (aX rfl (aX rfl (ai (dV _ _ rfl rfl ab (Int.tmod_eq_emod_of_nonneg ab)) ?_)))))
  refine be rfl (aj (aG (sc rfl rfl ?_)))
  unfold dL
  rw [if_pos hc6]
 refine aS (am (aX rfl (aX rfl (ai (dV _ _ rfl rfl ab (Int.tmod_eq_emod_of_nonneg ab)) ?_))))
 refine be rfl (aj (aG (sc rfl rfl ?_)))
 unfold dL
 rw [if_neg ab]

theorem sk (n m:Nat) (xs ys:List Int) (hn:xs.length=n) (hm:ys.length=m) (h1:n≤4611686018427387904) (h2:m≤4611686018427387904):
  Spec Tryz.prog 30 (ba [.sl n (cw xs), .sl m (cw ys)] []) (aP (.v (.bool (decide (xs=ys)))) []):=by
 subst hn;subst hm
 refine Spec.ofN Tryz.func30 rfl Tryz.ntmps30 rfl ?_
 refine am (cq rfl (aj (aq (am (eV rfl (ai (bn _ aa rfl) (eV rfl (ai (bn _ aa rfl) (ai (bU _ _ rfl rfl rfl) (aj ?_))))))))))
 refine aR rfl (fun hc10=> ?_) (fun hc10=> ?_)
 ·skip
  refine am (cq rfl (aj (aG (rN rfl rfl ?_))))
  exact decide_eq_false fun h=> by subst h;omega
 refine aS (aU fun K5 hK5=> ?_)
 refine am (be rfl (aj (ay ?_)))
 refine br (α:=Nat) (fun k=> k≤xs.length∧xs.length=ys.length∧xs.take k=ys.take k) 26 [(0,_),(1,_)] [] (fun k=> [(5, .v (.int .i64 (k:Int)))]) (fun k=> []) [] [] (fun k=> xs.length - k) 0 ?_ (by
  refine Le.mkJ [] [] rfl ?_ ?_ trivial trivial ?_
  ·exact ⟨(by exact iS rfl),(by exact iS rfl),(cp ag),trivial⟩
  ·exact trivial
  kernel_rfl) ?_
 ·exact ⟨by omega,by omega,rfl⟩
 intro k hk
 obtain ⟨hk,hl,ht⟩:=hk
 refine aU fun K7 hK7=> ?_
 refine am (aX rfl (eV rfl (ai (bn _ aa rfl) (ai (bm _ _ rfl rfl rfl) (aj (aR rfl (fun hc14=> ?_) (fun hc14=> ?_)))))))
 ·skip
  have hkx:k < xs.length:=by omega
  have hky:k < ys.length:=by omega
  refine bs (hK7 _ ?_)
  clear hK7;try clear K7
  refine aq (ay (aq ?_))
  refine aL (σ':=aD 26 [(0,_),(1,_),(5,_)] [] [] []) (by
   refine Le.mkJ [] [] rfl ?_ ?_ trivial trivial ?_
   ·exact ⟨(by exact iS rfl),(by exact iS rfl),(iV rfl),trivial⟩
   ·exact trivial
   kernel_rfl) ?_
  refine bJ 9 [17,18,19,20,21,22,23,24,25] [] ae ae rfl (aK rfl) (rfl:_=[_,_,_,_,_,_,_,_,_]) (rfl:_=[]) ?_
  refine ap (_,[]) (fun τ=> aI _ nD) ?_
  refine fD rfl ?_
  refine ap (_,[]) (fun τ=> aI _ eh) ?_
  refine fF rfl ?_
  refine ap (_,[]) (fun τ=> bp _ _ aa rfl rfl _ rfl ab (by (simp only [aO,bi,bl];omega)) (by exact Nat.mul_one _)) ?_
  refine fE rfl ?_
  refine ap (_,[]) (fun τ=> bO _ aa rfl (by exact dK _ _ ab) rfl) ?_
  refine fS rfl ?_
  refine ap (_,[]) (fun τ=> aI _ nD) ?_
  refine gf rfl ?_
  refine ap (_,[]) (fun τ=> aI _ eh) ?_
  refine gS rfl ?_
  refine ap (_,[]) (fun τ=> bp _ _ aa rfl rfl _ rfl ab (by (simp only [aO,bi,bl];omega)) (by exact Nat.mul_one _)) ?_
  refine ir rfl ?_
  refine ap (_,[]) (fun τ=> bO _ aa rfl (by exact dK _ _ ab) rfl) ?_
  refine jE rfl ?_
  refine ap (_,[]) (fun τ=> bU _ _ rfl rfl rfl) ?_
  refine jU rfl (bj ⟨rfl,?_⟩)
  refine aj (aR rfl (fun hc25=> ?_) (fun hc25=> ?_))
  ·skip
   refine am (cq rfl (aj (aG (rN rfl rfl ?_))))
   exact decide_eq_false fun h=> by subst h;exact hc25 rfl
  refine cr (an (aX rfl (ai (aZ _ _ rfl rfl (bE ab)) ?_)))
  refine be rfl (aJ (⟨k+1,?_,?_,?_⟩))
  ·refine ⟨by omega,hl,?_⟩
   rw [tb _ _ _ hkx,tb _ _ _ hky] at hc25
   rw [List.take_succ_eq_append_getElem hkx,List.take_succ_eq_append_getElem hky,ht,hc25]
  ·skip
   refine Le.mkJ [] [] rfl ?_ ?_ trivial trivial ?_
   ·exact ⟨(by exact iS rfl),(by exact iS rfl),(cp ag),trivial⟩
   ·exact trivial
   kernel_rfl
  omega
 refine bB (id (hK5 _ ?_))
 clear hK5;try clear K5
 refine am (cq rfl (aj (aG (rN rfl rfl ?_))))
 rw [List.take_of_length_le ab,List.take_of_length_le ab] at ht
 exact decide_eq_true ht

theorem pa (b:UInt8):Spec Tryz.prog 221 (ba [.v (.int .u8 (b.toNat:Int))] []) (aP (.v (.bool (nG b))) []):=by
 have h:=BR b
 refine Spec.ofN Tryz.func221 rfl Tryz.ntmps221 rfl ?_
 refine am (cq rfl (aj (am (aX rfl (ai (fu _ _ rfl rfl rfl) (cN rfl (dj (fun hg5=> ?_) (fun hg5=> ?_))))))))
 ·skip
  have h:nG b=decide ((b.toNat:Int)≤122):=by rw [Bool.eq_iff_iff,h];simp [hg5]
  refine ax rfl rfl (aI _ eh) (ax rfl rfl (vT _ _ rfl rfl rfl) (ai (aE _ _ _ rfl bN) (cq rfl (aj (aG (rN rfl rfl ?_))))))
  exact h
 have h:nG b=false:=GA h (fun x=> by omega)
 refine aM rfl rfl ah ?_
 refine aM rfl rfl ah ?_
 refine ai (aE _ _ _ rfl bN) (cq rfl (aj (aG (rN rfl rfl ?_))))
 exact h
theorem mE (b:UInt8):Spec Tryz.prog 222 (ba [.v (.int .u8 (b.toNat:Int))] []) (aP (.v (.bool (gK b))) []):=by
 have h:=vp b
 refine Spec.ofN Tryz.func222 rfl Tryz.ntmps222 rfl ?_
 refine am (cq rfl (aj (am (aX rfl (ai (fu _ _ rfl rfl rfl) (cN rfl (dj (fun hg5=> ?_) (fun hg5=> ?_))))))))
 ·skip
  have h:gK b=decide ((b.toNat:Int)≤57):=by rw [Bool.eq_iff_iff,h];simp [hg5]
  refine ax rfl rfl (aI _ eh) (ax rfl rfl (vT _ _ rfl rfl rfl) (ai (aE _ _ _ rfl bN) (cq rfl (aj (aG (rN rfl rfl ?_))))))
  exact h
 have h:gK b=false:=GA h (fun x=> by omega)
 refine aM rfl rfl ah ?_
 refine aM rfl rfl ah ?_
 refine ai (aE _ _ _ rfl bN) (cq rfl (aj (aG (rN rfl rfl ?_))))
 exact h
theorem qo (l:List Tx) (n:Nat) (hn:l.length=n) (h1:n≤1000) (t:Tx):Spec Tryz.prog 224 (ba [.sl n (fm l), .v (bt t)] []) (aP (.v (.bool (decide (t∈l)))) []):=by
 refine Spec.ofN Tryz.func224 rfl Tryz.ntmps224 rfl ?_
 refine am (cq rfl (aj (aU fun K2 hK2=> ?_)))
 refine am (be rfl (aj (ay ?_)))
 refine br (α:=Nat) (fun k=> k≤n∧t∉l.take k) 18 [(0,_),(1,_)] [] (fun k=> [(5, .v (.int .i64 (k:Int)))]) (fun k=> []) [] [] (fun k=> n - k) 0 ?_ (by
  refine Le.mkJ [] [] rfl ?_ ?_ trivial trivial ?_
  ·exact ⟨(iS rfl),(iV rfl),(cp ag),trivial⟩
  ·exact trivial
  kernel_rfl) ?_
 ·exact ⟨Nat.zero_le _,by simp⟩
 intro k hk
 obtain ⟨hk,hnt⟩:=hk
 refine aU fun K4 hK4=> ?_
 refine am (aX rfl (eV rfl (ai (bn _ aa rfl) (ai (bm _ _ rfl rfl rfl) (aj (aR rfl (fun hc9=> ?_) (fun hc9=> ?_)))))))
 ·skip
  refine bs (hK4 _ ?_)
  clear hK4;try clear K4
  refine aq (ay (am (eV rfl (aX rfl (ai (bp _ _ aa rfl rfl _ rfl ab (by (simp only [aO,bi,bl,bw];omega)) (by exact Nat.mul_one _)) ?_)))))
  refine ai (bO _ aa rfl (by exact jI _ _ ab) rfl) ?_
  refine ei rfl (ai (aV _ _ Tryz.underlying9 rfl rfl rfl) (aj (aR rfl (fun hc17=> ?_) (fun hc17=> ?_))))
  ·skip
   refine am (cq rfl (aj (aG (rN rfl rfl ?_))))
   exact decide_eq_true (hc17 ▸ jY ab)
  refine cr (an (aX rfl (ai (aZ _ _ rfl rfl (bE ab)) ?_)))
  refine be rfl (aJ (⟨k+1,?_,?_,?_⟩))
  ·exact ⟨by omega,kF hnt ab hc17⟩
  ·skip
   refine Le.mkJ [] [] rfl ?_ ?_ trivial trivial ?_
   ·exact ⟨(iS rfl),(iV rfl),(cp ag),trivial⟩
   ·exact trivial
   kernel_rfl
  omega
 have hall:t∉l:=by rwa [List.take_of_length_le ab] at hnt
 refine bB (id (hK2 _ ?_))
 clear hK2;try clear K2
 refine am (cq rfl (aj (aG (rN rfl rfl ?_))))
 exact decide_eq_false hall
theorem rM (s:Tx) (at_:Nat) (h1:s.length≤100000) (ha:at_≤s.length):Spec Tryz.prog 194 (ba [.v (bt s), .v (.int .i64 (at_:Int))] []) (aP (.v (.int .i64 (lc s at_ false:Int))) []):=by
 refine Spec.ofN Tryz.func194 rfl Tryz.ntmps194 rfl ?_
 refine am (be rfl (aj (aU fun K2 hK2=> ?_)))
 refine ay ?_
 refine br (α:=Nat) (fun k=> k≤s.length∧lc s k false=lc s at_ false) 41 [(0,_)] [] (fun k=> [(1, .v (.int .i64 (k:Int)))]) (fun k=> []) [] [] (fun k=> s.length - k) at_ ?_ (by
  refine Le.mkJ [] [] rfl ?_ ?_ trivial trivial ?_
  ·exact ⟨(iV rfl),(cp ag),trivial⟩
  ·exact trivial
  kernel_rfl) ?_
 ·exact ⟨ha,rfl⟩
 intro k hk
 obtain ⟨hk,hs⟩:=hk
 refine aU fun K3 hK3=> ?_
 refine am (aX rfl (ei rfl (ai (ij _ Tryz.underlying9 rfl) (ai (bm _ _ rfl rfl rfl) (aj (aR rfl (fun hc9=> ?_) (fun hc9=> ?_)))))))
 ·skip
  obtain ⟨b,hb⟩:=kP (s:=s) (a:=k) ab
  have hbi:=Lz b
  refine bs (hK3 _ ?_)
  clear hK3;try clear K3
  refine ay (am (ei rfl (aX rfl (ai (lM _ _ Tryz.underlying9 rfl rfl (by assumption)) ?_))))
  refine be rfl (aj (am (aX rfl (ai (bC _ _ rfl rfl rfl) (aj (aR rfl (fun hc14=> ?_) (fun hc14=> ?_)))))))
  ·skip
   have hs:=(zX hb ab).symm.trans hs
   refine ay ?_
   refine br (α:=Nat) (fun j=> k≤j∧j≤s.length∧lc s j true=lc s at_ false∧(j=k→j < s.length)) 41 [(0,_)] [] (fun j=> [(1, .v (.int .i64 (j:Int)))]) (fun j=> []) [] [] (fun j=> s.length - j) k ?_ (by
    refine Le.mkJ [] [] rfl ?_ ?_ trivial trivial ?_
    ·exact ⟨(iV rfl),(cp ag),trivial⟩
    ·exact trivial
    kernel_rfl) ?_
   ·exact ⟨Nat.le_refl _,by omega,hs,fun _=> by omega⟩
   intro j hj
   obtain ⟨hj1,hj2,hsj,hjk⟩:=hj
   refine aU fun K7 hK7=> ?_
   refine aU fun K8 hK8=> ?_
   refine an (aX rfl (ei rfl (ai (ij _ Tryz.underlying9 rfl) (ai (bm _ _ rfl rfl rfl) (cN rfl (dj (fun hg19=> ?_) (fun hg19=> ?_)))))))
   ·skip
    obtain ⟨u,hu⟩:=kP (s:=s) (a:=j) ab
    have hui:=Lz u
    refine ax rfl rfl (aI _ xB) (ax rfl rfl (aI _ eh) (ax rfl rfl (lM _ _ Tryz.underlying9 rfl rfl (by assumption)) ?_))
    refine ax rfl rfl (bU _ _ rfl rfl rfl) (ai (aE _ _ _ rfl bN) (aJ (hK8 _ ?_)))
    clear hK8;try clear K8
    refine aR rfl (fun hc24=> ?_) (fun hc24=> ?_)
    ·skip
     refine bs (hK7 _ ?_)
     clear hK7;try clear K7
     refine ay (an (aX rfl (ai (aZ _ _ rfl rfl (bE ab)) ?_)))
     refine be rfl (aJ (⟨j+1,?_,?_,?_⟩))
     ·exact ⟨by omega,by omega,(IF hu ab).symm.trans hsj,fun _=> by omega⟩
     ·skip
      refine Le.mkJ [] [] rfl ?_ ?_ trivial trivial ?_
      ·exact ⟨(iV rfl),(cp ag),trivial⟩
      ·exact trivial
      kernel_rfl
     omega
    have hjs:lc s j false=lc s at_ false:=by rw [← hsj,HD hu ab]
    have hjk':k < j:=Nat.lt_of_le_of_ne hj1 fun e=> by subst e;rw [hb] at hu;obtain rfl:=Option.some.inj hu;omega
    refine bB (id (⟨j,?_,?_,?_⟩))
    ·exact ⟨hj2,hjs⟩
    ·skip
     refine Le.mkJ [] [] rfl ?_ ?_ trivial trivial ?_
     ·exact ⟨(iV rfl),(cp ag),trivial⟩
     ·exact trivial
     kernel_rfl
    omega
   have hjs:lc s j false=lc s at_ false:=by rw [← hsj,tR ab,tR ab]
   have hjk':k < j:=Nat.lt_of_le_of_ne hj1 fun e=> by have:=hjk e.symm;omega
   refine aM rfl rfl ah ?_
   refine aM rfl rfl ah ?_
   refine aM rfl rfl ah ?_
   refine aM rfl rfl ah ?_
   refine ai (aE _ _ _ rfl bN) (aJ (hK8 _ ?_))
   clear hK8;try clear K8
   refine aW rfl rfl (bB (id (⟨j,?_,?_,?_⟩)))
   ·exact ⟨hj2,hjs⟩
   ·skip
    refine Le.mkJ [] [] rfl ?_ ?_ trivial trivial ?_
    ·exact ⟨(iV rfl),(cp ag),trivial⟩
    ·exact trivial
    kernel_rfl
   omega
  refine am (aX rfl (ai (bC _ _ rfl rfl rfl) (cN rfl (dj (fun hg29=> ?_) (fun hg29=> ?_)))))
  ·skip
   have hs2:lc s (k+1) false=lc s at_ false:=(wx hb ab ab).symm.trans hs
   refine aM rfl rfl ah ?_
   refine aM rfl rfl ah ?_
   refine ai (aE _ _ _ rfl bN) (cN rfl (aM rfl rfl ah ?_))
   refine aM rfl rfl ah ?_
   refine ai (aE _ _ _ rfl bN) (aj (bL rfl rfl ?_))
   refine aL (σ':=aD 41 [(0,_),(1,_)] [] [] []) kp ?_
   refine an (aX rfl (ai (aZ _ _ rfl rfl (bE ab)) ?_))
   refine be rfl (aJ (⟨k+1,?_,?_,?_⟩))
   ·exact ⟨by omega,hs2⟩
   ·skip
    refine Le.mkJ [] [] rfl ?_ ?_ trivial trivial ?_
    ·exact ⟨(iV rfl),(cp ag),trivial⟩
    ·exact trivial
    kernel_rfl
   omega
  refine ax rfl rfl (aI _ eh) (ax rfl rfl (bC _ _ rfl rfl rfl) (ai (aE _ _ _ rfl bN) (cN rfl (dj (fun hg33=> ?_) (fun hg33=> ?_)))))
  ·skip
   have hs2:lc s (k+1) false=lc s at_ false:=(wx hb ab ab).symm.trans hs
   refine aM rfl rfl ah ?_
   refine aM rfl rfl ah ?_
   refine ai (aE _ _ _ rfl bN) (aj (bL rfl rfl ?_))
   refine aL (σ':=aD 41 [(0,_),(1,_)] [] [] []) kp ?_
   refine an (aX rfl (ai (aZ _ _ rfl rfl (bE ab)) ?_))
   refine be rfl (aJ (⟨k+1,?_,?_,?_⟩))
   ·exact ⟨by omega,hs2⟩
   ·skip
    refine Le.mkJ [] [] rfl ?_ ?_ trivial trivial ?_
    ·exact ⟨(iV rfl),(cp ag),trivial⟩
    ·exact trivial
    kernel_rfl
   omega
  refine ax rfl rfl (aI _ eh) (ax rfl rfl (bC _ _ rfl rfl rfl) (ai (aE _ _ _ rfl bN) (aj (aR rfl (fun hc36=> ?_) (fun hc36=> ?_)))))
  ·skip
   have hs2:lc s (k+1) false=lc s at_ false:=(wx hb ab ab).symm.trans hs
   refine aL (σ':=aD 41 [(0,_),(1,_)] [] [] []) kp ?_
   refine an (aX rfl (ai (aZ _ _ rfl rfl (bE ab)) ?_))
   refine be rfl (aJ (⟨k+1,?_,?_,?_⟩))
   ·exact ⟨by omega,hs2⟩
   ·skip
    refine Le.mkJ [] [] rfl ?_ ?_ trivial trivial ?_
    ·exact ⟨(iV rfl),(cp ag),trivial⟩
    ·exact trivial
    kernel_rfl
   omega
  have hs3:=(FW hb ab ab).symm.trans hs
  refine aq ?_
  refine aL (σ':=aD 41 [(1,_)] [] [] []) kp ?_
  refine an (aX rfl (be rfl (aj (aG (sc rfl rfl ?_)))))
  rw [hs3]
 refine bB (id (hK2 _ ?_))
 clear hK2;try clear K2
 refine am (aX rfl (be rfl (aj (aG (sc rfl rfl ?_)))))
 rw [← hs,tR ab]
theorem qF (s:Tx) (h1:s.length≤100000) (hd: ∀ b∈s,gK b=true) (hv:lj s≤2147483647):Spec Tryz.prog 223 (ba [.v (bt s)] []) (aP (.v (.int .i64 (lj s:Int))) []):=by
 have hvt:=fun i=> yp s i
 refine Spec.ofN Tryz.func223 rfl Tryz.ntmps223 rfl ?_
 refine am (be rfl (aj (am (be rfl (aj (aU fun K3 hK3=> ?_))))))
 refine am (be rfl (aj (ay ?_)))
 refine br (α:=Nat) (fun k=> k≤s.length) 22 [(0,_)] [] (fun k=> [(3, .v (.int .i64 (lj (s.take k):Int))),(4, .v (.int .i64 (k:Int)))]) (fun k=> []) [] [] (fun k=> s.length - k) 0 ?_ (by
  refine Le.mkJ [] [] rfl ?_ ?_ trivial trivial ?_
  ·exact ⟨(iV rfl),(cp ag),(cp ag),trivial⟩
  ·exact trivial
  kernel_rfl) ?_
 ·omega
 intro k hk
 refine aU fun K5 hK5=> ?_
 refine am (aX rfl (ei rfl (ai (ij _ Tryz.underlying9 rfl) (ai (bm _ _ rfl rfl rfl) (aj (aR rfl (fun hc8=> ?_) (fun hc8=> ?_)))))))
 ·skip
  obtain ⟨b,hb⟩:=kP (s:=s) (a:=k) ab
  have hbi:=Lz b
  have hbd:=(vp b).1 (hd b (List.mem_of_getElem? hb))
  have hvs:=zE hb
  have hv0:=hvt k
  have hv1:=hvt (k+1)
  have hvi:(10:Int)*(lj (s.take k):Int)+(b.toNat:Int) - 48=(lj (s.take (k+1)):Int):=by omega
  refine bs (hK5 _ ?_)
  clear hK5;try clear K5
  refine aq (ay (am (aX rfl (ai (CJ _ _ rfl rfl (bE ab)) ?_))))
  refine ei rfl (aX rfl (ai (lM _ _ Tryz.underlying9 rfl rfl (by assumption)) ?_))
  refine ai (sJ _ Tryz.underlying5 Tryz.underlying3 rfl (bE ab)) ?_
  refine ai (aZ _ _ rfl rfl (bE ab)) ?_
  refine ai (kU _ _ rfl rfl (bE ab)) ?_
  refine be rfl (aj (am (aX rfl (ai (gy _ _ rfl rfl rfl) (aj (aW rfl (decide_eq_false ab) ?_))))))
  refine cr ?_
  refine aL (σ':=aD 22 [(0,_),(3,_),(4,_)] [] [] []) kp ?_
  refine an (aX rfl (ai (aZ _ _ rfl rfl (bE ab)) ?_))
  refine be rfl (aJ (⟨k+1,?_,?_,?_⟩))
  ·omega
  ·skip
   refine Le.mkJ [] [] rfl ?_ ?_ trivial trivial ?_
   ·exact ⟨(iV rfl),(cp ab),(cp ag),trivial⟩
   ·exact trivial
   kernel_rfl
  omega
 have he:s.take k=s:=List.take_of_length_le ab
 refine bB (id (hK3 _ ?_))
 clear hK3;try clear K3
 refine am (aX rfl (be rfl (aj (aG (sc rfl rfl ?_)))))
 rw [he]

theorem Ah {p:UInt8→Bool} {c:UInt8}: ∀ {l:List UInt8},c∈l.takeWhile p→p c=true
 | [],h=> by simp at h
 | x::l,h=> by
  rw [List.takeWhile_cons] at h
  split at h
  ·rename_i hx
   rcases List.mem_cons.1 h with rfl | h
   ·exact hx
   exact Ah h
  simp at h
def vh (c:UInt8):Bool:=nG c || gK c
theorem sd {s:Tx} {a:Nat} {b:UInt8} {t:Tk} (hb:s[a]? =some b) (h1:nG b=true) (h:rx (s.drop a) a=some t):lI vh s (a+1) - a≤10∧t=⟨1,a,(s.drop a).take (lI vh s (a+1) - a),0⟩:=by
 rw [ul hb]
 rw [gn hb,rx] at h
 simp only [h1,if_true] at h
 rw [show lI vh s (a+1) - a=(b::(s.drop (a+1)).takeWhile fun x=> nG x || gK x).length by unfold lI vh;rw [List.length_cons];omega]
 split at h
 ·cases h
 rename_i hl;exact ⟨by omega,(Option.some.inj h).symm⟩
theorem uo {s:Tx} {a:Nat} {b:UInt8} {t:Tk} (hb:s[a]? =some b) (h1:nG b=false) (h2:gK b=true) (h:rx (s.drop a) a=some t):
  (∀ c∈(s.drop a).take (lI gK s (a+1) - a),gK c=true)∧lj ((s.drop a).take (lI gK s (a+1) - a))≤2147483647∧t=⟨2,a,(s.drop a).take (lI gK s (a+1) - a),lj ((s.drop a).take (lI gK s (a+1) - a))⟩:=by
 rw [ul hb]
 rw [gn hb,rx] at h
 simp only [h1,h2,if_true] at h
 simp only [Bool.false_eq_true,if_false] at h
 split at h
 ·cases h
 rename_i hl
 refine ⟨fun c hc=> ?_,by omega,(Option.some.inj h).symm⟩
 rcases List.mem_cons.1 hc with rfl | hc
 ·exact h2
 exact Ah hc
theorem uR {s:Tx} {a:Nat} {b:UInt8} {t:Tk} (hb:s[a]? =some b) (h1:nG b=false) (h2:gK b=false) (h:rx (s.drop a) a=some t):
  ((s.drop a).take 2∈FA∧t=⟨3,a,(s.drop a).take 2,0⟩)∨((s.drop a).take 2∉FA∧(s.drop a).take 1∈IA∧t=⟨3,a,(s.drop a).take 1,0⟩):=by
 rw [gn hb,rx] at h
 simp only [h1,h2,Bool.false_eq_true,if_false] at h
 rw [gn hb]
 split at h
 ·rename_i hm;exact .inl ⟨hm,(Option.some.inj h).symm⟩
 rename_i hm
 split at h
 ·rename_i hs;exact .inr ⟨hm,hs,(Option.some.inj h).symm⟩
 cases h
theorem zD {s:Tx} {a:Nat} (h:a < s.length):(s.drop a).take (min (a+2) s.length - a)=(s.drop a).take 2:=by
 by_cases h2:a+2≤s.length
 ·congr 1;omega
 rw [List.take_of_length_le (by rw [List.length_drop];omega),List.take_of_length_le (by rw [List.length_drop];omega)]
theorem vY (s:Tx) (a:Nat) (h1:s.length≤100000) (ha:a < s.length) (t:Tk) (ht:rx (s.drop a) a=some t):
  Spec Tryz.prog 195 (ba [.v (bt s), .v (.int .i64 (a:Int))] []) (aP (.tup [.agg [.v (.int .i64 (t.k:Int)), .v (.int .i64 (t.a:Int)), .v (bt t.t), .v (.int .i64 (t.n:Int))], .v (.int .i64 0)]) []):=by
 obtain ⟨b,hb⟩:=kP ha
 have hwl:=tC (p:=vh) (s:=s) (a:=a+1) ab
 have hdl:=tC (p:=gK) (s:=s) (a:=a+1) ab
 refine Spec.ofN Tryz.func195 rfl Tryz.ntmps195 rfl ?_
 refine am (ai (aB (4,0) aa rfl rfl) (be rfl (aj (am (aX rfl (ai (aZ _ _ rfl rfl (bE ab)) ?_))))))
 refine be rfl (aj (aq (am (ei rfl (aX rfl (ai (lM _ _ Tryz.underlying9 rfl rfl (by assumption)) ?_))))))
 refine ai (aH aa al (pa b) rfl rfl) ?_
 refine aj (aR rfl (fun hc15=> ?_) (fun hc15=> ?_))
 ·skip
  obtain ⟨htl,hte⟩:=sd hb hc15 ht
  refine aU fun K5 hK5=> ?_
  refine ay ?_
  refine br (α:=Nat) (fun e=> a+1≤e∧e≤s.length∧lI vh s e=lI vh s (a+1)) 101 [(0,_),(1,_),(4,_)] [((4,0),_)] (fun e=> [(6, .v (.int .i64 (e:Int)))]) (fun e=> []) [] [] (fun e=> s.length - e) (a+1) ?_ (by
   refine Le.mkJ [] [] rfl ?_ ?_ trivial trivial ?_
   ·exact ⟨(iV rfl),(iV rfl),(iP rfl),(cp ag),trivial⟩
   ·exact ⟨(bM rfl rfl rfl),trivial⟩
   kernel_rfl) ?_
  ·exact ⟨Nat.le_refl _,by omega,rfl⟩
  intro e he
  obtain ⟨he1,he2,het⟩:=he
  refine aU fun K6 hK6=> ?_
  refine aU fun K7 hK7=> ?_
  refine an (aX rfl (ei rfl (ai (ij _ Tryz.underlying9 rfl) (ai (bm _ _ rfl rfl rfl) (cN rfl (dj (fun hg20=> ?_) (fun hg20=> ?_)))))))
  ·skip
   obtain ⟨u,hu⟩:=kP (s:=s) (a:=e) ab
   refine ax rfl rfl (aI _ xB) (ax rfl rfl (aI _ eh) (ax rfl rfl (lM _ _ Tryz.underlying9 rfl rfl (by assumption)) ?_))
   refine ax rfl rfl (aH aa al (pa u) rfl rfl) ?_
   refine ax rfl rfl (aI _ bN) (dj (fun hg25=> ?_) (fun hg25=> ?_))
   ·skip
    have hnx:lI vh s (e+1)=lI vh s (a+1):=(sY hu (by unfold vh;rw [hg25];rfl)).symm.trans het
    refine aM rfl rfl ah ?_
    refine aM rfl rfl ah ?_
    refine aM rfl rfl ah ?_
    refine aM rfl rfl ah ?_
    refine ax rfl rfl (aE _ _ _ rfl bN) (ai (aE _ _ _ rfl bN) (aJ (hK7 _ ?_)))
    clear hK7;try clear K7
    refine bL rfl rfl (bs (hK6 _ ?_))
    clear hK6;try clear K6
    refine ay ?_
    refine aL (σ':=aD 101 [(0,_),(1,_),(4,_),(6,_)] [((4,0),_)] [] []) kp ?_
    refine an (aX rfl (ai (aZ _ _ rfl rfl (bE ab)) ?_))
    refine be rfl (aJ (⟨e+1,?_,?_,?_⟩))
    ·exact ⟨by omega,by omega,hnx⟩
    ·skip
     refine Le.mkJ [] [] rfl ?_ ?_ trivial trivial ?_
     ·exact ⟨(iV rfl),(iV rfl),(iP rfl),(cp ag),trivial⟩
     ·exact ⟨(bM rfl rfl rfl),trivial⟩
     kernel_rfl
    omega
   refine ax rfl rfl (aI _ xB) (ax rfl rfl (aI _ eh) (ax rfl rfl (lM _ _ Tryz.underlying9 rfl rfl (by assumption)) ?_))
   refine ax rfl rfl (aH aa al (mE u) rfl rfl) ?_
   refine ax rfl rfl (aE _ _ _ rfl bN) (ai (aE _ _ _ rfl bN) (aJ (hK7 _ ?_)))
   clear hK7;try clear K7
   refine aR rfl (fun hc31=> ?_) (fun hc31=> ?_)
   ·skip
    have hnx:lI vh s (e+1)=lI vh s (a+1):=(sY hu (by unfold vh;rw [hg25,hc31];rfl)).symm.trans het
    refine bs (hK6 _ ?_)
    clear hK6;try clear K6
    refine ay ?_
    refine aL (σ':=aD 101 [(0,_),(1,_),(4,_),(6,_)] [((4,0),_)] [] []) kp ?_
    refine an (aX rfl (ai (aZ _ _ rfl rfl (bE ab)) ?_))
    refine be rfl (aJ (⟨e+1,?_,?_,?_⟩))
    ·exact ⟨by omega,by omega,hnx⟩
    ·skip
     refine Le.mkJ [] [] rfl ?_ ?_ trivial trivial ?_
     ·exact ⟨(iV rfl),(iV rfl),(iP rfl),(cp ag),trivial⟩
     ·exact ⟨(bM rfl rfl rfl),trivial⟩
     kernel_rfl
    omega
   have hfin:e=lI vh s (a+1):=(Cu hu (by unfold vh;rw [hg25,hc31];rfl)).symm.trans het
   refine bB (id (hK5 _ ?_))
   clear hK5;try clear K5
   refine aq (aq ?_)
   refine aL (σ':=aD 101 [(0,_),(1,_),(4,_),(6,_)] [((4,0),_)] [] []) kp ?_
   refine an (aX rfl (aX rfl (ai (kU _ _ rfl rfl (bE ab)) ?_)))
   refine ai (gy _ _ rfl rfl rfl) (aj (aW rfl (decide_eq_false ab) ?_))
   refine aS (am (aX rfl (ei rfl (aX rfl (aX rfl (ai (lL _ _ _ Tryz.underlying9 rfl _ _ (.lit rfl rfl) (.lit rfl rfl) ab ab rfl) ?_))))))
   refine ai (aN _ aa rfl (by exact kI)) ?_
   refine bG rfl rfl rfl rfl rfl rfl (be rfl (aj (aG ?_)))
   subst hte;subst hfin
   exact jT (.inr rfl) rfl (.cellA aa rfl rfl rfl) (.tmp kL) (Le.out [] [] (.tup rfl lz) rfl rfl rfl trivial trivial)
  have hfin:e=lI vh s (a+1):=(xv ab).symm.trans het
  refine aM rfl rfl ah ?_
  refine aM rfl rfl ah ?_
  refine aM rfl rfl ah ?_
  refine aM rfl rfl ah ?_
  refine aM rfl rfl ah ?_
  refine eK rfl rfl (eK rfl rfl (eK rfl rfl (eK rfl rfl (aM rfl rfl ah ?_))))
  refine ai (aE _ _ _ rfl bN) (aJ (hK7 _ ?_))
  clear hK7;try clear K7
  refine aW rfl rfl (bB (id (hK5 _ ?_)))
  clear hK5;try clear K5
  refine aq (aq ?_)
  refine aL (σ':=aD 101 [(0,_),(1,_),(4,_),(6,_)] [((4,0),_)] [] []) kp ?_
  refine an (aX rfl (aX rfl (ai (kU _ _ rfl rfl (bE ab)) ?_)))
  refine ai (gy _ _ rfl rfl rfl) (aj (aW rfl (decide_eq_false ab) ?_))
  refine aS (am (aX rfl (ei rfl (aX rfl (aX rfl (ai (lL _ _ _ Tryz.underlying9 rfl _ _ (.lit rfl rfl) (.lit rfl rfl) ab ab rfl) ?_))))))
  refine ai (aN _ aa rfl (by exact kI)) ?_
  refine bG rfl rfl rfl rfl rfl rfl (be rfl (aj (aG ?_)))
  subst hte;subst hfin
  exact jT (.inr rfl) rfl (.cellA aa rfl rfl rfl) (.tmp kL) (Le.out [] [] (.tup rfl lz) rfl rfl rfl trivial trivial)
 have hlb:=hc15
 refine aS (aq (am (ei rfl (aX rfl (ai (lM _ _ Tryz.underlying9 rfl rfl (by assumption)) ?_)))))
 refine ai (aH aa al (mE b) rfl rfl) ?_
 refine aj (aR rfl (fun hc48=> ?_) (fun hc48=> ?_))
 ·skip
  obtain ⟨htd,htv,hte⟩:=uo hb hlb hc48 ht
  refine aU fun K16 hK16=> ?_
  refine ay ?_
  refine br (α:=Nat) (fun e=> a+1≤e∧e≤s.length∧lI gK s e=lI gK s (a+1)) 101 [(0,_),(1,_),(4,_)] [((4,0),_)] (fun e=> [(6, .v (.int .i64 (e:Int)))]) (fun e=> []) [] [] (fun e=> s.length - e) (a+1) ?_ (by
   refine Le.mkJ [] [] rfl ?_ ?_ trivial trivial ?_
   ·exact ⟨(iV rfl),(iV rfl),(iP rfl),(cp ag),trivial⟩
   ·exact ⟨(bM rfl rfl rfl),trivial⟩
   kernel_rfl) ?_
  ·exact ⟨Nat.le_refl _,by omega,rfl⟩
  intro e he
  obtain ⟨he1,he2,het⟩:=he
  refine aU fun K17 hK17=> ?_
  refine aU fun K18 hK18=> ?_
  refine an (aX rfl (ei rfl (ai (ij _ Tryz.underlying9 rfl) (ai (bm _ _ rfl rfl rfl) (cN rfl (dj (fun hg53=> ?_) (fun hg53=> ?_)))))))
  ·skip
   obtain ⟨u,hu⟩:=kP (s:=s) (a:=e) ab
   refine ax rfl rfl (aI _ xB) (ax rfl rfl (aI _ eh) (ax rfl rfl (lM _ _ Tryz.underlying9 rfl rfl (by assumption)) ?_))
   refine ax rfl rfl (aH aa al (mE u) rfl rfl) ?_
   refine ai (aE _ _ _ rfl bN) (aJ (hK18 _ ?_))
   clear hK18;try clear K18
   refine aR rfl (fun hc58=> ?_) (fun hc58=> ?_)
   ·skip
    have hnx:lI gK s (e+1)=lI gK s (a+1):=(sY hu hc58).symm.trans het
    refine bs (hK17 _ ?_)
    clear hK17;try clear K17
    refine ay (an (aX rfl (ai (aZ _ _ rfl rfl (bE ab)) ?_)))
    refine be rfl (aJ (⟨e+1,?_,?_,?_⟩))
    ·exact ⟨by omega,by omega,hnx⟩
    ·skip
     refine Le.mkJ [] [] rfl ?_ ?_ trivial trivial ?_
     ·exact ⟨(iV rfl),(iV rfl),(iP rfl),(cp ag),trivial⟩
     ·exact ⟨(bM rfl rfl rfl),trivial⟩
     kernel_rfl
    omega
   have hfin:e=lI gK s (a+1):=(Cu hu hc58).symm.trans het
   refine bB (id (hK16 _ ?_))
   clear hK16;try clear K16
   refine am (ei rfl (aX rfl (aX rfl (ai (lL _ _ _ Tryz.underlying9 rfl _ _ (.lit rfl rfl) (.lit rfl rfl) ab ab rfl) ?_))))
   refine ai (aH aa al (qF ((s.drop a).take (e - a)) (by simp;omega) (by rw [hfin];exact htd) (by rw [hfin];exact htv)) rfl rfl) ?_
   refine be rfl (aj (aq (aq ?_)))
   refine aL (σ':=aD 101 [(0,_),(1,_),(4,_),(6,_),(7,_)] [((4,0),_)] [] []) kp ?_
   refine an (aX rfl (ai (bm _ _ rfl rfl rfl) (aj (aW rfl (decide_eq_false ab) ?_))))
   refine aS (am (aX rfl (ei rfl (aX rfl (aX rfl (ai (lL _ _ _ Tryz.underlying9 rfl _ _ (.lit rfl rfl) (.lit rfl rfl) ab ab rfl) ?_))))))
   refine aX rfl (ai (aN _ aa rfl (by exact kI)) ?_)
   refine bG rfl rfl rfl rfl rfl rfl (be rfl (aj (aG ?_)))
   subst hte;subst hfin
   exact jT (.inr rfl) rfl (.cellA aa rfl rfl rfl) (.tmp kL) (Le.out [] [] (.tup rfl lz) rfl rfl rfl trivial trivial)
  have hfin:e=lI gK s (a+1):=(xv ab).symm.trans het
  refine aM rfl rfl ah ?_
  refine aM rfl rfl ah ?_
  refine aM rfl rfl ah ?_
  refine aM rfl rfl ah ?_
  refine ai (aE _ _ _ rfl bN) (aJ (hK18 _ ?_))
  clear hK18;try clear K18
  refine aW rfl rfl (bB (id (hK16 _ ?_)))
  clear hK16;try clear K16
  refine am (ei rfl (aX rfl (aX rfl (ai (lL _ _ _ Tryz.underlying9 rfl _ _ (.lit rfl rfl) (.lit rfl rfl) ab ab rfl) ?_))))
  refine ai (aH aa al (qF ((s.drop a).take (e - a)) (by simp;omega) (by rw [hfin];exact htd) (by rw [hfin];exact htv)) rfl rfl) ?_
  refine be rfl (aj (aq (aq ?_)))
  refine aL (σ':=aD 101 [(0,_),(1,_),(4,_),(6,_),(7,_)] [((4,0),_)] [] []) kp ?_
  refine an (aX rfl (ai (bm _ _ rfl rfl rfl) (aj (aW rfl (decide_eq_false ab) ?_))))
  refine aS (am (aX rfl (ei rfl (aX rfl (aX rfl (ai (lL _ _ _ Tryz.underlying9 rfl _ _ (.lit rfl rfl) (.lit rfl rfl) ab ab rfl) ?_))))))
  refine aX rfl (ai (aN _ aa rfl (by exact kI)) ?_)
  refine bG rfl rfl rfl rfl rfl rfl (be rfl (aj (aG ?_)))
  subst hte;subst hfin
  exact jT (.inr rfl) rfl (.cellA aa rfl rfl rfl) (.tmp kL) (Le.out [] [] (.tup rfl lz) rfl rfl rfl trivial trivial)
 have hsy:=uR hb hlb hc48 ht
 refine aS (am (ei rfl (aX rfl (aX rfl (ai (aZ _ _ rfl rfl (bE ab)) ?_)))))
 refine ei rfl (ai (ij _ Tryz.underlying9 rfl) (ai (vV _ _ rfl rfl rfl) (ai (lL _ _ _ Tryz.underlying9 rfl a (min (a+2) s.length) (.lit rfl rfl) (.lit rfl ab) ab ab (zD ha)) ?_)))
 refine oV rfl (aj (aq (aq ?_)))
 refine aL (σ':=aD 101 [(0,_),(1,_),(4,_),(6,_),(8,_)] [((4,0),_)] [] []) kp ?_
 refine an (ai (bg _ _ aa rfl ag (by (simp <;> rfl)) ah rfl) ?_)
 refine ei rfl (ai (aH aa al (qo FA 6 rfl ab ((s.drop a).take 2)) rfl rfl) ?_)
 refine aj (aR rfl (fun hc86=> ?_) (fun hc86=> ?_))
 ·skip
  have hte:t=⟨3,a,(s.drop a).take 2,0⟩:=hsy.elim (·.2) fun h=> absurd hc86 h.1
  refine am (aX rfl (ei rfl (ai (aN _ aa rfl (by exact kI)) ?_)))
  refine bG rfl rfl rfl rfl rfl rfl (be rfl (aj (aG ?_)))
  subst hte
  exact jT (.inr rfl) rfl (.cellA aa rfl rfl rfl) (.tmp kL) (Le.out [] [] (.tup rfl lz) rfl rfl rfl trivial trivial)
 obtain ⟨_,hs1,hte⟩:=hsy.resolve_left fun h=> hc86 h.1
 refine aS (am (ei rfl (aX rfl (aX rfl (ai (lL _ _ _ Tryz.underlying9 rfl a (a+1) (.lit rfl rfl) (.lit rfl rfl) ab ab (by rw [Nat.add_sub_cancel_left])) ?_)))))
 refine oV rfl (aj (aq (am (ai (bg _ _ aa rfl ag (by (simp <;> rfl)) ah rfl) ?_))))
 refine ei rfl (ai (aH aa al (qo IA 16 rfl ab ((s.drop a).take 1)) rfl rfl) ?_)
 refine aj (bL rfl (decide_eq_true hs1) ?_)
 refine am (aX rfl (ei rfl (ai (aN _ aa rfl (by exact kI)) ?_)))
 refine bG rfl rfl rfl rfl rfl rfl (be rfl (aj (aG ?_)))
 subst hte
 exact jT (.inr rfl) rfl (.cellA aa rfl rfl rfl) (.tmp kL) (Le.out [] [] (.tup rfl lz) rfl rfl rfl trivial trivial)
theorem mV {f:Nat} {s:Tx} {a:Nat} {l:List Tk} (h:nh (f+1) s a=some l):(s.length≤a∧l=[⟨0,s.length,[],0⟩])∨(a < s.length∧ ∃ t m,rx (s.drop a) a=some t∧nh f s (lc s (a+t.t.length) false)=some m∧l=t::m):=by
 unfold nh at h
 split at h
 ·exact .inl ⟨by assumption,(Option.some.inj h).symm⟩
 split at h
 ·cases h
 split at h
 ·cases h
 rename_i t ht _ m hm
 exact .inr ⟨by omega,t,m,ht,hm,(Option.some.inj h).symm⟩
theorem ub {s:Tx} {a:Nat} {t:Tk} (ha:a < s.length) (h:rx (s.drop a) a=some t):0 < t.t.length∧a+t.t.length≤s.length:=by
 obtain ⟨b,hb⟩:=kP ha
 have key: ∀ k,0 < k→0 < ((s.drop a).take k).length∧a+((s.drop a).take k).length≤s.length:=fun k hk=> by rw [List.length_take,List.length_drop];omega
 cases h1:nG b with
 | true=> obtain ⟨_,rfl⟩:=sd hb h1 h;exact key _ (by have:=tC (p:=vh) (s:=s) (a:=a+1) ab;omega)
 | false=>
  cases h2:gK b with
  | true=> obtain ⟨_,_,rfl⟩:=uo hb h1 h2 h;exact key _ (by have:=tC (p:=gK) (s:=s) (a:=a+1) ab;omega)
  | false=>
   rcases uR hb h1 h2 h with ⟨_,rfl⟩ | ⟨_,_,rfl⟩
   ·exact key _ ab
   exact key _ ab
def If (s:Tx) (l:List Tk) (z:Nat×List Tk):Prop:=z.1≤s.length∧z.2.length≤z.1∧ ∃ f m,nh f s z.1=some m∧l=z.2++m
theorem uN (s:Tx) (h1:s.length≤100000) (l:List Tk) (hl:EE s=some l):
  Spec Tryz.prog 159 (ba [.v (bt s)] []) (aP (.tup [.sl l.length (sP l), .v (.int .i64 0), .v (.int .i64 0)]) []):=by
 have hs0:=wk (s:=s) (a:=0) (Nat.zero_le _) false
 refine Spec.ofN Tryz.func159 rfl Tryz.ntmps159 rfl ?_
 refine am (ai (bq _ fG) (be rfl (be rfl (aj (am (ai (te (5,0) _ 225 4 rfl rfl) ?_))))))
 refine aj (am (ei rfl (ai (aH aa al (rM s 0 h1 (Nat.zero_le _)) rfl rfl) ?_)))
 refine be rfl (aj (aU fun K4 hK4=> ?_))
 refine ay ?_
 refine br (α:=Nat×List Tk) (fun z=> If s l z) 42 [(0,_)] [] (fun z=> [(6, .v (.int .i64 (z.1:Int))),(5, .ref (5,0) 0 z.2.length)]) (fun z=> [((5,0), .row 225 4 (sP z.2))]) [] [] (fun z=> s.length - z.1) (lc s 0 false,[]) ?_ (by
  refine Le.mkJ [] [] rfl ?_ ?_ trivial trivial ?_
  ·exact ⟨(iV rfl),(cp ag),(cO rfl ag),trivial⟩
  ·exact ⟨(fi rfl rfl rfl ag),trivial⟩
  kernel_rfl) ?_
 ·exact ⟨hs0.2,Nat.zero_le _,s.length+1,l,by rw [← hl];unfold EE lc;rw [List.drop_zero,Nat.zero_add],rfl⟩
 intro z hz
 obtain ⟨hz1,hz2,f,m,hf,hlm⟩:=hz
 obtain ⟨f,rfl⟩: ∃ g,f=g+1:=by cases f with | zero=> (simp [nh] at hf) | succ g=> exact ⟨g,rfl⟩
 refine aU fun K5 hK5=> ?_
 refine am (aX rfl (ei rfl (ai (ij _ Tryz.underlying9 rfl) (ai (bm _ _ rfl rfl rfl) (aj (aR rfl (fun hc14=> ?_) (fun hc14=> ?_)))))))
 ·skip
  obtain ⟨_,t,m',ht,hm',hm⟩:=(mV hf).resolve_left fun h=> by omega
  obtain ⟨htl,hta⟩:=ub ab ht
  have hsk:=wk (s:=s) (a:=z.1+t.t.length) hta false
  have hlen:(z.2++[t]).length=z.2.length+1:=by simp
  refine bs (hK5 _ ?_)
  clear hK5;try clear K5
  refine ay (am (ei rfl (aX rfl (ai (aH aa al (vY s z.1 h1 ab t ht) rfl rfl) ?_))))
  refine ai (aI _ tA) (ai (cm _ rfl oZ) (ai (cm _ rfl ee) (ai (aB (7,0) aa rfl rfl) (bG rfl rfl rfl rfl rfl rfl (be rfl (aj (aq (am (aX rfl (ai (bU (r:=false) _ _ rfl rfl rfl) ?_))))))))))
  refine aj (aW rfl rfl (aS (aq ?_)))
  refine aL (σ':=aD 42 [(0,_),(5,_),(6,_),(7,_)] [((5,0),_),((7,0),_)] [] []) kp ?_
  refine an (gJ rfl (ai (az _ aa rfl rfl rfl rfl) (ai (bg _ _ aa rfl ag (by (simp <;> rfl)) ah rfl) ?_)))
  refine ai (du (28,0) _ _ aa rfl rfl (bv _).symm (.sl rfl) ab rfl (uF _ _) hlen.symm) ?_
  refine fj rfl (aj (an (ei rfl (aX rfl (bc rfl rfl rfl (ai (aF _ aa rfl rfl fB) (ai (ij _ Tryz.underlying9 rfl) (ai (aZ _ _ rfl rfl (bE ab)) ?_))))))))
  refine ai (aH aa al (rM s (z.1+t.t.length) h1 hta) rfl rfl) ?_
  refine be rfl (aJ (⟨(lc s (z.1+t.t.length) false,z.2++[t]),?_,?_,?_⟩))
  ·exact ⟨hsk.2,by simp only;omega,f,m',hm',by rw [hlm,hm];simp⟩
  ·skip
   refine Le.mkJ [((5,0),(28,0))] [] rfl ?_ ?_ trivial trivial ?_
   ·exact ⟨(by repeat' (exact Lv.v)),(cp ag),(cO rfl ag),trivial⟩
   ·exact ⟨(fi rfl rfl rfl ag),trivial⟩
   kernel_rfl
  simp only;omega
 obtain ⟨_,hm⟩:=(mV hf).resolve_right fun h=> by omega
 have hlen:(z.2++[(⟨0,s.length,[],0⟩:Tk)]).length=z.2.length+1:=by simp
 rw [hm] at hlm;subst hlm
 refine bB (id (hK4 _ ?_))
 clear hK4;try clear K4
 refine am (gJ rfl (ei rfl (ai (ij _ Tryz.underlying9 rfl) (ai (aN _ aa rfl (by exact kI)) ?_))))
 refine ai (bg _ _ aa rfl ag (by (simp <;> rfl)) ah rfl) ?_
 refine ai (du (41,0) _ _ aa rfl rfl (bv _).symm (.sl rfl) ab rfl (uF _ ⟨0,s.length,[],0⟩) hlen.symm) ?_
 exact fj rfl (be rfl (be rfl (aj (aG (wD (.inr rfl) rfl (.tmp dU) (.tmp kL) (.tmp kL) (Le.out [] [(41,0)] (.tup rfl (au (fg rfl rfl (bv _).symm rfl) lz)) rfl rfl rfl tr trivial))))))
end Go.Proofs.YtmjnackchaahbaaGreat
