/- part 8 -/
import Derived.Test.YtmjnackchaahbaaGreatNpZ7
set_option linter.unusedSimpArgs false
set_option linter.unusedVariables false
set_option maxHeartbeats 2000000
namespace Go.Proofs.YtmjnackchaahbaaGreat
open Go.RowKit

abbrev DS:=List Int×Bool×Bool
def jw (n:Nat) (d:Int) (s:DS) (j:Nat):DS:=
 if n≤j then s else if s.1.getD j (-1) < 0 then (s.1.set j d,s.2.1,true) else if s.1.getD j (-1)≠d then (s.1,false,s.2.2) else s
def cD (C:List eD) (i:Nat):eD:=C.getD i { op:= .stop }
def Hp (C:List eD) (i:Nat) (s:DS):Int:=max (s.1.getD i (-1) - (cD C i).op.pops) 0+(cD C i).op.puts
def lw (C:List eD) (s:DS) (i:Nat):DS:=
 if s.1.getD i (-1) < 0 then s
 else (dC i (cD C i)).foldl (jw C.length (Hp C i s)) (s.1,if s.1.getD i (-1) - (cD C i).op.pops < 0 then false else s.2.1,s.2.2)
def dm (C:List eD) (s:List Int×Bool) (k:Nat):DS:=(List.range k).foldl (lw C) (s.1,s.2,false)
theorem rz (C:List eD) (s:List Int×Bool) (k:Nat):dm C s (k+1)=lw C (dm C s k) k:=by simp [dm,List.range_succ,List.foldl_append]
def jD (C:List eD):Nat→List Int×Bool→List Int×Bool
 | 0,s=> s
 | f+1,s=> if (dm C s C.length).2.2=true then jD C f ((dm C s C.length).1,(dm C s C.length).2.1) else ((dm C s C.length).1,(dm C s C.length).2.1)
def neg (l:List Int):Nat:=l.countP fun x=> decide (x < 0)
theorem Gg {l:List Int} {j:Nat} {d:Int} (hj:j < l.length) (h:l.getD j (-1) < 0) (hd:0≤d):neg (l.set j d)+1=neg l:=by
 unfold neg
 have e:l=l.take j++l[j]::l.drop (j+1):=by rw [List.getElem_cons_drop hj,List.take_append_drop]
 have h':l[j] < 0:=by rwa [List.getD_eq_getElem?_getD,List.getElem?_eq_getElem hj] at h
 rw [List.set_eq_take_append_cons_drop,if_pos hj]
 conv=> rhs;rw [e]
 simp only [List.countP_append,List.countP_cons]
 rw [decide_eq_true h',decide_eq_false (show ¬ d < 0 by omega)]
 simp
 omega
structure DI (D:Nat→Nat) (n:Nat) (s:DS):Prop where
 len:s.1.length=n
 val: ∀ i,i < n→s.1.getD i (-1)= -1∨s.1.getD i (-1)=(D i:Int)
 ok:s.2.1=true
theorem kg {l:List Int} {j i:Nat} {d:Int}:(l.set j d).getD i (-1)=if i=j∧j < l.length then d else l.getD i (-1):=by
 simp only [List.getD_eq_getElem?_getD,List.getElem?_set]
 by_cases h:j=i
 ·subst h
  by_cases h2:j < l.length
  ·simp [h2]
  simp [h2]
 simp [h,Ne.symm h]
theorem FS {D:Nat→Nat} {n:Nat} {d:Int} {s:DS} {j:Nat} (h:DI D n s) (hd:d=(D j:Int)):DI D n (jw n d s j)∧neg (jw n d s j).1≤neg s.1∧((jw n d s j).2.2=true→s.2.2=true∨neg (jw n d s j).1 < neg s.1):=by
 unfold jw
 split
 ·exact ⟨h,Nat.le_refl _,fun e=> .inl e⟩
 rename_i hj
 split
 ·rename_i hn
  have:=Gg (l:=s.1) (j:=j) (d:=d) (by rw [h.len];omega) hn ab
  refine ⟨⟨by rw [List.length_set];exact h.len,fun i hi=> ?_,h.ok⟩,by simp only;omega,fun _=> .inr (by simp only;omega)⟩
  simp only
  rw [kg]
  split
  ·rename_i hc;rw [hc.1];exact .inr hd
  exact h.val i hi
 rename_i hn
 have hv:=h.val j ab
 have:s.1.getD j (-1)=d:=by rw [hd];rcases hv with hv | hv <;> omega
 rw [if_neg (fun hc=> hc this)]
 exact ⟨h,Nat.le_refl _,fun e=> .inl e⟩
theorem nS {D:Nat→Nat} {n:Nat} {d:Int}: ∀ (l:List Nat) {s:DS},DI D n s→(∀ j∈l,d=(D j:Int))→DI D n (l.foldl (jw n d) s)∧neg (l.foldl (jw n d) s).1≤neg s.1∧((l.foldl (jw n d) s).2.2=true→s.2.2=true∨neg (l.foldl (jw n d) s).1 < neg s.1)
 | [],s,h,_=> ⟨h,Nat.le_refl _,fun e=> .inl e⟩
 | j::l,s,h,hd=> by
  obtain ⟨a1,a2,a3⟩:=FS h (hd j (by simp))
  obtain ⟨b1,b2,b3⟩:=nS l a1 fun j hj=> hd j (by simp [hj])
  simp only [List.foldl_cons]
  refine ⟨b1,by omega,fun e=> ?_⟩
  rcases b3 e with e | e
  ·rcases a3 e with e | e
   ·exact .inl e
   exact .inr ab
  exact .inr ab
section
variable {D:Nat→Nat} {nv:Nat} {C:List eD} (hC:Good D nv 0 (C.length - 1) 0 C)
include hC
theorem BR {s:DS} {i:Nat} (hi:i < C.length) (h:DI D C.length s):DI D C.length (lw C s i)∧neg (lw C s i).1≤neg s.1∧((lw C s i).2.2=true→s.2.2=true∨neg (lw C s i).1 < neg s.1):=by
 unfold lw
 split
 ·exact ⟨h,Nat.le_refl _,fun e=> .inl e⟩
 rename_i hn
 have hx:C[i]? =some (cD C i):=by unfold cD;rw [List.getD_eq_getElem?_getD,List.getElem?_eq_getElem hi];rfl
 obtain ⟨_,g2,g3⟩:=hC i _ hx
 rw [Nat.zero_add] at g2 g3
 have hv:s.1.getD i (-1)=(D i:Int):=by rcases h.val i hi with hv | hv <;> omega
 have hdo:Hp C i s=((D i - (cD C i).op.pops+(cD C i).op.puts:Nat):Int):=by unfold Hp;rw [hv];omega
 rw [if_neg (by rw [hv];omega)]
 exact nS _ ⟨h.len,h.val,h.ok⟩ fun j hj=> by rw [hdo,(g3 j hj).2.2]
theorem lT {s:List Int×Bool} (h:DI D C.length (s.1,s.2,false)): ∀ k,k≤C.length→DI D C.length (dm C s k)∧neg (dm C s k).1≤neg s.1∧((dm C s k).2.2=true→neg (dm C s k).1 < neg s.1)
 | 0,_=> ⟨h,Nat.le_refl _,fun e=> by simp [dm] at e⟩
 | k+1,hk=> by
  obtain ⟨a1,a2,a3⟩:=lT h k ab
  obtain ⟨b1,b2,b3⟩:=BR hC ab a1 (i:=k)
  rw [rz]
  refine ⟨b1,by omega,fun e=> ?_⟩
  rcases b3 e with e | e
  ·have:=a3 e;omega
  omega
theorem uC: ∀ f (s:List Int×Bool),DI D C.length (s.1,s.2,false)→DI D C.length ((jD C f s).1,(jD C f s).2,false)
 | 0,s,h=> h
 | f+1,s,h=> by
  obtain ⟨a1,_,_⟩:=lT hC h C.length (Nat.le_refl _)
  unfold jD
  split
  ·exact uC f _ ⟨a1.len,a1.val,a1.ok⟩
  exact ⟨a1.len,a1.val,a1.ok⟩
end
theorem xF {C:List eD} {f:Nat} {s:List Int×Bool} (h:(dm C s C.length).2.2=true):jD C (f+1) s=jD C f ((dm C s C.length).1,(dm C s C.length).2.1):=by rw [jD,if_pos h]
theorem wC {C:List eD} {f:Nat} {s:List Int×Bool} (h:(dm C s C.length).2.2=false):jD C (f+1) s=((dm C s C.length).1,(dm C s C.length).2.1):=by rw [jD,if_neg (by simp [h])]
def jn (C:List eD) (e:Int):List Int×Bool:=if e < 0∨(C.length:Int)≤e then (List.replicate C.length (-1),true) else jD C (C.length+1) ((List.replicate C.length (-1)).set e.toNat 0,true)
theorem rB {D:Nat→Nat} {nv:Nat} {C:List eD} (hC:Good D nv 0 (C.length - 1) 0 C) {e:Int} (he:0≤e→e < C.length→D e.toNat=0):DI D C.length ((jn C e).1,(jn C e).2,false):=by
 have hr: ∀ i,(List.replicate C.length (-1:Int)).getD i (-1)= -1:=fun i=> by rw [List.getD_eq_getElem?_getD,List.getElem?_replicate];split <;> rfl
 unfold jn
 split
 ·exact ⟨by simp,fun i _=> .inl (hr i),rfl⟩
 refine uC hC _ _ ⟨by simp,fun i hi=> ?_,rfl⟩
 simp only
 rw [kg]
 split
 ·rename_i hc
  right
  rw [hc.1,he ab ab];rfl
 exact .inl (hr i)
def kY (C:List eD) (out:List Int) (k:Nat):Int:=(List.range k).foldl (fun m i=> if 0≤out.getD i (-1) then max (max m (out.getD i (-1))) (out.getD i (-1) - (cD C i).op.pops+(cD C i).op.puts) else m) 0
theorem qG (C:List eD) (out:List Int) (k:Nat):kY C out (k+1)=if 0≤out.getD k (-1) then max (max (kY C out k) (out.getD k (-1))) (out.getD k (-1) - (cD C k).op.pops+(cD C k).op.puts) else kY C out k:=by simp [kY,List.range_succ,List.foldl_append]
theorem FF (o:Opc):o.puts≤1:=by cases o <;> decide
theorem nz {C:List eD} {out:List Int} {D:Nat→Nat} {n:Nat} {ok ch:Bool} (h:DI D n (out,ok,ch)) {B:Nat} (hB: ∀ i,i < n→D i≤B): ∀ k,k≤n→0≤kY C out k∧kY C out k≤B+1
 | 0,_=> by simp [kY];omega
 | k+1,hk=> by
  obtain ⟨h1,h2⟩:=nz (C:=C) h hB k ab
  have h3:=hB k ab
  have h4:out.getD k (-1)= -1∨out.getD k (-1)=(D k:Int):=h.val k ab
  have h5:=FF (cD C k).op
  have h6:=qG C out k
  rw [h6]
  rcases h4 with h4 | h4 <;> rw [h4] <;> split <;> omega
def nu (l:List (Nat×Nat)):List Int:=l.foldl (fun m p=> m.set p.1 (p.2:Int)) (List.replicate 40 (-1))
theorem Dn (l:List (Nat×Nat)):(nu l).length=40:=by
 unfold nu
 have: ∀ (l:List (Nat×Nat)) (m:List Int),m.length=40→(l.foldl (fun m p=> m.set p.1 (p.2:Int)) m).length=40:=by
  intro l
  induction l with
  | nil=> exact fun m h=> h
  | cons p l ih=> exact fun m h=> ih _ (by rw [List.length_set];exact h)
 exact this l _ (by simp)
theorem DG: ∀ (l:List (Nat×Nat)) (h:Nat),(nu l).getD h (-1)= -1∨ ∃ e,(h,e)∈l∧(nu l).getD h (-1)=(e:Int):=by
 unfold nu
 have key: ∀ (l:List (Nat×Nat)) (m:List Int) (h:Nat),(l.foldl (fun m p=> m.set p.1 (p.2:Int)) m).getD h (-1)=m.getD h (-1)∨ ∃ e,(h,e)∈l∧(l.foldl (fun m p=> m.set p.1 (p.2:Int)) m).getD h (-1)=(e:Int):=by
  intro l
  induction l with
  | nil=> exact fun m h=> .inl rfl
  | cons p l ih=>
   intro m h
   simp only [List.foldl_cons]
   rcases ih (m.set p.1 (p.2:Int)) h with e | ⟨e,h1,h2⟩
   ·rw [e,kg]
    split
    ·rename_i hc
     exact .inr ⟨p.2,by rw [hc.1];exact List.mem_cons_self,rfl⟩
    exact .inl rfl
   exact .inr ⟨e,List.mem_cons_of_mem _ h1,h2⟩
 intro l h
 rcases key l (List.replicate 40 (-1)) h with e | e
 ·left
  rw [e,List.getD_eq_getElem?_getD,List.getElem?_replicate]
  split <;> rfl
 exact .inr e
def kW (l:List (Nat×Bk)):Bool:=decide ((bG l 0).length≤400) && (List.range 40).all fun h=> decide (kY (bG l 0) (jn (bG l 0) ((nu (jU l 0)).getD h (-1))).1 (bG l 0).length≤16)
theorem xx (l:List (Nat×Bk)) (h:Nat):(nu (jU l 0)).getD h (-1)= -1∨ ∃ e:Nat,(h,e)∈jU l 0∧(nu (jU l 0)).getD h (-1)=(e:Int)∧e < (bG l 0).length∧xT l e=0:=by
 rcases DG (jU l 0) h with e | ⟨e,h1,h2⟩
 ·exact .inl e
 obtain ⟨_,h4,h5⟩:=yH (ti l) h1
 exact .inr ⟨e,h1,h2,by omega,h5⟩
theorem za {l:List (Nat×Bk)} {nv:Nat} (hs:wu l nv):kW l=true:=by
 unfold kW
 rw [Bool.and_eq_true,decide_eq_true_eq,List.all_eq_true]
 refine ⟨hs.n,fun h _=> ?_⟩
 rw [decide_eq_true_eq]
 have hg:=Ek (xT l) nv l 0 0 ((bG l 0).length - 1) hs.ok (ti l) (Nat.le_refl _) ab
 have hd:=rB hg (e:=(nu (jU l 0)).getD h (-1)) (fun h1 h2=> by
  rcases xx l h with e | ⟨e,_,e2,_,e4⟩
  ·omega
  rw [e2];exact e4)
 have hB: ∀ i,i < (bG l 0).length→xT l i≤8:=fun i hi=> by
  unfold xT
  rw [← qR l 0] at hi
  rw [List.getD_eq_getElem?_getD,List.getElem?_eq_getElem hi]
  exact hs.d _ (List.getElem_mem hi)
 have:=(nz (C:=bG l 0) hd hB _ (Nat.le_refl _)).2
 omega
end Go.Proofs.YtmjnackchaahbaaGreat

set_option maxHeartbeats 2000000
namespace Go.Proofs.YtmjnackchaahbaaGreat
open Go.RowKit

theorem gQ {α β:Type} (f:α→List β) (c:Nat) (hf: ∀ a,(f a).length=c): ∀ l:List α,(l.flatMap f).length=l.length*c
 | []=> by simp
 | a::l=> by rw [List.flatMap_cons,List.length_append,hf,gQ f c hf l,List.length_cons,Nat.succ_mul];omega
theorem oh {α β:Type} (f:α→List β) (c:Nat) (hf: ∀ a,(f a).length=c): ∀ (l:List α) (k:Nat),(l.flatMap f).drop (k*c)=(l.drop k).flatMap f
 | l,0=> by simp
 | [],k+1=> by simp
 | a::l,k+1=> by
  rw [List.flatMap_cons,List.drop_succ_cons,← oh f c hf l k,List.drop_append,List.drop_eq_nil_of_le (by rw [hf,Nat.succ_mul];omega),List.nil_append,hf]
  congr 1;rw [Nat.succ_mul];omega
theorem kX {α β:Type} (f:α→List β) (c:Nat) (hf: ∀ a,(f a).length=c) (l:List α) (k:Nat) (h:k < l.length):((l.flatMap f).drop (k*c)).take c=f l[k]:=by
 rw [oh f c hf,List.drop_eq_getElem_cons h,List.flatMap_cons,List.take_append_of_le_length (by rw [hf];exact Nat.le_refl _),List.take_of_length_le (by rw [hf];exact Nat.le_refl _)]
theorem jP {α β:Type} (f:α→List β) (c:Nat) (hf: ∀ a,(f a).length=c) (l:List α) (k j:Nat) (h:k < l.length) (hj:j < c):(l.flatMap f)[k*c+j]? =(f l[k])[j]? :=by
 rw [← kX f c hf l k h,List.getElem?_take_of_lt hj,List.getElem?_drop]
theorem Bh {α β:Type} (f:α→List β) (c:Nat) (hf: ∀ a,(f a).length=c): ∀ (l:List α) (k:Nat),(l.flatMap f).take (k*c)=(l.take k).flatMap f
 | l,0=> by simp
 | [],k+1=> by simp
 | a::l,k+1=> by
  rw [List.flatMap_cons,List.take_succ_cons,List.flatMap_cons,← Bh f c hf l k,List.take_append,List.take_of_length_le (by rw [hf,Nat.succ_mul];omega),hf]
  congr 2;rw [Nat.succ_mul];omega
theorem jE {α β:Type} (f:α→List β) (l:List α) (a:α):l.flatMap f++f a=(l++[a]).flatMap f:=by simp
theorem BB {α β:Type} (f:α→List β) (l m:List α):l.flatMap f++m.flatMap f=(l++m).flatMap f:=by simp

def fc (l:List Tx):List PV:=l.map fun t=> .v (bt t)
@[simp] theorem bh (l:List Tx):(fc l).length=l.length:=by simp [fc]
theorem jG (l:List Tx) (k:Nat) (h:k < l.length):(fc l)[k]? =some (.v (bt (l.getD k []))):=by simp [fc,h]
theorem qZ (a b:List Tx):fc a++fc b=fc (a++b):=by simp [fc]
theorem nY (a:List Tx) (t:Tx):fc a++[.v (bt t)]=fc (a++[t]):=by simp [fc]
theorem ke {l:List Tx} {k:Nat} (h:k < l.length):l.getD k []∈l:=by
 rw [List.getD_eq_getElem?_getD,List.getElem?_eq_getElem h];exact List.getElem_mem h
theorem kB {α:Type} {l:List α} {k:Nat} {x d:α} (h:x∉l.take k) (hk:k < l.length) (hx:l.getD k d≠x):x∉l.take (k+1):=by
 rw [List.take_succ_eq_append_getElem hk,List.mem_append,List.mem_singleton]
 rintro (h' | h')
 ·exact h h'
 exact hx (by rw [List.getD_eq_getElem?_getD,List.getElem?_eq_getElem hk,h'];rfl)

def HF (t:Tk):List PV:=[.v (.int .i64 (t.k:Int)), .v (.int .i64 (t.a:Int)), .v (bt t.t), .v (.int .i64 (t.n:Int))]
def um (l:List Tk):List PV:=l.flatMap HF
theorem bc (l:List Tk):(um l).length=l.length*4:=gQ HF 4 (fun _=> rfl) l
theorem wx (l:List Tk) (k:Nat) (h:k < l.length):cX l k=l[k]:=by simp [cX,h]
theorem qS (l:List Tk) (k:Nat) (h:k < l.length):(um l)[k*4]? =some (.v (.int .i64 ((cX l k).k:Int))):=by
 rw [wx l k h];exact jP HF 4 (fun _=> rfl) l k 0 h ab
theorem nn (l:List Tk) (k:Nat) (h:k < l.length):(um l)[k*4+2]? =some (.v (bt (cX l k).t)):=by
 rw [wx l k h];exact jP HF 4 (fun _=> rfl) l k 2 h ab
theorem nO (l:List Tk) (k:Nat) (h:k < l.length):PV.ups (((um l).drop (k*4)).take 4)=[.v (.int .i64 ((cX l k).k:Int)), .v (.int .i64 ((cX l k).a:Int)), .v (bt (cX l k).t), .v (.int .i64 ((cX l k).n:Int))]:=by
 rw [wx l k h,show ((um l).drop (k*4)).take 4=HF l[k] from kX HF 4 (fun _=> rfl) l k h];rfl
theorem vC (l:List Tk) (t:Tk):um l++HF t=um (l++[t]):=jE HF l t

theorem fU {s:Tx} {a:Nat} {b:UInt8} (h:s[a]? =some b):s.drop a=b::s.drop (a+1):=by
 obtain ⟨hl,rfl⟩:=List.getElem?_eq_some_iff.1 h
 exact List.drop_eq_getElem_cons hl
theorem kC {s:Tx} {a:Nat} (h:a < s.length): ∃ b,s[a]? =some b:=⟨_,List.getElem?_eq_getElem h⟩
theorem NE (b:UInt8):0≤(b.toNat:Int)∧(b.toNat:Int) < 256:=⟨by omega,by have:=b.toNat_lt;omega⟩
def kV (s:Tx) (a:Nat) (c:Bool):Nat:=a+ut (s.drop a) c
theorem tT {s:Tx} {a:Nat} (h:s.length≤a) (c:Bool):kV s a c=a:=by
 unfold kV;rw [List.drop_eq_nil_of_le h];unfold ut;rfl
theorem Jv {s:Tx} {a:Nat} {b:UInt8} (h:s[a]? =some b) (hb:b.toNat=10):kV s a true=kV s a false:=by
 unfold kV;rw [fU h];simp [ut,hb]
theorem Ik {s:Tx} {a:Nat} {b:UInt8} (h:s[a]? =some b) (hb:b.toNat≠10):kV s a true=kV s (a+1) true:=by
 unfold kV;rw [fU h];simp [ut,hb];omega
theorem EM {s:Tx} {a:Nat} {b:UInt8} (h:s[a]? =some b) (hb:b.toNat=35):kV s a false=kV s a true:=by
 unfold kV;rw [fU h];simp [ut,hb]
theorem xi {s:Tx} {a:Nat} {b:UInt8} (h:s[a]? =some b) (h0:b.toNat≠35) (hb:b.toNat=32∨b.toNat=9∨b.toNat=10):kV s a false=kV s (a+1) false:=by
 unfold kV;rw [fU h,ut,if_neg h0,if_pos hb];omega
theorem FJ {s:Tx} {a:Nat} {b:UInt8} (h:s[a]? =some b) (h0:b.toNat≠35) (hb: ¬ (b.toNat=32∨b.toNat=9∨b.toNat=10)):kV s a false=a:=by
 unfold kV;rw [fU h,ut,if_neg h0,if_neg hb];rfl
theorem pk: ∀ (l:Tx) (c:Bool),ut l c≤l.length
 | [],c=> by unfold ut;exact Nat.le_refl _
 | x::l,true=> by have h1:=pk l true;have h2:=pk l false;unfold ut;split <;> simp only [List.length_cons] <;> omega
 | x::l,false=> by have h1:=pk l true;have h2:=pk l false;unfold ut;split <;> (try split) <;> simp only [List.length_cons] <;> omega
theorem xp {s:Tx} {a:Nat} (h:a≤s.length) (c:Bool):a≤kV s a c∧kV s a c≤s.length:=by
 have:=pk (s.drop a) c
 rw [List.length_drop] at this
 unfold kV;omega
def lE (p:UInt8→Bool) (s:Tx) (a:Nat):Nat:=a+((s.drop a).takeWhile p).length
theorem xX {p:UInt8→Bool} {s:Tx} {a:Nat} (h:s.length≤a):lE p s a=a:=by
 unfold lE;rw [List.drop_eq_nil_of_le h];rfl
theorem ui {p:UInt8→Bool} {s:Tx} {a:Nat} {b:UInt8} (h:s[a]? =some b) (hb:p b=true):lE p s a=lE p s (a+1):=by
 unfold lE;rw [fU h,List.takeWhile_cons,if_pos hb,List.length_cons];omega
theorem BE {p:UInt8→Bool} {s:Tx} {a:Nat} {b:UInt8} (h:s[a]? =some b) (hb:p b=false):lE p s a=a:=by
 unfold lE;rw [fU h,List.takeWhile_cons,if_neg (by simp [hb])];rfl
theorem ta {p:UInt8→Bool} {s:Tx} {a:Nat} (h:a≤s.length):a≤lE p s a∧lE p s a≤s.length:=by
 have:((s.drop a).takeWhile p).length≤(s.drop a).length:=(List.takeWhile_prefix p).length_le
 rw [List.length_drop] at this
 unfold lE;omega
theorem wm {p:UInt8→Bool} {s:Tx} {a:Nat} {b:UInt8} (h:s[a]? =some b):(s.drop a).take (lE p s (a+1) - a)=b::(s.drop (a+1)).takeWhile p:=by
 rw [fU h,show lE p s (a+1) - a=((s.drop (a+1)).takeWhile p).length+1 by unfold lE;omega,List.take_succ_cons]
 congr 1
 obtain ⟨t,ht⟩:=List.takeWhile_prefix p (l:=s.drop (a+1))
 conv=> lhs;arg 2;rw [← ht]
 rw [List.take_append_of_le_length (Nat.le_refl _),List.take_length]
theorem sG (l:Tx) (b:UInt8):ld (l++[b])=10*ld l+(b.toNat - 48):=by unfold ld;rw [List.foldl_append];rfl
theorem Hh (l m:Tx):ld l≤ld (l++m):=by
 induction m generalizing l with
 | nil=> simp
 | cons b m ih=>
  have:=ih (l++[b])
  rw [sG,List.append_assoc] at this
  simp only [List.cons_append,List.nil_append] at this
  omega
theorem AY (l:Tx) (i:Nat):ld (l.take i)≤ld l:=by
 have:=Hh (l.take i) (l.drop i)
 rwa [List.take_append_drop] at this
theorem Ae {l:Tx} {i:Nat} {b:UInt8} (h:l[i]? =some b):ld (l.take (i+1))=10*ld (l.take i)+(b.toNat - 48):=by
 obtain ⟨hl,rfl⟩:=List.getElem?_eq_some_iff.1 h
 rw [List.take_succ_eq_append_getElem hl,sG]
theorem DQ (b:UInt8):oe b=true↔97≤(b.toNat:Int)∧(b.toNat:Int)≤122:=by
 unfold oe;rw [Bool.and_eq_true,Nat.ble_eq,Nat.ble_eq];omega
theorem wo (b:UInt8):gq b=true↔48≤(b.toNat:Int)∧(b.toNat:Int)≤57:=by
 unfold gq;rw [Bool.and_eq_true,Nat.ble_eq,Nat.ble_eq];omega
theorem HP {b:Bool} {p:Prop} (h:b=true↔p) (hn: ¬ p):b=false:=by
 cases b with
 | false=> rfl
 | true=> exact absurd (h.1 rfl) hn
def inr (x:eD):List PV:=[.v (.int .i64 (x.op.num:Int)), .v (.int .i64 x.n)]
def inl (l:List eD):List PV:=l.flatMap inr
theorem bo (l:List eD):(inl l).length=l.length*2:=gQ inr 2 (fun _=> rfl) l
theorem ow (l:List eD) (k:Nat) (h:k < l.length):(inl l)[k*2]? =some (.v (.int .i64 ((cD l k).op.num:Int))):=by
 rw [show cD l k=l[k] by simp [cD,h]];exact jP inr 2 (fun _=> rfl) l k 0 h ab
theorem Cf (l:List eD) (k:Nat) (h:k < l.length):(inl l)[k*2+1]? =some (.v (.int .i64 (cD l k).n)):=by
 rw [show cD l k=l[k] by simp [cD,h]];exact jP inr 2 (fun _=> rfl) l k 1 h ab
theorem wc (l:List eD) (k:Nat) (h:k < l.length):PV.ups (((inl l).drop (k*2)).take 2)=[.v (.int .i64 ((cD l k).op.num:Int)), .v (.int .i64 (cD l k).n)]:=by
 rw [show cD l k=l[k] by simp [cD,h],show ((inl l).drop (k*2)).take 2=inr l[k] from kX inr 2 (fun _=> rfl) l k h];rfl
theorem eY (l:List eD) (x:eD):inl l++inr x=inl (l++[x]):=jE inr l x
theorem lW (l m:List eD):inl l++inl m=inl (l++m):=BB inr l m
def IY (x:Ac):List PV:=[.v (.int .i64 x.k), .v (.int .i64 x.a), .v (.int .i64 x.b), .v (.int .i64 x.c), .v (.int .i64 x.d)]
def oz (l:List Ac):List PV:=l.flatMap IY
def kt (l:List Ac) (k:Nat):Ac:=l.getD k { k:=0 }
theorem bN (l:List Ac):(oz l).length=l.length*5:=gQ IY 5 (fun _=> rfl) l
theorem Ee (l:List Ac) (k:Nat) (h:k < l.length):(oz l)[k*5]? =some (.v (.int .i64 (kt l k).k)):=by
 rw [show kt l k=l[k] by simp [kt,h]];exact jP IY 5 (fun _=> rfl) l k 0 h ab
theorem nx (l:List Ac) (k:Nat) (h:k < l.length):PV.ups (((oz l).drop (k*5)).take 5)=[.v (.int .i64 (kt l k).k), .v (.int .i64 (kt l k).a), .v (.int .i64 (kt l k).b), .v (.int .i64 (kt l k).c), .v (.int .i64 (kt l k).d)]:=by
 rw [show kt l k=l[k] by simp [kt,h],show ((oz l).drop (k*5)).take 5=IY l[k] from kX IY 5 (fun _=> rfl) l k h];rfl
theorem ij (l:List Ac) (x:Ac):oz l++IY x=oz (l++[x]):=jE IY l x
end Go.Proofs.YtmjnackchaahbaaGreat

namespace Go.Proofs.YtmjnackchaahbaaGreat
abbrev Mf:List Value:=[.slice none 0 0, .int .i64 0, .int .i64 0, .int .i64 0, .int .i64 0, .int .i64 0, .int .i64 0, .int .i64 0, .int .i64 0, .int .i64 0, .int .i64 0, .int .i64 0, .int .i64 0, .int .i64 0, .int .i64 0, .int .i64 0, .int .i64 0, .int .i64 0, .int .i64 0, .int .i64 0, .int .i64 0, .int .i64 0, .int .i64 0, .int .i64 0, .int .i64 0, .int .i64 0, .int .i64 0, .int .i64 0, .int .i64 0, .int .i64 0, .int .i64 0, .int .i64 0, .int .i64 0, .int .i64 0, .int .i64 0, .int .i64 0, .int .i64 0, .int .i64 0, .int .i64 0, .int .i64 0, .int .i64 0, .int .i64 0, .int .i64 0]
abbrev Fa:List Value:=[.int .i64 0, .int .i64 0, .int .i64 0, .int .i64 0, .int .i64 0, .int .i64 0, .int .i64 0, .int .i64 0, .int .i64 0]
abbrev LI:List Value:=[.slice none 0 0, .slice none 0 0, .int .i64 0, .bool false, .slice none 0 0]
abbrev LW:List Value:=[.slice none 0 0, .slice none 0 0, .int .i64 0, .bool false, .slice none 0 0, .slice none 0 0]
abbrev xQ:List Value:=[.int .i64 0, .int .i64 0, .int .i64 0, .int .i64 0, .int .i64 0]
abbrev Qf:List Value:=[.slice none 0 0, .slice none 0 0, .slice none 0 0]
abbrev JY:List Value:=[.int .i64 0, .int .i64 0, .string ByteArray.empty, .slice none 0 0]
abbrev JV:List Value:=[.int .i64 0, .int .i64 0, .int .i64 0, .string ByteArray.empty, .slice none 0 0]
abbrev OP:List Value:=[.int .i64 0, .int .i64 0, .int .i64 0, .int .i64 0, .int .i64 0, .int .i64 0, .int .i64 0, .int .i64 0, .int .i64 0, .int .i64 0, .int .i64 0, .int .i64 0, .int .i64 0, .int .i64 0, .int .i64 0, .int .i64 0, .int .i64 0, .int .i64 0, .int .i64 0, .int .i64 0, .int .i64 0, .int .i64 0, .int .i64 0, .int .i64 0, .int .i64 0, .int .i64 0, .int .i64 0, .int .i64 0, .int .i64 0, .int .i64 0, .int .i64 0, .int .i64 0, .int .i64 0, .int .i64 0, .int .i64 0, .int .i64 0, .int .i64 0, .int .i64 0, .int .i64 0, .int .i64 0, .int .i64 0]
abbrev LJ:List Value:=[.bool false, .int .i64 0, .int .i64 0, .int .i64 0, .slice none 0 0, .slice none 0 0, .slice none 0 0, .slice none 0 0, .int .i64 0, .int .i64 0, .int .i64 0, .int .i64 0, .int .i64 0, .int .i64 0, .int .i64 0, .int .i64 0, .int .i64 0, .int .i64 0, .int .i64 0, .int .i64 0, .int .i64 0, .int .i64 0, .int .i64 0, .int .i64 0, .int .i64 0, .int .i64 0, .int .i64 0, .int .i64 0, .int .i64 0, .int .i64 0, .int .i64 0, .int .i64 0, .int .i64 0, .int .i64 0, .int .i64 0, .int .i64 0, .int .i64 0, .int .i64 0, .int .i64 0, .int .i64 0, .int .i64 0, .int .i64 0, .int .i64 0, .int .i64 0, .int .i64 0, .int .i64 0, .int .i64 0, .int .i64 0, .int .i64 0, .int .i64 0, .int .i64 0, .int .i64 0]
abbrev AI:List Value:=[.int .i64 0, .int .i64 0, .int .i64 0, .int .i64 0, .int .i64 0, .int .i64 0, .int .i64 0, .int .i64 0, .int .i64 0, .int .i64 0, .int .i64 0, .int .i64 0, .int .i64 0, .slice none 0 0, .slice none 0 0]
abbrev Gq:List Value:=[.int .i64 0, .int .i64 0, .int .i64 0]
abbrev Ge:List Value:=[.int .i64 0, .int .i64 0, .int .i64 0, .slice none 0 0, .bool false, .int .i64 0, .slice none 0 0, .slice none 0 0, .slice none 0 0, .int .i64 0, .bool false, .slice none 0 0]
abbrev zm:List Value:=[.int .i64 0, .int .i64 0, .int .i64 0, .int .i64 0, .int .i64 0, .int .i64 0, .int .i64 0]
abbrev Hg:List Value:=[.slice none 0 0, .int .i64 0, .int .i64 0, .int .i64 0, .int .i64 0, .int .i64 0, .int .i64 0, .int .i64 0, .int .i64 0, .int .i64 0]
abbrev FG:List Value:=[.nilFunc, .nilFunc, .nilFunc, .nilFunc, .nilFunc, .nilFunc, .nilFunc, .nilFunc, .nilFunc, .nilFunc, .nilFunc, .nilFunc, .nilFunc, .nilFunc, .nilFunc, .nilFunc, .nilFunc, .nilFunc, .nilFunc, .nilFunc, .nilFunc, .nilFunc, .nilFunc, .nilFunc]
abbrev Al:List Value:=[.int .i64 0, .int .i64 0, .string ByteArray.empty, .int .i64 0]
abbrev HB:List Value:=[.int .i64 0, .int .i64 0, .int .i64 0, .int .i64 0, .int .i64 0, .int .i64 0]
abbrev KX:List Value:=[.bool false, .int .i64 0, .int .i64 0, .int .i64 0, .slice none 0 0, .slice none 0 0, .slice none 0 0, .slice none 0 0, .int .i64 0, .int .i64 0, .int .i64 0, .int .i64 0, .int .i64 0, .int .i64 0, .int .i64 0, .int .i64 0, .int .i64 0, .int .i64 0, .int .i64 0, .int .i64 0, .int .i64 0, .int .i64 0, .int .i64 0, .int .i64 0, .int .i64 0, .int .i64 0, .int .i64 0, .int .i64 0, .int .i64 0, .int .i64 0, .int .i64 0, .int .i64 0, .int .i64 0, .int .i64 0, .int .i64 0, .int .i64 0, .int .i64 0, .int .i64 0, .int .i64 0, .int .i64 0, .int .i64 0, .int .i64 0, .int .i64 0, .int .i64 0, .int .i64 0, .int .i64 0, .int .i64 0, .int .i64 0, .int .i64 0, .int .i64 0, .int .i64 0, .int .i64 0, .slice none 0 0, .slice none 0 0, .bool false, .int .i64 0, .slice none 0 0, .int .i64 0, .int .i64 0, .int .i64 0, .slice none 0 0, .slice none 0 0, .int .i64 0, .bool false, .slice none 0 0, .slice none 0 0, .slice none 0 0]
abbrev KC:List Value:=[.int .i64 0, .int .i64 0, .int .i64 0, .slice none 0 0, .slice none 0 0]
abbrev KS:List Value:=[.slice none 0 0, .int .i64 0, .int .i64 0, .int .i64 0, .int .i64 0, .int .i64 0, .int .i64 0, .int .i64 0, .int .i64 0, .int .i64 0, .int .i64 0, .int .i64 0, .int .i64 0, .int .i64 0, .int .i64 0, .int .i64 0, .int .i64 0, .int .i64 0, .int .i64 0, .int .i64 0, .int .i64 0, .int .i64 0, .int .i64 0, .int .i64 0, .int .i64 0, .int .i64 0, .int .i64 0, .int .i64 0, .int .i64 0, .int .i64 0, .int .i64 0, .int .i64 0, .int .i64 0, .int .i64 0, .int .i64 0, .int .i64 0, .int .i64 0, .int .i64 0, .int .i64 0, .int .i64 0, .int .i64 0, .int .i64 0, .int .i64 0, .slice none 0 0, .int .i64 0, .int .i64 0, .int .i64 0, .int .i64 0, .int .i64 0, .int .i64 0, .int .i64 0, .int .i64 0, .int .i64 0, .nilFunc, .slice none 0 0, .slice none 0 0, .int .i64 0, .bool false, .slice none 0 0, .slice none 0 0, .int .i64 0, .int .i64 0, .int .i64 0, .bool false]
abbrev KV:List Value:=[.slice none 0 0, .int .i64 0, .int .i64 0, .int .i64 0, .slice none 0 0]

instance UZ:Ty Tryz.prog 3 false [.int .i64 0]:=Ty.of (bytes:=8) (.int .i64 0) Tryz.underlying3 rfl ae rfl oC
instance UX:Ty Tryz.prog 4 false [.bool false]:=Ty.of (bytes:=1) (.bool false) Tryz.underlying4 rfl ae rfl oC
instance UY:Ty Tryz.prog 9 false [.string ByteArray.empty]:=Ty.of (bytes:=16) (.string ByteArray.empty) Tryz.underlying9 rfl ae rfl oC
instance NY:Ty Tryz.prog 22 false [.slice none 0 0]:=Ty.of (bytes:=24) (.slice none 0 0) Tryz.underlying22 rfl ae rfl oC
instance Sw:Ty Tryz.prog 23 false [.slice none 0 0]:=Ty.of (bytes:=24) (.slice none 0 0) Tryz.underlying23 rfl ae rfl oC
instance Uu:Ty Tryz.prog 26 true Mf:=Ty.of (bytes:=360) (.agg (Mf).toArray) Tryz.underlying26 rfl ae rfl oC
instance UQ:Ty Tryz.prog 30 true Fa:=Ty.of (bytes:=72) (.agg (Fa).toArray) Tryz.underlying30 rfl ae rfl oC
instance TZ:Ty Tryz.prog 32 false [.slice none 0 0]:=Ty.of (bytes:=24) (.slice none 0 0) Tryz.underlying32 rfl ae rfl oC
instance SB:Ty Tryz.prog 34 true LI:=Ty.of (bytes:=88) (.agg (LI).toArray) Tryz.underlying34 rfl ae rfl oC
instance UN:Ty Tryz.prog 39 true LW:=Ty.of (bytes:=112) (.agg (LW).toArray) Tryz.underlying39 rfl ae rfl oC
instance Uj:Ty Tryz.prog 43 false [.nilFunc]:=Ty.of (bytes:=8) (.nilFunc) Tryz.underlying43 rfl ae rfl oC
instance TE:Ty Tryz.prog 48 true [.int .i64 0, .int .i64 0]:=Ty.of (bytes:=16) (.agg #[.int .i64 0, .int .i64 0]) Tryz.underlying48 rfl ae rfl oC
instance UV:Ty Tryz.prog 51 false [.nilFunc]:=Ty.of (bytes:=8) (.nilFunc) Tryz.underlying51 rfl ae rfl oC
instance Ur:Ty Tryz.prog 57 true xQ:=Ty.of (bytes:=40) (.agg (xQ).toArray) Tryz.underlying57 rfl ae rfl oC
instance SV:Ty Tryz.prog 61 false [.slice none 0 0]:=Ty.of (bytes:=24) (.slice none 0 0) Tryz.underlying61 rfl ae rfl oC
instance Ug:Ty Tryz.prog 62 false [.slice none 0 0]:=Ty.of (bytes:=24) (.slice none 0 0) Tryz.underlying62 rfl ae rfl oC
instance TP:Ty Tryz.prog 64 true Qf:=Ty.of (bytes:=72) (.agg (Qf).toArray) Tryz.underlying64 rfl ae rfl oC
instance RL:Ty Tryz.prog 66 false [.int .i64 0]:=Ty.of (bytes:=8) (.int .i64 0) Tryz.underlying66 rfl ae rfl oC
instance TY:Ty Tryz.prog 69 false [.slice none 0 0]:=Ty.of (bytes:=24) (.slice none 0 0) Tryz.underlying69 rfl ae rfl oC
instance Tc:Ty Tryz.prog 71 true JY:=Ty.of (bytes:=56) (.agg (JY).toArray) Tryz.underlying71 rfl ae rfl oC
instance SG:Ty Tryz.prog 73 true JV:=Ty.of (bytes:=64) (.agg (JV).toArray) Tryz.underlying73 rfl ae rfl oC
instance Sc:Ty Tryz.prog 78 false [.slice none 0 0]:=Ty.of (bytes:=24) (.slice none 0 0) Tryz.underlying78 rfl ae rfl oC
instance RT:Ty Tryz.prog 80 true [.slice none 0 0, .slice none 0 0]:=Ty.of (bytes:=48) (.agg #[.slice none 0 0, .slice none 0 0]) Tryz.underlying80 rfl ae rfl oC
instance Ul:Ty Tryz.prog 81 true OP:=Ty.of (bytes:=328) (.agg (OP).toArray) Tryz.underlying81 rfl ae rfl oC
instance UJ:Ty Tryz.prog 83 true LJ:=Ty.of (bytes:=480) (.agg (LJ).toArray) Tryz.underlying83 rfl ae rfl oC
instance TC:Ty Tryz.prog 87 true AI:=Ty.of (bytes:=152) (.agg (AI).toArray) Tryz.underlying87 rfl ae rfl oC
instance Tv:Ty Tryz.prog 88 false [.slice none 0 0]:=Ty.of (bytes:=24) (.slice none 0 0) Tryz.underlying88 rfl ae rfl oC
instance Sg:Ty Tryz.prog 89 false [.slice none 0 0]:=Ty.of (bytes:=24) (.slice none 0 0) Tryz.underlying89 rfl ae rfl oC
instance TW:Ty Tryz.prog 91 true Gq:=Ty.of (bytes:=24) (.agg (Gq).toArray) Tryz.underlying91 rfl ae rfl oC
instance RQ:Ty Tryz.prog 96 true Ge:=Ty.of (bytes:=176) (.agg (Ge).toArray) Tryz.underlying96 rfl ae rfl oC
instance Qg:Ty Tryz.prog 101 false [.slice none 0 0]:=Ty.of (bytes:=24) (.slice none 0 0) Tryz.underlying101 rfl ae rfl oC
instance Rh:Ty Tryz.prog 109 true xQ:=Ty.of (bytes:=40) (.agg (xQ).toArray) Tryz.underlying109 rfl ae rfl oC
instance QH:Ty Tryz.prog 111 true zm:=Ty.of (bytes:=56) (.agg (zm).toArray) Tryz.underlying111 rfl ae rfl oC
instance PX:Ty Tryz.prog 115 true xQ:=Ty.of (bytes:=40) (.agg (xQ).toArray) Tryz.underlying115 rfl ae rfl oC
instance Pk:Ty Tryz.prog 117 true Fa:=Ty.of (bytes:=72) (.agg (Fa).toArray) Tryz.underlying117 rfl ae rfl oC
instance QZ:Ty Tryz.prog 126 true [.int .i64 0, .int .i64 0]:=Ty.of (bytes:=16) (.agg #[.int .i64 0, .int .i64 0]) Tryz.underlying126 rfl ae rfl oC
instance PC:Ty Tryz.prog 132 true Hg:=Ty.of (bytes:=96) (.agg (Hg).toArray) Tryz.underlying132 rfl ae rfl oC
instance Rv:Ty Tryz.prog 161 false [.nilFunc]:=Ty.of (bytes:=8) (.nilFunc) Tryz.underlying161 rfl ae rfl oC
instance Pa:Ty Tryz.prog 172 false [.nilFunc]:=Ty.of (bytes:=8) (.nilFunc) Tryz.underlying172 rfl ae rfl oC
instance Re:Ty Tryz.prog 173 true FG:=Ty.of (bytes:=192) (.agg (FG).toArray) Tryz.underlying173 rfl ae rfl oC
instance QV:Ty Tryz.prog 217 false [.slice none 0 0]:=Ty.of (bytes:=24) (.slice none 0 0) Tryz.underlying217 rfl ae rfl oC
instance PB:Ty Tryz.prog 225 true Al:=Ty.of (bytes:=40) (.agg (Al).toArray) Tryz.underlying225 rfl ae rfl oC
instance UC:Elem Tryz.prog 22 3 1 8 [.int .i64 0]:=Elem.of (.int .i64 0) Tryz.underlying22 ae rfl rfl ah ah oC
instance RU:Elem Tryz.prog 23 48 2 16 [.int .i64 0, .int .i64 0]:=Elem.of (.agg #[.int .i64 0, .int .i64 0]) Tryz.underlying23 ae rfl rfl ah ah oC
instance SP:Elem Tryz.prog 32 57 5 40 xQ:=Elem.of (.agg (xQ).toArray) Tryz.underlying32 ae rfl rfl ah ah oC
instance Sr:Elem Tryz.prog 61 9 1 16 [.string ByteArray.empty]:=Elem.of (.string ByteArray.empty) Tryz.underlying61 ae rfl rfl ah ah oC
instance SL:Elem Tryz.prog 62 73 5 64 JV:=Elem.of (.agg (JV).toArray) Tryz.underlying62 ae rfl rfl ah ah oC
instance Uw:Elem Tryz.prog 69 71 4 56 JY:=Elem.of (.agg (JY).toArray) Tryz.underlying69 ae rfl rfl ah ah oC
instance SO:Elem Tryz.prog 76 87 15 152 AI:=Elem.of (.agg (AI).toArray) Tryz.underlying76 ae rfl rfl ah ah oC
instance UH:Elem Tryz.prog 78 126 2 16 [.int .i64 0, .int .i64 0]:=Elem.of (.agg #[.int .i64 0, .int .i64 0]) Tryz.underlying78 ae rfl rfl ah ah oC
instance So:Elem Tryz.prog 88 111 7 56 zm:=Elem.of (.agg (zm).toArray) Tryz.underlying88 ae rfl rfl ah ah oC
instance UW:Elem Tryz.prog 89 117 9 72 Fa:=Elem.of (.agg (Fa).toArray) Tryz.underlying89 ae rfl rfl ah ah oC
instance RA:Elem Tryz.prog 101 196 6 48 HB:=Elem.of (.agg (HB).toArray) Tryz.underlying101 ae rfl rfl ah ah oC
instance Pz:Elem Tryz.prog 121 4 1 1 [.bool false]:=Elem.of (.bool false) Tryz.underlying121 ae rfl rfl ah ah oC
instance RJ:Elem Tryz.prog 217 225 4 40 Al:=Elem.of (.agg (Al).toArray) Tryz.underlying217 ae rfl rfl ah ah oC
instance PP:Elem Tryz.prog 275 61 1 24 [.slice none 0 0]:=Elem.of (.slice none 0 0) Tryz.underlying275 ae rfl rfl ah ah oC
instance Nb:dO Tryz.prog 26 0 0:=⟨fun ad w=> by kernel_rfl⟩
instance Nw:dO Tryz.prog 26 1 1:=⟨fun ad w=> by kernel_rfl⟩
instance MC:dO Tryz.prog 26 2 41:=⟨fun ad w=> by kernel_rfl⟩
instance NW:dO Tryz.prog 26 3 42:=⟨fun ad w=> by kernel_rfl⟩
instance Om:dO Tryz.prog 34 0 0:=⟨fun ad w=> by kernel_rfl⟩
instance Nt:dO Tryz.prog 34 1 1:=⟨fun ad w=> by kernel_rfl⟩
instance MT:dO Tryz.prog 34 2 2:=⟨fun ad w=> by kernel_rfl⟩
instance OJ:dO Tryz.prog 34 3 3:=⟨fun ad w=> by kernel_rfl⟩
instance Nh:dO Tryz.prog 34 4 4:=⟨fun ad w=> by kernel_rfl⟩
instance NS:dO Tryz.prog 39 0 0:=⟨fun ad w=> by kernel_rfl⟩
instance Oq:dO Tryz.prog 39 1 1:=⟨fun ad w=> by kernel_rfl⟩
instance OH:dO Tryz.prog 39 2 2:=⟨fun ad w=> by kernel_rfl⟩
instance MM:dO Tryz.prog 39 3 3:=⟨fun ad w=> by kernel_rfl⟩
instance Mh:dO Tryz.prog 39 4 4:=⟨fun ad w=> by kernel_rfl⟩
instance MK:dO Tryz.prog 39 5 5:=⟨fun ad w=> by kernel_rfl⟩
instance Oe:dO Tryz.prog 48 0 0:=⟨fun ad w=> by kernel_rfl⟩
instance NI:dO Tryz.prog 48 1 1:=⟨fun ad w=> by kernel_rfl⟩
instance Ox:dO Tryz.prog 57 0 0:=⟨fun ad w=> by kernel_rfl⟩
instance NF:dO Tryz.prog 57 1 1:=⟨fun ad w=> by kernel_rfl⟩
instance NV:dO Tryz.prog 57 2 2:=⟨fun ad w=> by kernel_rfl⟩
instance NH:dO Tryz.prog 57 3 3:=⟨fun ad w=> by kernel_rfl⟩
instance Oh:dO Tryz.prog 57 4 4:=⟨fun ad w=> by kernel_rfl⟩
instance Og:dO Tryz.prog 64 0 0:=⟨fun ad w=> by kernel_rfl⟩
instance Ml:dO Tryz.prog 64 1 1:=⟨fun ad w=> by kernel_rfl⟩
instance MJ:dO Tryz.prog 64 2 2:=⟨fun ad w=> by kernel_rfl⟩
instance Nl:dO Tryz.prog 71 0 0:=⟨fun ad w=> by kernel_rfl⟩
instance Oy:dO Tryz.prog 71 1 1:=⟨fun ad w=> by kernel_rfl⟩
instance OG:dO Tryz.prog 71 2 2:=⟨fun ad w=> by kernel_rfl⟩
instance Nz:dO Tryz.prog 71 3 3:=⟨fun ad w=> by kernel_rfl⟩
instance Nu:dO Tryz.prog 73 0 0:=⟨fun ad w=> by kernel_rfl⟩
instance Mt:dO Tryz.prog 73 1 1:=⟨fun ad w=> by kernel_rfl⟩
instance NC:dO Tryz.prog 80 0 0:=⟨fun ad w=> by kernel_rfl⟩
instance NJ:Fvl Tryz.prog 80 0 0 false 1:=Fvl.of Tryz.underlying80 rfl rfl NY rfl
instance NT:dO Tryz.prog 80 1 1:=⟨fun ad w=> by kernel_rfl⟩
instance MW:dO Tryz.prog 83 0 0:=⟨fun ad w=> by kernel_rfl⟩
instance Ok:dO Tryz.prog 83 1 1:=⟨fun ad w=> by kernel_rfl⟩
instance Of:dO Tryz.prog 83 2 2:=⟨fun ad w=> by kernel_rfl⟩
instance Ni:dO Tryz.prog 83 3 3:=⟨fun ad w=> by kernel_rfl⟩
instance Oz:dO Tryz.prog 83 4 4:=⟨fun ad w=> by kernel_rfl⟩
instance NO:dO Tryz.prog 83 5 6:=⟨fun ad w=> by kernel_rfl⟩
instance Oi:dO Tryz.prog 83 6 7:=⟨fun ad w=> by kernel_rfl⟩
instance Nf:dO Tryz.prog 83 7 8:=⟨fun ad w=> by kernel_rfl⟩
instance Ov:dO Tryz.prog 83 8 49:=⟨fun ad w=> by kernel_rfl⟩
instance MX:dO Tryz.prog 83 9 50:=⟨fun ad w=> by kernel_rfl⟩
instance LS:dO Tryz.prog 83 10 51:=⟨fun ad w=> by kernel_rfl⟩
instance Ou:dO Tryz.prog 87 0 0:=⟨fun ad w=> by kernel_rfl⟩
instance Ow:dO Tryz.prog 87 1 1:=⟨fun ad w=> by kernel_rfl⟩
instance NQ:dO Tryz.prog 87 2 2:=⟨fun ad w=> by kernel_rfl⟩
instance MQ:dO Tryz.prog 87 3 11:=⟨fun ad w=> by kernel_rfl⟩
instance MV:dO Tryz.prog 87 4 12:=⟨fun ad w=> by kernel_rfl⟩
instance Nk:dO Tryz.prog 87 5 13:=⟨fun ad w=> by kernel_rfl⟩
instance NL:dO Tryz.prog 87 6 14:=⟨fun ad w=> by kernel_rfl⟩
instance MH:dO Tryz.prog 96 0 0:=⟨fun ad w=> by kernel_rfl⟩
instance ND:dO Tryz.prog 96 1 3:=⟨fun ad w=> by kernel_rfl⟩
instance Mm:dO Tryz.prog 96 2 4:=⟨fun ad w=> by kernel_rfl⟩
instance No:dO Tryz.prog 96 3 5:=⟨fun ad w=> by kernel_rfl⟩
instance Mp:dO Tryz.prog 96 4 6:=⟨fun ad w=> by kernel_rfl⟩
instance ML:dO Tryz.prog 96 5 7:=⟨fun ad w=> by kernel_rfl⟩
instance Lq:dO Tryz.prog 103 0 0:=⟨fun ad w=> by kernel_rfl⟩
instance Me:dO Tryz.prog 103 1 3:=⟨fun ad w=> by kernel_rfl⟩
instance LP:dO Tryz.prog 103 2 4:=⟨fun ad w=> by kernel_rfl⟩
instance LF:dO Tryz.prog 109 0 0:=⟨fun ad w=> by kernel_rfl⟩
instance LV:dO Tryz.prog 109 1 3:=⟨fun ad w=> by kernel_rfl⟩
instance LE:dO Tryz.prog 109 2 4:=⟨fun ad w=> by kernel_rfl⟩
instance Mg:dO Tryz.prog 126 0 0:=⟨fun ad w=> by kernel_rfl⟩
instance LO:dO Tryz.prog 126 1 1:=⟨fun ad w=> by kernel_rfl⟩
instance Lu:dO Tryz.prog 132 0 0:=⟨fun ad w=> by kernel_rfl⟩
instance LR:dO Tryz.prog 132 1 1:=⟨fun ad w=> by kernel_rfl⟩
instance Ls:dO Tryz.prog 171 0 0:=⟨fun ad w=> by kernel_rfl⟩
instance Lp:dO Tryz.prog 171 1 43:=⟨fun ad w=> by kernel_rfl⟩
instance Lt:dO Tryz.prog 171 2 53:=⟨fun ad w=> by kernel_rfl⟩
instance LH:dO Tryz.prog 171 3 54:=⟨fun ad w=> by kernel_rfl⟩
instance LN:dO Tryz.prog 171 4 59:=⟨fun ad w=> by kernel_rfl⟩
instance Lo:dO Tryz.prog 171 5 60:=⟨fun ad w=> by kernel_rfl⟩
instance LZ:dO Tryz.prog 171 6 61:=⟨fun ad w=> by kernel_rfl⟩
instance LD:dO Tryz.prog 171 7 62:=⟨fun ad w=> by kernel_rfl⟩
instance LT:dO Tryz.prog 171 8 63:=⟨fun ad w=> by kernel_rfl⟩
instance Ll:dO Tryz.prog 196 0 0:=⟨fun ad w=> by kernel_rfl⟩
instance Mb:dO Tryz.prog 196 1 5:=⟨fun ad w=> by kernel_rfl⟩
instance LK:dO Tryz.prog 222 0 0:=⟨fun ad w=> by kernel_rfl⟩
instance LL:dO Tryz.prog 222 1 1:=⟨fun ad w=> by kernel_rfl⟩
instance Mc:dO Tryz.prog 222 3 3:=⟨fun ad w=> by kernel_rfl⟩
instance LG:dO Tryz.prog 222 4 4:=⟨fun ad w=> by kernel_rfl⟩
instance LU:dO Tryz.prog 225 0 0:=⟨fun ad w=> by kernel_rfl⟩
instance LC:dO Tryz.prog 225 2 2:=⟨fun ad w=> by kernel_rfl⟩
instance Ma:dO Tryz.prog 225 3 3:=⟨fun ad w=> by kernel_rfl⟩
instance UU:bV Tryz.prog 21:=⟨fun args w=> by kernel_rfl⟩
instance RR:bV Tryz.prog 23:=⟨fun args w=> by kernel_rfl⟩
instance Tp:bV Tryz.prog 26:=⟨fun args w=> by kernel_rfl⟩
instance Tw:bV Tryz.prog 30:=⟨fun args w=> by kernel_rfl⟩
instance US:bV Tryz.prog 31:=⟨fun args w=> by kernel_rfl⟩
instance TK:bV Tryz.prog 32:=⟨fun args w=> by kernel_rfl⟩
instance Tt:bV Tryz.prog 33:=⟨fun args w=> by kernel_rfl⟩
instance Tm:bV Tryz.prog 34:=⟨fun args w=> by kernel_rfl⟩
instance Sp:bV Tryz.prog 35:=⟨fun args w=> by kernel_rfl⟩
instance Ud:bV Tryz.prog 39:=⟨fun args w=> by kernel_rfl⟩
instance UG:bV Tryz.prog 40:=⟨fun args w=> by kernel_rfl⟩
instance TO:bV Tryz.prog 41:=⟨fun args w=> by kernel_rfl⟩
instance Sn:bV Tryz.prog 42:=⟨fun args w=> by kernel_rfl⟩
instance TX:bV Tryz.prog 43:=⟨fun args w=> by kernel_rfl⟩
instance Ux:bV Tryz.prog 44:=⟨fun args w=> by kernel_rfl⟩
instance Th:bV Tryz.prog 45:=⟨fun args w=> by kernel_rfl⟩
instance TT:bV Tryz.prog 46:=⟨fun args w=> by kernel_rfl⟩
instance UD:bV Tryz.prog 47:=⟨fun args w=> by kernel_rfl⟩
instance Up:bV Tryz.prog 48:=⟨fun args w=> by kernel_rfl⟩
instance Uy:bV Tryz.prog 49:=⟨fun args w=> by kernel_rfl⟩
instance RV:bV Tryz.prog 50:=⟨fun args w=> by kernel_rfl⟩
instance Sa:bV Tryz.prog 51:=⟨fun args w=> by kernel_rfl⟩
instance Uk:bV Tryz.prog 52:=⟨fun args w=> by kernel_rfl⟩
instance UL:bV Tryz.prog 53:=⟨fun args w=> by kernel_rfl⟩
instance SI:bV Tryz.prog 54:=⟨fun args w=> by kernel_rfl⟩
instance TD:bV Tryz.prog 55:=⟨fun args w=> by kernel_rfl⟩
instance TQ:bV Tryz.prog 56:=⟨fun args w=> by kernel_rfl⟩
instance ST:bV Tryz.prog 57:=⟨fun args w=> by kernel_rfl⟩
instance Um:bV Tryz.prog 58:=⟨fun args w=> by kernel_rfl⟩
instance To:bV Tryz.prog 59:=⟨fun args w=> by kernel_rfl⟩
instance UT:bV Tryz.prog 61:=⟨fun args w=> by kernel_rfl⟩
instance TA:bV Tryz.prog 62:=⟨fun args w=> by kernel_rfl⟩
instance Td:bV Tryz.prog 63:=⟨fun args w=> by kernel_rfl⟩
instance SX:bV Tryz.prog 64:=⟨fun args w=> by kernel_rfl⟩
instance UP:bV Tryz.prog 65:=⟨fun args w=> by kernel_rfl⟩
instance TG:bV Tryz.prog 72:=⟨fun args w=> by kernel_rfl⟩
instance UI:bV Tryz.prog 73:=⟨fun args w=> by kernel_rfl⟩
instance TJ:bV Tryz.prog 74:=⟨fun args w=> by kernel_rfl⟩
instance RP:bV Tryz.prog 75:=⟨fun args w=> by kernel_rfl⟩
instance Tg:bV Tryz.prog 76:=⟨fun args w=> by kernel_rfl⟩
instance RS:bV Tryz.prog 77:=⟨fun args w=> by kernel_rfl⟩
instance UO:bV Tryz.prog 78:=⟨fun args w=> by kernel_rfl⟩
instance SK:bV Tryz.prog 79:=⟨fun args w=> by kernel_rfl⟩
instance TV:bV Tryz.prog 80:=⟨fun args w=> by kernel_rfl⟩
instance Sb:bV Tryz.prog 81:=⟨fun args w=> by kernel_rfl⟩
instance Tb:bV Tryz.prog 82:=⟨fun args w=> by kernel_rfl⟩
instance Sk:bV Tryz.prog 83:=⟨fun args w=> by kernel_rfl⟩
instance UE:bV Tryz.prog 84:=⟨fun args w=> by kernel_rfl⟩
instance Uc:bV Tryz.prog 85:=⟨fun args w=> by kernel_rfl⟩
instance Ut:bV Tryz.prog 86:=⟨fun args w=> by kernel_rfl⟩
instance Uh:bV Tryz.prog 87:=⟨fun args w=> by kernel_rfl⟩
instance RX:bV Tryz.prog 88:=⟨fun args w=> by kernel_rfl⟩
instance Se:bV Tryz.prog 89:=⟨fun args w=> by kernel_rfl⟩
instance Us:bV Tryz.prog 90:=⟨fun args w=> by kernel_rfl⟩
instance Uo:bV Tryz.prog 91:=⟨fun args w=> by kernel_rfl⟩
instance RO:bV Tryz.prog 92:=⟨fun args w=> by kernel_rfl⟩
instance TM:bV Tryz.prog 93:=⟨fun args w=> by kernel_rfl⟩
instance UF:bV Tryz.prog 94:=⟨fun args w=> by kernel_rfl⟩
instance Ti:bV Tryz.prog 95:=⟨fun args w=> by kernel_rfl⟩
instance TR:bV Tryz.prog 96:=⟨fun args w=> by kernel_rfl⟩
instance Tr:bV Tryz.prog 97:=⟨fun args w=> by kernel_rfl⟩
instance RD:bV Tryz.prog 106:=⟨fun args w=> by kernel_rfl⟩
instance Po:bV Tryz.prog 107:=⟨fun args w=> by kernel_rfl⟩
instance Qs:bV Tryz.prog 108:=⟨fun args w=> by kernel_rfl⟩
instance Qw:bV Tryz.prog 109:=⟨fun args w=> by kernel_rfl⟩
instance Rx:bV Tryz.prog 110:=⟨fun args w=> by kernel_rfl⟩
instance Qb:bV Tryz.prog 111:=⟨fun args w=> by kernel_rfl⟩
instance Pj:bV Tryz.prog 112:=⟨fun args w=> by kernel_rfl⟩
instance OO:bV Tryz.prog 113:=⟨fun args w=> by kernel_rfl⟩
instance Rk:bV Tryz.prog 114:=⟨fun args w=> by kernel_rfl⟩
instance RE:bV Tryz.prog 115:=⟨fun args w=> by kernel_rfl⟩
instance QP:bV Tryz.prog 116:=⟨fun args w=> by kernel_rfl⟩
instance OY:bV Tryz.prog 117:=⟨fun args w=> by kernel_rfl⟩
instance QW:bV Tryz.prog 118:=⟨fun args w=> by kernel_rfl⟩
instance RG:bV Tryz.prog 119:=⟨fun args w=> by kernel_rfl⟩
instance Qx:bV Tryz.prog 120:=⟨fun args w=> by kernel_rfl⟩
instance Pt:bV Tryz.prog 121:=⟨fun args w=> by kernel_rfl⟩
instance Qk:bV Tryz.prog 122:=⟨fun args w=> by kernel_rfl⟩
instance Qu:bV Tryz.prog 123:=⟨fun args w=> by kernel_rfl⟩
instance Qj:bV Tryz.prog 124:=⟨fun args w=> by kernel_rfl⟩
instance Qq:bV Tryz.prog 125:=⟨fun args w=> by kernel_rfl⟩
instance PZ:bV Tryz.prog 126:=⟨fun args w=> by kernel_rfl⟩
instance Pr:bV Tryz.prog 127:=⟨fun args w=> by kernel_rfl⟩
instance Rf:bV Tryz.prog 128:=⟨fun args w=> by kernel_rfl⟩
instance QG:bV Tryz.prog 129:=⟨fun args w=> by kernel_rfl⟩
instance OQ:bV Tryz.prog 130:=⟨fun args w=> by kernel_rfl⟩
instance Rb:bV Tryz.prog 131:=⟨fun args w=> by kernel_rfl⟩
instance PK:bV Tryz.prog 132:=⟨fun args w=> by kernel_rfl⟩
instance PI:bV Tryz.prog 133:=⟨fun args w=> by kernel_rfl⟩
instance QL:bV Tryz.prog 134:=⟨fun args w=> by kernel_rfl⟩
instance Pe:bV Tryz.prog 135:=⟨fun args w=> by kernel_rfl⟩
instance Py:bV Tryz.prog 136:=⟨fun args w=> by kernel_rfl⟩
instance OV:bV Tryz.prog 137:=⟨fun args w=> by kernel_rfl⟩
instance Qz:bV Tryz.prog 138:=⟨fun args w=> by kernel_rfl⟩
instance QE:bV Tryz.prog 139:=⟨fun args w=> by kernel_rfl⟩
instance OX:bV Tryz.prog 140:=⟨fun args w=> by kernel_rfl⟩
instance Rt:bV Tryz.prog 141:=⟨fun args w=> by kernel_rfl⟩
instance Rw:bV Tryz.prog 142:=⟨fun args w=> by kernel_rfl⟩
instance Pb:bV Tryz.prog 143:=⟨fun args w=> by kernel_rfl⟩
instance RK:bV Tryz.prog 144:=⟨fun args w=> by kernel_rfl⟩
instance QI:bV Tryz.prog 145:=⟨fun args w=> by kernel_rfl⟩
instance Qy:bV Tryz.prog 146:=⟨fun args w=> by kernel_rfl⟩
instance QT:bV Tryz.prog 147:=⟨fun args w=> by kernel_rfl⟩
instance Ri:bV Tryz.prog 148:=⟨fun args w=> by kernel_rfl⟩
instance PQ:bV Tryz.prog 149:=⟨fun args w=> by kernel_rfl⟩
instance PH:bV Tryz.prog 150:=⟨fun args w=> by kernel_rfl⟩
instance QR:bV Tryz.prog 151:=⟨fun args w=> by kernel_rfl⟩
instance Pp:bV Tryz.prog 152:=⟨fun args w=> by kernel_rfl⟩
instance Qh:bV Tryz.prog 153:=⟨fun args w=> by kernel_rfl⟩
instance Rj:bV Tryz.prog 154:=⟨fun args w=> by kernel_rfl⟩
instance QY:bV Tryz.prog 155:=⟨fun args w=> by kernel_rfl⟩
instance OR:bV Tryz.prog 159:=⟨fun args w=> by kernel_rfl⟩
instance Rc:bV Tryz.prog 160:=⟨fun args w=> by kernel_rfl⟩
instance PY:bV Tryz.prog 161:=⟨fun args w=> by kernel_rfl⟩
instance RI:bV Tryz.prog 162:=⟨fun args w=> by kernel_rfl⟩
instance QD:bV Tryz.prog 163:=⟨fun args w=> by kernel_rfl⟩
instance PM:bV Tryz.prog 164:=⟨fun args w=> by kernel_rfl⟩
instance Ru:bV Tryz.prog 165:=⟨fun args w=> by kernel_rfl⟩
instance OW:bV Tryz.prog 166:=⟨fun args w=> by kernel_rfl⟩
instance Pl:bV Tryz.prog 167:=⟨fun args w=> by kernel_rfl⟩
instance Qd:bV Tryz.prog 180:=⟨fun args w=> by kernel_rfl⟩
instance Pw:bV Tryz.prog 181:=⟨fun args w=> by kernel_rfl⟩
instance RC:bV Tryz.prog 182:=⟨fun args w=> by kernel_rfl⟩
instance PR:bV Tryz.prog 183:=⟨fun args w=> by kernel_rfl⟩
instance Qi:bV Tryz.prog 184:=⟨fun args w=> by kernel_rfl⟩
instance Rz:bV Tryz.prog 185:=⟨fun args w=> by kernel_rfl⟩
instance PA:bV Tryz.prog 187:=⟨fun args w=> by kernel_rfl⟩
instance QS:bV Tryz.prog 188:=⟨fun args w=> by kernel_rfl⟩
instance QU:bV Tryz.prog 189:=⟨fun args w=> by kernel_rfl⟩
instance OT:bV Tryz.prog 190:=⟨fun args w=> by kernel_rfl⟩
instance Pm:bV Tryz.prog 194:=⟨fun args w=> by kernel_rfl⟩
instance RB:bV Tryz.prog 195:=⟨fun args w=> by kernel_rfl⟩
instance Qv:bV Tryz.prog 196:=⟨fun args w=> by kernel_rfl⟩
instance Ra:bV Tryz.prog 197:=⟨fun args w=> by kernel_rfl⟩
instance QQ:bV Tryz.prog 199:=⟨fun args w=> by kernel_rfl⟩
instance Qo:bV Tryz.prog 200:=⟨fun args w=> by kernel_rfl⟩
instance QF:bV Tryz.prog 201:=⟨fun args w=> by kernel_rfl⟩
instance Qt:bV Tryz.prog 202:=⟨fun args w=> by kernel_rfl⟩
instance QB:bV Tryz.prog 203:=⟨fun args w=> by kernel_rfl⟩
instance Qp:bV Tryz.prog 204:=⟨fun args w=> by kernel_rfl⟩
instance Qm:bV Tryz.prog 205:=⟨fun args w=> by kernel_rfl⟩
instance PF:bV Tryz.prog 207:=⟨fun args w=> by kernel_rfl⟩
instance Qe:bV Tryz.prog 208:=⟨fun args w=> by kernel_rfl⟩
instance QJ:bV Tryz.prog 221:=⟨fun args w=> by kernel_rfl⟩
instance Ro:bV Tryz.prog 222:=⟨fun args w=> by kernel_rfl⟩
instance Pf:bV Tryz.prog 223:=⟨fun args w=> by kernel_rfl⟩
instance QX:bV Tryz.prog 224:=⟨fun args w=> by kernel_rfl⟩
instance ON:bV Tryz.prog 225:=⟨fun args w=> by kernel_rfl⟩
instance Ph:bV Tryz.prog 226:=⟨fun args w=> by kernel_rfl⟩
instance Rr:bV Tryz.prog 227:=⟨fun args w=> by kernel_rfl⟩
instance Ql:bV Tryz.prog 228:=⟨fun args w=> by kernel_rfl⟩
instance Px:bV Tryz.prog 235:=⟨fun args w=> by kernel_rfl⟩
instance Rq:bV Tryz.prog 236:=⟨fun args w=> by kernel_rfl⟩
instance RH:bV Tryz.prog 237:=⟨fun args w=> by kernel_rfl⟩
instance OU:bV Tryz.prog 240:=⟨fun args w=> by kernel_rfl⟩
end Go.Proofs.YtmjnackchaahbaaGreat

namespace Go.Proofs.YtmjnackchaahbaaGreat

instance Tn:Bld Tryz.prog 26 Mf (fun i=> ([(0,1),(1,40),(41,1),(42,1)]:List (Nat×Nat))[i]?):=Bld.struct (bytes:=360) (.agg (Mf).toArray) [(0,1),(1,40),(41,1),(42,1)] Tryz.underlying26 ae rfl oC (fun w=> by kernel_rfl)
instance TU:Bld Tryz.prog 30 Fa (fun i=> some (i*1,1)):=Bld.array (bytes:=72) (.agg (Fa).toArray) Tryz.underlying30 ae rfl oC ae
instance UM:Bld Tryz.prog 34 LI (fun i=> ([(0,1),(1,1),(2,1),(3,1),(4,1)]:List (Nat×Nat))[i]?):=Bld.struct (bytes:=88) (.agg (LI).toArray) [(0,1),(1,1),(2,1),(3,1),(4,1)] Tryz.underlying34 ae rfl oC (fun w=> by kernel_rfl)
instance Sv:Bld Tryz.prog 39 LW (fun i=> ([(0,1),(1,1),(2,1),(3,1),(4,1),(5,1)]:List (Nat×Nat))[i]?):=Bld.struct (bytes:=112) (.agg (LW).toArray) [(0,1),(1,1),(2,1),(3,1),(4,1),(5,1)] Tryz.underlying39 ae rfl oC (fun w=> by kernel_rfl)
instance TL:Bld Tryz.prog 48 [.int .i64 0, .int .i64 0] (fun i=> ([(0,1),(1,1)]:List (Nat×Nat))[i]?):=Bld.struct (bytes:=16) (.agg #[.int .i64 0, .int .i64 0]) [(0,1),(1,1)] Tryz.underlying48 ae rfl oC (fun w=> by kernel_rfl)
instance Tj:Bld Tryz.prog 57 xQ (fun i=> ([(0,1),(1,1),(2,1),(3,1),(4,1)]:List (Nat×Nat))[i]?):=Bld.struct (bytes:=40) (.agg (xQ).toArray) [(0,1),(1,1),(2,1),(3,1),(4,1)] Tryz.underlying57 ae rfl oC (fun w=> by kernel_rfl)
instance SU:Bld Tryz.prog 71 JY (fun i=> ([(0,1),(1,1),(2,1),(3,1)]:List (Nat×Nat))[i]?):=Bld.struct (bytes:=56) (.agg (JY).toArray) [(0,1),(1,1),(2,1),(3,1)] Tryz.underlying71 ae rfl oC (fun w=> by kernel_rfl)
instance TH:Bld Tryz.prog 73 JV (fun i=> ([(0,1),(1,4)]:List (Nat×Nat))[i]?):=Bld.struct (bytes:=64) (.agg (JV).toArray) [(0,1),(1,4)] Tryz.underlying73 ae rfl oC (fun w=> by kernel_rfl)
instance SE:Bld Tryz.prog 80 [.slice none 0 0, .slice none 0 0] (fun i=> ([(0,1),(1,1)]:List (Nat×Nat))[i]?):=Bld.struct (bytes:=48) (.agg #[.slice none 0 0, .slice none 0 0]) [(0,1),(1,1)] Tryz.underlying80 ae rfl oC (fun w=> by kernel_rfl)
instance Sj:Bld Tryz.prog 83 LJ (fun i=> ([(0,1),(1,1),(2,1),(3,1),(4,2),(6,1),(7,1),(8,41),(49,1),(50,1),(51,1)]:List (Nat×Nat))[i]?):=Bld.struct (bytes:=480) (.agg (LJ).toArray) [(0,1),(1,1),(2,1),(3,1),(4,2),(6,1),(7,1),(8,41),(49,1),(50,1),(51,1)] Tryz.underlying83 ae rfl oC (fun w=> by kernel_rfl)
instance Ue:Bld Tryz.prog 87 AI (fun i=> ([(0,1),(1,1),(2,9),(11,1),(12,1),(13,1),(14,1)]:List (Nat×Nat))[i]?):=Bld.struct (bytes:=152) (.agg (AI).toArray) [(0,1),(1,1),(2,9),(11,1),(12,1),(13,1),(14,1)] Tryz.underlying87 ae rfl oC (fun w=> by kernel_rfl)
instance UB:Bld Tryz.prog 91 Gq (fun i=> ([(0,1),(1,1),(2,1)]:List (Nat×Nat))[i]?):=Bld.struct (bytes:=24) (.agg (Gq).toArray) [(0,1),(1,1),(2,1)] Tryz.underlying91 ae rfl oC (fun w=> by kernel_rfl)
instance Te:Bld Tryz.prog 93 KX (fun i=> ([(0,52),(52,1),(53,1),(54,1),(55,1),(56,1),(57,3),(60,6),(66,1)]:List (Nat×Nat))[i]?):=Bld.struct (bytes:=728) (.agg (KX).toArray) [(0,52),(52,1),(53,1),(54,1),(55,1),(56,1),(57,3),(60,6),(66,1)] Tryz.underlying93 ae rfl oC (fun w=> by kernel_rfl)
instance Tf:Bld Tryz.prog 96 Ge (fun i=> ([(0,3),(3,1),(4,1),(5,1),(6,1),(7,5)]:List (Nat×Nat))[i]?):=Bld.struct (bytes:=176) (.agg (Ge).toArray) [(0,3),(3,1),(4,1),(5,1),(6,1),(7,5)] Tryz.underlying96 ae rfl oC (fun w=> by kernel_rfl)
instance Pq:Bld Tryz.prog 103 KC (fun i=> ([(0,3),(3,1),(4,1)]:List (Nat×Nat))[i]?):=Bld.struct (bytes:=72) (.agg (KC).toArray) [(0,3),(3,1),(4,1)] Tryz.underlying103 ae rfl oC (fun w=> by kernel_rfl)
instance PJ:Bld Tryz.prog 109 xQ (fun i=> ([(0,3),(3,1),(4,1)]:List (Nat×Nat))[i]?):=Bld.struct (bytes:=40) (.agg (xQ).toArray) [(0,3),(3,1),(4,1)] Tryz.underlying109 ae rfl oC (fun w=> by kernel_rfl)
instance PU:Bld Tryz.prog 111 zm (fun i=> ([(0,5),(5,1),(6,1)]:List (Nat×Nat))[i]?):=Bld.struct (bytes:=56) (.agg (zm).toArray) [(0,5),(5,1),(6,1)] Tryz.underlying111 ae rfl oC (fun w=> by kernel_rfl)
instance PN:Bld Tryz.prog 115 xQ (fun i=> ([(0,3),(3,1),(4,1)]:List (Nat×Nat))[i]?):=Bld.struct (bytes:=40) (.agg (xQ).toArray) [(0,3),(3,1),(4,1)] Tryz.underlying115 ae rfl oC (fun w=> by kernel_rfl)
instance Rm:Bld Tryz.prog 117 Fa (fun i=> ([(0,5),(5,1),(6,1),(7,1),(8,1)]:List (Nat×Nat))[i]?):=Bld.struct (bytes:=72) (.agg (Fa).toArray) [(0,5),(5,1),(6,1),(7,1),(8,1)] Tryz.underlying117 ae rfl oC (fun w=> by kernel_rfl)
instance OS:Bld Tryz.prog 126 [.int .i64 0, .int .i64 0] (fun i=> ([(0,1),(1,1)]:List (Nat×Nat))[i]?):=Bld.struct (bytes:=16) (.agg #[.int .i64 0, .int .i64 0]) [(0,1),(1,1)] Tryz.underlying126 ae rfl oC (fun w=> by kernel_rfl)
instance Pc:Bld Tryz.prog 132 Hg (fun i=> ([(0,1),(1,9)]:List (Nat×Nat))[i]?):=Bld.struct (bytes:=96) (.agg (Hg).toArray) [(0,1),(1,9)] Tryz.underlying132 ae rfl oC (fun w=> by kernel_rfl)
instance Qc:Bld Tryz.prog 171 KS (fun i=> ([(0,43),(43,10),(53,1),(54,5),(59,1),(60,1),(61,1),(62,1),(63,1)]:List (Nat×Nat))[i]?):=Bld.struct (bytes:=608) (.agg (KS).toArray) [(0,43),(43,10),(53,1),(54,5),(59,1),(60,1),(61,1),(62,1),(63,1)] Tryz.underlying171 ae rfl oC (fun w=> by kernel_rfl)
instance Rp:Bld Tryz.prog 173 FG (fun i=> some (i*1,1)):=Bld.array (bytes:=192) (.agg (FG).toArray) Tryz.underlying173 ae rfl oC ae
instance QM:Bld Tryz.prog 176 [] (fun i=> ([]:List (Nat×Nat))[i]?):=Bld.struct (bytes:=0) (.agg #[]) [] Tryz.underlying176 ae rfl oC (fun w=> by kernel_rfl)
instance OZ:Bld Tryz.prog 196 HB (fun i=> ([(0,5),(5,1)]:List (Nat×Nat))[i]?):=Bld.struct (bytes:=48) (.agg (HB).toArray) [(0,5),(5,1)] Tryz.underlying196 ae rfl oC (fun w=> by kernel_rfl)
instance QC:Bld Tryz.prog 222 KV (fun i=> ([(0,1),(1,1),(2,1),(3,1),(4,1)]:List (Nat×Nat))[i]?):=Bld.struct (bytes:=72) (.agg (KV).toArray) [(0,1),(1,1),(2,1),(3,1),(4,1)] Tryz.underlying222 ae rfl oC (fun w=> by kernel_rfl)
instance QN:Bld Tryz.prog 225 Al (fun i=> ([(0,1),(1,1),(2,1),(3,1)]:List (Nat×Nat))[i]?):=Bld.struct (bytes:=40) (.agg (Al).toArray) [(0,1),(1,1),(2,1),(3,1)] Tryz.underlying225 ae rfl oC (fun w=> by kernel_rfl)
end Go.Proofs.YtmjnackchaahbaaGreat

set_option maxHeartbeats 2000000
namespace Go.Proofs.YtmjnackchaahbaaGreat
open Go.RowKit
def da (n m:Int):Int:=(if n < 0 then -(n+1) else n) % m
theorem gM (n m:Int) (h:0 < m):0≤da n m:=Int.emod_nonneg _ ab
theorem jb (n m:Int) (h:0 < m):da n m < m:=Int.emod_lt_of_pos _ h
theorem im (n m:Int) (hm:1≤m) (h1:m≤4611686018427387904) (h2: -9223372036854775808≤n) (h3:n≤9223372036854775807):
  Spec Tryz.prog 33 (aI [.v (.int .i64 n), .v (.int .i64 m)] []) (aC (.v (.int .i64 (da n m))) []):=by
 refine Spec.ofN Tryz.func33 rfl Tryz.ntmps33 rfl ?_
 refine go 8 ?_
 refine ay rfl (fun hc6=> ?_) (fun hc6=> ?_)
 ·refine go 3 ?_
  refine aj (wN _ rfl (bT ab)) ?_
  refine go 5 ?_
  refine aj (dh _ _ rfl rfl ab (Int.tmod_eq_emod_of_nonneg ab)) ?_
  refine cC rfl (am (au (sU rfl rfl ?_)))
  unfold da
  rw [if_pos hc6]
 refine cE (aG (bW rfl (bW rfl (aj (dh _ _ rfl rfl ab (Int.tmod_eq_emod_of_nonneg ab)) ?_))))
 refine cC rfl (am (au (sU rfl rfl ?_)))
 unfold da
 rw [if_neg ab]

theorem oV (n m:Nat) (xs ys:List Int) (hn:xs.length=n) (hm:ys.length=m) (h1:n≤4611686018427387904) (h2:m≤4611686018427387904):
  Spec Tryz.prog 30 (aI [.sl n (be xs), .sl m (be ys)] []) (aC (.v (.bool (decide (xs=ys)))) []):=by
 subst hn;subst hm
 refine Spec.ofN Tryz.func30 rfl Tryz.ntmps30 rfl ?_
 refine go 9 ?_
 refine aj (cM _ _ rfl rfl rfl) (am (ay rfl (fun hc10=> ?_) (fun hc10=> ?_)))
 ·refine aG (gv rfl (am (au (rE rfl rfl ?_))))
  exact decide_eq_false fun h=> by subst h;omega
 refine cE (aF fun K5 hK5=> ?_)
 refine aG (cC rfl (am (aH ?_)))
 refine aT (α:=Nat) (fun k=> k≤xs.length∧xs.length=ys.length∧xs.take k=ys.take k) 26 [(0,_),(1,_)] [] (fun k=> [(5, .v (.int .i64 (k:Int)))]) (fun k=> []) [] [] (fun k=> xs.length - k) 0 ?_ (by
  refine Le.mkJ [] [] rfl ?_ ?_ trivial trivial ?_
  ·exact ⟨(by exact iS rfl),(by exact iS rfl),(bj ag),trivial⟩
  ·exact trivial
  kernel_rfl) ?_
 ·exact ⟨by omega,by omega,rfl⟩
 intro k hk
 obtain ⟨hk,hl,ht⟩:=hk
 refine aF fun K7 hK7=> ?_
 refine go 6 ?_
 refine ay rfl (fun hc14=> ?_) (fun hc14=> ?_)
 ·have hkx:k < xs.length:=by omega
  have hky:k < ys.length:=by omega
  refine aR (hK7 _ ?_)
  refine aE (aH (aE ?_))
  refine az (σ':=an 26 [(0,_),(1,_),(5,_)] [] [] []) (by
   refine Le.mkJ [] [] rfl ?_ ?_ trivial trivial ?_
   ·exact ⟨(by exact iS rfl),(by exact iS rfl),(iV rfl),trivial⟩
   ·exact trivial
   kernel_rfl) ?_
  refine dA 9 [] ?_
  refine go 4 ?_
  refine aB (_,[]) (fun τ=> aO _ _ aa rfl rfl _ rfl ab (by (simp only [aq,aJ,aM];omega)) (by exact Nat.mul_one _)) ?_
  refine go 1 ?_
  refine aB (_,[]) (fun τ=> bl _ aa rfl (by exact cI _ _ ab) rfl) ?_
  refine go 5 ?_
  refine aB (_,[]) (fun τ=> aO _ _ aa rfl rfl _ rfl ab (by (simp only [aq,aJ,aM];omega)) (by exact Nat.mul_one _)) ?_
  refine go 1 ?_
  refine aB (_,[]) (fun τ=> bl _ aa rfl (by exact cI _ _ ab) rfl) ?_
  refine go 1 ?_
  refine aB (_,[]) (fun τ=> cM _ _ rfl rfl rfl) ?_
  refine go 1 ?_
  refine cq ⟨rfl,?_⟩
  refine am (ay rfl (fun hc25=> ?_) (fun hc25=> ?_))
  ·refine aG (gv rfl (am (au (rE rfl rfl ?_))))
   exact decide_eq_false fun h=> by subst h;exact hc25 rfl
  refine go 5 ?_
  refine ax (⟨k+1,?_,?_,?_⟩)
  ·refine ⟨by omega,hl,?_⟩
   rw [tY _ _ _ hkx,tY _ _ _ hky] at hc25
   rw [List.take_succ_eq_append_getElem hkx,List.take_succ_eq_append_getElem hky,ht,hc25]
  ·refine Le.mkJ [] [] rfl ?_ ?_ trivial trivial ?_
   ·exact ⟨(by exact iS rfl),(by exact iS rfl),(bj ag),trivial⟩
   ·exact trivial
   kernel_rfl
  omega
 refine aW (id (hK5 _ ?_))
 refine aG (gv rfl (am (au (rE rfl rfl ?_))))
 rw [List.take_of_length_le ab,List.take_of_length_le ab] at ht
 exact decide_eq_true ht
end Go.Proofs.YtmjnackchaahbaaGreat

set_option maxHeartbeats 2000000
namespace Go.Proofs.YtmjnackchaahbaaGreat
open Go.RowKit

theorem pv (b:UInt8):Spec Tryz.prog 221 (aI [.v (.int .u8 (b.toNat:Int))] []) (aC (.v (.bool (oe b))) []):=by
 have h:=DQ b
 refine Spec.ofN Tryz.func221 rfl Tryz.ntmps221 rfl ?_
 refine go 7 ?_
 refine cA (fun hg5=> ?_) (fun hg5=> ?_)
 ·have h:oe b=decide ((b.toNat:Int)≤122):=by rw [Bool.eq_iff_iff,h];simp [hg5]
  refine go 5 ?_
  refine au (rE rfl rfl ?_)
  exact h
 have h:oe b=false:=HP h (fun x=> by omega)
 refine go 5 ?_
 refine au (rE rfl rfl ?_)
 exact h
theorem mx (b:UInt8):Spec Tryz.prog 222 (aI [.v (.int .u8 (b.toNat:Int))] []) (aC (.v (.bool (gq b))) []):=by
 have h:=wo b
 refine Spec.ofN Tryz.func222 rfl Tryz.ntmps222 rfl ?_
 refine go 7 ?_
 refine cA (fun hg5=> ?_) (fun hg5=> ?_)
 ·have h:gq b=decide ((b.toNat:Int)≤57):=by rw [Bool.eq_iff_iff,h];simp [hg5]
  refine go 5 ?_
  refine au (rE rfl rfl ?_)
  exact h
 have h:gq b=false:=HP h (fun x=> by omega)
 refine go 5 ?_
 refine au (rE rfl rfl ?_)
 exact h
theorem qB (l:List Tx) (n:Nat) (hn:l.length=n) (h1:n≤1000) (t:Tx):Spec Tryz.prog 224 (aI [.sl n (fc l), .v (bt t)] []) (aC (.v (.bool (decide (t∈l)))) []):=by
 refine Spec.ofN Tryz.func224 rfl Tryz.ntmps224 rfl ?_
 refine aG (gv rfl (am (aF fun K2 hK2=> ?_)))
 refine aG (cC rfl (am (aH ?_)))
 refine aT (α:=Nat) (fun k=> k≤n∧t∉l.take k) 18 [(0,_),(1,_)] [] (fun k=> [(5, .v (.int .i64 (k:Int)))]) (fun k=> []) [] [] (fun k=> n - k) 0 ?_ (kj [] [] []) ?_
 ·exact ⟨Nat.zero_le _,by simp⟩
 intro k hk
 obtain ⟨hk,hnt⟩:=hk
 refine aF fun K4 hK4=> ?_
 refine go 6 ?_
 refine ay rfl (fun hc9=> ?_) (fun hc9=> ?_)
 ·refine aR (hK4 _ ?_)
  refine aE (aH (aG (gR rfl (bW rfl (aj (aO _ _ aa rfl rfl _ rfl ab (by (simp only [aq,aJ,aM,bh];omega)) (by exact Nat.mul_one _)) ?_)))))
  refine aj (bl _ aa rfl (by exact jG _ _ ab) rfl) ?_
  refine sZ rfl (aj (dg _ _ Tryz.underlying9 rfl rfl rfl) (am (ay rfl (fun hc17=> ?_) (fun hc17=> ?_))))
  ·refine aG (gv rfl (am (au (rE rfl rfl ?_))))
   exact decide_eq_true (hc17 ▸ ke ab)
  refine go 5 ?_
  refine ax (⟨k+1,?_,?_,?_⟩)
  ·exact ⟨by omega,kB hnt ab hc17⟩
  ·exact kj [] [] []
  omega
 have hall:t∉l:=by rwa [List.take_of_length_le ab] at hnt
 refine aW (id (hK2 _ ?_))
 refine aG (gv rfl (am (au (rE rfl rfl ?_))))
 exact decide_eq_false hall
theorem sK (s:Tx) (at_:Nat) (h1:s.length≤100000) (ha:at_≤s.length):Spec Tryz.prog 194 (aI [.v (bt s), .v (.int .i64 (at_:Int))] []) (aC (.v (.int .i64 (kV s at_ false:Int))) []):=by
 refine Spec.ofN Tryz.func194 rfl Tryz.ntmps194 rfl ?_
 refine aG (cC rfl (am (aF fun K2 hK2=> ?_)))
 refine aH ?_
 refine aT (α:=Nat) (fun k=> k≤s.length∧kV s k false=kV s at_ false) 41 [(0,_)] [] (fun k=> [(1, .v (.int .i64 (k:Int)))]) (fun k=> []) [] [] (fun k=> s.length - k) at_ ?_ (kj [] [] []) ?_
 ·exact ⟨ha,rfl⟩
 intro k hk
 obtain ⟨hk,hs⟩:=hk
 refine aF fun K3 hK3=> ?_
 refine go 6 ?_
 refine ay rfl (fun hc9=> ?_) (fun hc9=> ?_)
 ·obtain ⟨b,hb⟩:=kC (s:=s) (a:=k) ab
  have hbi:=NE b
  refine aR (hK3 _ ?_)
  refine aH (aG (sZ rfl (bW rfl (aj (lM _ _ Tryz.underlying9 rfl rfl (by assumption)) ?_))))
  refine cC rfl (am (aG (bW rfl (aj (ba _ _ rfl rfl rfl) (am (ay rfl (fun hc14=> ?_) (fun hc14=> ?_)))))))
  ·have hs:=(EM hb ab).symm.trans hs
   refine aH ?_
   refine aT (α:=Nat) (fun j=> k≤j∧j≤s.length∧kV s j true=kV s at_ false∧(j=k→j < s.length)) 41 [(0,_)] [] (fun j=> [(1, .v (.int .i64 (j:Int)))]) (fun j=> []) [] [] (fun j=> s.length - j) k ?_ (kj [] [] []) ?_
   ·exact ⟨Nat.le_refl _,by omega,hs,fun _=> by omega⟩
   intro j hj
   obtain ⟨hj1,hj2,hsj,hjk⟩:=hj
   refine aF fun K7 hK7=> ?_
   refine aF fun K8 hK8=> ?_
   refine go 6 ?_
   refine cA (fun hg19=> ?_) (fun hg19=> ?_)
   ·obtain ⟨u,hu⟩:=kC (s:=s) (a:=j) ab
    have hui:=NE u
    refine go 2 ?_
    refine aV rfl rfl (lM _ _ Tryz.underlying9 rfl rfl (by assumption)) ?_
    refine aV rfl rfl (cM _ _ rfl rfl rfl) (go 1 ?_)
    refine ax (hK8 _ ?_)
    refine ay rfl (fun hc24=> ?_) (fun hc24=> ?_)
    ·refine aR (hK7 _ ?_)
     refine go 5 ?_
     refine ax (⟨j+1,?_,?_,?_⟩)
     ·exact ⟨by omega,by omega,(Ik hu ab).symm.trans hsj,fun _=> by omega⟩
     ·exact kj [] [] []
     omega
    have hjs:kV s j false=kV s at_ false:=by rw [← hsj,Jv hu ab]
    have hjk':k < j:=Nat.lt_of_le_of_ne hj1 fun e=> by subst e;rw [hb] at hu;obtain rfl:=Option.some.inj hu;omega
    refine aW (id (⟨j,?_,?_,?_⟩))
    ·exact ⟨hj2,hjs⟩
    ·exact kj [] [] []
    omega
   have hjs:kV s j false=kV s at_ false:=by rw [← hsj,tT ab,tT ab]
   have hjk':k < j:=Nat.lt_of_le_of_ne hj1 fun e=> by have:=hjk e.symm;omega
   refine go 5 ?_
   refine ax (hK8 _ ?_)
   refine cK rfl rfl (aW (id (⟨j,?_,?_,?_⟩)))
   ·exact ⟨hj2,hjs⟩
   ·exact kj [] [] []
   omega
  refine aG (bW rfl (aj (ba _ _ rfl rfl rfl) (Ec rfl (cA (fun hg29=> ?_) (fun hg29=> ?_)))))
  ·have hs2:kV s (k+1) false=kV s at_ false:=(xi hb ab ab).symm.trans hs
   refine go 9 ?_
   refine az (σ':=an 41 [(0,_),(1,_)] [] [] []) kp ?_
   refine go 4 ?_
   refine ax (⟨k+1,?_,?_,?_⟩)
   ·exact ⟨by omega,hs2⟩
   ·exact kj [] [] []
   omega
  refine go 1 ?_
  refine aV rfl rfl (ba _ _ rfl rfl rfl) (go 2 ?_)
  refine cA (fun hg33=> ?_) (fun hg33=> ?_)
  ·have hs2:kV s (k+1) false=kV s at_ false:=(xi hb ab ab).symm.trans hs
   refine go 5 ?_
   refine az (σ':=an 41 [(0,_),(1,_)] [] [] []) kp ?_
   refine go 4 ?_
   refine ax (⟨k+1,?_,?_,?_⟩)
   ·exact ⟨by omega,hs2⟩
   ·exact kj [] [] []
   omega
  refine go 1 ?_
  refine aV rfl rfl (ba _ _ rfl rfl rfl) (go 2 ?_)
  refine ay rfl (fun hc36=> ?_) (fun hc36=> ?_)
  ·have hs2:kV s (k+1) false=kV s at_ false:=(xi hb ab ab).symm.trans hs
   refine az (σ':=an 41 [(0,_),(1,_)] [] [] []) kp ?_
   refine go 4 ?_
   refine ax (⟨k+1,?_,?_,?_⟩)
   ·exact ⟨by omega,hs2⟩
   ·exact kj [] [] []
   omega
  have hs3:=(FJ hb ab ab).symm.trans hs
  refine aE ?_
  refine az (σ':=an 41 [(1,_)] [] [] []) kp ?_
  refine aD (bW rfl (cC rfl (am (au (sU rfl rfl ?_)))))
  rw [hs3]
 refine aW (id (hK2 _ ?_))
 refine aG (bW rfl (cC rfl (am (au (sU rfl rfl ?_)))))
 rw [← hs,tT ab]
theorem qP (s:Tx) (h1:s.length≤100000) (hd: ∀ b∈s,gq b=true) (hv:ld s≤2147483647):Spec Tryz.prog 223 (aI [.v (bt s)] []) (aC (.v (.int .i64 (ld s:Int))) []):=by
 have hvt:=fun i=> AY s i
 refine Spec.ofN Tryz.func223 rfl Tryz.ntmps223 rfl ?_
 refine go 6 ?_
 refine aF fun K3 hK3=> ?_
 refine aG (cC rfl (am (aH ?_)))
 refine aT (α:=Nat) (fun k=> k≤s.length) 22 [(0,_)] [] (fun k=> [(3, .v (.int .i64 (ld (s.take k):Int))),(4, .v (.int .i64 (k:Int)))]) (fun k=> []) [] [] (fun k=> s.length - k) 0 ?_ (kj [] [] []) ?_
 ·omega
 intro k hk
 refine aF fun K5 hK5=> ?_
 refine go 6 ?_
 refine ay rfl (fun hc8=> ?_) (fun hc8=> ?_)
 ·obtain ⟨b,hb⟩:=kC (s:=s) (a:=k) ab
  have hbi:=NE b
  have hbd:=(wo b).1 (hd b (List.mem_of_getElem? hb))
  have hvs:=Ae hb
  have hv0:=hvt k
  have hv1:=hvt (k+1)
  have hvi:(10:Int)*(ld (s.take k):Int)+(b.toNat:Int) - 48=(ld (s.take (k+1)):Int):=by omega
  refine aR (hK5 _ ?_)
  refine aE (aH (aG (bW rfl (aj (xB _ _ rfl rfl (bT ab)) ?_))))
  refine sZ rfl (bW rfl (aj (lM _ _ Tryz.underlying9 rfl rfl (by assumption)) ?_))
  refine aj (uf _ Tryz.underlying5 Tryz.underlying3 rfl (bT ab)) ?_
  refine go 8 ?_
  refine cK rfl (decide_eq_false ab) ?_
  refine kT ?_
  refine az (σ':=an 22 [(0,_),(3,_),(4,_)] [] [] []) kp ?_
  refine go 4 ?_
  refine ax (⟨k+1,?_,?_,?_⟩)
  ·omega
  ·refine Le.mkJ [] [] rfl ?_ ?_ trivial trivial ?_
   ·exact ⟨(iV rfl),(bj ab),(bj ag),trivial⟩
   ·exact trivial
   kernel_rfl
  omega
 have he:s.take k=s:=List.take_of_length_le ab
 refine aW (id (hK3 _ ?_))
 refine aG (bW rfl (cC rfl (am (au (sU rfl rfl ?_)))))
 rw [he]
end Go.Proofs.YtmjnackchaahbaaGreat

set_option maxHeartbeats 2000000
namespace Go.Proofs.YtmjnackchaahbaaGreat
open Go.RowKit

theorem CH {p:UInt8→Bool} {c:UInt8}: ∀ {l:List UInt8},c∈l.takeWhile p→p c=true
 | [],h=> by simp at h
 | x::l,h=> by
  rw [List.takeWhile_cons] at h
  split at h
  ·rename_i hx
   rcases List.mem_cons.1 h with rfl | h
   ·exact hx
   exact CH h
  simp at h
def vI (c:UInt8):Bool:=oe c || gq c
theorem sL {s:Tx} {a:Nat} {b:UInt8} {t:Tk} (hb:s[a]? =some b) (h1:oe b=true) (h:rH (s.drop a) a=some t):lE vI s (a+1) - a≤10∧t=⟨1,a,(s.drop a).take (lE vI s (a+1) - a),0⟩:=by
 rw [wm hb]
 rw [fU hb,rH] at h
 simp only [h1,if_true] at h
 rw [show lE vI s (a+1) - a=(b::(s.drop (a+1)).takeWhile fun x=> oe x || gq x).length by unfold lE vI;rw [List.length_cons];omega]
 split at h
 ·cases h
 rename_i hl;exact ⟨by omega,(Option.some.inj h).symm⟩
theorem vJ {s:Tx} {a:Nat} {b:UInt8} {t:Tk} (hb:s[a]? =some b) (h1:oe b=false) (h2:gq b=true) (h:rH (s.drop a) a=some t):
  (∀ c∈(s.drop a).take (lE gq s (a+1) - a),gq c=true)∧ld ((s.drop a).take (lE gq s (a+1) - a))≤2147483647∧t=⟨2,a,(s.drop a).take (lE gq s (a+1) - a),ld ((s.drop a).take (lE gq s (a+1) - a))⟩:=by
 rw [wm hb]
 rw [fU hb,rH] at h
 simp only [h1,h2,if_true] at h
 simp only [Bool.false_eq_true,if_false] at h
 split at h
 ·cases h
 rename_i hl
 refine ⟨fun c hc=> ?_,by omega,(Option.some.inj h).symm⟩
 rcases List.mem_cons.1 hc with rfl | hc
 ·exact h2
 exact CH hc
theorem vg {s:Tx} {a:Nat} {b:UInt8} {t:Tk} (hb:s[a]? =some b) (h1:oe b=false) (h2:gq b=false) (h:rH (s.drop a) a=some t):
  ((s.drop a).take 2∈GB∧t=⟨3,a,(s.drop a).take 2,0⟩)∨((s.drop a).take 2∉GB∧(s.drop a).take 1∈JN∧t=⟨3,a,(s.drop a).take 1,0⟩):=by
 rw [fU hb,rH] at h
 simp only [h1,h2,Bool.false_eq_true,if_false] at h
 rw [fU hb]
 split at h
 ·rename_i hm;exact .inl ⟨hm,(Option.some.inj h).symm⟩
 rename_i hm
 split at h
 ·rename_i hs;exact .inr ⟨hm,hs,(Option.some.inj h).symm⟩
 cases h
theorem zQ {s:Tx} {a:Nat} (h:a < s.length):(s.drop a).take (min (a+2) s.length - a)=(s.drop a).take 2:=by
 by_cases h2:a+2≤s.length
 ·congr 1;omega
 rw [List.take_of_length_le (by rw [List.length_drop];omega),List.take_of_length_le (by rw [List.length_drop];omega)]
theorem xf (s:Tx) (a:Nat) (h1:s.length≤100000) (ha:a < s.length) (t:Tk) (ht:rH (s.drop a) a=some t):
  Spec Tryz.prog 195 (aI [.v (bt s), .v (.int .i64 (a:Int))] []) (aC (.tup [.agg [.v (.int .i64 (t.k:Int)), .v (.int .i64 (t.a:Int)), .v (bt t.t), .v (.int .i64 (t.n:Int))], .v (.int .i64 0)]) []):=by
 obtain ⟨b,hb⟩:=kC ha
 have hwl:=ta (p:=vI) (s:=s) (a:=a+1) ab
 have hdl:=ta (p:=gq) (s:=s) (a:=a+1) ab
 refine Spec.ofN Tryz.func195 rfl Tryz.ntmps195 rfl ?_
 refine go 13 ?_
 refine aj (lM _ _ Tryz.underlying9 rfl rfl (by assumption)) ?_
 refine aj (ap aa al (pv b) rfl rfl) ?_
 refine am (ay rfl (fun hc15=> ?_) (fun hc15=> ?_))
 ·obtain ⟨htl,hte⟩:=sL hb hc15 ht
  refine aF fun K5 hK5=> ?_
  refine aH ?_
  refine aT (α:=Nat) (fun e=> a+1≤e∧e≤s.length∧lE vI s e=lE vI s (a+1)) 101 [(0,_),(1,_),(4,_)] [((4,0),_)] (fun e=> [(6, .v (.int .i64 (e:Int)))]) (fun e=> []) [] [] (fun e=> s.length - e) (a+1) ?_ (kj [0] [] []) ?_
  ·exact ⟨Nat.le_refl _,by omega,rfl⟩
  intro e he
  obtain ⟨he1,he2,het⟩:=he
  refine aF fun K6 hK6=> ?_
  refine aF fun K7 hK7=> ?_
  refine go 6 ?_
  refine cA (fun hg20=> ?_) (fun hg20=> ?_)
  ·obtain ⟨u,hu⟩:=kC (s:=s) (a:=e) ab
   refine go 2 ?_
   refine aV rfl rfl (lM _ _ Tryz.underlying9 rfl rfl (by assumption)) ?_
   refine aV rfl rfl (ap aa al (pv u) rfl rfl) ?_
   refine go 1 ?_
   refine cA (fun hg25=> ?_) (fun hg25=> ?_)
   ·have hnx:lE vI s (e+1)=lE vI s (a+1):=(ui hu (by unfold vI;rw [hg25];rfl)).symm.trans het
    refine go 6 ?_
    refine ax (hK7 _ ?_)
    refine fR rfl rfl (aR (hK6 _ ?_))
    refine aH ?_
    refine az (σ':=an 101 [(0,_),(1,_),(4,_),(6,_)] [((4,0),_)] [] []) kp ?_
    refine go 4 ?_
    refine ax (⟨e+1,?_,?_,?_⟩)
    ·exact ⟨by omega,by omega,hnx⟩
    ·exact kj [0] [] []
    omega
   refine go 2 ?_
   refine aV rfl rfl (lM _ _ Tryz.underlying9 rfl rfl (by assumption)) ?_
   refine aV rfl rfl (ap aa al (mx u) rfl rfl) ?_
   refine go 2 ?_
   refine ax (hK7 _ ?_)
   refine ay rfl (fun hc31=> ?_) (fun hc31=> ?_)
   ·have hnx:lE vI s (e+1)=lE vI s (a+1):=(ui hu (by unfold vI;rw [hg25,hc31];rfl)).symm.trans het
    refine aR (hK6 _ ?_)
    refine aH ?_
    refine az (σ':=an 101 [(0,_),(1,_),(4,_),(6,_)] [((4,0),_)] [] []) kp ?_
    refine go 4 ?_
    refine ax (⟨e+1,?_,?_,?_⟩)
    ·exact ⟨by omega,by omega,hnx⟩
    ·exact kj [0] [] []
    omega
   have hfin:e=lE vI s (a+1):=(BE hu (by unfold vI;rw [hg25,hc31];rfl)).symm.trans het
   refine aW (id (hK5 _ ?_))
   refine aE (aE ?_)
   refine az (σ':=an 101 [(0,_),(1,_),(4,_),(6,_)] [((4,0),_)] [] []) kp ?_
   refine go 6 ?_
   refine cK rfl (decide_eq_false ab) ?_
   refine go 6 ?_
   refine aj (lD _ _ _ Tryz.underlying9 rfl _ _ (.lit rfl rfl) (.lit rfl rfl) ab ab rfl) ?_
   refine go 4 ?_
   refine au ?_
   subst hte;subst hfin
   exact jO (.inr rfl) rfl (.cellA aa rfl rfl rfl) (.tmp kU) (Le.out [] [] (.tup rfl lz) rfl rfl rfl trivial trivial)
  have hfin:e=lE vI s (a+1):=(xX ab).symm.trans het
  refine go 11 ?_
  refine ax (hK7 _ ?_)
  refine cK rfl rfl (aW (id (hK5 _ ?_)))
  refine aE (aE ?_)
  refine az (σ':=an 101 [(0,_),(1,_),(4,_),(6,_)] [((4,0),_)] [] []) kp ?_
  refine go 6 ?_
  refine cK rfl (decide_eq_false ab) ?_
  refine go 6 ?_
  refine aj (lD _ _ _ Tryz.underlying9 rfl _ _ (.lit rfl rfl) (.lit rfl rfl) ab ab rfl) ?_
  refine go 4 ?_
  refine au ?_
  subst hte;subst hfin
  exact jO (.inr rfl) rfl (.cellA aa rfl rfl rfl) (.tmp kU) (Le.out [] [] (.tup rfl lz) rfl rfl rfl trivial trivial)
 have hlb:=hc15
 refine cE (aE (aG (sZ rfl (bW rfl (aj (lM _ _ Tryz.underlying9 rfl rfl (by assumption)) ?_)))))
 refine aj (ap aa al (mx b) rfl rfl) ?_
 refine am (ay rfl (fun hc48=> ?_) (fun hc48=> ?_))
 ·obtain ⟨htd,htv,hte⟩:=vJ hb hlb hc48 ht
  refine aF fun K16 hK16=> ?_
  refine aH ?_
  refine aT (α:=Nat) (fun e=> a+1≤e∧e≤s.length∧lE gq s e=lE gq s (a+1)) 101 [(0,_),(1,_),(4,_)] [((4,0),_)] (fun e=> [(6, .v (.int .i64 (e:Int)))]) (fun e=> []) [] [] (fun e=> s.length - e) (a+1) ?_ (kj [0] [] []) ?_
  ·exact ⟨Nat.le_refl _,by omega,rfl⟩
  intro e he
  obtain ⟨he1,he2,het⟩:=he
  refine aF fun K17 hK17=> ?_
  refine aF fun K18 hK18=> ?_
  refine go 6 ?_
  refine cA (fun hg53=> ?_) (fun hg53=> ?_)
  ·obtain ⟨u,hu⟩:=kC (s:=s) (a:=e) ab
   refine go 2 ?_
   refine aV rfl rfl (lM _ _ Tryz.underlying9 rfl rfl (by assumption)) ?_
   refine aV rfl rfl (ap aa al (mx u) rfl rfl) ?_
   refine go 1 ?_
   refine ax (hK18 _ ?_)
   refine ay rfl (fun hc58=> ?_) (fun hc58=> ?_)
   ·have hnx:lE gq s (e+1)=lE gq s (a+1):=(ui hu hc58).symm.trans het
    refine aR (hK17 _ ?_)
    refine go 5 ?_
    refine ax (⟨e+1,?_,?_,?_⟩)
    ·exact ⟨by omega,by omega,hnx⟩
    ·exact kj [0] [] []
    omega
   have hfin:e=lE gq s (a+1):=(BE hu hc58).symm.trans het
   refine aW (id (hK16 _ ?_))
   refine aG (sZ rfl (bW rfl (bW rfl (aj (lD _ _ _ Tryz.underlying9 rfl _ _ (.lit rfl rfl) (.lit rfl rfl) ab ab rfl) ?_))))
   refine aj (ap aa al (qP ((s.drop a).take (e - a)) (by simp;omega) (by rw [hfin];exact htd) (by rw [hfin];exact htv)) rfl rfl) ?_
   refine cC rfl (am (aE (aE ?_)))
   refine az (σ':=an 101 [(0,_),(1,_),(4,_),(6,_),(7,_)] [((4,0),_)] [] []) kp ?_
   refine go 4 ?_
   refine cK rfl (decide_eq_false ab) ?_
   refine go 6 ?_
   refine aj (lD _ _ _ Tryz.underlying9 rfl _ _ (.lit rfl rfl) (.lit rfl rfl) ab ab rfl) ?_
   refine go 5 ?_
   refine au ?_
   subst hte;subst hfin
   exact jO (.inr rfl) rfl (.cellA aa rfl rfl rfl) (.tmp kU) (Le.out [] [] (.tup rfl lz) rfl rfl rfl trivial trivial)
  have hfin:e=lE gq s (a+1):=(xX ab).symm.trans het
  refine go 5 ?_
  refine ax (hK18 _ ?_)
  refine cK rfl rfl (aW (id (hK16 _ ?_)))
  refine aG (sZ rfl (bW rfl (bW rfl (aj (lD _ _ _ Tryz.underlying9 rfl _ _ (.lit rfl rfl) (.lit rfl rfl) ab ab rfl) ?_))))
  refine aj (ap aa al (qP ((s.drop a).take (e - a)) (by simp;omega) (by rw [hfin];exact htd) (by rw [hfin];exact htv)) rfl rfl) ?_
  refine cC rfl (am (aE (aE ?_)))
  refine az (σ':=an 101 [(0,_),(1,_),(4,_),(6,_),(7,_)] [((4,0),_)] [] []) kp ?_
  refine go 4 ?_
  refine cK rfl (decide_eq_false ab) ?_
  refine go 6 ?_
  refine aj (lD _ _ _ Tryz.underlying9 rfl _ _ (.lit rfl rfl) (.lit rfl rfl) ab ab rfl) ?_
  refine go 5 ?_
  refine au ?_
  subst hte;subst hfin
  exact jO (.inr rfl) rfl (.cellA aa rfl rfl rfl) (.tmp kU) (Le.out [] [] (.tup rfl lz) rfl rfl rfl trivial trivial)
 have hsy:=vg hb hlb hc48 ht
 refine go 8 ?_
 refine aj (qt _ _ rfl rfl rfl) (aj (lD _ _ _ Tryz.underlying9 rfl a (min (a+2) s.length) (.lit rfl rfl) (.lit rfl ab) ab ab (zQ ha)) ?_)
 refine IC rfl (am (aE (aE ?_)))
 refine az (σ':=an 101 [(0,_),(1,_),(4,_),(6,_),(8,_)] [((4,0),_)] [] []) kp ?_
 refine go 3 ?_
 refine aj (ap aa al (qB GB 6 rfl ab ((s.drop a).take 2)) rfl rfl) ?_
 refine am (ay rfl (fun hc86=> ?_) (fun hc86=> ?_))
 ·have hte:t=⟨3,a,(s.drop a).take 2,0⟩:=hsy.elim (·.2) fun h=> absurd hc86 h.1
  refine go 7 ?_
  refine au ?_
  subst hte
  exact jO (.inr rfl) rfl (.cellA aa rfl rfl rfl) (.tmp kU) (Le.out [] [] (.tup rfl lz) rfl rfl rfl trivial trivial)
 obtain ⟨_,hs1,hte⟩:=hsy.resolve_left fun h=> hc86 h.1
 refine go 5 ?_
 refine aj (lD _ _ _ Tryz.underlying9 rfl a (a+1) (.lit rfl rfl) (.lit rfl rfl) ab ab (by rw [Nat.add_sub_cancel_left])) ?_
 refine go 6 ?_
 refine aj (ap aa al (qB JN 16 rfl ab ((s.drop a).take 1)) rfl rfl) ?_
 refine am (fR rfl (decide_eq_true hs1) ?_)
 refine go 7 ?_
 refine au ?_
 subst hte
 exact jO (.inr rfl) rfl (.cellA aa rfl rfl rfl) (.tmp kU) (Le.out [] [] (.tup rfl lz) rfl rfl rfl trivial trivial)
theorem mE {f:Nat} {s:Tx} {a:Nat} {l:List Tk} (h:nF (f+1) s a=some l):(s.length≤a∧l=[⟨0,s.length,[],0⟩])∨(a < s.length∧ ∃ t m,rH (s.drop a) a=some t∧nF f s (kV s (a+t.t.length) false)=some m∧l=t::m):=by
 unfold nF at h
 split at h
 ·exact .inl ⟨by assumption,(Option.some.inj h).symm⟩
 split at h
 ·cases h
 split at h
 ·cases h
 rename_i t ht _ m hm
 exact .inr ⟨by omega,t,m,ht,hm,(Option.some.inj h).symm⟩
theorem vU {s:Tx} {a:Nat} {t:Tk} (ha:a < s.length) (h:rH (s.drop a) a=some t):0 < t.t.length∧a+t.t.length≤s.length:=by
 obtain ⟨b,hb⟩:=kC ha
 have key: ∀ k,0 < k→0 < ((s.drop a).take k).length∧a+((s.drop a).take k).length≤s.length:=fun k hk=> by rw [List.length_take,List.length_drop];omega
 cases h1:oe b with
 | true=> obtain ⟨_,rfl⟩:=sL hb h1 h;exact key _ (by have:=ta (p:=vI) (s:=s) (a:=a+1) ab;omega)
 | false=>
  cases h2:gq b with
  | true=> obtain ⟨_,_,rfl⟩:=vJ hb h1 h2 h;exact key _ (by have:=ta (p:=gq) (s:=s) (a:=a+1) ab;omega)
  | false=>
   rcases vg hb h1 h2 h with ⟨_,rfl⟩ | ⟨_,_,rfl⟩
   ·exact key _ ab
   exact key _ ab
def IG (s:Tx) (l:List Tk) (z:Nat×List Tk):Prop:=z.1≤s.length∧z.2.length≤z.1∧ ∃ f m,nF f s z.1=some m∧l=z.2++m
theorem vf (s:Tx) (h1:s.length≤100000) (l:List Tk) (hl:Gt s=some l):
  Spec Tryz.prog 159 (aI [.v (bt s)] []) (aC (.tup [.sl l.length (um l), .v (.int .i64 0), .v (.int .i64 0)]) []):=by
 have hs0:=xp (s:=s) (a:=0) (Nat.zero_le _) false
 refine Spec.ofN Tryz.func159 rfl Tryz.ntmps159 rfl ?_
 refine aG (aj (aX _ eh) (cC rfl (cC rfl (am (aG (aj (qn (5,0) _ 225 4 rfl rfl) ?_))))))
 refine am (aG (sZ rfl (aj (ap aa al (sK s 0 h1 (Nat.zero_le _)) rfl rfl) ?_)))
 refine cC rfl (am (aF fun K4 hK4=> ?_))
 refine aH ?_
 refine aT (α:=Nat×List Tk) (fun z=> IG s l z) 42 [(0,_)] [] (fun z=> [(6, .v (.int .i64 (z.1:Int))),(5, .ref (5,0) 0 z.2.length)]) (fun z=> [((5,0), .row 225 4 (um z.2))]) [] [] (fun z=> s.length - z.1) (kV s 0 false,[]) ?_ (kj [2] [] []) ?_
 ·exact ⟨hs0.2,Nat.zero_le _,s.length+1,l,by rw [← hl];unfold Gt kV;rw [List.drop_zero,Nat.zero_add],rfl⟩
 intro z hz
 obtain ⟨hz1,hz2,f,m,hf,hlm⟩:=hz
 obtain ⟨f,rfl⟩: ∃ g,f=g+1:=by cases f with | zero=> (simp [nF] at hf) | succ g=> exact ⟨g,rfl⟩
 refine aF fun K5 hK5=> ?_
 refine go 6 ?_
 refine ay rfl (fun hc14=> ?_) (fun hc14=> ?_)
 ·obtain ⟨_,t,m',ht,hm',hm⟩:=(mE hf).resolve_left fun h=> by omega
  obtain ⟨htl,hta⟩:=vU ab ht
  have hsk:=xp (s:=s) (a:=z.1+t.t.length) hta false
  have hlen:(z.2++[t]).length=z.2.length+1:=by simp
  refine aR (hK5 _ ?_)
  refine aH (aG (sZ rfl (bW rfl (aj (ap aa al (xf s z.1 h1 ab t ht) rfl rfl) ?_))))
  refine go 14 ?_
  refine aE ?_
  refine az (σ':=an 42 [(0,_),(5,_),(6,_),(7,_)] [((5,0),_),((7,0),_)] [] []) kp ?_
  refine go 4 ?_
  refine aj (bI (28,0) _ _ aa rfl rfl (bc _).symm (.sl rfl) ab rfl (vC _ _) hlen.symm) ?_
  refine go 9 ?_
  refine aj (ap aa al (sK s (z.1+t.t.length) h1 hta) rfl rfl) ?_
  refine cC rfl (ax (⟨(kV s (z.1+t.t.length) false,z.2++[t]),?_,?_,?_⟩))
  ·exact ⟨hsk.2,by simp only;omega,f,m',hm',by rw [hlm,hm];simp⟩
  ·refine Le.mkJ [((5,0),(28,0))] [] rfl ?_ ?_ trivial trivial ?_
   ·exact ⟨(by repeat' (exact Lv.v)),(bj ag),(cf rfl ag),trivial⟩
   ·exact ⟨(cL rfl rfl rfl ag),trivial⟩
   kernel_rfl
  simp only;omega
 obtain ⟨_,hm⟩:=(mE hf).resolve_right fun h=> by omega
 have hlen:(z.2++[(⟨0,s.length,[],0⟩:Tk)]).length=z.2.length+1:=by simp
 rw [hm] at hlm;subst hlm
 refine aW (id (hK4 _ ?_))
 refine go 6 ?_
 refine aj (bI (41,0) _ _ aa rfl rfl (bc _).symm (.sl rfl) ab rfl (vC _ ⟨0,s.length,[],0⟩) hlen.symm) ?_
 exact eu rfl (cC rfl (cC rfl (am (au (wY (.inr rfl) rfl (.tmp mW) (.tmp kU) (.tmp kU) (Le.out [] [(41,0)] (.tup rfl (ai (dH rfl rfl (bc _).symm rfl) lz)) rfl rfl rfl tr trivial))))))
end Go.Proofs.YtmjnackchaahbaaGreat

set_option maxHeartbeats 2000000
namespace Go.Proofs.YtmjnackchaahbaaGreat
open Go.RowKit

theorem ca (l:List Tx) (n:Nat) (hn:l.length=n) (h1:n≤1000) (t:Tx):Spec Tryz.prog 199 (aI [.sl n (fc l), .v (bt t)] []) (aC (.v (.bool (decide (t∈l)))) []):=by
 refine Spec.ofN Tryz.func199 rfl Tryz.ntmps199 rfl ?_
 refine aG (gv rfl (am (aF fun K2 hK2=> ?_)))
 refine aG (cC rfl (am (aH ?_)))
 refine aT (α:=Nat) (fun k=> k≤n∧t∉l.take k) 18 [(0,_),(1,_)] [] (fun k=> [(5, .v (.int .i64 (k:Int)))]) (fun k=> []) [] [] (fun k=> n - k) 0 ?_ (kj [] [] []) ?_
 ·exact ⟨Nat.zero_le _,by simp⟩
 intro k hk
 obtain ⟨hk,hnt⟩:=hk
 refine aF fun K4 hK4=> ?_
 refine go 6 ?_
 refine ay rfl (fun hc9=> ?_) (fun hc9=> ?_)
 ·refine aR (hK4 _ ?_)
  refine aE (aH (aG (gR rfl (bW rfl (aj (aO _ _ aa rfl rfl _ rfl ab (by (simp only [aq,aJ,aM,bh,bc];omega)) (by exact Nat.mul_one _)) ?_)))))
  refine aj (bl _ aa rfl (by exact jG _ _ ab) rfl) ?_
  refine sZ rfl (aj (dg _ _ Tryz.underlying9 rfl rfl rfl) (am (ay rfl (fun hc17=> ?_) (fun hc17=> ?_))))
  ·refine aG (gv rfl (am (au (rE rfl rfl ?_))))
   exact decide_eq_true (hc17 ▸ ke ab)
  refine go 5 ?_
  refine ax (⟨k+1,?_,?_,?_⟩)
  ·exact ⟨by omega,kB hnt ab hc17⟩
  ·exact kj [] [] []
  omega
 have hall:t∉l:=by rwa [List.take_of_length_le ab] at hnt
 refine aW (id (hK2 _ ?_))
 refine aG (gv rfl (am (au (rE rfl rfl ?_))))
 exact decide_eq_false hall
theorem mr:Spec Tryz.prog 205 (aI [] []) (aC (.sl 9 (fc bltT)) []):=by
 refine Spec.ofN Tryz.func205 rfl Tryz.ntmps205 rfl ?_
 refine aG (aj (aX _ eh) (go 5 ?_))
 exact au (pO rfl rfl)
theorem ms (t:Tx):Spec Tryz.prog 225 (aI [.v (bt t)] []) (aC (.v (.bool (xA t))) []):=by
 refine Spec.ofN Tryz.func225 rfl Tryz.ntmps225 rfl ?_
 refine aG (gv rfl (am (aG (aj (ap aa (by repeat' (exact cp)) (mr) rfl rfl) ?_))))
 refine sZ rfl (aj (ap aa al (ca bltT 9 rfl ab t) rfl rfl) ?_)
 refine Ec rfl (cA (fun hg6=> ?_) (fun hg6=> ?_))
 ·refine go 6 ?_
  refine au (rE rfl rfl ?_)
  unfold xA
  (rw [decide_eq_true hg6];rfl)
 refine go 2 ?_
 refine aV rfl rfl (ap aa al (ca Rl 19 rfl ab t) rfl rfl) ?_
 refine go 3 ?_
 refine au (rE rfl rfl ?_)
 unfold xA
 (rw [decide_eq_false hg6];rfl)
theorem dS {T:List Tk} {i:Nat} (h:i < T.length):br T i < T.length:=by unfold br;split <;> omega
abbrev dL (T:List Tk) (i:Nat) (N:List Tx):List (aA×Cells):=[((0,9), .box 222 [.sl T.length (um T), .v (.int .i64 (i:Int)), .v (.int .i64 0), .v (.int .i64 0), .sl N.length (fc N)])]
theorem bw (T:List Tk) (i:Nat) (N:List Tx) (hi:i < T.length):
  Spec Tryz.prog 160 (aL [.ptr (0,9) 0] (dL T i N)) (aN (.v (bt (cX T i).t)) (dL T i N) [(0,9)] [(0,9)]):=by
 refine Spec.ofNI Tryz.func160 rfl Tryz.ntmps160 rfl ?_
 refine aG (IC rfl (am (aE (dA 12 [] ?_))))
 refine go 16 ?_
 refine aB (_,[]) (fun τ=> aO _ _ aa rfl rfl _ rfl ab (by (simp only [aq,aJ,aM,bh,bc];omega)) ag) ?_
 refine go 3 ?_
 refine aB (_,[]) (fun τ=> bl _ aa rfl (by exact nn _ _ ab) rfl) ?_
 refine go 5 ?_
 exact au (cg (.inr rfl) rfl (.tmp kU) (Le.outI [] [] .v rfl rfl rfl trivial ob tr rfl))
theorem dG (T:List Tk) (i:Nat) (N:List Tx) (hi:i < T.length):
  Spec Tryz.prog 197 (aL [.ptr (0,9) 0] (dL T i N)) (aN (.v (.bool (et T i))) (dL T i N) [(0,9)] [(0,9)]):=by
 refine Spec.ofNI Tryz.func197 rfl Tryz.ntmps197 rfl ?_
 refine aG (gv rfl (am (aE (dA 28 [] ?_))))
 refine go 16 ?_
 refine aB (_,[]) (fun τ=> aO _ _ aa rfl rfl _ rfl ab (by (simp only [aq,aJ,aM,bh,bc];omega)) ag) ?_
 refine go 3 ?_
 refine aB (_,[]) (fun τ=> bl _ aa rfl (by exact qS _ _ ab) rfl) ?_
 refine go 1 ?_
 refine aB (_,[]) (fun τ=> ba _ _ rfl rfl rfl) ?_
 refine go 2 ?_
 refine oR (fun hg15=> ?_) (fun hg15=> ?_)
 ·have hr:et T i= !xA (cX T i).t:=by unfold et;rw [decide_eq_true ab];rfl
  refine go 17 ?_
  refine dM (_,[]) rfl (fun τ=> rfl) (fun τ=> aO _ _ aa rfl rfl _ rfl ab (by (simp only [aq,aJ,aM,bh,bc];omega)) ag) ?_
  refine go 3 ?_
  refine dM (_,[]) rfl (fun τ=> rfl) (fun τ=> bl _ aa rfl (by exact nn _ _ ab) rfl) ?_
  refine go 1 ?_
  refine dM (_,[]) rfl (fun τ=> rfl) (fun τ=> (ap aa al (ms (cX T i).t) rfl rfl)) ?_
  refine go 9 ?_
  exact au (cg (.inr rfl) rfl (.tmp wq) (Le.outI [] [] (jL hr) rfl rfl rfl trivial ob tr rfl))
 have hr:et T i=false:=by unfold et;rw [decide_eq_false ab];rfl
 refine go 33 ?_
 exact au (cg (.inr rfl) rfl (.tmp wq) (Le.outI [] [] (jL hr) rfl rfl rfl trivial ob tr rfl))
theorem bX (T:List Tk) (i:Nat) (N:List Tx) (hi:i < T.length) (hT:T.length≤100000):
  Spec Tryz.prog 196 (aL [.ptr (0,9) 0] (dL T i N)) (aN (.tup []) (dL T (br T i) N) [(0,9)] [(0,9)]):=by
 refine Spec.ofNI Tryz.func196 rfl Tryz.ntmps196 rfl ?_
 refine aE (dA 11 [] ?_)
 refine go 24 ?_
 refine ay rfl (fun hc12=> ?_) (fun hc12=> ?_)
 ·have ht:br T i=i+1:=by unfold br;rw [if_pos ab]
  refine go 9 ?_
  exact ax (xa (.inl rfl) rfl (Le.outI [] [] (.tup rfl aK) rfl rfl rfl trivial ⟨⟨rfl,⟨_,rfl, .box rfl (ai .sl (ai (bj (by rw [ht] <;> omega)) lz))⟩,rfl⟩,trivial⟩ tr rfl))
 have ht:br T i=i:=by unfold br;rw [if_neg ab]
 exact aR (xa (.inl rfl) rfl (Le.outI [] [] (.tup rfl aK) rfl rfl rfl trivial ⟨⟨rfl,⟨_,rfl, .box rfl (ai .sl (ai (bj (by rw [ht] <;> omega)) lz))⟩,rfl⟩,trivial⟩ tr rfl))
theorem fE (T:List Tk) (i j:Nat) (N:List Tx) (s:Tx) (hi:i < T.length) (hT:T.length≤100000) (h:gw T s i=some j):
  Spec Tryz.prog 162 (aL [.ptr (0,9) 0, .v (bt s)] (dL T i N)) (aN (.tup []) (dL T j N) [(0,9)] [(0,9)]):=by
 have ⟨hs,hj⟩:(cX T i).t=s∧br T i=j:=by
  unfold gw at h
  split at h
  ·exact ⟨by assumption,Option.some.inj h⟩
  cases h
 subst hs
 subst hj
 refine Spec.ofNI Tryz.func162 rfl Tryz.ntmps162 rfl ?_
 refine go 9 ?_
 refine aV rfl rfl (aZ aa _ _ ar (bw T i N hi) tr rfl ae (by simp)) ?_
 refine go 1 ?_
 refine aV rfl rfl (uj (r:=false) _ _ Tryz.underlying9 rfl rfl (by exact bne_self_eq_false _)) ?_
 refine go 12 ?_
 refine az (σ':=an 28 [(0,_)] [((0,9),_)] [(0,9)] [(0,9)]) kp ?_
 refine aD (ef rfl (aj (bF (bX T i N hi hT)) ?_))
 exact ax (mV [])
theorem ky {T:List Tk} {s:Tx} {lv i j:Nat} (h:sw T s lv i=some j):lv≤20∧gw T s i=some j:=by
 unfold sw at h
 split at h
 ·cases h
 rename_i hn
 refine ⟨?_,h⟩
 unfold gw at h
 split at h
 ·rename_i ht
  exact Nat.le_of_not_lt fun hl=> hn ⟨ht,hl⟩
 cases h
theorem jH {T:List Tk} {s:Tx} {i j:Nat} (h:gw T s i=some j) (hi:i < T.length):j < T.length:=by
 unfold gw at h
 split at h
 ·rw [← Option.some.inj h];exact dS hi
 cases h
theorem oB (T:List Tk) (i j:Nat) (N:List Tx) (s:Tx) (lv:Nat) (hi:i < T.length) (hT:T.length≤100000) (h:sw T s lv i=some j):
  Spec Tryz.prog 201 (aL [.ptr (0,9) 0, .v (bt s), .v (.int .i64 (lv:Int))] (dL T i N)) (aN (.tup []) (dL T j N) [(0,9)] [(0,9)]):=by
 obtain ⟨hl,he⟩:=ky h
 refine Spec.ofNI Tryz.func201 rfl Tryz.ntmps201 rfl ?_
 refine go 9 ?_
 refine aV rfl rfl (aZ aa _ _ ar (bw T i N hi) tr rfl ae (by simp)) ?_
 refine go 1 ?_
 refine aV rfl rfl (dg _ _ Tryz.underlying9 rfl rfl rfl) (go 2 ?_)
 refine cA (fun hg17=> ?_) (fun hg17=> ?_)
 ·refine go 1 ?_
  refine aV rfl rfl (oP (r:=false) _ _ rfl rfl (decide_eq_false ab)) ?_
  refine go 4 ?_
  refine az (σ':=an 30 [(0,_),(1,_)] [((0,9),_)] [(0,9)] [(0,9)]) kp ?_
  refine aD (ef rfl (sZ rfl (aj (bF (fE T i j N s hi hT he)) ?_)))
  exact ax (mV [])
 refine go 6 ?_
 refine az (σ':=an 30 [(0,_),(1,_)] [((0,9),_)] [(0,9)] [(0,9)]) kp ?_
 refine aD (ef rfl (sZ rfl (aj (bF (fE T i j N s hi hT he)) ?_)))
 exact ax (mV [])
theorem lN (T:List Tk) (i:Nat) (N:List Tx) (most:Nat) (hi:i < T.length) (hT:T.length≤100000) (hm:most≤1000) (r:Nat×Nat) (h:pH T most i=some r):
  Spec Tryz.prog 200 (aL [.ptr (0,9) 0, .v (.int .i64 (most:Int))] (dL T i N)) (aN (.v (.int .i64 (r.1:Int))) (dL T r.2 N) [(0,9)] [(0,9)]):=by
 have ⟨h1,h2,h3⟩:(cX T i).k=2∧(cX T i).n≤most∧r=((cX T i).n,br T i):=by
  unfold pH at h
  split at h
  ·rename_i hx;exact ⟨hx.1,hx.2,(Option.some.inj h).symm⟩
  cases h
 subst h3
 refine Spec.ofNI Tryz.func200 rfl Tryz.ntmps200 rfl ?_
 refine aG (cC rfl (am (aE (dA 11 [(5,0)] ?_))))
 refine go 16 ?_
 refine aB (_,[]) (fun τ=> aO _ _ aa rfl rfl _ rfl ab (by (simp only [aq,aJ,aM,bh,bc];omega)) ag) ?_
 refine go 1 ?_
 refine aB (_,[]) (fun τ=> bn _ aa rfl (by exact nO _ _ hi) rfl) ?_
 refine go 1 ?_
 refine aB (_,[((5,0),_)]) (fun τ=> fq (5,0) aa rfl rfl) ?_
 refine go 8 ?_
 refine aj (cM _ _ rfl rfl rfl) (am (cK rfl (by rw [h1];rfl) ?_))
 refine aE ?_
 refine az (σ':=an 44 [(0,_),(1,_),(5,_)] [((0,9),_),((5,0),_)] [(0,9)] [(0,9)]) kp ?_
 refine go 6 ?_
 refine cK rfl (decide_eq_false ab) ?_
 refine go 13 ?_
 refine aj (bF (bX T i N hi hT)) ?_
 refine go 6 ?_
 exact au (cg (.inr rfl) rfl (.tmp kU) (Le.outI [] [] .v rfl rfl rfl trivial ob tr rfl))
abbrev GV (T:List Tk) (i:Nat) (N:List Tx):List (aA×Cells):=[((0,9), .box 222 [.sl T.length (um T), .v (.int .i64 (i:Int)), .v (.int .i64 0), .v (.int .i64 0), .ref (1,9) 0 N.length]),((1,9), .row 9 1 (fc N))]
theorem eS (T:List Tk) (i:Nat) (N:List Tx) (hi:i < T.length):
  Spec Tryz.prog 160 (aL [.ptr (0,9) 0] (GV T i N)) (aN (.v (bt (cX T i).t)) (GV T i N) [(0,9),(1,9)] [(0,9),(1,9)]):=by
 refine Spec.ofNI Tryz.func160 rfl Tryz.ntmps160 rfl ?_
 refine aG (IC rfl (am (aE (dA 12 [] ?_))))
 refine go 16 ?_
 refine aB (_,[]) (fun τ=> aO _ _ aa rfl rfl _ rfl ab (by (simp only [aq,aJ,aM,bh,bc];omega)) ag) ?_
 refine go 3 ?_
 refine aB (_,[]) (fun τ=> bl _ aa rfl (by exact nn _ _ ab) rfl) ?_
 refine go 5 ?_
 exact au (cg (.inr rfl) rfl (.tmp kU) (Le.outI [] [] .v rfl rfl rfl trivial ob tr rfl))
theorem xl (T:List Tk) (i:Nat) (N:List Tx) (hi:i < T.length):
  Spec Tryz.prog 197 (aL [.ptr (0,9) 0] (GV T i N)) (aN (.v (.bool (et T i))) (GV T i N) [(0,9),(1,9)] [(0,9),(1,9)]):=by
 refine Spec.ofNI Tryz.func197 rfl Tryz.ntmps197 rfl ?_
 refine aG (gv rfl (am (aE (dA 28 [] ?_))))
 refine go 16 ?_
 refine aB (_,[]) (fun τ=> aO _ _ aa rfl rfl _ rfl ab (by (simp only [aq,aJ,aM,bh,bc];omega)) ag) ?_
 refine go 3 ?_
 refine aB (_,[]) (fun τ=> bl _ aa rfl (by exact qS _ _ ab) rfl) ?_
 refine go 1 ?_
 refine aB (_,[]) (fun τ=> ba _ _ rfl rfl rfl) ?_
 refine go 2 ?_
 refine oR (fun hg15=> ?_) (fun hg15=> ?_)
 ·have hr:et T i= !xA (cX T i).t:=by unfold et;rw [decide_eq_true ab];rfl
  refine go 17 ?_
  refine dM (_,[]) rfl (fun τ=> rfl) (fun τ=> aO _ _ aa rfl rfl _ rfl ab (by (simp only [aq,aJ,aM,bh,bc];omega)) ag) ?_
  refine go 3 ?_
  refine dM (_,[]) rfl (fun τ=> rfl) (fun τ=> bl _ aa rfl (by exact nn _ _ ab) rfl) ?_
  refine go 1 ?_
  refine dM (_,[]) rfl (fun τ=> rfl) (fun τ=> (ap aa al (ms (cX T i).t) rfl rfl)) ?_
  refine go 9 ?_
  exact au (cg (.inr rfl) rfl (.tmp wq) (Le.outI [] [] (jL hr) rfl rfl rfl trivial ob tr rfl))
 have hr:et T i=false:=by unfold et;rw [decide_eq_false ab];rfl
 refine go 33 ?_
 exact au (cg (.inr rfl) rfl (.tmp wq) (Le.outI [] [] (jL hr) rfl rfl rfl trivial ob tr rfl))
theorem kQ (T:List Tk) (i:Nat) (N:List Tx) (hi:i < T.length) (hT:T.length≤100000):
  Spec Tryz.prog 196 (aL [.ptr (0,9) 0] (GV T i N)) (aN (.tup []) (GV T (br T i) N) [(0,9),(1,9)] [(0,9),(1,9)]):=by
 refine Spec.ofNI Tryz.func196 rfl Tryz.ntmps196 rfl ?_
 refine aE (dA 11 [] ?_)
 refine go 24 ?_
 refine ay rfl (fun hc12=> ?_) (fun hc12=> ?_)
 ·have ht:br T i=i+1:=by unfold br;rw [if_pos ab]
  refine go 9 ?_
  exact ax (xa (.inl rfl) rfl (Le.outI [] [] (.tup rfl aK) rfl rfl rfl trivial ⟨⟨rfl,⟨_,rfl, .box rfl (ai .sl (ai (bj (by rw [ht] <;> omega)) lz))⟩,rfl⟩,⟨rfl,⟨_,rfl, .rowE rfl⟩,rfl⟩,trivial⟩ tr rfl))
 have ht:br T i=i:=by unfold br;rw [if_neg ab]
 exact aR (xa (.inl rfl) rfl (Le.outI [] [] (.tup rfl aK) rfl rfl rfl trivial ⟨⟨rfl,⟨_,rfl, .box rfl (ai .sl (ai (bj (by rw [ht] <;> omega)) lz))⟩,rfl⟩,⟨rfl,⟨_,rfl, .rowE rfl⟩,rfl⟩,trivial⟩ tr rfl))
theorem tA (T:List Tk) (i j:Nat) (N:List Tx) (s:Tx) (hi:i < T.length) (hT:T.length≤100000) (h:gw T s i=some j):
  Spec Tryz.prog 162 (aL [.ptr (0,9) 0, .v (bt s)] (GV T i N)) (aN (.tup []) (GV T j N) [(0,9),(1,9)] [(0,9),(1,9)]):=by
 have ⟨hs,hj⟩:(cX T i).t=s∧br T i=j:=by
  unfold gw at h
  split at h
  ·exact ⟨by assumption,Option.some.inj h⟩
  cases h
 subst hs
 subst hj
 refine Spec.ofNI Tryz.func162 rfl Tryz.ntmps162 rfl ?_
 refine go 9 ?_
 refine aV rfl rfl (aZ aa _ _ ar (eS T i N hi) tr rfl ae (by simp)) ?_
 refine go 1 ?_
 refine aV rfl rfl (uj (r:=false) _ _ Tryz.underlying9 rfl rfl (by exact bne_self_eq_false _)) ?_
 refine go 12 ?_
 refine az (σ':=an 28 [(0,_)] [((0,9),_),((1,9),_)] [(0,9),(1,9)] [(0,9),(1,9)]) kp ?_
 refine aD (ef rfl (aj (dK aa [] ar (kQ T i N hi hT) ob tr ae) ?_))
 exact ax (mV [])
end Go.Proofs.YtmjnackchaahbaaGreat
