/- part 8 -/
import Derived.Test.YtmjnackchaahbaaGreatNvZ7
set_option linter.unusedSimpArgs false
set_option linter.unusedVariables false
set_option maxHeartbeats 2000000
namespace Go.Proofs.YtmjnackchaahbaaGreat
open Go.RowKit

abbrev DS:=List Int×Bool×Bool
def jo (n:Nat) (d:Int) (s:DS) (j:Nat):DS:=
 if n≤j then s else if s.1.getD j (-1) < 0 then (s.1.set j d,s.2.1,true) else if s.1.getD j (-1)≠d then (s.1,false,s.2.2) else s
def cu (C:List et) (i:Nat):et:=C.getD i { op:= .stop }
def FS (C:List et) (i:Nat) (s:DS):Int:=max (s.1.getD i (-1) - (cu C i).op.pops) 0+(cu C i).op.puts
def lx (C:List et) (s:DS) (i:Nat):DS:=
 if s.1.getD i (-1) < 0 then s
 else (dx i (cu C i)).foldl (jo C.length (FS C i s)) (s.1,if s.1.getD i (-1) - (cu C i).op.pops < 0 then false else s.2.1,s.2.2)
def db (C:List et) (s:List Int×Bool) (k:Nat):DS:=(List.range k).foldl (lx C) (s.1,s.2,false)
theorem pV (C:List et) (s:List Int×Bool) (k:Nat):db C s (k+1)=lx C (db C s k) k:=by simp [db,List.range_succ,List.foldl_append]
def jq (C:List et):Nat→List Int×Bool→List Int×Bool
 | 0,s=> s
 | f+1,s=> if (db C s C.length).2.2=true then jq C f ((db C s C.length).1,(db C s C.length).2.1) else ((db C s C.length).1,(db C s C.length).2.1)
def neg (l:List Int):Nat:=l.countP fun x=> decide (x < 0)
theorem Gu {l:List Int} {j:Nat} {d:Int} (hj:j < l.length) (h:l.getD j (-1) < 0) (hd:0≤d):neg (l.set j d)+1=neg l:=by
 unfold neg
 have e:l=l.take j++l[j]::l.drop (j+1):=by rw [List.getElem_cons_drop hj,List.take_append_drop]
 have h':l[j] < 0:=by rwa [List.getD_eq_getElem?_getD,List.getElem?_eq_getElem hj] at h
 rw [List.set_eq_take_append_cons_drop,if_pos hj]
 conv=> rhs;rw [e]
 simp only [List.countP_append,List.countP_cons]
 rw [decide_eq_true h',decide_eq_false (show ¬ d < 0 by omega)]
 simp
 omega
structure DI (D:Nat→Nat) (n:Nat) (s:DS):Prop where
 len:s.1.length=n
 val: ∀ i,i < n→s.1.getD i (-1)= -1∨s.1.getD i (-1)=(D i:Int)
 ok:s.2.1=true
theorem jO {l:List Int} {j i:Nat} {d:Int}:(l.set j d).getD i (-1)=if i=j∧j < l.length then d else l.getD i (-1):=by
 simp only [List.getD_eq_getElem?_getD,List.getElem?_set]
 by_cases h:j=i
 ·subst h
  by_cases h2:j < l.length
  ·simp [h2]
  simp [h2]
 simp [h,Ne.symm h]
theorem Gy {D:Nat→Nat} {n:Nat} {d:Int} {s:DS} {j:Nat} (h:DI D n s) (hd:d=(D j:Int)):DI D n (jo n d s j)∧neg (jo n d s j).1≤neg s.1∧((jo n d s j).2.2=true→s.2.2=true∨neg (jo n d s j).1 < neg s.1):=by
 unfold jo
 split
 ·exact ⟨h,Nat.le_refl _,fun e=> .inl e⟩
 rename_i hj
 split
 ·rename_i hn
  have:=Gu (l:=s.1) (j:=j) (d:=d) (by rw [h.len];omega) hn ab
  refine ⟨⟨by rw [List.length_set];exact h.len,fun i hi=> ?_,h.ok⟩,by simp only;omega,fun _=> .inr (by simp only;omega)⟩
  simp only
  rw [jO]
  split
  ·rename_i hc;rw [hc.1];exact .inr hd
  exact h.val i hi
 rename_i hn
 have hv:=h.val j ab
 have:s.1.getD j (-1)=d:=by rw [hd];rcases hv with hv | hv <;> omega
 rw [if_neg (fun hc=> hc this)]
 exact ⟨h,Nat.le_refl _,fun e=> .inl e⟩
theorem nk {D:Nat→Nat} {n:Nat} {d:Int}: ∀ (l:List Nat) {s:DS},DI D n s→(∀ j∈l,d=(D j:Int))→DI D n (l.foldl (jo n d) s)∧neg (l.foldl (jo n d) s).1≤neg s.1∧((l.foldl (jo n d) s).2.2=true→s.2.2=true∨neg (l.foldl (jo n d) s).1 < neg s.1)
 | [],s,h,_=> ⟨h,Nat.le_refl _,fun e=> .inl e⟩
 | j::l,s,h,hd=> by
  obtain ⟨a1,a2,a3⟩:=Gy h (hd j (by simp))
  obtain ⟨b1,b2,b3⟩:=nk l a1 fun j hj=> hd j (by simp [hj])
  simp only [List.foldl_cons]
  refine ⟨b1,by omega,fun e=> ?_⟩
  rcases b3 e with e | e
  ·rcases a3 e with e | e
   ·exact .inl e
   exact .inr ab
  exact .inr ab
section
variable {D:Nat→Nat} {nv:Nat} {C:List et} (hC:Good D nv 0 (C.length - 1) 0 C)
include hC
theorem BK {s:DS} {i:Nat} (hi:i < C.length) (h:DI D C.length s):DI D C.length (lx C s i)∧neg (lx C s i).1≤neg s.1∧((lx C s i).2.2=true→s.2.2=true∨neg (lx C s i).1 < neg s.1):=by
 unfold lx
 split
 ·exact ⟨h,Nat.le_refl _,fun e=> .inl e⟩
 rename_i hn
 have hx:C[i]? =some (cu C i):=by unfold cu;rw [List.getD_eq_getElem?_getD,List.getElem?_eq_getElem hi];rfl
 obtain ⟨_,g2,g3⟩:=hC i _ hx
 rw [Nat.zero_add] at g2 g3
 have hv:s.1.getD i (-1)=(D i:Int):=by rcases h.val i hi with hv | hv <;> omega
 have hdo:FS C i s=((D i - (cu C i).op.pops+(cu C i).op.puts:Nat):Int):=by unfold FS;rw [hv];omega
 rw [if_neg (by rw [hv];omega)]
 exact nk _ ⟨h.len,h.val,h.ok⟩ fun j hj=> by rw [hdo,(g3 j hj).2.2]
theorem ll {s:List Int×Bool} (h:DI D C.length (s.1,s.2,false)): ∀ k,k≤C.length→DI D C.length (db C s k)∧neg (db C s k).1≤neg s.1∧((db C s k).2.2=true→neg (db C s k).1 < neg s.1)
 | 0,_=> ⟨h,Nat.le_refl _,fun e=> by simp [db] at e⟩
 | k+1,hk=> by
  obtain ⟨a1,a2,a3⟩:=ll h k ab
  obtain ⟨b1,b2,b3⟩:=BK hC ab a1 (i:=k)
  rw [pV]
  refine ⟨b1,by omega,fun e=> ?_⟩
  rcases b3 e with e | e
  ·have:=a3 e;omega
  omega
theorem vq: ∀ f (s:List Int×Bool),DI D C.length (s.1,s.2,false)→DI D C.length ((jq C f s).1,(jq C f s).2,false)
 | 0,s,h=> h
 | f+1,s,h=> by
  obtain ⟨a1,_,_⟩:=ll hC h C.length (Nat.le_refl _)
  unfold jq
  split
  ·exact vq f _ ⟨a1.len,a1.val,a1.ok⟩
  exact ⟨a1.len,a1.val,a1.ok⟩
end
theorem wm {C:List et} {f:Nat} {s:List Int×Bool} (h:(db C s C.length).2.2=true):jq C (f+1) s=jq C f ((db C s C.length).1,(db C s C.length).2.1):=by rw [jq,if_pos h]
theorem wb {C:List et} {f:Nat} {s:List Int×Bool} (h:(db C s C.length).2.2=false):jq C (f+1) s=((db C s C.length).1,(db C s C.length).2.1):=by rw [jq,if_neg (by simp [h])]
def iW (C:List et) (e:Int):List Int×Bool:=if e < 0∨(C.length:Int)≤e then (List.replicate C.length (-1),true) else jq C (C.length+1) ((List.replicate C.length (-1)).set e.toNat 0,true)
theorem qK {D:Nat→Nat} {nv:Nat} {C:List et} (hC:Good D nv 0 (C.length - 1) 0 C) {e:Int} (he:0≤e→e < C.length→D e.toNat=0):DI D C.length ((iW C e).1,(iW C e).2,false):=by
 have hr: ∀ i,(List.replicate C.length (-1:Int)).getD i (-1)= -1:=fun i=> by rw [List.getD_eq_getElem?_getD,List.getElem?_replicate];split <;> rfl
 unfold iW
 split
 ·exact ⟨by simp,fun i _=> .inl (hr i),rfl⟩
 refine vq hC _ _ ⟨by simp,fun i hi=> ?_,rfl⟩
 simp only
 rw [jO]
 split
 ·rename_i hc
  right
  rw [hc.1,he ab ab];rfl
 exact .inl (hr i)
def kI (C:List et) (out:List Int) (k:Nat):Int:=(List.range k).foldl (fun m i=> if 0≤out.getD i (-1) then max (max m (out.getD i (-1))) (out.getD i (-1) - (cu C i).op.pops+(cu C i).op.puts) else m) 0
theorem qt (C:List et) (out:List Int) (k:Nat):kI C out (k+1)=if 0≤out.getD k (-1) then max (max (kI C out k) (out.getD k (-1))) (out.getD k (-1) - (cu C k).op.pops+(cu C k).op.puts) else kI C out k:=by simp [kI,List.range_succ,List.foldl_append]
theorem FQ (o:Opc):o.puts≤1:=by cases o <;> decide
theorem nr {C:List et} {out:List Int} {D:Nat→Nat} {n:Nat} {ok ch:Bool} (h:DI D n (out,ok,ch)) {B:Nat} (hB: ∀ i,i < n→D i≤B): ∀ k,k≤n→0≤kI C out k∧kI C out k≤B+1
 | 0,_=> by simp [kI];omega
 | k+1,hk=> by
  obtain ⟨h1,h2⟩:=nr (C:=C) h hB k ab
  have h3:=hB k ab
  have h4:out.getD k (-1)= -1∨out.getD k (-1)=(D k:Int):=h.val k ab
  have h5:=FQ (cu C k).op
  have h6:=qt C out k
  rw [h6]
  rcases h4 with h4 | h4 <;> rw [h4] <;> split <;> omega
def nO (l:List (Nat×Nat)):List Int:=l.foldl (fun m p=> m.set p.1 (p.2:Int)) (List.replicate 40 (-1))
theorem AT (l:List (Nat×Nat)):(nO l).length=40:=by
 unfold nO
 have: ∀ (l:List (Nat×Nat)) (m:List Int),m.length=40→(l.foldl (fun m p=> m.set p.1 (p.2:Int)) m).length=40:=by
  intro l
  induction l with
  | nil=> exact fun m h=> h
  | cons p l ih=> exact fun m h=> ih _ (by rw [List.length_set];exact h)
 exact this l _ (by simp)
theorem Eu: ∀ (l:List (Nat×Nat)) (h:Nat),(nO l).getD h (-1)= -1∨ ∃ e,(h,e)∈l∧(nO l).getD h (-1)=(e:Int):=by
 unfold nO
 have key: ∀ (l:List (Nat×Nat)) (m:List Int) (h:Nat),(l.foldl (fun m p=> m.set p.1 (p.2:Int)) m).getD h (-1)=m.getD h (-1)∨ ∃ e,(h,e)∈l∧(l.foldl (fun m p=> m.set p.1 (p.2:Int)) m).getD h (-1)=(e:Int):=by
  intro l
  induction l with
  | nil=> exact fun m h=> .inl rfl
  | cons p l ih=>
   intro m h
   simp only [List.foldl_cons]
   rcases ih (m.set p.1 (p.2:Int)) h with e | ⟨e,h1,h2⟩
   ·rw [e,jO]
    split
    ·rename_i hc
     exact .inr ⟨p.2,by rw [hc.1];exact List.mem_cons_self,rfl⟩
    exact .inl rfl
   exact .inr ⟨e,List.mem_cons_of_mem _ h1,h2⟩
 intro l h
 rcases key l (List.replicate 40 (-1)) h with e | e
 ·left
  rw [e,List.getD_eq_getElem?_getD,List.getElem?_replicate]
  split <;> rfl
 exact .inr e
def kJ (l:List (Nat×Bk)):Bool:=decide ((bE l 0).length≤400) && (List.range 40).all fun h=> decide (kI (bE l 0) (iW (bE l 0) ((nO (jL l 0)).getD h (-1))).1 (bE l 0).length≤16)
theorem vZ (l:List (Nat×Bk)) (h:Nat):(nO (jL l 0)).getD h (-1)= -1∨ ∃ e:Nat,(h,e)∈jL l 0∧(nO (jL l 0)).getD h (-1)=(e:Int)∧e < (bE l 0).length∧yg l e=0:=by
 rcases Eu (jL l 0) h with e | ⟨e,h1,h2⟩
 ·exact .inl e
 obtain ⟨_,h4,h5⟩:=yn (tD l) h1
 exact .inr ⟨e,h1,h2,by omega,h5⟩
theorem Aj {l:List (Nat×Bk)} {nv:Nat} (hs:vS l nv):kJ l=true:=by
 unfold kJ
 rw [Bool.and_eq_true,decide_eq_true_eq,List.all_eq_true]
 refine ⟨hs.n,fun h _=> ?_⟩
 rw [decide_eq_true_eq]
 have hg:=CC (yg l) nv l 0 0 ((bE l 0).length - 1) hs.ok (tD l) (Nat.le_refl _) ab
 have hd:=qK hg (e:=(nO (jL l 0)).getD h (-1)) (fun h1 h2=> by
  rcases vZ l h with e | ⟨e,_,e2,_,e4⟩
  ·omega
  rw [e2];exact e4)
 have hB: ∀ i,i < (bE l 0).length→yg l i≤8:=fun i hi=> by
  unfold yg
  rw [← pS l 0] at hi
  rw [List.getD_eq_getElem?_getD,List.getElem?_eq_getElem hi]
  exact hs.d _ (List.getElem_mem hi)
 have:=(nr (C:=bE l 0) hd hB _ (Nat.le_refl _)).2
 omega
end Go.Proofs.YtmjnackchaahbaaGreat

set_option maxHeartbeats 2000000
namespace Go.Proofs.YtmjnackchaahbaaGreat
open Go.RowKit

theorem gB {α β:Type} (f:α→List β) (c:Nat) (hf: ∀ a,(f a).length=c): ∀ l:List α,(l.flatMap f).length=l.length*c
 | []=> by simp
 | a::l=> by rw [List.flatMap_cons,List.length_append,hf,gB f c hf l,List.length_cons,Nat.succ_mul];omega
theorem lS {α β:Type} (f:α→List β) (c:Nat) (hf: ∀ a,(f a).length=c): ∀ (l:List α) (k:Nat),(l.flatMap f).drop (k*c)=(l.drop k).flatMap f
 | l,0=> by simp
 | [],k+1=> by simp
 | a::l,k+1=> by
  rw [List.flatMap_cons,List.drop_succ_cons,← lS f c hf l k,List.drop_append,List.drop_eq_nil_of_le (by rw [hf,Nat.succ_mul];omega),List.nil_append,hf]
  congr 1;rw [Nat.succ_mul];omega
theorem ml {α β:Type} (f:α→List β) (c:Nat) (hf: ∀ a,(f a).length=c) (l:List α) (k:Nat) (h:k < l.length):((l.flatMap f).drop (k*c)).take c=f l[k]:=by
 rw [lS f c hf,List.drop_eq_getElem_cons h,List.flatMap_cons,List.take_append_of_le_length (by rw [hf];exact Nat.le_refl _),List.take_of_length_le (by rw [hf];exact Nat.le_refl _)]
theorem jA {α β:Type} (f:α→List β) (c:Nat) (hf: ∀ a,(f a).length=c) (l:List α) (k j:Nat) (h:k < l.length) (hj:j < c):(l.flatMap f)[k*c+j]? =(f l[k])[j]? :=by
 rw [← ml f c hf l k h,List.getElem?_take_of_lt hj,List.getElem?_drop]
theorem CA {α β:Type} (f:α→List β) (c:Nat) (hf: ∀ a,(f a).length=c): ∀ (l:List α) (k:Nat),(l.flatMap f).take (k*c)=(l.take k).flatMap f
 | l,0=> by simp
 | [],k+1=> by simp
 | a::l,k+1=> by
  rw [List.flatMap_cons,List.take_succ_cons,List.flatMap_cons,← CA f c hf l k,List.take_append,List.take_of_length_le (by rw [hf,Nat.succ_mul];omega),hf]
  congr 2;rw [Nat.succ_mul];omega
theorem jy {α β:Type} (f:α→List β) (l:List α) (a:α):l.flatMap f++f a=(l++[a]).flatMap f:=by simp
theorem DT {α β:Type} (f:α→List β) (l m:List α):l.flatMap f++m.flatMap f=(l++m).flatMap f:=by simp

def eM (l:List Tx):List PV:=l.map fun t=> .v (bt t)
@[simp] theorem bf (l:List Tx):(eM l).length=l.length:=by simp [eM]
theorem jx (l:List Tx) (k:Nat) (h:k < l.length):(eM l)[k]? =some (.v (bt (l.getD k []))):=by simp [eM,h]
theorem pI (a b:List Tx):eM a++eM b=eM (a++b):=by simp [eM]
theorem nH (a:List Tx) (t:Tx):eM a++[.v (bt t)]=eM (a++[t]):=by simp [eM]
theorem jN {l:List Tx} {k:Nat} (h:k < l.length):l.getD k []∈l:=by
 rw [List.getD_eq_getElem?_getD,List.getElem?_eq_getElem h];exact List.getElem_mem h
theorem kw {α:Type} {l:List α} {k:Nat} {x d:α} (h:x∉l.take k) (hk:k < l.length) (hx:l.getD k d≠x):x∉l.take (k+1):=by
 rw [List.take_succ_eq_append_getElem hk,List.mem_append,List.mem_singleton]
 rintro (h' | h')
 ·exact h h'
 exact hx (by rw [List.getD_eq_getElem?_getD,List.getElem?_eq_getElem hk,h'];rfl)

def Hn (t:Tk):List PV:=[.v (.int .i64 (t.k:Int)), .v (.int .i64 (t.a:Int)), .v (bt t.t), .v (.int .i64 (t.n:Int))]
def tJ (l:List Tk):List PV:=l.flatMap Hn
theorem bc (l:List Tk):(tJ l).length=l.length*4:=gB Hn 4 (fun _=> rfl) l
theorem wI (l:List Tk) (k:Nat) (h:k < l.length):cN l k=l[k]:=by simp [cN,h]
theorem qI (l:List Tk) (k:Nat) (h:k < l.length):(tJ l)[k*4]? =some (.v (.int .i64 ((cN l k).k:Int))):=by
 rw [wI l k h];exact jA Hn 4 (fun _=> rfl) l k 0 h ab
theorem nc (l:List Tk) (k:Nat) (h:k < l.length):(tJ l)[k*4+2]? =some (.v (bt (cN l k).t)):=by
 rw [wI l k h];exact jA Hn 4 (fun _=> rfl) l k 2 h ab
theorem nI (l:List Tk) (k:Nat) (h:k < l.length):PV.ups (((tJ l).drop (k*4)).take 4)=[.v (.int .i64 ((cN l k).k:Int)), .v (.int .i64 ((cN l k).a:Int)), .v (bt (cN l k).t), .v (.int .i64 ((cN l k).n:Int))]:=by
 rw [wI l k h,show ((tJ l).drop (k*4)).take 4=Hn l[k] from ml Hn 4 (fun _=> rfl) l k h];rfl
theorem uk (l:List Tk) (t:Tk):tJ l++Hn t=tJ (l++[t]):=jy Hn l t

theorem fH {s:Tx} {a:Nat} {b:UInt8} (h:s[a]? =some b):s.drop a=b::s.drop (a+1):=by
 obtain ⟨hl,rfl⟩:=List.getElem?_eq_some_iff.1 h
 exact List.drop_eq_getElem_cons hl
theorem kv {s:Tx} {a:Nat} (h:a < s.length): ∃ b,s[a]? =some b:=⟨_,List.getElem?_eq_getElem h⟩
theorem NZ (b:UInt8):0≤(b.toNat:Int)∧(b.toNat:Int) < 256:=⟨by omega,by have:=b.toNat_lt;omega⟩
def kK (s:Tx) (a:Nat) (c:Bool):Nat:=a+tU (s.drop a) c
theorem sC {s:Tx} {a:Nat} (h:s.length≤a) (c:Bool):kK s a c=a:=by
 unfold kK;rw [List.drop_eq_nil_of_le h];unfold tU;rfl
theorem Jc {s:Tx} {a:Nat} {b:UInt8} (h:s[a]? =some b) (hb:b.toNat=10):kK s a true=kK s a false:=by
 unfold kK;rw [fH h];simp [tU,hb]
theorem HD {s:Tx} {a:Nat} {b:UInt8} (h:s[a]? =some b) (hb:b.toNat≠10):kK s a true=kK s (a+1) true:=by
 unfold kK;rw [fH h];simp [tU,hb];omega
theorem BP {s:Tx} {a:Nat} {b:UInt8} (h:s[a]? =some b) (hb:b.toNat=35):kK s a false=kK s a true:=by
 unfold kK;rw [fH h];simp [tU,hb]
theorem wO {s:Tx} {a:Nat} {b:UInt8} (h:s[a]? =some b) (h0:b.toNat≠35) (hb:b.toNat=32∨b.toNat=9∨b.toNat=10):kK s a false=kK s (a+1) false:=by
 unfold kK;rw [fH h,tU,if_neg h0,if_pos hb];omega
theorem FI {s:Tx} {a:Nat} {b:UInt8} (h:s[a]? =some b) (h0:b.toNat≠35) (hb: ¬ (b.toNat=32∨b.toNat=9∨b.toNat=10)):kK s a false=a:=by
 unfold kK;rw [fH h,tU,if_neg h0,if_neg hb];rfl
theorem nW: ∀ (l:Tx) (c:Bool),tU l c≤l.length
 | [],c=> by unfold tU;exact Nat.le_refl _
 | x::l,true=> by have h1:=nW l true;have h2:=nW l false;unfold tU;split <;> simp only [List.length_cons] <;> omega
 | x::l,false=> by have h1:=nW l true;have h2:=nW l false;unfold tU;split <;> (try split) <;> simp only [List.length_cons] <;> omega
theorem wk {s:Tx} {a:Nat} (h:a≤s.length) (c:Bool):a≤kK s a c∧kK s a c≤s.length:=by
 have:=nW (s.drop a) c
 rw [List.length_drop] at this
 unfold kK;omega
def lp (p:UInt8→Bool) (s:Tx) (a:Nat):Nat:=a+((s.drop a).takeWhile p).length
theorem xG {p:UInt8→Bool} {s:Tx} {a:Nat} (h:s.length≤a):lp p s a=a:=by
 unfold lp;rw [List.drop_eq_nil_of_le h];rfl
theorem tT {p:UInt8→Bool} {s:Tx} {a:Nat} {b:UInt8} (h:s[a]? =some b) (hb:p b=true):lp p s a=lp p s (a+1):=by
 unfold lp;rw [fH h,List.takeWhile_cons,if_pos hb,List.length_cons];omega
theorem BH {p:UInt8→Bool} {s:Tx} {a:Nat} {b:UInt8} (h:s[a]? =some b) (hb:p b=false):lp p s a=a:=by
 unfold lp;rw [fH h,List.takeWhile_cons,if_neg (by simp [hb])];rfl
theorem th {p:UInt8→Bool} {s:Tx} {a:Nat} (h:a≤s.length):a≤lp p s a∧lp p s a≤s.length:=by
 have:((s.drop a).takeWhile p).length≤(s.drop a).length:=(List.takeWhile_prefix p).length_le
 rw [List.length_drop] at this
 unfold lp;omega
theorem vn {p:UInt8→Bool} {s:Tx} {a:Nat} {b:UInt8} (h:s[a]? =some b):(s.drop a).take (lp p s (a+1) - a)=b::(s.drop (a+1)).takeWhile p:=by
 rw [fH h,show lp p s (a+1) - a=((s.drop (a+1)).takeWhile p).length+1 by unfold lp;omega,List.take_succ_cons]
 congr 1
 obtain ⟨t,ht⟩:=List.takeWhile_prefix p (l:=s.drop (a+1))
 conv=> lhs;arg 2;rw [← ht]
 rw [List.take_append_of_le_length (Nat.le_refl _),List.take_length]
theorem rO (l:Tx) (b:UInt8):kL (l++[b])=10*kL l+(b.toNat - 48):=by unfold kL;rw [List.foldl_append];rfl
theorem GG (l m:Tx):kL l≤kL (l++m):=by
 induction m generalizing l with
 | nil=> simp
 | cons b m ih=>
  have:=ih (l++[b])
  rw [rO,List.append_assoc] at this
  simp only [List.cons_append,List.nil_append] at this
  omega
theorem zb (l:Tx) (i:Nat):kL (l.take i)≤kL l:=by
 have:=GG (l.take i) (l.drop i)
 rwa [List.take_append_drop] at this
theorem yL {l:Tx} {i:Nat} {b:UInt8} (h:l[i]? =some b):kL (l.take (i+1))=10*kL (l.take i)+(b.toNat - 48):=by
 obtain ⟨hl,rfl⟩:=List.getElem?_eq_some_iff.1 h
 rw [List.take_succ_eq_append_getElem hl,rO]
theorem Cw (b:UInt8):nb b=true↔97≤(b.toNat:Int)∧(b.toNat:Int)≤122:=by
 unfold nb;rw [Bool.and_eq_true,Nat.ble_eq,Nat.ble_eq];omega
theorem uK (b:UInt8):fU b=true↔48≤(b.toNat:Int)∧(b.toNat:Int)≤57:=by
 unfold fU;rw [Bool.and_eq_true,Nat.ble_eq,Nat.ble_eq];omega
theorem Hk {b:Bool} {p:Prop} (h:b=true↔p) (hn: ¬ p):b=false:=by
 cases b with
 | false=> rfl
 | true=> exact absurd (h.1 rfl) hn
def inr (x:et):List PV:=[.v (.int .i64 (x.op.num:Int)), .v (.int .i64 x.n)]
def inl (l:List et):List PV:=l.flatMap inr
theorem bm (l:List et):(inl l).length=l.length*2:=gB inr 2 (fun _=> rfl) l
theorem mT (l:List et) (k:Nat) (h:k < l.length):(inl l)[k*2]? =some (.v (.int .i64 ((cu l k).op.num:Int))):=by
 rw [show cu l k=l[k] by simp [cu,h]];exact jA inr 2 (fun _=> rfl) l k 0 h ab
theorem Ev (l:List et) (k:Nat) (h:k < l.length):(inl l)[k*2+1]? =some (.v (.int .i64 (cu l k).n)):=by
 rw [show cu l k=l[k] by simp [cu,h]];exact jA inr 2 (fun _=> rfl) l k 1 h ab
theorem uj (l:List et) (k:Nat) (h:k < l.length):PV.ups (((inl l).drop (k*2)).take 2)=[.v (.int .i64 ((cu l k).op.num:Int)), .v (.int .i64 (cu l k).n)]:=by
 rw [show cu l k=l[k] by simp [cu,h],show ((inl l).drop (k*2)).take 2=inr l[k] from ml inr 2 (fun _=> rfl) l k h];rfl
theorem eQ (l:List et) (x:et):inl l++inr x=inl (l++[x]):=jy inr l x
theorem lP (l m:List et):inl l++inl m=inl (l++m):=DT inr l m
def HO (x:Ac):List PV:=[.v (.int .i64 x.k), .v (.int .i64 x.a), .v (.int .i64 x.b), .v (.int .i64 x.c), .v (.int .i64 x.d)]
def pt (l:List Ac):List PV:=l.flatMap HO
def mm (l:List Ac) (k:Nat):Ac:=l.getD k { k:=0 }
theorem bT (l:List Ac):(pt l).length=l.length*5:=gB HO 5 (fun _=> rfl) l
theorem BD (l:List Ac) (k:Nat) (h:k < l.length):(pt l)[k*5]? =some (.v (.int .i64 (mm l k).k)):=by
 rw [show mm l k=l[k] by simp [mm,h]];exact jA HO 5 (fun _=> rfl) l k 0 h ab
theorem uL (l:List Ac) (k:Nat) (h:k < l.length):PV.ups (((pt l).drop (k*5)).take 5)=[.v (.int .i64 (mm l k).k), .v (.int .i64 (mm l k).a), .v (.int .i64 (mm l k).b), .v (.int .i64 (mm l k).c), .v (.int .i64 (mm l k).d)]:=by
 rw [show mm l k=l[k] by simp [mm,h],show ((pt l).drop (k*5)).take 5=HO l[k] from ml HO 5 (fun _=> rfl) l k h];rfl
theorem gX (l:List Ac) (x:Ac):pt l++HO x=pt (l++[x]):=jy HO l x
end Go.Proofs.YtmjnackchaahbaaGreat

namespace Go.Proofs.YtmjnackchaahbaaGreat
abbrev LI:List Value:=[.slice none 0 0, .int .i64 0, .int .i64 0, .int .i64 0, .int .i64 0, .int .i64 0, .int .i64 0, .int .i64 0, .int .i64 0, .int .i64 0, .int .i64 0, .int .i64 0, .int .i64 0, .int .i64 0, .int .i64 0, .int .i64 0, .int .i64 0, .int .i64 0, .int .i64 0, .int .i64 0, .int .i64 0, .int .i64 0, .int .i64 0, .int .i64 0, .int .i64 0, .int .i64 0, .int .i64 0, .int .i64 0, .int .i64 0, .int .i64 0, .int .i64 0, .int .i64 0, .int .i64 0, .int .i64 0, .int .i64 0, .int .i64 0, .int .i64 0, .int .i64 0, .int .i64 0, .int .i64 0, .int .i64 0, .int .i64 0, .int .i64 0]
abbrev Hw:List Value:=[.int .i64 0, .int .i64 0, .int .i64 0, .int .i64 0, .int .i64 0, .int .i64 0, .int .i64 0, .int .i64 0, .int .i64 0]
abbrev Ly:List Value:=[.slice none 0 0, .slice none 0 0, .int .i64 0, .bool false, .slice none 0 0]
abbrev LD:List Value:=[.slice none 0 0, .slice none 0 0, .int .i64 0, .bool false, .slice none 0 0, .slice none 0 0]
abbrev xQ:List Value:=[.int .i64 0, .int .i64 0, .int .i64 0, .int .i64 0, .int .i64 0]
abbrev Pw:List Value:=[.slice none 0 0, .slice none 0 0, .slice none 0 0]
abbrev Jr:List Value:=[.int .i64 0, .int .i64 0, .string ByteArray.empty, .slice none 0 0]
abbrev Jt:List Value:=[.int .i64 0, .int .i64 0, .int .i64 0, .string ByteArray.empty, .slice none 0 0]
abbrev Ox:List Value:=[.int .i64 0, .int .i64 0, .int .i64 0, .int .i64 0, .int .i64 0, .int .i64 0, .int .i64 0, .int .i64 0, .int .i64 0, .int .i64 0, .int .i64 0, .int .i64 0, .int .i64 0, .int .i64 0, .int .i64 0, .int .i64 0, .int .i64 0, .int .i64 0, .int .i64 0, .int .i64 0, .int .i64 0, .int .i64 0, .int .i64 0, .int .i64 0, .int .i64 0, .int .i64 0, .int .i64 0, .int .i64 0, .int .i64 0, .int .i64 0, .int .i64 0, .int .i64 0, .int .i64 0, .int .i64 0, .int .i64 0, .int .i64 0, .int .i64 0, .int .i64 0, .int .i64 0, .int .i64 0, .int .i64 0]
abbrev Lm:List Value:=[.bool false, .int .i64 0, .int .i64 0, .int .i64 0, .slice none 0 0, .slice none 0 0, .slice none 0 0, .slice none 0 0, .int .i64 0, .int .i64 0, .int .i64 0, .int .i64 0, .int .i64 0, .int .i64 0, .int .i64 0, .int .i64 0, .int .i64 0, .int .i64 0, .int .i64 0, .int .i64 0, .int .i64 0, .int .i64 0, .int .i64 0, .int .i64 0, .int .i64 0, .int .i64 0, .int .i64 0, .int .i64 0, .int .i64 0, .int .i64 0, .int .i64 0, .int .i64 0, .int .i64 0, .int .i64 0, .int .i64 0, .int .i64 0, .int .i64 0, .int .i64 0, .int .i64 0, .int .i64 0, .int .i64 0, .int .i64 0, .int .i64 0, .int .i64 0, .int .i64 0, .int .i64 0, .int .i64 0, .int .i64 0, .int .i64 0, .int .i64 0, .int .i64 0, .int .i64 0]
abbrev yU:List Value:=[.int .i64 0, .int .i64 0, .int .i64 0, .int .i64 0, .int .i64 0, .int .i64 0, .int .i64 0, .int .i64 0, .int .i64 0, .int .i64 0, .int .i64 0, .int .i64 0, .int .i64 0, .slice none 0 0, .slice none 0 0]
abbrev Gj:List Value:=[.int .i64 0, .int .i64 0, .int .i64 0]
abbrev GD:List Value:=[.int .i64 0, .int .i64 0, .int .i64 0, .slice none 0 0, .bool false, .int .i64 0, .slice none 0 0, .slice none 0 0, .slice none 0 0, .int .i64 0, .bool false, .slice none 0 0]
abbrev FJ:List Value:=[.slice none 0 0, .int .i64 0, .int .i64 0, .int .i64 0, .int .i64 0, .int .i64 0, .int .i64 0, .int .i64 0, .int .i64 0, .int .i64 0]
abbrev Fk:List Value:=[.nilFunc, .nilFunc, .nilFunc, .nilFunc, .nilFunc, .nilFunc, .nilFunc, .nilFunc, .nilFunc, .nilFunc, .nilFunc, .nilFunc, .nilFunc, .nilFunc, .nilFunc, .nilFunc, .nilFunc, .nilFunc, .nilFunc, .nilFunc, .nilFunc, .nilFunc, .nilFunc, .nilFunc]
abbrev Aq:List Value:=[.int .i64 0, .int .i64 0, .string ByteArray.empty, .int .i64 0]
abbrev FM:List Value:=[.int .i64 0, .int .i64 0, .int .i64 0, .int .i64 0, .int .i64 0, .int .i64 0, .int .i64 0]
abbrev FO:List Value:=[.int .i64 0, .int .i64 0, .int .i64 0, .int .i64 0, .int .i64 0, .int .i64 0]
abbrev JI:List Value:=[.bool false, .int .i64 0, .int .i64 0, .int .i64 0, .slice none 0 0, .slice none 0 0, .slice none 0 0, .slice none 0 0, .int .i64 0, .int .i64 0, .int .i64 0, .int .i64 0, .int .i64 0, .int .i64 0, .int .i64 0, .int .i64 0, .int .i64 0, .int .i64 0, .int .i64 0, .int .i64 0, .int .i64 0, .int .i64 0, .int .i64 0, .int .i64 0, .int .i64 0, .int .i64 0, .int .i64 0, .int .i64 0, .int .i64 0, .int .i64 0, .int .i64 0, .int .i64 0, .int .i64 0, .int .i64 0, .int .i64 0, .int .i64 0, .int .i64 0, .int .i64 0, .int .i64 0, .int .i64 0, .int .i64 0, .int .i64 0, .int .i64 0, .int .i64 0, .int .i64 0, .int .i64 0, .int .i64 0, .int .i64 0, .int .i64 0, .int .i64 0, .int .i64 0, .int .i64 0, .slice none 0 0, .slice none 0 0, .bool false, .int .i64 0, .slice none 0 0, .int .i64 0, .int .i64 0, .int .i64 0, .slice none 0 0, .slice none 0 0, .int .i64 0, .bool false, .slice none 0 0, .slice none 0 0, .slice none 0 0]
abbrev JL:List Value:=[.int .i64 0, .int .i64 0, .int .i64 0, .slice none 0 0, .slice none 0 0]
abbrev Km:List Value:=[.slice none 0 0, .int .i64 0, .int .i64 0, .int .i64 0, .int .i64 0, .int .i64 0, .int .i64 0, .int .i64 0, .int .i64 0, .int .i64 0, .int .i64 0, .int .i64 0, .int .i64 0, .int .i64 0, .int .i64 0, .int .i64 0, .int .i64 0, .int .i64 0, .int .i64 0, .int .i64 0, .int .i64 0, .int .i64 0, .int .i64 0, .int .i64 0, .int .i64 0, .int .i64 0, .int .i64 0, .int .i64 0, .int .i64 0, .int .i64 0, .int .i64 0, .int .i64 0, .int .i64 0, .int .i64 0, .int .i64 0, .int .i64 0, .int .i64 0, .int .i64 0, .int .i64 0, .int .i64 0, .int .i64 0, .int .i64 0, .int .i64 0, .slice none 0 0, .int .i64 0, .int .i64 0, .int .i64 0, .int .i64 0, .int .i64 0, .int .i64 0, .int .i64 0, .int .i64 0, .int .i64 0, .nilFunc, .slice none 0 0, .slice none 0 0, .int .i64 0, .bool false, .slice none 0 0, .slice none 0 0, .int .i64 0, .int .i64 0, .int .i64 0, .bool false]
abbrev Ka:List Value:=[.slice none 0 0, .int .i64 0, .int .i64 0, .int .i64 0, .slice none 0 0]

instance Ut:Ty Tryz.prog 3 false [.int .i64 0]:=Ty.of (bytes:=8) (.int .i64 0) Tryz.underlying3 rfl ae rfl oC
instance Us:Ty Tryz.prog 4 false [.bool false]:=Ty.of (bytes:=1) (.bool false) Tryz.underlying4 rfl ae rfl oC
instance Uu:Ty Tryz.prog 9 false [.string ByteArray.empty]:=Ty.of (bytes:=16) (.string ByteArray.empty) Tryz.underlying9 rfl ae rfl oC
instance No:Ty Tryz.prog 22 false [.slice none 0 0]:=Ty.of (bytes:=24) (.slice none 0 0) Tryz.underlying22 rfl ae rfl oC
instance Uq:Ty Tryz.prog 23 false [.slice none 0 0]:=Ty.of (bytes:=24) (.slice none 0 0) Tryz.underlying23 rfl ae rfl oC
instance Rw:Ty Tryz.prog 26 true LI:=Ty.of (bytes:=360) (.agg (LI).toArray) Tryz.underlying26 rfl ae rfl oC
instance SE:Ty Tryz.prog 30 true Hw:=Ty.of (bytes:=72) (.agg (Hw).toArray) Tryz.underlying30 rfl ae rfl oC
instance RA:Ty Tryz.prog 32 false [.slice none 0 0]:=Ty.of (bytes:=24) (.slice none 0 0) Tryz.underlying32 rfl ae rfl oC
instance RY:Ty Tryz.prog 34 true Ly:=Ty.of (bytes:=88) (.agg (Ly).toArray) Tryz.underlying34 rfl ae rfl oC
instance TO:Ty Tryz.prog 39 true LD:=Ty.of (bytes:=112) (.agg (LD).toArray) Tryz.underlying39 rfl ae rfl oC
instance Tn:Ty Tryz.prog 43 false [.nilFunc]:=Ty.of (bytes:=8) (.nilFunc) Tryz.underlying43 rfl ae rfl oC
instance SL:Ty Tryz.prog 48 true [.int .i64 0, .int .i64 0]:=Ty.of (bytes:=16) (.agg #[.int .i64 0, .int .i64 0]) Tryz.underlying48 rfl ae rfl oC
instance TI:Ty Tryz.prog 51 false [.nilFunc]:=Ty.of (bytes:=8) (.nilFunc) Tryz.underlying51 rfl ae rfl oC
instance TZ:Ty Tryz.prog 57 true xQ:=Ty.of (bytes:=40) (.agg (xQ).toArray) Tryz.underlying57 rfl ae rfl oC
instance TM:Ty Tryz.prog 61 false [.slice none 0 0]:=Ty.of (bytes:=24) (.slice none 0 0) Tryz.underlying61 rfl ae rfl oC
instance Rv:Ty Tryz.prog 62 false [.slice none 0 0]:=Ty.of (bytes:=24) (.slice none 0 0) Tryz.underlying62 rfl ae rfl oC
instance Um:Ty Tryz.prog 64 true Pw:=Ty.of (bytes:=72) (.agg (Pw).toArray) Tryz.underlying64 rfl ae rfl oC
instance Si:Ty Tryz.prog 66 false [.int .i64 0]:=Ty.of (bytes:=8) (.int .i64 0) Tryz.underlying66 rfl ae rfl oC
instance Ta:Ty Tryz.prog 69 false [.slice none 0 0]:=Ty.of (bytes:=24) (.slice none 0 0) Tryz.underlying69 rfl ae rfl oC
instance Tz:Ty Tryz.prog 71 true Jr:=Ty.of (bytes:=56) (.agg (Jr).toArray) Tryz.underlying71 rfl ae rfl oC
instance SD:Ty Tryz.prog 73 true Jt:=Ty.of (bytes:=64) (.agg (Jt).toArray) Tryz.underlying73 rfl ae rfl oC
instance RL:Ty Tryz.prog 78 false [.slice none 0 0]:=Ty.of (bytes:=24) (.slice none 0 0) Tryz.underlying78 rfl ae rfl oC
instance Uk:Ty Tryz.prog 80 true [.slice none 0 0, .slice none 0 0]:=Ty.of (bytes:=48) (.agg #[.slice none 0 0, .slice none 0 0]) Tryz.underlying80 rfl ae rfl oC
instance TF:Ty Tryz.prog 81 true Ox:=Ty.of (bytes:=328) (.agg (Ox).toArray) Tryz.underlying81 rfl ae rfl oC
instance Sy:Ty Tryz.prog 83 true Lm:=Ty.of (bytes:=480) (.agg (Lm).toArray) Tryz.underlying83 rfl ae rfl oC
instance Ur:Ty Tryz.prog 87 true yU:=Ty.of (bytes:=152) (.agg (yU).toArray) Tryz.underlying87 rfl ae rfl oC
instance Tv:Ty Tryz.prog 88 false [.slice none 0 0]:=Ty.of (bytes:=24) (.slice none 0 0) Tryz.underlying88 rfl ae rfl oC
instance SY:Ty Tryz.prog 89 false [.slice none 0 0]:=Ty.of (bytes:=24) (.slice none 0 0) Tryz.underlying89 rfl ae rfl oC
instance RG:Ty Tryz.prog 91 true Gj:=Ty.of (bytes:=24) (.agg (Gj).toArray) Tryz.underlying91 rfl ae rfl oC
instance Ul:Ty Tryz.prog 96 true GD:=Ty.of (bytes:=176) (.agg (GD).toArray) Tryz.underlying96 rfl ae rfl oC
instance Rh:Ty Tryz.prog 101 false [.slice none 0 0]:=Ty.of (bytes:=24) (.slice none 0 0) Tryz.underlying101 rfl ae rfl oC
instance QL:Ty Tryz.prog 109 true xQ:=Ty.of (bytes:=40) (.agg (xQ).toArray) Tryz.underlying109 rfl ae rfl oC
instance OY:Ty Tryz.prog 115 true xQ:=Ty.of (bytes:=40) (.agg (xQ).toArray) Tryz.underlying115 rfl ae rfl oC
instance OR:Ty Tryz.prog 126 true [.int .i64 0, .int .i64 0]:=Ty.of (bytes:=16) (.agg #[.int .i64 0, .int .i64 0]) Tryz.underlying126 rfl ae rfl oC
instance Qg:Ty Tryz.prog 132 true FJ:=Ty.of (bytes:=96) (.agg (FJ).toArray) Tryz.underlying132 rfl ae rfl oC
instance OK:Ty Tryz.prog 161 false [.nilFunc]:=Ty.of (bytes:=8) (.nilFunc) Tryz.underlying161 rfl ae rfl oC
instance QF:Ty Tryz.prog 172 false [.nilFunc]:=Ty.of (bytes:=8) (.nilFunc) Tryz.underlying172 rfl ae rfl oC
instance Qk:Ty Tryz.prog 173 true Fk:=Ty.of (bytes:=192) (.agg (Fk).toArray) Tryz.underlying173 rfl ae rfl oC
instance Rl:Ty Tryz.prog 217 false [.slice none 0 0]:=Ty.of (bytes:=24) (.slice none 0 0) Tryz.underlying217 rfl ae rfl oC
instance ON:Ty Tryz.prog 225 true Aq:=Ty.of (bytes:=40) (.agg (Aq).toArray) Tryz.underlying225 rfl ae rfl oC
instance Rs:Elem Tryz.prog 22 3 1 8 [.int .i64 0]:=Elem.of (.int .i64 0) Tryz.underlying22 ae rfl rfl ah ah oC
instance Th:Elem Tryz.prog 23 48 2 16 [.int .i64 0, .int .i64 0]:=Elem.of (.agg #[.int .i64 0, .int .i64 0]) Tryz.underlying23 ae rfl rfl ah ah oC
instance SB:Elem Tryz.prog 32 57 5 40 xQ:=Elem.of (.agg (xQ).toArray) Tryz.underlying32 ae rfl rfl ah ah oC
instance Sv:Elem Tryz.prog 61 9 1 16 [.string ByteArray.empty]:=Elem.of (.string ByteArray.empty) Tryz.underlying61 ae rfl rfl ah ah oC
instance TT:Elem Tryz.prog 62 73 5 64 Jt:=Elem.of (.agg (Jt).toArray) Tryz.underlying62 ae rfl rfl ah ah oC
instance Ui:Elem Tryz.prog 69 71 4 56 Jr:=Elem.of (.agg (Jr).toArray) Tryz.underlying69 ae rfl rfl ah ah oC
instance Tc:Elem Tryz.prog 76 87 15 152 yU:=Elem.of (.agg (yU).toArray) Tryz.underlying76 ae rfl rfl ah ah oC
instance Rt:Elem Tryz.prog 78 126 2 16 [.int .i64 0, .int .i64 0]:=Elem.of (.agg #[.int .i64 0, .int .i64 0]) Tryz.underlying78 ae rfl rfl ah ah oC
instance SJ:Elem Tryz.prog 88 111 7 56 FM:=Elem.of (.agg (FM).toArray) Tryz.underlying88 ae rfl rfl ah ah oC
instance SZ:Elem Tryz.prog 89 117 9 72 Hw:=Elem.of (.agg (Hw).toArray) Tryz.underlying89 ae rfl rfl ah ah oC
instance PJ:Elem Tryz.prog 101 196 6 48 FO:=Elem.of (.agg (FO).toArray) Tryz.underlying101 ae rfl rfl ah ah oC
instance PF:Elem Tryz.prog 121 4 1 1 [.bool false]:=Elem.of (.bool false) Tryz.underlying121 ae rfl rfl ah ah oC
instance Qh:Elem Tryz.prog 217 225 4 40 Aq:=Elem.of (.agg (Aq).toArray) Tryz.underlying217 ae rfl rfl ah ah oC
instance QJ:Elem Tryz.prog 275 61 1 24 [.slice none 0 0]:=Elem.of (.slice none 0 0) Tryz.underlying275 ae rfl rfl ah ah oC
instance NV:dG Tryz.prog 26 0 0:=⟨fun ad w=> by kernel_rfl⟩
instance Ob:dG Tryz.prog 26 1 1:=⟨fun ad w=> by kernel_rfl⟩
instance LY:dG Tryz.prog 26 2 41:=⟨fun ad w=> by kernel_rfl⟩
instance NE:dG Tryz.prog 26 3 42:=⟨fun ad w=> by kernel_rfl⟩
instance Nt:dG Tryz.prog 34 0 0:=⟨fun ad w=> by kernel_rfl⟩
instance Mz:dG Tryz.prog 34 1 1:=⟨fun ad w=> by kernel_rfl⟩
instance LV:dG Tryz.prog 34 2 2:=⟨fun ad w=> by kernel_rfl⟩
instance NI:dG Tryz.prog 34 3 3:=⟨fun ad w=> by kernel_rfl⟩
instance Ng:dG Tryz.prog 34 4 4:=⟨fun ad w=> by kernel_rfl⟩
instance Mt:dG Tryz.prog 39 0 0:=⟨fun ad w=> by kernel_rfl⟩
instance NH:dG Tryz.prog 39 1 1:=⟨fun ad w=> by kernel_rfl⟩
instance Mo:dG Tryz.prog 39 2 2:=⟨fun ad w=> by kernel_rfl⟩
instance NR:dG Tryz.prog 39 3 3:=⟨fun ad w=> by kernel_rfl⟩
instance Nc:dG Tryz.prog 39 4 4:=⟨fun ad w=> by kernel_rfl⟩
instance NA:dG Tryz.prog 39 5 5:=⟨fun ad w=> by kernel_rfl⟩
instance NB:dG Tryz.prog 48 0 0:=⟨fun ad w=> by kernel_rfl⟩
instance NJ:dG Tryz.prog 48 1 1:=⟨fun ad w=> by kernel_rfl⟩
instance Nn:dG Tryz.prog 57 0 0:=⟨fun ad w=> by kernel_rfl⟩
instance NC:dG Tryz.prog 57 1 1:=⟨fun ad w=> by kernel_rfl⟩
instance MD:dG Tryz.prog 57 2 2:=⟨fun ad w=> by kernel_rfl⟩
instance Nb:dG Tryz.prog 57 3 3:=⟨fun ad w=> by kernel_rfl⟩
instance LQ:dG Tryz.prog 57 4 4:=⟨fun ad w=> by kernel_rfl⟩
instance LT:dG Tryz.prog 64 0 0:=⟨fun ad w=> by kernel_rfl⟩
instance MJ:dG Tryz.prog 64 1 1:=⟨fun ad w=> by kernel_rfl⟩
instance My:dG Tryz.prog 64 2 2:=⟨fun ad w=> by kernel_rfl⟩
instance Nq:dG Tryz.prog 71 0 0:=⟨fun ad w=> by kernel_rfl⟩
instance MO:dG Tryz.prog 71 1 1:=⟨fun ad w=> by kernel_rfl⟩
instance Mf:dG Tryz.prog 71 2 2:=⟨fun ad w=> by kernel_rfl⟩
instance MW:dG Tryz.prog 71 3 3:=⟨fun ad w=> by kernel_rfl⟩
instance Md:dG Tryz.prog 73 0 0:=⟨fun ad w=> by kernel_rfl⟩
instance Oa:dG Tryz.prog 73 1 1:=⟨fun ad w=> by kernel_rfl⟩
instance Ml:dG Tryz.prog 80 0 0:=⟨fun ad w=> by kernel_rfl⟩
instance Mi:Fvl Tryz.prog 80 0 0 false 1:=Fvl.of Tryz.underlying80 rfl rfl No rfl
instance LN:dG Tryz.prog 80 1 1:=⟨fun ad w=> by kernel_rfl⟩
instance Oc:dG Tryz.prog 83 0 0:=⟨fun ad w=> by kernel_rfl⟩
instance MV:dG Tryz.prog 83 1 1:=⟨fun ad w=> by kernel_rfl⟩
instance MB:dG Tryz.prog 83 2 2:=⟨fun ad w=> by kernel_rfl⟩
instance Nu:dG Tryz.prog 83 3 3:=⟨fun ad w=> by kernel_rfl⟩
instance MF:dG Tryz.prog 83 4 4:=⟨fun ad w=> by kernel_rfl⟩
instance LO:dG Tryz.prog 83 5 6:=⟨fun ad w=> by kernel_rfl⟩
instance NO:dG Tryz.prog 83 6 7:=⟨fun ad w=> by kernel_rfl⟩
instance LX:dG Tryz.prog 83 7 8:=⟨fun ad w=> by kernel_rfl⟩
instance NY:dG Tryz.prog 83 8 49:=⟨fun ad w=> by kernel_rfl⟩
instance MS:dG Tryz.prog 83 9 50:=⟨fun ad w=> by kernel_rfl⟩
instance KS:dG Tryz.prog 83 10 51:=⟨fun ad w=> by kernel_rfl⟩
instance NU:dG Tryz.prog 87 0 0:=⟨fun ad w=> by kernel_rfl⟩
instance Mp:dG Tryz.prog 87 1 1:=⟨fun ad w=> by kernel_rfl⟩
instance LL:dG Tryz.prog 87 2 2:=⟨fun ad w=> by kernel_rfl⟩
instance Mc:dG Tryz.prog 87 3 11:=⟨fun ad w=> by kernel_rfl⟩
instance Mu:dG Tryz.prog 87 4 12:=⟨fun ad w=> by kernel_rfl⟩
instance Oi:dG Tryz.prog 87 5 13:=⟨fun ad w=> by kernel_rfl⟩
instance Mm:dG Tryz.prog 87 6 14:=⟨fun ad w=> by kernel_rfl⟩
instance ML:dG Tryz.prog 96 0 0:=⟨fun ad w=> by kernel_rfl⟩
instance Of:dG Tryz.prog 96 1 3:=⟨fun ad w=> by kernel_rfl⟩
instance MU:dG Tryz.prog 96 2 4:=⟨fun ad w=> by kernel_rfl⟩
instance MI:dG Tryz.prog 96 3 5:=⟨fun ad w=> by kernel_rfl⟩
instance Mb:dG Tryz.prog 96 4 6:=⟨fun ad w=> by kernel_rfl⟩
instance Me:dG Tryz.prog 96 5 7:=⟨fun ad w=> by kernel_rfl⟩
instance KU:dG Tryz.prog 103 0 0:=⟨fun ad w=> by kernel_rfl⟩
instance KP:dG Tryz.prog 103 1 3:=⟨fun ad w=> by kernel_rfl⟩
instance LJ:dG Tryz.prog 103 2 4:=⟨fun ad w=> by kernel_rfl⟩
instance KO:dG Tryz.prog 109 0 0:=⟨fun ad w=> by kernel_rfl⟩
instance Lj:dG Tryz.prog 109 1 3:=⟨fun ad w=> by kernel_rfl⟩
instance Lr:dG Tryz.prog 109 2 4:=⟨fun ad w=> by kernel_rfl⟩
instance Lc:dG Tryz.prog 126 0 0:=⟨fun ad w=> by kernel_rfl⟩
instance LC:dG Tryz.prog 126 1 1:=⟨fun ad w=> by kernel_rfl⟩
instance La:dG Tryz.prog 132 0 0:=⟨fun ad w=> by kernel_rfl⟩
instance Lo:dG Tryz.prog 132 1 1:=⟨fun ad w=> by kernel_rfl⟩
instance LB:dG Tryz.prog 171 0 0:=⟨fun ad w=> by kernel_rfl⟩
instance Lx:dG Tryz.prog 171 1 43:=⟨fun ad w=> by kernel_rfl⟩
instance Lp:dG Tryz.prog 171 2 53:=⟨fun ad w=> by kernel_rfl⟩
instance KT:dG Tryz.prog 171 3 54:=⟨fun ad w=> by kernel_rfl⟩
instance Lg:dG Tryz.prog 171 4 59:=⟨fun ad w=> by kernel_rfl⟩
instance LK:dG Tryz.prog 171 5 60:=⟨fun ad w=> by kernel_rfl⟩
instance LH:dG Tryz.prog 171 6 61:=⟨fun ad w=> by kernel_rfl⟩
instance Lw:dG Tryz.prog 171 7 62:=⟨fun ad w=> by kernel_rfl⟩
instance Lu:dG Tryz.prog 171 8 63:=⟨fun ad w=> by kernel_rfl⟩
instance LF:dG Tryz.prog 196 0 0:=⟨fun ad w=> by kernel_rfl⟩
instance KR:dG Tryz.prog 196 1 5:=⟨fun ad w=> by kernel_rfl⟩
instance Lz:dG Tryz.prog 222 0 0:=⟨fun ad w=> by kernel_rfl⟩
instance KV:dG Tryz.prog 222 1 1:=⟨fun ad w=> by kernel_rfl⟩
instance Lf:dG Tryz.prog 222 3 3:=⟨fun ad w=> by kernel_rfl⟩
instance Lt:dG Tryz.prog 222 4 4:=⟨fun ad w=> by kernel_rfl⟩
instance Lk:dG Tryz.prog 225 0 0:=⟨fun ad w=> by kernel_rfl⟩
instance LE:dG Tryz.prog 225 2 2:=⟨fun ad w=> by kernel_rfl⟩
instance KZ:dG Tryz.prog 225 3 3:=⟨fun ad w=> by kernel_rfl⟩
instance TR:bU Tryz.prog 21:=⟨fun args w=> by kernel_rfl⟩
instance TV:bU Tryz.prog 23:=⟨fun args w=> by kernel_rfl⟩
instance RH:bU Tryz.prog 26:=⟨fun args w=> by kernel_rfl⟩
instance Tm:bU Tryz.prog 30:=⟨fun args w=> by kernel_rfl⟩
instance TE:bU Tryz.prog 31:=⟨fun args w=> by kernel_rfl⟩
instance SK:bU Tryz.prog 32:=⟨fun args w=> by kernel_rfl⟩
instance Sb:bU Tryz.prog 33:=⟨fun args w=> by kernel_rfl⟩
instance Ub:bU Tryz.prog 35:=⟨fun args w=> by kernel_rfl⟩
instance Td:bU Tryz.prog 39:=⟨fun args w=> by kernel_rfl⟩
instance Ti:bU Tryz.prog 40:=⟨fun args w=> by kernel_rfl⟩
instance TS:bU Tryz.prog 41:=⟨fun args w=> by kernel_rfl⟩
instance Un:bU Tryz.prog 42:=⟨fun args w=> by kernel_rfl⟩
instance RB:bU Tryz.prog 43:=⟨fun args w=> by kernel_rfl⟩
instance Uf:bU Tryz.prog 44:=⟨fun args w=> by kernel_rfl⟩
instance Se:bU Tryz.prog 45:=⟨fun args w=> by kernel_rfl⟩
instance RR:bU Tryz.prog 47:=⟨fun args w=> by kernel_rfl⟩
instance Tj:bU Tryz.prog 48:=⟨fun args w=> by kernel_rfl⟩
instance RN:bU Tryz.prog 50:=⟨fun args w=> by kernel_rfl⟩
instance RT:bU Tryz.prog 51:=⟨fun args w=> by kernel_rfl⟩
instance TP:bU Tryz.prog 52:=⟨fun args w=> by kernel_rfl⟩
instance Ss:bU Tryz.prog 53:=⟨fun args w=> by kernel_rfl⟩
instance SI:bU Tryz.prog 54:=⟨fun args w=> by kernel_rfl⟩
instance To:bU Tryz.prog 55:=⟨fun args w=> by kernel_rfl⟩
instance SO:bU Tryz.prog 56:=⟨fun args w=> by kernel_rfl⟩
instance Rx:bU Tryz.prog 57:=⟨fun args w=> by kernel_rfl⟩
instance Ts:bU Tryz.prog 58:=⟨fun args w=> by kernel_rfl⟩
instance TX:bU Tryz.prog 59:=⟨fun args w=> by kernel_rfl⟩
instance Rp:bU Tryz.prog 61:=⟨fun args w=> by kernel_rfl⟩
instance Sd:bU Tryz.prog 62:=⟨fun args w=> by kernel_rfl⟩
instance Su:bU Tryz.prog 63:=⟨fun args w=> by kernel_rfl⟩
instance TC:bU Tryz.prog 64:=⟨fun args w=> by kernel_rfl⟩
instance Tq:bU Tryz.prog 65:=⟨fun args w=> by kernel_rfl⟩
instance RS:bU Tryz.prog 72:=⟨fun args w=> by kernel_rfl⟩
instance Sa:bU Tryz.prog 73:=⟨fun args w=> by kernel_rfl⟩
instance TK:bU Tryz.prog 74:=⟨fun args w=> by kernel_rfl⟩
instance Ru:bU Tryz.prog 75:=⟨fun args w=> by kernel_rfl⟩
instance Sx:bU Tryz.prog 76:=⟨fun args w=> by kernel_rfl⟩
instance SA:bU Tryz.prog 77:=⟨fun args w=> by kernel_rfl⟩
instance TA:bU Tryz.prog 78:=⟨fun args w=> by kernel_rfl⟩
instance TB:bU Tryz.prog 79:=⟨fun args w=> by kernel_rfl⟩
instance Uh:bU Tryz.prog 80:=⟨fun args w=> by kernel_rfl⟩
instance RK:bU Tryz.prog 81:=⟨fun args w=> by kernel_rfl⟩
instance Sn:bU Tryz.prog 82:=⟨fun args w=> by kernel_rfl⟩
instance TQ:bU Tryz.prog 83:=⟨fun args w=> by kernel_rfl⟩
instance SF:bU Tryz.prog 85:=⟨fun args w=> by kernel_rfl⟩
instance Sk:bU Tryz.prog 86:=⟨fun args w=> by kernel_rfl⟩
instance So:bU Tryz.prog 87:=⟨fun args w=> by kernel_rfl⟩
instance Tp:bU Tryz.prog 88:=⟨fun args w=> by kernel_rfl⟩
instance Tg:bU Tryz.prog 89:=⟨fun args w=> by kernel_rfl⟩
instance SM:bU Tryz.prog 90:=⟨fun args w=> by kernel_rfl⟩
instance RU:bU Tryz.prog 91:=⟨fun args w=> by kernel_rfl⟩
instance SQ:bU Tryz.prog 92:=⟨fun args w=> by kernel_rfl⟩
instance SP:bU Tryz.prog 93:=⟨fun args w=> by kernel_rfl⟩
instance Rn:bU Tryz.prog 94:=⟨fun args w=> by kernel_rfl⟩
instance Tb:bU Tryz.prog 95:=⟨fun args w=> by kernel_rfl⟩
instance SN:bU Tryz.prog 96:=⟨fun args w=> by kernel_rfl⟩
instance Sp:bU Tryz.prog 97:=⟨fun args w=> by kernel_rfl⟩
instance Qd:bU Tryz.prog 106:=⟨fun args w=> by kernel_rfl⟩
instance Qw:bU Tryz.prog 107:=⟨fun args w=> by kernel_rfl⟩
instance OU:bU Tryz.prog 108:=⟨fun args w=> by kernel_rfl⟩
instance OT:bU Tryz.prog 109:=⟨fun args w=> by kernel_rfl⟩
instance Pc:bU Tryz.prog 110:=⟨fun args w=> by kernel_rfl⟩
instance Re:bU Tryz.prog 111:=⟨fun args w=> by kernel_rfl⟩
instance QA:bU Tryz.prog 112:=⟨fun args w=> by kernel_rfl⟩
instance Px:bU Tryz.prog 113:=⟨fun args w=> by kernel_rfl⟩
instance Ra:bU Tryz.prog 114:=⟨fun args w=> by kernel_rfl⟩
instance Rc:bU Tryz.prog 115:=⟨fun args w=> by kernel_rfl⟩
instance Pa:bU Tryz.prog 116:=⟨fun args w=> by kernel_rfl⟩
instance Qu:bU Tryz.prog 117:=⟨fun args w=> by kernel_rfl⟩
instance PN:bU Tryz.prog 118:=⟨fun args w=> by kernel_rfl⟩
instance Qb:bU Tryz.prog 119:=⟨fun args w=> by kernel_rfl⟩
instance OE:bU Tryz.prog 120:=⟨fun args w=> by kernel_rfl⟩
instance Pr:bU Tryz.prog 121:=⟨fun args w=> by kernel_rfl⟩
instance Qn:bU Tryz.prog 122:=⟨fun args w=> by kernel_rfl⟩
instance Ol:bU Tryz.prog 123:=⟨fun args w=> by kernel_rfl⟩
instance OZ:bU Tryz.prog 124:=⟨fun args w=> by kernel_rfl⟩
instance Rb:bU Tryz.prog 125:=⟨fun args w=> by kernel_rfl⟩
instance Py:bU Tryz.prog 126:=⟨fun args w=> by kernel_rfl⟩
instance PW:bU Tryz.prog 127:=⟨fun args w=> by kernel_rfl⟩
instance PL:bU Tryz.prog 128:=⟨fun args w=> by kernel_rfl⟩
instance Ri:bU Tryz.prog 129:=⟨fun args w=> by kernel_rfl⟩
instance Qp:bU Tryz.prog 130:=⟨fun args w=> by kernel_rfl⟩
instance Ql:bU Tryz.prog 131:=⟨fun args w=> by kernel_rfl⟩
instance Qv:bU Tryz.prog 132:=⟨fun args w=> by kernel_rfl⟩
instance OD:bU Tryz.prog 133:=⟨fun args w=> by kernel_rfl⟩
instance Pu:bU Tryz.prog 134:=⟨fun args w=> by kernel_rfl⟩
instance Pj:bU Tryz.prog 135:=⟨fun args w=> by kernel_rfl⟩
instance Pf:bU Tryz.prog 136:=⟨fun args w=> by kernel_rfl⟩
instance Ov:bU Tryz.prog 137:=⟨fun args w=> by kernel_rfl⟩
instance PQ:bU Tryz.prog 138:=⟨fun args w=> by kernel_rfl⟩
instance OG:bU Tryz.prog 139:=⟨fun args w=> by kernel_rfl⟩
instance QG:bU Tryz.prog 140:=⟨fun args w=> by kernel_rfl⟩
instance Oq:bU Tryz.prog 141:=⟨fun args w=> by kernel_rfl⟩
instance OL:bU Tryz.prog 142:=⟨fun args w=> by kernel_rfl⟩
instance Rj:bU Tryz.prog 143:=⟨fun args w=> by kernel_rfl⟩
instance QZ:bU Tryz.prog 144:=⟨fun args w=> by kernel_rfl⟩
instance PK:bU Tryz.prog 145:=⟨fun args w=> by kernel_rfl⟩
instance PH:bU Tryz.prog 146:=⟨fun args w=> by kernel_rfl⟩
instance Oo:bU Tryz.prog 147:=⟨fun args w=> by kernel_rfl⟩
instance Qt:bU Tryz.prog 148:=⟨fun args w=> by kernel_rfl⟩
instance QW:bU Tryz.prog 149:=⟨fun args w=> by kernel_rfl⟩
instance Pd:bU Tryz.prog 150:=⟨fun args w=> by kernel_rfl⟩
instance OA:bU Tryz.prog 151:=⟨fun args w=> by kernel_rfl⟩
instance PC:bU Tryz.prog 152:=⟨fun args w=> by kernel_rfl⟩
instance Ph:bU Tryz.prog 153:=⟨fun args w=> by kernel_rfl⟩
instance QS:bU Tryz.prog 154:=⟨fun args w=> by kernel_rfl⟩
instance QI:bU Tryz.prog 155:=⟨fun args w=> by kernel_rfl⟩
instance OH:bU Tryz.prog 159:=⟨fun args w=> by kernel_rfl⟩
instance PR:bU Tryz.prog 160:=⟨fun args w=> by kernel_rfl⟩
instance Ps:bU Tryz.prog 161:=⟨fun args w=> by kernel_rfl⟩
instance Pi:bU Tryz.prog 162:=⟨fun args w=> by kernel_rfl⟩
instance QD:bU Tryz.prog 163:=⟨fun args w=> by kernel_rfl⟩
instance QO:bU Tryz.prog 164:=⟨fun args w=> by kernel_rfl⟩
instance Pk:bU Tryz.prog 165:=⟨fun args w=> by kernel_rfl⟩
instance OI:bU Tryz.prog 166:=⟨fun args w=> by kernel_rfl⟩
instance Qj:bU Tryz.prog 167:=⟨fun args w=> by kernel_rfl⟩
instance QH:bU Tryz.prog 180:=⟨fun args w=> by kernel_rfl⟩
instance OP:bU Tryz.prog 181:=⟨fun args w=> by kernel_rfl⟩
instance OQ:bU Tryz.prog 182:=⟨fun args w=> by kernel_rfl⟩
instance OJ:bU Tryz.prog 183:=⟨fun args w=> by kernel_rfl⟩
instance QV:bU Tryz.prog 184:=⟨fun args w=> by kernel_rfl⟩
instance QN:bU Tryz.prog 185:=⟨fun args w=> by kernel_rfl⟩
instance Ok:bU Tryz.prog 187:=⟨fun args w=> by kernel_rfl⟩
instance Qq:bU Tryz.prog 188:=⟨fun args w=> by kernel_rfl⟩
instance Oy:bU Tryz.prog 189:=⟨fun args w=> by kernel_rfl⟩
instance OB:bU Tryz.prog 190:=⟨fun args w=> by kernel_rfl⟩
instance Pb:bU Tryz.prog 194:=⟨fun args w=> by kernel_rfl⟩
instance PM:bU Tryz.prog 195:=⟨fun args w=> by kernel_rfl⟩
instance Qi:bU Tryz.prog 196:=⟨fun args w=> by kernel_rfl⟩
instance Om:bU Tryz.prog 197:=⟨fun args w=> by kernel_rfl⟩
instance On:bU Tryz.prog 199:=⟨fun args w=> by kernel_rfl⟩
instance Rk:bU Tryz.prog 200:=⟨fun args w=> by kernel_rfl⟩
instance Pl:bU Tryz.prog 201:=⟨fun args w=> by kernel_rfl⟩
instance QR:bU Tryz.prog 202:=⟨fun args w=> by kernel_rfl⟩
instance Rm:bU Tryz.prog 203:=⟨fun args w=> by kernel_rfl⟩
instance PI:bU Tryz.prog 204:=⟨fun args w=> by kernel_rfl⟩
instance Oz:bU Tryz.prog 205:=⟨fun args w=> by kernel_rfl⟩
instance Pt:bU Tryz.prog 207:=⟨fun args w=> by kernel_rfl⟩
instance OS:bU Tryz.prog 208:=⟨fun args w=> by kernel_rfl⟩
instance PX:bU Tryz.prog 221:=⟨fun args w=> by kernel_rfl⟩
instance QQ:bU Tryz.prog 222:=⟨fun args w=> by kernel_rfl⟩
instance Pv:bU Tryz.prog 223:=⟨fun args w=> by kernel_rfl⟩
instance OW:bU Tryz.prog 224:=⟨fun args w=> by kernel_rfl⟩
instance OO:bU Tryz.prog 225:=⟨fun args w=> by kernel_rfl⟩
instance QX:bU Tryz.prog 226:=⟨fun args w=> by kernel_rfl⟩
instance OF:bU Tryz.prog 227:=⟨fun args w=> by kernel_rfl⟩
instance PZ:bU Tryz.prog 228:=⟨fun args w=> by kernel_rfl⟩
instance Qc:bU Tryz.prog 235:=⟨fun args w=> by kernel_rfl⟩
instance QB:bU Tryz.prog 236:=⟨fun args w=> by kernel_rfl⟩
instance Po:bU Tryz.prog 237:=⟨fun args w=> by kernel_rfl⟩
instance Pm:bU Tryz.prog 240:=⟨fun args w=> by kernel_rfl⟩
end Go.Proofs.YtmjnackchaahbaaGreat

namespace Go.Proofs.YtmjnackchaahbaaGreat

instance Rr:Bld Tryz.prog 26 LI (fun i=> ([(0,1),(1,40),(41,1),(42,1)]:List (Nat×Nat))[i]?):=Bld.struct (bytes:=360) (.agg (LI).toArray) [(0,1),(1,40),(41,1),(42,1)] Tryz.underlying26 ae rfl oC (fun w=> by kernel_rfl)
instance RE:Bld Tryz.prog 30 Hw (fun i=> some (i*1,1)):=Bld.array (bytes:=72) (.agg (Hw).toArray) Tryz.underlying30 ae rfl oC ae
instance Up:Bld Tryz.prog 34 Ly (fun i=> ([(0,1),(1,1),(2,1),(3,1),(4,1)]:List (Nat×Nat))[i]?):=Bld.struct (bytes:=88) (.agg (Ly).toArray) [(0,1),(1,1),(2,1),(3,1),(4,1)] Tryz.underlying34 ae rfl oC (fun w=> by kernel_rfl)
instance Ud:Bld Tryz.prog 39 LD (fun i=> ([(0,1),(1,1),(2,1),(3,1),(4,1),(5,1)]:List (Nat×Nat))[i]?):=Bld.struct (bytes:=112) (.agg (LD).toArray) [(0,1),(1,1),(2,1),(3,1),(4,1),(5,1)] Tryz.underlying39 ae rfl oC (fun w=> by kernel_rfl)
instance Ug:Bld Tryz.prog 48 [.int .i64 0, .int .i64 0] (fun i=> ([(0,1),(1,1)]:List (Nat×Nat))[i]?):=Bld.struct (bytes:=16) (.agg #[.int .i64 0, .int .i64 0]) [(0,1),(1,1)] Tryz.underlying48 ae rfl oC (fun w=> by kernel_rfl)
instance RX:Bld Tryz.prog 57 xQ (fun i=> ([(0,1),(1,1),(2,1),(3,1),(4,1)]:List (Nat×Nat))[i]?):=Bld.struct (bytes:=40) (.agg (xQ).toArray) [(0,1),(1,1),(2,1),(3,1),(4,1)] Tryz.underlying57 ae rfl oC (fun w=> by kernel_rfl)
instance Tu:Bld Tryz.prog 71 Jr (fun i=> ([(0,1),(1,1),(2,1),(3,1)]:List (Nat×Nat))[i]?):=Bld.struct (bytes:=56) (.agg (Jr).toArray) [(0,1),(1,1),(2,1),(3,1)] Tryz.underlying71 ae rfl oC (fun w=> by kernel_rfl)
instance TG:Bld Tryz.prog 73 Jt (fun i=> ([(0,1),(1,4)]:List (Nat×Nat))[i]?):=Bld.struct (bytes:=64) (.agg (Jt).toArray) [(0,1),(1,4)] Tryz.underlying73 ae rfl oC (fun w=> by kernel_rfl)
instance Sg:Bld Tryz.prog 80 [.slice none 0 0, .slice none 0 0] (fun i=> ([(0,1),(1,1)]:List (Nat×Nat))[i]?):=Bld.struct (bytes:=48) (.agg #[.slice none 0 0, .slice none 0 0]) [(0,1),(1,1)] Tryz.underlying80 ae rfl oC (fun w=> by kernel_rfl)
instance TY:Bld Tryz.prog 83 Lm (fun i=> ([(0,1),(1,1),(2,1),(3,1),(4,2),(6,1),(7,1),(8,41),(49,1),(50,1),(51,1)]:List (Nat×Nat))[i]?):=Bld.struct (bytes:=480) (.agg (Lm).toArray) [(0,1),(1,1),(2,1),(3,1),(4,2),(6,1),(7,1),(8,41),(49,1),(50,1),(51,1)] Tryz.underlying83 ae rfl oC (fun w=> by kernel_rfl)
instance TD:Bld Tryz.prog 87 yU (fun i=> ([(0,1),(1,1),(2,9),(11,1),(12,1),(13,1),(14,1)]:List (Nat×Nat))[i]?):=Bld.struct (bytes:=152) (.agg (yU).toArray) [(0,1),(1,1),(2,9),(11,1),(12,1),(13,1),(14,1)] Tryz.underlying87 ae rfl oC (fun w=> by kernel_rfl)
instance Tf:Bld Tryz.prog 91 Gj (fun i=> ([(0,1),(1,1),(2,1)]:List (Nat×Nat))[i]?):=Bld.struct (bytes:=24) (.agg (Gj).toArray) [(0,1),(1,1),(2,1)] Tryz.underlying91 ae rfl oC (fun w=> by kernel_rfl)
instance Sf:Bld Tryz.prog 93 JI (fun i=> ([(0,52),(52,1),(53,1),(54,1),(55,1),(56,1),(57,3),(60,6),(66,1)]:List (Nat×Nat))[i]?):=Bld.struct (bytes:=728) (.agg (JI).toArray) [(0,52),(52,1),(53,1),(54,1),(55,1),(56,1),(57,3),(60,6),(66,1)] Tryz.underlying93 ae rfl oC (fun w=> by kernel_rfl)
instance SX:Bld Tryz.prog 96 GD (fun i=> ([(0,3),(3,1),(4,1),(5,1),(6,1),(7,5)]:List (Nat×Nat))[i]?):=Bld.struct (bytes:=176) (.agg (GD).toArray) [(0,3),(3,1),(4,1),(5,1),(6,1),(7,5)] Tryz.underlying96 ae rfl oC (fun w=> by kernel_rfl)
instance QC:Bld Tryz.prog 103 JL (fun i=> ([(0,3),(3,1),(4,1)]:List (Nat×Nat))[i]?):=Bld.struct (bytes:=72) (.agg (JL).toArray) [(0,3),(3,1),(4,1)] Tryz.underlying103 ae rfl oC (fun w=> by kernel_rfl)
instance QT:Bld Tryz.prog 109 xQ (fun i=> ([(0,3),(3,1),(4,1)]:List (Nat×Nat))[i]?):=Bld.struct (bytes:=40) (.agg (xQ).toArray) [(0,3),(3,1),(4,1)] Tryz.underlying109 ae rfl oC (fun w=> by kernel_rfl)
instance OC:Bld Tryz.prog 111 FM (fun i=> ([(0,5),(5,1),(6,1)]:List (Nat×Nat))[i]?):=Bld.struct (bytes:=56) (.agg (FM).toArray) [(0,5),(5,1),(6,1)] Tryz.underlying111 ae rfl oC (fun w=> by kernel_rfl)
instance Qx:Bld Tryz.prog 115 xQ (fun i=> ([(0,3),(3,1),(4,1)]:List (Nat×Nat))[i]?):=Bld.struct (bytes:=40) (.agg (xQ).toArray) [(0,3),(3,1),(4,1)] Tryz.underlying115 ae rfl oC (fun w=> by kernel_rfl)
instance Qf:Bld Tryz.prog 117 Hw (fun i=> ([(0,5),(5,1),(6,1),(7,1),(8,1)]:List (Nat×Nat))[i]?):=Bld.struct (bytes:=72) (.agg (Hw).toArray) [(0,5),(5,1),(6,1),(7,1),(8,1)] Tryz.underlying117 ae rfl oC (fun w=> by kernel_rfl)
instance Qy:Bld Tryz.prog 126 [.int .i64 0, .int .i64 0] (fun i=> ([(0,1),(1,1)]:List (Nat×Nat))[i]?):=Bld.struct (bytes:=16) (.agg #[.int .i64 0, .int .i64 0]) [(0,1),(1,1)] Tryz.underlying126 ae rfl oC (fun w=> by kernel_rfl)
instance PT:Bld Tryz.prog 132 FJ (fun i=> ([(0,1),(1,9)]:List (Nat×Nat))[i]?):=Bld.struct (bytes:=96) (.agg (FJ).toArray) [(0,1),(1,9)] Tryz.underlying132 ae rfl oC (fun w=> by kernel_rfl)
instance OV:Bld Tryz.prog 171 Km (fun i=> ([(0,43),(43,10),(53,1),(54,5),(59,1),(60,1),(61,1),(62,1),(63,1)]:List (Nat×Nat))[i]?):=Bld.struct (bytes:=608) (.agg (Km).toArray) [(0,43),(43,10),(53,1),(54,5),(59,1),(60,1),(61,1),(62,1),(63,1)] Tryz.underlying171 ae rfl oC (fun w=> by kernel_rfl)
instance Qs:Bld Tryz.prog 173 Fk (fun i=> some (i*1,1)):=Bld.array (bytes:=192) (.agg (Fk).toArray) Tryz.underlying173 ae rfl oC ae
instance QK:Bld Tryz.prog 176 [] (fun i=> ([]:List (Nat×Nat))[i]?):=Bld.struct (bytes:=0) (.agg #[]) [] Tryz.underlying176 ae rfl oC (fun w=> by kernel_rfl)
instance OX:Bld Tryz.prog 196 FO (fun i=> ([(0,5),(5,1)]:List (Nat×Nat))[i]?):=Bld.struct (bytes:=48) (.agg (FO).toArray) [(0,5),(5,1)] Tryz.underlying196 ae rfl oC (fun w=> by kernel_rfl)
instance QE:Bld Tryz.prog 222 Ka (fun i=> ([(0,1),(1,1),(2,1),(3,1),(4,1)]:List (Nat×Nat))[i]?):=Bld.struct (bytes:=72) (.agg (Ka).toArray) [(0,1),(1,1),(2,1),(3,1),(4,1)] Tryz.underlying222 ae rfl oC (fun w=> by kernel_rfl)
instance Qz:Bld Tryz.prog 225 Aq (fun i=> ([(0,1),(1,1),(2,1),(3,1)]:List (Nat×Nat))[i]?):=Bld.struct (bytes:=40) (.agg (Aq).toArray) [(0,1),(1,1),(2,1),(3,1)] Tryz.underlying225 ae rfl oC (fun w=> by kernel_rfl)
end Go.Proofs.YtmjnackchaahbaaGreat

set_option maxHeartbeats 2000000
namespace Go.Proofs.YtmjnackchaahbaaGreat
open Go.RowKit
def du (n m:Int):Int:=(if n < 0 then -(n+1) else n) % m
theorem iC (n m:Int) (h:0 < m):0≤du n m:=Int.emod_nonneg _ ab
theorem jU (n m:Int) (h:0 < m):du n m < m:=Int.emod_lt_of_pos _ h
theorem jv (n m:Int) (hm:1≤m) (h1:m≤4611686018427387904) (h2: -9223372036854775808≤n) (h3:n≤9223372036854775807):
  Spec Tryz.prog 33 (aI [.v (.int .i64 n), .v (.int .i64 m)] []) (aA (.v (.int .i64 (du n m))) []):=by
 refine Spec.ofN Tryz.func33 rfl Tryz.ntmps33 rfl ?_
 refine go 8 ?_
 refine ax rfl (fun hc6=> ?_) (fun hc6=> ?_)
 ·refine go 3 ?_
  refine aj (xf _ rfl (bQ ab)) ?_
  refine go 5 ?_
  refine aj (de _ _ rfl rfl ab (Int.tmod_eq_emod_of_nonneg ab)) ?_
  refine cp rfl (am (au (rJ rfl rfl ?_)))
  unfold du
  rw [if_pos hc6]
 refine cO (aG (bV rfl (bV rfl (aj (de _ _ rfl rfl ab (Int.tmod_eq_emod_of_nonneg ab)) ?_))))
 refine cp rfl (am (au (rJ rfl rfl ?_)))
 unfold du
 rw [if_neg ab]

theorem oy (n m:Nat) (xs ys:List Int) (hn:xs.length=n) (hm:ys.length=m) (h1:n≤4611686018427387904) (h2:m≤4611686018427387904):
  Spec Tryz.prog 30 (aI [.sl n (ba xs), .sl m (ba ys)] []) (aA (.v (.bool (decide (xs=ys)))) []):=by
 subst hn;subst hm
 refine Spec.ofN Tryz.func30 rfl Tryz.ntmps30 rfl ?_
 refine go 9 ?_
 refine aj (cV _ _ rfl rfl rfl) (am (ax rfl (fun hc10=> ?_) (fun hc10=> ?_)))
 ·refine aG (gn rfl (am (au (qZ rfl rfl ?_))))
  exact decide_eq_false fun h=> by subst h;omega
 refine cO (aF fun K5 hK5=> ?_)
 refine aG (cp rfl (am (aH ?_)))
 refine aS (α:=Nat) (fun k=> k≤xs.length∧xs.length=ys.length∧xs.take k=ys.take k) 26 [(0,_),(1,_)] [] (fun k=> [(5, .v (.int .i64 (k:Int)))]) (fun k=> []) [] [] (fun k=> xs.length - k) 0 ?_ (by
  refine Le.mkJ [] [] rfl ?_ ?_ trivial trivial ?_
  ·exact ⟨(by exact iS rfl),(by exact iS rfl),(aN ag),trivial⟩
  ·exact trivial
  kernel_rfl) ?_
 ·exact ⟨by omega,by omega,rfl⟩
 intro k hk
 obtain ⟨hk,hl,ht⟩:=hk
 refine aF fun K7 hK7=> ?_
 refine go 6 ?_
 refine ax rfl (fun hc14=> ?_) (fun hc14=> ?_)
 ·have hkx:k < xs.length:=by omega
  have hky:k < ys.length:=by omega
  refine aR (hK7 _ ?_)
  refine aE (aH (aE ?_))
  refine aB (σ':=an 26 [(0,_),(1,_),(5,_)] [] [] []) (by
   refine Le.mkJ [] [] rfl ?_ ?_ trivial trivial ?_
   ·exact ⟨(by exact iS rfl),(by exact iS rfl),(iV rfl),trivial⟩
   ·exact trivial
   kernel_rfl) ?_
  refine dA 9 [] ?_
  refine go 4 ?_
  refine aC (_,[]) (fun τ=> aQ _ _ aa rfl rfl _ rfl ab (by (simp only [aq,aJ,aM];omega)) (by exact Nat.mul_one _)) ?_
  refine go 1 ?_
  refine aC (_,[]) (fun τ=> bl _ aa rfl (by exact cw _ _ ab) rfl) ?_
  refine go 5 ?_
  refine aC (_,[]) (fun τ=> aQ _ _ aa rfl rfl _ rfl ab (by (simp only [aq,aJ,aM];omega)) (by exact Nat.mul_one _)) ?_
  refine go 1 ?_
  refine aC (_,[]) (fun τ=> bl _ aa rfl (by exact cw _ _ ab) rfl) ?_
  refine go 1 ?_
  refine aC (_,[]) (fun τ=> cV _ _ rfl rfl rfl) ?_
  refine go 1 ?_
  refine ci ⟨rfl,?_⟩
  refine am (ax rfl (fun hc25=> ?_) (fun hc25=> ?_))
  ·refine aG (gn rfl (am (au (qZ rfl rfl ?_))))
   exact decide_eq_false fun h=> by subst h;exact hc25 rfl
  refine go 5 ?_
  refine ay (⟨k+1,?_,?_,?_⟩)
  ·refine ⟨by omega,hl,?_⟩
   rw [tj _ _ _ hkx,tj _ _ _ hky] at hc25
   rw [List.take_succ_eq_append_getElem hkx,List.take_succ_eq_append_getElem hky,ht,hc25]
  ·refine Le.mkJ [] [] rfl ?_ ?_ trivial trivial ?_
   ·exact ⟨(by exact iS rfl),(by exact iS rfl),(aN ag),trivial⟩
   ·exact trivial
   kernel_rfl
  omega
 refine aW (id (hK5 _ ?_))
 refine aG (gn rfl (am (au (qZ rfl rfl ?_))))
 rw [List.take_of_length_le ab,List.take_of_length_le ab] at ht
 exact decide_eq_true ht
end Go.Proofs.YtmjnackchaahbaaGreat

set_option maxHeartbeats 2000000
namespace Go.Proofs.YtmjnackchaahbaaGreat
open Go.RowKit

theorem pd (b:UInt8):Spec Tryz.prog 221 (aI [.v (.int .u8 (b.toNat:Int))] []) (aA (.v (.bool (nb b))) []):=by
 have h:=Cw b
 refine Spec.ofN Tryz.func221 rfl Tryz.ntmps221 rfl ?_
 refine go 7 ?_
 refine cj (fun hg5=> ?_) (fun hg5=> ?_)
 ·have h:nb b=decide ((b.toNat:Int)≤122):=by rw [Bool.eq_iff_iff,h];simp [hg5]
  refine go 5 ?_
  refine au (qZ rfl rfl ?_)
  exact h
 have h:nb b=false:=Hk h (fun x=> by omega)
 refine go 5 ?_
 refine au (qZ rfl rfl ?_)
 exact h
theorem mM (b:UInt8):Spec Tryz.prog 222 (aI [.v (.int .u8 (b.toNat:Int))] []) (aA (.v (.bool (fU b))) []):=by
 have h:=uK b
 refine Spec.ofN Tryz.func222 rfl Tryz.ntmps222 rfl ?_
 refine go 7 ?_
 refine cj (fun hg5=> ?_) (fun hg5=> ?_)
 ·have h:fU b=decide ((b.toNat:Int)≤57):=by rw [Bool.eq_iff_iff,h];simp [hg5]
  refine go 5 ?_
  refine au (qZ rfl rfl ?_)
  exact h
 have h:fU b=false:=Hk h (fun x=> by omega)
 refine go 5 ?_
 refine au (qZ rfl rfl ?_)
 exact h
theorem qL (l:List Tx) (n:Nat) (hn:l.length=n) (h1:n≤1000) (t:Tx):Spec Tryz.prog 224 (aI [.sl n (eM l), .v (bt t)] []) (aA (.v (.bool (decide (t∈l)))) []):=by
 refine Spec.ofN Tryz.func224 rfl Tryz.ntmps224 rfl ?_
 refine aG (gn rfl (am (aF fun K2 hK2=> ?_)))
 refine aG (cp rfl (am (aH ?_)))
 refine aS (α:=Nat) (fun k=> k≤n∧t∉l.take k) 18 [(0,_),(1,_)] [] (fun k=> [(5, .v (.int .i64 (k:Int)))]) (fun k=> []) [] [] (fun k=> n - k) 0 ?_ (kj [] [] []) ?_
 ·exact ⟨Nat.zero_le _,by simp⟩
 intro k hk
 obtain ⟨hk,hnt⟩:=hk
 refine aF fun K4 hK4=> ?_
 refine go 6 ?_
 refine ax rfl (fun hc9=> ?_) (fun hc9=> ?_)
 ·refine aR (hK4 _ ?_)
  refine aE (aH (aG (gT rfl (bV rfl (aj (aQ _ _ aa rfl rfl _ rfl ab (by (simp only [aq,aJ,aM,bf];omega)) (by exact Nat.mul_one _)) ?_)))))
  refine aj (bl _ aa rfl (by exact jx _ _ ab) rfl) ?_
  refine tP rfl (aj (cW _ _ Tryz.underlying9 rfl rfl rfl) (am (ax rfl (fun hc17=> ?_) (fun hc17=> ?_))))
  ·refine aG (gn rfl (am (au (qZ rfl rfl ?_))))
   exact decide_eq_true (hc17 ▸ jN ab)
  refine go 5 ?_
  refine ay (⟨k+1,?_,?_,?_⟩)
  ·exact ⟨by omega,kw hnt ab hc17⟩
  ·exact kj [] [] []
  omega
 have hall:t∉l:=by rwa [List.take_of_length_le ab] at hnt
 refine aW (id (hK2 _ ?_))
 refine aG (gn rfl (am (au (qZ rfl rfl ?_))))
 exact decide_eq_false hall
theorem rA (s:Tx) (at_:Nat) (h1:s.length≤100000) (ha:at_≤s.length):Spec Tryz.prog 194 (aI [.v (bt s), .v (.int .i64 (at_:Int))] []) (aA (.v (.int .i64 (kK s at_ false:Int))) []):=by
 refine Spec.ofN Tryz.func194 rfl Tryz.ntmps194 rfl ?_
 refine aG (cp rfl (am (aF fun K2 hK2=> ?_)))
 refine aH ?_
 refine aS (α:=Nat) (fun k=> k≤s.length∧kK s k false=kK s at_ false) 41 [(0,_)] [] (fun k=> [(1, .v (.int .i64 (k:Int)))]) (fun k=> []) [] [] (fun k=> s.length - k) at_ ?_ (kj [] [] []) ?_
 ·exact ⟨ha,rfl⟩
 intro k hk
 obtain ⟨hk,hs⟩:=hk
 refine aF fun K3 hK3=> ?_
 refine go 6 ?_
 refine ax rfl (fun hc9=> ?_) (fun hc9=> ?_)
 ·obtain ⟨b,hb⟩:=kv (s:=s) (a:=k) ab
  have hbi:=NZ b
  refine aR (hK3 _ ?_)
  refine aH (aG (tP rfl (bV rfl (aj (kT _ _ Tryz.underlying9 rfl rfl (by assumption)) ?_))))
  refine cp rfl (am (aG (bV rfl (aj (bb _ _ rfl rfl rfl) (am (ax rfl (fun hc14=> ?_) (fun hc14=> ?_)))))))
  ·have hs:=(BP hb ab).symm.trans hs
   refine aH ?_
   refine aS (α:=Nat) (fun j=> k≤j∧j≤s.length∧kK s j true=kK s at_ false∧(j=k→j < s.length)) 41 [(0,_)] [] (fun j=> [(1, .v (.int .i64 (j:Int)))]) (fun j=> []) [] [] (fun j=> s.length - j) k ?_ (kj [] [] []) ?_
   ·exact ⟨Nat.le_refl _,by omega,hs,fun _=> by omega⟩
   intro j hj
   obtain ⟨hj1,hj2,hsj,hjk⟩:=hj
   refine aF fun K7 hK7=> ?_
   refine aF fun K8 hK8=> ?_
   refine go 6 ?_
   refine cj (fun hg19=> ?_) (fun hg19=> ?_)
   ·obtain ⟨u,hu⟩:=kv (s:=s) (a:=j) ab
    have hui:=NZ u
    refine go 2 ?_
    refine aZ rfl rfl (kT _ _ Tryz.underlying9 rfl rfl (by assumption)) ?_
    refine aZ rfl rfl (cV _ _ rfl rfl rfl) (go 1 ?_)
    refine ay (hK8 _ ?_)
    refine ax rfl (fun hc24=> ?_) (fun hc24=> ?_)
    ·refine aR (hK7 _ ?_)
     refine go 5 ?_
     refine ay (⟨j+1,?_,?_,?_⟩)
     ·exact ⟨by omega,by omega,(HD hu ab).symm.trans hsj,fun _=> by omega⟩
     ·exact kj [] [] []
     omega
    have hjs:kK s j false=kK s at_ false:=by rw [← hsj,Jc hu ab]
    have hjk':k < j:=Nat.lt_of_le_of_ne hj1 fun e=> by subst e;rw [hb] at hu;obtain rfl:=Option.some.inj hu;omega
    refine aW (id (⟨j,?_,?_,?_⟩))
    ·exact ⟨hj2,hjs⟩
    ·exact kj [] [] []
    omega
   have hjs:kK s j false=kK s at_ false:=by rw [← hsj,sC ab,sC ab]
   have hjk':k < j:=Nat.lt_of_le_of_ne hj1 fun e=> by have:=hjk e.symm;omega
   refine go 5 ?_
   refine ay (hK8 _ ?_)
   refine cP rfl rfl (aW (id (⟨j,?_,?_,?_⟩)))
   ·exact ⟨hj2,hjs⟩
   ·exact kj [] [] []
   omega
  refine aG (bV rfl (aj (bb _ _ rfl rfl rfl) (FV rfl (cj (fun hg29=> ?_) (fun hg29=> ?_)))))
  ·have hs2:kK s (k+1) false=kK s at_ false:=(wO hb ab ab).symm.trans hs
   refine go 9 ?_
   refine aB (σ':=an 41 [(0,_),(1,_)] [] [] []) kp ?_
   refine go 4 ?_
   refine ay (⟨k+1,?_,?_,?_⟩)
   ·exact ⟨by omega,hs2⟩
   ·exact kj [] [] []
   omega
  refine go 1 ?_
  refine aZ rfl rfl (bb _ _ rfl rfl rfl) (go 2 ?_)
  refine cj (fun hg33=> ?_) (fun hg33=> ?_)
  ·have hs2:kK s (k+1) false=kK s at_ false:=(wO hb ab ab).symm.trans hs
   refine go 5 ?_
   refine aB (σ':=an 41 [(0,_),(1,_)] [] [] []) kp ?_
   refine go 4 ?_
   refine ay (⟨k+1,?_,?_,?_⟩)
   ·exact ⟨by omega,hs2⟩
   ·exact kj [] [] []
   omega
  refine go 1 ?_
  refine aZ rfl rfl (bb _ _ rfl rfl rfl) (go 2 ?_)
  refine ax rfl (fun hc36=> ?_) (fun hc36=> ?_)
  ·have hs2:kK s (k+1) false=kK s at_ false:=(wO hb ab ab).symm.trans hs
   refine aB (σ':=an 41 [(0,_),(1,_)] [] [] []) kp ?_
   refine go 4 ?_
   refine ay (⟨k+1,?_,?_,?_⟩)
   ·exact ⟨by omega,hs2⟩
   ·exact kj [] [] []
   omega
  have hs3:=(FI hb ab ab).symm.trans hs
  refine aE ?_
  refine aB (σ':=an 41 [(1,_)] [] [] []) kp ?_
  refine aD (bV rfl (cp rfl (am (au (rJ rfl rfl ?_)))))
  rw [hs3]
 refine aW (id (hK2 _ ?_))
 refine aG (bV rfl (cp rfl (am (au (rJ rfl rfl ?_)))))
 rw [← hs,sC ab]
theorem pK (s:Tx) (h1:s.length≤100000) (hd: ∀ b∈s,fU b=true) (hv:kL s≤2147483647):Spec Tryz.prog 223 (aI [.v (bt s)] []) (aA (.v (.int .i64 (kL s:Int))) []):=by
 have hvt:=fun i=> zb s i
 refine Spec.ofN Tryz.func223 rfl Tryz.ntmps223 rfl ?_
 refine go 6 ?_
 refine aF fun K3 hK3=> ?_
 refine aG (cp rfl (am (aH ?_)))
 refine aS (α:=Nat) (fun k=> k≤s.length) 22 [(0,_)] [] (fun k=> [(3, .v (.int .i64 (kL (s.take k):Int))),(4, .v (.int .i64 (k:Int)))]) (fun k=> []) [] [] (fun k=> s.length - k) 0 ?_ (kj [] [] []) ?_
 ·omega
 intro k hk
 refine aF fun K5 hK5=> ?_
 refine go 6 ?_
 refine ax rfl (fun hc8=> ?_) (fun hc8=> ?_)
 ·obtain ⟨b,hb⟩:=kv (s:=s) (a:=k) ab
  have hbi:=NZ b
  have hbd:=(uK b).1 (hd b (List.mem_of_getElem? hb))
  have hvs:=yL hb
  have hv0:=hvt k
  have hv1:=hvt (k+1)
  have hvi:(10:Int)*(kL (s.take k):Int)+(b.toNat:Int) - 48=(kL (s.take (k+1)):Int):=by omega
  refine aR (hK5 _ ?_)
  refine aE (aH (aG (bV rfl (aj (wY _ _ rfl rfl (bQ ab)) ?_))))
  refine tP rfl (bV rfl (aj (kT _ _ Tryz.underlying9 rfl rfl (by assumption)) ?_))
  refine aj (tu _ Tryz.underlying5 Tryz.underlying3 rfl (bQ ab)) ?_
  refine go 8 ?_
  refine cP rfl (decide_eq_false ab) ?_
  refine kH ?_
  refine aB (σ':=an 22 [(0,_),(3,_),(4,_)] [] [] []) kp ?_
  refine go 4 ?_
  refine ay (⟨k+1,?_,?_,?_⟩)
  ·omega
  ·refine Le.mkJ [] [] rfl ?_ ?_ trivial trivial ?_
   ·exact ⟨(iV rfl),(aN ab),(aN ag),trivial⟩
   ·exact trivial
   kernel_rfl
  omega
 have he:s.take k=s:=List.take_of_length_le ab
 refine aW (id (hK3 _ ?_))
 refine aG (bV rfl (cp rfl (am (au (rJ rfl rfl ?_)))))
 rw [he]
end Go.Proofs.YtmjnackchaahbaaGreat

set_option maxHeartbeats 2000000
namespace Go.Proofs.YtmjnackchaahbaaGreat
open Go.RowKit

theorem Ea {p:UInt8→Bool} {c:UInt8}: ∀ {l:List UInt8},c∈l.takeWhile p→p c=true
 | [],h=> by simp at h
 | x::l,h=> by
  rw [List.takeWhile_cons] at h
  split at h
  ·rename_i hx
   rcases List.mem_cons.1 h with rfl | h
   ·exact hx
   exact Ea h
  simp at h
def vd (c:UInt8):Bool:=nb c || fU c
theorem ru {s:Tx} {a:Nat} {b:UInt8} {t:Tk} (hb:s[a]? =some b) (h1:nb b=true) (h:rh (s.drop a) a=some t):lp vd s (a+1) - a≤10∧t=⟨1,a,(s.drop a).take (lp vd s (a+1) - a),0⟩:=by
 rw [vn hb]
 rw [fH hb,rh] at h
 simp only [h1,if_true] at h
 rw [show lp vd s (a+1) - a=(b::(s.drop (a+1)).takeWhile fun x=> nb x || fU x).length by unfold lp vd;rw [List.length_cons];omega]
 split at h
 ·cases h
 rename_i hl;exact ⟨by omega,(Option.some.inj h).symm⟩
theorem vf {s:Tx} {a:Nat} {b:UInt8} {t:Tk} (hb:s[a]? =some b) (h1:nb b=false) (h2:fU b=true) (h:rh (s.drop a) a=some t):
  (∀ c∈(s.drop a).take (lp fU s (a+1) - a),fU c=true)∧kL ((s.drop a).take (lp fU s (a+1) - a))≤2147483647∧t=⟨2,a,(s.drop a).take (lp fU s (a+1) - a),kL ((s.drop a).take (lp fU s (a+1) - a))⟩:=by
 rw [vn hb]
 rw [fH hb,rh] at h
 simp only [h1,h2,if_true] at h
 simp only [Bool.false_eq_true,if_false] at h
 split at h
 ·cases h
 rename_i hl
 refine ⟨fun c hc=> ?_,by omega,(Option.some.inj h).symm⟩
 rcases List.mem_cons.1 hc with rfl | hc
 ·exact h2
 exact Ea hc
theorem uz {s:Tx} {a:Nat} {b:UInt8} {t:Tk} (hb:s[a]? =some b) (h1:nb b=false) (h2:fU b=false) (h:rh (s.drop a) a=some t):
  ((s.drop a).take 2∈EY∧t=⟨3,a,(s.drop a).take 2,0⟩)∨((s.drop a).take 2∉EY∧(s.drop a).take 1∈IF∧t=⟨3,a,(s.drop a).take 1,0⟩):=by
 rw [fH hb,rh] at h
 simp only [h1,h2,Bool.false_eq_true,if_false] at h
 rw [fH hb]
 split at h
 ·rename_i hm;exact .inl ⟨hm,(Option.some.inj h).symm⟩
 rename_i hm
 split at h
 ·rename_i hs;exact .inr ⟨hm,hs,(Option.some.inj h).symm⟩
 cases h
theorem Ao {s:Tx} {a:Nat} (h:a < s.length):(s.drop a).take (min (a+2) s.length - a)=(s.drop a).take 2:=by
 by_cases h2:a+2≤s.length
 ·congr 1;omega
 rw [List.take_of_length_le (by rw [List.length_drop];omega),List.take_of_length_le (by rw [List.length_drop];omega)]
theorem wv (s:Tx) (a:Nat) (h1:s.length≤100000) (ha:a < s.length) (t:Tk) (ht:rh (s.drop a) a=some t):
  Spec Tryz.prog 195 (aI [.v (bt s), .v (.int .i64 (a:Int))] []) (aA (.tup [.agg [.v (.int .i64 (t.k:Int)), .v (.int .i64 (t.a:Int)), .v (bt t.t), .v (.int .i64 (t.n:Int))], .v (.int .i64 0)]) []):=by
 obtain ⟨b,hb⟩:=kv ha
 have hwl:=th (p:=vd) (s:=s) (a:=a+1) ab
 have hdl:=th (p:=fU) (s:=s) (a:=a+1) ab
 refine Spec.ofN Tryz.func195 rfl Tryz.ntmps195 rfl ?_
 refine go 13 ?_
 refine aj (kT _ _ Tryz.underlying9 rfl rfl (by assumption)) ?_
 refine aj (ap aa al (pd b) rfl rfl) ?_
 refine am (ax rfl (fun hc15=> ?_) (fun hc15=> ?_))
 ·obtain ⟨htl,hte⟩:=ru hb hc15 ht
  refine aF fun K5 hK5=> ?_
  refine aH ?_
  refine aS (α:=Nat) (fun e=> a+1≤e∧e≤s.length∧lp vd s e=lp vd s (a+1)) 101 [(0,_),(1,_),(4,_)] [((4,0),_)] (fun e=> [(6, .v (.int .i64 (e:Int)))]) (fun e=> []) [] [] (fun e=> s.length - e) (a+1) ?_ (kj [0] [] []) ?_
  ·exact ⟨Nat.le_refl _,by omega,rfl⟩
  intro e he
  obtain ⟨he1,he2,het⟩:=he
  refine aF fun K6 hK6=> ?_
  refine aF fun K7 hK7=> ?_
  refine go 6 ?_
  refine cj (fun hg20=> ?_) (fun hg20=> ?_)
  ·obtain ⟨u,hu⟩:=kv (s:=s) (a:=e) ab
   refine go 2 ?_
   refine aZ rfl rfl (kT _ _ Tryz.underlying9 rfl rfl (by assumption)) ?_
   refine aZ rfl rfl (ap aa al (pd u) rfl rfl) ?_
   refine go 1 ?_
   refine cj (fun hg25=> ?_) (fun hg25=> ?_)
   ·have hnx:lp vd s (e+1)=lp vd s (a+1):=(tT hu (by unfold vd;rw [hg25];rfl)).symm.trans het
    refine go 6 ?_
    refine ay (hK7 _ ?_)
    refine fX rfl rfl (aR (hK6 _ ?_))
    refine aH ?_
    refine aB (σ':=an 101 [(0,_),(1,_),(4,_),(6,_)] [((4,0),_)] [] []) kp ?_
    refine go 4 ?_
    refine ay (⟨e+1,?_,?_,?_⟩)
    ·exact ⟨by omega,by omega,hnx⟩
    ·exact kj [0] [] []
    omega
   refine go 2 ?_
   refine aZ rfl rfl (kT _ _ Tryz.underlying9 rfl rfl (by assumption)) ?_
   refine aZ rfl rfl (ap aa al (mM u) rfl rfl) ?_
   refine go 2 ?_
   refine ay (hK7 _ ?_)
   refine ax rfl (fun hc31=> ?_) (fun hc31=> ?_)
   ·have hnx:lp vd s (e+1)=lp vd s (a+1):=(tT hu (by unfold vd;rw [hg25,hc31];rfl)).symm.trans het
    refine aR (hK6 _ ?_)
    refine aH ?_
    refine aB (σ':=an 101 [(0,_),(1,_),(4,_),(6,_)] [((4,0),_)] [] []) kp ?_
    refine go 4 ?_
    refine ay (⟨e+1,?_,?_,?_⟩)
    ·exact ⟨by omega,by omega,hnx⟩
    ·exact kj [0] [] []
    omega
   have hfin:e=lp vd s (a+1):=(BH hu (by unfold vd;rw [hg25,hc31];rfl)).symm.trans het
   refine aW (id (hK5 _ ?_))
   refine aE (aE ?_)
   refine aB (σ':=an 101 [(0,_),(1,_),(4,_),(6,_)] [((4,0),_)] [] []) kp ?_
   refine go 6 ?_
   refine cP rfl (decide_eq_false ab) ?_
   refine go 6 ?_
   refine aj (ls _ _ _ Tryz.underlying9 rfl _ _ (.lit rfl rfl) (.lit rfl rfl) ab ab rfl) ?_
   refine go 4 ?_
   refine au ?_
   subst hte;subst hfin
   exact km (.inr rfl) rfl (.cellA aa rfl rfl rfl) (.tmp kM) (Le.out [] [] (.tup rfl lz) rfl rfl rfl trivial trivial)
  have hfin:e=lp vd s (a+1):=(xG ab).symm.trans het
  refine go 11 ?_
  refine ay (hK7 _ ?_)
  refine cP rfl rfl (aW (id (hK5 _ ?_)))
  refine aE (aE ?_)
  refine aB (σ':=an 101 [(0,_),(1,_),(4,_),(6,_)] [((4,0),_)] [] []) kp ?_
  refine go 6 ?_
  refine cP rfl (decide_eq_false ab) ?_
  refine go 6 ?_
  refine aj (ls _ _ _ Tryz.underlying9 rfl _ _ (.lit rfl rfl) (.lit rfl rfl) ab ab rfl) ?_
  refine go 4 ?_
  refine au ?_
  subst hte;subst hfin
  exact km (.inr rfl) rfl (.cellA aa rfl rfl rfl) (.tmp kM) (Le.out [] [] (.tup rfl lz) rfl rfl rfl trivial trivial)
 have hlb:=hc15
 refine cO (aE (aG (tP rfl (bV rfl (aj (kT _ _ Tryz.underlying9 rfl rfl (by assumption)) ?_)))))
 refine aj (ap aa al (mM b) rfl rfl) ?_
 refine am (ax rfl (fun hc48=> ?_) (fun hc48=> ?_))
 ·obtain ⟨htd,htv,hte⟩:=vf hb hlb hc48 ht
  refine aF fun K16 hK16=> ?_
  refine aH ?_
  refine aS (α:=Nat) (fun e=> a+1≤e∧e≤s.length∧lp fU s e=lp fU s (a+1)) 101 [(0,_),(1,_),(4,_)] [((4,0),_)] (fun e=> [(6, .v (.int .i64 (e:Int)))]) (fun e=> []) [] [] (fun e=> s.length - e) (a+1) ?_ (kj [0] [] []) ?_
  ·exact ⟨Nat.le_refl _,by omega,rfl⟩
  intro e he
  obtain ⟨he1,he2,het⟩:=he
  refine aF fun K17 hK17=> ?_
  refine aF fun K18 hK18=> ?_
  refine go 6 ?_
  refine cj (fun hg53=> ?_) (fun hg53=> ?_)
  ·obtain ⟨u,hu⟩:=kv (s:=s) (a:=e) ab
   refine go 2 ?_
   refine aZ rfl rfl (kT _ _ Tryz.underlying9 rfl rfl (by assumption)) ?_
   refine aZ rfl rfl (ap aa al (mM u) rfl rfl) ?_
   refine go 1 ?_
   refine ay (hK18 _ ?_)
   refine ax rfl (fun hc58=> ?_) (fun hc58=> ?_)
   ·have hnx:lp fU s (e+1)=lp fU s (a+1):=(tT hu hc58).symm.trans het
    refine aR (hK17 _ ?_)
    refine go 5 ?_
    refine ay (⟨e+1,?_,?_,?_⟩)
    ·exact ⟨by omega,by omega,hnx⟩
    ·exact kj [0] [] []
    omega
   have hfin:e=lp fU s (a+1):=(BH hu hc58).symm.trans het
   refine aW (id (hK16 _ ?_))
   refine aG (tP rfl (bV rfl (bV rfl (aj (ls _ _ _ Tryz.underlying9 rfl _ _ (.lit rfl rfl) (.lit rfl rfl) ab ab rfl) ?_))))
   refine aj (ap aa al (pK ((s.drop a).take (e - a)) (by simp;omega) (by rw [hfin];exact htd) (by rw [hfin];exact htv)) rfl rfl) ?_
   refine cp rfl (am (aE (aE ?_)))
   refine aB (σ':=an 101 [(0,_),(1,_),(4,_),(6,_),(7,_)] [((4,0),_)] [] []) kp ?_
   refine go 4 ?_
   refine cP rfl (decide_eq_false ab) ?_
   refine go 6 ?_
   refine aj (ls _ _ _ Tryz.underlying9 rfl _ _ (.lit rfl rfl) (.lit rfl rfl) ab ab rfl) ?_
   refine go 5 ?_
   refine au ?_
   subst hte;subst hfin
   exact km (.inr rfl) rfl (.cellA aa rfl rfl rfl) (.tmp kM) (Le.out [] [] (.tup rfl lz) rfl rfl rfl trivial trivial)
  have hfin:e=lp fU s (a+1):=(xG ab).symm.trans het
  refine go 5 ?_
  refine ay (hK18 _ ?_)
  refine cP rfl rfl (aW (id (hK16 _ ?_)))
  refine aG (tP rfl (bV rfl (bV rfl (aj (ls _ _ _ Tryz.underlying9 rfl _ _ (.lit rfl rfl) (.lit rfl rfl) ab ab rfl) ?_))))
  refine aj (ap aa al (pK ((s.drop a).take (e - a)) (by simp;omega) (by rw [hfin];exact htd) (by rw [hfin];exact htv)) rfl rfl) ?_
  refine cp rfl (am (aE (aE ?_)))
  refine aB (σ':=an 101 [(0,_),(1,_),(4,_),(6,_),(7,_)] [((4,0),_)] [] []) kp ?_
  refine go 4 ?_
  refine cP rfl (decide_eq_false ab) ?_
  refine go 6 ?_
  refine aj (ls _ _ _ Tryz.underlying9 rfl _ _ (.lit rfl rfl) (.lit rfl rfl) ab ab rfl) ?_
  refine go 5 ?_
  refine au ?_
  subst hte;subst hfin
  exact km (.inr rfl) rfl (.cellA aa rfl rfl rfl) (.tmp kM) (Le.out [] [] (.tup rfl lz) rfl rfl rfl trivial trivial)
 have hsy:=uz hb hlb hc48 ht
 refine go 8 ?_
 refine aj (qu _ _ rfl rfl rfl) (aj (ls _ _ _ Tryz.underlying9 rfl a (min (a+2) s.length) (.lit rfl rfl) (.lit rfl ab) ab ab (Ao ha)) ?_)
 refine HX rfl (am (aE (aE ?_)))
 refine aB (σ':=an 101 [(0,_),(1,_),(4,_),(6,_),(8,_)] [((4,0),_)] [] []) kp ?_
 refine go 3 ?_
 refine aj (ap aa al (qL EY 6 rfl ab ((s.drop a).take 2)) rfl rfl) ?_
 refine am (ax rfl (fun hc86=> ?_) (fun hc86=> ?_))
 ·have hte:t=⟨3,a,(s.drop a).take 2,0⟩:=hsy.elim (·.2) fun h=> absurd hc86 h.1
  refine go 7 ?_
  refine au ?_
  subst hte
  exact km (.inr rfl) rfl (.cellA aa rfl rfl rfl) (.tmp kM) (Le.out [] [] (.tup rfl lz) rfl rfl rfl trivial trivial)
 obtain ⟨_,hs1,hte⟩:=hsy.resolve_left fun h=> hc86 h.1
 refine go 5 ?_
 refine aj (ls _ _ _ Tryz.underlying9 rfl a (a+1) (.lit rfl rfl) (.lit rfl rfl) ab ab (by rw [Nat.add_sub_cancel_left])) ?_
 refine go 6 ?_
 refine aj (ap aa al (qL IF 16 rfl ab ((s.drop a).take 1)) rfl rfl) ?_
 refine am (fX rfl (decide_eq_true hs1) ?_)
 refine go 7 ?_
 refine au ?_
 subst hte
 exact km (.inr rfl) rfl (.cellA aa rfl rfl rfl) (.tmp kM) (Le.out [] [] (.tup rfl lz) rfl rfl rfl trivial trivial)
theorem mO {f:Nat} {s:Tx} {a:Nat} {l:List Tk} (h:nx (f+1) s a=some l):(s.length≤a∧l=[⟨0,s.length,[],0⟩])∨(a < s.length∧ ∃ t m,rh (s.drop a) a=some t∧nx f s (kK s (a+t.t.length) false)=some m∧l=t::m):=by
 unfold nx at h
 split at h
 ·exact .inl ⟨by assumption,(Option.some.inj h).symm⟩
 split at h
 ·cases h
 split at h
 ·cases h
 rename_i t ht _ m hm
 exact .inr ⟨by omega,t,m,ht,hm,(Option.some.inj h).symm⟩
theorem tW {s:Tx} {a:Nat} {t:Tk} (ha:a < s.length) (h:rh (s.drop a) a=some t):0 < t.t.length∧a+t.t.length≤s.length:=by
 obtain ⟨b,hb⟩:=kv ha
 have key: ∀ k,0 < k→0 < ((s.drop a).take k).length∧a+((s.drop a).take k).length≤s.length:=fun k hk=> by rw [List.length_take,List.length_drop];omega
 cases h1:nb b with
 | true=> obtain ⟨_,rfl⟩:=ru hb h1 h;exact key _ (by have:=th (p:=vd) (s:=s) (a:=a+1) ab;omega)
 | false=>
  cases h2:fU b with
  | true=> obtain ⟨_,_,rfl⟩:=vf hb h1 h2 h;exact key _ (by have:=th (p:=fU) (s:=s) (a:=a+1) ab;omega)
  | false=>
   rcases uz hb h1 h2 h with ⟨_,rfl⟩ | ⟨_,_,rfl⟩
   ·exact key _ ab
   exact key _ ab
def HR (s:Tx) (l:List Tk) (z:Nat×List Tk):Prop:=z.1≤s.length∧z.2.length≤z.1∧ ∃ f m,nx f s z.1=some m∧l=z.2++m
theorem vk (s:Tx) (h1:s.length≤100000) (l:List Tk) (hl:GC s=some l):
  Spec Tryz.prog 159 (aI [.v (bt s)] []) (aA (.tup [.sl l.length (tJ l), .v (.int .i64 0), .v (.int .i64 0)]) []):=by
 have hs0:=wk (s:=s) (a:=0) (Nat.zero_le _) false
 refine Spec.ofN Tryz.func159 rfl Tryz.ntmps159 rfl ?_
 refine aG (aj (aX _ ea) (cp rfl (cp rfl (am (aG (aj (pJ (5,0) _ 225 4 rfl rfl) ?_))))))
 refine am (aG (tP rfl (aj (ap aa al (rA s 0 h1 (Nat.zero_le _)) rfl rfl) ?_)))
 refine cp rfl (am (aF fun K4 hK4=> ?_))
 refine aH ?_
 refine aS (α:=Nat×List Tk) (fun z=> HR s l z) 42 [(0,_)] [] (fun z=> [(6, .v (.int .i64 (z.1:Int))),(5, .ref (5,0) 0 z.2.length)]) (fun z=> [((5,0), .row 225 4 (tJ z.2))]) [] [] (fun z=> s.length - z.1) (kK s 0 false,[]) ?_ (kj [2] [] []) ?_
 ·exact ⟨hs0.2,Nat.zero_le _,s.length+1,l,by rw [← hl];unfold GC kK;rw [List.drop_zero,Nat.zero_add],rfl⟩
 intro z hz
 obtain ⟨hz1,hz2,f,m,hf,hlm⟩:=hz
 obtain ⟨f,rfl⟩: ∃ g,f=g+1:=by cases f with | zero=> (simp [nx] at hf) | succ g=> exact ⟨g,rfl⟩
 refine aF fun K5 hK5=> ?_
 refine go 6 ?_
 refine ax rfl (fun hc14=> ?_) (fun hc14=> ?_)
 ·obtain ⟨_,t,m',ht,hm',hm⟩:=(mO hf).resolve_left fun h=> by omega
  obtain ⟨htl,hta⟩:=tW ab ht
  have hsk:=wk (s:=s) (a:=z.1+t.t.length) hta false
  have hlen:(z.2++[t]).length=z.2.length+1:=by simp
  refine aR (hK5 _ ?_)
  refine aH (aG (tP rfl (bV rfl (aj (ap aa al (wv s z.1 h1 ab t ht) rfl rfl) ?_))))
  refine go 14 ?_
  refine aE ?_
  refine aB (σ':=an 42 [(0,_),(5,_),(6,_),(7,_)] [((5,0),_),((7,0),_)] [] []) kp ?_
  refine go 4 ?_
  refine aj (bG (28,0) _ _ aa rfl rfl (bc _).symm (.sl rfl) ab rfl (uk _ _) hlen.symm) ?_
  refine go 9 ?_
  refine aj (ap aa al (rA s (z.1+t.t.length) h1 hta) rfl rfl) ?_
  refine cp rfl (ay (⟨(kK s (z.1+t.t.length) false,z.2++[t]),?_,?_,?_⟩))
  ·exact ⟨hsk.2,by simp only;omega,f,m',hm',by rw [hlm,hm];simp⟩
  ·refine Le.mkJ [((5,0),(28,0))] [] rfl ?_ ?_ trivial trivial ?_
   ·exact ⟨(by repeat' (exact Lv.v)),(aN ag),(ca rfl ag),trivial⟩
   ·exact ⟨(cD rfl rfl rfl ag),trivial⟩
   kernel_rfl
  simp only;omega
 obtain ⟨_,hm⟩:=(mO hf).resolve_right fun h=> by omega
 have hlen:(z.2++[(⟨0,s.length,[],0⟩:Tk)]).length=z.2.length+1:=by simp
 rw [hm] at hlm;subst hlm
 refine aW (id (hK4 _ ?_))
 refine go 6 ?_
 refine aj (bG (41,0) _ _ aa rfl rfl (bc _).symm (.sl rfl) ab rfl (uk _ ⟨0,s.length,[],0⟩) hlen.symm) ?_
 exact dZ rfl (cp rfl (cp rfl (am (au (AL (.inr rfl) rfl (.tmp mP) (.tmp kM) (.tmp kM) (Le.out [] [(41,0)] (.tup rfl (ai (dI rfl rfl (bc _).symm rfl) lz)) rfl rfl rfl tr trivial))))))
end Go.Proofs.YtmjnackchaahbaaGreat

set_option maxHeartbeats 2000000
namespace Go.Proofs.YtmjnackchaahbaaGreat
open Go.RowKit

theorem bX (l:List Tx) (n:Nat) (hn:l.length=n) (h1:n≤1000) (t:Tx):Spec Tryz.prog 199 (aI [.sl n (eM l), .v (bt t)] []) (aA (.v (.bool (decide (t∈l)))) []):=by
 refine Spec.ofN Tryz.func199 rfl Tryz.ntmps199 rfl ?_
 refine aG (gn rfl (am (aF fun K2 hK2=> ?_)))
 refine aG (cp rfl (am (aH ?_)))
 refine aS (α:=Nat) (fun k=> k≤n∧t∉l.take k) 18 [(0,_),(1,_)] [] (fun k=> [(5, .v (.int .i64 (k:Int)))]) (fun k=> []) [] [] (fun k=> n - k) 0 ?_ (kj [] [] []) ?_
 ·exact ⟨Nat.zero_le _,by simp⟩
 intro k hk
 obtain ⟨hk,hnt⟩:=hk
 refine aF fun K4 hK4=> ?_
 refine go 6 ?_
 refine ax rfl (fun hc9=> ?_) (fun hc9=> ?_)
 ·refine aR (hK4 _ ?_)
  refine aE (aH (aG (gT rfl (bV rfl (aj (aQ _ _ aa rfl rfl _ rfl ab (by (simp only [aq,aJ,aM,bf,bc];omega)) (by exact Nat.mul_one _)) ?_)))))
  refine aj (bl _ aa rfl (by exact jx _ _ ab) rfl) ?_
  refine tP rfl (aj (cW _ _ Tryz.underlying9 rfl rfl rfl) (am (ax rfl (fun hc17=> ?_) (fun hc17=> ?_))))
  ·refine aG (gn rfl (am (au (qZ rfl rfl ?_))))
   exact decide_eq_true (hc17 ▸ jN ab)
  refine go 5 ?_
  refine ay (⟨k+1,?_,?_,?_⟩)
  ·exact ⟨by omega,kw hnt ab hc17⟩
  ·exact kj [] [] []
  omega
 have hall:t∉l:=by rwa [List.take_of_length_le ab] at hnt
 refine aW (id (hK2 _ ?_))
 refine aG (gn rfl (am (au (qZ rfl rfl ?_))))
 exact decide_eq_false hall
theorem ms:Spec Tryz.prog 205 (aI [] []) (aA (.sl 9 (eM bltT)) []):=by
 refine Spec.ofN Tryz.func205 rfl Tryz.ntmps205 rfl ?_
 refine aG (aj (aX _ ea) (go 5 ?_))
 exact au (qW rfl rfl)
theorem mr (t:Tx):Spec Tryz.prog 225 (aI [.v (bt t)] []) (aA (.v (.bool (wo t))) []):=by
 refine Spec.ofN Tryz.func225 rfl Tryz.ntmps225 rfl ?_
 refine aG (gn rfl (am (aG (aj (ap aa (by repeat' (exact bR)) (ms) rfl rfl) ?_))))
 refine tP rfl (aj (ap aa al (bX bltT 9 rfl ab t) rfl rfl) ?_)
 refine FV rfl (cj (fun hg6=> ?_) (fun hg6=> ?_))
 ·refine go 6 ?_
  refine au (qZ rfl rfl ?_)
  unfold wo
  (rw [decide_eq_true hg6];rfl)
 refine go 2 ?_
 refine aZ rfl rfl (ap aa al (bX Ou 19 rfl ab t) rfl rfl) ?_
 refine go 3 ?_
 refine au (qZ rfl rfl ?_)
 unfold wo
 (rw [decide_eq_false hg6];rfl)
theorem dJ {T:List Tk} {i:Nat} (h:i < T.length):br T i < T.length:=by unfold br;split <;> omega
abbrev dD (T:List Tk) (i:Nat) (N:List Tx):List (az×Cells):=[((0,9), .box 222 [.sl T.length (tJ T), .v (.int .i64 (i:Int)), .v (.int .i64 0), .v (.int .i64 0), .sl N.length (eM N)])]
theorem bw (T:List Tk) (i:Nat) (N:List Tx) (hi:i < T.length):
  Spec Tryz.prog 160 (aL [.ptr (0,9) 0] (dD T i N)) (aO (.v (bt (cN T i).t)) (dD T i N) [(0,9)] [(0,9)]):=by
 refine Spec.ofNI Tryz.func160 rfl Tryz.ntmps160 rfl ?_
 refine aG (HX rfl (am (aE (dA 12 [] ?_))))
 refine go 16 ?_
 refine aC (_,[]) (fun τ=> aQ _ _ aa rfl rfl _ rfl ab (by (simp only [aq,aJ,aM,bf,bc];omega)) ag) ?_
 refine go 3 ?_
 refine aC (_,[]) (fun τ=> bl _ aa rfl (by exact nc _ _ ab) rfl) ?_
 refine go 5 ?_
 exact au (cq (.inr rfl) rfl (.tmp kM) (Le.outI [] [] .v rfl rfl rfl trivial ob tr rfl))
theorem dy (T:List Tk) (i:Nat) (N:List Tx) (hi:i < T.length):
  Spec Tryz.prog 197 (aL [.ptr (0,9) 0] (dD T i N)) (aO (.v (.bool (ee T i))) (dD T i N) [(0,9)] [(0,9)]):=by
 refine Spec.ofNI Tryz.func197 rfl Tryz.ntmps197 rfl ?_
 refine aG (gn rfl (am (aE (dA 28 [] ?_))))
 refine go 16 ?_
 refine aC (_,[]) (fun τ=> aQ _ _ aa rfl rfl _ rfl ab (by (simp only [aq,aJ,aM,bf,bc];omega)) ag) ?_
 refine go 3 ?_
 refine aC (_,[]) (fun τ=> bl _ aa rfl (by exact qI _ _ ab) rfl) ?_
 refine go 1 ?_
 refine aC (_,[]) (fun τ=> bb _ _ rfl rfl rfl) ?_
 refine go 2 ?_
 refine nX (fun hg15=> ?_) (fun hg15=> ?_)
 ·have hr:ee T i= !wo (cN T i).t:=by unfold ee;rw [decide_eq_true ab];rfl
  refine go 17 ?_
  refine ew (_,[]) rfl (fun τ=> rfl) (fun τ=> aQ _ _ aa rfl rfl _ rfl ab (by (simp only [aq,aJ,aM,bf,bc];omega)) ag) ?_
  refine go 3 ?_
  refine ew (_,[]) rfl (fun τ=> rfl) (fun τ=> bl _ aa rfl (by exact nc _ _ ab) rfl) ?_
  refine go 1 ?_
  refine ew (_,[]) rfl (fun τ=> rfl) (fun τ=> (ap aa al (mr (cN T i).t) rfl rfl)) ?_
  refine go 9 ?_
  exact au (cq (.inr rfl) rfl (.tmp vV) (Le.outI [] [] (jC hr) rfl rfl rfl trivial ob tr rfl))
 have hr:ee T i=false:=by unfold ee;rw [decide_eq_false ab];rfl
 refine go 33 ?_
 exact au (cq (.inr rfl) rfl (.tmp vV) (Le.outI [] [] (jC hr) rfl rfl rfl trivial ob tr rfl))
theorem bW (T:List Tk) (i:Nat) (N:List Tx) (hi:i < T.length) (hT:T.length≤100000):
  Spec Tryz.prog 196 (aL [.ptr (0,9) 0] (dD T i N)) (aO (.tup []) (dD T (br T i) N) [(0,9)] [(0,9)]):=by
 refine Spec.ofNI Tryz.func196 rfl Tryz.ntmps196 rfl ?_
 refine aE (dA 11 [] ?_)
 refine go 24 ?_
 refine ax rfl (fun hc12=> ?_) (fun hc12=> ?_)
 ·have ht:br T i=i+1:=by unfold br;rw [if_pos ab]
  refine go 9 ?_
  exact ay (wj (.inl rfl) rfl (Le.outI [] [] (.tup rfl aK) rfl rfl rfl trivial ⟨⟨rfl,⟨_,rfl, .box rfl (ai .sl (ai (aN (by rw [ht] <;> omega)) lz))⟩,rfl⟩,trivial⟩ tr rfl))
 have ht:br T i=i:=by unfold br;rw [if_neg ab]
 exact aR (wj (.inl rfl) rfl (Le.outI [] [] (.tup rfl aK) rfl rfl rfl trivial ⟨⟨rfl,⟨_,rfl, .box rfl (ai .sl (ai (aN (by rw [ht] <;> omega)) lz))⟩,rfl⟩,trivial⟩ tr rfl))
theorem fl (T:List Tk) (i j:Nat) (N:List Tx) (s:Tx) (hi:i < T.length) (hT:T.length≤100000) (h:gm T s i=some j):
  Spec Tryz.prog 162 (aL [.ptr (0,9) 0, .v (bt s)] (dD T i N)) (aO (.tup []) (dD T j N) [(0,9)] [(0,9)]):=by
 have ⟨hs,hj⟩:(cN T i).t=s∧br T i=j:=by
  unfold gm at h
  split at h
  ·exact ⟨by assumption,Option.some.inj h⟩
  cases h
 subst hs
 subst hj
 refine Spec.ofNI Tryz.func162 rfl Tryz.ntmps162 rfl ?_
 refine go 9 ?_
 refine aZ rfl rfl (aY aa _ _ ar (bw T i N hi) tr rfl ae (by simp)) ?_
 refine go 1 ?_
 refine aZ rfl rfl (sA (r:=false) _ _ Tryz.underlying9 rfl rfl (by exact bne_self_eq_false _)) ?_
 refine go 12 ?_
 refine aB (σ':=an 28 [(0,_)] [((0,9),_)] [(0,9)] [(0,9)]) kp ?_
 refine aD (dW rfl (aj (bF (bW T i N hi hT)) ?_))
 exact ay (mR [])
theorem kq {T:List Tk} {s:Tx} {lv i j:Nat} (h:sc T s lv i=some j):lv≤20∧gm T s i=some j:=by
 unfold sc at h
 split at h
 ·cases h
 rename_i hn
 refine ⟨?_,h⟩
 unfold gm at h
 split at h
 ·rename_i ht
  exact Nat.le_of_not_lt fun hl=> hn ⟨ht,hl⟩
 cases h
theorem ju {T:List Tk} {s:Tx} {i j:Nat} (h:gm T s i=some j) (hi:i < T.length):j < T.length:=by
 unfold gm at h
 split at h
 ·rw [← Option.some.inj h];exact dJ hi
 cases h
theorem oN (T:List Tk) (i j:Nat) (N:List Tx) (s:Tx) (lv:Nat) (hi:i < T.length) (hT:T.length≤100000) (h:sc T s lv i=some j):
  Spec Tryz.prog 201 (aL [.ptr (0,9) 0, .v (bt s), .v (.int .i64 (lv:Int))] (dD T i N)) (aO (.tup []) (dD T j N) [(0,9)] [(0,9)]):=by
 obtain ⟨hl,he⟩:=kq h
 refine Spec.ofNI Tryz.func201 rfl Tryz.ntmps201 rfl ?_
 refine go 9 ?_
 refine aZ rfl rfl (aY aa _ _ ar (bw T i N hi) tr rfl ae (by simp)) ?_
 refine go 1 ?_
 refine aZ rfl rfl (cW _ _ Tryz.underlying9 rfl rfl rfl) (go 2 ?_)
 refine cj (fun hg17=> ?_) (fun hg17=> ?_)
 ·refine go 1 ?_
  refine aZ rfl rfl (qj (r:=false) _ _ rfl rfl (decide_eq_false ab)) ?_
  refine go 4 ?_
  refine aB (σ':=an 30 [(0,_),(1,_)] [((0,9),_)] [(0,9)] [(0,9)]) kp ?_
  refine aD (dW rfl (tP rfl (aj (bF (fl T i j N s hi hT he)) ?_)))
  exact ay (mR [])
 refine go 6 ?_
 refine aB (σ':=an 30 [(0,_),(1,_)] [((0,9),_)] [(0,9)] [(0,9)]) kp ?_
 refine aD (dW rfl (tP rfl (aj (bF (fl T i j N s hi hT he)) ?_)))
 exact ay (mR [])
theorem kX (T:List Tk) (i:Nat) (N:List Tx) (most:Nat) (hi:i < T.length) (hT:T.length≤100000) (hm:most≤1000) (r:Nat×Nat) (h:pq T most i=some r):
  Spec Tryz.prog 200 (aL [.ptr (0,9) 0, .v (.int .i64 (most:Int))] (dD T i N)) (aO (.v (.int .i64 (r.1:Int))) (dD T r.2 N) [(0,9)] [(0,9)]):=by
 have ⟨h1,h2,h3⟩:(cN T i).k=2∧(cN T i).n≤most∧r=((cN T i).n,br T i):=by
  unfold pq at h
  split at h
  ·rename_i hx;exact ⟨hx.1,hx.2,(Option.some.inj h).symm⟩
  cases h
 subst h3
 refine Spec.ofNI Tryz.func200 rfl Tryz.ntmps200 rfl ?_
 refine aG (cp rfl (am (aE (dA 11 [(5,0)] ?_))))
 refine go 16 ?_
 refine aC (_,[]) (fun τ=> aQ _ _ aa rfl rfl _ rfl ab (by (simp only [aq,aJ,aM,bf,bc];omega)) ag) ?_
 refine go 1 ?_
 refine aC (_,[]) (fun τ=> bs _ aa rfl (by exact nI _ _ hi) rfl) ?_
 refine go 1 ?_
 refine aC (_,[((5,0),_)]) (fun τ=> eB (5,0) aa rfl rfl) ?_
 refine go 8 ?_
 refine aj (cV _ _ rfl rfl rfl) (am (cP rfl (by rw [h1];rfl) ?_))
 refine aE ?_
 refine aB (σ':=an 44 [(0,_),(1,_),(5,_)] [((0,9),_),((5,0),_)] [(0,9)] [(0,9)]) kp ?_
 refine go 6 ?_
 refine cP rfl (decide_eq_false ab) ?_
 refine go 13 ?_
 refine aj (bF (bW T i N hi hT)) ?_
 refine go 6 ?_
 exact au (cq (.inr rfl) rfl (.tmp kM) (Le.outI [] [] .v rfl rfl rfl trivial ob tr rfl))
abbrev Ga (T:List Tk) (i:Nat) (N:List Tx):List (az×Cells):=[((0,9), .box 222 [.sl T.length (tJ T), .v (.int .i64 (i:Int)), .v (.int .i64 0), .v (.int .i64 0), .ref (1,9) 0 N.length]),((1,9), .row 9 1 (eM N))]
theorem eG (T:List Tk) (i:Nat) (N:List Tx) (hi:i < T.length):
  Spec Tryz.prog 160 (aL [.ptr (0,9) 0] (Ga T i N)) (aO (.v (bt (cN T i).t)) (Ga T i N) [(0,9),(1,9)] [(0,9),(1,9)]):=by
 refine Spec.ofNI Tryz.func160 rfl Tryz.ntmps160 rfl ?_
 refine aG (HX rfl (am (aE (dA 12 [] ?_))))
 refine go 16 ?_
 refine aC (_,[]) (fun τ=> aQ _ _ aa rfl rfl _ rfl ab (by (simp only [aq,aJ,aM,bf,bc];omega)) ag) ?_
 refine go 3 ?_
 refine aC (_,[]) (fun τ=> bl _ aa rfl (by exact nc _ _ ab) rfl) ?_
 refine go 5 ?_
 exact au (cq (.inr rfl) rfl (.tmp kM) (Le.outI [] [] .v rfl rfl rfl trivial ob tr rfl))
theorem wQ (T:List Tk) (i:Nat) (N:List Tx) (hi:i < T.length):
  Spec Tryz.prog 197 (aL [.ptr (0,9) 0] (Ga T i N)) (aO (.v (.bool (ee T i))) (Ga T i N) [(0,9),(1,9)] [(0,9),(1,9)]):=by
 refine Spec.ofNI Tryz.func197 rfl Tryz.ntmps197 rfl ?_
 refine aG (gn rfl (am (aE (dA 28 [] ?_))))
 refine go 16 ?_
 refine aC (_,[]) (fun τ=> aQ _ _ aa rfl rfl _ rfl ab (by (simp only [aq,aJ,aM,bf,bc];omega)) ag) ?_
 refine go 3 ?_
 refine aC (_,[]) (fun τ=> bl _ aa rfl (by exact qI _ _ ab) rfl) ?_
 refine go 1 ?_
 refine aC (_,[]) (fun τ=> bb _ _ rfl rfl rfl) ?_
 refine go 2 ?_
 refine nX (fun hg15=> ?_) (fun hg15=> ?_)
 ·have hr:ee T i= !wo (cN T i).t:=by unfold ee;rw [decide_eq_true ab];rfl
  refine go 17 ?_
  refine ew (_,[]) rfl (fun τ=> rfl) (fun τ=> aQ _ _ aa rfl rfl _ rfl ab (by (simp only [aq,aJ,aM,bf,bc];omega)) ag) ?_
  refine go 3 ?_
  refine ew (_,[]) rfl (fun τ=> rfl) (fun τ=> bl _ aa rfl (by exact nc _ _ ab) rfl) ?_
  refine go 1 ?_
  refine ew (_,[]) rfl (fun τ=> rfl) (fun τ=> (ap aa al (mr (cN T i).t) rfl rfl)) ?_
  refine go 9 ?_
  exact au (cq (.inr rfl) rfl (.tmp vV) (Le.outI [] [] (jC hr) rfl rfl rfl trivial ob tr rfl))
 have hr:ee T i=false:=by unfold ee;rw [decide_eq_false ab];rfl
 refine go 33 ?_
 exact au (cq (.inr rfl) rfl (.tmp vV) (Le.outI [] [] (jC hr) rfl rfl rfl trivial ob tr rfl))
theorem kg (T:List Tk) (i:Nat) (N:List Tx) (hi:i < T.length) (hT:T.length≤100000):
  Spec Tryz.prog 196 (aL [.ptr (0,9) 0] (Ga T i N)) (aO (.tup []) (Ga T (br T i) N) [(0,9),(1,9)] [(0,9),(1,9)]):=by
 refine Spec.ofNI Tryz.func196 rfl Tryz.ntmps196 rfl ?_
 refine aE (dA 11 [] ?_)
 refine go 24 ?_
 refine ax rfl (fun hc12=> ?_) (fun hc12=> ?_)
 ·have ht:br T i=i+1:=by unfold br;rw [if_pos ab]
  refine go 9 ?_
  exact ay (wj (.inl rfl) rfl (Le.outI [] [] (.tup rfl aK) rfl rfl rfl trivial ⟨⟨rfl,⟨_,rfl, .box rfl (ai .sl (ai (aN (by rw [ht] <;> omega)) lz))⟩,rfl⟩,⟨rfl,⟨_,rfl, .rowE rfl⟩,rfl⟩,trivial⟩ tr rfl))
 have ht:br T i=i:=by unfold br;rw [if_neg ab]
 exact aR (wj (.inl rfl) rfl (Le.outI [] [] (.tup rfl aK) rfl rfl rfl trivial ⟨⟨rfl,⟨_,rfl, .box rfl (ai .sl (ai (aN (by rw [ht] <;> omega)) lz))⟩,rfl⟩,⟨rfl,⟨_,rfl, .rowE rfl⟩,rfl⟩,trivial⟩ tr rfl))
theorem sV (T:List Tk) (i j:Nat) (N:List Tx) (s:Tx) (hi:i < T.length) (hT:T.length≤100000) (h:gm T s i=some j):
  Spec Tryz.prog 162 (aL [.ptr (0,9) 0, .v (bt s)] (Ga T i N)) (aO (.tup []) (Ga T j N) [(0,9),(1,9)] [(0,9),(1,9)]):=by
 have ⟨hs,hj⟩:(cN T i).t=s∧br T i=j:=by
  unfold gm at h
  split at h
  ·exact ⟨by assumption,Option.some.inj h⟩
  cases h
 subst hs
 subst hj
 refine Spec.ofNI Tryz.func162 rfl Tryz.ntmps162 rfl ?_
 refine go 9 ?_
 refine aZ rfl rfl (aY aa _ _ ar (eG T i N hi) tr rfl ae (by simp)) ?_
 refine go 1 ?_
 refine aZ rfl rfl (sA (r:=false) _ _ Tryz.underlying9 rfl rfl (by exact bne_self_eq_false _)) ?_
 refine go 12 ?_
 refine aB (σ':=an 28 [(0,_)] [((0,9),_),((1,9),_)] [(0,9),(1,9)] [(0,9),(1,9)]) kp ?_
 refine aD (dW rfl (aj (dC aa [] ar (kg T i N hi hT) ob tr ae) ?_))
 exact ay (mR [])
end Go.Proofs.YtmjnackchaahbaaGreat
