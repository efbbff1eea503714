/- Part 8 of the texts that the walk leans on: the machine, the walks, the plain laws. -/
import Derived.Test.YtmjnackchaahbaaGreatVoZ7
set_option linter.unusedSimpArgs false
set_option linter.unusedVariables false
namespace Go.Proofs.YtmjnackchaahbaaGreat
open Go.RowKit

abbrev DS:=List Int×Bool×Bool
def ii (n:Nat) (d:Int) (s:DS) (j:Nat):DS:=
  if n≤j then s else if s.1.getD j (-1) < 0 then (s.1.set j d,s.2.1,true) else if s.1.getD j (-1)≠d then (s.1,false,s.2.2) else s
def cL (C:List eu) (i:Nat):eu:=C.getD i { op:= .stop }
def Be (C:List eu) (i:Nat) (s:DS):Int:=max (s.1.getD i (-1) - (cL C i).op.pops) 0+(cL C i).op.puts
def ke (C:List eu) (s:DS) (i:Nat):DS:=
  if s.1.getD i (-1) < 0 then s
  else (dz i (cL C i)).foldl (ii C.length (Be C i s)) (s.1,if s.1.getD i (-1) - (cL C i).op.pops < 0 then false else s.2.1,s.2.2)
def dm (C:List eu) (s:List Int×Bool) (k:Nat):DS:=(List.range k).foldl (ke C) (s.1,s.2,false)
theorem nW (C:List eu) (s:List Int×Bool) (k:Nat):dm C s (k+1)=ke C (dm C s k) k:=by simp [dm,List.range_succ,List.foldl_append]
def im (C:List eu):Nat→List Int×Bool→List Int×Bool
  | 0,s=> s
  | f+1,s=> if (dm C s C.length).2.2=true then im C f ((dm C s C.length).1,(dm C s C.length).2.1) else ((dm C s C.length).1,(dm C s C.length).2.1)
def neg (l:List Int):Nat:=l.countP fun x=> decide (x < 0)
theorem AG {l:List Int} {j:Nat} {d:Int} (hj:j < l.length) (h:l.getD j (-1) < 0) (hd:0≤d):neg (l.set j d)+1=neg l:=by
  unfold neg
  have e:l=l.take j++l[j]::l.drop (j+1):=by rw [List.getElem_cons_drop hj,List.take_append_drop]
  have h':l[j] < 0:=by rwa [List.getD_eq_getElem?_getD,List.getElem?_eq_getElem hj] at h
  rw [List.set_eq_take_append_cons_drop,if_pos hj]
  conv=> rhs;rw [e]
  simp only [List.countP_append,List.countP_cons]
  rw [decide_eq_true h',decide_eq_false (show ¬ d < 0 by omega)]
  simp
  omega
structure DI (D:Nat→Nat) (n:Nat) (s:DS):Prop where
  len:s.1.length=n
  val: ∀ i,i < n→s.1.getD i (-1)= -1∨s.1.getD i (-1)=(D i:Int)
  ok:s.2.1=true
theorem iz {l:List Int} {j i:Nat} {d:Int}:(l.set j d).getD i (-1)=if i=j∧j < l.length then d else l.getD i (-1):=by
  simp only [List.getD_eq_getElem?_getD,List.getElem?_set]
  by_cases h:j=i
  · subst h
    by_cases h2:j < l.length
    · simp [h2]
    · simp [h2]
  · simp [h,Ne.symm h]
theorem zH {D:Nat→Nat} {n:Nat} {d:Int} {s:DS} {j:Nat} (h:DI D n s) (hd:d=(D j:Int)):DI D n (ii n d s j)∧neg (ii n d s j).1≤neg s.1∧((ii n d s j).2.2=true→s.2.2=true∨neg (ii n d s j).1 < neg s.1):=by
  unfold ii
  split
  · exact ⟨h,Nat.le_refl _,fun e=> .inl e⟩
  · rename_i hj
    split
    · rename_i hn
      have:=AG (l:=s.1) (j:=j) (d:=d) (by rw [h.len];omega) hn ab
      refine ⟨⟨by rw [List.length_set];exact h.len,fun i hi=> ?_,h.ok⟩,by simp only;omega,fun _=> .inr (by simp only;omega)⟩
      simp only
      rw [iz]
      split
      · rename_i hc;rw [hc.1];exact .inr hd
      · exact h.val i hi
    · rename_i hn
      have hv:=h.val j ab
      have:s.1.getD j (-1)=d:=by rw [hd];rcases hv with hv | hv <;> omega
      rw [if_neg (fun hc=> hc this)]
      exact ⟨h,Nat.le_refl _,fun e=> .inl e⟩
theorem lm {D:Nat→Nat} {n:Nat} {d:Int}: ∀ (l:List Nat) {s:DS},DI D n s→(∀ j∈l,d=(D j:Int))→DI D n (l.foldl (ii n d) s)∧neg (l.foldl (ii n d) s).1≤neg s.1∧((l.foldl (ii n d) s).2.2=true→s.2.2=true∨neg (l.foldl (ii n d) s).1 < neg s.1)
  | [],s,h,_=> ⟨h,Nat.le_refl _,fun e=> .inl e⟩
  | j::l,s,h,hd=> by
    obtain ⟨a1,a2,a3⟩:=zH h (hd j (by simp))
    obtain ⟨b1,b2,b3⟩:=lm l a1 fun j hj=> hd j (by simp [hj])
    simp only [List.foldl_cons]
    refine ⟨b1,by omega,fun e=> ?_⟩
    rcases b3 e with e | e
    · rcases a3 e with e | e
      · exact .inl e
      · exact .inr ab
    · exact .inr ab
section
variable {D:Nat→Nat} {nv:Nat} {C:List eu} (hC:Good D nv 0 (C.length - 1) 0 C)
include hC
theorem yW {s:DS} {i:Nat} (hi:i < C.length) (h:DI D C.length s):DI D C.length (ke C s i)∧neg (ke C s i).1≤neg s.1∧((ke C s i).2.2=true→s.2.2=true∨neg (ke C s i).1 < neg s.1):=by
  unfold ke
  split
  · exact ⟨h,Nat.le_refl _,fun e=> .inl e⟩
  · rename_i hn
    have hx:C[i]? =some (cL C i):=by unfold cL;rw [List.getD_eq_getElem?_getD,List.getElem?_eq_getElem hi];rfl
    obtain ⟨_,g2,g3⟩:=hC i _ hx
    rw [Nat.zero_add] at g2 g3
    have hv:s.1.getD i (-1)=(D i:Int):=by rcases h.val i hi with hv | hv <;> omega
    have hdo:Be C i s=((D i - (cL C i).op.pops+(cL C i).op.puts:Nat):Int):=by unfold Be;rw [hv];omega
    rw [if_neg (by rw [hv];omega)]
    exact lm _ ⟨h.len,h.val,h.ok⟩ fun j hj=> by rw [hdo,(g3 j hj).2.2]
theorem jT {s:List Int×Bool} (h:DI D C.length (s.1,s.2,false)): ∀ k,k≤C.length→DI D C.length (dm C s k)∧neg (dm C s k).1≤neg s.1∧((dm C s k).2.2=true→neg (dm C s k).1 < neg s.1)
  | 0,_=> ⟨h,Nat.le_refl _,fun e=> by simp [dm] at e⟩
  | k+1,hk=> by
    obtain ⟨a1,a2,a3⟩:=jT h k ab
    obtain ⟨b1,b2,b3⟩:=yW hC ab a1 (i:=k)
    rw [nW]
    refine ⟨b1,by omega,fun e=> ?_⟩
    rcases b3 e with e | e
    · have:=a3 e;omega
    · omega
theorem qO: ∀ f (s:List Int×Bool),DI D C.length (s.1,s.2,false)→DI D C.length ((im C f s).1,(im C f s).2,false)
  | 0,s,h=> h
  | f+1,s,h=> by
    obtain ⟨a1,_,_⟩:=jT hC h C.length (Nat.le_refl _)
    unfold im
    split
    · exact qO f _ ⟨a1.len,a1.val,a1.ok⟩
    · exact ⟨a1.len,a1.val,a1.ok⟩
end
theorem th {C:List eu} {f:Nat} {s:List Int×Bool} (h:(dm C s C.length).2.2=true):im C (f+1) s=im C f ((dm C s C.length).1,(dm C s C.length).2.1):=by rw [im,if_pos h]
theorem tp {C:List eu} {f:Nat} {s:List Int×Bool} (h:(dm C s C.length).2.2=false):im C (f+1) s=((dm C s C.length).1,(dm C s C.length).2.1):=by rw [im,if_neg (by simp [h])]
def ic (C:List eu) (e:Int):List Int×Bool:=if e < 0∨(C.length:Int)≤e then (List.replicate C.length (-1),true) else im C (C.length+1) ((List.replicate C.length (-1)).set e.toNat 0,true)
theorem oI {D:Nat→Nat} {nv:Nat} {C:List eu} (hC:Good D nv 0 (C.length - 1) 0 C) {e:Int} (he:0≤e→e < C.length→D e.toNat=0):DI D C.length ((ic C e).1,(ic C e).2,false):=by
  have hr: ∀ i,(List.replicate C.length (-1:Int)).getD i (-1)= -1:=fun i=> by rw [List.getD_eq_getElem?_getD,List.getElem?_replicate];split <;> rfl
  unfold ic
  split
  · exact ⟨by simp,fun i _=> .inl (hr i),rfl⟩
  · refine qO hC _ _ ⟨by simp,fun i hi=> ?_,rfl⟩
    simp only
    rw [iz]
    split
    · rename_i hc
      right
      rw [hc.1,he ab ab];rfl
    · exact .inl (hr i)
def jt (C:List eu) (out:List Int) (k:Nat):Int:=(List.range k).foldl (fun m i=> if 0≤out.getD i (-1) then max (max m (out.getD i (-1))) (out.getD i (-1) - (cL C i).op.pops+(cL C i).op.puts) else m) 0
theorem nQ (C:List eu) (out:List Int) (k:Nat):jt C out (k+1)=if 0≤out.getD k (-1) then max (max (jt C out k) (out.getD k (-1))) (out.getD k (-1) - (cL C k).op.pops+(cL C k).op.puts) else jt C out k:=by simp [jt,List.range_succ,List.foldl_append]
theorem AZ (o:Opc):o.puts≤1:=by cases o <;> decide
theorem mj {C:List eu} {out:List Int} {D:Nat→Nat} {n:Nat} {ok ch:Bool} (h:DI D n (out,ok,ch)) {B:Nat} (hB: ∀ i,i < n→D i≤B): ∀ k,k≤n→0≤jt C out k∧jt C out k≤B+1
  | 0,_=> by simp [jt];omega
  | k+1,hk=> by
    obtain ⟨h1,h2⟩:=mj (C:=C) h hB k ab
    have h3:=hB k ab
    have h4:out.getD k (-1)= -1∨out.getD k (-1)=(D k:Int):=h.val k ab
    have h5:=AZ (cL C k).op
    have h6:=nQ C out k
    rw [h6]
    rcases h4 with h4 | h4 <;> rw [h4] <;> split <;> omega
def lX (l:List (Nat×Nat)):List Int:=l.foldl (fun m p=> m.set p.1 (p.2:Int)) (List.replicate 40 (-1))
theorem za (l:List (Nat×Nat)):(lX l).length=40:=by
  unfold lX
  have: ∀ (l:List (Nat×Nat)) (m:List Int),m.length=40→(l.foldl (fun m p=> m.set p.1 (p.2:Int)) m).length=40:=by
    intro l
    induction l with
    | nil=> exact fun m h=> h
    | cons p l ih=> exact fun m h=> ih _ (by rw [List.length_set];exact h)
  exact this l _ (by simp)
theorem yO: ∀ (l:List (Nat×Nat)) (h:Nat),(lX l).getD h (-1)= -1∨ ∃ e,(h,e)∈l∧(lX l).getD h (-1)=(e:Int):=by
  unfold lX
  have key: ∀ (l:List (Nat×Nat)) (m:List Int) (h:Nat),(l.foldl (fun m p=> m.set p.1 (p.2:Int)) m).getD h (-1)=m.getD h (-1)∨ ∃ e,(h,e)∈l∧(l.foldl (fun m p=> m.set p.1 (p.2:Int)) m).getD h (-1)=(e:Int):=by
    intro l
    induction l with
    | nil=> exact fun m h=> .inl rfl
    | cons p l ih=>
      intro m h
      simp only [List.foldl_cons]
      rcases ih (m.set p.1 (p.2:Int)) h with e | ⟨e,h1,h2⟩
      · rw [e,iz]
        split
        · rename_i hc
          exact .inr ⟨p.2,by rw [hc.1];exact List.mem_cons_self,rfl⟩
        · exact .inl rfl
      · exact .inr ⟨e,List.mem_cons_of_mem _ h1,h2⟩
  intro l h
  rcases key l (List.replicate 40 (-1)) h with e | e
  · left
    rw [e,List.getD_eq_getElem?_getD,List.getElem?_replicate]
    split <;> rfl
  · exact .inr e
def gU (l:List (Nat×Bk)):Bool:=decide ((bU l 0).length≤400) && (List.range 40).all fun h=> decide (jt (bU l 0) (ic (bU l 0) ((lX (ix l 0)).getD h (-1))).1 (bU l 0).length≤16)
theorem sE (l:List (Nat×Bk)) (h:Nat):(lX (ix l 0)).getD h (-1)= -1∨ ∃ e:Nat,(h,e)∈ix l 0∧(lX (ix l 0)).getD h (-1)=(e:Int)∧e < (bU l 0).length∧qH l e=0:=by
  rcases yO (ix l 0) h with e | ⟨e,h1,h2⟩
  · exact .inl e
  · obtain ⟨_,h4,h5⟩:=tO (nh l) h1
    exact .inr ⟨e,h1,h2,by omega,h5⟩
theorem uK {l:List (Nat×Bk)} {nv:Nat} (hs:Hx l nv):gU l=true:=by
  unfold gU
  rw [Bool.and_eq_true,decide_eq_true_eq,List.all_eq_true]
  refine ⟨hs.n,fun h _=> ?_⟩
  rw [decide_eq_true_eq]
  have hg:=tZ (qH l) nv l 0 0 ((bU l 0).length - 1) hs.ok (nh l) (Nat.le_refl _) ab
  have hd:=oI hg (e:=(lX (ix l 0)).getD h (-1)) (fun h1 h2=> by
    rcases sE l h with e | ⟨e,_,e2,_,e4⟩
    · omega
    · rw [e2];exact e4)
  have hB: ∀ i,i < (bU l 0).length→qH l i≤8:=fun i hi=> by
    unfold qH
    rw [← ow l 0] at hi
    rw [List.getD_eq_getElem?_getD,List.getElem?_eq_getElem hi]
    exact hs.d _ (List.getElem_mem hi)
  have:=(mj (C:=bU l 0) hd hB _ (Nat.le_refl _)).2
  omega

theorem mu {α β:Type} (f:α→List β) (c:Nat) (hf: ∀ a,(f a).length=c): ∀ l:List α,(l.flatMap f).length=l.length*c
 | []=> by simp
 | a::l=> by rw [List.flatMap_cons,List.length_append,hf,mu f c hf l,List.length_cons,Nat.succ_mul];omega
theorem np {α β:Type} (f:α→List β) (c:Nat) (hf: ∀ a,(f a).length=c): ∀ (l:List α) (k:Nat),(l.flatMap f).drop (k*c)=(l.drop k).flatMap f
 | l,0=> by simp
 | [],k+1=> by simp
 | a::l,k+1=> by
  rw [List.flatMap_cons,List.drop_succ_cons,← np f c hf l k,List.drop_append,List.drop_eq_nil_of_le (by rw [hf,Nat.succ_mul];omega),List.nil_append,hf]
  congr 1;rw [Nat.succ_mul];omega
theorem nT {α β:Type} (f:α→List β) (c:Nat) (hf: ∀ a,(f a).length=c) (l:List α) (k:Nat) (h:k < l.length):((l.flatMap f).drop (k*c)).take c=f l[k]:=by
 rw [np f c hf,List.drop_eq_getElem_cons h,List.flatMap_cons,List.take_append_of_le_length (by rw [hf];exact Nat.le_refl _),List.take_of_length_le (by rw [hf];exact Nat.le_refl _)]
theorem nM {α β:Type} (f:α→List β) (c:Nat) (hf: ∀ a,(f a).length=c) (l:List α) (k j:Nat) (h:k < l.length) (hj:j < c):(l.flatMap f)[k*c+j]? =(f l[k])[j]? :=by
 rw [← nT f c hf l k h,List.getElem?_take_of_lt hj,List.getElem?_drop]
theorem mb {α β:Type} (f:α→List β) (l:List α) (a:α):l.flatMap f++f a=(l++[a]).flatMap f:=by simp
theorem xI {α β:Type} (f:α→List β) (l m:List α):l.flatMap f++m.flatMap f=(l++m).flatMap f:=by simp

def dT (l:List Tx):List PV:=l.map fun t=> .v (bt t)
@[simp] theorem bC (l:List Tx):(dT l).length=l.length:=by simp [dT]
theorem fu (l:List Tx) (k:Nat) (h:k < l.length):(dT l)[k]? =some (.v (bt (l.getD k []))):=by simp [dT,h]
theorem oF (a b:List Tx):dT a++dT b=dT (a++b):=by simp [dT]
theorem lP (a:List Tx) (t:Tx):dT a++[.v (bt t)]=dT (a++[t]):=by simp [dT]
theorem iW {l:List Tx} {k:Nat} (h:k < l.length):l.getD k []∈l:=by
 rw [List.getD_eq_getElem?_getD,List.getElem?_eq_getElem h];exact List.getElem_mem h
theorem jo {α:Type} {l:List α} {k:Nat} {x d:α} (h:x∉l.take k) (hk:k < l.length) (hx:l.getD k d≠x):x∉l.take (k+1):=by
 rw [List.take_succ_eq_append_getElem hk,List.mem_append,List.mem_singleton]
 rintro (h' | h')
 ·exact h h'
 ·exact hx (by rw [List.getD_eq_getElem?_getD,List.getElem?_eq_getElem hk,h'];rfl)

def BU (t:Tk):List PV:=[.v (.int .i64 (t.k:Int)), .v (.int .i64 (t.a:Int)), .v (bt t.t), .v (.int .i64 (t.n:Int))]
def qF (l:List Tk):List PV:=l.flatMap BU
theorem bw (l:List Tk):(qF l).length=l.length*4:=mu BU 4 (fun _=> rfl) l
theorem tE (l:List Tk) (k:Nat) (h:k < l.length):cY l k=l[k]:=by simp [cY,h]
theorem oo (l:List Tk) (k:Nat) (h:k < l.length):(qF l)[k*4]? =some (.v (.int .i64 ((cY l k).k:Int))):=by
 rw [tE l k h];exact nM BU 4 (fun _=> rfl) l k 0 h ab
theorem lp (l:List Tk) (k:Nat) (h:k < l.length):(qF l)[k*4+2]? =some (.v (bt (cY l k).t)):=by
 rw [tE l k h];exact nM BU 4 (fun _=> rfl) l k 2 h ab
theorem lA (l:List Tk) (k:Nat) (h:k < l.length):PV.ups (((qF l).drop (k*4)).take 4)=[.v (.int .i64 ((cY l k).k:Int)), .v (.int .i64 ((cY l k).a:Int)), .v (bt (cY l k).t), .v (.int .i64 ((cY l k).n:Int))]:=by
 rw [tE l k h,show ((qF l).drop (k*4)).take 4=BU l[k] from nT BU 4 (fun _=> rfl) l k h];rfl
theorem rc (l:List Tk) (t:Tk):qF l++BU t=qF (l++[t]):=mb BU l t

theorem fv {s:Tx} {a:Nat} {b:UInt8} (h:s[a]? =some b):s.drop a=b::s.drop (a+1):=by
 obtain ⟨hl,rfl⟩:=List.getElem?_eq_some_iff.1 h
 exact List.drop_eq_getElem_cons hl
theorem jb {s:Tx} {a:Nat} (h:a < s.length): ∃ b,s[a]? =some b:=⟨_,List.getElem?_eq_getElem h⟩
theorem LX (b:UInt8):0≤(b.toNat:Int)∧(b.toNat:Int) < 256:=⟨by omega,by have:=b.toNat_lt;omega⟩
def jw (s:Tx) (a:Nat) (c:Bool):Nat:=a+qJ (s.drop a) c
theorem qf {s:Tx} {a:Nat} (h:s.length≤a) (c:Bool):jw s a c=a:=by
 unfold jw;rw [List.drop_eq_nil_of_le h];unfold qJ;rfl
theorem Du {s:Tx} {a:Nat} {b:UInt8} (h:s[a]? =some b) (hb:b.toNat=10):jw s a true=jw s a false:=by
 unfold jw;rw [fv h];simp [qJ,hb]
theorem CU {s:Tx} {a:Nat} {b:UInt8} (h:s[a]? =some b) (hb:b.toNat≠10):jw s a true=jw s (a+1) true:=by
 unfold jw;rw [fv h];simp [qJ,hb];omega
theorem xN {s:Tx} {a:Nat} {b:UInt8} (h:s[a]? =some b) (hb:b.toNat=35):jw s a false=jw s a true:=by
 unfold jw;rw [fv h];simp [qJ,hb]
theorem sY {s:Tx} {a:Nat} {b:UInt8} (h:s[a]? =some b) (h0:b.toNat≠35) (hb:b.toNat=32∨b.toNat=9∨b.toNat=10):jw s a false=jw s (a+1) false:=by
 unfold jw;rw [fv h,qJ,if_neg h0,if_pos hb];omega
theorem AI {s:Tx} {a:Nat} {b:UInt8} (h:s[a]? =some b) (h0:b.toNat≠35) (hb: ¬ (b.toNat=32∨b.toNat=9∨b.toNat=10)):jw s a false=a:=by
 unfold jw;rw [fv h,qJ,if_neg h0,if_neg hb];rfl
theorem mx: ∀ (l:Tx) (c:Bool),qJ l c≤l.length
 | [],c=> by unfold qJ;exact Nat.le_refl _
 | x::l,true=> by have h1:=mx l true;have h2:=mx l false;unfold qJ;split <;> simp only [List.length_cons] <;> omega
 | x::l,false=> by have h1:=mx l true;have h2:=mx l false;unfold qJ;split <;> (try split) <;> simp only [List.length_cons] <;> omega
theorem tv {s:Tx} {a:Nat} (h:a≤s.length) (c:Bool):a≤jw s a c∧jw s a c≤s.length:=by
 have:=mx (s.drop a) c
 rw [List.length_drop] at this
 unfold jw;omega
def jV (p:UInt8→Bool) (s:Tx) (a:Nat):Nat:=a+((s.drop a).takeWhile p).length
theorem tH {p:UInt8→Bool} {s:Tx} {a:Nat} (h:s.length≤a):jV p s a=a:=by
 unfold jV;rw [List.drop_eq_nil_of_le h];rfl
theorem qh {p:UInt8→Bool} {s:Tx} {a:Nat} {b:UInt8} (h:s[a]? =some b) (hb:p b=true):jV p s a=jV p s (a+1):=by
 unfold jV;rw [fv h,List.takeWhile_cons,if_pos hb,List.length_cons];omega
theorem yl {p:UInt8→Bool} {s:Tx} {a:Nat} {b:UInt8} (h:s[a]? =some b) (hb:p b=false):jV p s a=a:=by
 unfold jV;rw [fv h,List.takeWhile_cons,if_neg (by simp [hb])];rfl
theorem qD {p:UInt8→Bool} {s:Tx} {a:Nat} (h:a≤s.length):a≤jV p s a∧jV p s a≤s.length:=by
 have:((s.drop a).takeWhile p).length≤(s.drop a).length:=(List.takeWhile_prefix p).length_le
 rw [List.length_drop] at this
 unfold jV;omega
theorem qN {p:UInt8→Bool} {s:Tx} {a:Nat} {b:UInt8} (h:s[a]? =some b):(s.drop a).take (jV p s (a+1) - a)=b::(s.drop (a+1)).takeWhile p:=by
 rw [fv h,show jV p s (a+1) - a=((s.drop (a+1)).takeWhile p).length+1 by unfold jV;omega,List.take_succ_cons]
 congr 1
 obtain ⟨t,ht⟩:=List.takeWhile_prefix p (l:=s.drop (a+1))
 conv=> lhs;arg 2;rw [← ht]
 rw [List.take_append_of_le_length (Nat.le_refl _),List.take_length]
theorem pe (l:Tx) (b:UInt8):jx (l++[b])=10*jx l+(b.toNat - 48):=by unfold jx;rw [List.foldl_append];rfl
theorem Ag (l m:Tx):jx l≤jx (l++m):=by
 induction m generalizing l with
 | nil=> simp
 | cons b m ih=>
  have:=ih (l++[b])
  rw [pe,List.append_assoc] at this
  simp only [List.cons_append,List.nil_append] at this
  omega
theorem uO (l:Tx) (i:Nat):jx (l.take i)≤jx l:=by
 have:=Ag (l.take i) (l.drop i)
 rwa [List.take_append_drop] at this
theorem uD {l:Tx} {i:Nat} {b:UInt8} (h:l[i]? =some b):jx (l.take (i+1))=10*jx (l.take i)+(b.toNat - 48):=by
 obtain ⟨hl,rfl⟩:=List.getElem?_eq_some_iff.1 h
 rw [List.take_succ_eq_append_getElem hl,pe]
theorem yZ (b:UInt8):lH b=true↔97≤(b.toNat:Int)∧(b.toNat:Int)≤122:=by
 unfold lH;rw [Bool.and_eq_true,Nat.ble_eq,Nat.ble_eq];omega
theorem sB (b:UInt8):fI b=true↔48≤(b.toNat:Int)∧(b.toNat:Int)≤57:=by
 unfold fI;rw [Bool.and_eq_true,Nat.ble_eq,Nat.ble_eq];omega
theorem Cj {b:Bool} {p:Prop} (h:b=true↔p) (hn: ¬ p):b=false:=by
 cases b with
 | false=> rfl
 | true=> exact absurd (h.1 rfl) hn
def inr (x:eu):List PV:=[.v (.int .i64 (x.op.num:Int)), .v (.int .i64 x.n)]
def inl (l:List eu):List PV:=l.flatMap inr
theorem bQ (l:List eu):(inl l).length=l.length*2:=mu inr 2 (fun _=> rfl) l
theorem lD (l:List eu) (k:Nat) (h:k < l.length):(inl l)[k*2]? =some (.v (.int .i64 ((cL l k).op.num:Int))):=by
 rw [show cL l k=l[k] by simp [cL,h]];exact nM inr 2 (fun _=> rfl) l k 0 h ab
theorem wO (l:List eu) (k:Nat) (h:k < l.length):(inl l)[k*2+1]? =some (.v (.int .i64 (cL l k).n)):=by
 rw [show cL l k=l[k] by simp [cL,h]];exact nM inr 2 (fun _=> rfl) l k 1 h ab
theorem sA (l:List eu) (k:Nat) (h:k < l.length):PV.ups (((inl l).drop (k*2)).take 2)=[.v (.int .i64 ((cL l k).op.num:Int)), .v (.int .i64 (cL l k).n)]:=by
 rw [show cL l k=l[k] by simp [cL,h],show ((inl l).drop (k*2)).take 2=inr l[k] from nT inr 2 (fun _=> rfl) l k h];rfl
theorem ev (l:List eu) (x:eu):inl l++inr x=inl (l++[x]):=mb inr l x
theorem ko (l m:List eu):inl l++inl m=inl (l++m):=xI inr l m
def Ef (x:Ac):List PV:=[.v (.int .i64 x.k), .v (.int .i64 x.a), .v (.int .i64 x.b), .v (.int .i64 x.c), .v (.int .i64 x.d)]
def qI (l:List Ac):List PV:=l.flatMap Ef
def Dl (l:List Ac) (k:Nat):Ac:=l.getD k { k:=0 }
theorem gN (l:List Ac):(qI l).length=l.length*5:=mu Ef 5 (fun _=> rfl) l
theorem xV (l:List Ac) (k:Nat) (h:k < l.length):PV.ups (((qI l).drop (k*5)).take 5)=[.v (.int .i64 (Dl l k).k), .v (.int .i64 (Dl l k).a), .v (.int .i64 (Dl l k).b), .v (.int .i64 (Dl l k).c), .v (.int .i64 (Dl l k).d)]:=by
 rw [show Dl l k=l[k] by simp [Dl,h],show ((qI l).drop (k*5)).take 5=Ef l[k] from nT Ef 5 (fun _=> rfl) l k h];rfl
theorem zk (l:List Ac) (x:Ac):qI l++Ef x=qI (l++[x]):=mb Ef l x
end Go.Proofs.YtmjnackchaahbaaGreat

namespace Go.Proofs.YtmjnackchaahbaaGreat
abbrev HV:List Value:=[.int .i64 0, .int .i64 0, .int .i64 0, .int .i64 0, .int .i64 0, .int .i64 0, .int .i64 0, .int .i64 0, .int .i64 0, .int .i64 0, .int .i64 0, .int .i64 0, .int .i64 0, .int .i64 0, .int .i64 0, .int .i64 0, .int .i64 0, .int .i64 0, .int .i64 0, .int .i64 0, .int .i64 0, .int .i64 0, .int .i64 0, .int .i64 0, .int .i64 0, .int .i64 0, .int .i64 0, .int .i64 0, .int .i64 0, .int .i64 0, .int .i64 0, .int .i64 0, .int .i64 0, .int .i64 0, .int .i64 0, .int .i64 0, .int .i64 0, .int .i64 0, .int .i64 0, .int .i64 0]
abbrev Ej:List Value:=[.slice none 0 0, .int .i64 0, .int .i64 0, .int .i64 0, .int .i64 0, .int .i64 0, .int .i64 0, .int .i64 0, .int .i64 0, .int .i64 0, .int .i64 0, .int .i64 0, .int .i64 0, .int .i64 0, .int .i64 0, .int .i64 0, .int .i64 0, .int .i64 0, .int .i64 0, .int .i64 0, .int .i64 0, .int .i64 0, .int .i64 0, .int .i64 0, .int .i64 0, .int .i64 0, .int .i64 0, .int .i64 0, .int .i64 0, .int .i64 0, .int .i64 0, .int .i64 0, .int .i64 0, .int .i64 0, .int .i64 0, .int .i64 0, .int .i64 0, .int .i64 0, .int .i64 0, .int .i64 0, .int .i64 0, .int .i64 0, .int .i64 0]
abbrev ui:List Value:=[.int .i64 0, .int .i64 0, .int .i64 0, .int .i64 0, .int .i64 0, .int .i64 0, .int .i64 0, .int .i64 0, .int .i64 0]
abbrev Cb:List Value:=[.slice none 0 0, .slice none 0 0, .int .i64 0, .bool false, .slice none 0 0]
abbrev BS:List Value:=[.slice none 0 0, .slice none 0 0, .int .i64 0, .bool false, .slice none 0 0, .slice none 0 0]
abbrev mN:List Value:=[.int .i64 0, .int .i64 0, .int .i64 0, .int .i64 0, .int .i64 0]
abbrev Ei:List Value:=[.slice none 0 0, .slice none 0 0, .slice none 0 0]
abbrev Ci:List Value:=[.int .i64 0, .int .i64 0, .string ByteArray.empty, .slice none 0 0]
abbrev Cn:List Value:=[.int .i64 0, .int .i64 0, .int .i64 0, .string ByteArray.empty, .slice none 0 0]
abbrev ID:List Value:=[.int .i64 0, .int .i64 0, .int .i64 0, .int .i64 0, .int .i64 0, .int .i64 0, .int .i64 0, .int .i64 0, .int .i64 0, .int .i64 0, .int .i64 0, .int .i64 0, .int .i64 0, .int .i64 0, .int .i64 0, .int .i64 0, .int .i64 0, .int .i64 0, .int .i64 0, .int .i64 0, .int .i64 0, .int .i64 0, .int .i64 0, .int .i64 0, .int .i64 0, .int .i64 0, .int .i64 0, .int .i64 0, .int .i64 0, .int .i64 0, .int .i64 0, .int .i64 0, .int .i64 0, .int .i64 0, .int .i64 0, .int .i64 0, .int .i64 0, .int .i64 0, .int .i64 0, .int .i64 0, .int .i64 0]
abbrev wk:List Value:=[.bool false, .int .i64 0, .int .i64 0, .int .i64 0, .slice none 0 0, .slice none 0 0, .slice none 0 0, .slice none 0 0, .int .i64 0, .int .i64 0, .int .i64 0, .int .i64 0, .int .i64 0, .int .i64 0, .int .i64 0, .int .i64 0, .int .i64 0, .int .i64 0, .int .i64 0, .int .i64 0, .int .i64 0, .int .i64 0, .int .i64 0, .int .i64 0, .int .i64 0, .int .i64 0, .int .i64 0, .int .i64 0, .int .i64 0, .int .i64 0, .int .i64 0, .int .i64 0, .int .i64 0, .int .i64 0, .int .i64 0, .int .i64 0, .int .i64 0, .int .i64 0, .int .i64 0, .int .i64 0, .int .i64 0, .int .i64 0, .int .i64 0, .int .i64 0, .int .i64 0, .int .i64 0, .int .i64 0, .int .i64 0, .int .i64 0, .int .i64 0, .int .i64 0, .int .i64 0]
abbrev ve:List Value:=[.int .i64 0, .int .i64 0, .int .i64 0, .int .i64 0, .int .i64 0, .int .i64 0, .int .i64 0, .int .i64 0, .int .i64 0, .int .i64 0, .int .i64 0, .int .i64 0, .int .i64 0, .slice none 0 0, .slice none 0 0]
abbrev vy:List Value:=[.int .i64 0, .int .i64 0, .int .i64 0]
abbrev uI:List Value:=[.int .i64 0, .int .i64 0, .int .i64 0, .slice none 0 0, .bool false, .int .i64 0, .slice none 0 0, .slice none 0 0, .slice none 0 0, .int .i64 0, .bool false, .slice none 0 0]
abbrev ro:List Value:=[.int .i64 0, .int .i64 0, .int .i64 0, .slice none 0 0, .slice none 0 0]
abbrev oZ:List Value:=[.int .i64 0, .int .i64 0, .int .i64 0, .int .i64 0, .int .i64 0, .int .i64 0, .int .i64 0]
abbrev uR:List Value:=[.slice none 0 0, .slice none 0 0, .bool false]
abbrev va:List Value:=[.slice none 0 0, .int .i64 0, .int .i64 0, .int .i64 0, .int .i64 0, .int .i64 0, .int .i64 0, .int .i64 0, .int .i64 0, .int .i64 0]
abbrev wi:List Value:=[.slice none 0 0, .slice none 0 0, .slice none 0 0, .slice none 0 0]
abbrev vN:List Value:=[.slice none 0 0, .int .i64 0, .int .i64 0, .int .i64 0, .int .i64 0, .int .i64 0, .int .i64 0, .int .i64 0, .int .i64 0, .int .i64 0, .int .i64 0, .int .i64 0, .int .i64 0, .int .i64 0, .int .i64 0, .int .i64 0, .int .i64 0, .int .i64 0, .int .i64 0, .int .i64 0, .int .i64 0, .int .i64 0, .int .i64 0, .int .i64 0, .int .i64 0, .int .i64 0, .int .i64 0, .int .i64 0, .int .i64 0, .int .i64 0, .int .i64 0, .int .i64 0, .int .i64 0, .int .i64 0, .int .i64 0, .int .i64 0, .int .i64 0, .int .i64 0, .int .i64 0, .int .i64 0, .int .i64 0, .int .i64 0, .int .i64 0, .slice none 0 0, .int .i64 0, .int .i64 0, .int .i64 0, .int .i64 0, .int .i64 0, .int .i64 0, .int .i64 0, .int .i64 0, .int .i64 0, .nilFunc, .slice none 0 0, .slice none 0 0, .int .i64 0, .bool false, .slice none 0 0, .slice none 0 0, .int .i64 0, .int .i64 0, .int .i64 0, .bool false]
abbrev zD:List Value:=[.nilFunc, .nilFunc, .nilFunc, .nilFunc, .nilFunc, .nilFunc, .nilFunc, .nilFunc, .nilFunc, .nilFunc, .nilFunc, .nilFunc, .nilFunc, .nilFunc, .nilFunc, .nilFunc, .nilFunc, .nilFunc, .nilFunc, .nilFunc, .nilFunc, .nilFunc, .nilFunc, .nilFunc]
abbrev vt:List Value:=[.int .i64 0, .int .i64 0, .int .i64 0, .int .i64 0]
abbrev qP:List Value:=[.int .i64 0, .int .i64 0, .int .i64 0, .int .i64 0, .int .i64 0, .int .i64 0]
abbrev vE:List Value:=[.slice none 0 0, .int .i64 0, .int .i64 0, .int .i64 0, .slice none 0 0]
abbrev rP:List Value:=[.int .i64 0, .int .i64 0, .string ByteArray.empty, .int .i64 0]
abbrev Ap:List Value:=[.bool false, .int .i64 0, .int .i64 0, .int .i64 0, .slice none 0 0, .slice none 0 0, .slice none 0 0, .slice none 0 0, .int .i64 0, .int .i64 0, .int .i64 0, .int .i64 0, .int .i64 0, .int .i64 0, .int .i64 0, .int .i64 0, .int .i64 0, .int .i64 0, .int .i64 0, .int .i64 0, .int .i64 0, .int .i64 0, .int .i64 0, .int .i64 0, .int .i64 0, .int .i64 0, .int .i64 0, .int .i64 0, .int .i64 0, .int .i64 0, .int .i64 0, .int .i64 0, .int .i64 0, .int .i64 0, .int .i64 0, .int .i64 0, .int .i64 0, .int .i64 0, .int .i64 0, .int .i64 0, .int .i64 0, .int .i64 0, .int .i64 0, .int .i64 0, .int .i64 0, .int .i64 0, .int .i64 0, .int .i64 0, .int .i64 0, .int .i64 0, .int .i64 0, .int .i64 0, .slice none 0 0, .slice none 0 0, .bool false, .int .i64 0, .slice none 0 0, .int .i64 0, .int .i64 0, .int .i64 0, .slice none 0 0, .slice none 0 0, .int .i64 0, .bool false, .slice none 0 0, .slice none 0 0, .slice none 0 0]
abbrev FH:List Value:=[.int .u64 0, .int .u64 0, .int .u32 0, .int .u8 0, .int .u8 0, .int .u8 0, .int .u8 0, .nilFunc, .pointer none, .int .i32 0, .int .i32 0]

instance wu:Ty Tryz.prog 1 false [.nilFunc]:=Ty.of (bytes:=8) (.nilFunc) Tryz.underlying1 rfl ae rfl (by simp [Value.oneCell'])
instance wx:Ty Tryz.prog 2 false [.int .i64 0]:=Ty.of (bytes:=8) (.int .i64 0) Tryz.underlying2 rfl ae rfl (by simp [Value.oneCell'])
instance eW:Ty Tryz.prog 3 false [.int .i64 0]:=Ty.of (bytes:=8) (.int .i64 0) Tryz.underlying3 rfl ae rfl (by simp [Value.oneCell'])
instance Cm:Ty Tryz.prog 4 false [.bool false]:=Ty.of (bytes:=1) (.bool false) Tryz.underlying4 rfl ae rfl (by simp [Value.oneCell'])
instance TL:Ty Tryz.prog 5 false [.int .u8 0]:=Ty.of (bytes:=1) (.int .u8 0) Tryz.underlying5 rfl ae rfl (by simp [Value.oneCell'])
instance PX:Ty Tryz.prog 9 false [.string ByteArray.empty]:=Ty.of (bytes:=16) (.string ByteArray.empty) Tryz.underlying9 rfl ae rfl (by simp [Value.oneCell'])
instance SU:Ty Tryz.prog 12 false [.int .u64 0]:=Ty.of (bytes:=8) (.int .u64 0) Tryz.underlying12 rfl ae rfl (by simp [Value.oneCell'])
instance iw:Ty Tryz.prog 22 false [.slice none 0 0]:=Ty.of (bytes:=24) (.slice none 0 0) Tryz.underlying22 rfl ae rfl (by simp [Value.oneCell'])
instance FF:Ty Tryz.prog 23 false [.slice none 0 0]:=Ty.of (bytes:=24) (.slice none 0 0) Tryz.underlying23 rfl ae rfl (by simp [Value.oneCell'])
instance Mg:Ty Tryz.prog 24 true HV:=Ty.of (bytes:=320) (.agg (HV).toArray) Tryz.underlying24 rfl ae rfl (by simp [Value.oneCell'])
instance Ly:Ty Tryz.prog 26 true Ej:=Ty.of (bytes:=360) (.agg (Ej).toArray) Tryz.underlying26 rfl ae rfl (by simp [Value.oneCell'])
instance Fu:Ty Tryz.prog 30 true ui:=Ty.of (bytes:=72) (.agg (ui).toArray) Tryz.underlying30 rfl ae rfl (by simp [Value.oneCell'])
instance Bx:Ty Tryz.prog 32 false [.slice none 0 0]:=Ty.of (bytes:=24) (.slice none 0 0) Tryz.underlying32 rfl ae rfl (by simp [Value.oneCell'])
instance RI:Ty Tryz.prog 33 true Cb:=Ty.of (bytes:=88) (.agg (Cb).toArray) Tryz.underlying33 rfl ae rfl (by simp [Value.oneCell'])
instance FD:Ty Tryz.prog 34 true Cb:=Ty.of (bytes:=88) (.agg (Cb).toArray) Tryz.underlying34 rfl ae rfl (by simp [Value.oneCell'])
instance RA:Ty Tryz.prog 38 true BS:=Ty.of (bytes:=112) (.agg (BS).toArray) Tryz.underlying38 rfl ae rfl (by simp [Value.oneCell'])
instance SR:Ty Tryz.prog 39 true BS:=Ty.of (bytes:=112) (.agg (BS).toArray) Tryz.underlying39 rfl ae rfl (by simp [Value.oneCell'])
instance So:Ty Tryz.prog 40 false [.nilFunc]:=Ty.of (bytes:=8) (.nilFunc) Tryz.underlying40 rfl ae rfl (by simp [Value.oneCell'])
instance Si:Ty Tryz.prog 42 false [.nilFunc]:=Ty.of (bytes:=8) (.nilFunc) Tryz.underlying42 rfl ae rfl (by simp [Value.oneCell'])
instance Lm:Ty Tryz.prog 43 false [.nilFunc]:=Ty.of (bytes:=8) (.nilFunc) Tryz.underlying43 rfl ae rfl (by simp [Value.oneCell'])
instance Rv:Ty Tryz.prog 44 true [.int .i64 0, .int .i64 0]:=Ty.of (bytes:=16) (.agg #[.int .i64 0, .int .i64 0]) Tryz.underlying44 rfl ae rfl (by simp [Value.oneCell'])
instance To:Ty Tryz.prog 45 false [.slice none 0 0]:=Ty.of (bytes:=24) (.slice none 0 0) Tryz.underlying45 rfl ae rfl (by simp [Value.oneCell'])
instance RD:Ty Tryz.prog 47 true [.int .i64 0, .int .i64 0]:=Ty.of (bytes:=16) (.agg #[.int .i64 0, .int .i64 0]) Tryz.underlying47 rfl ae rfl (by simp [Value.oneCell'])
instance TH:Ty Tryz.prog 48 true [.int .i64 0, .int .i64 0]:=Ty.of (bytes:=16) (.agg #[.int .i64 0, .int .i64 0]) Tryz.underlying48 rfl ae rfl (by simp [Value.oneCell'])
instance TF:Ty Tryz.prog 51 false [.nilFunc]:=Ty.of (bytes:=8) (.nilFunc) Tryz.underlying51 rfl ae rfl (by simp [Value.oneCell'])
instance Rw:Ty Tryz.prog 57 true mN:=Ty.of (bytes:=40) (.agg (mN).toArray) Tryz.underlying57 rfl ae rfl (by simp [Value.oneCell'])
instance RK:Ty Tryz.prog 60 false [.nilFunc]:=Ty.of (bytes:=8) (.nilFunc) Tryz.underlying60 rfl ae rfl (by simp [Value.oneCell'])
instance CK:Ty Tryz.prog 61 false [.slice none 0 0]:=Ty.of (bytes:=24) (.slice none 0 0) Tryz.underlying61 rfl ae rfl (by simp [Value.oneCell'])
instance Me:Ty Tryz.prog 62 false [.slice none 0 0]:=Ty.of (bytes:=24) (.slice none 0 0) Tryz.underlying62 rfl ae rfl (by simp [Value.oneCell'])
instance Jq:Ty Tryz.prog 64 true Ei:=Ty.of (bytes:=72) (.agg (Ei).toArray) Tryz.underlying64 rfl ae rfl (by simp [Value.oneCell'])
instance KU:Ty Tryz.prog 66 false [.int .i64 0]:=Ty.of (bytes:=8) (.int .i64 0) Tryz.underlying66 rfl ae rfl (by simp [Value.oneCell'])
instance Lr:Ty Tryz.prog 69 false [.slice none 0 0]:=Ty.of (bytes:=24) (.slice none 0 0) Tryz.underlying69 rfl ae rfl (by simp [Value.oneCell'])
instance Jj:Ty Tryz.prog 71 true Ci:=Ty.of (bytes:=56) (.agg (Ci).toArray) Tryz.underlying71 rfl ae rfl (by simp [Value.oneCell'])
instance Sy:Ty Tryz.prog 73 true Cn:=Ty.of (bytes:=64) (.agg (Cn).toArray) Tryz.underlying73 rfl ae rfl (by simp [Value.oneCell'])
instance JY:Ty Tryz.prog 78 false [.slice none 0 0]:=Ty.of (bytes:=24) (.slice none 0 0) Tryz.underlying78 rfl ae rfl (by simp [Value.oneCell'])
instance KM:Ty Tryz.prog 80 true [.slice none 0 0, .slice none 0 0]:=Ty.of (bytes:=48) (.agg #[.slice none 0 0, .slice none 0 0]) Tryz.underlying80 rfl ae rfl (by simp [Value.oneCell'])
instance Lq:Ty Tryz.prog 81 true ID:=Ty.of (bytes:=328) (.agg (ID).toArray) Tryz.underlying81 rfl ae rfl (by simp [Value.oneCell'])
instance SN:Ty Tryz.prog 83 true wk:=Ty.of (bytes:=480) (.agg (wk).toArray) Tryz.underlying83 rfl ae rfl (by simp [Value.oneCell'])
instance Tp:Ty Tryz.prog 87 true ve:=Ty.of (bytes:=152) (.agg (ve).toArray) Tryz.underlying87 rfl ae rfl (by simp [Value.oneCell'])
instance FZ:Ty Tryz.prog 88 false [.slice none 0 0]:=Ty.of (bytes:=24) (.slice none 0 0) Tryz.underlying88 rfl ae rfl (by simp [Value.oneCell'])
instance LZ:Ty Tryz.prog 89 false [.slice none 0 0]:=Ty.of (bytes:=24) (.slice none 0 0) Tryz.underlying89 rfl ae rfl (by simp [Value.oneCell'])
instance sD:Ty Tryz.prog 91 true vy:=Ty.of (bytes:=24) (.agg (vy).toArray) Tryz.underlying91 rfl ae rfl (by simp [Value.oneCell'])
instance SP:Ty Tryz.prog 96 true uI:=Ty.of (bytes:=176) (.agg (uI).toArray) Tryz.underlying96 rfl ae rfl (by simp [Value.oneCell'])
instance SX:Ty Tryz.prog 97 false [.pointer none]:=Ty.of (bytes:=8) (.pointer none) Tryz.underlying97 rfl ae rfl (by simp [Value.oneCell'])
instance SB:Ty Tryz.prog 99 false [.nilFunc]:=Ty.of (bytes:=8) (.nilFunc) Tryz.underlying99 rfl ae rfl (by simp [Value.oneCell'])
instance Pa:Ty Tryz.prog 100 false [.nilFunc]:=Ty.of (bytes:=8) (.nilFunc) Tryz.underlying100 rfl ae rfl (by simp [Value.oneCell'])
instance Ch:Ty Tryz.prog 101 false [.slice none 0 0]:=Ty.of (bytes:=24) (.slice none 0 0) Tryz.underlying101 rfl ae rfl (by simp [Value.oneCell'])
instance PZ:Ty Tryz.prog 102 true ro:=Ty.of (bytes:=72) (.agg (ro).toArray) Tryz.underlying102 rfl ae rfl (by simp [Value.oneCell'])
instance PQ:Ty Tryz.prog 103 true ro:=Ty.of (bytes:=72) (.agg (ro).toArray) Tryz.underlying103 rfl ae rfl (by simp [Value.oneCell'])
instance Qu:Ty Tryz.prog 104 false [.nilFunc]:=Ty.of (bytes:=8) (.nilFunc) Tryz.underlying104 rfl ae rfl (by simp [Value.oneCell'])
instance QV:Ty Tryz.prog 105 false [.nilFunc]:=Ty.of (bytes:=8) (.nilFunc) Tryz.underlying105 rfl ae rfl (by simp [Value.oneCell'])
instance ML:Ty Tryz.prog 108 true mN:=Ty.of (bytes:=40) (.agg (mN).toArray) Tryz.underlying108 rfl ae rfl (by simp [Value.oneCell'])
instance yb:Ty Tryz.prog 109 true mN:=Ty.of (bytes:=40) (.agg (mN).toArray) Tryz.underlying109 rfl ae rfl (by simp [Value.oneCell'])
instance Qp:Ty Tryz.prog 110 true oZ:=Ty.of (bytes:=56) (.agg (oZ).toArray) Tryz.underlying110 rfl ae rfl (by simp [Value.oneCell'])
instance Na:Ty Tryz.prog 111 true oZ:=Ty.of (bytes:=56) (.agg (oZ).toArray) Tryz.underlying111 rfl ae rfl (by simp [Value.oneCell'])
instance Pm:Ty Tryz.prog 112 false [.nilFunc]:=Ty.of (bytes:=8) (.nilFunc) Tryz.underlying112 rfl ae rfl (by simp [Value.oneCell'])
instance Nm:Ty Tryz.prog 113 false [.slice none 0 0]:=Ty.of (bytes:=24) (.slice none 0 0) Tryz.underlying113 rfl ae rfl (by simp [Value.oneCell'])
instance Oy:Ty Tryz.prog 114 true mN:=Ty.of (bytes:=40) (.agg (mN).toArray) Tryz.underlying114 rfl ae rfl (by simp [Value.oneCell'])
instance BR:Ty Tryz.prog 115 true mN:=Ty.of (bytes:=40) (.agg (mN).toArray) Tryz.underlying115 rfl ae rfl (by simp [Value.oneCell'])
instance Po:Ty Tryz.prog 116 true ui:=Ty.of (bytes:=72) (.agg (ui).toArray) Tryz.underlying116 rfl ae rfl (by simp [Value.oneCell'])
instance OQ:Ty Tryz.prog 117 true ui:=Ty.of (bytes:=72) (.agg (ui).toArray) Tryz.underlying117 rfl ae rfl (by simp [Value.oneCell'])
instance Nk:Ty Tryz.prog 118 false [.nilFunc]:=Ty.of (bytes:=8) (.nilFunc) Tryz.underlying118 rfl ae rfl (by simp [Value.oneCell'])
instance Pe:Ty Tryz.prog 119 false [.nilFunc]:=Ty.of (bytes:=8) (.nilFunc) Tryz.underlying119 rfl ae rfl (by simp [Value.oneCell'])
instance Qj:Ty Tryz.prog 121 false [.slice none 0 0]:=Ty.of (bytes:=24) (.slice none 0 0) Tryz.underlying121 rfl ae rfl (by simp [Value.oneCell'])
instance PR:Ty Tryz.prog 122 false [.nilFunc]:=Ty.of (bytes:=8) (.nilFunc) Tryz.underlying122 rfl ae rfl (by simp [Value.oneCell'])
instance Qw:Ty Tryz.prog 124 false [.nilFunc]:=Ty.of (bytes:=8) (.nilFunc) Tryz.underlying124 rfl ae rfl (by simp [Value.oneCell'])
instance Pb:Ty Tryz.prog 125 true [.int .i64 0, .int .i64 0]:=Ty.of (bytes:=16) (.agg #[.int .i64 0, .int .i64 0]) Tryz.underlying125 rfl ae rfl (by simp [Value.oneCell'])
instance Ol:Ty Tryz.prog 126 true [.int .i64 0, .int .i64 0]:=Ty.of (bytes:=16) (.agg #[.int .i64 0, .int .i64 0]) Tryz.underlying126 rfl ae rfl (by simp [Value.oneCell'])
instance Nb:Ty Tryz.prog 127 false [.pointer none]:=Ty.of (bytes:=8) (.pointer none) Tryz.underlying127 rfl ae rfl (by simp [Value.oneCell'])
instance Pf:Ty Tryz.prog 129 true uR:=Ty.of (bytes:=56) (.agg (uR).toArray) Tryz.underlying129 rfl ae rfl (by simp [Value.oneCell'])
instance EH:Ty Tryz.prog 132 true va:=Ty.of (bytes:=96) (.agg (va).toArray) Tryz.underlying132 rfl ae rfl (by simp [Value.oneCell'])
instance Nj:Ty Tryz.prog 137 false [.pointer none]:=Ty.of (bytes:=8) (.pointer none) Tryz.underlying137 rfl ae rfl (by simp [Value.oneCell'])
instance Ph:Ty Tryz.prog 139 true [.slice none 0 0, .int .i64 0]:=Ty.of (bytes:=32) (.agg #[.slice none 0 0, .int .i64 0]) Tryz.underlying139 rfl ae rfl (by simp [Value.oneCell'])
instance OF:Ty Tryz.prog 141 false [.pointer none]:=Ty.of (bytes:=8) (.pointer none) Tryz.underlying141 rfl ae rfl (by simp [Value.oneCell'])
instance NJ:Ty Tryz.prog 143 true wi:=Ty.of (bytes:=96) (.agg (wi).toArray) Tryz.underlying143 rfl ae rfl (by simp [Value.oneCell'])
instance NA:Ty Tryz.prog 161 false [.nilFunc]:=Ty.of (bytes:=8) (.nilFunc) Tryz.underlying161 rfl ae rfl (by simp [Value.oneCell'])
instance QW:Ty Tryz.prog 168 false [.pointer none]:=Ty.of (bytes:=8) (.pointer none) Tryz.underlying168 rfl ae rfl (by simp [Value.oneCell'])
instance Qf:Ty Tryz.prog 169 false [.nilFunc]:=Ty.of (bytes:=8) (.nilFunc) Tryz.underlying169 rfl ae rfl (by simp [Value.oneCell'])
instance Oe:Ty Tryz.prog 171 true vN:=Ty.of (bytes:=608) (.agg (vN).toArray) Tryz.underlying171 rfl ae rfl (by simp [Value.oneCell'])
instance PD:Ty Tryz.prog 172 false [.nilFunc]:=Ty.of (bytes:=8) (.nilFunc) Tryz.underlying172 rfl ae rfl (by simp [Value.oneCell'])
instance QU:Ty Tryz.prog 173 true zD:=Ty.of (bytes:=192) (.agg (zD).toArray) Tryz.underlying173 rfl ae rfl (by simp [Value.oneCell'])
instance Pc:Ty Tryz.prog 175 false [.map none]:=Ty.of (bytes:=8) (.map none) Tryz.underlying175 rfl ae rfl (by simp [Value.oneCell'])
instance NI:Ty Tryz.prog 176 true []:=Ty.of (bytes:=0) (.agg #[]) Tryz.underlying176 rfl ae rfl (by simp [Value.oneCell'])
instance Ov:Ty Tryz.prog 178 false [.nilFunc]:=Ty.of (bytes:=8) (.nilFunc) Tryz.underlying178 rfl ae rfl (by simp [Value.oneCell'])
instance NX:Ty Tryz.prog 179 false [.nilFunc]:=Ty.of (bytes:=8) (.nilFunc) Tryz.underlying179 rfl ae rfl (by simp [Value.oneCell'])
instance NF:Ty Tryz.prog 188 false [.map none]:=Ty.of (bytes:=8) (.map none) Tryz.underlying188 rfl ae rfl (by simp [Value.oneCell'])
instance OO:Ty Tryz.prog 190 false [.map none]:=Ty.of (bytes:=8) (.map none) Tryz.underlying190 rfl ae rfl (by simp [Value.oneCell'])
instance QS:Ty Tryz.prog 192 true vt:=Ty.of (bytes:=32) (.agg (vt).toArray) Tryz.underlying192 rfl ae rfl (by simp [Value.oneCell'])
instance NS:Ty Tryz.prog 196 true qP:=Ty.of (bytes:=48) (.agg (qP).toArray) Tryz.underlying196 rfl ae rfl (by simp [Value.oneCell'])
instance Pv:Ty Tryz.prog 200 false [.pointer none]:=Ty.of (bytes:=8) (.pointer none) Tryz.underlying200 rfl ae rfl (by simp [Value.oneCell'])
instance MN:Ty Tryz.prog 216 false [.nilFunc]:=Ty.of (bytes:=8) (.nilFunc) Tryz.underlying216 rfl ae rfl (by simp [Value.oneCell'])
instance Ez:Ty Tryz.prog 217 false [.slice none 0 0]:=Ty.of (bytes:=24) (.slice none 0 0) Tryz.underlying217 rfl ae rfl (by simp [Value.oneCell'])
instance NT:Ty Tryz.prog 220 false [.pointer none]:=Ty.of (bytes:=8) (.pointer none) Tryz.underlying220 rfl ae rfl (by simp [Value.oneCell'])
instance OP:Ty Tryz.prog 222 true vE:=Ty.of (bytes:=72) (.agg (vE).toArray) Tryz.underlying222 rfl ae rfl (by simp [Value.oneCell'])
instance NR:Ty Tryz.prog 225 true rP:=Ty.of (bytes:=40) (.agg (rP).toArray) Tryz.underlying225 rfl ae rfl (by simp [Value.oneCell'])
instance Ok:Ty Tryz.prog 253 false [.int .i64 0]:=Ty.of (bytes:=8) (.int .i64 0) Tryz.underlying253 rfl ae rfl (by simp [Value.oneCell'])
instance NV:Ty Tryz.prog 275 false [.slice none 0 0]:=Ty.of (bytes:=24) (.slice none 0 0) Tryz.underlying275 rfl ae rfl (by simp [Value.oneCell'])
instance Rq:Elem Tryz.prog 22 3 1 8 [.int .i64 0]:=Elem.of (.int .i64 0) Tryz.underlying22 ae rfl rfl ah ah (by simp [Value.oneCell'])
instance Rj:Elem Tryz.prog 23 48 2 16 [.int .i64 0, .int .i64 0]:=Elem.of (.agg #[.int .i64 0, .int .i64 0]) Tryz.underlying23 ae rfl rfl ah ah (by simp [Value.oneCell'])
instance RF:Elem Tryz.prog 32 57 5 40 mN:=Elem.of (.agg (mN).toArray) Tryz.underlying32 ae rfl rfl ah ah (by simp [Value.oneCell'])
instance Rx:Elem Tryz.prog 45 44 2 16 [.int .i64 0, .int .i64 0]:=Elem.of (.agg #[.int .i64 0, .int .i64 0]) Tryz.underlying45 ae rfl rfl ah ah (by simp [Value.oneCell'])
instance SD:Elem Tryz.prog 61 9 1 16 [.string ByteArray.empty]:=Elem.of (.string ByteArray.empty) Tryz.underlying61 ae rfl rfl ah ah (by simp [Value.oneCell'])
instance Tm:Elem Tryz.prog 62 73 5 64 Cn:=Elem.of (.agg (Cn).toArray) Tryz.underlying62 ae rfl rfl ah ah (by simp [Value.oneCell'])
instance RH:Elem Tryz.prog 69 71 4 56 Ci:=Elem.of (.agg (Ci).toArray) Tryz.underlying69 ae rfl rfl ah ah (by simp [Value.oneCell'])
instance Rn:Elem Tryz.prog 78 126 2 16 [.int .i64 0, .int .i64 0]:=Elem.of (.agg #[.int .i64 0, .int .i64 0]) Tryz.underlying78 ae rfl rfl ah ah (by simp [Value.oneCell'])
instance Tg:Elem Tryz.prog 88 111 7 56 oZ:=Elem.of (.agg (oZ).toArray) Tryz.underlying88 ae rfl rfl ah ah (by simp [Value.oneCell'])
instance SM:Elem Tryz.prog 89 117 9 72 ui:=Elem.of (.agg (ui).toArray) Tryz.underlying89 ae rfl rfl ah ah (by simp [Value.oneCell'])
instance Oo:Elem Tryz.prog 101 196 6 48 qP:=Elem.of (.agg (qP).toArray) Tryz.underlying101 ae rfl rfl ah ah (by simp [Value.oneCell'])
instance QK:Elem Tryz.prog 113 115 5 40 mN:=Elem.of (.agg (mN).toArray) Tryz.underlying113 ae rfl rfl ah ah (by simp [Value.oneCell'])
instance NY:Elem Tryz.prog 121 4 1 1 [.bool false]:=Elem.of (.bool false) Tryz.underlying121 ae rfl rfl ah ah (by simp [Value.oneCell'])
instance Qo:Elem Tryz.prog 217 225 4 40 rP:=Elem.of (.agg (rP).toArray) Tryz.underlying217 ae rfl rfl ah ah (by simp [Value.oneCell'])
instance Ny:Elem Tryz.prog 275 61 1 24 [.slice none 0 0]:=Elem.of (.slice none 0 0) Tryz.underlying275 ae rfl rfl ah ah (by simp [Value.oneCell'])
instance Km:cF Tryz.prog 26 0 0:=⟨fun ad w=> by kernel_rfl⟩
instance Ml:Fvl Tryz.prog 26 0 0 false 1:=Fvl.of Tryz.underlying26 rfl rfl FF rfl
instance Lj:cF Tryz.prog 26 1 1:=⟨fun ad w=> by kernel_rfl⟩
instance KI:Fvl Tryz.prog 26 1 1 true 40:=Fvl.of Tryz.underlying26 rfl rfl Mg rfl
instance Ki:cF Tryz.prog 26 2 41:=⟨fun ad w=> by kernel_rfl⟩
instance MB:Fvl Tryz.prog 26 2 41 false 1:=Fvl.of Tryz.underlying26 rfl rfl eW rfl
instance Ll:cF Tryz.prog 26 3 42:=⟨fun ad w=> by kernel_rfl⟩
instance LR:Fvl Tryz.prog 26 3 42 false 1:=Fvl.of Tryz.underlying26 rfl rfl eW rfl
instance JD:cF Tryz.prog 33 0 0:=⟨fun ad w=> by kernel_rfl⟩
instance Mj:Fvl Tryz.prog 33 0 0 false 1:=Fvl.of Tryz.underlying33 rfl rfl iw rfl
instance KR:cF Tryz.prog 33 1 1:=⟨fun ad w=> by kernel_rfl⟩
instance Ju:Fvl Tryz.prog 33 1 1 false 1:=Fvl.of Tryz.underlying33 rfl rfl Bx rfl
instance MA:cF Tryz.prog 33 2 2:=⟨fun ad w=> by kernel_rfl⟩
instance Ku:Fvl Tryz.prog 33 2 2 false 1:=Fvl.of Tryz.underlying33 rfl rfl eW rfl
instance LY:cF Tryz.prog 33 3 3:=⟨fun ad w=> by kernel_rfl⟩
instance Mq:Fvl Tryz.prog 33 3 3 false 1:=Fvl.of Tryz.underlying33 rfl rfl Cm rfl
instance JW:cF Tryz.prog 33 4 4:=⟨fun ad w=> by kernel_rfl⟩
instance Kr:Fvl Tryz.prog 33 4 4 false 1:=Fvl.of Tryz.underlying33 rfl rfl iw rfl
instance Kh:cF Tryz.prog 34 0 0:=⟨fun ad w=> by kernel_rfl⟩
instance LB:Fvl Tryz.prog 34 0 0 false 1:=Fvl.of Tryz.underlying34 rfl rfl iw rfl
instance KD:cF Tryz.prog 34 1 1:=⟨fun ad w=> by kernel_rfl⟩
instance LH:Fvl Tryz.prog 34 1 1 false 1:=Fvl.of Tryz.underlying34 rfl rfl Bx rfl
instance LA:cF Tryz.prog 34 2 2:=⟨fun ad w=> by kernel_rfl⟩
instance KL:Fvl Tryz.prog 34 2 2 false 1:=Fvl.of Tryz.underlying34 rfl rfl eW rfl
instance JO:cF Tryz.prog 34 3 3:=⟨fun ad w=> by kernel_rfl⟩
instance Jl:Fvl Tryz.prog 34 3 3 false 1:=Fvl.of Tryz.underlying34 rfl rfl Cm rfl
instance KN:cF Tryz.prog 34 4 4:=⟨fun ad w=> by kernel_rfl⟩
instance Ld:Fvl Tryz.prog 34 4 4 false 1:=Fvl.of Tryz.underlying34 rfl rfl iw rfl
instance LI:cF Tryz.prog 38 0 0:=⟨fun ad w=> by kernel_rfl⟩
instance KA:Fvl Tryz.prog 38 0 0 false 1:=Fvl.of Tryz.underlying38 rfl rfl iw rfl
instance KX:cF Tryz.prog 38 1 1:=⟨fun ad w=> by kernel_rfl⟩
instance Lf:Fvl Tryz.prog 38 1 1 false 1:=Fvl.of Tryz.underlying38 rfl rfl Bx rfl
instance JI:cF Tryz.prog 38 2 2:=⟨fun ad w=> by kernel_rfl⟩
instance JF:Fvl Tryz.prog 38 2 2 false 1:=Fvl.of Tryz.underlying38 rfl rfl eW rfl
instance Lg:cF Tryz.prog 38 3 3:=⟨fun ad w=> by kernel_rfl⟩
instance JV:Fvl Tryz.prog 38 3 3 false 1:=Fvl.of Tryz.underlying38 rfl rfl Cm rfl
instance LF:cF Tryz.prog 38 4 4:=⟨fun ad w=> by kernel_rfl⟩
instance Mv:Fvl Tryz.prog 38 4 4 false 1:=Fvl.of Tryz.underlying38 rfl rfl iw rfl
instance Jn:cF Tryz.prog 38 5 5:=⟨fun ad w=> by kernel_rfl⟩
instance LQ:Fvl Tryz.prog 38 5 5 false 1:=Fvl.of Tryz.underlying38 rfl rfl iw rfl
instance MJ:cF Tryz.prog 39 0 0:=⟨fun ad w=> by kernel_rfl⟩
instance Lh:Fvl Tryz.prog 39 0 0 false 1:=Fvl.of Tryz.underlying39 rfl rfl iw rfl
instance Kw:cF Tryz.prog 39 1 1:=⟨fun ad w=> by kernel_rfl⟩
instance KG:Fvl Tryz.prog 39 1 1 false 1:=Fvl.of Tryz.underlying39 rfl rfl Bx rfl
instance Jv:cF Tryz.prog 39 2 2:=⟨fun ad w=> by kernel_rfl⟩
instance Lu:Fvl Tryz.prog 39 2 2 false 1:=Fvl.of Tryz.underlying39 rfl rfl eW rfl
instance Ky:cF Tryz.prog 39 3 3:=⟨fun ad w=> by kernel_rfl⟩
instance Lk:Fvl Tryz.prog 39 3 3 false 1:=Fvl.of Tryz.underlying39 rfl rfl Cm rfl
instance Jk:cF Tryz.prog 39 4 4:=⟨fun ad w=> by kernel_rfl⟩
instance Mf:Fvl Tryz.prog 39 4 4 false 1:=Fvl.of Tryz.underlying39 rfl rfl iw rfl
instance KV:cF Tryz.prog 39 5 5:=⟨fun ad w=> by kernel_rfl⟩
instance JT:Fvl Tryz.prog 39 5 5 false 1:=Fvl.of Tryz.underlying39 rfl rfl iw rfl
instance Lt:cF Tryz.prog 47 0 0:=⟨fun ad w=> by kernel_rfl⟩
instance JU:Fvl Tryz.prog 47 0 0 false 1:=Fvl.of Tryz.underlying47 rfl rfl eW rfl
instance Kb:cF Tryz.prog 47 1 1:=⟨fun ad w=> by kernel_rfl⟩
instance Lz:Fvl Tryz.prog 47 1 1 false 1:=Fvl.of Tryz.underlying47 rfl rfl eW rfl
instance Lw:cF Tryz.prog 48 0 0:=⟨fun ad w=> by kernel_rfl⟩
instance KW:Fvl Tryz.prog 48 0 0 false 1:=Fvl.of Tryz.underlying48 rfl rfl eW rfl
instance Lp:cF Tryz.prog 48 1 1:=⟨fun ad w=> by kernel_rfl⟩
instance JA:Fvl Tryz.prog 48 1 1 false 1:=Fvl.of Tryz.underlying48 rfl rfl eW rfl
instance JN:cF Tryz.prog 57 0 0:=⟨fun ad w=> by kernel_rfl⟩
instance LL:Fvl Tryz.prog 57 0 0 false 1:=Fvl.of Tryz.underlying57 rfl rfl eW rfl
instance KS:cF Tryz.prog 57 1 1:=⟨fun ad w=> by kernel_rfl⟩
instance Mo:Fvl Tryz.prog 57 1 1 false 1:=Fvl.of Tryz.underlying57 rfl rfl eW rfl
instance KB:cF Tryz.prog 57 2 2:=⟨fun ad w=> by kernel_rfl⟩
instance KQ:Fvl Tryz.prog 57 2 2 false 1:=Fvl.of Tryz.underlying57 rfl rfl eW rfl
instance JE:cF Tryz.prog 57 3 3:=⟨fun ad w=> by kernel_rfl⟩
instance Lc:Fvl Tryz.prog 57 3 3 false 1:=Fvl.of Tryz.underlying57 rfl rfl eW rfl
instance Mw:cF Tryz.prog 57 4 4:=⟨fun ad w=> by kernel_rfl⟩
instance La:Fvl Tryz.prog 57 4 4 false 1:=Fvl.of Tryz.underlying57 rfl rfl eW rfl
instance JZ:cF Tryz.prog 64 0 0:=⟨fun ad w=> by kernel_rfl⟩
instance JK:Fvl Tryz.prog 64 0 0 false 1:=Fvl.of Tryz.underlying64 rfl rfl CK rfl
instance JX:cF Tryz.prog 64 1 1:=⟨fun ad w=> by kernel_rfl⟩
instance Ls:Fvl Tryz.prog 64 1 1 false 1:=Fvl.of Tryz.underlying64 rfl rfl CK rfl
instance My:cF Tryz.prog 64 2 2:=⟨fun ad w=> by kernel_rfl⟩
instance Ko:Fvl Tryz.prog 64 2 2 false 1:=Fvl.of Tryz.underlying64 rfl rfl Me rfl
instance JP:cF Tryz.prog 71 0 0:=⟨fun ad w=> by kernel_rfl⟩
instance Ma:Fvl Tryz.prog 71 0 0 false 1:=Fvl.of Tryz.underlying71 rfl rfl eW rfl
instance LE:cF Tryz.prog 71 1 1:=⟨fun ad w=> by kernel_rfl⟩
instance Ke:Fvl Tryz.prog 71 1 1 false 1:=Fvl.of Tryz.underlying71 rfl rfl eW rfl
instance LK:cF Tryz.prog 71 2 2:=⟨fun ad w=> by kernel_rfl⟩
instance Mi:Fvl Tryz.prog 71 2 2 false 1:=Fvl.of Tryz.underlying71 rfl rfl PX rfl
instance JG:cF Tryz.prog 71 3 3:=⟨fun ad w=> by kernel_rfl⟩
instance Jw:Fvl Tryz.prog 71 3 3 false 1:=Fvl.of Tryz.underlying71 rfl rfl Lr rfl
instance JL:cF Tryz.prog 73 0 0:=⟨fun ad w=> by kernel_rfl⟩
instance JQ:Fvl Tryz.prog 73 0 0 false 1:=Fvl.of Tryz.underlying73 rfl rfl eW rfl
instance Kz:cF Tryz.prog 73 1 1:=⟨fun ad w=> by kernel_rfl⟩
instance JR:Fvl Tryz.prog 73 1 1 true 4:=Fvl.of Tryz.underlying73 rfl rfl Jj rfl
instance MI:cF Tryz.prog 80 0 0:=⟨fun ad w=> by kernel_rfl⟩
instance LO:Fvl Tryz.prog 80 0 0 false 1:=Fvl.of Tryz.underlying80 rfl rfl iw rfl
instance Lo:cF Tryz.prog 80 1 1:=⟨fun ad w=> by kernel_rfl⟩
instance JJ:Fvl Tryz.prog 80 1 1 false 1:=Fvl.of Tryz.underlying80 rfl rfl JY rfl
instance Mu:cF Tryz.prog 83 0 0:=⟨fun ad w=> by kernel_rfl⟩
instance KY:Fvl Tryz.prog 83 0 0 false 1:=Fvl.of Tryz.underlying83 rfl rfl Cm rfl
instance MH:cF Tryz.prog 83 1 1:=⟨fun ad w=> by kernel_rfl⟩
instance LG:Fvl Tryz.prog 83 1 1 false 1:=Fvl.of Tryz.underlying83 rfl rfl eW rfl
instance Mn:cF Tryz.prog 83 2 2:=⟨fun ad w=> by kernel_rfl⟩
instance LJ:Fvl Tryz.prog 83 2 2 false 1:=Fvl.of Tryz.underlying83 rfl rfl eW rfl
instance Kn:cF Tryz.prog 83 3 3:=⟨fun ad w=> by kernel_rfl⟩
instance Kj:Fvl Tryz.prog 83 3 3 false 1:=Fvl.of Tryz.underlying83 rfl rfl eW rfl
instance Jm:cF Tryz.prog 83 4 4:=⟨fun ad w=> by kernel_rfl⟩
instance Kd:Fvl Tryz.prog 83 4 4 true 2:=Fvl.of Tryz.underlying83 rfl rfl KM rfl
instance Js:cF Tryz.prog 83 5 6:=⟨fun ad w=> by kernel_rfl⟩
instance MG:Fvl Tryz.prog 83 5 6 false 1:=Fvl.of Tryz.underlying83 rfl rfl iw rfl
instance Lx:cF Tryz.prog 83 6 7:=⟨fun ad w=> by kernel_rfl⟩
instance Ji:Fvl Tryz.prog 83 6 7 false 1:=Fvl.of Tryz.underlying83 rfl rfl iw rfl
instance Mx:cF Tryz.prog 83 7 8:=⟨fun ad w=> by kernel_rfl⟩
instance KH:Fvl Tryz.prog 83 7 8 true 41:=Fvl.of Tryz.underlying83 rfl rfl Lq rfl
instance LT:cF Tryz.prog 83 8 49:=⟨fun ad w=> by kernel_rfl⟩
instance LM:Fvl Tryz.prog 83 8 49 false 1:=Fvl.of Tryz.underlying83 rfl rfl eW rfl
instance Md:cF Tryz.prog 83 9 50:=⟨fun ad w=> by kernel_rfl⟩
instance KZ:Fvl Tryz.prog 83 9 50 false 1:=Fvl.of Tryz.underlying83 rfl rfl eW rfl
instance Gs:cF Tryz.prog 83 10 51:=⟨fun ad w=> by kernel_rfl⟩
instance Hs:Fvl Tryz.prog 83 10 51 false 1:=Fvl.of Tryz.underlying83 rfl rfl eW rfl
instance Mh:cF Tryz.prog 87 0 0:=⟨fun ad w=> by kernel_rfl⟩
instance MD:Fvl Tryz.prog 87 0 0 false 1:=Fvl.of Tryz.underlying87 rfl rfl eW rfl
instance Kt:cF Tryz.prog 87 1 1:=⟨fun ad w=> by kernel_rfl⟩
instance Jr:Fvl Tryz.prog 87 1 1 false 1:=Fvl.of Tryz.underlying87 rfl rfl eW rfl
instance Mc:cF Tryz.prog 87 2 2:=⟨fun ad w=> by kernel_rfl⟩
instance LD:Fvl Tryz.prog 87 2 2 true 9:=Fvl.of Tryz.underlying87 rfl rfl Fu rfl
instance Jt:cF Tryz.prog 87 3 11:=⟨fun ad w=> by kernel_rfl⟩
instance KC:Fvl Tryz.prog 87 3 11 false 1:=Fvl.of Tryz.underlying87 rfl rfl eW rfl
instance Mp:cF Tryz.prog 87 4 12:=⟨fun ad w=> by kernel_rfl⟩
instance Jy:Fvl Tryz.prog 87 4 12 false 1:=Fvl.of Tryz.underlying87 rfl rfl eW rfl
instance Lb:cF Tryz.prog 87 5 13:=⟨fun ad w=> by kernel_rfl⟩
instance KF:Fvl Tryz.prog 87 5 13 false 1:=Fvl.of Tryz.underlying87 rfl rfl iw rfl
instance JH:cF Tryz.prog 87 6 14:=⟨fun ad w=> by kernel_rfl⟩
instance Mt:Fvl Tryz.prog 87 6 14 false 1:=Fvl.of Tryz.underlying87 rfl rfl iw rfl
instance Jp:cF Tryz.prog 91 0 0:=⟨fun ad w=> by kernel_rfl⟩
instance KP:Fvl Tryz.prog 91 0 0 false 1:=Fvl.of Tryz.underlying91 rfl rfl eW rfl
instance Mr:cF Tryz.prog 91 1 1:=⟨fun ad w=> by kernel_rfl⟩
instance Jx:Fvl Tryz.prog 91 1 1 false 1:=Fvl.of Tryz.underlying91 rfl rfl eW rfl
instance JC:cF Tryz.prog 91 2 2:=⟨fun ad w=> by kernel_rfl⟩
instance Mb:Fvl Tryz.prog 91 2 2 false 1:=Fvl.of Tryz.underlying91 rfl rfl eW rfl
instance JM:cF Tryz.prog 96 0 0:=⟨fun ad w=> by kernel_rfl⟩
instance LN:Fvl Tryz.prog 96 0 0 true 3:=Fvl.of Tryz.underlying96 rfl rfl sD rfl
instance ME:cF Tryz.prog 96 1 3:=⟨fun ad w=> by kernel_rfl⟩
instance LV:Fvl Tryz.prog 96 1 3 false 1:=Fvl.of Tryz.underlying96 rfl rfl LZ rfl
instance Kf:cF Tryz.prog 96 2 4:=⟨fun ad w=> by kernel_rfl⟩
instance Kk:Fvl Tryz.prog 96 2 4 false 1:=Fvl.of Tryz.underlying96 rfl rfl Cm rfl
instance Kp:cF Tryz.prog 96 3 5:=⟨fun ad w=> by kernel_rfl⟩
instance Li:Fvl Tryz.prog 96 3 5 false 1:=Fvl.of Tryz.underlying96 rfl rfl eW rfl
instance KJ:cF Tryz.prog 96 4 6:=⟨fun ad w=> by kernel_rfl⟩
instance Kl:Fvl Tryz.prog 96 4 6 false 1:=Fvl.of Tryz.underlying96 rfl rfl iw rfl
instance Mz:cF Tryz.prog 96 5 7:=⟨fun ad w=> by kernel_rfl⟩
instance Ks:Fvl Tryz.prog 96 5 7 true 5:=Fvl.of Tryz.underlying96 rfl rfl FD rfl
instance Hi:cF Tryz.prog 102 0 0:=⟨fun ad w=> by kernel_rfl⟩
instance Hy:Fvl Tryz.prog 102 0 0 true 3:=Fvl.of Tryz.underlying102 rfl rfl sD rfl
instance Ii:cF Tryz.prog 102 1 3:=⟨fun ad w=> by kernel_rfl⟩
instance Is:Fvl Tryz.prog 102 1 3 false 1:=Fvl.of Tryz.underlying102 rfl rfl Ch rfl
instance IU:cF Tryz.prog 102 2 4:=⟨fun ad w=> by kernel_rfl⟩
instance Iz:Fvl Tryz.prog 102 2 4 false 1:=Fvl.of Tryz.underlying102 rfl rfl FZ rfl
instance GQ:cF Tryz.prog 103 0 0:=⟨fun ad w=> by kernel_rfl⟩
instance Iu:Fvl Tryz.prog 103 0 0 true 3:=Fvl.of Tryz.underlying103 rfl rfl sD rfl
instance Hf:cF Tryz.prog 103 1 3:=⟨fun ad w=> by kernel_rfl⟩
instance HN:Fvl Tryz.prog 103 1 3 false 1:=Fvl.of Tryz.underlying103 rfl rfl Ch rfl
instance Hn:cF Tryz.prog 103 2 4:=⟨fun ad w=> by kernel_rfl⟩
instance GM:Fvl Tryz.prog 103 2 4 false 1:=Fvl.of Tryz.underlying103 rfl rfl FZ rfl
instance Gd:cF Tryz.prog 108 0 0:=⟨fun ad w=> by kernel_rfl⟩
instance HK:Fvl Tryz.prog 108 0 0 true 3:=Fvl.of Tryz.underlying108 rfl rfl sD rfl
instance Ha:cF Tryz.prog 108 1 3:=⟨fun ad w=> by kernel_rfl⟩
instance GH:Fvl Tryz.prog 108 1 3 false 1:=Fvl.of Tryz.underlying108 rfl rfl eW rfl
instance GU:cF Tryz.prog 108 2 4:=⟨fun ad w=> by kernel_rfl⟩
instance It:Fvl Tryz.prog 108 2 4 false 1:=Fvl.of Tryz.underlying108 rfl rfl eW rfl
instance HD:cF Tryz.prog 109 0 0:=⟨fun ad w=> by kernel_rfl⟩
instance IE:Fvl Tryz.prog 109 0 0 true 3:=Fvl.of Tryz.underlying109 rfl rfl sD rfl
instance IZ:cF Tryz.prog 109 1 3:=⟨fun ad w=> by kernel_rfl⟩
instance Gf:Fvl Tryz.prog 109 1 3 false 1:=Fvl.of Tryz.underlying109 rfl rfl eW rfl
instance Gp:cF Tryz.prog 109 2 4:=⟨fun ad w=> by kernel_rfl⟩
instance Ip:Fvl Tryz.prog 109 2 4 false 1:=Fvl.of Tryz.underlying109 rfl rfl eW rfl
instance HS:cF Tryz.prog 110 0 0:=⟨fun ad w=> by kernel_rfl⟩
instance Hv:Fvl Tryz.prog 110 0 0 true 5:=Fvl.of Tryz.underlying110 rfl rfl yb rfl
instance Ib:cF Tryz.prog 110 1 5:=⟨fun ad w=> by kernel_rfl⟩
instance IF:Fvl Tryz.prog 110 1 5 false 1:=Fvl.of Tryz.underlying110 rfl rfl eW rfl
instance GC:cF Tryz.prog 110 2 6:=⟨fun ad w=> by kernel_rfl⟩
instance Ht:Fvl Tryz.prog 110 2 6 false 1:=Fvl.of Tryz.underlying110 rfl rfl eW rfl
instance Gh:cF Tryz.prog 111 0 0:=⟨fun ad w=> by kernel_rfl⟩
instance Ja:Fvl Tryz.prog 111 0 0 true 5:=Fvl.of Tryz.underlying111 rfl rfl yb rfl
instance HR:cF Tryz.prog 111 1 5:=⟨fun ad w=> by kernel_rfl⟩
instance Ga:Fvl Tryz.prog 111 1 5 false 1:=Fvl.of Tryz.underlying111 rfl rfl eW rfl
instance Gx:cF Tryz.prog 111 2 6:=⟨fun ad w=> by kernel_rfl⟩
instance II:Fvl Tryz.prog 111 2 6 false 1:=Fvl.of Tryz.underlying111 rfl rfl eW rfl
instance Im:cF Tryz.prog 114 0 0:=⟨fun ad w=> by kernel_rfl⟩
instance HX:Fvl Tryz.prog 114 0 0 true 3:=Fvl.of Tryz.underlying114 rfl rfl sD rfl
instance HY:cF Tryz.prog 114 1 3:=⟨fun ad w=> by kernel_rfl⟩
instance HW:Fvl Tryz.prog 114 1 3 false 1:=Fvl.of Tryz.underlying114 rfl rfl eW rfl
instance IX:cF Tryz.prog 114 2 4:=⟨fun ad w=> by kernel_rfl⟩
instance Gq:Fvl Tryz.prog 114 2 4 false 1:=Fvl.of Tryz.underlying114 rfl rfl eW rfl
instance Gu:cF Tryz.prog 115 0 0:=⟨fun ad w=> by kernel_rfl⟩
instance Ho:Fvl Tryz.prog 115 0 0 true 3:=Fvl.of Tryz.underlying115 rfl rfl sD rfl
instance HH:cF Tryz.prog 115 1 3:=⟨fun ad w=> by kernel_rfl⟩
instance IM:Fvl Tryz.prog 115 1 3 false 1:=Fvl.of Tryz.underlying115 rfl rfl eW rfl
instance HT:cF Tryz.prog 115 2 4:=⟨fun ad w=> by kernel_rfl⟩
instance GT:Fvl Tryz.prog 115 2 4 false 1:=Fvl.of Tryz.underlying115 rfl rfl eW rfl
instance IR:cF Tryz.prog 116 0 0:=⟨fun ad w=> by kernel_rfl⟩
instance Ix:Fvl Tryz.prog 116 0 0 true 5:=Fvl.of Tryz.underlying116 rfl rfl BR rfl
instance GR:cF Tryz.prog 116 1 5:=⟨fun ad w=> by kernel_rfl⟩
instance HJ:Fvl Tryz.prog 116 1 5 false 1:=Fvl.of Tryz.underlying116 rfl rfl eW rfl
instance HG:cF Tryz.prog 116 2 6:=⟨fun ad w=> by kernel_rfl⟩
instance Gt:Fvl Tryz.prog 116 2 6 false 1:=Fvl.of Tryz.underlying116 rfl rfl eW rfl
instance IY:cF Tryz.prog 116 3 7:=⟨fun ad w=> by kernel_rfl⟩
instance Io:Fvl Tryz.prog 116 3 7 false 1:=Fvl.of Tryz.underlying116 rfl rfl eW rfl
instance Jh:cF Tryz.prog 116 4 8:=⟨fun ad w=> by kernel_rfl⟩
instance He:Fvl Tryz.prog 116 4 8 false 1:=Fvl.of Tryz.underlying116 rfl rfl eW rfl
instance Gg:cF Tryz.prog 117 0 0:=⟨fun ad w=> by kernel_rfl⟩
instance IC:Fvl Tryz.prog 117 0 0 true 5:=Fvl.of Tryz.underlying117 rfl rfl BR rfl
instance Gb:cF Tryz.prog 117 1 5:=⟨fun ad w=> by kernel_rfl⟩
instance Gy:Fvl Tryz.prog 117 1 5 false 1:=Fvl.of Tryz.underlying117 rfl rfl eW rfl
instance Iy:cF Tryz.prog 117 2 6:=⟨fun ad w=> by kernel_rfl⟩
instance GS:Fvl Tryz.prog 117 2 6 false 1:=Fvl.of Tryz.underlying117 rfl rfl eW rfl
instance IN:cF Tryz.prog 117 3 7:=⟨fun ad w=> by kernel_rfl⟩
instance IP:Fvl Tryz.prog 117 3 7 false 1:=Fvl.of Tryz.underlying117 rfl rfl eW rfl
instance IW:cF Tryz.prog 117 4 8:=⟨fun ad w=> by kernel_rfl⟩
instance In:Fvl Tryz.prog 117 4 8 false 1:=Fvl.of Tryz.underlying117 rfl rfl eW rfl
instance IT:cF Tryz.prog 125 0 0:=⟨fun ad w=> by kernel_rfl⟩
instance Hc:Fvl Tryz.prog 125 0 0 false 1:=Fvl.of Tryz.underlying125 rfl rfl eW rfl
instance IL:cF Tryz.prog 125 1 1:=⟨fun ad w=> by kernel_rfl⟩
instance IH:Fvl Tryz.prog 125 1 1 false 1:=Fvl.of Tryz.underlying125 rfl rfl eW rfl
instance Gk:cF Tryz.prog 126 0 0:=⟨fun ad w=> by kernel_rfl⟩
instance GW:Fvl Tryz.prog 126 0 0 false 1:=Fvl.of Tryz.underlying126 rfl rfl eW rfl
instance Hh:cF Tryz.prog 126 1 1:=⟨fun ad w=> by kernel_rfl⟩
instance Hw:Fvl Tryz.prog 126 1 1 false 1:=Fvl.of Tryz.underlying126 rfl rfl eW rfl
instance Il:cF Tryz.prog 129 0 0:=⟨fun ad w=> by kernel_rfl⟩
instance IA:Fvl Tryz.prog 129 0 0 false 1:=Fvl.of Tryz.underlying129 rfl rfl iw rfl
instance IB:cF Tryz.prog 129 1 1:=⟨fun ad w=> by kernel_rfl⟩
instance GE:Fvl Tryz.prog 129 1 1 false 1:=Fvl.of Tryz.underlying129 rfl rfl iw rfl
instance GK:cF Tryz.prog 129 2 2:=⟨fun ad w=> by kernel_rfl⟩
instance Hu:Fvl Tryz.prog 129 2 2 false 1:=Fvl.of Tryz.underlying129 rfl rfl Cm rfl
instance Jg:cF Tryz.prog 132 0 0:=⟨fun ad w=> by kernel_rfl⟩
instance GA:Fvl Tryz.prog 132 0 0 false 1:=Fvl.of Tryz.underlying132 rfl rfl iw rfl
instance HU:cF Tryz.prog 132 1 1:=⟨fun ad w=> by kernel_rfl⟩
instance Ir:Fvl Tryz.prog 132 1 1 true 9:=Fvl.of Tryz.underlying132 rfl rfl Fu rfl
instance IK:cF Tryz.prog 139 0 0:=⟨fun ad w=> by kernel_rfl⟩
instance GI:Fvl Tryz.prog 139 0 0 false 1:=Fvl.of Tryz.underlying139 rfl rfl iw rfl
instance Gr:cF Tryz.prog 139 1 1:=⟨fun ad w=> by kernel_rfl⟩
instance Ge:Fvl Tryz.prog 139 1 1 false 1:=Fvl.of Tryz.underlying139 rfl rfl eW rfl
instance Gv:cF Tryz.prog 143 0 0:=⟨fun ad w=> by kernel_rfl⟩
instance Hp:Fvl Tryz.prog 143 0 0 true 3:=Fvl.of Tryz.underlying143 rfl rfl Jq rfl
instance Gc:cF Tryz.prog 143 1 3:=⟨fun ad w=> by kernel_rfl⟩
instance Hz:Fvl Tryz.prog 143 1 3 false 1:=Fvl.of Tryz.underlying143 rfl rfl FF rfl
instance Ij:cF Tryz.prog 171 0 0:=⟨fun ad w=> by kernel_rfl⟩
instance Hj:Fvl Tryz.prog 171 0 0 true 43:=Fvl.of Tryz.underlying171 rfl rfl Ly rfl
instance GF:cF Tryz.prog 171 1 43:=⟨fun ad w=> by kernel_rfl⟩
instance HZ:Fvl Tryz.prog 171 1 43 true 10:=Fvl.of Tryz.underlying171 rfl rfl EH rfl
instance GP:cF Tryz.prog 171 2 53:=⟨fun ad w=> by kernel_rfl⟩
instance Ie:Fvl Tryz.prog 171 2 53 false 1:=Fvl.of Tryz.underlying171 rfl rfl Lm rfl
instance HP:cF Tryz.prog 171 3 54:=⟨fun ad w=> by kernel_rfl⟩
instance HC:Fvl Tryz.prog 171 3 54 true 5:=Fvl.of Tryz.underlying171 rfl rfl FD rfl
instance Gw:cF Tryz.prog 171 4 59:=⟨fun ad w=> by kernel_rfl⟩
instance GD:Fvl Tryz.prog 171 4 59 false 1:=Fvl.of Tryz.underlying171 rfl rfl iw rfl
instance HQ:cF Tryz.prog 171 5 60:=⟨fun ad w=> by kernel_rfl⟩
instance Hl:Fvl Tryz.prog 171 5 60 false 1:=Fvl.of Tryz.underlying171 rfl rfl eW rfl
instance HF:cF Tryz.prog 171 6 61:=⟨fun ad w=> by kernel_rfl⟩
instance GY:Fvl Tryz.prog 171 6 61 false 1:=Fvl.of Tryz.underlying171 rfl rfl eW rfl
instance Id:cF Tryz.prog 171 7 62:=⟨fun ad w=> by kernel_rfl⟩
instance Ik:Fvl Tryz.prog 171 7 62 false 1:=Fvl.of Tryz.underlying171 rfl rfl eW rfl
instance Jc:cF Tryz.prog 171 8 63:=⟨fun ad w=> by kernel_rfl⟩
instance IJ:Fvl Tryz.prog 171 8 63 false 1:=Fvl.of Tryz.underlying171 rfl rfl Cm rfl
instance GZ:cF Tryz.prog 192 0 0:=⟨fun ad w=> by kernel_rfl⟩
instance Iq:Fvl Tryz.prog 192 0 0 false 1:=Fvl.of Tryz.underlying192 rfl rfl eW rfl
instance Hk:cF Tryz.prog 192 1 1:=⟨fun ad w=> by kernel_rfl⟩
instance Gz:Fvl Tryz.prog 192 1 1 false 1:=Fvl.of Tryz.underlying192 rfl rfl eW rfl
instance HM:cF Tryz.prog 192 2 2:=⟨fun ad w=> by kernel_rfl⟩
instance Hm:Fvl Tryz.prog 192 2 2 false 1:=Fvl.of Tryz.underlying192 rfl rfl eW rfl
instance Hr:cF Tryz.prog 192 3 3:=⟨fun ad w=> by kernel_rfl⟩
instance IG:Fvl Tryz.prog 192 3 3 false 1:=Fvl.of Tryz.underlying192 rfl rfl eW rfl
instance HA:cF Tryz.prog 196 0 0:=⟨fun ad w=> by kernel_rfl⟩
instance Gm:Fvl Tryz.prog 196 0 0 true 5:=Fvl.of Tryz.underlying196 rfl rfl yb rfl
instance HB:cF Tryz.prog 196 1 5:=⟨fun ad w=> by kernel_rfl⟩
instance HE:Fvl Tryz.prog 196 1 5 false 1:=Fvl.of Tryz.underlying196 rfl rfl eW rfl
instance Gi:cF Tryz.prog 222 0 0:=⟨fun ad w=> by kernel_rfl⟩
instance Ig:Fvl Tryz.prog 222 0 0 false 1:=Fvl.of Tryz.underlying222 rfl rfl Ez rfl
instance Ih:cF Tryz.prog 222 1 1:=⟨fun ad w=> by kernel_rfl⟩
instance GG:Fvl Tryz.prog 222 1 1 false 1:=Fvl.of Tryz.underlying222 rfl rfl eW rfl
instance Ic:cF Tryz.prog 222 2 2:=⟨fun ad w=> by kernel_rfl⟩
instance Iv:Fvl Tryz.prog 222 2 2 false 1:=Fvl.of Tryz.underlying222 rfl rfl eW rfl
instance Hg:cF Tryz.prog 222 3 3:=⟨fun ad w=> by kernel_rfl⟩
instance If:Fvl Tryz.prog 222 3 3 false 1:=Fvl.of Tryz.underlying222 rfl rfl KU rfl
instance IS:cF Tryz.prog 222 4 4:=⟨fun ad w=> by kernel_rfl⟩
instance HI:Fvl Tryz.prog 222 4 4 false 1:=Fvl.of Tryz.underlying222 rfl rfl CK rfl
instance GJ:cF Tryz.prog 225 0 0:=⟨fun ad w=> by kernel_rfl⟩
instance Jf:Fvl Tryz.prog 225 0 0 false 1:=Fvl.of Tryz.underlying225 rfl rfl eW rfl
instance HL:cF Tryz.prog 225 1 1:=⟨fun ad w=> by kernel_rfl⟩
instance Hq:Fvl Tryz.prog 225 1 1 false 1:=Fvl.of Tryz.underlying225 rfl rfl eW rfl
instance Gj:cF Tryz.prog 225 2 2:=⟨fun ad w=> by kernel_rfl⟩
instance GX:Fvl Tryz.prog 225 2 2 false 1:=Fvl.of Tryz.underlying225 rfl rfl PX rfl
instance Ia:cF Tryz.prog 225 3 3:=⟨fun ad w=> by kernel_rfl⟩
instance Jd:Fvl Tryz.prog 225 3 3 false 1:=Fvl.of Tryz.underlying225 rfl rfl eW rfl
instance TM:ca Tryz.prog 3:=⟨fun args w=> by kernel_rfl⟩
instance TK:ca Tryz.prog 9:=⟨fun args w=> by kernel_rfl⟩
instance TC:ca Tryz.prog 20:=⟨fun args w=> by kernel_rfl⟩
instance TE:ca Tryz.prog 21:=⟨fun args w=> by kernel_rfl⟩
instance Tj:ca Tryz.prog 22:=⟨fun args w=> by kernel_rfl⟩
instance RL:ca Tryz.prog 23:=⟨fun args w=> by kernel_rfl⟩
instance SG:ca Tryz.prog 24:=⟨fun args w=> by kernel_rfl⟩
instance RR:ca Tryz.prog 25:=⟨fun args w=> by kernel_rfl⟩
instance TI:ca Tryz.prog 26:=⟨fun args w=> by kernel_rfl⟩
instance Te:ca Tryz.prog 27:=⟨fun args w=> by kernel_rfl⟩
instance RM:ca Tryz.prog 29:=⟨fun args w=> by kernel_rfl⟩
instance RE:ca Tryz.prog 30:=⟨fun args w=> by kernel_rfl⟩
instance Rr:ca Tryz.prog 31:=⟨fun args w=> by kernel_rfl⟩
instance SA:ca Tryz.prog 32:=⟨fun args w=> by kernel_rfl⟩
instance Ss:ca Tryz.prog 33:=⟨fun args w=> by kernel_rfl⟩
instance Tt:ca Tryz.prog 34:=⟨fun args w=> by kernel_rfl⟩
instance Tv:ca Tryz.prog 35:=⟨fun args w=> by kernel_rfl⟩
instance RN:ca Tryz.prog 36:=⟨fun args w=> by kernel_rfl⟩
instance RX:ca Tryz.prog 38:=⟨fun args w=> by kernel_rfl⟩
instance RT:ca Tryz.prog 39:=⟨fun args w=> by kernel_rfl⟩
instance Rk:ca Tryz.prog 44:=⟨fun args w=> by kernel_rfl⟩
instance Rz:ca Tryz.prog 47:=⟨fun args w=> by kernel_rfl⟩
instance SV:ca Tryz.prog 48:=⟨fun args w=> by kernel_rfl⟩
instance Ro:ca Tryz.prog 56:=⟨fun args w=> by kernel_rfl⟩
instance RB:ca Tryz.prog 57:=⟨fun args w=> by kernel_rfl⟩
instance Rh:ca Tryz.prog 58:=⟨fun args w=> by kernel_rfl⟩
instance SI:ca Tryz.prog 59:=⟨fun args w=> by kernel_rfl⟩
instance QZ:ca Tryz.prog 60:=⟨fun args w=> by kernel_rfl⟩
instance SZ:ca Tryz.prog 61:=⟨fun args w=> by kernel_rfl⟩
instance Sa:ca Tryz.prog 62:=⟨fun args w=> by kernel_rfl⟩
instance Rc:ca Tryz.prog 63:=⟨fun args w=> by kernel_rfl⟩
instance RZ:ca Tryz.prog 64:=⟨fun args w=> by kernel_rfl⟩
instance Re:ca Tryz.prog 66:=⟨fun args w=> by kernel_rfl⟩
instance Sb:ca Tryz.prog 67:=⟨fun args w=> by kernel_rfl⟩
instance TB:ca Tryz.prog 68:=⟨fun args w=> by kernel_rfl⟩
instance Tn:ca Tryz.prog 69:=⟨fun args w=> by kernel_rfl⟩
instance TJ:ca Tryz.prog 70:=⟨fun args w=> by kernel_rfl⟩
instance Rl:ca Tryz.prog 71:=⟨fun args w=> by kernel_rfl⟩
instance SK:ca Tryz.prog 72:=⟨fun args w=> by kernel_rfl⟩
instance Sx:ca Tryz.prog 73:=⟨fun args w=> by kernel_rfl⟩
instance Th:ca Tryz.prog 74:=⟨fun args w=> by kernel_rfl⟩
instance Tq:ca Tryz.prog 75:=⟨fun args w=> by kernel_rfl⟩
instance Sq:ca Tryz.prog 77:=⟨fun args w=> by kernel_rfl⟩
instance Rb:ca Tryz.prog 78:=⟨fun args w=> by kernel_rfl⟩
instance Sp:ca Tryz.prog 79:=⟨fun args w=> by kernel_rfl⟩
instance RW:ca Tryz.prog 80:=⟨fun args w=> by kernel_rfl⟩
instance SO:ca Tryz.prog 81:=⟨fun args w=> by kernel_rfl⟩
instance Ts:ca Tryz.prog 82:=⟨fun args w=> by kernel_rfl⟩
instance Ra:ca Tryz.prog 83:=⟨fun args w=> by kernel_rfl⟩
instance RV:ca Tryz.prog 86:=⟨fun args w=> by kernel_rfl⟩
instance RG:ca Tryz.prog 87:=⟨fun args w=> by kernel_rfl⟩
instance RU:ca Tryz.prog 88:=⟨fun args w=> by kernel_rfl⟩
instance Tr:ca Tryz.prog 89:=⟨fun args w=> by kernel_rfl⟩
instance Tb:ca Tryz.prog 90:=⟨fun args w=> by kernel_rfl⟩
instance TD:ca Tryz.prog 91:=⟨fun args w=> by kernel_rfl⟩
instance Tu:ca Tryz.prog 92:=⟨fun args w=> by kernel_rfl⟩
instance Rp:ca Tryz.prog 93:=⟨fun args w=> by kernel_rfl⟩
instance Rm:ca Tryz.prog 94:=⟨fun args w=> by kernel_rfl⟩
instance Sh:ca Tryz.prog 95:=⟨fun args w=> by kernel_rfl⟩
instance Ry:ca Tryz.prog 96:=⟨fun args w=> by kernel_rfl⟩
instance Sr:ca Tryz.prog 97:=⟨fun args w=> by kernel_rfl⟩
instance Tw:ca Tryz.prog 98:=⟨fun args w=> by kernel_rfl⟩
instance Qe:ca Tryz.prog 102:=⟨fun args w=> by kernel_rfl⟩
instance OL:ca Tryz.prog 103:=⟨fun args w=> by kernel_rfl⟩
instance MM:ca Tryz.prog 105:=⟨fun args w=> by kernel_rfl⟩
instance Qk:ca Tryz.prog 106:=⟨fun args w=> by kernel_rfl⟩
instance MY:ca Tryz.prog 107:=⟨fun args w=> by kernel_rfl⟩
instance QA:ca Tryz.prog 108:=⟨fun args w=> by kernel_rfl⟩
instance OU:ca Tryz.prog 109:=⟨fun args w=> by kernel_rfl⟩
instance OZ:ca Tryz.prog 110:=⟨fun args w=> by kernel_rfl⟩
instance PT:ca Tryz.prog 111:=⟨fun args w=> by kernel_rfl⟩
instance MT:ca Tryz.prog 112:=⟨fun args w=> by kernel_rfl⟩
instance PY:ca Tryz.prog 113:=⟨fun args w=> by kernel_rfl⟩
instance MZ:ca Tryz.prog 114:=⟨fun args w=> by kernel_rfl⟩
instance Om:ca Tryz.prog 115:=⟨fun args w=> by kernel_rfl⟩
instance Ou:ca Tryz.prog 116:=⟨fun args w=> by kernel_rfl⟩
instance OG:ca Tryz.prog 117:=⟨fun args w=> by kernel_rfl⟩
instance Pr:ca Tryz.prog 118:=⟨fun args w=> by kernel_rfl⟩
instance Nx:ca Tryz.prog 119:=⟨fun args w=> by kernel_rfl⟩
instance Qd:ca Tryz.prog 120:=⟨fun args w=> by kernel_rfl⟩
instance PJ:ca Tryz.prog 121:=⟨fun args w=> by kernel_rfl⟩
instance Ow:ca Tryz.prog 122:=⟨fun args w=> by kernel_rfl⟩
instance Pq:ca Tryz.prog 123:=⟨fun args w=> by kernel_rfl⟩
instance Nw:ca Tryz.prog 124:=⟨fun args w=> by kernel_rfl⟩
instance QB:ca Tryz.prog 125:=⟨fun args w=> by kernel_rfl⟩
instance ON:ca Tryz.prog 126:=⟨fun args w=> by kernel_rfl⟩
instance Nn:ca Tryz.prog 127:=⟨fun args w=> by kernel_rfl⟩
instance PF:ca Tryz.prog 128:=⟨fun args w=> by kernel_rfl⟩
instance QH:ca Tryz.prog 129:=⟨fun args w=> by kernel_rfl⟩
instance Pl:ca Tryz.prog 130:=⟨fun args w=> by kernel_rfl⟩
instance Px:ca Tryz.prog 131:=⟨fun args w=> by kernel_rfl⟩
instance OJ:ca Tryz.prog 132:=⟨fun args w=> by kernel_rfl⟩
instance Qv:ca Tryz.prog 133:=⟨fun args w=> by kernel_rfl⟩
instance OC:ca Tryz.prog 134:=⟨fun args w=> by kernel_rfl⟩
instance Qx:ca Tryz.prog 135:=⟨fun args w=> by kernel_rfl⟩
instance MO:ca Tryz.prog 136:=⟨fun args w=> by kernel_rfl⟩
instance NU:ca Tryz.prog 137:=⟨fun args w=> by kernel_rfl⟩
instance PP:ca Tryz.prog 138:=⟨fun args w=> by kernel_rfl⟩
instance Pj:ca Tryz.prog 139:=⟨fun args w=> by kernel_rfl⟩
instance MP:ca Tryz.prog 140:=⟨fun args w=> by kernel_rfl⟩
instance MV:ca Tryz.prog 141:=⟨fun args w=> by kernel_rfl⟩
instance NO:ca Tryz.prog 142:=⟨fun args w=> by kernel_rfl⟩
instance Qm:ca Tryz.prog 143:=⟨fun args w=> by kernel_rfl⟩
instance Nl:ca Tryz.prog 144:=⟨fun args w=> by kernel_rfl⟩
instance QP:ca Tryz.prog 145:=⟨fun args w=> by kernel_rfl⟩
instance PH:ca Tryz.prog 146:=⟨fun args w=> by kernel_rfl⟩
instance PW:ca Tryz.prog 147:=⟨fun args w=> by kernel_rfl⟩
instance Ob:ca Tryz.prog 148:=⟨fun args w=> by kernel_rfl⟩
instance On:ca Tryz.prog 149:=⟨fun args w=> by kernel_rfl⟩
instance Oa:ca Tryz.prog 150:=⟨fun args w=> by kernel_rfl⟩
instance QF:ca Tryz.prog 151:=⟨fun args w=> by kernel_rfl⟩
instance OV:ca Tryz.prog 152:=⟨fun args w=> by kernel_rfl⟩
instance Nv:ca Tryz.prog 153:=⟨fun args w=> by kernel_rfl⟩
instance NL:ca Tryz.prog 154:=⟨fun args w=> by kernel_rfl⟩
instance QC:ca Tryz.prog 155:=⟨fun args w=> by kernel_rfl⟩
instance OE:ca Tryz.prog 156:=⟨fun args w=> by kernel_rfl⟩
instance MQ:ca Tryz.prog 157:=⟨fun args w=> by kernel_rfl⟩
instance OK:ca Tryz.prog 158:=⟨fun args w=> by kernel_rfl⟩
instance Qa:ca Tryz.prog 159:=⟨fun args w=> by kernel_rfl⟩
instance PB:ca Tryz.prog 160:=⟨fun args w=> by kernel_rfl⟩
instance MK:ca Tryz.prog 161:=⟨fun args w=> by kernel_rfl⟩
instance Qs:ca Tryz.prog 162:=⟨fun args w=> by kernel_rfl⟩
instance Pt:ca Tryz.prog 163:=⟨fun args w=> by kernel_rfl⟩
instance Nq:ca Tryz.prog 164:=⟨fun args w=> by kernel_rfl⟩
instance OS:ca Tryz.prog 165:=⟨fun args w=> by kernel_rfl⟩
instance PA:ca Tryz.prog 166:=⟨fun args w=> by kernel_rfl⟩
instance Oi:ca Tryz.prog 167:=⟨fun args w=> by kernel_rfl⟩
instance NM:ca Tryz.prog 168:=⟨fun args w=> by kernel_rfl⟩
instance Nr:ca Tryz.prog 169:=⟨fun args w=> by kernel_rfl⟩
instance MR:ca Tryz.prog 170:=⟨fun args w=> by kernel_rfl⟩
instance Oj:ca Tryz.prog 171:=⟨fun args w=> by kernel_rfl⟩
instance MU:ca Tryz.prog 173:=⟨fun args w=> by kernel_rfl⟩
instance NP:ca Tryz.prog 176:=⟨fun args w=> by kernel_rfl⟩
instance QT:ca Tryz.prog 177:=⟨fun args w=> by kernel_rfl⟩
instance ND:ca Tryz.prog 183:=⟨fun args w=> by kernel_rfl⟩
instance NB:ca Tryz.prog 184:=⟨fun args w=> by kernel_rfl⟩
instance PL:ca Tryz.prog 185:=⟨fun args w=> by kernel_rfl⟩
instance Qt:ca Tryz.prog 186:=⟨fun args w=> by kernel_rfl⟩
instance Qz:ca Tryz.prog 187:=⟨fun args w=> by kernel_rfl⟩
instance Nc:ca Tryz.prog 188:=⟨fun args w=> by kernel_rfl⟩
instance OX:ca Tryz.prog 189:=⟨fun args w=> by kernel_rfl⟩
instance PC:ca Tryz.prog 190:=⟨fun args w=> by kernel_rfl⟩
instance OW:ca Tryz.prog 191:=⟨fun args w=> by kernel_rfl⟩
instance OT:ca Tryz.prog 192:=⟨fun args w=> by kernel_rfl⟩
instance Pi:ca Tryz.prog 194:=⟨fun args w=> by kernel_rfl⟩
instance NK:ca Tryz.prog 195:=⟨fun args w=> by kernel_rfl⟩
instance NN:ca Tryz.prog 196:=⟨fun args w=> by kernel_rfl⟩
instance Oh:ca Tryz.prog 197:=⟨fun args w=> by kernel_rfl⟩
instance NH:ca Tryz.prog 198:=⟨fun args w=> by kernel_rfl⟩
instance Qc:ca Tryz.prog 199:=⟨fun args w=> by kernel_rfl⟩
instance PM:ca Tryz.prog 200:=⟨fun args w=> by kernel_rfl⟩
instance Nz:ca Tryz.prog 201:=⟨fun args w=> by kernel_rfl⟩
instance QD:ca Tryz.prog 202:=⟨fun args w=> by kernel_rfl⟩
instance Oq:ca Tryz.prog 203:=⟨fun args w=> by kernel_rfl⟩
instance Qb:ca Tryz.prog 204:=⟨fun args w=> by kernel_rfl⟩
instance OA:ca Tryz.prog 205:=⟨fun args w=> by kernel_rfl⟩
instance PU:ca Tryz.prog 207:=⟨fun args w=> by kernel_rfl⟩
instance Ql:ca Tryz.prog 211:=⟨fun args w=> by kernel_rfl⟩
instance Of:ca Tryz.prog 212:=⟨fun args w=> by kernel_rfl⟩
instance Pp:ca Tryz.prog 213:=⟨fun args w=> by kernel_rfl⟩
instance Ot:ca Tryz.prog 214:=⟨fun args w=> by kernel_rfl⟩
instance Nh:ca Tryz.prog 215:=⟨fun args w=> by kernel_rfl⟩
instance Ox:ca Tryz.prog 216:=⟨fun args w=> by kernel_rfl⟩
instance Nt:ca Tryz.prog 217:=⟨fun args w=> by kernel_rfl⟩
instance QY:ca Tryz.prog 218:=⟨fun args w=> by kernel_rfl⟩
instance Py:ca Tryz.prog 221:=⟨fun args w=> by kernel_rfl⟩
instance Ps:ca Tryz.prog 222:=⟨fun args w=> by kernel_rfl⟩
instance Pu:ca Tryz.prog 223:=⟨fun args w=> by kernel_rfl⟩
instance Ni:ca Tryz.prog 224:=⟨fun args w=> by kernel_rfl⟩
instance MS:ca Tryz.prog 225:=⟨fun args w=> by kernel_rfl⟩
instance QN:ca Tryz.prog 226:=⟨fun args w=> by kernel_rfl⟩
instance Pk:ca Tryz.prog 227:=⟨fun args w=> by kernel_rfl⟩
instance PN:ca Tryz.prog 235:=⟨fun args w=> by kernel_rfl⟩
instance QM:ca Tryz.prog 236:=⟨fun args w=> by kernel_rfl⟩
instance MX:ca Tryz.prog 237:=⟨fun args w=> by kernel_rfl⟩
instance NQ:ca Tryz.prog 240:=⟨fun args w=> by kernel_rfl⟩
end Go.Proofs.YtmjnackchaahbaaGreat

namespace Go.Proofs.YtmjnackchaahbaaGreat

instance RC:Bld Tryz.prog 24 HV (fun i=> some (i*1,1)):=Bld.array (bytes:=320) (.agg (HV).toArray) Tryz.underlying24 ae rfl (by simp [Value.oneCell']) ae
instance Tf:Bld Tryz.prog 25 Ej (fun i=> ([(0,1),(1,40),(41,1),(42,1)]:List (Nat×Nat))[i]?):=Bld.struct (bytes:=360) (.agg (Ej).toArray) [(0,1),(1,40),(41,1),(42,1)] Tryz.underlying25 ae rfl (by simp [Value.oneCell']) (fun w=> by kernel_rfl)
instance Sw:Bld Tryz.prog 26 Ej (fun i=> ([(0,1),(1,40),(41,1),(42,1)]:List (Nat×Nat))[i]?):=Bld.struct (bytes:=360) (.agg (Ej).toArray) [(0,1),(1,40),(41,1),(42,1)] Tryz.underlying26 ae rfl (by simp [Value.oneCell']) (fun w=> by kernel_rfl)
instance Tz:Bld Tryz.prog 30 ui (fun i=> some (i*1,1)):=Bld.array (bytes:=72) (.agg (ui).toArray) Tryz.underlying30 ae rfl (by simp [Value.oneCell']) ae
instance Rf:Bld Tryz.prog 33 Cb (fun i=> ([(0,1),(1,1),(2,1),(3,1),(4,1)]:List (Nat×Nat))[i]?):=Bld.struct (bytes:=88) (.agg (Cb).toArray) [(0,1),(1,1),(2,1),(3,1),(4,1)] Tryz.underlying33 ae rfl (by simp [Value.oneCell']) (fun w=> by kernel_rfl)
instance Sj:Bld Tryz.prog 34 Cb (fun i=> ([(0,1),(1,1),(2,1),(3,1),(4,1)]:List (Nat×Nat))[i]?):=Bld.struct (bytes:=88) (.agg (Cb).toArray) [(0,1),(1,1),(2,1),(3,1),(4,1)] Tryz.underlying34 ae rfl (by simp [Value.oneCell']) (fun w=> by kernel_rfl)
instance Sc:Bld Tryz.prog 38 BS (fun i=> ([(0,1),(1,1),(2,1),(3,1),(4,1),(5,1)]:List (Nat×Nat))[i]?):=Bld.struct (bytes:=112) (.agg (BS).toArray) [(0,1),(1,1),(2,1),(3,1),(4,1),(5,1)] Tryz.underlying38 ae rfl (by simp [Value.oneCell']) (fun w=> by kernel_rfl)
instance RY:Bld Tryz.prog 39 BS (fun i=> ([(0,1),(1,1),(2,1),(3,1),(4,1),(5,1)]:List (Nat×Nat))[i]?):=Bld.struct (bytes:=112) (.agg (BS).toArray) [(0,1),(1,1),(2,1),(3,1),(4,1),(5,1)] Tryz.underlying39 ae rfl (by simp [Value.oneCell']) (fun w=> by kernel_rfl)
instance RJ:Bld Tryz.prog 44 [.int .i64 0, .int .i64 0] (fun i=> some (i*1,1)):=Bld.array (bytes:=16) (.agg #[.int .i64 0, .int .i64 0]) Tryz.underlying44 ae rfl (by simp [Value.oneCell']) ae
instance TA:Bld Tryz.prog 47 [.int .i64 0, .int .i64 0] (fun i=> ([(0,1),(1,1)]:List (Nat×Nat))[i]?):=Bld.struct (bytes:=16) (.agg #[.int .i64 0, .int .i64 0]) [(0,1),(1,1)] Tryz.underlying47 ae rfl (by simp [Value.oneCell']) (fun w=> by kernel_rfl)
instance Rt:Bld Tryz.prog 48 [.int .i64 0, .int .i64 0] (fun i=> ([(0,1),(1,1)]:List (Nat×Nat))[i]?):=Bld.struct (bytes:=16) (.agg #[.int .i64 0, .int .i64 0]) [(0,1),(1,1)] Tryz.underlying48 ae rfl (by simp [Value.oneCell']) (fun w=> by kernel_rfl)
instance Rs:Bld Tryz.prog 56 mN (fun i=> ([(0,1),(1,1),(2,1),(3,1),(4,1)]:List (Nat×Nat))[i]?):=Bld.struct (bytes:=40) (.agg (mN).toArray) [(0,1),(1,1),(2,1),(3,1),(4,1)] Tryz.underlying56 ae rfl (by simp [Value.oneCell']) (fun w=> by kernel_rfl)
instance Ru:Bld Tryz.prog 57 mN (fun i=> ([(0,1),(1,1),(2,1),(3,1),(4,1)]:List (Nat×Nat))[i]?):=Bld.struct (bytes:=40) (.agg (mN).toArray) [(0,1),(1,1),(2,1),(3,1),(4,1)] Tryz.underlying57 ae rfl (by simp [Value.oneCell']) (fun w=> by kernel_rfl)
instance RO:Bld Tryz.prog 63 Ei (fun i=> ([(0,1),(1,1),(2,1)]:List (Nat×Nat))[i]?):=Bld.struct (bytes:=72) (.agg (Ei).toArray) [(0,1),(1,1),(2,1)] Tryz.underlying63 ae rfl (by simp [Value.oneCell']) (fun w=> by kernel_rfl)
instance Tl:Bld Tryz.prog 64 Ei (fun i=> ([(0,1),(1,1),(2,1)]:List (Nat×Nat))[i]?):=Bld.struct (bytes:=72) (.agg (Ei).toArray) [(0,1),(1,1),(2,1)] Tryz.underlying64 ae rfl (by simp [Value.oneCell']) (fun w=> by kernel_rfl)
instance Se:Bld Tryz.prog 70 Ci (fun i=> ([(0,1),(1,1),(2,1),(3,1)]:List (Nat×Nat))[i]?):=Bld.struct (bytes:=56) (.agg (Ci).toArray) [(0,1),(1,1),(2,1),(3,1)] Tryz.underlying70 ae rfl (by simp [Value.oneCell']) (fun w=> by kernel_rfl)
instance Ri:Bld Tryz.prog 71 Ci (fun i=> ([(0,1),(1,1),(2,1),(3,1)]:List (Nat×Nat))[i]?):=Bld.struct (bytes:=56) (.agg (Ci).toArray) [(0,1),(1,1),(2,1),(3,1)] Tryz.underlying71 ae rfl (by simp [Value.oneCell']) (fun w=> by kernel_rfl)
instance RS:Bld Tryz.prog 72 Cn (fun i=> ([(0,1),(1,4)]:List (Nat×Nat))[i]?):=Bld.struct (bytes:=64) (.agg (Cn).toArray) [(0,1),(1,4)] Tryz.underlying72 ae rfl (by simp [Value.oneCell']) (fun w=> by kernel_rfl)
instance Sd:Bld Tryz.prog 73 Cn (fun i=> ([(0,1),(1,4)]:List (Nat×Nat))[i]?):=Bld.struct (bytes:=64) (.agg (Cn).toArray) [(0,1),(1,4)] Tryz.underlying73 ae rfl (by simp [Value.oneCell']) (fun w=> by kernel_rfl)
instance Td:Bld Tryz.prog 79 [.slice none 0 0, .slice none 0 0] (fun i=> ([(0,1),(1,1)]:List (Nat×Nat))[i]?):=Bld.struct (bytes:=48) (.agg #[.slice none 0 0, .slice none 0 0]) [(0,1),(1,1)] Tryz.underlying79 ae rfl (by simp [Value.oneCell']) (fun w=> by kernel_rfl)
instance SY:Bld Tryz.prog 80 [.slice none 0 0, .slice none 0 0] (fun i=> ([(0,1),(1,1)]:List (Nat×Nat))[i]?):=Bld.struct (bytes:=48) (.agg #[.slice none 0 0, .slice none 0 0]) [(0,1),(1,1)] Tryz.underlying80 ae rfl (by simp [Value.oneCell']) (fun w=> by kernel_rfl)
instance SQ:Bld Tryz.prog 81 ID (fun i=> some (i*1,1)):=Bld.array (bytes:=328) (.agg (ID).toArray) Tryz.underlying81 ae rfl (by simp [Value.oneCell']) ae
instance Ti:Bld Tryz.prog 82 wk (fun i=> ([(0,1),(1,1),(2,1),(3,1),(4,2),(6,1),(7,1),(8,41),(49,1),(50,1),(51,1)]:List (Nat×Nat))[i]?):=Bld.struct (bytes:=480) (.agg (wk).toArray) [(0,1),(1,1),(2,1),(3,1),(4,2),(6,1),(7,1),(8,41),(49,1),(50,1),(51,1)] Tryz.underlying82 ae rfl (by simp [Value.oneCell']) (fun w=> by kernel_rfl)
instance Su:Bld Tryz.prog 83 wk (fun i=> ([(0,1),(1,1),(2,1),(3,1),(4,2),(6,1),(7,1),(8,41),(49,1),(50,1),(51,1)]:List (Nat×Nat))[i]?):=Bld.struct (bytes:=480) (.agg (wk).toArray) [(0,1),(1,1),(2,1),(3,1),(4,2),(6,1),(7,1),(8,41),(49,1),(50,1),(51,1)] Tryz.underlying83 ae rfl (by simp [Value.oneCell']) (fun w=> by kernel_rfl)
instance Sv:Bld Tryz.prog 86 ve (fun i=> ([(0,1),(1,1),(2,9),(11,1),(12,1),(13,1),(14,1)]:List (Nat×Nat))[i]?):=Bld.struct (bytes:=152) (.agg (ve).toArray) [(0,1),(1,1),(2,9),(11,1),(12,1),(13,1),(14,1)] Tryz.underlying86 ae rfl (by simp [Value.oneCell']) (fun w=> by kernel_rfl)
instance Tc:Bld Tryz.prog 87 ve (fun i=> ([(0,1),(1,1),(2,9),(11,1),(12,1),(13,1),(14,1)]:List (Nat×Nat))[i]?):=Bld.struct (bytes:=152) (.agg (ve).toArray) [(0,1),(1,1),(2,9),(11,1),(12,1),(13,1),(14,1)] Tryz.underlying87 ae rfl (by simp [Value.oneCell']) (fun w=> by kernel_rfl)
instance RQ:Bld Tryz.prog 90 vy (fun i=> ([(0,1),(1,1),(2,1)]:List (Nat×Nat))[i]?):=Bld.struct (bytes:=24) (.agg (vy).toArray) [(0,1),(1,1),(2,1)] Tryz.underlying90 ae rfl (by simp [Value.oneCell']) (fun w=> by kernel_rfl)
instance SE:Bld Tryz.prog 91 vy (fun i=> ([(0,1),(1,1),(2,1)]:List (Nat×Nat))[i]?):=Bld.struct (bytes:=24) (.agg (vy).toArray) [(0,1),(1,1),(2,1)] Tryz.underlying91 ae rfl (by simp [Value.oneCell']) (fun w=> by kernel_rfl)
instance SW:Bld Tryz.prog 92 Ap (fun i=> ([(0,52),(52,1),(53,1),(54,1),(55,1),(56,1),(57,3),(60,6),(66,1)]:List (Nat×Nat))[i]?):=Bld.struct (bytes:=728) (.agg (Ap).toArray) [(0,52),(52,1),(53,1),(54,1),(55,1),(56,1),(57,3),(60,6),(66,1)] Tryz.underlying92 ae rfl (by simp [Value.oneCell']) (fun w=> by kernel_rfl)
instance Sg:Bld Tryz.prog 93 Ap (fun i=> ([(0,52),(52,1),(53,1),(54,1),(55,1),(56,1),(57,3),(60,6),(66,1)]:List (Nat×Nat))[i]?):=Bld.struct (bytes:=728) (.agg (Ap).toArray) [(0,52),(52,1),(53,1),(54,1),(55,1),(56,1),(57,3),(60,6),(66,1)] Tryz.underlying93 ae rfl (by simp [Value.oneCell']) (fun w=> by kernel_rfl)
instance Sf:Bld Tryz.prog 95 uI (fun i=> ([(0,3),(3,1),(4,1),(5,1),(6,1),(7,5)]:List (Nat×Nat))[i]?):=Bld.struct (bytes:=176) (.agg (uI).toArray) [(0,3),(3,1),(4,1),(5,1),(6,1),(7,5)] Tryz.underlying95 ae rfl (by simp [Value.oneCell']) (fun w=> by kernel_rfl)
instance Sk:Bld Tryz.prog 96 uI (fun i=> ([(0,3),(3,1),(4,1),(5,1),(6,1),(7,5)]:List (Nat×Nat))[i]?):=Bld.struct (bytes:=176) (.agg (uI).toArray) [(0,3),(3,1),(4,1),(5,1),(6,1),(7,5)] Tryz.underlying96 ae rfl (by simp [Value.oneCell']) (fun w=> by kernel_rfl)
instance Pd:Bld Tryz.prog 102 ro (fun i=> ([(0,3),(3,1),(4,1)]:List (Nat×Nat))[i]?):=Bld.struct (bytes:=72) (.agg (ro).toArray) [(0,3),(3,1),(4,1)] Tryz.underlying102 ae rfl (by simp [Value.oneCell']) (fun w=> by kernel_rfl)
instance Oz:Bld Tryz.prog 103 ro (fun i=> ([(0,3),(3,1),(4,1)]:List (Nat×Nat))[i]?):=Bld.struct (bytes:=72) (.agg (ro).toArray) [(0,3),(3,1),(4,1)] Tryz.underlying103 ae rfl (by simp [Value.oneCell']) (fun w=> by kernel_rfl)
instance QX:Bld Tryz.prog 108 mN (fun i=> ([(0,3),(3,1),(4,1)]:List (Nat×Nat))[i]?):=Bld.struct (bytes:=40) (.agg (mN).toArray) [(0,3),(3,1),(4,1)] Tryz.underlying108 ae rfl (by simp [Value.oneCell']) (fun w=> by kernel_rfl)
instance QR:Bld Tryz.prog 109 mN (fun i=> ([(0,3),(3,1),(4,1)]:List (Nat×Nat))[i]?):=Bld.struct (bytes:=40) (.agg (mN).toArray) [(0,3),(3,1),(4,1)] Tryz.underlying109 ae rfl (by simp [Value.oneCell']) (fun w=> by kernel_rfl)
instance Pz:Bld Tryz.prog 110 oZ (fun i=> ([(0,5),(5,1),(6,1)]:List (Nat×Nat))[i]?):=Bld.struct (bytes:=56) (.agg (oZ).toArray) [(0,5),(5,1),(6,1)] Tryz.underlying110 ae rfl (by simp [Value.oneCell']) (fun w=> by kernel_rfl)
instance Og:Bld Tryz.prog 111 oZ (fun i=> ([(0,5),(5,1),(6,1)]:List (Nat×Nat))[i]?):=Bld.struct (bytes:=56) (.agg (oZ).toArray) [(0,5),(5,1),(6,1)] Tryz.underlying111 ae rfl (by simp [Value.oneCell']) (fun w=> by kernel_rfl)
instance NG:Bld Tryz.prog 114 mN (fun i=> ([(0,3),(3,1),(4,1)]:List (Nat×Nat))[i]?):=Bld.struct (bytes:=40) (.agg (mN).toArray) [(0,3),(3,1),(4,1)] Tryz.underlying114 ae rfl (by simp [Value.oneCell']) (fun w=> by kernel_rfl)
instance Oc:Bld Tryz.prog 115 mN (fun i=> ([(0,3),(3,1),(4,1)]:List (Nat×Nat))[i]?):=Bld.struct (bytes:=40) (.agg (mN).toArray) [(0,3),(3,1),(4,1)] Tryz.underlying115 ae rfl (by simp [Value.oneCell']) (fun w=> by kernel_rfl)
instance Ng:Bld Tryz.prog 116 ui (fun i=> ([(0,5),(5,1),(6,1),(7,1),(8,1)]:List (Nat×Nat))[i]?):=Bld.struct (bytes:=72) (.agg (ui).toArray) [(0,5),(5,1),(6,1),(7,1),(8,1)] Tryz.underlying116 ae rfl (by simp [Value.oneCell']) (fun w=> by kernel_rfl)
instance QJ:Bld Tryz.prog 117 ui (fun i=> ([(0,5),(5,1),(6,1),(7,1),(8,1)]:List (Nat×Nat))[i]?):=Bld.struct (bytes:=72) (.agg (ui).toArray) [(0,5),(5,1),(6,1),(7,1),(8,1)] Tryz.underlying117 ae rfl (by simp [Value.oneCell']) (fun w=> by kernel_rfl)
instance OH:Bld Tryz.prog 125 [.int .i64 0, .int .i64 0] (fun i=> ([(0,1),(1,1)]:List (Nat×Nat))[i]?):=Bld.struct (bytes:=16) (.agg #[.int .i64 0, .int .i64 0]) [(0,1),(1,1)] Tryz.underlying125 ae rfl (by simp [Value.oneCell']) (fun w=> by kernel_rfl)
instance PI:Bld Tryz.prog 126 [.int .i64 0, .int .i64 0] (fun i=> ([(0,1),(1,1)]:List (Nat×Nat))[i]?):=Bld.struct (bytes:=16) (.agg #[.int .i64 0, .int .i64 0]) [(0,1),(1,1)] Tryz.underlying126 ae rfl (by simp [Value.oneCell']) (fun w=> by kernel_rfl)
instance Qy:Bld Tryz.prog 128 uR (fun i=> ([(0,1),(1,1),(2,1)]:List (Nat×Nat))[i]?):=Bld.struct (bytes:=56) (.agg (uR).toArray) [(0,1),(1,1),(2,1)] Tryz.underlying128 ae rfl (by simp [Value.oneCell']) (fun w=> by kernel_rfl)
instance QO:Bld Tryz.prog 129 uR (fun i=> ([(0,1),(1,1),(2,1)]:List (Nat×Nat))[i]?):=Bld.struct (bytes:=56) (.agg (uR).toArray) [(0,1),(1,1),(2,1)] Tryz.underlying129 ae rfl (by simp [Value.oneCell']) (fun w=> by kernel_rfl)
instance Nf:Bld Tryz.prog 131 va (fun i=> ([(0,1),(1,9)]:List (Nat×Nat))[i]?):=Bld.struct (bytes:=96) (.agg (va).toArray) [(0,1),(1,9)] Tryz.underlying131 ae rfl (by simp [Value.oneCell']) (fun w=> by kernel_rfl)
instance OD:Bld Tryz.prog 132 va (fun i=> ([(0,1),(1,9)]:List (Nat×Nat))[i]?):=Bld.struct (bytes:=96) (.agg (va).toArray) [(0,1),(1,9)] Tryz.underlying132 ae rfl (by simp [Value.oneCell']) (fun w=> by kernel_rfl)
instance OB:Bld Tryz.prog 138 [.slice none 0 0, .int .i64 0] (fun i=> ([(0,1),(1,1)]:List (Nat×Nat))[i]?):=Bld.struct (bytes:=32) (.agg #[.slice none 0 0, .int .i64 0]) [(0,1),(1,1)] Tryz.underlying138 ae rfl (by simp [Value.oneCell']) (fun w=> by kernel_rfl)
instance NZ:Bld Tryz.prog 139 [.slice none 0 0, .int .i64 0] (fun i=> ([(0,1),(1,1)]:List (Nat×Nat))[i]?):=Bld.struct (bytes:=32) (.agg #[.slice none 0 0, .int .i64 0]) [(0,1),(1,1)] Tryz.underlying139 ae rfl (by simp [Value.oneCell']) (fun w=> by kernel_rfl)
instance Qn:Bld Tryz.prog 142 wi (fun i=> ([(0,3),(3,1)]:List (Nat×Nat))[i]?):=Bld.struct (bytes:=96) (.agg (wi).toArray) [(0,3),(3,1)] Tryz.underlying142 ae rfl (by simp [Value.oneCell']) (fun w=> by kernel_rfl)
instance QI:Bld Tryz.prog 143 wi (fun i=> ([(0,3),(3,1)]:List (Nat×Nat))[i]?):=Bld.struct (bytes:=96) (.agg (wi).toArray) [(0,3),(3,1)] Tryz.underlying143 ae rfl (by simp [Value.oneCell']) (fun w=> by kernel_rfl)
instance Qh:Bld Tryz.prog 170 vN (fun i=> ([(0,43),(43,10),(53,1),(54,5),(59,1),(60,1),(61,1),(62,1),(63,1)]:List (Nat×Nat))[i]?):=Bld.struct (bytes:=608) (.agg (vN).toArray) [(0,43),(43,10),(53,1),(54,5),(59,1),(60,1),(61,1),(62,1),(63,1)] Tryz.underlying170 ae rfl (by simp [Value.oneCell']) (fun w=> by kernel_rfl)
instance Qi:Bld Tryz.prog 171 vN (fun i=> ([(0,43),(43,10),(53,1),(54,5),(59,1),(60,1),(61,1),(62,1),(63,1)]:List (Nat×Nat))[i]?):=Bld.struct (bytes:=608) (.agg (vN).toArray) [(0,43),(43,10),(53,1),(54,5),(59,1),(60,1),(61,1),(62,1),(63,1)] Tryz.underlying171 ae rfl (by simp [Value.oneCell']) (fun w=> by kernel_rfl)
instance OM:Bld Tryz.prog 173 zD (fun i=> some (i*1,1)):=Bld.array (bytes:=192) (.agg (zD).toArray) Tryz.underlying173 ae rfl (by simp [Value.oneCell']) ae
instance OI:Bld Tryz.prog 176 [] (fun i=> ([]:List (Nat×Nat))[i]?):=Bld.struct (bytes:=0) (.agg #[]) [] Tryz.underlying176 ae rfl (by simp [Value.oneCell']) (fun w=> by kernel_rfl)
instance QQ:Bld Tryz.prog 191 vt (fun i=> ([(0,1),(1,1),(2,1),(3,1)]:List (Nat×Nat))[i]?):=Bld.struct (bytes:=32) (.agg (vt).toArray) [(0,1),(1,1),(2,1),(3,1)] Tryz.underlying191 ae rfl (by simp [Value.oneCell']) (fun w=> by kernel_rfl)
instance Qq:Bld Tryz.prog 192 vt (fun i=> ([(0,1),(1,1),(2,1),(3,1)]:List (Nat×Nat))[i]?):=Bld.struct (bytes:=32) (.agg (vt).toArray) [(0,1),(1,1),(2,1),(3,1)] Tryz.underlying192 ae rfl (by simp [Value.oneCell']) (fun w=> by kernel_rfl)
instance Pw:Bld Tryz.prog 195 qP (fun i=> ([(0,5),(5,1)]:List (Nat×Nat))[i]?):=Bld.struct (bytes:=48) (.agg (qP).toArray) [(0,5),(5,1)] Tryz.underlying195 ae rfl (by simp [Value.oneCell']) (fun w=> by kernel_rfl)
instance QG:Bld Tryz.prog 196 qP (fun i=> ([(0,5),(5,1)]:List (Nat×Nat))[i]?):=Bld.struct (bytes:=48) (.agg (qP).toArray) [(0,5),(5,1)] Tryz.underlying196 ae rfl (by simp [Value.oneCell']) (fun w=> by kernel_rfl)
instance Od:Bld Tryz.prog 221 vE (fun i=> ([(0,1),(1,1),(2,1),(3,1),(4,1)]:List (Nat×Nat))[i]?):=Bld.struct (bytes:=72) (.agg (vE).toArray) [(0,1),(1,1),(2,1),(3,1),(4,1)] Tryz.underlying221 ae rfl (by simp [Value.oneCell']) (fun w=> by kernel_rfl)
instance MW:Bld Tryz.prog 222 vE (fun i=> ([(0,1),(1,1),(2,1),(3,1),(4,1)]:List (Nat×Nat))[i]?):=Bld.struct (bytes:=72) (.agg (vE).toArray) [(0,1),(1,1),(2,1),(3,1),(4,1)] Tryz.underlying222 ae rfl (by simp [Value.oneCell']) (fun w=> by kernel_rfl)
instance OY:Bld Tryz.prog 224 rP (fun i=> ([(0,1),(1,1),(2,1),(3,1)]:List (Nat×Nat))[i]?):=Bld.struct (bytes:=40) (.agg (rP).toArray) [(0,1),(1,1),(2,1),(3,1)] Tryz.underlying224 ae rfl (by simp [Value.oneCell']) (fun w=> by kernel_rfl)
instance Np:Bld Tryz.prog 225 rP (fun i=> ([(0,1),(1,1),(2,1),(3,1)]:List (Nat×Nat))[i]?):=Bld.struct (bytes:=40) (.agg (rP).toArray) [(0,1),(1,1),(2,1),(3,1)] Tryz.underlying225 ae rfl (by simp [Value.oneCell']) (fun w=> by kernel_rfl)
instance NW:Bld Tryz.prog 287 FH (fun i=> ([(0,1),(1,1),(2,1),(3,1),(4,1),(5,1),(6,1),(7,1),(8,1),(9,1),(10,1)]:List (Nat×Nat))[i]?):=Bld.struct (bytes:=48) (.agg (FH).toArray) [(0,1),(1,1),(2,1),(3,1),(4,1),(5,1),(6,1),(7,1),(8,1),(9,1),(10,1)] Tryz.underlying287 ae rfl (by simp [Value.oneCell']) (fun w=> by kernel_rfl)
def gT (n m:Int):Int:=(if n < 0 then -(n+1) else n) % m
theorem pE (n m:Int) (h:0 < m):0≤gT n m:=Int.emod_nonneg _ ab
theorem pD (n m:Int) (h:0 < m):gT n m < m:=Int.emod_lt_of_pos _ h
theorem jG (n m:Int) (hm:1≤m) (h1:m≤4611686018427387904) (h2: -9223372036854775808≤n) (h3:n≤9223372036854775807):
  Spec Tryz.prog 33 (bk [.v (.int .i64 n), .v (.int .i64 m)] []) (aW (.v (.int .i64 (gT n m))) []):=by
 refine Spec.ofN Tryz.func33 rfl Tryz.ntmps33 rfl ?_
 refine am (aZ rfl (aj (aq (am (aS rfl (ai (bq _ _ rfl rfl rfl) (aj (aV rfl (fun hc6=> ?_) (fun hc6=> ?_)))))))))
 ·skip
  refine an (aS rfl (ai (be _ _ rfl rfl (br ab)) ?_))
  refine ai (sO _ rfl (br ab)) ?_
  refine aZ rfl (aj (am (aS rfl (aS rfl (ai (db _ _ rfl rfl ab (Int.tmod_eq_emod_of_nonneg ab)) ?_)))))
  refine aZ rfl (aj (aD (aY (.inr rfl) rfl (.tmp (rfl:_=AV.v (.int _ _))) (Le.out [] [] (co ?_) rfl rfl rfl trivial trivial))))
  unfold gT
  rw [if_pos hc6]
 ·skip
  refine aJ (am (aS rfl (aS rfl (ai (db _ _ rfl rfl ab (Int.tmod_eq_emod_of_nonneg ab)) ?_))))
  refine aZ rfl (aj (aD (aY (.inr rfl) rfl (.tmp (rfl:_=AV.v (.int _ _))) (Le.out [] [] (co ?_) rfl rfl rfl trivial trivial))))
  unfold gT
  rw [if_neg ab]

theorem wo (n m:Nat) (xs ys:List Int) (hn:xs.length=n) (hm:ys.length=m) (h1:n≤4611686018427387904) (h2:m≤4611686018427387904):
  Spec Tryz.prog 30 (bk [.sl n (cR xs), .sl m (cR ys)] []) (aW (.v (.bool (decide (xs=ys)))) []):=by
 subst hn;subst hm
 refine Spec.ofN Tryz.func30 rfl Tryz.ntmps30 rfl ?_
 refine am (cw rfl (aj (aq (am (ez rfl (ai (bH _ aa rfl) (ez rfl (ai (bH _ aa rfl) (ai (cb _ _ rfl rfl rfl) (aj ?_))))))))))
 refine aV rfl (fun hc10=> ?_) (fun hc10=> ?_)
 ·skip
  refine am (cw rfl (aj (aD (aY (.inr rfl) rfl (.tmp (rfl:_=AV.v (.bool _))) (Le.out [] [] (gR ?_) rfl rfl rfl trivial trivial)))))
  exact decide_eq_false fun h=> by subst h;omega
 ·skip
  refine aJ (aG fun K5 hK5=> ?_)
  refine am (aZ rfl (aj (au ?_)))
  refine bB (α:=Nat) (fun k=> k≤xs.length∧xs.length=ys.length∧xs.take k=ys.take k) 26 [(0,_),(1,_)] [] (fun k=> [(5, .v (.int .i64 (k:Int)))]) (fun k=> []) [] [] (fun k=> xs.length - k) 0 ?_ (by
   refine Le.mkJ [] [] rfl ?_ ?_ trivial trivial ?_
   ·exact ⟨(by exact iS rfl),(by exact iS rfl),(co ag),trivial⟩
   ·exact trivial
   ·kernel_rfl) ?_
  ·exact ⟨by omega,by omega,rfl⟩
  intro k hk
  obtain ⟨hk,hl,ht⟩:=hk
  refine aG fun K7 hK7=> ?_
  refine am (aS rfl (ez rfl (ai (bH _ aa rfl) (ai (bq _ _ rfl rfl rfl) (aj (aV rfl (fun hc14=> ?_) (fun hc14=> ?_)))))))
  ·skip
   have hkx:k < xs.length:=by omega
   have hky:k < ys.length:=by omega
   refine bz (hK7 _ ?_)
   clear hK7;try clear K7
   refine aq (au (aq ?_))
   refine aO (σ':=aB 26 [(0,_),(1,_),(5,_)] [] [] []) (by
    refine Le.mkJ [] [] rfl ?_ ?_ trivial trivial ?_
    ·exact ⟨(by exact iS rfl),(by exact iS rfl),(iV rfl),trivial⟩
    ·exact trivial
    ·kernel_rfl) ?_
   refine bE 9 [17,18,19,20,21,22,23,24,25] [] ae ae rfl (aK rfl) (rfl:_=[_,_,_,_,_,_,_,_,_]) (rfl:_=[]) ?_
   refine ap (_,[]) (fun τ=> aE _ (rfl:_=AV.sl _ _)) ?_
   refine eE rfl ?_
   refine ap (_,[]) (fun τ=> aE _ (rfl:_=AV.v (.int _ _))) ?_
   refine eF rfl ?_
   refine ap (_,[]) (fun τ=> bg _ _ aa rfl rfl _ rfl ab (by (simp only [ba,bo,bm];omega)) (by exact Nat.mul_one _)) ?_
   refine eD rfl ?_
   refine ap (_,[]) (fun τ=> bG _ aa rfl (by exact dY _ _ ab) rfl) ?_
   refine eI rfl ?_
   refine ap (_,[]) (fun τ=> aE _ (rfl:_=AV.sl _ _)) ?_
   refine eU rfl ?_
   refine ap (_,[]) (fun τ=> aE _ (rfl:_=AV.v (.int _ _))) ?_
   refine fh rfl ?_
   refine ap (_,[]) (fun τ=> bg _ _ aa rfl rfl _ rfl ab (by (simp only [ba,bo,bm];omega)) (by exact Nat.mul_one _)) ?_
   refine fZ rfl ?_
   refine ap (_,[]) (fun τ=> bG _ aa rfl (by exact dY _ _ ab) rfl) ?_
   refine jz rfl ?_
   refine ap (_,[]) (fun τ=> cb _ _ rfl rfl rfl) ?_
   refine jC rfl (bi ⟨rfl,?_⟩)
   refine aj (aV rfl (fun hc25=> ?_) (fun hc25=> ?_))
   ·skip
    refine am (cw rfl (aj (aD (aY (.inr rfl) rfl (.tmp (rfl:_=AV.v (.bool _))) (Le.out [] [] (gR ?_) rfl rfl rfl trivial trivial)))))
    exact decide_eq_false fun h=> by subst h;exact hc25 rfl
   ·skip
    refine cg (an (aS rfl (ai (be _ _ rfl rfl (br ab)) ?_)))
    refine aZ rfl (az (⟨k+1,?_,?_,?_⟩))
    ·refine ⟨by omega,hl,?_⟩
     rw [pT _ _ _ hkx,pT _ _ _ hky] at hc25
     rw [List.take_succ_eq_append_getElem hkx,List.take_succ_eq_append_getElem hky,ht,hc25]
    ·skip
     refine Le.mkJ [] [] rfl ?_ ?_ trivial trivial ?_
     ·exact ⟨(by exact iS rfl),(by exact iS rfl),(co ag),trivial⟩
     ·exact trivial
     ·kernel_rfl
    ·omega
  ·skip
   refine bK (id (hK5 _ ?_))
   clear hK5;try clear K5
   refine am (cw rfl (aj (aD (aY (.inr rfl) rfl (.tmp (rfl:_=AV.v (.bool _))) (Le.out [] [] (gR ?_) rfl rfl rfl trivial trivial)))))
   rw [List.take_of_length_le ab,List.take_of_length_le ab] at ht
   exact decide_eq_true ht
end Go.Proofs.YtmjnackchaahbaaGreat
