/- part 14 -/
import Derived.Test.YtmjnackchaahbaaGreatVhZ13
set_option linter.unusedSimpArgs false
set_option linter.unusedVariables false
set_option maxHeartbeats 2000000
namespace Go.Proofs.YtmjnackchaahbaaGreat

inductive Rch (C:List bq) (e:Nat):Nat→Prop where
 | here:Rch C e e
 | step {i j:Nat} (h:Rch C e i) (hj:j∈bP i (bC C i)):Rch C e j
def rk (C:List bq) (D:Nat→Nat) (i:Nat):Prop:=D i - (bC C i).op.pops+(bC C i).op.puts≤16
theorem oY {C:List bq} {i:Nat} (h:i < C.length):C[i]? =some (bC C i):=by
 unfold bC;rw [List.getD_eq_getElem?_getD,List.getElem?_eq_getElem h];rfl
theorem Cv {C:List bq} {i:Nat} {x:bq} (h:C[i]? =some x):bC C i=x:=by
 unfold bC;rw [List.getD_eq_getElem?_getD,h];rfl
theorem Good.at {D:Nat→Nat} {nv:Nat} {C:List bq} (hg:Good D nv 0 (C.length - 1) 0 C) {i:Nat} (hi:i < C.length):
  cg nv (bC C i)∧(bC C i).op.pops≤D i∧ ∀ j∈bP i (bC C i),j < C.length∧D j=D i - (bC C i).op.pops+(bC C i).op.puts:=by
 obtain ⟨h1,h2,h3⟩:=hg i _ (oY hi)
 rw [Nat.zero_add] at h2 h3
 exact ⟨h1,h2,fun j hj=> by obtain ⟨_,h4,h5⟩:=h3 j hj;exact ⟨by omega,h5⟩⟩
theorem Rch.lt {D:Nat→Nat} {nv:Nat} {C:List bq} (hg:Good D nv 0 (C.length - 1) 0 C) {e i:Nat} (he:e < C.length) (h:Rch C e i):i < C.length:=by
 induction h with
 | here=> exact he
 | step h hj ih=> exact ((hg.at ih).2.2 _ hj).1
abbrev FW:=List Nat×List Nat
def jU (s:FW) (j:Nat):FW:=if j∈s.1 then s else (s.1++[j],s.2++[j])
def fy (l:List Nat) (s:FW):FW:=l.foldl jU s
theorem oO (l:List Nat): ∀ s:FW,(∀ x∈s.2,x∈s.1)→s.1.Nodup→s.2.Nodup→(∀ x,x∈(fy l s).1↔x∈s.1∨x∈l)∧(∀ x,x∈(fy l s).2↔x∈s.2∨(x∈l∧x∉s.1))∧
  (fy l s).1.Nodup∧(fy l s).2.Nodup∧s.1.length≤(fy l s).1.length∧(fy l s).1.length+s.2.length=s.1.length+(fy l s).2.length:=by
 induction l with
 | nil=> intro s _ h1 h2;exact ⟨by simp [fy],by simp [fy],h1,h2,Nat.le_refl _,rfl⟩
 | cons j l ih=>
  intro s hs h1 h2
  have hd:fy (j::l) s=fy l (jU s j):=rfl
  rw [hd]
  by_cases hj:j∈s.1
  ·have e:jU s j=s:=if_pos hj
   rw [e]
   obtain ⟨a,b,c,d,f,g⟩:=ih s hs h1 h2
   refine ⟨fun x=> ?_,fun x=> ?_,c,d,f,g⟩
   ·rw [a]
    constructor
    ·rintro (h | h) <;> first | exact .inl h | exact .inr (List.mem_cons_of_mem _ h)
    rintro (h | h)
    ·exact .inl h
    rcases List.mem_cons.1 h with rfl | h <;> first | exact .inl hj | exact .inr h
   rw [b]
   constructor
   ·rintro (h | ⟨h,h'⟩) <;> first | exact .inl h | exact .inr ⟨List.mem_cons_of_mem _ h,h'⟩
   rintro (h | ⟨h,h'⟩)
   ·exact .inl h
   rcases List.mem_cons.1 h with rfl | h <;> first | exact absurd hj h' | exact .inr ⟨h,h'⟩
  have e:jU s j=(s.1++[j],s.2++[j]):=if_neg hj
  rw [e]
  have hj2:j∉s.2:=fun h=> hj (hs j h)
  obtain ⟨a,b,c,d,f,g⟩:=ih (s.1++[j],s.2++[j]) (fun x hx=> by
   rcases List.mem_append.1 hx with h | h
   ·exact List.mem_append.2 (.inl (hs x h))
   ·exact List.mem_append.2 (.inr h)) (List.nodup_append.2 ⟨h1,by simp,fun x hx y hy=> by simp at hy;subst hy;exact fun e=> hj (e ▸ hx)⟩)
   (List.nodup_append.2 ⟨h2,by simp,fun x hx y hy=> by simp at hy;subst hy;exact fun e=> hj2 (e ▸ hx)⟩)
  refine ⟨fun x=> ?_,fun x=> ?_,c,d,by simp at f;omega,by simp at g ⊢;omega⟩
  ·rw [a];simp only [List.mem_append,List.mem_cons,List.not_mem_nil,or_false]
   constructor
   ·rintro ((h | h) | h) <;> first | exact .inl h | exact .inr (.inl h) | exact .inr (.inr h)
   rintro (h | h | h) <;> first | exact .inl (.inl h) | exact .inl (.inr h) | exact .inr h
  rw [b];simp only [List.mem_append,List.mem_cons,List.not_mem_nil,or_false,not_or]
  constructor
  ·rintro ((h | h) | ⟨h,h',h''⟩)
   ·exact .inl h
   ·subst h;exact .inr ⟨.inl rfl,hj⟩
   exact .inr ⟨.inr h,h'⟩
  rintro (h | ⟨h | h,h'⟩)
  ·exact .inl (.inl h)
  ·exact .inl (.inr h)
  by_cases hx:x=j
  ·exact .inl (.inr hx)
  exact .inr ⟨h,h',hx⟩
theorem xR (l:List Nat) (j:Nat) (s:FW):fy (l++[j]) s=jU (fy l s) j:=by simp [fy,List.foldl_append]
structure FI (C:List bq) (D:Nat→Nat) (e:Nat) (s:FW) (r:Int):Prop where
 nd:s.1.Nodup
 he:e∈s.1
 rch: ∀ i∈s.1,Rch C e i
 wn:s.2.Nodup
 ws: ∀ i∈s.2,i∈s.1
 clo: ∀ i∈s.1,i∉s.2→ ∀ j∈bP i (bC C i),j∈s.1
 r01:r=0∨r=13
 rok:r=0↔ ∀ i∈s.1,i∉s.2→rk C D i
theorem FI.start (C:List bq) (D:Nat→Nat) (e:Nat):FI C D e ([e],[e]) 0:=
 ⟨by simp,by simp,fun i hi=> by simp at hi;subst hi;exact .here,by simp,by simp,fun i hi hn=> absurd hi hn, .inl rfl,⟨fun _ i hi hn=> absurd hi hn,fun _=> rfl⟩⟩
theorem FI.next {C:List bq} {D:Nat→Nat} {e:Nat} {F W:List Nat} {i:Nat} {r r':Int} (h:FI C D e (F,W++[i]) r) (hr:(rk C D i∧r'=r)∨(¬ rk C D i∧r'=13)):FI C D e (fy (bP i (bC C i)) (F,W)) r':=by
 obtain ⟨nd,he,rch,wn,ws,clo,r01,rok⟩:=h
 simp only at nd he rch wn ws clo rok
 obtain ⟨w1,_,w3⟩:=List.nodup_append.1 wn
 have hiW:i∉W:=fun hi=> w3 i hi i (by simp) rfl
 have hi:i∈F:=ws i (by simp)
 obtain ⟨a,b,c,d,_,_⟩:=oO (bP i (bC C i)) (F,W) (fun x hx=> ws x (List.mem_append.2 (.inl hx))) nd w1
 simp only at a b
 have key: ∀ x,(x∈(fy (bP i (bC C i)) (F,W)).1∧x∉(fy (bP i (bC C i)) (F,W)).2)↔(x∈F∧x∉W):=fun x=> by
  rw [a,b]
  constructor
  ·rintro ⟨h1 | h1,h2⟩
   ·exact ⟨h1,fun h=> h2 (.inl h)⟩
   by_cases hx:x∈F
   ·exact ⟨hx,fun h=> h2 (.inl h)⟩
   exact absurd (.inr ⟨h1,hx⟩) h2
  rintro ⟨h1,h2⟩
  exact ⟨.inl h1,fun h=> (by rcases h with h | ⟨_,h⟩ <;> first | exact (h2 h) | exact (h h1))⟩
 have key2: ∀ x,(x∈F∧x∉W)↔(x=i∨(x∈F∧x∉W++[i])):=fun x=> by
  constructor
  ·rintro ⟨h1,h2⟩
   by_cases hx:x=i
   ·exact .inl hx
   exact .inr ⟨h1,fun h=> (by rcases List.mem_append.1 h with h | h <;> first | exact (h2 h) | exact (hx (by simpa using h)))⟩
  rintro (rfl | ⟨h1,h2⟩)
  ·exact ⟨hi,hiW⟩
  exact ⟨h1,fun h=> h2 (List.mem_append.2 (.inl h))⟩
 refine ⟨c,(a e).2 (.inl he),fun x hx=> ?_,d,fun x hx=> ?_,fun x hx hn j hj=> ?_,?_,?_⟩
 ·rcases (a x).1 hx with h | h
  ·exact rch x h
  exact .step (rch i hi) h
 ·rcases (b x).1 hx with h | ⟨h,_⟩
  ·exact (a x).2 (.inl (ws x (List.mem_append.2 (.inl h))))
  exact (a x).2 (.inr h)
 ·rcases (key2 x).1 ((key x).1 ⟨hx,hn⟩) with rfl | ⟨h1,h2⟩
  ·exact (a j).2 (.inr hj)
  exact (a j).2 (.inl (clo x h1 h2 j hj))
 ·rcases hr with ⟨_,rfl⟩ | ⟨_,rfl⟩ <;> first | exact r01 | exact .inr rfl
 have e1:(∀ x∈(fy (bP i (bC C i)) (F,W)).1,x∉(fy (bP i (bC C i)) (F,W)).2→rk C D x)↔(rk C D i∧ ∀ x∈F,x∉W++[i]→rk C D x):=by
  constructor
  ·intro h
   have h': ∀ x,(x∈F∧x∉W)→rk C D x:=fun x hx=> let ⟨p,q⟩:=(key x).2 hx;h x p q
   exact ⟨h' i ⟨hi,hiW⟩,fun x hx hn=> h' x ((key2 x).2 (.inr ⟨hx,hn⟩))⟩
  rintro ⟨h1,h2⟩ x hx hn
  rcases (key2 x).1 ((key x).1 ⟨hx,hn⟩) with rfl | ⟨h3,h4⟩
  all_goals first | exact h1 | exact h2 x h3 h4
 rw [e1]
 rcases hr with ⟨h1,rfl⟩ | ⟨h1,rfl⟩
 ·rw [rok];exact ⟨fun h=> ⟨h1,h⟩,fun h=> h.2⟩
 exact ⟨fun h=> by omega,fun h=> absurd h.1 h1⟩
theorem FI.fin {C:List bq} {D:Nat→Nat} {e:Nat} {F:List Nat} {r:Int} (h:FI C D e (F,[]) r):r=0↔ ∀ i,Rch C e i→rk C D i:=by
 have hF: ∀ i,Rch C e i→i∈F:=fun i hi=> by
  induction hi with
  | here=> exact h.he
  | step _ hj ih=> exact h.clo _ ih (by simp) _ hj
 rw [h.rok]
 exact ⟨fun h1 i hi=> h1 i (hF i hi) (by simp),fun h1 i hi _=> h1 i (h.rch i hi)⟩
theorem kW: ∀ (n:Nat) (l:List Nat),l.Nodup→(∀ x∈l,x < n)→l.length≤n
 | 0,l,_,h=> by
  cases l with
  | nil=> simp
  | cons x l=> exact absurd (h x (by simp)) ab
 | n+1,l,hn,h=> by
  have h1:=kW n (l.erase n) (hn.erase n) (fun x hx=> by
   have h2:=h x (List.mem_of_mem_erase hx)
   have h3:x≠n:=fun e=> by subst e;exact (List.Nodup.not_mem_erase hn) hx
   omega)
  have h2:l.length≤(l.erase n).length+1:=by
   by_cases hm:n∈l
   ·rw [List.length_erase_of_mem hm];omega
   rw [List.erase_of_not_mem hm];omega
  omega
def JL (n:Nat) (s:FW):Nat:=2*(n - s.1.length)+s.2.length
theorem He {C:List bq} {D:Nat→Nat} {nv e i:Nat} (hg:Good D nv 0 (C.length - 1) 0 C) (he:e < C.length) {F W:List Nat} {r:Int} (h:FI C D e (F,W++[i]) r):JL C.length (fy (bP i (bC C i)) (F,W)) < JL C.length (F,W++[i]):=by
 obtain ⟨a,_,c,_,f,g⟩:=oO (bP i (bC C i)) (F,W) (fun x hx=> h.ws x (List.mem_append.2 (.inl hx))) h.nd (List.nodup_append.1 h.wn).1
 have hi:=(h.rch i (h.ws i (by simp))).lt hg he
 have hb:=kW C.length _ c fun x hx=> by
  rcases (a x).1 hx with h' | h'
  ·exact (h.rch x h').lt hg he
  exact ((hg.at hi).2.2 x h').1
 unfold JL
 simp at f g ⊢
 omega
def CmpOk (ons:List (Nat×Bk)):Prop:=(aO ons 0).length≤400∧ ∀ h,h < 40→ ∀ e:Nat,bi ons h=(e:Int)→ ∀ i,Rch (aO ons 0) e i→rk (aO ons 0) (lx ons) i
theorem pH: ∀ (l m:List (Nat×Bk)),gL (l++m)=gL l++gL m
 | [],m=> rfl
 | (h,b)::l,m=> by simp only [List.cons_append,gL,pH l m,List.append_assoc]
theorem tR {d nv i j:Nat} {x:bq} (hx:cg nv x) (h:j∈bP i x):j+d∈bP (i+d) (ej d x):=by
 obtain ⟨o,n⟩:=x
 cases o <;> simp [bP,ej,cg] at h hx ⊢ <;> omega
section
variable {A B:List (Nat×Bk)} {p:Nat×Bk}
theorem wA (a:Nat):bK p.2 a++[{ op:= .stop }]=(aO [p] 0).map (ej a):=by
 have h:=gk a p.2 0
 rw [Nat.zero_add] at h
 rw [h,aO,aO,List.append_nil,List.map_append];rfl
theorem uz {i:Nat} {x:bq} (h:(aO [p] 0)[i]? =some x):(aO (A++p::B) 0)[i+(aO A 0).length]? =some (ej (aO A 0).length x):=by
 have e:aO (A++p::B) 0=aO A 0++((aO [p] 0).map (ej (aO A 0).length)++aO B ((aO A 0).length+(bK p.2 (aO A 0).length).length+1)):=by
  rw [gN,Nat.zero_add,aO,wA]
 rw [e,List.getElem?_append_right ab,Nat.add_sub_cancel,List.getElem?_append_left (by rw [List.length_map];exact (List.getElem?_eq_some_iff.1 h).1),List.getElem?_map,h];rfl
theorem wP {i:Nat} (h:i < (aO [p] 0).length):bC (aO (A++p::B) 0) (i+(aO A 0).length)=ej (aO A 0).length (bC (aO [p] 0) i):=Cv (uz (oY h))
theorem El {i:Nat} (h:i < (aO [p] 0).length):lx (A++p::B) (i+(aO A 0).length)=lx [p] i:=by
 have h1:=kk A 0
 have h2:=kk [p] 0
 have e:gL (A++p::B)=gL A++(gL [p]++gL B):=by
  rw [show p::B=[p]++B from rfl,pH,pH]
 unfold lx
 rw [e,List.getD_eq_getElem?_getD,List.getD_eq_getElem?_getD,List.getElem?_append_right ab,List.getElem?_append_left ab,h1,Nat.add_sub_cancel]
theorem sD:(aO A 0).length+(aO [p] 0).length≤(aO (A++p::B) 0).length:=by
 rw [show p::B=[p]++B from rfl,gN,gN]
 have h:=congrArg List.length (wA (p:=p) (0+(aO A 0).length))
 rw [List.length_map] at h
 simp only [aO,List.length_append,List.length_cons,List.length_nil] at h ⊢;omega
theorem Eb {nv i:Nat} (hg:Good (lx [p]) nv 0 ((aO [p] 0).length - 1) 0 (aO [p] 0)) (h0:0 < (aO [p] 0).length) (h:Rch (aO [p] 0) 0 i):Rch (aO (A++p::B) 0) (aO A 0).length (i+(aO A 0).length):=by
 induction h with
 | here=> rw [Nat.zero_add];exact .here
 | step h hj ih=>
  have hi:=h.lt hg h0
  exact .step ih (by rw [wP hi];exact tR (hg.at hi).1 hj)
theorem rl {k:Nat}: ∀ (B A:List (Nat×Bk)),(∀ b∈B,b.1 < 40∧b.1≠k)→bi (A++B) k=bi A k
 | [],A,_=> by rw [List.append_nil]
 | b::B,A,h=> by
  have h1:=h b (by simp)
  rw [show A++b::B=(A++[b])++B by simp,rl B (A++[b]) fun c hc=> h c (by simp [hc]),jp _ _ h1.1]
  unfold pS;rw [if_neg (fun e=> h1.2 e.symm)]
theorem rB (hp:p.1 < 40) (hB: ∀ b∈B,b.1 < 40∧b.1≠p.1):bi (A++p::B) p.1=((aO A 0).length:Int):=by
 rw [show A++p::B=(A++[p])++B by simp,rl B _ hB,jp _ _ hp]
 unfold pS;rw [if_pos rfl]
theorem jZ (hp:p.1 < 40):bi [p] p.1=0:=rB (A:=[]) (B:=[]) hp fun b hb=> by cases hb
theorem qQ {k:Nat} (hp:p.1 < 40) (hk:k≠p.1):bi [p] k= -1:=by
 have:=jp [] p hp
 rw [List.nil_append] at this
 rw [this,← oM]
 unfold pS bO;rw [if_neg hk,if_pos ab]
theorem UOk.one {d v:List Tx} (U:UOk d v (A++p::B)):UOk d v [p]:=
 ⟨U.nd,U.len,fun q hq=> U.ok q (by simp at hq;subst hq;simp),fun q hq=> U.pp q (by simp at hq;subst hq;simp),fun q hq=> U.h q (by simp at hq;subst hq;simp),by have:=U.c;have:=sD (A:=A) (B:=B) (p:=p);omega,by simp⟩
theorem kD:0 < (aO [p] 0).length:=by simp [aO]
theorem CmpOk.one {d v:List Tx} (U:UOk d v (A++p::B)) (hB: ∀ b∈B,b.1≠p.1) (h:CmpOk (A++p::B)):CmpOk [p]:=by
 have hp:=U.h p (by simp)
 have hl:=sD (A:=A) (B:=B) (p:=p)
 refine ⟨by have:=h.1;omega,fun k hk e he i hi=> ?_⟩
 by_cases hkp:k=p.1
 ·subst hkp
  rw [jZ hp] at he
  obtain rfl:e=0:=by omega
  have hg:=U.one.good
  have hi2:=hi.lt hg kD
  have h1:=h.2 _ hk _ (rB (A:=A) hp fun b hb=> ⟨U.h b (by simp [hb]),hB b hb⟩) _ (Eb (A:=A) (B:=B) hg kD hi)
  unfold rk at h1 ⊢
  rwa [wP hi2,sP,El hi2] at h1
 rw [qQ hp hkp] at he;omega
end
def Fd (S:Nat→Prop) (l:List Int):Prop:= ∀ i,0≤l.getD i (-1)→S i
section
variable {S:Nat→Prop} {C:List bq}
theorem Fd.put {n j:Nat} {d:Int} {s:DS} (h:Fd S s.1) (hj:S j):Fd S (gx n d s j).1:=by
 unfold gx
 split
 ·exact h
 split
 ·intro i hi
  simp only at hi
  rw [ga] at hi
  split at hi
  ·rename_i hc;rw [hc.1];exact hj
  exact h i hi
 split <;> exact h
theorem Fd.fold {n:Nat} {d:Int}: ∀ (l:List Nat) {s:DS},Fd S s.1→(∀ j∈l,S j)→Fd S (l.foldl (gx n d) s).1
 | [],_,h,_=> h
 | j::l,s,h,hl=> Fd.fold l (h.put (hl j (by simp))) fun k hk=> hl k (by simp [hk])
theorem Fd.step (hS: ∀ i,S i→ ∀ j∈bP i (bC C i),S j) {s:DS} {i:Nat} (h:Fd S s.1):Fd S (jm C s i).1:=by
 unfold jm
 split
 ·exact h
 rename_i hn
 exact Fd.fold _ h (hS i (h i ab))
theorem Fd.pass (hS: ∀ i,S i→ ∀ j∈bP i (bC C i),S j) {s:List Int×Bool} (h:Fd S s.1): ∀ k,Fd S (cF C s k).1
 | 0=> h
 | k+1=> by rw [lM];exact (Fd.pass hS h k).step hS
theorem Fd.loop (hS: ∀ i,S i→ ∀ j∈bP i (bC C i),S j): ∀ f {s:List Int×Bool},Fd S s.1→Fd S (gE C f s).1
 | 0,_,h=> h
 | f+1,s,h=> by
  unfold gE
  split
  ·exact Fd.loop hS f (h.pass hS C.length)
  exact h.pass hS C.length
theorem Ds (e:Nat):Fd (Rch C e) (eY C (e:Int)).1:=by
 have hr: ∀ i,(List.replicate C.length (-1:Int)).getD i (-1)= -1:=fun i=> by rw [List.getD_eq_getElem?_getD,List.getElem?_replicate];split <;> rfl
 unfold eY
 split
 ·intro i hi
  simp only at hi
  rw [hr] at hi;omega
 refine Fd.loop (fun i hi j hj=> .step hi hj) _ fun i hi=> ?_
 simp only at hi
 rw [ga] at hi
 split at hi
 ·rename_i hc;rw [hc.1,Int.toNat_natCast];exact .here
 rw [hr] at hi;omega
end
theorem Rch.le16 {D:Nat→Nat} {nv:Nat} {C:List bq} (hg:Good D nv 0 (C.length - 1) 0 C) {e i:Nat} (he:e < C.length) (hD:D e=0) (ho: ∀ i,Rch C e i→rk C D i) (h:Rch C e i):D i≤16:=by
 cases h with
 | here=> omega
 | step h hj=> rw [((hg.at (h.lt hg he)).2.2 _ hj).2];exact ho _ h
theorem Bz {D:Nat→Nat} {nv:Nat} {C:List bq} (hg:Good D nv 0 (C.length - 1) 0 C) {e:Nat} (he:e < C.length) (hD:D e=0) (ho: ∀ i,Rch C e i→rk C D i): ∀ k,k≤C.length→hQ C (eY C (e:Int)).1 k≤16
 | 0,_=> by simp [hQ]
 | k+1,hk=> by
  have h1:=Bz hg he hD ho k ab
  have hd:=kC hg (e:=(e:Int)) fun _ _=> by rw [Int.toNat_natCast];exact hD
  have h4:=hd.val k ab
  simp only at h4
  rw [lK]
  split
  ·rename_i h5
   have hr:=Ds (C:=C) e k h5
   have h6:=hr.le16 hg he hD ho
   have h7:=ho k hr
   have h8:=(hg.at (i:=k) ab).2.1
   unfold rk at h7
   rcases h4 with h4 | h4
   ·omega
   rw [h4];omega
  exact h1
def Bd (k:Nat):Nat:=[0,1,2,10,40].getD k 40
theorem pq (pk:Nat→Int): ∀ m k i,m+k≤4→(∀ p∈eh pk m k i,Bd k≤p.1)∧(eh pk m k i).Pairwise fun p q=> p.1 < q.1
 | 0,_,_,_=> by simp [eh]
 | m+1,k,i,h=> by
  have h8:=co pk (i+1) (show 0 < 8 by omega)
  have h30:=co pk (i+2) (show 0 < 30 by omega)
  have hk:k=0∨k=1∨k=2∨k=3:=by omega
  have hlow:Bd k≤Bd (k+1):=by rcases hk with rfl | rfl | rfl | rfl <;> decide
  unfold eh
  split
  ·obtain ⟨h1,h2⟩:=pq pk m (k+1) (gm pk (eZ pk 2) 3 (i+3)).2 ab
   refine ⟨fun p hp=> ?_,List.pairwise_cons.2 ⟨fun q hq=> ?_,h2⟩⟩
   ·rcases List.mem_cons.1 hp with rfl | hp
    ·rcases hk with rfl | rfl | rfl | rfl <;> simp [Bd]
    have:=h1 p hp;omega
   have:=h1 q hq
   rcases hk with rfl | rfl | rfl | rfl <;> simp [Bd] at this ⊢ <;> omega
  obtain ⟨h1,h2⟩:=pq pk m (k+1) (i+1) ab
  exact ⟨fun p hp=> by have:=h1 p hp;omega,h2⟩
theorem Gm (a:List Int):(qf a).Pairwise fun p q=> p.1 < q.1:=(pq _ 4 0 0 ab).2
end Go.Proofs.YtmjnackchaahbaaGreat

set_option maxHeartbeats 2000000
namespace Go.Proofs.YtmjnackchaahbaaGreat
open Go.RowKit

theorem Kw {ρ:ay→ay} {σ:St} {F:ay→Bool} {id id':ay} (h:ρ id=id'):Lv ρ σ F (.mp id) (.mp id'):=by subst h;exact .mp
def Me (a b:Int):List MapEntry:=[⟨.int .i64 1, .agg #[.int .i64 0, .int .i64 1, .int .i64 (-2147483647), .int .i64 2147483647],0⟩,⟨.int .i64 2, .agg #[.int .i64 0, .int .i64 1, .int .i64 (0), .int .i64 a],1⟩,⟨.int .i64 3, .agg #[.int .i64 1, .int .i64 0, .int .i64 (0), .int .i64 a],2⟩,⟨.int .i64 4, .agg #[.int .i64 0, .int .i64 1, .int .i64 (0), .int .i64 8],3⟩,⟨.int .i64 5, .agg #[.int .i64 1, .int .i64 1, .int .i64 (0), .int .i64 0],4⟩,⟨.int .i64 6, .agg #[.int .i64 2, .int .i64 1, .int .i64 (0), .int .i64 0],5⟩,⟨.int .i64 7, .agg #[.int .i64 2, .int .i64 1, .int .i64 (0), .int .i64 0],6⟩,⟨.int .i64 8, .agg #[.int .i64 2, .int .i64 1, .int .i64 (0), .int .i64 0],7⟩,⟨.int .i64 9, .agg #[.int .i64 2, .int .i64 1, .int .i64 (0), .int .i64 0],8⟩,⟨.int .i64 10, .agg #[.int .i64 1, .int .i64 1, .int .i64 (0), .int .i64 0],9⟩,⟨.int .i64 11, .agg #[.int .i64 2, .int .i64 1, .int .i64 (0), .int .i64 0],10⟩,⟨.int .i64 12, .agg #[.int .i64 2, .int .i64 1, .int .i64 (0), .int .i64 0],11⟩,⟨.int .i64 13, .agg #[.int .i64 2, .int .i64 1, .int .i64 (0), .int .i64 0],12⟩,⟨.int .i64 14, .agg #[.int .i64 1, .int .i64 1, .int .i64 (0), .int .i64 0],13⟩,⟨.int .i64 15, .agg #[.int .i64 0, .int .i64 0, .int .i64 (0), .int .i64 b],14⟩,⟨.int .i64 16, .agg #[.int .i64 1, .int .i64 0, .int .i64 (0), .int .i64 b],15⟩,⟨.int .i64 17, .agg #[.int .i64 3, .int .i64 0, .int .i64 (0), .int .i64 29],16⟩,⟨.int .i64 18, .agg #[.int .i64 0, .int .i64 0, .int .i64 (0), .int .i64 7],17⟩,⟨.int .i64 19, .agg #[.int .i64 0, .int .i64 0, .int .i64 (0), .int .i64 7],18⟩,⟨.int .i64 20, .agg #[.int .i64 0, .int .i64 0, .int .i64 (0), .int .i64 0],19⟩,⟨.int .i64 21, .agg #[.int .i64 2, .int .i64 0, .int .i64 (0), .int .i64 0],20⟩,⟨.int .i64 22, .agg #[.int .i64 1, .int .i64 0, .int .i64 (0), .int .i64 0],21⟩,⟨.int .i64 23, .agg #[.int .i64 0, .int .i64 0, .int .i64 (0), .int .i64 0],22⟩]
def KE:Opc→Int
 | .push=> -2147483647 | _=> 0
def Kr (a b:Int):Opc→Int
 | .push=> 2147483647 | .var=> a | .setVar=> a | .name=> 8 | .jump=> b | .unl=> b | .send=> 29 | .timer=> 7 | .cancel=> 7 | _=> 0
theorem EY (a b:Int) (o:Opc):Instr.findNow (.int .i64) (.int .i64 (o.num:Int)) (Me a b) 0=some (some (o.num - 1, .agg #[.int .i64 (o.pops:Int), .int .i64 (o.puts:Int), .int .i64 (KE o), .int .i64 (Kr a b o)])):=by
 cases o <;> kernel_rfl
theorem tg (C:List bq) (e:Nat→Int) (dd vv:Nat) (hC:C.length≤1000000) (hd:dd≤1000) (hv:vv≤1000):
  Spec Tryz.prog 105 (aQ [.agg (rX C.length (inl C) e (dd:Int) (vv:Int))] []) (aG (.mp (0,8)) [((0,8), .mp (Me ((dd:Int)+(vv:Int) - 1) ((C.length:Int) - 1)) 23)]):=by
 refine Spec.ofN Tryz.func105 rfl Tryz.ntmps105 rfl ?_
 refine go 4 ?_
 refine aA (dA 12 [] ?_)
 refine go 27 ?_
 refine ai (fm (15,0) rfl) (go 1 ?_)
 refine ai (aK _ _ _ Tryz.underlying188 Tryz.underlying3 rfl rfl rfl rfl rfl (.agg ((.cons rfl (.cons rfl (.cons rfl (.cons rfl .nil)))))) ae (rfl:_=[_])) ?_
 refine go 2 ?_
 refine ai (aK _ _ _ Tryz.underlying188 Tryz.underlying3 rfl rfl rfl rfl rfl (.agg ((.cons rfl (.cons rfl (.cons rfl (.cons rfl .nil)))))) ae (rfl:_=[_,_])) ?_
 refine go 2 ?_
 refine ai (aK _ _ _ Tryz.underlying188 Tryz.underlying3 rfl rfl rfl rfl rfl (.agg ((.cons rfl (.cons rfl (.cons rfl (.cons rfl .nil)))))) ae (rfl:_=[_,_,_])) ?_
 refine go 1 ?_
 refine ai (aK _ _ _ Tryz.underlying188 Tryz.underlying3 rfl rfl rfl rfl rfl (.agg ((.cons rfl (.cons rfl (.cons rfl (.cons rfl .nil)))))) ae (rfl:_=[_,_,_,_])) ?_
 refine go 1 ?_
 refine ai (aK _ _ _ Tryz.underlying188 Tryz.underlying3 rfl rfl rfl rfl rfl (.agg ((.cons rfl (.cons rfl (.cons rfl (.cons rfl .nil)))))) ae (rfl:_=[_,_,_,_,_])) ?_
 refine go 1 ?_
 refine ai (aK _ _ _ Tryz.underlying188 Tryz.underlying3 rfl rfl rfl rfl rfl (.agg ((.cons rfl (.cons rfl (.cons rfl (.cons rfl .nil)))))) ae (rfl:_=[_,_,_,_,_,_])) ?_
 refine go 1 ?_
 refine ai (aK _ _ _ Tryz.underlying188 Tryz.underlying3 rfl rfl rfl rfl rfl (.agg ((.cons rfl (.cons rfl (.cons rfl (.cons rfl .nil)))))) ae (rfl:_=[_,_,_,_,_,_,_])) ?_
 refine go 1 ?_
 refine ai (aK _ _ _ Tryz.underlying188 Tryz.underlying3 rfl rfl rfl rfl rfl (.agg ((.cons rfl (.cons rfl (.cons rfl (.cons rfl .nil)))))) ae (rfl:_=[_,_,_,_,_,_,_,_])) ?_
 refine go 1 ?_
 refine ai (aK _ _ _ Tryz.underlying188 Tryz.underlying3 rfl rfl rfl rfl rfl (.agg ((.cons rfl (.cons rfl (.cons rfl (.cons rfl .nil)))))) ae (rfl:_=[_,_,_,_,_,_,_,_,_])) ?_
 refine go 1 ?_
 refine ai (aK _ _ _ Tryz.underlying188 Tryz.underlying3 rfl rfl rfl rfl rfl (.agg ((.cons rfl (.cons rfl (.cons rfl (.cons rfl .nil)))))) ae (rfl:_=[_,_,_,_,_,_,_,_,_,_])) ?_
 refine go 1 ?_
 refine ai (aK _ _ _ Tryz.underlying188 Tryz.underlying3 rfl rfl rfl rfl rfl (.agg ((.cons rfl (.cons rfl (.cons rfl (.cons rfl .nil)))))) ae (rfl:_=[_,_,_,_,_,_,_,_,_,_,_])) ?_
 refine go 1 ?_
 refine ai (aK _ _ _ Tryz.underlying188 Tryz.underlying3 rfl rfl rfl rfl rfl (.agg ((.cons rfl (.cons rfl (.cons rfl (.cons rfl .nil)))))) ae (rfl:_=[_,_,_,_,_,_,_,_,_,_,_,_])) ?_
 refine go 1 ?_
 refine ai (aK _ _ _ Tryz.underlying188 Tryz.underlying3 rfl rfl rfl rfl rfl (.agg ((.cons rfl (.cons rfl (.cons rfl (.cons rfl .nil)))))) ae (rfl:_=[_,_,_,_,_,_,_,_,_,_,_,_,_])) ?_
 refine go 1 ?_
 refine ai (aK _ _ _ Tryz.underlying188 Tryz.underlying3 rfl rfl rfl rfl rfl (.agg ((.cons rfl (.cons rfl (.cons rfl (.cons rfl .nil)))))) ae (rfl:_=[_,_,_,_,_,_,_,_,_,_,_,_,_,_])) ?_
 refine go 2 ?_
 refine ai (aK _ _ _ Tryz.underlying188 Tryz.underlying3 rfl rfl rfl rfl rfl (.agg ((.cons rfl (.cons rfl (.cons rfl (.cons rfl .nil)))))) ae (rfl:_=[_,_,_,_,_,_,_,_,_,_,_,_,_,_,_])) ?_
 refine go 2 ?_
 refine ai (aK _ _ _ Tryz.underlying188 Tryz.underlying3 rfl rfl rfl rfl rfl (.agg ((.cons rfl (.cons rfl (.cons rfl (.cons rfl .nil)))))) ae (rfl:_=[_,_,_,_,_,_,_,_,_,_,_,_,_,_,_,_])) ?_
 refine go 1 ?_
 refine ai (aK _ _ _ Tryz.underlying188 Tryz.underlying3 rfl rfl rfl rfl rfl (.agg ((.cons rfl (.cons rfl (.cons rfl (.cons rfl .nil)))))) ae (rfl:_=[_,_,_,_,_,_,_,_,_,_,_,_,_,_,_,_,_])) ?_
 refine go 1 ?_
 refine ai (aK _ _ _ Tryz.underlying188 Tryz.underlying3 rfl rfl rfl rfl rfl (.agg ((.cons rfl (.cons rfl (.cons rfl (.cons rfl .nil)))))) ae (rfl:_=[_,_,_,_,_,_,_,_,_,_,_,_,_,_,_,_,_,_])) ?_
 refine go 1 ?_
 refine ai (aK _ _ _ Tryz.underlying188 Tryz.underlying3 rfl rfl rfl rfl rfl (.agg ((.cons rfl (.cons rfl (.cons rfl (.cons rfl .nil)))))) ae (rfl:_=[_,_,_,_,_,_,_,_,_,_,_,_,_,_,_,_,_,_,_])) ?_
 refine go 1 ?_
 refine ai (aK _ _ _ Tryz.underlying188 Tryz.underlying3 rfl rfl rfl rfl rfl (.agg ((.cons rfl (.cons rfl (.cons rfl (.cons rfl .nil)))))) ae (rfl:_=[_,_,_,_,_,_,_,_,_,_,_,_,_,_,_,_,_,_,_,_])) ?_
 refine go 1 ?_
 refine ai (aK _ _ _ Tryz.underlying188 Tryz.underlying3 rfl rfl rfl rfl rfl (.agg ((.cons rfl (.cons rfl (.cons rfl (.cons rfl .nil)))))) ae (rfl:_=[_,_,_,_,_,_,_,_,_,_,_,_,_,_,_,_,_,_,_,_,_])) ?_
 refine go 1 ?_
 refine ai (aK _ _ _ Tryz.underlying188 Tryz.underlying3 rfl rfl rfl rfl rfl (.agg ((.cons rfl (.cons rfl (.cons rfl (.cons rfl .nil)))))) ae (rfl:_=[_,_,_,_,_,_,_,_,_,_,_,_,_,_,_,_,_,_,_,_,_,_])) ?_
 refine go 1 ?_
 refine ai (aK _ _ _ Tryz.underlying188 Tryz.underlying3 rfl rfl rfl rfl rfl (.agg ((.cons rfl (.cons rfl (.cons rfl (.cons rfl .nil)))))) ae (rfl:_=[_,_,_,_,_,_,_,_,_,_,_,_,_,_,_,_,_,_,_,_,_,_,_])) ?_
 refine go 3 ?_
 exact aq (dm (.inr rfl) rfl (.tmp (rfl:_=AV.mp _)) (Le.out [((0,8),(15,0))] [] (Kw rfl) rfl rfl rfl trivial ⟨⟨rfl,⟨_,rfl, .mp⟩,rfl⟩,trivial⟩))
def dM (D:Nat→Nat) (F:List Nat):List (Int×Value):=F.map fun (i:Nat)=> ((i:Int), .int .i64 (D i:Int))
theorem An {D:Nat→Nat} {F:List Nat} {i:Nat} (h:i∈F):fX (dM D F) (i:Int)=some (.int .i64 (D i:Int)):=
 xY ⟨_,List.mem_map.2 ⟨i,h,rfl⟩,rfl⟩ fun p hp hi=> by
  obtain ⟨j,_,rfl⟩:=List.mem_map.1 hp
  simp only at hi
  obtain rfl:j=i:=by omega
  rfl
theorem Fx {D:Nat→Nat} {F:List Nat} {i:Nat} (h:i∉F):fX (dM D F) (i:Int)=none:=
 xW fun p hp hi=> by
  obtain ⟨j,hj,rfl⟩:=List.mem_map.1 hp
  simp only at hi
  obtain rfl:j=i:=by omega
  exact h hj
theorem ph (D:Nat→Nat) (F:List Nat):(dM D F).length=F.length:=by simp [dM]
theorem GE (D:Nat→Nat) (F:List Nat) (j:Nat) {x:Int} (hx:x=(D j:Int)):dM D F++[((j:Int), .int .i64 x)]=dM D (F++[j]):=by subst hx;simp [dM]
theorem zO (l:List Nat) (j:Nat):nC l++[.v (.int .i64 (j:Int))]=nC (l++[j]):=by simp [nC]
theorem GC (l:List Nat) (j:Nat):(nC (l++[j]))[l.length]? =some (.v (.int .i64 (j:Int))):=by simp [nC]
theorem Ec (l:List Nat) (j:Nat):(nC (l++[j])).take l.length=nC l:=by simp [nC]
theorem uI {i:Nat} {o:Opc} {n:Int} (h1: ¬ (o.num:Int)=23) (h2: ¬ (o.num:Int)=15) (h3: ¬ (o.num:Int)=16):[i+1]=bP i ⟨o,n⟩:=by
 unfold bP
 have h1:o≠ .stop:=fun e=> h1 (opn_stop.2 e)
 have h2:o≠ .jump:=fun e=> h2 (opn_jump.2 e)
 have h3:o≠ .unl:=fun e=> h3 (opn_unl.2 e)
 cases o <;> first | rfl | exact absurd rfl h1 | exact absurd rfl h2 | exact absurd rfl h3
theorem tv: ∀ (l:List Nat) (s:FW),(fy l s).2.length≤s.2.length+l.length
 | [],_=> Nat.le_refl _
 | j::l,s=> by
  have h:=tv l (jU s j)
  have h2:(jU s j).2.length≤s.2.length+1:=by unfold jU;split <;> simp
  show (fy l (jU s j)).2.length≤_
  simp only [List.length_cons];omega
theorem Bg {l:List Nat} {k j:Nat} (h:l[k]? =some j):(nC l)[k]? =some (.v (.int .i64 (j:Int))):=by simp [nC,h]
theorem vH (C:List bq) (en:Nat→Int) (dd vv:Int) (e:Int) (he:e < 0):Spec Tryz.prog 70 (aQ [.agg (rX C.length (inl C) en dd vv), .v (.int .i64 e)] []) (aG (.v (.int .i64 0)) []):=by
 refine Spec.ofN Tryz.func70 rfl Tryz.ntmps70 rfl ?_
 refine go 7 ?_
 refine ai (dg (r:=true) _ _ rfl rfl (decide_eq_true he)) ?_
 refine go 5 ?_
 exact aq (eu rfl rfl)
set_option maxHeartbeats 2000000 in
theorem ur (C:List bq) (en:Nat→Int) (dd vv:Nat) (hd:dd≤1000) (hv:vv≤1000) (hC:C.length≤1000000) (e:Nat) (he:e < C.length) (D:Nat→Nat) (nv:Nat) (hg:Good D nv 0 (C.length - 1) 0 C) (hD:D e=0) (hDb: ∀ i,D i≤1000000) (r:Int) (hr1:r=0∨r=13) (hr:r=0↔ ∀ i,Rch C e i→rk C D i):
  Spec Tryz.prog 70 (aQ [.agg (rX C.length (inl C) en (dd:Int) (vv:Int)), .v (.int .i64 (e:Int))] []) (aG (.v (.int .i64 r)) []):=by
 have hsh:=tg C en dd vv hC hd hv
 generalize (dd:Int)+(vv:Int) - 1=sa at hsh
 generalize (C.length:Int) - 1=sb at hsh
 refine Spec.ofN Tryz.func70 rfl Tryz.ntmps70 rfl ?_
 refine go 13 ?_
 refine ai (db aa [((0,8),(21,0))] ar (hsh.toI) trivial tr tr rfl rfl ae ae) ?_
 refine ai (bg _ (rfl:_=AV.mp (21,0))) ?_
 refine aj (aH (ai (fm (22,0) rfl) (bE rfl (ai (aK _ _ _ Tryz.underlying190 Tryz.underlying3 rfl rfl rfl rfl rfl .v rfl (show [⟨.int .i64 (e:Int), .int .i64 0,0⟩]=cM (dM D [e]) by simp [dM,cM,iB,hD])) ?_))))
 refine go 6 ?_
 refine ax fun K7 hK7=> ?_
 refine aH (bE rfl (ai (jQ (26,0) _ _ aa rfl ag (by (simp <;> rfl)) ah rfl rfl) ?_))
 refine gF rfl (aj (aN ?_))
 refine aX (α:=FW×Int) (fun z=> FI C D e z.1 z.2) 122 [(2,_),(5,_),(6,_)] [((2,0),_),((21,0),_)] (fun z=> [(7, .v (.int .i64 z.2)),(8, .ref (26,0) 0 z.1.2.length)]) (fun z=> [((22,0), .mp (cM (dM D z.1.1)) z.1.1.length),((26,0), .row 3 1 (nC z.1.2))]) [] [] (fun z=> JL C.length z.1) (([e],[e]),0) ?_ (by
  refine Le.mkJ [] [] rfl ?_ ?_ trivial trivial ?_
  ·exact ⟨(iP rfl),(iM rfl),(iM rfl),(eN ag),(eH rfl ag),trivial⟩
  ·exact ⟨(dc rfl rfl rfl),(dc rfl rfl rfl),(FC rfl rfl rfl ag ag),(im rfl rfl rfl ag),trivial⟩
  kernel_rfl) ?_
 ·exact FI.start C D e
 intro z hz
 obtain ⟨⟨F,Wk⟩,q⟩:=z
 simp only at hz ⊢
 have hFl:F.length≤C.length:=kW _ _ hz.nd fun x hx=> (hz.rch x hx).lt hg he
 have hWl:Wk.length≤C.length:=kW _ _ hz.wn fun x hx=> (hz.rch x (hz.ws x hx)).lt hg he
 refine ax fun K9 hK9=> ?_
 refine go 5 ?_
 refine aD rfl (fun hc29=> ?_) (fun hc29=> ?_)
 ·obtain ⟨W,i,rfl⟩: ∃ W i,Wk=W++[i]:=by
   rcases List.eq_nil_or_concat Wk with h | ⟨W,i,h⟩
   ·rw [h] at hc29;simp at hc29
   exact ⟨W,i,by rw [h,List.concat_eq_append]⟩
  have hiF:=hz.ws i (by simp)
  have hi:=(hz.rch i hiF).lt hg he
  obtain ⟨ho1,ho2,ho3⟩:=hg.at hi
  have hga:=pJ C i hi
  have hWn:(W++[i]).length=W.length+1:=by simp
  have hmu:=He hg he hz
  have hFN:=fun r' hr'=> FI.next (r':=r') hz hr'
  have hfa:=fun l=> oO l (F,W) (fun x hx=> hz.ws x (List.mem_append.2 (.inl hx))) hz.nd (List.nodup_append.1 hz.wn).1
  have hlk:=An (D:=D) hiF
  have hDi:=hDb i
  have hdo:rk C D i↔D i - (bC C i).op.pops+(bC C i).op.puts≤16:=Iff.rfl
  obtain ⟨⟨o,n⟩,hx⟩: ∃ x,bC C i=x:=⟨_,rfl⟩
  rw [hx] at ho1 ho2 ho3 hga hmu hFN hdo
  simp only at ho2 ho3 hga hdo
  have hop:=wp o
  have hsf:=EY sa sb o
  refine aU (hK9 _ ?_)
  refine go 5 ?_
  refine ai (bB (r:=(W.length:Int)) _ _ rfl rfl ((bT ab).trans ab)) ?_
  refine ai (fM _ _ aa rfl rfl ag W.length rfl ab (by exact (Nat.zero_add _).trans (Nat.mul_one _))) ?_
  refine ai (ke _ aa rfl rfl (GC W i) rfl) ?_
  refine go 6 ?_
  refine ai (bB (r:=(W.length:Int)) _ _ rfl rfl ((bT ab).trans ab)) ?_
  refine ai (AZ _ _ _ aa rfl rfl 0 W.length .dflt (.lit rfl rfl) ab ab rfl (Nat.sub_zero _)) ?_
  refine gF rfl (aj (aA ?_))
  refine az (Le.cutR (26,0) W.length rfl (Ec W i)) ?_
  refine go 4 ?_
  refine ai (aL _ _ aa rfl rfl i rfl ab (by rw [bo];omega) rfl) ?_
  refine ai (bu _ aa rfl (by exact hga) rfl) ?_
  refine go 3 ?_
  refine aA ?_
  refine az (σ':=ap 122 [(2,_),(5,_),(6,_),(7,_),(8,_),(9,_),(10,_)] [((2,0),_),((21,0),_),((22,0),_),((26,0),_),((10,0),_)] [] []) kp ?_
  refine go 4 ?_
  refine ai (eC _ _ Tryz.underlying188 Tryz.underlying3 rfl Tryz.zeroValue192 rfl rfl rfl hsf rfl (.agg (.cons rfl (.cons rfl (.cons rfl (.cons rfl .nil)))))) ?_
  refine go 6 ?_
  refine ai (tP _ _ Tryz.underlying190 Tryz.underlying3 Tryz.zeroValue3 rfl rfl rfl (by rw [hlk])) ?_
  refine go 2 ?_
  refine ai (bB (r:=((D i - o.pops:Nat):Int)) _ _ rfl rfl ((bT ab).trans ab)) ?_
  refine go 2 ?_
  refine ai (dL (r:=((D i - o.pops+o.puts:Nat):Int)) _ _ rfl rfl ((bT ab).trans ab)) ?_
  refine bF rfl (aj ?_)
  refine wU (α:=Int) (fun p=> (rk C D i∧p=q)∨(¬ rk C D i∧p=13)) 122 [(2,_),(5,_),(6,_),(8,_),(9,_),(10,_),(12,_)] [((2,0),_),((21,0),_),((22,0),_),((26,0),_),((10,0),_)] (fun p=> [(7, .v (.int .i64 p))]) (fun p=> []) [] []
   (by exact ⟨(iP rfl),(iM rfl),(iM rfl),(iR rfl),(iV rfl),(iP rfl),(iV rfl),trivial⟩)
   (by exact ⟨(dc rfl rfl rfl),(dc rfl rfl rfl),(dc rfl rfl rfl),(dc rfl rfl rfl),(dc rfl rfl rfl),trivial⟩) ?_ ?_
  ·refine aA ?_
   refine az (σ':=ap 122 [(2,_),(5,_),(6,_),(7,_),(8,_),(9,_),(10,_),(11,_),(12,_)] [((2,0),_),((21,0),_),((22,0),_),((26,0),_),((10,0),_),((11,0),_)] [] []) kp ?_
   refine go 3 ?_
   refine ai (tP _ _ Tryz.underlying190 Tryz.underlying3 Tryz.zeroValue3 rfl rfl rfl (by rw [hlk])) ?_
   refine go 2 ?_
   refine ai (dg (r:=false) _ _ rfl rfl (decide_eq_false ab)) ?_
   refine go 5 ?_
   refine aD rfl (fun hc68=> ?_) (fun hc68=> ?_)
   ·refine an (bF rfl (am (⟨13,?_,?_⟩)))
    ·exact .inr ⟨fun h=> by have:=hdo.1 h;omega,rfl⟩
    exact kj [0,0,0,0,0] [] []
   refine aU (⟨q,?_,?_⟩)
   ·exact .inl ⟨hdo.2 ab,rfl⟩
   exact kj [0,0,0,0,0] [] []
  intro p hp
  have hFN:=hFN p hp
  clear hdo hp
  have hni:o= .jump∨o= .unl→0≤n:=fun h=> by rcases h with rfl | rfl <;> exact ho1
  refine aH (ai (bg _ fg) (aj ?_))
  refine wU (α:=List Nat) (fun nx=> nx=bP i ⟨o,n⟩) 122 [(2,_),(5,_),(6,_),(7,_),(8,_),(12,_)] [((2,0),_),((21,0),_),((22,0),_),((26,0),_)] (fun nx=> [(13, .sl nx.length (nC nx))]) (fun nx=> []) [] []
   (by exact ⟨(iP rfl),(iM rfl),(iM rfl),(iV rfl),(iR rfl),(iV rfl),trivial⟩)
   (by exact ⟨(dc rfl rfl rfl),(dc rfl rfl rfl),(dc rfl rfl rfl),(dc rfl rfl rfl),trivial⟩) ?_ ?_
  ·refine go 6 ?_
   refine ai (ca _ _ rfl rfl rfl) (gP rfl (aj (aD rfl (fun hc74=> ?_) (fun hc74=> ?_))))
   ·refine aU (⟨[],?_,?_⟩)
    ·obtain rfl:=opn_stop.1 hc74
     rfl
    refine Le.mkJ [] [] rfl ?_ ?_ trivial trivial ?_
    ·exact ⟨(iP rfl),(iM rfl),(iM rfl),(iV rfl),(iR rfl),(iV rfl),(by exact Lv.nil),trivial⟩
    ·exact ⟨(dc rfl rfl rfl),(dc rfl rfl rfl),(dc rfl rfl rfl),(dc rfl rfl rfl),trivial⟩
    kernel_rfl
   refine aH (ai (ca _ _ rfl rfl rfl) (gP rfl (aj (aD rfl (fun hc76=> ?_) (fun hc76=> ?_)))))
   ·refine go 5 ?_
    refine am (⟨[n.toNat],?_,?_⟩)
    ·obtain rfl:=opn_jump.1 hc76
     rfl
    refine Le.mkJ [] [] rfl ?_ ?_ trivial trivial ?_
    ·exact ⟨(iP rfl),(iM rfl),(iM rfl),(iV rfl),(iR rfl),(iV rfl),(by exact iu ag (by (simp [nC,Int.toNat_of_nonneg (hni (.inl (opn_jump.1 hc76)))]))),trivial⟩
    ·exact ⟨(dc rfl rfl rfl),(dc rfl rfl rfl),(dc rfl rfl rfl),(dc rfl rfl rfl),trivial⟩
    kernel_rfl
   refine aH (ai (ca _ _ rfl rfl rfl) (gP rfl (aj (aD rfl (fun hc81=> ?_) (fun hc81=> ?_)))))
   ·refine go 7 ?_
    refine am (⟨[i+1,n.toNat],?_,?_⟩)
    ·obtain rfl:=opn_unl.1 hc81
     rfl
    refine Le.mkJ [] [] rfl ?_ ?_ trivial trivial ?_
    ·exact ⟨(iP rfl),(iM rfl),(iM rfl),(iV rfl),(iR rfl),(iV rfl),(by exact iu ag (by (simp [nC,Int.toNat_of_nonneg (hni (.inr (opn_unl.1 hc81)))]))),trivial⟩
    ·exact ⟨(dc rfl rfl rfl),(dc rfl rfl rfl),(dc rfl rfl rfl),(dc rfl rfl rfl),trivial⟩
    kernel_rfl
   refine go 5 ?_
   refine am (⟨[i+1],?_,?_⟩)
   ·exact uI hc74 hc76 hc81
   refine Le.mkJ [] [] rfl ?_ ?_ trivial trivial ?_
   ·exact ⟨(iP rfl),(iM rfl),(iM rfl),(iV rfl),(iR rfl),(iV rfl),(by exact iu ag ag),trivial⟩
   ·exact ⟨(dc rfl rfl rfl),(dc rfl rfl rfl),(dc rfl rfl rfl),(dc rfl rfl rfl),trivial⟩
   kernel_rfl
  intro nx hnx
  rw [← hnx] at hmu hFN ho3
  clear hni hsf hga ho1 hlk
  have hfb:=hfa nx
  have jr:nx.length≤2:=by rw [hnx];unfold bP;split <;> simp
  refine go 6 ?_
  refine aX (α:=Nat) (fun k=> k≤nx.length) 122 [(2,_),(5,_),(6,_),(7,_),(12,_),(88,_),(89,_)] [((2,0),_),((21,0),_)] (fun k=> [(90, .v (.int .i64 (k:Int))),(8, .ref (26,0) 0 (fy (nx.take k) (F,W)).2.length)]) (fun k=> [((22,0), .mp (cM (dM D (fy (nx.take k) (F,W)).1)) (fy (nx.take k) (F,W)).1.length),((26,0), .row 3 1 (nC (fy (nx.take k) (F,W)).2))]) [] [] (fun k=> nx.length - k) 0 ?_ (by
   refine Le.mkJ [] [] rfl ?_ ?_ trivial trivial ?_
   ·exact ⟨(iP rfl),(iM rfl),(iM rfl),(iV rfl),(iV rfl),(iS rfl),(iV rfl),(eN ag),(eH rfl ag),trivial⟩
   ·exact ⟨(dc rfl rfl rfl),(dc rfl rfl rfl),(FC rfl rfl rfl ag ag),(im rfl rfl rfl ag),trivial⟩
   kernel_rfl) ?_
  ·omega
  intro k hk
  refine go 3 ?_
  refine ax fun K24 hK24=> ?_
  refine aD rfl (fun hc91=> ?_) (fun hc91=> ?_)
  ·obtain ⟨j,hj⟩: ∃ j,nx[k]? =some j:=⟨_,List.getElem?_eq_getElem ab⟩
   have hjm:=List.mem_of_getElem? hj
   obtain ⟨hj1,hj2⟩:=ho3 j hjm
   have hsn:fy (nx.take (k+1)) (F,W)=jU (fy (nx.take k) (F,W)) j:=by
    rw [List.take_add_one,hj];exact xR _ _ _
   have hlt:=tv (nx.take k) (F,W)
   simp only at hlt
   have hkl:(nx.take k).length≤2:=by rw [List.length_take];omega
   refine aU (hK24 _ ?_)
   refine aA (aN (aH (ai (aL _ _ aa rfl rfl _ rfl ab (by (simp;omega)) (by exact Nat.mul_one _)) ?_)))
   refine ai (bh _ aa rfl (by exact Bg hj) rfl) ?_
   refine go 8 ?_
   refine ai (cf (r:=false) _ _ rfl rfl (decide_eq_false ab)) ?_
   refine aj (cd rfl rfl (cX (aA ?_)))
   rcases (Classical.em (j∈(fy (nx.take k) (F,W)).1)) with hm | hm
   ·skip
    refine go 3 ?_
    refine ai (uo _ _ Tryz.underlying190 Tryz.underlying3 Tryz.zeroValue3 rfl rfl rfl (An hm)) ?_
    refine go 7 ?_
    refine aA ?_
    refine az (σ':=ap 122 [(2,_),(5,_),(6,_),(7,_),(8,_),(12,_),(15,_),(16,_),(17,_),(88,_),(89,_),(90,_)] [((2,0),_),((21,0),_),((22,0),_),((26,0),_)] [] []) kp ?_
    refine go 5 ?_
    refine aZ rfl rfl (dv (r:=false) _ _ rfl rfl (by rw [hj2];exact bne_self_eq_false _)) ?_
    refine go 13 ?_
    refine am (⟨k+1,?_,?_,?_⟩)
    ·omega
    ·refine Le.mkJ [] [] rfl ?_ ?_ trivial trivial ?_
     ·exact ⟨(iP rfl),(iM rfl),(iM rfl),(iV rfl),(iV rfl),(iS rfl),(iV rfl),(eN ag),(eH rfl (by ((rw [hsn];unfold jU;rw [if_pos hm])))),trivial⟩
     ·exact ⟨(dc rfl rfl rfl),(dc rfl rfl rfl),(FC rfl rfl rfl (by ((rw [hsn];unfold jU;rw [if_pos hm]))) (by ((rw [hsn];unfold jU;rw [if_pos hm])))),(im rfl rfl rfl (by ((rw [hsn];unfold jU;rw [if_pos hm])))),trivial⟩
     kernel_rfl
    omega
   refine go 3 ?_
   refine ai (uo _ _ Tryz.underlying190 Tryz.underlying3 Tryz.zeroValue3 rfl rfl rfl (Fx hm)) ?_
   refine go 7 ?_
   refine aA ?_
   refine az (σ':=ap 122 [(2,_),(5,_),(6,_),(7,_),(8,_),(12,_),(15,_),(16,_),(17,_),(88,_),(89,_),(90,_)] [((2,0),_),((21,0),_),((22,0),_),((26,0),_)] [] []) kp ?_
   refine go 19 ?_
   refine ai (DT _ _ _ Tryz.underlying190 Tryz.underlying3 (ph _ _).symm rfl rfl rfl rfl (Fx hm) (GE D _ j (by rw [hj2])) rfl) ?_
   refine go 5 ?_
   refine ai (cG (119,0) _ _ aa rfl rfl (by simp) (.sl rfl) ab rfl (zO _ j) rfl) ?_
   refine gF rfl (qz ?_)
   refine az (σ':=ap 122 [(2,_),(5,_),(6,_),(7,_),(8,_),(12,_),(88,_),(89,_),(90,_)] [((2,0),_),((21,0),_),((22,0),_),((119,0),_)] [] []) kp ?_
   refine go 3 ?_
   refine am (⟨k+1,?_,?_,?_⟩)
   ·omega
   ·refine Le.mkJ [((26,0),(119,0))] [] rfl ?_ ?_ trivial trivial ?_
    ·exact ⟨(di (id:=(2,0)) rfl),(by repeat' (exact Lv.mp)),(by repeat' (exact Lv.mp)),(by repeat' (exact Lv.v)),(by repeat' (exact Lv.v)),(by repeat' (exact Lv.sl)),(by repeat' (exact Lv.v)),(eN ag),(eH rfl (by ((rw [hsn];unfold jU;rw [if_neg hm];try simp [ph])))),trivial⟩
    ·exact ⟨(iq rfl rfl rfl rfl (by repeat' (first | exact Lv.v | exact Lv.sl | exact bz | refine aB ?_ ?_))),(by exact FC rfl rfl rfl rfl rfl),(FC rfl rfl rfl (by ((rw [hsn];unfold jU;rw [if_neg hm];try simp [ph]))) (by ((rw [hsn];unfold jU;rw [if_neg hm];try simp [ph])))),(im rfl rfl rfl (by ((rw [hsn];unfold jU;rw [if_neg hm];try simp [ph])))),trivial⟩
    kernel_rfl
   omega
  obtain rfl:k=nx.length:=by omega
  rw [List.take_length] at*
  refine bm (id (⟨(fy nx (F,W),p),?_,?_,?_⟩))
  ·exact hFN
  ·refine Le.mkJ [] [] rfl ?_ ?_ trivial trivial ?_
   ·exact ⟨(iP rfl),(iM rfl),(iM rfl),(eN ag),(eH rfl ag),trivial⟩
   ·exact ⟨(dc rfl rfl rfl),(dc rfl rfl rfl),(FC rfl rfl rfl ag ag),(im rfl rfl rfl ag),trivial⟩
   kernel_rfl
  exact hmu
 obtain rfl:Wk=[]:=by
  cases Wk with
  | nil=> rfl
  | cons x l=> simp at hc29;omega
 obtain rfl:q=r:=by
  have h1:=hz.fin
  have h2:=hz.r01
  rcases h2 with h2 | h2 <;> rcases hr1 with h3 | h3
  ·rw [h2,h3]
  ·have:=hr.2 (h1.1 h2);omega
  ·have:=h1.2 (hr.1 h3);omega
  rw [h2,h3]
 refine bm (id (hK7 _ ?_))
 exact aH (bE rfl (bF rfl (aj (aq (eu rfl rfl)))))
end Go.Proofs.YtmjnackchaahbaaGreat

set_option maxHeartbeats 2000000
namespace Go.Proofs.YtmjnackchaahbaaGreat
open Go.RowKit

theorem wJ (l:List Hd) (k:Nat) (h:k < l.length):PV.ups (((jr l).drop (k*5)).take 5)=[.v (.int .i64 ((jW l k).1:Int)), .v (.int .i64 ((jW l k).2.k:Int)), .v (.int .i64 ((jW l k).2.n:Int)), .v (bt (jW l k).2.s), .sl (jW l k).2.kn (jW l k).2.kids]:=by
 have e:=nS wV 5 (fun _=> rfl) l k h
 rw [show jr l=l.flatMap wV from rfl,e,ls l k h];rfl
abbrev JQ (ons:List (Nat×Bk)) (k:Nat):Prop:= ∀ e:Nat,bi ons k=(e:Int)→ ∀ i,Rch (aO ons 0) e i→rk (aO ons 0) (lx ons) i
theorem Er {d v:List Tx} {ons:List (Nat×Bk)} (U:UOk d v ons) (k:Nat): ∃ r:Int,(r=0∨r=13)∧(r=0↔JQ ons k)∧Spec Tryz.prog 70 (aQ [GA d v ons, .v (.int .i64 (bi ons k))] []) (aG (.v (.int .i64 r)) []):=by
 have hl:=U.len
 rw [List.length_append] at hl
 rcases oR ons k with h | ⟨e,_,h,h1,h2⟩
 ·have h:bi ons k= -1:=h
  refine ⟨0, .inl rfl,⟨fun _ e he=> by omega,fun _=> rfl⟩,vH _ _ _ _ _ ab⟩
 have h:bi ons k=(e:Int):=h
 have key: ∀ r:Int,(r=0∨r=13)→(r=0↔ ∀ i,Rch (aO ons 0) e i→rk (aO ons 0) (lx ons) i)→ ∃ r:Int,(r=0∨r=13)∧(r=0↔JQ ons k)∧Spec Tryz.prog 70 (aQ [GA d v ons, .v (.int .i64 (bi ons k))] []) (aG (.v (.int .i64 r)) []):=fun r h3 h4=>
  ⟨r,h3,h4.trans ⟨fun h5 e' he=> (by rw [h] at he;obtain rfl:e=e':=ab;exact h5),fun h5=> h5 e h⟩,by rw [h];exact ur _ _ _ _ ab ab U.c e h1 (lx ons) _ U.good h2 (fun i=> Nat.le_trans (sH ons i) U.c) r h3 h4⟩
 rcases Classical.em (∀ i,Rch (aO ons 0) e i→rk (aO ons 0) (lx ons) i) with h3 | h3
 ·exact key 0 (.inl rfl) ⟨fun _=> h3,fun _=> rfl⟩
 exact key 13 (.inr rfl) ⟨fun h=> by omega,fun h=> absurd h h3⟩
theorem GG (e:Nat→Int) {h:Nat} (hh:h < 40):([.v (.int .i64 (e 0)), .v (.int .i64 (e 1)), .v (.int .i64 (e 2)), .v (.int .i64 (e 3)), .v (.int .i64 (e 4)), .v (.int .i64 (e 5)), .v (.int .i64 (e 6)), .v (.int .i64 (e 7)), .v (.int .i64 (e 8)), .v (.int .i64 (e 9)), .v (.int .i64 (e 10)), .v (.int .i64 (e 11)), .v (.int .i64 (e 12)), .v (.int .i64 (e 13)), .v (.int .i64 (e 14)), .v (.int .i64 (e 15)), .v (.int .i64 (e 16)), .v (.int .i64 (e 17)), .v (.int .i64 (e 18)), .v (.int .i64 (e 19)), .v (.int .i64 (e 20)), .v (.int .i64 (e 21)), .v (.int .i64 (e 22)), .v (.int .i64 (e 23)), .v (.int .i64 (e 24)), .v (.int .i64 (e 25)), .v (.int .i64 (e 26)), .v (.int .i64 (e 27)), .v (.int .i64 (e 28)), .v (.int .i64 (e 29)), .v (.int .i64 (e 30)), .v (.int .i64 (e 31)), .v (.int .i64 (e 32)), .v (.int .i64 (e 33)), .v (.int .i64 (e 34)), .v (.int .i64 (e 35)), .v (.int .i64 (e 36)), .v (.int .i64 (e 37)), .v (.int .i64 (e 38)), .v (.int .i64 (e 39))]:List AV)[h]? =some (.v (.int .i64 (e h))):=by
 have:=kM 0 [] e 0 0 h hh
 rw [show 1+h=h+1 from Nat.add_comm _ _] at this
 have h2:(rX 0 [] e 0 0)[h+1]? =([.v (.int .i64 (e 0)), .v (.int .i64 (e 1)), .v (.int .i64 (e 2)), .v (.int .i64 (e 3)), .v (.int .i64 (e 4)), .v (.int .i64 (e 5)), .v (.int .i64 (e 6)), .v (.int .i64 (e 7)), .v (.int .i64 (e 8)), .v (.int .i64 (e 9)), .v (.int .i64 (e 10)), .v (.int .i64 (e 11)), .v (.int .i64 (e 12)), .v (.int .i64 (e 13)), .v (.int .i64 (e 14)), .v (.int .i64 (e 15)), .v (.int .i64 (e 16)), .v (.int .i64 (e 17)), .v (.int .i64 (e 18)), .v (.int .i64 (e 19)), .v (.int .i64 (e 20)), .v (.int .i64 (e 21)), .v (.int .i64 (e 22)), .v (.int .i64 (e 23)), .v (.int .i64 (e 24)), .v (.int .i64 (e 25)), .v (.int .i64 (e 26)), .v (.int .i64 (e 27)), .v (.int .i64 (e 28)), .v (.int .i64 (e 29)), .v (.int .i64 (e 30)), .v (.int .i64 (e 31)), .v (.int .i64 (e 32)), .v (.int .i64 (e 33)), .v (.int .i64 (e 34)), .v (.int .i64 (e 35)), .v (.int .i64 (e 36)), .v (.int .i64 (e 37)), .v (.int .i64 (e 38)), .v (.int .i64 (e 39))]++[.v (.int .i64 0), .v (.int .i64 0)]:List AV)[h]? :=rfl
 rw [h2,List.getElem?_append_left (by simpa using hh)] at this
 exact this
abbrev Cg (d v:List Tx) (ons:List (Nat×Bk)) (b:Bool):AV:=if b=true then .tup [GA d v ons, .v (.int .i64 0)] else .tup [zA, .v (.int .i64 (zw ons))]
set_option maxHeartbeats 2000000 in
theorem gf (d v:List Tx) (ons:List (Nat×Bk)) (U:UOk d v ons) (hU:(aO ons 0).length≤800000) (b:Bool) (hb:b=true↔CmpOk ons):
  Spec Tryz.prog 37 (aQ [DG d v (kv d v ons)] []) (aG (Cg d v ons b) []):=by
 obtain ⟨H,hH⟩: ∃ H,H=kv d v ons:=⟨_,rfl⟩
 have hHl:H.length=ons.length:=by rw [hH,List.length_map]
 have hHk: ∀ k (h:k < ons.length),jW H k=((ons[k]).1,ip (d++v) (ons[k]).2):=fun k h=> by rw [hH];exact sJ ons _ k h
 rw [← hH]
 clear hH
 have hUn:=U.n
 have hUc:=U.c
 have hUl:=U.len
 have hdl:d.length≤16∧v.length≤16:=by rw [List.length_append] at hUl;omega
 have hfol:=Er U
 have hco0:((aO ons 0).length≤400∧ ∀ h,h < 40→JQ ons h)↔CmpOk ons:=Iff.rfl
 refine Spec.ofN Tryz.func37 rfl Tryz.ntmps37 rfl ?_
 refine go 12 ?_
 refine ai (gp _ aa rfl (by exact (rfl:_=some [AV.v (.slice none 0 0),_,_,_,_,_,_,_,_,_,_,_,_,_,_,_,_,_,_,_,_,_,_,_,_,_,_,_,_,_,_,_,_,_,_,_,_,_,_,_,_,_,_]))) ?_
 refine go 3 ?_
 refine ax fun K3 hK3=> ?_
 refine aH (bE rfl (aj (aN ?_)))
 refine aX (α:=Nat) (fun q=> q≤40) 76 [(1,_),(2,_),(4,_)] [((1,0),_),((2,0),_)] (fun q=> [(19, .v (.int .i64 (q:Int)))]) (fun q=> [((4,0), .box 26 [.v (.slice none 0 0), .v (.int .i64 (bO q 0)), .v (.int .i64 (bO q 1)), .v (.int .i64 (bO q 2)), .v (.int .i64 (bO q 3)), .v (.int .i64 (bO q 4)), .v (.int .i64 (bO q 5)), .v (.int .i64 (bO q 6)), .v (.int .i64 (bO q 7)), .v (.int .i64 (bO q 8)), .v (.int .i64 (bO q 9)), .v (.int .i64 (bO q 10)), .v (.int .i64 (bO q 11)), .v (.int .i64 (bO q 12)), .v (.int .i64 (bO q 13)), .v (.int .i64 (bO q 14)), .v (.int .i64 (bO q 15)), .v (.int .i64 (bO q 16)), .v (.int .i64 (bO q 17)), .v (.int .i64 (bO q 18)), .v (.int .i64 (bO q 19)), .v (.int .i64 (bO q 20)), .v (.int .i64 (bO q 21)), .v (.int .i64 (bO q 22)), .v (.int .i64 (bO q 23)), .v (.int .i64 (bO q 24)), .v (.int .i64 (bO q 25)), .v (.int .i64 (bO q 26)), .v (.int .i64 (bO q 27)), .v (.int .i64 (bO q 28)), .v (.int .i64 (bO q 29)), .v (.int .i64 (bO q 30)), .v (.int .i64 (bO q 31)), .v (.int .i64 (bO q 32)), .v (.int .i64 (bO q 33)), .v (.int .i64 (bO q 34)), .v (.int .i64 (bO q 35)), .v (.int .i64 (bO q 36)), .v (.int .i64 (bO q 37)), .v (.int .i64 (bO q 38)), .v (.int .i64 (bO q 39)), .v (.int .i64 (d.length:Int)), .v (.int .i64 (v.length:Int))])]) [] [] (fun q=> 40 - q) 0 ?_ (kj [0,0,1] [] []) ?_
 ·omega
 intro q hq
 refine go 3 ?_
 refine ax fun K6 hK6=> ?_
 refine aD rfl (fun hc20=> ?_) (fun hc20=> ?_)
 ·refine aU (hK6 _ ?_)
  refine go 9 ?_
  refine ai (dC _ _ aa rfl rfl rfl q rfl ab (by exact congrArg (fun z=> 0+1+z) (Nat.mul_one q))) ?_
  refine ai (fU _ _ aa rfl rfl rfl rfl (show 0+1+q+1≤43 by omega) ((congrArg (fun z=> ez (Fs (.v (.slice none 0 0)) (bO q) (d.length:Int) (v.length:Int)) z [.v (.int .i64 (-1))]) ab).trans ((oA _ _ _ _ q ab _).trans (by rw [tQ _ ab])))) ?_
  refine go 4 ?_
  refine am (⟨q+1,?_,?_,?_⟩)
  ·omega
  ·exact kj [0,0,1] [] []
  omega
 obtain rfl:q=40:=by omega
 rw [oM]
 refine bm (id (hK3 _ ?_))
 refine go 2 ?_
 refine ai (gp _ aa rfl (by exact (rfl:_=some [AV.sl _ _,AV.sl _ _,AV.sl _ _,AV.v (.slice none 0 0)]))) ?_
 refine go 3 ?_
 refine ax fun K10 hK10=> ?_
 refine go 7 ?_
 refine az (Le.nilB (28,0) 3 (60,0) 48 2 rfl rfl rfl) ?_
 refine aX (α:=Nat) (fun j=> j≤H.length) 76 [(2,_),(4,_),(6,_),(30,_),(31,_)] [((2,0),_)] (fun j=> [(32, .v (.int .i64 (j:Int)))]) (fun j=> [((60,0), .row 48 2 (inl (aO (ons.take j) 0))),((28,0), .box 143 [.sl d.length (dh d), .sl v.length (dh v), .sl H.length (jr H), .ref (60,0) 0 (aO (ons.take j) 0).length]),((4,0), .box 26 [.v (.slice none 0 0), .v (.int .i64 (bi (ons.take j) 0)), .v (.int .i64 (bi (ons.take j) 1)), .v (.int .i64 (bi (ons.take j) 2)), .v (.int .i64 (bi (ons.take j) 3)), .v (.int .i64 (bi (ons.take j) 4)), .v (.int .i64 (bi (ons.take j) 5)), .v (.int .i64 (bi (ons.take j) 6)), .v (.int .i64 (bi (ons.take j) 7)), .v (.int .i64 (bi (ons.take j) 8)), .v (.int .i64 (bi (ons.take j) 9)), .v (.int .i64 (bi (ons.take j) 10)), .v (.int .i64 (bi (ons.take j) 11)), .v (.int .i64 (bi (ons.take j) 12)), .v (.int .i64 (bi (ons.take j) 13)), .v (.int .i64 (bi (ons.take j) 14)), .v (.int .i64 (bi (ons.take j) 15)), .v (.int .i64 (bi (ons.take j) 16)), .v (.int .i64 (bi (ons.take j) 17)), .v (.int .i64 (bi (ons.take j) 18)), .v (.int .i64 (bi (ons.take j) 19)), .v (.int .i64 (bi (ons.take j) 20)), .v (.int .i64 (bi (ons.take j) 21)), .v (.int .i64 (bi (ons.take j) 22)), .v (.int .i64 (bi (ons.take j) 23)), .v (.int .i64 (bi (ons.take j) 24)), .v (.int .i64 (bi (ons.take j) 25)), .v (.int .i64 (bi (ons.take j) 26)), .v (.int .i64 (bi (ons.take j) 27)), .v (.int .i64 (bi (ons.take j) 28)), .v (.int .i64 (bi (ons.take j) 29)), .v (.int .i64 (bi (ons.take j) 30)), .v (.int .i64 (bi (ons.take j) 31)), .v (.int .i64 (bi (ons.take j) 32)), .v (.int .i64 (bi (ons.take j) 33)), .v (.int .i64 (bi (ons.take j) 34)), .v (.int .i64 (bi (ons.take j) 35)), .v (.int .i64 (bi (ons.take j) 36)), .v (.int .i64 (bi (ons.take j) 37)), .v (.int .i64 (bi (ons.take j) 38)), .v (.int .i64 (bi (ons.take j) 39)), .v (.int .i64 (d.length:Int)), .v (.int .i64 (v.length:Int))])]) [] [] (fun j=> H.length - j) 0 ?_ (kj [0,2,1,1] [] []) ?_
 ·omega
 intro j hj
 have hct:=jD ons j
 refine go 3 ?_
 refine ax fun K13 hK13=> ?_
 refine aD rfl (fun hc33=> ?_) (fun hc33=> ?_)
 ·have hj:j < ons.length:=by omega
  have hct1:=jD ons (j+1)
  have hUh:=U.h _ (List.getElem_mem hj)
  have hUo:=U.ok _ (List.getElem_mem hj)
  have hUp:=U.pp _ (List.getElem_mem hj)
  have hall:=wJ H j ab
  rw [hHk j hj] at hall
  have hsn:=pB (ons.take j) (ons[j])
  have hen:=jp (ons.take j) (ons[j]) hUh
  rw [← ul ons j hj] at hsn hen
  have hsl:=congrArg List.length hsn
  simp only [List.length_append,List.length_cons,List.length_nil] at hsl
  have hcb:=FP (d:=d) (v:=v) (l:=H) U.nd ab (ons[j]).2 hUo hUp (aO (ons.take j) 0) ab
  generalize bK (ons[j]).2 (aO (ons.take j) 0).length=C at hsn hsl hcb
  generalize (ons[j]).2=bd at hall hcb
  generalize (ons[j]).1=h at hall hen hUh
  have hes:=(cp d v H ((aO (ons.take j) 0)++C) .stop 0 (by rw [List.length_append];omega)).1
  rw [← hsn] at hes
  refine aU (hK13 _ ?_)
  refine aA (aN (aH (ai (aL _ _ aa rfl rfl j rfl ab (by rw [ba];omega) rfl) ?_)))
  refine ai (bu _ aa rfl (by exact hall) rfl) ?_
  refine go 3 ?_
  refine aA ?_
  refine az (σ':=ap 76 [(2,_),(4,_),(6,_),(8,_),(30,_),(31,_),(32,_)] [((2,0),_),((60,0),_),((28,0),_),((4,0),_),((8,0),_)] [] []) kp ?_
  refine dA 9 [] ?_
  refine go 16 ?_
  refine aJ (_,[]) (fun τ=> dC _ _ aa rfl rfl rfl h rfl ab (by exact congrArg (fun z=> 0+1+z) (Nat.mul_one h))) ?_
  refine go 1 ?_
  refine cD ⟨rfl,?_⟩
  refine ai (fU _ _ aa rfl rfl rfl rfl (show 0+1+h+1≤43 by omega) ((congrArg (fun z=> ez (Fs (.v (.slice none 0 0)) (bi (ons.take j)) (d.length:Int) (v.length:Int)) z [.v (.int .i64 ((aO (ons.take j) 0).length:Int))]) ab).trans ((oA _ _ _ _ h ab _).trans (by rw [← hen])))) ?_
  refine go 5 ?_
  refine ai (db aa [((1,9),(28,0)),((2,9),(60,0)),((2,8),(48,0))] ar (hcb) ob tr tr rfl rfl ae ae) ?_
  refine aj (an (bN rfl (ai (db aa [((1,9),(28,0)),((2,9),(48,0)),((2,8),(50,0))] ar (hes) ob tr tr rfl rfl ae ae) ?_)))
  refine qz ?_
  refine az (σ':=ap 76 [(2,_),(4,_),(6,_),(30,_),(31,_),(32,_)] [((2,0),_),((28,0),_),((4,0),_),((50,0),_)] [] []) kp ?_
  refine go 3 ?_
  refine am (⟨j+1,?_,?_,?_⟩)
  ·omega
  ·refine Le.mkJ [((60,0),(50,0))] [] rfl ?_ ?_ trivial trivial ?_
   ·exact ⟨(di (id:=(2,0)) rfl),(di (id:=(4,0)) rfl),(di (id:=(28,0)) rfl),(by repeat' (exact Lv.sl)),(by repeat' (exact Lv.v)),(eN ag),trivial⟩
   ·exact ⟨(iq rfl rfl rfl rfl (by repeat' (first | exact Lv.v | exact bz | refine aB ?_ ?_))),(im rfl rfl rfl ag),(iq rfl rfl rfl rfl lz),(iq rfl rfl rfl rfl (aB (by repeat' (exact Lv.v)) lz)),trivial⟩
   kernel_rfl
  omega
 obtain rfl:j=ons.length:=by omega
 rw [List.take_length]
 refine bm (id (hK10 _ ?_))
 refine go 15 ?_
 refine aD rfl (fun hc60=> ?_) (fun hc60=> ?_)
 ·have hco: ¬ b=true:=fun e=> by have:=(hco0.2 (hb.1 e)).1;omega
  rw [Cg,if_neg hco,zw,if_pos ab]
  refine go 5 ?_
  exact aq (kI (.inr rfl) rfl (.cellA aa rfl rfl rfl) (.tmp iH) (Le.out [] [] (.tup rfl lz) rfl rfl rfl trivial trivial))
 have hl4:(aO ons 0).length≤400:=by omega
 refine cX (ax fun K22 hK22=> ?_)
 refine go 6 ?_
 refine az (Le.frzB (4,0) 0 rfl rfl rfl rfl (ys:=inl (aO ons 0)) (by rw [List.drop_zero];exact List.take_of_length_le (by rw [bo];omega)) (by rw [bo];omega)) ?_
 refine aX (α:=Nat) (fun h=> h≤40∧ ∀ k,k < h→JQ ons k) 76 [(2,_),(4,_),(63,_)] [((2,0),_),((4,0),_)] (fun h=> [(64, .v (.int .i64 (h:Int)))]) (fun h=> []) [] [] (fun h=> 40 - h) 0 ?_ (kj [0,0] [] []) ?_
 ·exact ⟨Nat.zero_le _,fun k hk=> absurd hk (Nat.not_lt_zero _)⟩
 intro h hh
 obtain ⟨hk,hks⟩:=hh
 refine go 3 ?_
 refine ax fun K25 hK25=> ?_
 refine aD rfl (fun hc65=> ?_) (fun hc65=> ?_)
 ·have hh4:h < 40:=by omega
  obtain ⟨r,hr1,hr2,hr3⟩:=hfol h
  refine aU (hK25 _ ?_)
  refine aA (aN (aH (ai (FX _ _ aa Tryz.underlying24 Tryz.underlying3 ag rfl h rfl hh4 (by exact GG (bi ons) hh4)) ?_)))
  refine go 5 ?_
  refine ai (au aa al (hr3) rfl rfl) ?_
  refine bF rfl (aj (aH (bE rfl (ai (dv _ _ rfl rfl rfl) (aj (aD rfl (fun hc71=> ?_) (fun hc71=> ?_)))))))
  ·have hco: ¬ b=true:=fun e=> hc71 (hr2.2 ((hco0.2 (hb.1 e)).2 h hh4))
   obtain rfl:r=13:=by rcases hr1 with h1 | h1 <;> first | exact absurd h1 hc71 | exact h1
   rw [Cg,if_neg hco,zw,if_neg ab]
   refine go 6 ?_
   exact aq (kI (.inr rfl) rfl (.cellA aa rfl rfl rfl) (.tmp iH) (Le.out [] [] (.tup rfl lz) rfl rfl rfl trivial trivial))
  have hek:=hr2.1 ab
  refine go 4 ?_
  refine am (⟨h+1,?_,?_,?_⟩)
  ·exact ⟨by omega,fun k hk=> (by
    rcases Nat.lt_or_ge k h with hlt | hge
    ·exact hks k hlt
    obtain rfl:k=h:=by omega
    exact hek)⟩
  ·exact kj [0,0] [] []
  omega
 obtain rfl:h=40:=by omega
 have hco:b=true:=hb.2 (hco0.1 ⟨hl4,hks⟩)
 refine bm (id (hK22 _ ?_))
 refine go 5 ?_
 refine aq ?_
 rw [Cg,if_pos hco]
 exact kI (.inr rfl) rfl (.cellA aa rfl rfl rfl) (.tmp iH) (Le.out [] [] (.tup rfl lz) rfl rfl rfl trivial trivial)
end Go.Proofs.YtmjnackchaahbaaGreat

set_option maxHeartbeats 2000000
namespace Go.Proofs.YtmjnackchaahbaaGreat
open Go.RowKit

structure Mk where
 P:Pg
 iv:List Int
 names:List Int
 ans:List Int
abbrev Mk.nm (M:Mk) (k:Nat):Int:=M.names.getD k 0
abbrev Mk.cx (M:Mk):Cx:=⟨M.P.c,M.P.d,M.names,M.ans⟩
abbrev Pb (c:AV) (e:Nat→Int) (d v:Int) (iv:AV) (nm:Nat→Int) (F ov ac:AV) (sp:Int) (sb:Bool) (cv st:AV) (pc dr se:Int) (en:Bool):List AV:=[c, .v (.int .i64 (e 0)), .v (.int .i64 (e 1)), .v (.int .i64 (e 2)), .v (.int .i64 (e 3)), .v (.int .i64 (e 4)), .v (.int .i64 (e 5)), .v (.int .i64 (e 6)), .v (.int .i64 (e 7)), .v (.int .i64 (e 8)), .v (.int .i64 (e 9)), .v (.int .i64 (e 10)), .v (.int .i64 (e 11)), .v (.int .i64 (e 12)), .v (.int .i64 (e 13)), .v (.int .i64 (e 14)), .v (.int .i64 (e 15)), .v (.int .i64 (e 16)), .v (.int .i64 (e 17)), .v (.int .i64 (e 18)), .v (.int .i64 (e 19)), .v (.int .i64 (e 20)), .v (.int .i64 (e 21)), .v (.int .i64 (e 22)), .v (.int .i64 (e 23)), .v (.int .i64 (e 24)), .v (.int .i64 (e 25)), .v (.int .i64 (e 26)), .v (.int .i64 (e 27)), .v (.int .i64 (e 28)), .v (.int .i64 (e 29)), .v (.int .i64 (e 30)), .v (.int .i64 (e 31)), .v (.int .i64 (e 32)), .v (.int .i64 (e 33)), .v (.int .i64 (e 34)), .v (.int .i64 (e 35)), .v (.int .i64 (e 36)), .v (.int .i64 (e 37)), .v (.int .i64 (e 38)), .v (.int .i64 (e 39)), .v (.int .i64 d), .v (.int .i64 v),iv, .v (.int .i64 (nm 0)), .v (.int .i64 (nm 1)), .v (.int .i64 (nm 2)), .v (.int .i64 (nm 3)), .v (.int .i64 (nm 4)), .v (.int .i64 (nm 5)), .v (.int .i64 (nm 6)), .v (.int .i64 (nm 7)), .v (.int .i64 (nm 8)),F,ov,ac, .v (.int .i64 sp), .v (.bool sb),cv,st, .v (.int .i64 pc), .v (.int .i64 dr), .v (.int .i64 se), .v (.bool en)]
abbrev HA (p:ay):AV:= .fn (.func 60) [.ptr p 0] []
abbrev Km (M:Mk) (s:Ms) (dr se:Int) (ac st:ay):List AV:=Pb (.sl M.P.c.length (inl M.P.c)) M.P.e (M.P.d:Int) (M.P.v:Int) (.sl M.iv.length (cB M.iv)) M.nm (HA (4,9)) (.ref (1,9) 0 s.vars.length) (.ref ac 0 s.acts.length) (s.steps:Int) false (.v (.slice none 0 0)) (.ref st 0 s.stack.length) (s.pc:Int) dr se s.fin
abbrev lj (M:Mk) (s:Ms) (dr se:Int) (ac st ak:ay):List (ay×Cells):=[((0,9), .box 171 (Km M s dr se ac st)),((1,9), .row 3 1 (cB s.vars)),(ac, .row 57 5 (xw s.acts)),(st, .row 3 1 (cB s.stack)),((4,9), .box 129 [.sl M.ans.length (cB M.ans), .ref ak 0 s.asked.length, .v (.bool true)]),(ak, .row 3 1 (cB s.asked))]
abbrev ll (M:Mk) (s:Ms) (dr se:Int):List (ay×Cells):=lj M s dr se (2,9) (3,9) (5,9)
theorem lQ (x lo hi:Int):Spec Tryz.prog 188 (aQ [.v (.int .i64 x), .v (.int .i64 lo), .v (.int .i64 hi)] []) (aG (.v (.int .i64 (max lo (min x hi)))) []):=by
 refine Spec.ofN Tryz.func188 rfl Tryz.ntmps188 rfl ?_
 refine go 7 ?_
 exact ai (vr _ _ rfl rfl rfl) (ai (FY _ _ rfl rfl rfl) (bF rfl (aj (aq (eu rfl rfl)))))
theorem mN (l:List Int) (x:Int):cB l++[.v (.int .i64 x)]=cB (l++[x]):=by simp [cB]
theorem xy (l:List Int) (k:Nat):(cB l).take k=cB (l.take k):=by simp [cB]
theorem yu (x:Int):max (-2147483647) (min x 2147483647)=mY x:=rfl
section
variable (M:Mk) (s:Ms) (dr se:Int)
theorem dK (x:Int) (hs:s.stack.length≤100000):
  Spec Tryz.prog 129 (aE [.ptr (0,9) 0, .v (.int .i64 x)] (ll M s dr se)) (aP (.tup []) (lj M { s with stack:=s.stack++[mY x] } dr se (2,9) (3,8) (5,9)) [(0,9),(1,9),(2,9),(3,8),(4,9),(5,9)] [(0,9),(1,9),(2,9),(4,9),(5,9)]):=by
 have hc:=lQ x (-2147483647) 2147483647
 rw [yu] at hc
 have hl:(s.stack++[mY x]).length=s.stack.length+1:=by simp
 refine Spec.ofNI Tryz.func129 rfl Tryz.ntmps129 rfl ?_
 refine az (Le.incT (12,0) rfl) ?_
 refine yY 9 [4,5,6,7,8,9,10,11,12] [(3,9),(12,0)] [[],[],[],[(3,9)],[(3,9)],[(3,9)],[(3,9)],[(3,9)],[]] ae ae rfl (bD rfl) (rfl:_=[_,_,_,_,_,_,_,_,_]) (rfl:_=[_,_,_]) ?_
 refine go 12 ?_
 refine aJ (_,[]) (fun τ=> (au aa al (hc) rfl rfl)) ?_
 refine go 3 ?_
 refine aJ (_,[((3,9), .gone),((12,0),_)]) (fun τ=> np (b:=true) (12,0) _ _ aa rfl (wH rfl (by exact th) rfl) (by simp) (.sl rfl) ab rfl rfl rfl (mN _ _) hl.symm) ?_
 refine go 5 ?_
 exact am (fw [((3,8),(12,0))])
theorem bH (hs:s.stack.length≤100000) (h0:0 < s.stack.length):
  Spec Tryz.prog 131 (aE [.ptr (0,9) 0] (ll M s dr se)) (aP (.v (.int .i64 (s.top 0))) (lj M { s with stack:=s.pop 1 } dr se (2,9) (3,8) (5,9)) [(0,9),(1,9),(2,9),(3,8),(4,9),(5,9)] [(0,9),(1,9),(2,9),(4,9),(5,9)]):=by
 obtain ⟨m,hm⟩: ∃ m,s.stack.length=m+1:=⟨s.stack.length - 1,by omega⟩
 have ht:s.top 0=s.stack.getD m 0:=by unfold Ms.top;rw [hm];rfl
 have hp:s.pop 1=s.stack.take m:=by unfold Ms.pop;rw [hm];rfl
 have hl:(s.stack.take m).length=m:=by rw [List.length_take];omega
 rw [ht,hp]
 refine Spec.ofNI Tryz.func131 rfl Tryz.ntmps131 rfl ?_
 refine aH (bF rfl (aj (aA (dA 13 [] ?_))))
 refine go 18 ?_
 refine aJ (_,[]) (fun τ=> bB (r:=(m:Int)) _ _ rfl rfl ((bT ab).trans ab)) ?_
 refine go 1 ?_
 refine aJ (_,[]) (fun τ=> fM _ _ aa rfl rfl rfl _ rfl ab (by exact (Nat.zero_add _).trans (Nat.mul_one _))) ?_
 refine go 1 ?_
 refine aJ (_,[]) (fun τ=> ke _ aa rfl rfl (by exact cU _ _ ab) rfl) ?_
 refine go 5 ?_
 refine aA ?_
 refine az (σ':=ap 31 [(0,_),(3,_)] [((0,9),_),((1,9),_),((2,9),_),((3,9),_),((4,9),_),((5,9),_)] [(0,9),(1,9),(2,9),(3,9),(4,9),(5,9)] [(0,9),(1,9),(2,9),(4,9),(5,9)]) kp ?_
 refine dA 14 [] ?_
 refine go 20 ?_
 refine aJ (_,[]) (fun τ=> bB (r:=(m:Int)) _ _ rfl rfl ((bT ab).trans ab)) ?_
 refine go 1 ?_
 refine aJ (_,[]) (fun τ=> AZ _ _ _ aa rfl rfl 0 m .dflt (.lit rfl rfl) ab ab rfl rfl) ?_
 refine go 8 ?_
 refine aA ?_
 refine az (Le.cutR (3,9) m rfl (xy _ _)) ?_
 exact an (bE rfl (bF rfl (aj (aq (dm (.inr rfl) rfl (.tmp iH) (Le.outI [((3,8),(3,9))] [] .v rfl rfl rfl trivial ⟨⟨rfl,⟨_,rfl, .box rfl (aB .sl (yK (yK (yK (yK (aB .v (aB .v (aB .sl (HF (HF (aB .v (aB (.fn rfl lz rfl bz) (aB (eH rfl rfl) (aB (eH rfl rfl) (aB .v (aB .v (aB .v (aB (eH rfl hl) lz))))))))))))))))))⟩,rfl⟩,⟨rfl,⟨_,rfl, .rowE rfl⟩,rfl⟩,⟨rfl,⟨_,rfl, .rowE rfl⟩,rfl⟩,⟨rfl,⟨_,rfl, .rowE rfl⟩,rfl⟩,⟨rfl,⟨_,rfl, .box rfl lz⟩,rfl⟩,⟨rfl,⟨_,rfl, .rowE rfl⟩,rfl⟩,trivial⟩ tr rfl))))))
theorem fo (k a b c d:Int) (hs:s.acts.length≤100000):
  Spec Tryz.prog 132 (aE [.ptr (0,9) 0, .v (.int .i64 k), .v (.int .i64 a), .v (.int .i64 b), .v (.int .i64 c), .v (.int .i64 d)] (ll M s dr se)) (aP (.tup []) (lj M { s with acts:=s.acts++[{ k:=k,a:=a,b:=b,c:=c,d:=d }] } dr se (2,8) (3,9) (5,9)) [(0,9),(1,9),(2,8),(3,9),(4,9),(5,9)] [(0,9),(1,9),(3,9),(4,9),(5,9)]):=by
 have hl:(s.acts++[({ k:=k,a:=a,b:=b,c:=c,d:=d }:Ac)]).length=s.acts.length+1:=by simp
 refine Spec.ofNI Tryz.func132 rfl Tryz.ntmps132 rfl ?_
 refine go 14 ?_
 refine bc (Le.incT (25,0) rfl) ?_
 refine ai (np (b:=true) (25,0) _ _ aa rfl rfl (iy _).symm (.sl rfl) ab rfl rfl rfl (Cb _ { k:=k,a:=a,b:=b,c:=c,d:=d }) hl.symm) ?_
 refine go 4 ?_
 exact am (fw [((2,8),(25,0))])
end
end Go.Proofs.YtmjnackchaahbaaGreat

set_option maxHeartbeats 2000000
namespace Go.Proofs.YtmjnackchaahbaaGreat
open Go.RowKit

section
variable (M:Mk) (s:Ms) (dr se:Int)
theorem De (n:Int) (hs:s.stack.length≤90000):
  Spec Tryz.prog 127 (aE [.ptr (0,9) 0, .v (.int .i64 n)] (ll M s dr se)) (aP (.tup []) (lj M { s with stack:=s.stack++[mY n] } dr se (2,8) (3,8) (5,8)) [(0,9),(1,9),(2,8),(3,8),(4,9),(5,8)] [(0,9),(1,9),(4,9)]):=by
 refine Spec.ofNI Tryz.func127 rfl Tryz.ntmps127 rfl ?_
 refine an (bN rfl (bE rfl (bc (Le.incT (6,0) rfl) ?_)))
 refine ai (aC aa [((3,8),(6,0))] ar (dK M s dr se n ab) ob tr tr rfl ae ae) ?_
 exact am (fw [((2,8),(2,9)),((3,8),(6,0)),((5,8),(5,9))])
theorem CI (k:Nat) (hk:k < s.vars.length) (hs:s.stack.length≤90000):
  Spec Tryz.prog 128 (aE [.ptr (0,9) 0, .v (.int .i64 (k:Int))] (ll M s dr se)) (aP (.tup []) (lj M { s with stack:=s.stack++[mY (s.vars.getD k 0)] } dr se (2,8) (3,8) (5,8)) [(0,9),(1,9),(2,8),(3,8),(4,9),(5,8)] [(0,9),(1,9),(4,9)]):=by
 refine Spec.ofNI Tryz.func128 rfl Tryz.ntmps128 rfl ?_
 refine go 8 ?_
 refine ai (fM _ _ aa rfl rfl rfl _ rfl ab (by exact (Nat.zero_add _).trans (Nat.mul_one _))) ?_
 refine ai (ke _ aa rfl rfl (by exact cU _ _ ab) rfl) ?_
 refine bc (Le.incT (13,0) rfl) ?_
 refine ai (aC aa [((3,8),(13,0))] ar (dK M s dr se (s.vars.getD k 0) ab) ob tr tr rfl ae ae) ?_
 exact am (fw [((2,8),(2,9)),((3,8),(13,0)),((5,8),(5,9))])
theorem As (n:Int) (ha:s.acts.length≤90000):
  Spec Tryz.prog 150 (aE [.ptr (0,9) 0, .v (.int .i64 n)] (ll M s dr se)) (aP (.tup []) (lj M { s with acts:=s.acts++[{ k:=4,a:=n }] } dr se (2,8) (3,8) (5,8)) [(0,9),(1,9),(2,8),(3,8),(4,9),(5,8)] [(0,9),(1,9),(4,9)]):=by
 refine Spec.ofNI Tryz.func150 rfl Tryz.ntmps150 rfl ?_
 refine an (bN rfl (bE rfl (bc (Le.incT (6,0) rfl) ?_)))
 refine ai (aC aa [((2,8),(6,0))] ar (fo M s dr se 4 n 0 0 0 ab) ob tr tr rfl ae ae) ?_
 exact am (fw [((2,8),(6,0)),((3,8),(3,9)),((5,8),(5,9))])
theorem yH (n:Int) (ha:s.acts.length≤90000):
  Spec Tryz.prog 151 (aE [.ptr (0,9) 0, .v (.int .i64 n)] (ll M s dr se)) (aP (.tup []) (lj M { s with acts:=s.acts++[{ k:=5,a:=n }] } dr se (2,8) (3,8) (5,8)) [(0,9),(1,9),(2,8),(3,8),(4,9),(5,8)] [(0,9),(1,9),(4,9)]):=by
 refine Spec.ofNI Tryz.func151 rfl Tryz.ntmps151 rfl ?_
 refine an (bN rfl (bE rfl (bc (Le.incT (6,0) rfl) ?_)))
 refine ai (aC aa [((2,8),(6,0))] ar (fo M s dr se 5 n 0 0 0 ab) ob tr tr rfl ae ae) ?_
 exact am (fw [((2,8),(6,0)),((3,8),(3,9)),((5,8),(5,9))])
theorem Ez (n:Int) (ha:s.acts.length≤90000):
  Spec Tryz.prog 152 (aE [.ptr (0,9) 0, .v (.int .i64 n)] (ll M s dr se)) (aP (.tup []) (lj M { s with acts:=s.acts++[{ k:=2 }] } dr se (2,8) (3,8) (5,8)) [(0,9),(1,9),(2,8),(3,8),(4,9),(5,8)] [(0,9),(1,9),(4,9)]):=by
 refine Spec.ofNI Tryz.func152 rfl Tryz.ntmps152 rfl ?_
 refine an (bN rfl (bc (Le.incT (5,0) rfl) ?_))
 refine ai (aC aa [((2,8),(5,0))] ar (fo M s dr se 2 0 0 0 0 ab) ob tr tr rfl ae ae) ?_
 exact am (fw [((2,8),(5,0)),((3,8),(3,9)),((5,8),(5,9))])
theorem DC (n:Int):
  Spec Tryz.prog 155 (aE [.ptr (0,9) 0, .v (.int .i64 n)] (ll M s dr se)) (aP (.tup []) (lj M { s with fin:=true } dr se (2,8) (3,8) (5,8)) [(0,9),(1,9),(2,8),(3,8),(4,9),(5,8)] [(0,9),(1,9),(4,9)]):=by
 refine Spec.ofNI Tryz.func155 rfl Tryz.ntmps155 rfl ?_
 refine go 5 ?_
 exact am (fw [((2,8),(2,9)),((3,8),(3,9)),((5,8),(5,9))])
theorem EG (n:Nat):
  Spec Tryz.prog 147 (aE [.ptr (0,9) 0, .v (.int .i64 (n:Int))] (ll M s dr se)) (aP (.tup []) (lj M { s with pc:=n } dr se (2,8) (3,8) (5,8)) [(0,9),(1,9),(2,8),(3,8),(4,9),(5,8)] [(0,9),(1,9),(4,9)]):=by
 refine Spec.ofNI Tryz.func147 rfl Tryz.ntmps147 rfl ?_
 refine go 6 ?_
 exact am (fw [((2,8),(2,9)),((3,8),(3,9)),((5,8),(5,9))])
theorem Dc (n:Int) (hs:s.stack.length≤90000) (h0:0 < s.stack.length) (hr:Rg (s.top 0)):
  Spec Tryz.prog 141 (aE [.ptr (0,9) 0, .v (.int .i64 n)] (ll M s dr se)) (aP (.tup []) (lj M { s with stack:=s.pop 1++[mY (-(s.top 0))] } dr se (2,8) (3,8) (5,8)) [(0,9),(1,9),(2,8),(3,8),(4,9),(5,8)] [(0,9),(1,9),(4,9)]):=by
 unfold Rg at hr
 refine Spec.ofNI Tryz.func141 rfl Tryz.ntmps141 rfl ?_
 refine an (bN rfl (bN rfl (bc (Le.incT (6,0) rfl) ?_)))
 refine ai (aC aa [((3,8),(6,0))] ar (bH M s dr se ab h0) ob tr tr rfl ae ae) ?_
 refine ai (vF (r:= -(s.top 0)) _ rfl (bT ab)) ?_
 refine bc (Le.incT (8,0) rfl) ?_
 refine ai (aC aa [((3,9),(6,0)),((3,8),(8,0))] ar (dK M { s with stack:=s.pop 1 } dr se (-(s.top 0)) (by have:=bV s 1;simp only;omega)) ob tr tr rfl ae ae) ?_
 exact am (fw [((2,8),(2,9)),((3,8),(8,0)),((5,8),(5,9))])
theorem yW (n:Int) (hs:s.stack.length≤90000) (ha:s.acts.length≤90000) (h0:0 < s.stack.length):
  Spec Tryz.prog 154 (aE [.ptr (0,9) 0, .v (.int .i64 n)] (ll M s dr se)) (aP (.tup []) (lj M { s with stack:=s.pop 1,acts:=s.acts++[{ k:=7,a:=s.top 0 }] } dr se (2,8) (3,8) (5,8)) [(0,9),(1,9),(2,8),(3,8),(4,9),(5,8)] [(0,9),(1,9),(4,9)]):=by
 refine Spec.ofNI Tryz.func154 rfl Tryz.ntmps154 rfl ?_
 refine an (bN rfl (bN rfl (bc (Le.incT (6,0) rfl) ?_)))
 refine ai (aC aa [((3,8),(6,0))] ar (bH M s dr se ab h0) ob tr tr rfl ae ae) ?_
 refine bc (Le.incT (7,0) rfl) ?_
 refine ai (aC aa [((3,9),(6,0)),((2,8),(7,0))] ar (fo M { s with stack:=s.pop 1 } dr se 7 (s.top 0) 0 0 0 (by simp only;omega)) ob tr tr rfl ae ae) ?_
 exact am (fw [((2,8),(7,0)),((3,8),(6,0)),((5,8),(5,9))])
end
end Go.Proofs.YtmjnackchaahbaaGreat

set_option maxHeartbeats 2000000
namespace Go.Proofs.YtmjnackchaahbaaGreat
open Go.RowKit

section
variable (M:Mk) (s:Ms) (dr se:Int)
theorem Bh (k:Nat) (hk:k < s.vars.length) (hs:s.stack.length≤90000) (ha:s.acts.length≤90000) (h0:0 < s.stack.length) (hd:k < M.P.d):
  Spec Tryz.prog 130 (aE [.ptr (0,9) 0, .v (.int .i64 (k:Int))] (ll M s dr se)) (aP (.tup []) (lj M { s with vars:=s.vars.set k (s.top 0),stack:=s.pop 1,acts:=s.acts++[{ k:=1,a:=k,b:=s.top 0 }] } dr se (2,8) (3,8) (5,8)) [(0,9),(1,9),(2,8),(3,8),(4,9),(5,8)] [(0,9),(1,9),(4,9)]):=by
 have hl:(s.vars.set k (s.top 0)).length=s.vars.length:=List.length_set
 have hg:=cU (s.vars.set k (s.top 0)) k (by rw [hl];exact hk)
 rw [List.getD_eq_getElem?_getD,List.getElem?_set_self hk] at hg
 refine Spec.ofNI Tryz.func130 rfl Tryz.ntmps130 rfl ?_
 refine aA ?_
 refine az (Le.incT (11,0) rfl) ?_
 refine wN (0,9) (fun c=> ∃ xs,c=Slot.obj (.box 171 xs)∧xs[54]? =some (.ref (1,9) 0 s.vars.length)) 8 [4,5,6,7,8,9,10,11] [(0,9),(1,9),(2,9),(11,0),(4,9),(5,9),(3,9)] ae ae rfl (bD rfl) (rfl:_=[_,_,_,_,_,_,_,_]) (rfl:_=[_,_]) (⟨_,rfl,rfl⟩) ?_
 refine eR (_,[]) (fun τ hτ=> br _ oz) ?_
 refine eS (rfl:_=[_]) ?_
 refine eR (_,[]) (fun τ hτ=> jz _ rfl (by exact hτ.choose_spec.1)) ?_
 refine eS (rfl:_=[_,_]) ?_
 refine eR (_,[]) (fun τ hτ=> et _ aa rfl (by exact hτ.choose_spec.1) rfl) ?_
 refine eS (rfl:_=[_,_,_]) ?_
 refine eR (_,[]) (fun τ hτ=> et _ aa rfl (by exact hτ.choose_spec.1) rfl) ?_
 refine eS (rfl:_=[_,_,_,_]) ?_
 refine eR (_,[]) (fun τ hτ=> bM _ aa rfl (by exact hτ.choose_spec.1) (by exact hτ.choose_spec.2)) ?_
 refine eS (rfl:_=[_,_,_,_,_]) ?_
 refine eR (_,[]) (fun τ hτ=> br _ nV) ?_
 refine eS (rfl:_=[_,_,_,_,_,_]) ?_
 refine eR (_,[]) (fun τ hτ=> br _ oz) ?_
 refine eS (rfl:_=[_,_,_,_,_,_,_]) ?_
 refine eR (_,[((0,9),_),((1,9),_),((2,9),_),((11,0),_),((4,9),_),((5,9),_),((3,9), .gone)]) (fun τ hτ=> (aC aa [((3,8),(11,0))] ar (bH M s dr se ab h0) ob tr tr rfl ae ae)) ?_
 refine eS (rfl:_=[_,_,_,_,_,_,_,_]) ?_
 refine tH ⟨⟨rfl,(by intro r hr c hc;simp only [List.mem_cons,List.not_mem_nil,or_false] at hr;rcases hr with rfl | rfl | rfl | rfl | rfl | rfl | rfl | rfl <;> simp at hc;subst hc;exact ⟨_,rfl,rfl⟩)⟩,?_⟩
 refine ai (fM _ _ aa rfl rfl rfl _ rfl ab (by exact (Nat.zero_add _).trans (Nat.mul_one _))) ?_
 refine ai (nh _ _ aa rfl rfl rfl rfl rfl (by rw [aM];exact hk) (mC s.vars k (s.top 0) hk)) ?_
 refine go 10 ?_
 refine dH rfl (decide_eq_true ab) ?_
 refine az (σ':=ap 31 [(0,_),(1,_)] [((0,9),_),((1,9),_),((2,9),_),((4,9),_),((5,9),_),((11,0),_)] [(0,9),(1,9),(2,9),(4,9),(5,9),(11,0)] [(0,9),(1,9),(4,9)]) kp ?_
 refine go 9 ?_
 refine ai (fM _ _ aa rfl rfl rfl _ rfl ab (by exact (Nat.zero_add _).trans (Nat.mul_one _))) ?_
 refine ai (ke _ aa rfl rfl (by exact hg) rfl) ?_
 refine bc (Le.incT (30,0) rfl) ?_
 refine ai (aC aa [((3,9),(11,0)),((2,8),(30,0))] ar (fo M { s with vars:=s.vars.set k (s.top 0),stack:=s.pop 1 } dr se 1 (k:Int) (s.top 0) 0 0 (by simp only;omega)) ⟨⟨rfl,⟨_,rfl, .box ag (aB .sl (yK (yK (yK (yK (aB .v (aB .v (aB .sl (HF (HF (aB .v (aB (.fn rfl lz rfl bz) (aB (eH (id:=(1,9)) (id':=(1,9)) rfl hl) lz)))))))))))))⟩,rfl⟩,⟨rfl,⟨_,rfl, .rowE rfl⟩,rfl⟩,⟨rfl,⟨_,rfl, .rowE rfl⟩,rfl⟩,⟨rfl,⟨_,rfl, .rowE rfl⟩,rfl⟩,⟨rfl,⟨_,rfl, .box ag lz⟩,rfl⟩,⟨rfl,⟨_,rfl, .rowE rfl⟩,rfl⟩,trivial⟩ tr tr rfl ae ae) ?_
 exact am (fw [((2,8),(30,0)),((3,8),(11,0)),((5,8),(5,9))])
theorem zp (k:Nat) (hk:k < s.vars.length) (hs:s.stack.length≤90000) (h0:0 < s.stack.length) (hd:M.P.d≤k):
  Spec Tryz.prog 130 (aE [.ptr (0,9) 0, .v (.int .i64 (k:Int))] (ll M s dr se)) (aP (.tup []) (lj M { s with vars:=s.vars.set k (s.top 0),stack:=s.pop 1 } dr se (2,8) (3,8) (5,8)) [(0,9),(1,9),(2,8),(3,8),(4,9),(5,8)] [(0,9),(1,9),(4,9)]):=by
 have hl:(s.vars.set k (s.top 0)).length=s.vars.length:=List.length_set
 have hg:=cU (s.vars.set k (s.top 0)) k (by rw [hl];exact hk)
 rw [List.getD_eq_getElem?_getD,List.getElem?_set_self hk] at hg
 refine Spec.ofNI Tryz.func130 rfl Tryz.ntmps130 rfl ?_
 refine aA ?_
 refine az (Le.incT (11,0) rfl) ?_
 refine wN (0,9) (fun c=> ∃ xs,c=Slot.obj (.box 171 xs)∧xs[54]? =some (.ref (1,9) 0 s.vars.length)) 8 [4,5,6,7,8,9,10,11] [(0,9),(1,9),(2,9),(11,0),(4,9),(5,9),(3,9)] ae ae rfl (bD rfl) (rfl:_=[_,_,_,_,_,_,_,_]) (rfl:_=[_,_]) (⟨_,rfl,rfl⟩) ?_
 refine eR (_,[]) (fun τ hτ=> br _ oz) ?_
 refine eS (rfl:_=[_]) ?_
 refine eR (_,[]) (fun τ hτ=> jz _ rfl (by exact hτ.choose_spec.1)) ?_
 refine eS (rfl:_=[_,_]) ?_
 refine eR (_,[]) (fun τ hτ=> et _ aa rfl (by exact hτ.choose_spec.1) rfl) ?_
 refine eS (rfl:_=[_,_,_]) ?_
 refine eR (_,[]) (fun τ hτ=> et _ aa rfl (by exact hτ.choose_spec.1) rfl) ?_
 refine eS (rfl:_=[_,_,_,_]) ?_
 refine eR (_,[]) (fun τ hτ=> bM _ aa rfl (by exact hτ.choose_spec.1) (by exact hτ.choose_spec.2)) ?_
 refine eS (rfl:_=[_,_,_,_,_]) ?_
 refine eR (_,[]) (fun τ hτ=> br _ nV) ?_
 refine eS (rfl:_=[_,_,_,_,_,_]) ?_
 refine eR (_,[]) (fun τ hτ=> br _ oz) ?_
 refine eS (rfl:_=[_,_,_,_,_,_,_]) ?_
 refine eR (_,[((0,9),_),((1,9),_),((2,9),_),((11,0),_),((4,9),_),((5,9),_),((3,9), .gone)]) (fun τ hτ=> (aC aa [((3,8),(11,0))] ar (bH M s dr se ab h0) ob tr tr rfl ae ae)) ?_
 refine eS (rfl:_=[_,_,_,_,_,_,_,_]) ?_
 refine tH ⟨⟨rfl,(by intro r hr c hc;simp only [List.mem_cons,List.not_mem_nil,or_false] at hr;rcases hr with rfl | rfl | rfl | rfl | rfl | rfl | rfl | rfl <;> simp at hc;subst hc;exact ⟨_,rfl,rfl⟩)⟩,?_⟩
 refine ai (fM _ _ aa rfl rfl rfl _ rfl ab (by exact (Nat.zero_add _).trans (Nat.mul_one _))) ?_
 refine ai (nh _ _ aa rfl rfl rfl rfl rfl (by rw [aM];exact hk) (mC s.vars k (s.top 0) hk)) ?_
 refine go 10 ?_
 refine cd rfl (decide_eq_false ab) ?_
 exact aU (rt (.inl rfl) rfl (Le.outI [((2,8),(2,9)),((3,8),(11,0)),((5,8),(5,9))] [] (.tup rfl bz) rfl rfl rfl trivial ⟨⟨rfl,⟨_,rfl, .box rfl (aB .sl (yK (yK (yK (yK (aB .v (aB .v (aB .sl (HF (HF (aB .v (aB (.fn rfl lz rfl bz) (aB (eH rfl hl) lz)))))))))))))⟩,rfl⟩,⟨rfl,⟨_,rfl, .rowE rfl⟩,rfl⟩,⟨rfl,⟨_,rfl, .rowE rfl⟩,rfl⟩,⟨rfl,⟨_,rfl, .rowE rfl⟩,rfl⟩,⟨rfl,⟨_,rfl, .box rfl lz⟩,rfl⟩,⟨rfl,⟨_,rfl, .rowE rfl⟩,rfl⟩,trivial⟩ tr rfl))
end
end Go.Proofs.YtmjnackchaahbaaGreat

set_option maxHeartbeats 2000000
namespace Go.Proofs.YtmjnackchaahbaaGreat
open Go.RowKit

section
variable (M:Mk) (s:Ms) (dr se:Int)
theorem Ge (ac st:ay) (k:Nat) (hk:k < 9):(Km M s dr se ac st)[44+k]? =some (.v (.int .i64 (M.nm k))):=by
 rcases k with _ | _ | _ | _ | _ | _ | _ | _ | _ | k
 all_goals first | rfl | omega
theorem eG (j k:Nat) (h:j+k < s.stack.length):({ s with stack:=s.pop k }:Ms).top j=s.top (j+k):=by
 unfold Ms.top Ms.pop
 simp only [List.length_take]
 rw [List.getD_eq_getElem?_getD,List.getD_eq_getElem?_getD,List.getElem?_take_of_lt ab]
 congr 2;omega
theorem eI (j k:Nat):({ s with stack:=s.pop k }:Ms).pop j=s.pop (j+k):=by
 unfold Ms.pop
 simp only [List.length_take,List.take_take]
 congr 1;omega
theorem BY (k:Nat) (hk:k < 9) (hs:s.stack.length≤90000):
  Spec Tryz.prog 133 (aE [.ptr (0,9) 0, .v (.int .i64 (k:Int))] (ll M s dr se)) (aP (.tup []) (lj M { s with stack:=s.stack++[mY (M.nm k)] } dr se (2,8) (3,8) (5,8)) [(0,9),(1,9),(2,8),(3,8),(4,9),(5,8)] [(0,9),(1,9),(4,9)]):=by
 refine Spec.ofNI Tryz.func133 rfl Tryz.ntmps133 rfl ?_
 refine go 7 ?_
 refine ai (dC _ _ aa rfl rfl rfl k rfl ab (by exact congrArg (fun z=> 0+43+1+z) (Nat.mul_one k))) ?_
 refine ai (bM _ aa rfl rfl (by exact (congrArg (fun z=> (Km M s dr se (2,9) (3,9))[z]?) ab).trans (Ge M s dr se (2,9) (3,9) k hk))) ?_
 refine bc (Le.incT (12,0) rfl) ?_
 refine ai (aC aa [((3,8),(12,0))] ar (dK M s dr se (M.nm k) ab) ob tr tr rfl ae ae) ?_
 exact am (fw [((2,8),(2,9)),((3,8),(12,0)),((5,8),(5,9))])
theorem EF (n:Nat) (hs:s.stack.length≤90000) (h0:0 < s.stack.length) (hc:s.top 0=0):
  Spec Tryz.prog 148 (aE [.ptr (0,9) 0, .v (.int .i64 (n:Int))] (ll M s dr se)) (aP (.tup []) (lj M { s with stack:=s.pop 1,pc:=n } dr se (2,8) (3,8) (5,8)) [(0,9),(1,9),(2,8),(3,8),(4,9),(5,8)] [(0,9),(1,9),(4,9)]):=by
 refine Spec.ofNI Tryz.func148 rfl Tryz.ntmps148 rfl ?_
 refine aH (bN rfl (bc (Le.incT (5,0) rfl) ?_))
 refine ai (aC aa [((3,8),(5,0))] ar (bH M s dr se ab h0) ob tr tr rfl ae ae) ?_
 refine ai (ca _ _ rfl rfl rfl) (aj (dH rfl (decide_eq_true hc) ?_))
 refine go 6 ?_
 exact am (fw [((2,8),(2,9)),((3,8),(5,0)),((5,8),(5,9))])
theorem CP (n:Int) (hs:s.stack.length≤90000) (h0:0 < s.stack.length) (hc:s.top 0=0):
  Spec Tryz.prog 146 (aE [.ptr (0,9) 0, .v (.int .i64 n)] (ll M s dr se)) (aP (.tup []) (lj M { s with stack:=s.pop 1++[1] } dr se (2,8) (3,8) (5,8)) [(0,9),(1,9),(2,8),(3,8),(4,9),(5,8)] [(0,9),(1,9),(4,9)]):=by
 rw [show (1:Int)=mY 1 from ah]
 refine Spec.ofNI Tryz.func146 rfl Tryz.ntmps146 rfl ?_
 refine aH (bN rfl (bc (Le.incT (5,0) rfl) ?_))
 refine ai (aC aa [((3,8),(5,0))] ar (bH M s dr se ab h0) ob tr tr rfl ae ae) ?_
 refine ai (ca _ _ rfl rfl rfl) (aj (dH rfl (decide_eq_true hc) ?_))
 refine an (bN rfl (bc (Le.incT (8,0) rfl) ?_))
 refine ai (aC aa [((3,9),(5,0)),((3,8),(8,0))] ar (dK M { s with stack:=s.pop 1 } dr se 1 (by have:=bV s 1;simp only;omega)) ob tr tr rfl ae ae) ?_
 exact am (fw [((2,8),(2,9)),((3,8),(8,0)),((5,8),(5,9))])
theorem Em (n:Nat) (hs:s.stack.length≤90000) (h0:0 < s.stack.length) (hc:s.top 0≠0):
  Spec Tryz.prog 148 (aE [.ptr (0,9) 0, .v (.int .i64 (n:Int))] (ll M s dr se)) (aP (.tup []) (lj M { s with stack:=s.pop 1 } dr se (2,8) (3,8) (5,8)) [(0,9),(1,9),(2,8),(3,8),(4,9),(5,8)] [(0,9),(1,9),(4,9)]):=by
 refine Spec.ofNI Tryz.func148 rfl Tryz.ntmps148 rfl ?_
 refine aH (bN rfl (bc (Le.incT (5,0) rfl) ?_))
 refine ai (aC aa [((3,8),(5,0))] ar (bH M s dr se ab h0) ob tr tr rfl ae ae) ?_
 refine ai (ca _ _ rfl rfl rfl) (aj (cd rfl (decide_eq_false hc) ?_))
 exact aU (fw [((2,8),(2,9)),((3,8),(5,0)),((5,8),(5,9))])
theorem Ey (n:Int) (hs:s.stack.length≤90000) (h0:0 < s.stack.length) (hc:s.top 0≠0):
  Spec Tryz.prog 146 (aE [.ptr (0,9) 0, .v (.int .i64 n)] (ll M s dr se)) (aP (.tup []) (lj M { s with stack:=s.pop 1++[0] } dr se (2,8) (3,8) (5,8)) [(0,9),(1,9),(2,8),(3,8),(4,9),(5,8)] [(0,9),(1,9),(4,9)]):=by
 rw [show (0:Int)=mY 0 from ah]
 refine Spec.ofNI Tryz.func146 rfl Tryz.ntmps146 rfl ?_
 refine aH (bN rfl (bc (Le.incT (5,0) rfl) ?_))
 refine ai (aC aa [((3,8),(5,0))] ar (bH M s dr se ab h0) ob tr tr rfl ae ae) ?_
 refine ai (ca _ _ rfl rfl rfl) (aj (cd rfl (decide_eq_false hc) ?_))
 refine an (bN rfl (bc (Le.incT (10,0) rfl) ?_))
 refine ai (aC aa [((3,9),(5,0)),((3,8),(10,0))] ar (dK M { s with stack:=s.pop 1 } dr se 0 (by have:=bV s 1;simp only;omega)) ob tr tr rfl ae ae) ?_
 exact am (fw [((2,8),(2,9)),((3,8),(10,0)),((5,8),(5,9))])
theorem zj (n:Int) (hs:s.stack.length≤90000) (ha:s.acts.length≤90000) (h2:2≤s.stack.length):
  Spec Tryz.prog 153 (aE [.ptr (0,9) 0, .v (.int .i64 n)] (ll M s dr se)) (aP (.tup []) (lj M { s with stack:=s.pop 2,acts:=s.acts++[{ k:=6,a:=s.top 1,b:=s.top 0 }] } dr se (2,8) (3,8) (5,8)) [(0,9),(1,9),(2,8),(3,8),(4,9),(5,8)] [(0,9),(1,9),(4,9)]):=by
 have h2x:=bH M { s with stack:=s.pop 1 } dr se (by have:=bV s 1;simp only;omega) (by have:=bV s 1;simp only;omega)
 rw [eG s 0 1 ab,eI] at h2x
 refine Spec.ofNI Tryz.func153 rfl Tryz.ntmps153 rfl ?_
 refine aH (bN rfl (bc (Le.incT (6,0) rfl) ?_))
 refine ai (aC aa [((3,8),(6,0))] ar (bH M s dr se ab ab) ob tr tr rfl ae ae) ?_
 refine go 5 ?_
 refine bc (Le.incT (9,0) rfl) ?_
 refine ai (aC aa [((3,9),(6,0)),((3,8),(9,0))] ar (h2x) ob tr tr rfl ae ae) ?_
 refine bE rfl (bc (Le.incT (11,0) rfl) ?_)
 refine ai (aC aa [((3,9),(9,0)),((2,8),(11,0))] ar (fo M { s with stack:=s.pop 2 } dr se 6 (s.top 1) (s.top 0) 0 0 (by simp only;omega)) ob tr tr rfl ae ae) ?_
 exact am (fw [((2,8),(11,0)),((3,8),(9,0)),((5,8),(5,9))])
end
end Go.Proofs.YtmjnackchaahbaaGreat

set_option maxHeartbeats 2000000
namespace Go.Proofs.YtmjnackchaahbaaGreat
open Go.RowKit

section
variable (M:Mk) (s:Ms) (dr se:Int)
theorem Et (n:Int) (hs:s.stack.length≤90000) (ha:s.acts.length≤90000) (h0:3≤s.stack.length) (hse: -100≤se) (h1:0≤s.top 2) (h2:s.top 2 < M.nm 1) (h3:se < 20):
  Spec Tryz.prog 149 (aE [.ptr (0,9) 0, .v (.int .i64 n)] (ll M s dr se)) (aP (.tup []) (lj M { s with stack:=s.pop 3,acts:=s.acts++[{ k:=3,a:=s.top 2,b:=n,c:=s.top 1,d:=s.top 0 }] } dr (se+1) (2,8) (3,8) (5,8)) [(0,9),(1,9),(2,8),(3,8),(4,9),(5,8)] [(0,9),(1,9),(4,9)]):=by
 have h2x:=bH M { s with stack:=s.pop 1 } dr se (by have:=bV s 1;simp only;omega) (by have:=bV s 1;simp only;omega)
 rw [eG s 0 1 ab,eI,Nat.zero_add] at h2x
 have h3x:=bH M { s with stack:=s.pop 2 } dr se (by have:=bV s 2;simp only;omega) (by have:=bV s 2;simp only;omega)
 rw [eG s 0 2 ab,eI,Nat.zero_add] at h3x
 refine Spec.ofNI Tryz.func149 rfl Tryz.ntmps149 rfl ?_
 refine aH (bN rfl (bc (Le.incT (8,0) rfl) ?_))
 refine ai (aC aa [((3,8),(8,0))] ar (bH M s dr se ab ab) ob tr tr rfl ae ae) ?_
 refine bN rfl (bc (Le.incT (10,0) rfl) ?_)
 refine ai (aC aa [((3,9),(8,0)),((3,8),(10,0))] ar (h2x) ob tr tr rfl ae ae) ?_
 refine bN rfl (bc (Le.incT (12,0) rfl) ?_)
 refine ai (aC aa [((3,9),(10,0)),((3,8),(12,0))] ar (h3x) ob tr tr rfl ae ae) ?_
 refine go 6 ?_
 refine ai (cf (r:=true) _ _ rfl rfl (decide_eq_true ab)) ?_
 refine go 6 ?_
 refine aZ rfl rfl (dC _ _ aa rfl rfl rfl 1 rfl ab ag) ?_
 refine go 1 ?_
 refine aZ rfl rfl (dg (r:=true) _ _ rfl rfl (decide_eq_true ab)) ?_
 refine go 6 ?_
 refine aZ rfl rfl (dg (r:=true) _ _ rfl rfl (decide_eq_true ab)) ?_
 refine go 3 ?_
 refine aA ?_
 refine az (σ':=ap 45 [(0,_),(1,_),(4,_),(5,_),(6,_)] [((0,9),_),((1,9),_),((2,9),_),((4,9),_),((5,9),_),((12,0),_)] [(0,9),(1,9),(2,9),(4,9),(5,9),(12,0)] [(0,9),(1,9),(4,9)]) kp ?_
 refine go 5 ?_
 refine ai (dL (r:=se+1) _ _ rfl rfl (bT ab)) ?_
 refine go 10 ?_
 refine bc (Le.incT (44,0) rfl) ?_
 refine ai (aC aa [((3,9),(12,0)),((2,8),(44,0))] ar (fo M { s with stack:=s.pop 3 } dr (se+1) 3 (s.top 2) n (s.top 1) (s.top 0) (by simp only;omega)) ob tr tr rfl ae ae) ?_
 exact am (fw [((2,8),(44,0)),((3,8),(12,0)),((5,8),(5,9))])
theorem Ca (n:Int) (hs:s.stack.length≤90000) (ha:s.acts.length≤90000) (h0:3≤s.stack.length) (hse: -100≤se) (h1:s.top 2 < 0):
  Spec Tryz.prog 149 (aE [.ptr (0,9) 0, .v (.int .i64 n)] (ll M s dr se)) (aP (.tup []) (lj M { s with stack:=s.pop 3 } dr se (2,8) (3,8) (5,8)) [(0,9),(1,9),(2,8),(3,8),(4,9),(5,8)] [(0,9),(1,9),(4,9)]):=by
 have h2x:=bH M { s with stack:=s.pop 1 } dr se (by have:=bV s 1;simp only;omega) (by have:=bV s 1;simp only;omega)
 rw [eG s 0 1 ab,eI,Nat.zero_add] at h2x
 have h3x:=bH M { s with stack:=s.pop 2 } dr se (by have:=bV s 2;simp only;omega) (by have:=bV s 2;simp only;omega)
 rw [eG s 0 2 ab,eI,Nat.zero_add] at h3x
 refine Spec.ofNI Tryz.func149 rfl Tryz.ntmps149 rfl ?_
 refine aH (bN rfl (bc (Le.incT (8,0) rfl) ?_))
 refine ai (aC aa [((3,8),(8,0))] ar (bH M s dr se ab ab) ob tr tr rfl ae ae) ?_
 refine bN rfl (bc (Le.incT (10,0) rfl) ?_)
 refine ai (aC aa [((3,9),(8,0)),((3,8),(10,0))] ar (h2x) ob tr tr rfl ae ae) ?_
 refine bN rfl (bc (Le.incT (12,0) rfl) ?_)
 refine ai (aC aa [((3,9),(10,0)),((3,8),(12,0))] ar (h3x) ob tr tr rfl ae ae) ?_
 refine go 6 ?_
 refine ai (cf (r:=false) _ _ rfl rfl (decide_eq_false ab)) ?_
 refine go 19 ?_
 exact aU (fw [((2,8),(2,9)),((3,8),(12,0)),((5,8),(5,9))])
theorem BF (n:Int) (hs:s.stack.length≤90000) (ha:s.acts.length≤90000) (h0:3≤s.stack.length) (hse: -100≤se) (h1:0≤s.top 2) (h2:M.nm 1≤s.top 2):
  Spec Tryz.prog 149 (aE [.ptr (0,9) 0, .v (.int .i64 n)] (ll M s dr se)) (aP (.tup []) (lj M { s with stack:=s.pop 3 } dr se (2,8) (3,8) (5,8)) [(0,9),(1,9),(2,8),(3,8),(4,9),(5,8)] [(0,9),(1,9),(4,9)]):=by
 have h2x:=bH M { s with stack:=s.pop 1 } dr se (by have:=bV s 1;simp only;omega) (by have:=bV s 1;simp only;omega)
 rw [eG s 0 1 ab,eI,Nat.zero_add] at h2x
 have h3x:=bH M { s with stack:=s.pop 2 } dr se (by have:=bV s 2;simp only;omega) (by have:=bV s 2;simp only;omega)
 rw [eG s 0 2 ab,eI,Nat.zero_add] at h3x
 refine Spec.ofNI Tryz.func149 rfl Tryz.ntmps149 rfl ?_
 refine aH (bN rfl (bc (Le.incT (8,0) rfl) ?_))
 refine ai (aC aa [((3,8),(8,0))] ar (bH M s dr se ab ab) ob tr tr rfl ae ae) ?_
 refine bN rfl (bc (Le.incT (10,0) rfl) ?_)
 refine ai (aC aa [((3,9),(8,0)),((3,8),(10,0))] ar (h2x) ob tr tr rfl ae ae) ?_
 refine bN rfl (bc (Le.incT (12,0) rfl) ?_)
 refine ai (aC aa [((3,9),(10,0)),((3,8),(12,0))] ar (h3x) ob tr tr rfl ae ae) ?_
 refine go 6 ?_
 refine ai (cf (r:=true) _ _ rfl rfl (decide_eq_true ab)) ?_
 refine go 6 ?_
 refine aZ rfl rfl (dC _ _ aa rfl rfl rfl 1 rfl ab ag) ?_
 refine go 1 ?_
 refine aZ rfl rfl (dg (r:=false) _ _ rfl rfl (decide_eq_false ab)) ?_
 refine go 10 ?_
 exact aU (fw [((2,8),(2,9)),((3,8),(12,0)),((5,8),(5,9))])
theorem zN (n:Int) (hs:s.stack.length≤90000) (ha:s.acts.length≤90000) (h0:3≤s.stack.length) (hse: -100≤se) (h1:0≤s.top 2) (h2:s.top 2 < M.nm 1) (h3:20≤se):
  Spec Tryz.prog 149 (aE [.ptr (0,9) 0, .v (.int .i64 n)] (ll M s dr se)) (aP (.tup []) (lj M { s with stack:=s.pop 3 } dr se (2,8) (3,8) (5,8)) [(0,9),(1,9),(2,8),(3,8),(4,9),(5,8)] [(0,9),(1,9),(4,9)]):=by
 have h2x:=bH M { s with stack:=s.pop 1 } dr se (by have:=bV s 1;simp only;omega) (by have:=bV s 1;simp only;omega)
 rw [eG s 0 1 ab,eI,Nat.zero_add] at h2x
 have h3x:=bH M { s with stack:=s.pop 2 } dr se (by have:=bV s 2;simp only;omega) (by have:=bV s 2;simp only;omega)
 rw [eG s 0 2 ab,eI,Nat.zero_add] at h3x
 refine Spec.ofNI Tryz.func149 rfl Tryz.ntmps149 rfl ?_
 refine aH (bN rfl (bc (Le.incT (8,0) rfl) ?_))
 refine ai (aC aa [((3,8),(8,0))] ar (bH M s dr se ab ab) ob tr tr rfl ae ae) ?_
 refine bN rfl (bc (Le.incT (10,0) rfl) ?_)
 refine ai (aC aa [((3,9),(8,0)),((3,8),(10,0))] ar (h2x) ob tr tr rfl ae ae) ?_
 refine bN rfl (bc (Le.incT (12,0) rfl) ?_)
 refine ai (aC aa [((3,9),(10,0)),((3,8),(12,0))] ar (h3x) ob tr tr rfl ae ae) ?_
 refine go 6 ?_
 refine ai (cf (r:=true) _ _ rfl rfl (decide_eq_true ab)) ?_
 refine go 6 ?_
 refine aZ rfl rfl (dC _ _ aa rfl rfl rfl 1 rfl ab ag) ?_
 refine go 1 ?_
 refine aZ rfl rfl (dg (r:=true) _ _ rfl rfl (decide_eq_true ab)) ?_
 refine go 6 ?_
 refine aZ rfl rfl (dg (r:=false) _ _ rfl rfl (decide_eq_false ab)) ?_
 refine go 3 ?_
 exact aU (fw [((2,8),(2,9)),((3,8),(12,0)),((5,8),(5,9))])
abbrev Cl (ans asked:List Int) (ak:ay):List (ay×Cells):=[((4,9), .box 129 [.sl ans.length (cB ans), .ref ak 0 asked.length, .v (.bool true)]),(ak, .row 3 1 (cB asked))]
theorem Gc (ans asked:List Int) (k:Int) (hl:asked.length≤90000) (hi:asked.length < ans.length) (hn:ans.length≤4611686018427387904):
  Spec Tryz.prog 60 (aE [.ptr (4,9) 0, .v (.int .i64 (asked.length:Int)), .v (.int .i64 k)] (Cl ans asked (5,9))) (aP (.v (.int .i64 (ans.getD asked.length 0))) (Cl ans (asked++[k]) (5,8)) [(4,9),(5,8)] [(4,9)]):=by
 have hl1:(asked++[k]).length=asked.length+1:=by simp
 refine Spec.ofNI Tryz.func60 rfl Tryz.ntmps60 rfl ?_
 refine go 11 ?_
 refine ai (dv (r:=false) _ _ rfl rfl (by simp)) ?_
 refine go 11 ?_
 refine bc (Le.incT (24,0) rfl) ?_
 refine ai (np (b:=true) (24,0) _ _ aa rfl rfl (by simp) (.sl rfl) ab rfl rfl rfl (mN _ k) hl1.symm) ?_
 refine go 5 ?_
 refine aA ?_
 refine az (σ':=ap 45 [(0,_),(1,_)] [((4,9),_),((24,0),_)] [(4,9),(24,0)] [(4,9)]) kp ?_
 refine an (bE rfl (ai (dg (r:=false) _ _ rfl rfl (decide_eq_false ab)) ?_))
 refine go 7 ?_
 refine aZ rfl rfl (cf (r:=false) _ _ rfl rfl (decide_eq_false ab)) ?_
 refine go 10 ?_
 refine ai (aL _ _ aa rfl rfl _ rfl ab (by (simp only [aM,aW,aV,aM,bo,iy];omega)) (by exact Nat.mul_one _)) ?_
 refine ai (bh _ aa rfl (by exact cU _ _ ab) rfl) ?_
 exact bF rfl (aj (aq (dm (.inr rfl) rfl (.tmp iH) (Le.outI [((5,8),(24,0))] [] .v rfl rfl rfl trivial ob tr rfl))))
theorem Ct (ans asked:List Int) (k:Int) (hl:asked.length≤90000) (hi:ans.length≤asked.length) (hn:ans.length≤4611686018427387904):
  Spec Tryz.prog 60 (aE [.ptr (4,9) 0, .v (.int .i64 (asked.length:Int)), .v (.int .i64 k)] (Cl ans asked (5,9))) (aP (.v (.int .i64 (0))) (Cl ans (asked++[k]) (5,8)) [(4,9),(5,8)] [(4,9)]):=by
 have hl1:(asked++[k]).length=asked.length+1:=by simp
 refine Spec.ofNI Tryz.func60 rfl Tryz.ntmps60 rfl ?_
 refine go 11 ?_
 refine ai (dv (r:=false) _ _ rfl rfl (by simp)) ?_
 refine go 11 ?_
 refine bc (Le.incT (24,0) rfl) ?_
 refine ai (np (b:=true) (24,0) _ _ aa rfl rfl (by simp) (.sl rfl) ab rfl rfl rfl (mN _ k) hl1.symm) ?_
 refine go 5 ?_
 refine aA ?_
 refine az (σ':=ap 45 [(0,_),(1,_)] [((4,9),_),((24,0),_)] [(4,9),(24,0)] [(4,9)]) kp ?_
 refine an (bE rfl (ai (dg (r:=false) _ _ rfl rfl (decide_eq_false ab)) ?_))
 refine go 7 ?_
 refine aZ rfl rfl (cf (r:=true) _ _ rfl rfl (decide_eq_true ab)) ?_
 refine go 6 ?_
 exact aq (dm (.inr rfl) rfl (.tmp iH) (Le.outI [((5,8),(24,0))] [] .v rfl rfl rfl trivial ob tr rfl))
theorem yN (ans asked:List Int) (k:Int) (hl:asked.length≤90000) (hn:ans.length≤4611686018427387904):
  Spec Tryz.prog 60 (aE [.ptr (4,9) 0, .v (.int .i64 (asked.length:Int)), .v (.int .i64 k)] (Cl ans asked (5,9))) (aP (.v (.int .i64 (ans.getD asked.length 0))) (Cl ans (asked++[k]) (5,8)) [(4,9),(5,8)] [(4,9)]):=by
 by_cases hi:asked.length < ans.length
 ·exact Gc ans asked k hl hi hn
 have h:=Ct ans asked k hl ab hn
 rw [List.getD_eq_getElem?_getD,List.getElem?_eq_none ab];exact h
end
end Go.Proofs.YtmjnackchaahbaaGreat
