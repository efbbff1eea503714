/- part 15 -/
import Derived.Test.YtmjnackchaahbaaGreatNvZ14
set_option linter.unusedSimpArgs false
set_option linter.unusedVariables false
set_option maxHeartbeats 2000000
namespace Go.Proofs.YtmjnackchaahbaaGreat
open Go.RowKit

def hG (l:List Nat):List Int:=l.foldl (fun m (i:Nat)=> sZ m (i:Int)) []
theorem yJ (l:List Nat) (i:Nat):hG (l++[i])=sZ (hG l) (i:Int):=by simp [hG,List.foldl_append]
theorem Ba (l:List Int) (x:Int):(sZ l x).length≤l.length+1:=by
 unfold sZ
 split
 ·omega
 have h:=congrArg List.length (List.takeWhile_append_dropWhile (p:=fun y=> decide (y < x)) (l:=l))
 simp only [List.length_append,List.length_cons,List.length_nil] at h ⊢
 omega
theorem AN (l:List Nat):(hG l).length≤l.length:=by
 have: ∀ (l:List Nat) (m:List Int),(l.foldl (fun m (i:Nat)=> sZ m (i:Int)) m).length≤m.length+l.length:=by
  intro l
  induction l with
  | nil=> intro m;simp
  | cons a l ih=> intro m;have h1:=ih (sZ m a);have h2:=Ba m a;simp only [List.foldl_cons,List.length_cons];omega
 simpa [hG] using this l []
theorem FT (M:Mk) (k:Nat) (hk:k < 9):([.v (.int .i64 (M.nm 0)), .v (.int .i64 (M.nm 1)), .v (.int .i64 (M.nm 2)), .v (.int .i64 (M.nm 3)), .v (.int .i64 (M.nm 4)), .v (.int .i64 (M.nm 5)), .v (.int .i64 (M.nm 6)), .v (.int .i64 (M.nm 7)), .v (.int .i64 (M.nm 8))]:List AV)[k]? =some (.v (.int .i64 (M.nm k))):=by
 rcases k with _ | _ | _ | _ | _ | _ | _ | _ | _ | k
 all_goals first | rfl | omega
theorem gQ (s:Ms) (h:1≤s.stack.length) (x:Int):s.stack.set (s.stack.length - 1) x=s.pop 1++[x]:=by
 unfold Ms.pop
 rw [List.set_eq_take_append_cons_drop,if_pos ab,List.drop_eq_nil_of_le ab]
theorem eV (s:Ms) (h:2≤s.stack.length) (x:Int):(s.stack.set (s.stack.length - 2) x).take (s.stack.length - 1)=s.pop 2++[x]:=by
 unfold Ms.pop
 rw [List.set_eq_take_append_cons_drop,if_pos ab,List.take_append,List.length_take,List.take_take]
 rw [show s.stack.length - 1 - min (s.stack.length - 2) s.stack.length=1 by omega,show min (s.stack.length - 1) (s.stack.length - 2)=s.stack.length - 2 by omega]
 rfl
theorem cF (s:Ms) (j:Nat) (h:j < s.stack.length):(ba s.stack)[s.stack.length - 1 - j]? =some (.v (.int .i64 (s.top j))):=cw s.stack _ ab
set_option maxHeartbeats 4000000 in
theorem yw (M:Mk) (D:Nat→Nat) (nv:Nat) (hK:PG M.cx D nv) (h:Nat) (hh:h < 40) (e0:Nat) (he:M.P.e h=(e0:Int)) (he2:e0 < M.P.c.length) (hD:D e0=0) (hiv:M.iv.length=nv) (hir: ∀ v∈M.iv,Rg v) (hc:M.P.c.length≤1000000) (hn:M.ans.length≤4611686018427387904) (R:Ms) (hR:R=jf M.cx 500 (cQ M.iv e0)):
  Spec Tryz.prog 26 (aI [fY M.P, .v (.int .i64 (h:Int)), .sl M.iv.length (ba M.iv), .agg [.v (.int .i64 (M.nm 0)), .v (.int .i64 (M.nm 1)), .v (.int .i64 (M.nm 2)), .v (.int .i64 (M.nm 3)), .v (.int .i64 (M.nm 4)), .v (.int .i64 (M.nm 5)), .v (.int .i64 (M.nm 6)), .v (.int .i64 (M.nm 7)), .v (.int .i64 (M.nm 8))], .sl M.ans.length (ba M.ans)] []) (aA (.agg [.sl R.vars.length (ba R.vars), .sl R.acts.length (pt R.acts), .v (.int .i64 (R.steps:Int)), .v (.bool (!R.fin)), .sl (hG R.cov).length (ba (hG R.cov)), .sl R.asked.length (ba R.asked)]) []):=by
 have hnv:=hK.nv
 have hg:=nh M.P.c.length (inl M.P.c) M.P.e (M.P.d:Int) (M.P.v:Int) h hh
 rw [he] at hg
 refine Spec.ofN Tryz.func26 rfl Tryz.ntmps26 rfl ?_
 refine go 6 ?_
 refine aj (gp (18,0) _ _ aa rfl ag (by (simp <;> rfl)) ah rfl rfl) ?_
 refine gT rfl (aj (bG (20,0) _ _ aa rfl rfl rfl (.sl (by simp)) ab rfl (List.nil_append _) (Nat.zero_add _)) ?_)
 refine go 7 ?_
 refine aj (bO _ _ aa rfl rfl rfl h rfl ab (by exact congrArg (fun z=> 0+1+z) (Nat.mul_one h))) ?_
 refine aj (bK _ aa rfl rfl (by exact (congrArg (fun z=> (Bx M.P.c.length (inl M.P.c) M.P.e (M.P.d:Int) (M.P.v:Int))[z]?) ab).trans hg)) ?_
 refine go 7 ?_
 refine cP rfl (decide_eq_false ab) ?_
 refine cO (aE ?_)
 refine aB (σ':=an 330 [(4,_),(5,_),(8,_),(10,_),(11,_),(12,_)] [((5,0),_),((8,0),_),((10,0),_),((20,0),_),((11,0),_)] [] []) kp ?_
 refine aD (aj (aX _ ea) (am (aF fun K7 hK7=> ?_)))
 refine aH ?_
 refine aB (Le.nilB (11,0) 1 (60,0) 57 5 rfl rfl rfl) ?_
 refine aB (Le.nil0 (11,0) 4 rfl rfl) ?_
 refine aB (Le.nilB (11,0) 5 (61,0) 3 1 rfl rfl rfl) ?_
 refine aB (Le.nilS 13 (62,0) 3 1 rfl rfl) ?_
 refine aS (α:=Nat×Ms) (fun z=> R=jf M.cx z.1 z.2∧z.1+z.2.steps=500∧At M.cx D nv z.2∧Sz z.2∧z.2.fin=false) 330 [(4,_),(5,_),(8,_),(10,_),(11,_)] [((5,0),_),((8,0),_),((10,0),_)] (fun z=> [(12, .v (.int .i64 (z.2.pc:Int))),(13, .ref (62,0) 0 z.2.stack.length)]) (fun z=> [((11,0), .box 39 [.ref (20,0) 0 z.2.vars.length, .ref (60,0) 0 z.2.acts.length, .v (.int .i64 (z.2.steps:Int)), .v (.bool false), .sl (hG z.2.cov).length (ba (hG z.2.cov)), .ref (61,0) 0 z.2.asked.length]),((20,0), .row 3 1 (ba z.2.vars)),((60,0), .row 57 5 (pt z.2.acts)),((61,0), .row 3 1 (ba z.2.asked)),((62,0), .row 3 1 (ba z.2.stack))]) [] [] (fun z=> z.1) (500,cQ M.iv e0) ?_ (kj [0,0,0,1,2,2,2,2] [] []) ?_
 ·exact ⟨hR,rfl,qa hiv hir he2 hD,⟨Nat.le_refl _,Nat.le_refl _,Nat.le_refl _⟩,rfl⟩
 intro z hz
 obtain ⟨k,s⟩:=z
 obtain ⟨hz1,hz2,hz3,hz4,hf⟩:=hz
 simp only at hz1 hz2 hz3 hz4 hf ⊢
 have hl1:=hz4.st
 have hl2:=hz4.ac
 have hl3:=hz4.ak
 have hcn:=hz3.cn
 refine aF fun K8 hK8=> ?_
 refine go 3 ?_
 refine aj (cT (r:=decide ((s.steps:Int) < 500)) _ _ rfl rfl rfl) ?_
 refine am (ax rfl (fun hc31=> ?_) (fun hc31=> ?_))
 ·obtain ⟨k,rfl⟩: ∃ q,k=q+1:=⟨k - 1,by omega⟩
  obtain ⟨hp,hd⟩:=hz3.go hf
  obtain ⟨⟨o,n⟩,hx⟩: ∃ x,M.cx.code[s.pc]? =some x:=⟨_,List.getElem?_eq_getElem hp⟩
  obtain ⟨g1,g2,_⟩:=hK.good s.pc ⟨o,n⟩ hx
  rw [Nat.zero_add] at g2
  have g2:o.pops≤D s.pc:=g2
  rw [← hd] at g2
  have hgx:M.cx.code.getD s.pc { op:= .stop }=⟨o,n⟩:=by rw [List.getD_eq_getElem?_getD,hx];rfl
  have hst:gu M.cx s=bS M.cx ⟨o,n⟩ { s with pc:=s.pc+1,steps:=s.steps+1,cov:=s.cov++[s.pc] }:=by unfold gu;rw [hgx]
  have hat:=pA hK hz3 hf
  have hsz:=pu (K:=M.cx) hz4
  have hss:=(stepM_steps (K:=M.cx) (s:=s)).1
  rw [jf,if_neg (by rw [hf];decide)] at hz1
  rw [hst] at hz1 hat hsz hss
  have hia:=uj M.P.c s.pc hp
  rw [show cu M.P.c s.pc=⟨o,n⟩ from hgx] at hia
  have hpcl:s.pc < M.P.c.length:=hp
  have hcl:=AN s.cov
  have hput:=zc (hG s.cov) (s.pc:Int) ab
  rw [← yJ] at hput
  have hvl:=hz3.iv.vl
  have hsn:=hz3.iv.sn
  have htr:=sY hz3.iv.rs
  have rV:=hK.nm
  have hvr:=nj hz3.iv.rv
  refine aR (hK8 _ ?_)
  refine go 5 ?_
  refine aj (aQ _ _ aa rfl rfl _ rfl ab (by (simp only [aq,aJ,aM,aq,bT,bm];omega)) ag) ?_
  refine aj (bs _ aa rfl (by exact hia) rfl) ?_
  refine go 7 ?_
  refine aj (ap aa al (hput) rfl rfl) ?_
  refine go 3 ?_
  refine aE ?_
  refine aB (σ':=an 330 [(4,_),(5,_),(8,_),(10,_),(11,_),(12,_),(13,_),(14,_)] [((5,0),_),((8,0),_),((10,0),_),((11,0),_),((20,0),_),((60,0),_),((61,0),_),((62,0),_),((14,0),_)] [] []) kp ?_
  refine go 3 ?_
  refine aj (eI (r:=((s.steps+1:Nat):Int)) _ _ rfl rfl ((bQ ab).trans ab)) ?_
  refine go 5 ?_
  refine aj (eI (r:=((s.pc+1:Nat):Int)) _ _ rfl rfl ((bQ ab).trans ab)) ?_
  refine go 13 ?_
  refine aj (bb _ _ rfl rfl rfl) (gn rfl (am (ax rfl (fun hc53=> ?_) (fun hc53=> ?_))))
  ·have ho:o= .push:=by cases o <;> simp [Opc.num] at hc53 ⊢
   rw [ho] at g1 g2
   have g2:0≤s.stack.length:=g2
   have g1: -2147483647≤n∧n≤2147483647:=g1
   have e:bS M.cx ⟨o,n⟩ { s with pc:=s.pc+1,steps:=s.steps+1,cov:=s.cov++[s.pc] }={ s with pc:=s.pc+1,steps:=s.steps+1,cov:=s.cov++[s.pc],stack:=s.stack++[n] }:=by rw [ho];show ({ s with pc:=_,steps:=_,cov:=_,stack:=s.stack++[kR n] }:Ms)=_;rw [tM g1]
   rw [e] at hz1 hat hsz hss
   refine aB (σ':=an 330 [(4,_),(5,_),(8,_),(10,_),(11,_),(12,_),(13,_),(14,_)] [((5,0),_),((8,0),_),((10,0),_),((11,0),_),((20,0),_),((60,0),_),((61,0),_),((62,0),_),((14,0),_)] [] []) kp ?_
   refine go 5 ?_
   refine aj (bG (59,0) _ _ aa rfl rfl (by simp) (.sl rfl) ab rfl (gW _ _) (show _+1=(s.stack++[n]).length by simp)) ?_
   refine dZ rfl (ay (⟨(k,{ s with pc:=s.pc+1,steps:=s.steps+1,cov:=s.cov++[s.pc],stack:=s.stack++[n] }),?_,?_,?_⟩))
   ·exact ⟨hz1,by simp only at hss ⊢;omega,hat,hsz,hf⟩
   ·refine Le.mkJ [((62,0),(59,0))] [] rfl ?_ ?_ trivial trivial ?_
    ·exact ⟨(by repeat' (exact Lv.sl)),(bv (id:=(5,0)) rfl),(bv (id:=(8,0)) rfl),(bv (id:=(10,0)) rfl),(bv (id:=(11,0)) rfl),(aN ag),(ca rfl ag),trivial⟩
    ·exact ⟨(cI rfl rfl rfl rfl (by repeat' (first | exact Lv.v | exact Lv.sl | exact aK | refine ai ?_ ?_))),(cI rfl rfl rfl rfl (by repeat' (first | exact Lv.v | exact aK | refine ai ?_ ?_))),(cI rfl rfl rfl rfl (by repeat' (first | exact Lv.v | exact aK | refine ai ?_ ?_))),(cI rfl rfl rfl rfl lz),(cD rfl rfl rfl ag),(cD rfl rfl rfl ag),(cD rfl rfl rfl ag),(cD rfl rfl rfl ag),trivial⟩
    kernel_rfl
   simp only;omega
  refine aE ?_
  refine aB (σ':=an 330 [(4,_),(5,_),(8,_),(10,_),(11,_),(12,_),(13,_),(14,_),(15,_),(51,_)] [((5,0),_),((8,0),_),((10,0),_),((11,0),_),((20,0),_),((60,0),_),((61,0),_),((62,0),_),((14,0),_)] [] []) kp ?_
  refine aD (aj (bb _ _ rfl rfl rfl) (gn rfl (am (ax rfl (fun hc60=> ?_) (fun hc60=> ?_)))))
  ·have ho:o= .var:=by cases o <;> simp [Opc.num] at hc60 ⊢
   rw [ho] at g1 g2
   have g2:0≤s.stack.length:=g2
   have g1:0≤n∧n < nv:=g1
   obtain ⟨j,rfl⟩: ∃ j:Nat,n=j:=⟨n.toNat,by omega⟩
   have e:bS M.cx ⟨o,(j:Int)⟩ { s with pc:=s.pc+1,steps:=s.steps+1,cov:=s.cov++[s.pc] }={ s with pc:=s.pc+1,steps:=s.steps+1,cov:=s.cov++[s.pc],stack:=s.stack++[s.vars.getD j 0] }:=by rw [ho];show ({ s with pc:=_,steps:=_,cov:=_,stack:=s.stack++[kR (s.vars.getD ((j:Int)).toNat 0)] }:Ms)=_;rw [tM (hvr _)];rfl
   rw [e] at hz1 hat hsz hss
   refine go 6 ?_
   refine aj (bq _ _ aa rfl rfl rfl _ rfl ab (by exact (Nat.zero_add _).trans (Nat.mul_one _))) ?_
   refine aj (cA _ aa rfl rfl (by exact cw _ _ ab) rfl) ?_
   refine go 1 ?_
   refine aj (bG (70,0) _ _ aa rfl rfl (by simp) (.sl rfl) ab rfl (gW _ _) (show _+1=(s.stack++[s.vars.getD j 0]).length by simp)) ?_
   refine dZ rfl (ay (⟨(k,{ s with pc:=s.pc+1,steps:=s.steps+1,cov:=s.cov++[s.pc],stack:=s.stack++[s.vars.getD j 0] }),?_,?_,?_⟩))
   ·exact ⟨hz1,by simp only at hss ⊢;omega,hat,hsz,hf⟩
   ·refine Le.mkJ [((62,0),(70,0))] [] rfl ?_ ?_ trivial trivial ?_
    ·exact ⟨(by repeat' (exact Lv.sl)),(bv (id:=(5,0)) rfl),(bv (id:=(8,0)) rfl),(bv (id:=(10,0)) rfl),(bv (id:=(11,0)) rfl),(aN ag),(ca rfl ag),trivial⟩
    ·exact ⟨(cI rfl rfl rfl rfl (by repeat' (first | exact Lv.v | exact Lv.sl | exact aK | refine ai ?_ ?_))),(cI rfl rfl rfl rfl (by repeat' (first | exact Lv.v | exact aK | refine ai ?_ ?_))),(cI rfl rfl rfl rfl (by repeat' (first | exact Lv.v | exact aK | refine ai ?_ ?_))),(cI rfl rfl rfl rfl lz),(cD rfl rfl rfl ag),(cD rfl rfl rfl ag),(cD rfl rfl rfl ag),(cD rfl rfl rfl ag),trivial⟩
    kernel_rfl
   simp only;omega
  refine aG (aj (bb _ _ rfl rfl rfl) (gn rfl (am (ax rfl (fun hc71=> ?_) (fun hc71=> ?_)))))
  ·have ho:o= .name:=by cases o <;> simp [Opc.num] at hc71 ⊢
   rw [ho] at g1 g2
   have g2:0≤s.stack.length:=g2
   have g1:0≤n∧n < 9:=g1
   obtain ⟨j,rfl⟩: ∃ j:Nat,n=j:=⟨n.toNat,by omega⟩
   have e:bS M.cx ⟨o,(j:Int)⟩ { s with pc:=s.pc+1,steps:=s.steps+1,cov:=s.cov++[s.pc] }={ s with pc:=s.pc+1,steps:=s.steps+1,cov:=s.cov++[s.pc],stack:=s.stack++[M.nm j] }:=by rw [ho];show ({ s with pc:=_,steps:=_,cov:=_,stack:=s.stack++[kR (M.names.getD ((j:Int)).toNat 0)] }:Ms)=_;rw [tM (rV _)];rfl
   rw [e] at hz1 hat hsz hss
   refine go 4 ?_
   refine aj (bO _ _ aa rfl rfl rfl j rfl ab (by exact (Nat.zero_add _).trans (Nat.mul_one _))) ?_
   refine aj (bK _ aa rfl rfl (by exact FT M j ab)) ?_
   refine go 1 ?_
   refine aj (bG (79,0) _ _ aa rfl rfl (by simp) (.sl rfl) ab rfl (gW _ _) (show _+1=(s.stack++[M.nm j]).length by simp)) ?_
   refine dZ rfl (ay (⟨(k,{ s with pc:=s.pc+1,steps:=s.steps+1,cov:=s.cov++[s.pc],stack:=s.stack++[M.nm j] }),?_,?_,?_⟩))
   ·exact ⟨hz1,by simp only at hss ⊢;omega,hat,hsz,hf⟩
   ·refine Le.mkJ [((62,0),(79,0))] [] rfl ?_ ?_ trivial trivial ?_
    ·exact ⟨(by repeat' (exact Lv.sl)),(bv (id:=(5,0)) rfl),(bv (id:=(8,0)) rfl),(bv (id:=(10,0)) rfl),(bv (id:=(11,0)) rfl),(aN ag),(ca rfl ag),trivial⟩
    ·exact ⟨(cI rfl rfl rfl rfl (by repeat' (first | exact Lv.v | exact Lv.sl | exact aK | refine ai ?_ ?_))),(cI rfl rfl rfl rfl (by repeat' (first | exact Lv.v | exact aK | refine ai ?_ ?_))),(cI rfl rfl rfl rfl (by repeat' (first | exact Lv.v | exact aK | refine ai ?_ ?_))),(cI rfl rfl rfl rfl lz),(cD rfl rfl rfl ag),(cD rfl rfl rfl ag),(cD rfl rfl rfl ag),(cD rfl rfl rfl ag),trivial⟩
    kernel_rfl
   simp only;omega
  refine aG (aj (bb _ _ rfl rfl rfl) (gn rfl (am (ax rfl (fun hc80=> ?_) (fun hc80=> ?_)))))
  ·have ho:o= .setVar:=by cases o <;> simp [Opc.num] at hc80 ⊢
   rw [ho] at g1 g2
   have g2:1≤s.stack.length:=g2
   have g1:0≤n∧n < nv:=g1
   obtain ⟨j,rfl⟩: ∃ j:Nat,n=j:=⟨n.toNat,by omega⟩
   have hjn:(j:Int) < nv:=g1.2
   have hvs:(s.vars.set j (s.top 0)).length=s.vars.length:=List.length_set
   refine aE ?_
   refine aB (σ':=an 330 [(4,_),(5,_),(8,_),(10,_),(11,_),(12,_),(13,_),(14,_),(15,_)] [((5,0),_),((8,0),_),((10,0),_),((11,0),_),((20,0),_),((60,0),_),((61,0),_),((62,0),_),((14,0),_)] [] []) kp ?_
   refine dA 9 [] ?_
   refine go 12 ?_
   refine aC (_,[]) (fun τ=> bp (r:=((s.stack.length - 1:Nat):Int)) _ _ rfl rfl ((bQ ab).trans ab)) ?_
   refine go 1 ?_
   refine aC (_,[]) (fun τ=> bq _ _ aa rfl rfl rfl _ rfl ab (by exact (Nat.zero_add _).trans (Nat.mul_one _))) ?_
   refine go 1 ?_
   refine aC (_,[]) (fun τ=> cA _ aa rfl rfl (by exact cF s 0 ab) rfl) ?_
   refine go 1 ?_
   refine ci ⟨rfl,?_⟩
   refine aj (bq _ _ aa rfl rfl rfl _ rfl ab (by exact (Nat.zero_add _).trans (Nat.mul_one _))) ?_
   refine aj (dN _ _ aa rfl rfl rfl rfl rfl (by rw [aq];simp only [List.length_cons,List.length_nil];omega) (dF s.vars j (s.top 0) ab)) ?_
   refine go 9 ?_
   refine ax rfl (fun hc96=> ?_) (fun hc96=> ?_)
   ·have hdj:j < M.P.d:=by have hd2:(j:Int) < ((M.P.d:Nat):Int):=hc96;omega
    have e:bS M.cx ⟨o,(j:Int)⟩ { s with pc:=s.pc+1,steps:=s.steps+1,cov:=s.cov++[s.pc] }={ s with pc:=s.pc+1,steps:=s.steps+1,cov:=s.cov++[s.pc],vars:=s.vars.set j (s.top 0),stack:=s.pop 1,acts:=s.acts++[{ k:=1,a:=(j:Int),b:=s.top 0 }] }:=by rw [ho];show ({ s with pc:=_,steps:=_,cov:=_,vars:=s.vars.set ((j:Int)).toNat (s.top 0),stack:=s.pop 1,acts:=if (j:Int) < ((M.P.d:Nat):Int) then _ else _ }:Ms)=_;rw [if_pos ab];rfl
    rw [e] at hz1 hat hsz hss
    refine aB (σ':=an 330 [(4,_),(5,_),(8,_),(10,_),(11,_),(12,_),(13,_),(14,_),(15,_)] [((5,0),_),((8,0),_),((10,0),_),((11,0),_),((20,0),_),((60,0),_),((61,0),_),((62,0),_),((14,0),_)] [] []) kp ?_
    refine dA 11 [] ?_
    refine go 12 ?_
    refine aC (_,[]) (fun τ=> bp (r:=((s.stack.length - 1:Nat):Int)) _ _ rfl rfl ((bQ ab).trans ab)) ?_
    refine go 1 ?_
    refine aC (_,[]) (fun τ=> bq _ _ aa rfl rfl rfl _ rfl ab (by exact (Nat.zero_add _).trans (Nat.mul_one _))) ?_
    refine go 1 ?_
    refine aC (_,[]) (fun τ=> cA _ aa rfl rfl (by exact cF s 0 ab) rfl) ?_
    refine go 6 ?_
    refine aj (bG (108,0) _ _ aa rfl rfl (bT _).symm (.sl rfl) ab rfl (gX _ { k:=1,a:=(j:Int),b:=s.top 0 }) (show _+1=(s.acts++[({ k:=1,a:=(j:Int),b:=s.top 0 }:Ac)]).length by simp)) ?_
    refine go 6 ?_
    refine aj (bp (r:=((s.stack.length - 1:Nat):Int)) _ _ rfl rfl ((bQ ab).trans ab)) ?_
    refine bA (Le.cutR (62,0) (s.stack.length - 1) rfl (cG _ _)) ?_
    refine aj (ej _ _ _ aa rfl rfl 0 (s.stack.length - 1) .dflt (.lit rfl rfl) ab ab rfl (show s.stack.length - 1 - 0=(s.pop 1).length by rw [bD];omega)) ?_
    refine dZ rfl (ay (⟨(k,{ s with pc:=s.pc+1,steps:=s.steps+1,cov:=s.cov++[s.pc],vars:=s.vars.set j (s.top 0),stack:=s.pop 1,acts:=s.acts++[{ k:=1,a:=(j:Int),b:=s.top 0 }] }),?_,?_,?_⟩))
    ·exact ⟨hz1,by simp only at hss ⊢;omega,hat,hsz,hf⟩
    ·refine Le.mkJ [((60,0),(108,0))] [] rfl ?_ ?_ trivial trivial ?_
     ·exact ⟨(by repeat' (exact Lv.sl)),(bv (id:=(5,0)) rfl),(bv (id:=(8,0)) rfl),(bv (id:=(10,0)) rfl),(bv (id:=(11,0)) rfl),(aN ag),(ca rfl ag),trivial⟩
     ·exact ⟨(cI rfl rfl rfl rfl (by repeat' (first | exact Lv.v | exact Lv.sl | exact aK | refine ai ?_ ?_))),(cI rfl rfl rfl rfl (by repeat' (first | exact Lv.v | exact aK | refine ai ?_ ?_))),(cI rfl rfl rfl rfl (by repeat' (first | exact Lv.v | exact aK | refine ai ?_ ?_))),(cI rfl rfl rfl rfl (ai (ca rfl ab) lz)),(cD rfl rfl rfl ag),(cD rfl rfl rfl ag),(cD rfl rfl rfl ag),(cD rfl rfl rfl ag),trivial⟩
     kernel_rfl
    simp only;omega
   have hdj:M.P.d≤j:=by have hd2:((M.P.d:Nat):Int)≤(j:Int):=hc96;omega
   have e:bS M.cx ⟨o,(j:Int)⟩ { s with pc:=s.pc+1,steps:=s.steps+1,cov:=s.cov++[s.pc] }={ s with pc:=s.pc+1,steps:=s.steps+1,cov:=s.cov++[s.pc],vars:=s.vars.set j (s.top 0),stack:=s.pop 1 }:=by rw [ho];show ({ s with pc:=_,steps:=_,cov:=_,vars:=s.vars.set ((j:Int)).toNat (s.top 0),stack:=s.pop 1,acts:=if (j:Int) < ((M.P.d:Nat):Int) then _ else _ }:Ms)=_;rw [if_neg ab];rfl
   rw [e] at hz1 hat hsz hss
   refine cO ?_
   refine aB (σ':=an 330 [(4,_),(5,_),(8,_),(10,_),(11,_),(12,_),(13,_),(15,_)] [((5,0),_),((8,0),_),((10,0),_),((11,0),_),((20,0),_),((60,0),_),((61,0),_),((62,0),_)] [] []) kp ?_
   refine aD (ij rfl (bV rfl (aj (bp (r:=((s.stack.length - 1:Nat):Int)) _ _ rfl rfl ((bQ ab).trans ab)) ?_)))
   refine bA (Le.cutR (62,0) (s.stack.length - 1) rfl (cG _ _)) ?_
   refine aj (ej _ _ _ aa rfl rfl 0 (s.stack.length - 1) .dflt (.lit rfl rfl) ab ab rfl (show s.stack.length - 1 - 0=(s.pop 1).length by rw [bD];omega)) ?_
   refine dZ rfl (ay (⟨(k,{ s with pc:=s.pc+1,steps:=s.steps+1,cov:=s.cov++[s.pc],vars:=s.vars.set j (s.top 0),stack:=s.pop 1 }),?_,?_,?_⟩))
   ·exact ⟨hz1,by simp only at hss ⊢;omega,hat,hsz,hf⟩
   ·refine Le.mkJ [] [] rfl ?_ ?_ trivial trivial ?_
    ·exact ⟨(iS rfl),(iP rfl),(iP rfl),(iP rfl),(iP rfl),(aN ag),(ca rfl ag),trivial⟩
    ·exact ⟨(bN rfl rfl rfl),(bN rfl rfl rfl),(bN rfl rfl rfl),(cI rfl rfl rfl rfl (ai (ca rfl ab) lz)),(cD rfl rfl rfl ag),(cD rfl rfl rfl ag),(cD rfl rfl rfl ag),(cD rfl rfl rfl ag),trivial⟩
    kernel_rfl
   simp only;omega
  refine aG (aj (bb _ _ rfl rfl rfl) (gn rfl (am (ax rfl (fun hc114=> ?_) (fun hc114=> ?_)))))
  ·have ho:o= .draw:=by cases o <;> simp [Opc.num] at hc114 ⊢
   rw [ho] at g1 g2
   have g2:1≤s.stack.length:=g2
   obtain ⟨q,hq⟩: ∃ q,max 1 (min (s.top 0) 4)=q:=⟨_,rfl⟩
   have hq2:1≤q∧q≤4:=by omega
   have hans:=vL M.ans s.asked.length q ab ab hn
   refine aG (ij rfl (bV rfl (aj (bp (r:=((s.stack.length - 1:Nat):Int)) _ _ rfl rfl ((bQ ab).trans ab)) ?_)))
   refine aj (bq _ _ aa rfl rfl rfl _ rfl ab (by exact (Nat.zero_add _).trans (Nat.mul_one _))) ?_
   refine aj (cA _ aa rfl rfl (by exact cF s 0 ab) rfl) ?_
   refine aj (qu _ _ rfl rfl rfl) (aj (qT (r:=q) _ _ rfl rfl hq) ?_)
   refine cp rfl (am (aE ?_))
   refine aB (σ':=an 330 [(4,_),(5,_),(8,_),(10,_),(11,_),(12,_),(13,_),(15,_),(16,_)] [((5,0),_),((8,0),_),((10,0),_),((11,0),_),((20,0),_),((60,0),_),((61,0),_),((62,0),_)] [] []) kp ?_
   refine aD (ij rfl (bV rfl (aj (bp (r:=((s.stack.length - 1:Nat):Int)) _ _ rfl rfl ((bQ ab).trans ab)) ?_)))
   refine aj (bq _ _ aa rfl rfl rfl _ rfl ab (by exact (Nat.zero_add _).trans (Nat.mul_one _))) ?_
   refine aj (dN _ _ aa rfl rfl rfl rfl rfl (by rw [aq];simp only [List.length_cons,List.length_nil];omega) ((dF s.stack (s.stack.length - 1) 0 ab).trans (congrArg ba (gQ s g2 0)))) ?_
   refine go 5 ?_
   refine ax rfl (fun hc128=> ?_) (fun hc128=> ?_)
   ·have hq1:q≠1:=by omega
    have e:bS M.cx ⟨o,n⟩ { s with pc:=s.pc+1,steps:=s.steps+1,cov:=s.cov++[s.pc] }={ s with pc:=s.pc+1,steps:=s.steps+1,cov:=s.cov++[s.pc],stack:=s.pop 1++[el M.ans s.asked.length q],asked:=s.asked++[q] }:=by rw [ho];subst hq;exact if_neg hq1
    rw [e] at hz1 hat hsz hss
    have hpl:(s.pop 1++[(0:Int)]).length=s.stack.length:=by rw [← gQ s g2,List.length_set]
    have hpl2:(s.pop 1++[el M.ans s.asked.length q]).length=s.stack.length:=by rw [← gQ s g2,List.length_set]
    refine aG (ij rfl (bV rfl (aj (bp (r:=((s.stack.length - 1:Nat):Int)) _ _ rfl rfl ((bQ ab).trans ab)) ?_)))
    refine go 5 ?_
    refine aj (ap aa al (hans) rfl rfl) ?_
    refine aj (bq _ _ aa rfl rfl rfl _ rfl ab (by exact (Nat.zero_add _).trans (Nat.mul_one _))) ?_
    refine aj (dN _ _ aa rfl rfl rfl rfl rfl (by rw [aq,hpl];simp only [List.length_cons,List.length_nil];omega) ((dF _ (s.stack.length - 1) (el M.ans s.asked.length q) ab).trans (congrArg ba (by rw [← gQ s g2 0,List.set_set,gQ s g2])))) ?_
    refine am ?_
    refine aB (σ':=an 330 [(4,_),(5,_),(8,_),(10,_),(11,_),(12,_),(13,_),(16,_)] [((5,0),_),((8,0),_),((10,0),_),((11,0),_),((20,0),_),((60,0),_),((61,0),_),((62,0),_)] [] []) kp ?_
    refine go 5 ?_
    refine aj (bG (143,0) _ _ aa rfl rfl (by simp) (.sl rfl) ab rfl (gW _ _) (show _+1=(s.asked++[q]).length by simp)) ?_
    refine go 2 ?_
    refine ay (⟨(k,{ s with pc:=s.pc+1,steps:=s.steps+1,cov:=s.cov++[s.pc],stack:=s.pop 1++[el M.ans s.asked.length q],asked:=s.asked++[q] }),?_,?_,?_⟩)
    ·exact ⟨hz1,by simp only at hss ⊢;omega,hat,hsz,hf⟩
    ·refine Le.mkJ [((61,0),(143,0))] [] rfl ?_ ?_ trivial trivial ?_
     ·exact ⟨(by repeat' (exact Lv.sl)),(bv (id:=(5,0)) rfl),(bv (id:=(8,0)) rfl),(bv (id:=(10,0)) rfl),(bv (id:=(11,0)) rfl),(aN ag),(ca rfl ab),trivial⟩
     ·exact ⟨(cI rfl rfl rfl rfl (by repeat' (first | exact Lv.v | exact Lv.sl | exact aK | refine ai ?_ ?_))),(cI rfl rfl rfl rfl (by repeat' (first | exact Lv.v | exact aK | refine ai ?_ ?_))),(cI rfl rfl rfl rfl (by repeat' (first | exact Lv.v | exact aK | refine ai ?_ ?_))),(cI rfl rfl rfl rfl lz),(cD rfl rfl rfl ag),(cD rfl rfl rfl ag),(cD rfl rfl rfl ag),(cD rfl rfl rfl ag),trivial⟩
     kernel_rfl
    simp only;omega
   have hq1:q=1:=by omega
   have e:bS M.cx ⟨o,n⟩ { s with pc:=s.pc+1,steps:=s.steps+1,cov:=s.cov++[s.pc] }={ s with pc:=s.pc+1,steps:=s.steps+1,cov:=s.cov++[s.pc],stack:=s.pop 1++[0] }:=by rw [ho];subst hq;exact if_pos hq1
   rw [e] at hz1 hat hsz hss
   have hpl:(s.pop 1++[(0:Int)]).length=s.stack.length:=by rw [← gQ s g2,List.length_set]
   refine aR (⟨(k,{ s with pc:=s.pc+1,steps:=s.steps+1,cov:=s.cov++[s.pc],stack:=s.pop 1++[0] }),?_,?_,?_⟩)
   ·exact ⟨hz1,by simp only at hss ⊢;omega,hat,hsz,hf⟩
   ·refine Le.mkJ [] [] rfl ?_ ?_ trivial trivial ?_
    ·exact ⟨(iS rfl),(iP rfl),(iP rfl),(iP rfl),(iP rfl),(aN ag),(ca rfl ab),trivial⟩
    ·exact ⟨(bN rfl rfl rfl),(bN rfl rfl rfl),(bN rfl rfl rfl),(cI rfl rfl rfl rfl lz),(cD rfl rfl rfl ag),(cD rfl rfl rfl ag),(cD rfl rfl rfl ag),(cD rfl rfl rfl ag),trivial⟩
    kernel_rfl
   simp only;omega
  refine aE (aG (aj (bb _ _ rfl rfl rfl) (gn rfl (am (ax rfl (fun hc145=> ?_) (fun hc145=> ?_))))))
  ·have ho:o= .add∨o= .sub∨o= .mul∨o= .div∨o= .lt∨o= .le∨o= .eq:=by cases o <;> simp [Opc.num] at hc145 ⊢
   have g2:2≤s.stack.length:=by rcases ho with rfl | rfl | rfl | rfl | rfl | rfl | rfl <;> exact g2
   have hap:=fL (htr 1) (htr 0) ho
   have e:bS M.cx ⟨o,n⟩ { s with pc:=s.pc+1,steps:=s.steps+1,cov:=s.cov++[s.pc] }={ s with pc:=s.pc+1,steps:=s.steps+1,cov:=s.cov++[s.pc],stack:=s.pop 2++[eE o (s.top 1) (s.top 0)] }:=by rcases ho with rfl | rfl | rfl | rfl | rfl | rfl | rfl <;> rfl
   rw [e] at hz1 hat hsz hss
   have hsl:(s.stack.set (s.stack.length - 2) (eE o (s.top 1) (s.top 0))).length=s.stack.length:=List.length_set
   refine cO (fX rfl (by exact beq_iff_eq.2 hc145) ?_)
   refine aE ?_
   refine aB (σ':=an 330 [(4,_),(5,_),(8,_),(10,_),(11,_),(12,_),(13,_),(14,_),(15,_)] [((5,0),_),((8,0),_),((10,0),_),((11,0),_),((20,0),_),((60,0),_),((61,0),_),((62,0),_),((14,0),_)] [] []) kp ?_
   refine dA 16 [] ?_
   refine go 4 ?_
   refine aC (_,[]) (fun τ=> bp (r:=((s.stack.length - 2:Nat):Int)) _ _ rfl rfl ((bQ ab).trans ab)) ?_
   refine go 9 ?_
   refine aC (_,[]) (fun τ=> bp (r:=((s.stack.length - 2:Nat):Int)) _ _ rfl rfl ((bQ ab).trans ab)) ?_
   refine go 1 ?_
   refine aC (_,[]) (fun τ=> bq _ _ aa rfl rfl rfl _ rfl ab (by exact (Nat.zero_add _).trans (Nat.mul_one _))) ?_
   refine go 1 ?_
   refine aC (_,[]) (fun τ=> cA _ aa rfl rfl (by exact cF s 1 ab) rfl) ?_
   refine go 5 ?_
   refine aC (_,[]) (fun τ=> bp (r:=((s.stack.length - 1:Nat):Int)) _ _ rfl rfl ((bQ ab).trans ab)) ?_
   refine go 1 ?_
   refine aC (_,[]) (fun τ=> bq _ _ aa rfl rfl rfl _ rfl ab (by exact (Nat.zero_add _).trans (Nat.mul_one _))) ?_
   refine go 1 ?_
   refine aC (_,[]) (fun τ=> cA _ aa rfl rfl (by exact cF s 0 ab) rfl) ?_
   refine go 1 ?_
   refine aC (_,[]) (fun τ=> (ap aa al (hap) rfl rfl)) ?_
   refine go 1 ?_
   refine ci ⟨rfl,?_⟩
   refine aj (bq _ _ aa rfl rfl rfl _ rfl ab (by exact (Nat.zero_add _).trans (Nat.mul_one _))) ?_
   refine aj (dN _ _ aa rfl rfl rfl rfl rfl (by rw [aq];simp only [List.length_cons,List.length_nil];omega) (dF s.stack (s.stack.length - 2) _ ab)) ?_
   refine am ?_
   refine aB (σ':=an 330 [(4,_),(5,_),(8,_),(10,_),(11,_),(12,_),(13,_),(15,_)] [((5,0),_),((8,0),_),((10,0),_),((11,0),_),((20,0),_),((60,0),_),((61,0),_),((62,0),_)] [] []) kp ?_
   refine aD (ij rfl (bV rfl (aj (bp (r:=((s.stack.length - 1:Nat):Int)) _ _ rfl rfl ((bQ ab).trans ab)) ?_)))
   refine bA (Le.cutR (62,0) (s.stack.length - 1) rfl ((cG _ _).trans (congrArg ba (eV s g2 _)))) ?_
   refine aj (ej _ _ _ aa rfl rfl 0 (s.stack.length - 1) .dflt (.lit rfl rfl) ab ab rfl (show s.stack.length - 1 - 0=(s.pop 2++[eE o (s.top 1) (s.top 0)]).length by rw [← eV s g2,List.length_take,hsl];omega)) ?_
   refine dZ rfl (ay (⟨(k,{ s with pc:=s.pc+1,steps:=s.steps+1,cov:=s.cov++[s.pc],stack:=s.pop 2++[eE o (s.top 1) (s.top 0)] }),?_,?_,?_⟩))
   ·exact ⟨hz1,by simp only at hss ⊢;omega,hat,hsz,hf⟩
   ·exact kj [0,0,0,1,2,2,2,2] [] []
   simp only;omega
  refine aG (aj (bb _ _ rfl rfl rfl) (gn rfl (am (ax rfl (fun hc145=> ?_) (fun hc145=> ?_)))))
  ·have ho:o= .add∨o= .sub∨o= .mul∨o= .div∨o= .lt∨o= .le∨o= .eq:=by cases o <;> simp [Opc.num] at hc145 ⊢
   have g2:2≤s.stack.length:=by rcases ho with rfl | rfl | rfl | rfl | rfl | rfl | rfl <;> exact g2
   have hap:=fL (htr 1) (htr 0) ho
   have e:bS M.cx ⟨o,n⟩ { s with pc:=s.pc+1,steps:=s.steps+1,cov:=s.cov++[s.pc] }={ s with pc:=s.pc+1,steps:=s.steps+1,cov:=s.cov++[s.pc],stack:=s.pop 2++[eE o (s.top 1) (s.top 0)] }:=by rcases ho with rfl | rfl | rfl | rfl | rfl | rfl | rfl <;> rfl
   rw [e] at hz1 hat hsz hss
   have hsl:(s.stack.set (s.stack.length - 2) (eE o (s.top 1) (s.top 0))).length=s.stack.length:=List.length_set
   refine cO (fX rfl (by exact beq_iff_eq.2 hc145) ?_)
   refine aE ?_
   refine aB (σ':=an 330 [(4,_),(5,_),(8,_),(10,_),(11,_),(12,_),(13,_),(14,_),(15,_)] [((5,0),_),((8,0),_),((10,0),_),((11,0),_),((20,0),_),((60,0),_),((61,0),_),((62,0),_),((14,0),_)] [] []) kp ?_
   refine dA 16 [] ?_
   refine go 4 ?_
   refine aC (_,[]) (fun τ=> bp (r:=((s.stack.length - 2:Nat):Int)) _ _ rfl rfl ((bQ ab).trans ab)) ?_
   refine go 9 ?_
   refine aC (_,[]) (fun τ=> bp (r:=((s.stack.length - 2:Nat):Int)) _ _ rfl rfl ((bQ ab).trans ab)) ?_
   refine go 1 ?_
   refine aC (_,[]) (fun τ=> bq _ _ aa rfl rfl rfl _ rfl ab (by exact (Nat.zero_add _).trans (Nat.mul_one _))) ?_
   refine go 1 ?_
   refine aC (_,[]) (fun τ=> cA _ aa rfl rfl (by exact cF s 1 ab) rfl) ?_
   refine go 5 ?_
   refine aC (_,[]) (fun τ=> bp (r:=((s.stack.length - 1:Nat):Int)) _ _ rfl rfl ((bQ ab).trans ab)) ?_
   refine go 1 ?_
   refine aC (_,[]) (fun τ=> bq _ _ aa rfl rfl rfl _ rfl ab (by exact (Nat.zero_add _).trans (Nat.mul_one _))) ?_
   refine go 1 ?_
   refine aC (_,[]) (fun τ=> cA _ aa rfl rfl (by exact cF s 0 ab) rfl) ?_
   refine go 1 ?_
   refine aC (_,[]) (fun τ=> (ap aa al (hap) rfl rfl)) ?_
   refine go 1 ?_
   refine ci ⟨rfl,?_⟩
   refine aj (bq _ _ aa rfl rfl rfl _ rfl ab (by exact (Nat.zero_add _).trans (Nat.mul_one _))) ?_
   refine aj (dN _ _ aa rfl rfl rfl rfl rfl (by rw [aq];simp only [List.length_cons,List.length_nil];omega) (dF s.stack (s.stack.length - 2) _ ab)) ?_
   refine am ?_
   refine aB (σ':=an 330 [(4,_),(5,_),(8,_),(10,_),(11,_),(12,_),(13,_),(15,_)] [((5,0),_),((8,0),_),((10,0),_),((11,0),_),((20,0),_),((60,0),_),((61,0),_),((62,0),_)] [] []) kp ?_
   refine aD (ij rfl (bV rfl (aj (bp (r:=((s.stack.length - 1:Nat):Int)) _ _ rfl rfl ((bQ ab).trans ab)) ?_)))
   refine bA (Le.cutR (62,0) (s.stack.length - 1) rfl ((cG _ _).trans (congrArg ba (eV s g2 _)))) ?_
   refine aj (ej _ _ _ aa rfl rfl 0 (s.stack.length - 1) .dflt (.lit rfl rfl) ab ab rfl (show s.stack.length - 1 - 0=(s.pop 2++[eE o (s.top 1) (s.top 0)]).length by rw [← eV s g2,List.length_take,hsl];omega)) ?_
   refine dZ rfl (ay (⟨(k,{ s with pc:=s.pc+1,steps:=s.steps+1,cov:=s.cov++[s.pc],stack:=s.pop 2++[eE o (s.top 1) (s.top 0)] }),?_,?_,?_⟩))
   ·exact ⟨hz1,by simp only at hss ⊢;omega,hat,hsz,hf⟩
   ·exact kj [0,0,0,1,2,2,2,2] [] []
   simp only;omega
  refine aG (aj (bb _ _ rfl rfl rfl) (gn rfl (am (ax rfl (fun hc145=> ?_) (fun hc145=> ?_)))))
  ·have ho:o= .add∨o= .sub∨o= .mul∨o= .div∨o= .lt∨o= .le∨o= .eq:=by cases o <;> simp [Opc.num] at hc145 ⊢
   have g2:2≤s.stack.length:=by rcases ho with rfl | rfl | rfl | rfl | rfl | rfl | rfl <;> exact g2
   have hap:=fL (htr 1) (htr 0) ho
   have e:bS M.cx ⟨o,n⟩ { s with pc:=s.pc+1,steps:=s.steps+1,cov:=s.cov++[s.pc] }={ s with pc:=s.pc+1,steps:=s.steps+1,cov:=s.cov++[s.pc],stack:=s.pop 2++[eE o (s.top 1) (s.top 0)] }:=by rcases ho with rfl | rfl | rfl | rfl | rfl | rfl | rfl <;> rfl
   rw [e] at hz1 hat hsz hss
   have hsl:(s.stack.set (s.stack.length - 2) (eE o (s.top 1) (s.top 0))).length=s.stack.length:=List.length_set
   refine cO (fX rfl (by exact beq_iff_eq.2 hc145) ?_)
   refine aE ?_
   refine aB (σ':=an 330 [(4,_),(5,_),(8,_),(10,_),(11,_),(12,_),(13,_),(14,_),(15,_)] [((5,0),_),((8,0),_),((10,0),_),((11,0),_),((20,0),_),((60,0),_),((61,0),_),((62,0),_),((14,0),_)] [] []) kp ?_
   refine dA 16 [] ?_
   refine go 4 ?_
   refine aC (_,[]) (fun τ=> bp (r:=((s.stack.length - 2:Nat):Int)) _ _ rfl rfl ((bQ ab).trans ab)) ?_
   refine go 9 ?_
   refine aC (_,[]) (fun τ=> bp (r:=((s.stack.length - 2:Nat):Int)) _ _ rfl rfl ((bQ ab).trans ab)) ?_
   refine go 1 ?_
   refine aC (_,[]) (fun τ=> bq _ _ aa rfl rfl rfl _ rfl ab (by exact (Nat.zero_add _).trans (Nat.mul_one _))) ?_
   refine go 1 ?_
   refine aC (_,[]) (fun τ=> cA _ aa rfl rfl (by exact cF s 1 ab) rfl) ?_
   refine go 5 ?_
   refine aC (_,[]) (fun τ=> bp (r:=((s.stack.length - 1:Nat):Int)) _ _ rfl rfl ((bQ ab).trans ab)) ?_
   refine go 1 ?_
   refine aC (_,[]) (fun τ=> bq _ _ aa rfl rfl rfl _ rfl ab (by exact (Nat.zero_add _).trans (Nat.mul_one _))) ?_
   refine go 1 ?_
   refine aC (_,[]) (fun τ=> cA _ aa rfl rfl (by exact cF s 0 ab) rfl) ?_
   refine go 1 ?_
   refine aC (_,[]) (fun τ=> (ap aa al (hap) rfl rfl)) ?_
   refine go 1 ?_
   refine ci ⟨rfl,?_⟩
   refine aj (bq _ _ aa rfl rfl rfl _ rfl ab (by exact (Nat.zero_add _).trans (Nat.mul_one _))) ?_
   refine aj (dN _ _ aa rfl rfl rfl rfl rfl (by rw [aq];simp only [List.length_cons,List.length_nil];omega) (dF s.stack (s.stack.length - 2) _ ab)) ?_
   refine am ?_
   refine aB (σ':=an 330 [(4,_),(5,_),(8,_),(10,_),(11,_),(12,_),(13,_),(15,_)] [((5,0),_),((8,0),_),((10,0),_),((11,0),_),((20,0),_),((60,0),_),((61,0),_),((62,0),_)] [] []) kp ?_
   refine aD (ij rfl (bV rfl (aj (bp (r:=((s.stack.length - 1:Nat):Int)) _ _ rfl rfl ((bQ ab).trans ab)) ?_)))
   refine bA (Le.cutR (62,0) (s.stack.length - 1) rfl ((cG _ _).trans (congrArg ba (eV s g2 _)))) ?_
   refine aj (ej _ _ _ aa rfl rfl 0 (s.stack.length - 1) .dflt (.lit rfl rfl) ab ab rfl (show s.stack.length - 1 - 0=(s.pop 2++[eE o (s.top 1) (s.top 0)]).length by rw [← eV s g2,List.length_take,hsl];omega)) ?_
   refine dZ rfl (ay (⟨(k,{ s with pc:=s.pc+1,steps:=s.steps+1,cov:=s.cov++[s.pc],stack:=s.pop 2++[eE o (s.top 1) (s.top 0)] }),?_,?_,?_⟩))
   ·exact ⟨hz1,by simp only at hss ⊢;omega,hat,hsz,hf⟩
   ·exact kj [0,0,0,1,2,2,2,2] [] []
   simp only;omega
  refine aG (aj (bb _ _ rfl rfl rfl) (gn rfl (am (ax rfl (fun hc145=> ?_) (fun hc145=> ?_)))))
  ·have ho:o= .add∨o= .sub∨o= .mul∨o= .div∨o= .lt∨o= .le∨o= .eq:=by cases o <;> simp [Opc.num] at hc145 ⊢
   have g2:2≤s.stack.length:=by rcases ho with rfl | rfl | rfl | rfl | rfl | rfl | rfl <;> exact g2
   have hap:=fL (htr 1) (htr 0) ho
   have e:bS M.cx ⟨o,n⟩ { s with pc:=s.pc+1,steps:=s.steps+1,cov:=s.cov++[s.pc] }={ s with pc:=s.pc+1,steps:=s.steps+1,cov:=s.cov++[s.pc],stack:=s.pop 2++[eE o (s.top 1) (s.top 0)] }:=by rcases ho with rfl | rfl | rfl | rfl | rfl | rfl | rfl <;> rfl
   rw [e] at hz1 hat hsz hss
   have hsl:(s.stack.set (s.stack.length - 2) (eE o (s.top 1) (s.top 0))).length=s.stack.length:=List.length_set
   refine cO (fX rfl (by exact beq_iff_eq.2 hc145) ?_)
   refine aE ?_
   refine aB (σ':=an 330 [(4,_),(5,_),(8,_),(10,_),(11,_),(12,_),(13,_),(14,_),(15,_)] [((5,0),_),((8,0),_),((10,0),_),((11,0),_),((20,0),_),((60,0),_),((61,0),_),((62,0),_),((14,0),_)] [] []) kp ?_
   refine dA 16 [] ?_
   refine go 4 ?_
   refine aC (_,[]) (fun τ=> bp (r:=((s.stack.length - 2:Nat):Int)) _ _ rfl rfl ((bQ ab).trans ab)) ?_
   refine go 9 ?_
   refine aC (_,[]) (fun τ=> bp (r:=((s.stack.length - 2:Nat):Int)) _ _ rfl rfl ((bQ ab).trans ab)) ?_
   refine go 1 ?_
   refine aC (_,[]) (fun τ=> bq _ _ aa rfl rfl rfl _ rfl ab (by exact (Nat.zero_add _).trans (Nat.mul_one _))) ?_
   refine go 1 ?_
   refine aC (_,[]) (fun τ=> cA _ aa rfl rfl (by exact cF s 1 ab) rfl) ?_
   refine go 5 ?_
   refine aC (_,[]) (fun τ=> bp (r:=((s.stack.length - 1:Nat):Int)) _ _ rfl rfl ((bQ ab).trans ab)) ?_
   refine go 1 ?_
   refine aC (_,[]) (fun τ=> bq _ _ aa rfl rfl rfl _ rfl ab (by exact (Nat.zero_add _).trans (Nat.mul_one _))) ?_
   refine go 1 ?_
   refine aC (_,[]) (fun τ=> cA _ aa rfl rfl (by exact cF s 0 ab) rfl) ?_
   refine go 1 ?_
   refine aC (_,[]) (fun τ=> (ap aa al (hap) rfl rfl)) ?_
   refine go 1 ?_
   refine ci ⟨rfl,?_⟩
   refine aj (bq _ _ aa rfl rfl rfl _ rfl ab (by exact (Nat.zero_add _).trans (Nat.mul_one _))) ?_
   refine aj (dN _ _ aa rfl rfl rfl rfl rfl (by rw [aq];simp only [List.length_cons,List.length_nil];omega) (dF s.stack (s.stack.length - 2) _ ab)) ?_
   refine am ?_
   refine aB (σ':=an 330 [(4,_),(5,_),(8,_),(10,_),(11,_),(12,_),(13,_),(15,_)] [((5,0),_),((8,0),_),((10,0),_),((11,0),_),((20,0),_),((60,0),_),((61,0),_),((62,0),_)] [] []) kp ?_
   refine aD (ij rfl (bV rfl (aj (bp (r:=((s.stack.length - 1:Nat):Int)) _ _ rfl rfl ((bQ ab).trans ab)) ?_)))
   refine bA (Le.cutR (62,0) (s.stack.length - 1) rfl ((cG _ _).trans (congrArg ba (eV s g2 _)))) ?_
   refine aj (ej _ _ _ aa rfl rfl 0 (s.stack.length - 1) .dflt (.lit rfl rfl) ab ab rfl (show s.stack.length - 1 - 0=(s.pop 2++[eE o (s.top 1) (s.top 0)]).length by rw [← eV s g2,List.length_take,hsl];omega)) ?_
   refine dZ rfl (ay (⟨(k,{ s with pc:=s.pc+1,steps:=s.steps+1,cov:=s.cov++[s.pc],stack:=s.pop 2++[eE o (s.top 1) (s.top 0)] }),?_,?_,?_⟩))
   ·exact ⟨hz1,by simp only at hss ⊢;omega,hat,hsz,hf⟩
   ·exact kj [0,0,0,1,2,2,2,2] [] []
   simp only;omega
  refine aE ?_
  refine aB (σ':=an 330 [(4,_),(5,_),(8,_),(10,_),(11,_),(12,_),(13,_),(14,_),(15,_),(51,_)] [((5,0),_),((8,0),_),((10,0),_),((11,0),_),((20,0),_),((60,0),_),((61,0),_),((62,0),_),((14,0),_)] [] []) kp ?_
  refine aD (aj (bb _ _ rfl rfl rfl) (gn rfl (am (ax rfl (fun hc145=> ?_) (fun hc145=> ?_)))))
  ·have ho:o= .add∨o= .sub∨o= .mul∨o= .div∨o= .lt∨o= .le∨o= .eq:=by cases o <;> simp [Opc.num] at hc145 ⊢
   have g2:2≤s.stack.length:=by rcases ho with rfl | rfl | rfl | rfl | rfl | rfl | rfl <;> exact g2
   have hap:=fL (htr 1) (htr 0) ho
   have e:bS M.cx ⟨o,n⟩ { s with pc:=s.pc+1,steps:=s.steps+1,cov:=s.cov++[s.pc] }={ s with pc:=s.pc+1,steps:=s.steps+1,cov:=s.cov++[s.pc],stack:=s.pop 2++[eE o (s.top 1) (s.top 0)] }:=by rcases ho with rfl | rfl | rfl | rfl | rfl | rfl | rfl <;> rfl
   rw [e] at hz1 hat hsz hss
   have hsl:(s.stack.set (s.stack.length - 2) (eE o (s.top 1) (s.top 0))).length=s.stack.length:=List.length_set
   refine cO (fX rfl (by exact beq_iff_eq.2 hc145) ?_)
   refine aE (dA 16 [] ?_)
   refine go 4 ?_
   refine aC (_,[]) (fun τ=> bp (r:=((s.stack.length - 2:Nat):Int)) _ _ rfl rfl ((bQ ab).trans ab)) ?_
   refine go 9 ?_
   refine aC (_,[]) (fun τ=> bp (r:=((s.stack.length - 2:Nat):Int)) _ _ rfl rfl ((bQ ab).trans ab)) ?_
   refine go 1 ?_
   refine aC (_,[]) (fun τ=> bq _ _ aa rfl rfl rfl _ rfl ab (by exact (Nat.zero_add _).trans (Nat.mul_one _))) ?_
   refine go 1 ?_
   refine aC (_,[]) (fun τ=> cA _ aa rfl rfl (by exact cF s 1 ab) rfl) ?_
   refine go 5 ?_
   refine aC (_,[]) (fun τ=> bp (r:=((s.stack.length - 1:Nat):Int)) _ _ rfl rfl ((bQ ab).trans ab)) ?_
   refine go 1 ?_
   refine aC (_,[]) (fun τ=> bq _ _ aa rfl rfl rfl _ rfl ab (by exact (Nat.zero_add _).trans (Nat.mul_one _))) ?_
   refine go 1 ?_
   refine aC (_,[]) (fun τ=> cA _ aa rfl rfl (by exact cF s 0 ab) rfl) ?_
   refine go 1 ?_
   refine aC (_,[]) (fun τ=> (ap aa al (hap) rfl rfl)) ?_
   refine go 1 ?_
   refine ci ⟨rfl,?_⟩
   refine aj (bq _ _ aa rfl rfl rfl _ rfl ab (by exact (Nat.zero_add _).trans (Nat.mul_one _))) ?_
   refine aj (dN _ _ aa rfl rfl rfl rfl rfl (by rw [aq];simp only [List.length_cons,List.length_nil];omega) (dF s.stack (s.stack.length - 2) _ ab)) ?_
   refine am ?_
   refine aB (σ':=an 330 [(4,_),(5,_),(8,_),(10,_),(11,_),(12,_),(13,_),(15,_)] [((5,0),_),((8,0),_),((10,0),_),((11,0),_),((20,0),_),((60,0),_),((61,0),_),((62,0),_)] [] []) kp ?_
   refine aD (ij rfl (bV rfl (aj (bp (r:=((s.stack.length - 1:Nat):Int)) _ _ rfl rfl ((bQ ab).trans ab)) ?_)))
   refine bA (Le.cutR (62,0) (s.stack.length - 1) rfl ((cG _ _).trans (congrArg ba (eV s g2 _)))) ?_
   refine aj (ej _ _ _ aa rfl rfl 0 (s.stack.length - 1) .dflt (.lit rfl rfl) ab ab rfl (show s.stack.length - 1 - 0=(s.pop 2++[eE o (s.top 1) (s.top 0)]).length by rw [← eV s g2,List.length_take,hsl];omega)) ?_
   refine dZ rfl (ay (⟨(k,{ s with pc:=s.pc+1,steps:=s.steps+1,cov:=s.cov++[s.pc],stack:=s.pop 2++[eE o (s.top 1) (s.top 0)] }),?_,?_,?_⟩))
   ·exact ⟨hz1,by simp only at hss ⊢;omega,hat,hsz,hf⟩
   ·exact kj [0,0,0,1,2,2,2,2] [] []
   simp only;omega
  refine aG (aj (bb _ _ rfl rfl rfl) (gn rfl (am (ax rfl (fun hc145=> ?_) (fun hc145=> ?_)))))
  ·have ho:o= .add∨o= .sub∨o= .mul∨o= .div∨o= .lt∨o= .le∨o= .eq:=by cases o <;> simp [Opc.num] at hc145 ⊢
   have g2:2≤s.stack.length:=by rcases ho with rfl | rfl | rfl | rfl | rfl | rfl | rfl <;> exact g2
   have hap:=fL (htr 1) (htr 0) ho
   have e:bS M.cx ⟨o,n⟩ { s with pc:=s.pc+1,steps:=s.steps+1,cov:=s.cov++[s.pc] }={ s with pc:=s.pc+1,steps:=s.steps+1,cov:=s.cov++[s.pc],stack:=s.pop 2++[eE o (s.top 1) (s.top 0)] }:=by rcases ho with rfl | rfl | rfl | rfl | rfl | rfl | rfl <;> rfl
   rw [e] at hz1 hat hsz hss
   have hsl:(s.stack.set (s.stack.length - 2) (eE o (s.top 1) (s.top 0))).length=s.stack.length:=List.length_set
   refine cO (fX rfl (by exact beq_iff_eq.2 hc145) ?_)
   refine aE ?_
   refine aB (σ':=an 330 [(4,_),(5,_),(8,_),(10,_),(11,_),(12,_),(13,_),(14,_),(15,_)] [((5,0),_),((8,0),_),((10,0),_),((11,0),_),((20,0),_),((60,0),_),((61,0),_),((62,0),_),((14,0),_)] [] []) kp ?_
   refine dA 16 [] ?_
   refine go 4 ?_
   refine aC (_,[]) (fun τ=> bp (r:=((s.stack.length - 2:Nat):Int)) _ _ rfl rfl ((bQ ab).trans ab)) ?_
   refine go 9 ?_
   refine aC (_,[]) (fun τ=> bp (r:=((s.stack.length - 2:Nat):Int)) _ _ rfl rfl ((bQ ab).trans ab)) ?_
   refine go 1 ?_
   refine aC (_,[]) (fun τ=> bq _ _ aa rfl rfl rfl _ rfl ab (by exact (Nat.zero_add _).trans (Nat.mul_one _))) ?_
   refine go 1 ?_
   refine aC (_,[]) (fun τ=> cA _ aa rfl rfl (by exact cF s 1 ab) rfl) ?_
   refine go 5 ?_
   refine aC (_,[]) (fun τ=> bp (r:=((s.stack.length - 1:Nat):Int)) _ _ rfl rfl ((bQ ab).trans ab)) ?_
   refine go 1 ?_
   refine aC (_,[]) (fun τ=> bq _ _ aa rfl rfl rfl _ rfl ab (by exact (Nat.zero_add _).trans (Nat.mul_one _))) ?_
   refine go 1 ?_
   refine aC (_,[]) (fun τ=> cA _ aa rfl rfl (by exact cF s 0 ab) rfl) ?_
   refine go 1 ?_
   refine aC (_,[]) (fun τ=> (ap aa al (hap) rfl rfl)) ?_
   refine go 1 ?_
   refine ci ⟨rfl,?_⟩
   refine aj (bq _ _ aa rfl rfl rfl _ rfl ab (by exact (Nat.zero_add _).trans (Nat.mul_one _))) ?_
   refine aj (dN _ _ aa rfl rfl rfl rfl rfl (by rw [aq];simp only [List.length_cons,List.length_nil];omega) (dF s.stack (s.stack.length - 2) _ ab)) ?_
   refine am ?_
   refine aB (σ':=an 330 [(4,_),(5,_),(8,_),(10,_),(11,_),(12,_),(13,_),(15,_)] [((5,0),_),((8,0),_),((10,0),_),((11,0),_),((20,0),_),((60,0),_),((61,0),_),((62,0),_)] [] []) kp ?_
   refine aD (ij rfl (bV rfl (aj (bp (r:=((s.stack.length - 1:Nat):Int)) _ _ rfl rfl ((bQ ab).trans ab)) ?_)))
   refine bA (Le.cutR (62,0) (s.stack.length - 1) rfl ((cG _ _).trans (congrArg ba (eV s g2 _)))) ?_
   refine aj (ej _ _ _ aa rfl rfl 0 (s.stack.length - 1) .dflt (.lit rfl rfl) ab ab rfl (show s.stack.length - 1 - 0=(s.pop 2++[eE o (s.top 1) (s.top 0)]).length by rw [← eV s g2,List.length_take,hsl];omega)) ?_
   refine dZ rfl (ay (⟨(k,{ s with pc:=s.pc+1,steps:=s.steps+1,cov:=s.cov++[s.pc],stack:=s.pop 2++[eE o (s.top 1) (s.top 0)] }),?_,?_,?_⟩))
   ·exact ⟨hz1,by simp only at hss ⊢;omega,hat,hsz,hf⟩
   ·exact kj [0,0,0,1,2,2,2,2] [] []
   simp only;omega
  refine aD (aj (bb _ _ rfl rfl rfl) (gn rfl (am (ax rfl (fun hc145=> ?_) (fun hc145=> ?_)))))
  ·have ho:o= .add∨o= .sub∨o= .mul∨o= .div∨o= .lt∨o= .le∨o= .eq:=by cases o <;> simp [Opc.num] at hc145 ⊢
   have g2:2≤s.stack.length:=by rcases ho with rfl | rfl | rfl | rfl | rfl | rfl | rfl <;> exact g2
   have hap:=fL (htr 1) (htr 0) ho
   have e:bS M.cx ⟨o,n⟩ { s with pc:=s.pc+1,steps:=s.steps+1,cov:=s.cov++[s.pc] }={ s with pc:=s.pc+1,steps:=s.steps+1,cov:=s.cov++[s.pc],stack:=s.pop 2++[eE o (s.top 1) (s.top 0)] }:=by rcases ho with rfl | rfl | rfl | rfl | rfl | rfl | rfl <;> rfl
   rw [e] at hz1 hat hsz hss
   have hsl:(s.stack.set (s.stack.length - 2) (eE o (s.top 1) (s.top 0))).length=s.stack.length:=List.length_set
   refine aE ?_
   refine aB (σ':=an 330 [(4,_),(5,_),(8,_),(10,_),(11,_),(12,_),(13,_),(14,_),(15,_)] [((5,0),_),((8,0),_),((10,0),_),((11,0),_),((20,0),_),((60,0),_),((61,0),_),((62,0),_),((14,0),_)] [] []) kp ?_
   refine dA 16 [] ?_
   refine go 4 ?_
   refine aC (_,[]) (fun τ=> bp (r:=((s.stack.length - 2:Nat):Int)) _ _ rfl rfl ((bQ ab).trans ab)) ?_
   refine go 9 ?_
   refine aC (_,[]) (fun τ=> bp (r:=((s.stack.length - 2:Nat):Int)) _ _ rfl rfl ((bQ ab).trans ab)) ?_
   refine go 1 ?_
   refine aC (_,[]) (fun τ=> bq _ _ aa rfl rfl rfl _ rfl ab (by exact (Nat.zero_add _).trans (Nat.mul_one _))) ?_
   refine go 1 ?_
   refine aC (_,[]) (fun τ=> cA _ aa rfl rfl (by exact cF s 1 ab) rfl) ?_
   refine go 5 ?_
   refine aC (_,[]) (fun τ=> bp (r:=((s.stack.length - 1:Nat):Int)) _ _ rfl rfl ((bQ ab).trans ab)) ?_
   refine go 1 ?_
   refine aC (_,[]) (fun τ=> bq _ _ aa rfl rfl rfl _ rfl ab (by exact (Nat.zero_add _).trans (Nat.mul_one _))) ?_
   refine go 1 ?_
   refine aC (_,[]) (fun τ=> cA _ aa rfl rfl (by exact cF s 0 ab) rfl) ?_
   refine go 1 ?_
   refine aC (_,[]) (fun τ=> (ap aa al (hap) rfl rfl)) ?_
   refine go 1 ?_
   refine ci ⟨rfl,?_⟩
   refine aj (bq _ _ aa rfl rfl rfl _ rfl ab (by exact (Nat.zero_add _).trans (Nat.mul_one _))) ?_
   refine aj (dN _ _ aa rfl rfl rfl rfl rfl (by rw [aq];simp only [List.length_cons,List.length_nil];omega) (dF s.stack (s.stack.length - 2) _ ab)) ?_
   refine am ?_
   refine aB (σ':=an 330 [(4,_),(5,_),(8,_),(10,_),(11,_),(12,_),(13,_),(15,_)] [((5,0),_),((8,0),_),((10,0),_),((11,0),_),((20,0),_),((60,0),_),((61,0),_),((62,0),_)] [] []) kp ?_
   refine aD (ij rfl (bV rfl (aj (bp (r:=((s.stack.length - 1:Nat):Int)) _ _ rfl rfl ((bQ ab).trans ab)) ?_)))
   refine bA (Le.cutR (62,0) (s.stack.length - 1) rfl ((cG _ _).trans (congrArg ba (eV s g2 _)))) ?_
   refine aj (ej _ _ _ aa rfl rfl 0 (s.stack.length - 1) .dflt (.lit rfl rfl) ab ab rfl (show s.stack.length - 1 - 0=(s.pop 2++[eE o (s.top 1) (s.top 0)]).length by rw [← eV s g2,List.length_take,hsl];omega)) ?_
   refine dZ rfl (ay (⟨(k,{ s with pc:=s.pc+1,steps:=s.steps+1,cov:=s.cov++[s.pc],stack:=s.pop 2++[eE o (s.top 1) (s.top 0)] }),?_,?_,?_⟩))
   ·exact ⟨hz1,by simp only at hss ⊢;omega,hat,hsz,hf⟩
   ·exact kj [0,0,0,1,2,2,2,2] [] []
   simp only;omega
  refine aG (aj (bb _ _ rfl rfl rfl) (gn rfl (am (ax rfl (fun hc174=> ?_) (fun hc174=> ?_)))))
  ·have ho:o= .neg:=by cases o <;> simp [Opc.num] at hc174 ⊢
   rw [ho] at g1 g2
   have g2:1≤s.stack.length:=g2
   have hpl:(s.pop 1++[-(s.top 0)]).length=s.stack.length:=by rw [← gQ s g2,List.length_set]
   have ht0:=htr 0
   unfold Rg at ht0
   have e:bS M.cx ⟨o,n⟩ { s with pc:=s.pc+1,steps:=s.steps+1,cov:=s.cov++[s.pc] }={ s with pc:=s.pc+1,steps:=s.steps+1,cov:=s.cov++[s.pc],stack:=s.pop 1++[-(s.top 0)] }:=by rw [ho];show ({ s with pc:=_,steps:=_,cov:=_,stack:=s.pop 1++[kR (-(s.top 0))] }:Ms)=_;rw [tM (by have:=htr 0;unfold Rg at this ⊢;omega)]
   rw [e] at hz1 hat hsz hss
   refine aD (ij rfl (bV rfl (aj (bp (r:=((s.stack.length - 1:Nat):Int)) _ _ rfl rfl ((bQ ab).trans ab)) ?_)))
   refine ij rfl (bV rfl (aj (bp (r:=((s.stack.length - 1:Nat):Int)) _ _ rfl rfl ((bQ ab).trans ab)) ?_))
   refine aj (bq _ _ aa rfl rfl rfl _ rfl ab (by exact (Nat.zero_add _).trans (Nat.mul_one _))) ?_
   refine aj (cA _ aa rfl rfl (by exact cF s 0 ab) rfl) ?_
   refine aj (xf (r:= -(s.top 0)) _ rfl (bQ ab)) ?_
   refine aj (bq _ _ aa rfl rfl rfl _ rfl ab (by exact (Nat.zero_add _).trans (Nat.mul_one _))) ?_
   refine aj (dN _ _ aa rfl rfl rfl rfl rfl (by rw [aq];simp only [List.length_cons,List.length_nil];omega) ((dF s.stack (s.stack.length - 1) _ ab).trans (congrArg ba (gQ s g2 _)))) ?_
   refine ay (⟨(k,{ s with pc:=s.pc+1,steps:=s.steps+1,cov:=s.cov++[s.pc],stack:=s.pop 1++[-(s.top 0)] }),?_,?_,?_⟩)
   ·exact ⟨hz1,by simp only at hss ⊢;omega,hat,hsz,hf⟩
   ·refine Le.mkJ [] [] rfl ?_ ?_ trivial trivial ?_
    ·exact ⟨(iS rfl),(iP rfl),(iP rfl),(iP rfl),(iP rfl),(aN ag),(ca rfl ab),trivial⟩
    ·exact ⟨(bN rfl rfl rfl),(bN rfl rfl rfl),(bN rfl rfl rfl),(cI rfl rfl rfl rfl lz),(cD rfl rfl rfl ag),(cD rfl rfl rfl ag),(cD rfl rfl rfl ag),(cD rfl rfl rfl ag),trivial⟩
    kernel_rfl
   simp only;omega
  refine aG (aj (bb _ _ rfl rfl rfl) (gn rfl (am (ax rfl (fun hc186=> ?_) (fun hc186=> ?_)))))
  ·have ho:o= .not:=by cases o <;> simp [Opc.num] at hc186 ⊢
   rw [ho] at g1 g2
   have g2:1≤s.stack.length:=g2
   have hpl:(s.pop 1++[flag (decide (s.top 0=0))]).length=s.stack.length:=by rw [← gQ s g2,List.length_set]
   have e:bS M.cx ⟨o,n⟩ { s with pc:=s.pc+1,steps:=s.steps+1,cov:=s.cov++[s.pc] }={ s with pc:=s.pc+1,steps:=s.steps+1,cov:=s.cov++[s.pc],stack:=s.pop 1++[flag (decide (s.top 0=0))] }:=by rw [ho];rfl
   rw [e] at hz1 hat hsz hss
   refine aD (ij rfl (bV rfl (aj (bp (r:=((s.stack.length - 1:Nat):Int)) _ _ rfl rfl ((bQ ab).trans ab)) ?_)))
   refine ij rfl (bV rfl (aj (bp (r:=((s.stack.length - 1:Nat):Int)) _ _ rfl rfl ((bQ ab).trans ab)) ?_))
   refine aj (bq _ _ aa rfl rfl rfl _ rfl ab (by exact (Nat.zero_add _).trans (Nat.mul_one _))) ?_
   refine aj (cA _ aa rfl rfl (by exact cF s 0 ab) rfl) ?_
   refine aj (bb (r:=decide (s.top 0=0)) _ _ rfl rfl rfl) ?_
   refine aj (ap aa al (ky (decide (s.top 0=0))) rfl rfl) ?_
   refine aj (bq _ _ aa rfl rfl rfl _ rfl ab (by exact (Nat.zero_add _).trans (Nat.mul_one _))) ?_
   refine aj (dN _ _ aa rfl rfl rfl rfl rfl (by rw [aq];simp only [List.length_cons,List.length_nil];omega) ((dF s.stack (s.stack.length - 1) _ ab).trans (congrArg ba (gQ s g2 _)))) ?_
   refine ay (⟨(k,{ s with pc:=s.pc+1,steps:=s.steps+1,cov:=s.cov++[s.pc],stack:=s.pop 1++[flag (decide (s.top 0=0))] }),?_,?_,?_⟩)
   ·exact ⟨hz1,by simp only at hss ⊢;omega,hat,hsz,hf⟩
   ·refine Le.mkJ [] [] rfl ?_ ?_ trivial trivial ?_
    ·exact ⟨(iS rfl),(iP rfl),(iP rfl),(iP rfl),(iP rfl),(aN ag),(ca rfl ab),trivial⟩
    ·exact ⟨(bN rfl rfl rfl),(bN rfl rfl rfl),(bN rfl rfl rfl),(cI rfl rfl rfl rfl lz),(cD rfl rfl rfl ag),(cD rfl rfl rfl ag),(cD rfl rfl rfl ag),(cD rfl rfl rfl ag),trivial⟩
    kernel_rfl
   simp only;omega
  refine aG (aj (bb _ _ rfl rfl rfl) (gn rfl (am (ax rfl (fun hc199=> ?_) (fun hc199=> ?_)))))
  ·have ho:o= .jump:=by cases o <;> simp [Opc.num] at hc199 ⊢
   rw [ho] at g1 g2
   have g2:0≤s.stack.length:=g2
   have g1:0≤n:=g1
   obtain ⟨j,rfl⟩: ∃ j:Nat,n=j:=⟨n.toNat,by omega⟩
   have e:bS M.cx ⟨o,(j:Int)⟩ { s with pc:=s.pc+1,steps:=s.steps+1,cov:=s.cov++[s.pc] }={ s with pc:=j,steps:=s.steps+1,cov:=s.cov++[s.pc] }:=by rw [ho];rfl
   rw [e] at hz1 hat hsz hss
   refine go 4 ?_
   refine ay (⟨(k,{ s with pc:=j,steps:=s.steps+1,cov:=s.cov++[s.pc] }),?_,?_,?_⟩)
   ·exact ⟨hz1,by simp only at hss ⊢;omega,hat,hsz,hf⟩
   ·exact kj [0,0,0,1,2,2,2,2] [] []
   simp only;omega
  refine aG (aj (bb _ _ rfl rfl rfl) (gn rfl (am (ax rfl (fun hc203=> ?_) (fun hc203=> ?_)))))
  ·have ho:o= .unl:=by cases o <;> simp [Opc.num] at hc203 ⊢
   rw [ho] at g1 g2
   have g2:1≤s.stack.length:=g2
   have g1:0≤n:=g1
   obtain ⟨j,rfl⟩: ∃ j:Nat,n=j:=⟨n.toNat,by omega⟩
   refine aE (aG (ij rfl (bV rfl (aj (bp (r:=((s.stack.length - 1:Nat):Int)) _ _ rfl rfl ((bQ ab).trans ab)) ?_))))
   refine aj (bq _ _ aa rfl rfl rfl _ rfl ab (by exact (Nat.zero_add _).trans (Nat.mul_one _))) ?_
   refine aj (cA _ aa rfl rfl (by exact cF s 0 ab) rfl) ?_
   refine aj (bb _ _ rfl rfl rfl) (am (ax rfl (fun hc210=> ?_) (fun hc210=> ?_)))
   ·have e:bS M.cx ⟨o,(j:Int)⟩ { s with pc:=s.pc+1,steps:=s.steps+1,cov:=s.cov++[s.pc] }={ s with pc:=j,steps:=s.steps+1,cov:=s.cov++[s.pc],stack:=s.pop 1 }:=by rw [ho];show ({ s with pc:=if s.top 0=0 then _ else _,steps:=_,cov:=_,stack:=s.pop 1 }:Ms)=_;rw [if_pos hc210];rfl
    rw [e] at hz1 hat hsz hss
    refine aB (σ':=an 330 [(4,_),(5,_),(8,_),(10,_),(11,_),(13,_),(14,_),(15,_)] [((5,0),_),((8,0),_),((10,0),_),((11,0),_),((20,0),_),((60,0),_),((61,0),_),((62,0),_),((14,0),_)] [] []) kp ?_
    refine go 8 ?_
    refine aj (bp (r:=((s.stack.length - 1:Nat):Int)) _ _ rfl rfl ((bQ ab).trans ab)) ?_
    refine bA (Le.cutR (62,0) (s.stack.length - 1) rfl (cG _ _)) ?_
    refine aj (ej _ _ _ aa rfl rfl 0 (s.stack.length - 1) .dflt (.lit rfl rfl) ab ab rfl (show s.stack.length - 1 - 0=(s.pop 1).length by rw [bD];omega)) ?_
    refine dZ rfl (ay (⟨(k,{ s with pc:=j,steps:=s.steps+1,cov:=s.cov++[s.pc],stack:=s.pop 1 }),?_,?_,?_⟩))
    ·exact ⟨hz1,by simp only at hss ⊢;omega,hat,hsz,hf⟩
    ·exact kj [0,0,0,1,2,2,2,2] [] []
    simp only;omega
   have e:bS M.cx ⟨o,(j:Int)⟩ { s with pc:=s.pc+1,steps:=s.steps+1,cov:=s.cov++[s.pc] }={ s with pc:=s.pc+1,steps:=s.steps+1,cov:=s.cov++[s.pc],stack:=s.pop 1 }:=by rw [ho];show ({ s with pc:=if s.top 0=0 then _ else _,steps:=_,cov:=_,stack:=s.pop 1 }:Ms)=_;rw [if_neg hc210]
   rw [e] at hz1 hat hsz hss
   refine cO ?_
   refine aB (σ':=an 330 [(4,_),(5,_),(8,_),(10,_),(11,_),(12,_),(13,_),(15,_)] [((5,0),_),((8,0),_),((10,0),_),((11,0),_),((20,0),_),((60,0),_),((61,0),_),((62,0),_)] [] []) kp ?_
   refine aD (ij rfl (bV rfl (aj (bp (r:=((s.stack.length - 1:Nat):Int)) _ _ rfl rfl ((bQ ab).trans ab)) ?_)))
   refine bA (Le.cutR (62,0) (s.stack.length - 1) rfl (cG _ _)) ?_
   refine aj (ej _ _ _ aa rfl rfl 0 (s.stack.length - 1) .dflt (.lit rfl rfl) ab ab rfl (show s.stack.length - 1 - 0=(s.pop 1).length by rw [bD];omega)) ?_
   refine dZ rfl (ay (⟨(k,{ s with pc:=s.pc+1,steps:=s.steps+1,cov:=s.cov++[s.pc],stack:=s.pop 1 }),?_,?_,?_⟩))
   ·exact ⟨hz1,by simp only at hss ⊢;omega,hat,hsz,hf⟩
   ·exact kj [0,0,0,1,2,2,2,2] [] []
   simp only;omega
  refine aG (aj (bb _ _ rfl rfl rfl) (gn rfl (am (ax rfl (fun hc217=> ?_) (fun hc217=> ?_)))))
  ·have ho:o= .send:=by cases o <;> simp [Opc.num] at hc217 ⊢
   rw [ho] at g1 g2
   have g2:3≤s.stack.length:=g2
   have g1:0≤n∧n < 30:=g1
   have hal:s.acts.length*5=(pt s.acts).length:=(bT _).symm
   refine aE ?_
   refine aB (σ':=an 330 [(4,_),(5,_),(8,_),(10,_),(11,_),(12,_),(13,_),(14,_),(15,_)] [((5,0),_),((8,0),_),((10,0),_),((11,0),_),((20,0),_),((60,0),_),((61,0),_),((62,0),_),((14,0),_)] [] []) kp ?_
   refine aD (ij rfl (bV rfl (aj (bp (r:=((s.stack.length - 3:Nat):Int)) _ _ rfl rfl ((bQ ab).trans ab)) ?_)))
   refine aj (bq _ _ aa rfl rfl rfl _ rfl ab (by exact (Nat.zero_add _).trans (Nat.mul_one _))) ?_
   refine aj (cA _ aa rfl rfl (by exact cF s 2 ab) rfl) ?_
   refine go 7 ?_
   refine cj (fun hg226=> ?_) (fun hg226=> ?_)
   ·refine go 1 ?_
    refine aZ rfl rfl (bO _ _ aa rfl rfl rfl 1 rfl ab (by exact (Nat.zero_add _).trans (Nat.mul_one _))) ?_
    refine go 4 ?_
    refine cj (fun hg232=> ?_) (fun hg232=> ?_)
    ·refine go 2 ?_
     refine aZ rfl rfl (rK aa aw (yG s.acts ab) rfl) ?_
     refine go 3 ?_
     refine ax rfl (fun hc237=> ?_) (fun hc237=> ?_)
     ·have hx3:bL s.acts < 20:=by omega
      have e:bS M.cx ⟨o,n⟩ { s with pc:=s.pc+1,steps:=s.steps+1,cov:=s.cov++[s.pc] }={ s with pc:=s.pc+1,steps:=s.steps+1,cov:=s.cov++[s.pc],stack:=s.pop 3,acts:=s.acts++[{ k:=3,a:=s.top 2,b:=n,c:=s.top 1,d:=s.top 0 }] }:=by rw [ho];show ({ s with pc:=_,steps:=_,cov:=_,stack:=s.pop 3,acts:=if 0≤s.top 2∧s.top 2 < M.nm 1∧bL s.acts < 20 then _ else _ }:Ms)=_;rw [if_pos ⟨hg226,hg232,hx3⟩];rfl
      rw [e] at hz1 hat hsz hss
      refine aB (σ':=an 330 [(4,_),(5,_),(8,_),(10,_),(11,_),(12,_),(13,_),(14,_),(15,_),(17,_)] [((5,0),_),((8,0),_),((10,0),_),((11,0),_),((20,0),_),((60,0),_),((61,0),_),((62,0),_),((14,0),_)] [] []) kp ?_
      refine dA 17 [] ?_
      refine go 14 ?_
      refine aC (_,[]) (fun τ=> bp (r:=((s.stack.length - 2:Nat):Int)) _ _ rfl rfl ((bQ ab).trans ab)) ?_
      refine go 1 ?_
      refine aC (_,[]) (fun τ=> bq _ _ aa rfl rfl rfl _ rfl ab (by exact (Nat.zero_add _).trans (Nat.mul_one _))) ?_
      refine go 1 ?_
      refine aC (_,[]) (fun τ=> cA _ aa rfl rfl (by exact cF s 1 ab) rfl) ?_
      refine go 5 ?_
      refine aC (_,[]) (fun τ=> bp (r:=((s.stack.length - 1:Nat):Int)) _ _ rfl rfl ((bQ ab).trans ab)) ?_
      refine go 1 ?_
      refine aC (_,[]) (fun τ=> bq _ _ aa rfl rfl rfl _ rfl ab (by exact (Nat.zero_add _).trans (Nat.mul_one _))) ?_
      refine go 1 ?_
      refine aC (_,[]) (fun τ=> cA _ aa rfl rfl (by exact cF s 0 ab) rfl) ?_
      refine go 6 ?_
      refine aj (bG (255,0) _ _ aa rfl rfl (bT _).symm (.sl rfl) ab rfl (gX _ { k:=3,a:=s.top 2,b:=n,c:=s.top 1,d:=s.top 0 }) (show _+1=(s.acts++[({ k:=3,a:=s.top 2,b:=n,c:=s.top 1,d:=s.top 0 }:Ac)]).length by simp)) ?_
      refine go 3 ?_
      refine aB (σ':=an 330 [(4,_),(5,_),(8,_),(10,_),(11,_),(12,_),(13,_),(15,_)] [((5,0),_),((8,0),_),((10,0),_),((11,0),_),((20,0),_),((61,0),_),((62,0),_),((255,0),_)] [] []) kp ?_
      refine aD (ij rfl (bV rfl (aj (bp (r:=((s.stack.length - 3:Nat):Int)) _ _ rfl rfl ((bQ ab).trans ab)) ?_)))
      refine bA (Le.cutR (62,0) (s.stack.length - 3) rfl (cG _ _)) ?_
      refine aj (ej _ _ _ aa rfl rfl 0 (s.stack.length - 3) .dflt (.lit rfl rfl) ab ab rfl (show s.stack.length - 3 - 0=(s.pop 3).length by rw [bD];omega)) ?_
      refine dZ rfl (ay (⟨(k,{ s with pc:=s.pc+1,steps:=s.steps+1,cov:=s.cov++[s.pc],stack:=s.pop 3,acts:=s.acts++[{ k:=3,a:=s.top 2,b:=n,c:=s.top 1,d:=s.top 0 }] }),?_,?_,?_⟩))
      ·exact ⟨hz1,by simp only at hss ⊢;omega,hat,hsz,hf⟩
      ·refine Le.mkJ [((60,0),(255,0))] [] rfl ?_ ?_ trivial trivial ?_
       ·exact ⟨(by repeat' (exact Lv.sl)),(bv (id:=(5,0)) rfl),(bv (id:=(8,0)) rfl),(bv (id:=(10,0)) rfl),(bv (id:=(11,0)) rfl),(aN ag),(ca rfl ag),trivial⟩
       ·exact ⟨(cI rfl rfl rfl rfl (by repeat' (first | exact Lv.v | exact Lv.sl | exact aK | refine ai ?_ ?_))),(cI rfl rfl rfl rfl (by repeat' (first | exact Lv.v | exact aK | refine ai ?_ ?_))),(cI rfl rfl rfl rfl (by repeat' (first | exact Lv.v | exact aK | refine ai ?_ ?_))),(cI rfl rfl rfl rfl lz),(cD rfl rfl rfl ag),(cD rfl rfl rfl ag),(cD rfl rfl rfl ag),(cD rfl rfl rfl ag),trivial⟩
       kernel_rfl
      simp only;omega
     have e:bS M.cx ⟨o,n⟩ { s with pc:=s.pc+1,steps:=s.steps+1,cov:=s.cov++[s.pc] }={ s with pc:=s.pc+1,steps:=s.steps+1,cov:=s.cov++[s.pc],stack:=s.pop 3 }:=by rw [ho];show ({ s with pc:=_,steps:=_,cov:=_,stack:=s.pop 3,acts:=if 0≤s.top 2∧s.top 2 < M.nm 1∧bL s.acts < 20 then _ else _ }:Ms)=_;rw [if_neg (fun hh=> by omega)]
     rw [e] at hz1 hat hsz hss
     refine cO ?_
     refine aB (σ':=an 330 [(4,_),(5,_),(8,_),(10,_),(11,_),(12,_),(13,_),(15,_)] [((5,0),_),((8,0),_),((10,0),_),((11,0),_),((20,0),_),((60,0),_),((61,0),_),((62,0),_)] [] []) kp ?_
     refine aD (ij rfl (bV rfl (aj (bp (r:=((s.stack.length - 3:Nat):Int)) _ _ rfl rfl ((bQ ab).trans ab)) ?_)))
     refine bA (Le.cutR (62,0) (s.stack.length - 3) rfl (cG _ _)) ?_
     refine aj (ej _ _ _ aa rfl rfl 0 (s.stack.length - 3) .dflt (.lit rfl rfl) ab ab rfl (show s.stack.length - 3 - 0=(s.pop 3).length by rw [bD];omega)) ?_
     refine dZ rfl (ay (⟨(k,{ s with pc:=s.pc+1,steps:=s.steps+1,cov:=s.cov++[s.pc],stack:=s.pop 3 }),?_,?_,?_⟩))
     ·exact ⟨hz1,by simp only at hss ⊢;omega,hat,hsz,hf⟩
     ·exact kj [0,0,0,1,2,2,2,2] [] []
     simp only;omega
    have e:bS M.cx ⟨o,n⟩ { s with pc:=s.pc+1,steps:=s.steps+1,cov:=s.cov++[s.pc] }={ s with pc:=s.pc+1,steps:=s.steps+1,cov:=s.cov++[s.pc],stack:=s.pop 3 }:=by rw [ho];show ({ s with pc:=_,steps:=_,cov:=_,stack:=s.pop 3,acts:=if 0≤s.top 2∧s.top 2 < M.nm 1∧bL s.acts < 20 then _ else _ }:Ms)=_;rw [if_neg (fun hh=> by have:=hh.2.1;omega)]
    rw [e] at hz1 hat hsz hss
    refine go 8 ?_
    refine aB (σ':=an 330 [(4,_),(5,_),(8,_),(10,_),(11,_),(12,_),(13,_),(15,_)] [((5,0),_),((8,0),_),((10,0),_),((11,0),_),((20,0),_),((60,0),_),((61,0),_),((62,0),_)] [] []) kp ?_
    refine aD (ij rfl (bV rfl (aj (bp (r:=((s.stack.length - 3:Nat):Int)) _ _ rfl rfl ((bQ ab).trans ab)) ?_)))
    refine bA (Le.cutR (62,0) (s.stack.length - 3) rfl (cG _ _)) ?_
    refine aj (ej _ _ _ aa rfl rfl 0 (s.stack.length - 3) .dflt (.lit rfl rfl) ab ab rfl (show s.stack.length - 3 - 0=(s.pop 3).length by rw [bD];omega)) ?_
    refine dZ rfl (ay (⟨(k,{ s with pc:=s.pc+1,steps:=s.steps+1,cov:=s.cov++[s.pc],stack:=s.pop 3 }),?_,?_,?_⟩))
    ·exact ⟨hz1,by simp only at hss ⊢;omega,hat,hsz,hf⟩
    ·exact kj [0,0,0,1,2,2,2,2] [] []
    simp only;omega
   have e:bS M.cx ⟨o,n⟩ { s with pc:=s.pc+1,steps:=s.steps+1,cov:=s.cov++[s.pc] }={ s with pc:=s.pc+1,steps:=s.steps+1,cov:=s.cov++[s.pc],stack:=s.pop 3 }:=by rw [ho];show ({ s with pc:=_,steps:=_,cov:=_,stack:=s.pop 3,acts:=if 0≤s.top 2∧s.top 2 < M.nm 1∧bL s.acts < 20 then _ else _ }:Ms)=_;rw [if_neg (fun hh=> by have:=hh.1;omega)]
   rw [e] at hz1 hat hsz hss
   refine go 14 ?_
   refine aB (σ':=an 330 [(4,_),(5,_),(8,_),(10,_),(11,_),(12,_),(13,_),(15,_)] [((5,0),_),((8,0),_),((10,0),_),((11,0),_),((20,0),_),((60,0),_),((61,0),_),((62,0),_)] [] []) kp ?_
   refine aD (ij rfl (bV rfl (aj (bp (r:=((s.stack.length - 3:Nat):Int)) _ _ rfl rfl ((bQ ab).trans ab)) ?_)))
   refine bA (Le.cutR (62,0) (s.stack.length - 3) rfl (cG _ _)) ?_
   refine aj (ej _ _ _ aa rfl rfl 0 (s.stack.length - 3) .dflt (.lit rfl rfl) ab ab rfl (show s.stack.length - 3 - 0=(s.pop 3).length by rw [bD];omega)) ?_
   refine dZ rfl (ay (⟨(k,{ s with pc:=s.pc+1,steps:=s.steps+1,cov:=s.cov++[s.pc],stack:=s.pop 3 }),?_,?_,?_⟩))
   ·exact ⟨hz1,by simp only at hss ⊢;omega,hat,hsz,hf⟩
   ·exact kj [0,0,0,1,2,2,2,2] [] []
   simp only;omega
  refine aE ?_
  refine aB (σ':=an 330 [(4,_),(5,_),(8,_),(10,_),(11,_),(12,_),(13,_),(14,_),(15,_),(51,_)] [((5,0),_),((8,0),_),((10,0),_),((11,0),_),((20,0),_),((60,0),_),((61,0),_),((62,0),_),((14,0),_)] [] []) kp ?_
  refine aD (aj (bb _ _ rfl rfl rfl) (gn rfl (am (ax rfl (fun hc261=> ?_) (fun hc261=> ?_)))))
  ·have ho:o= .timer:=by cases o <;> simp [Opc.num] at hc261 ⊢
   rw [ho] at g1 g2
   have g2:0≤s.stack.length:=g2
   have e:bS M.cx ⟨o,n⟩ { s with pc:=s.pc+1,steps:=s.steps+1,cov:=s.cov++[s.pc] }={ s with pc:=s.pc+1,steps:=s.steps+1,cov:=s.cov++[s.pc],acts:=s.acts++[{ k:=4,a:=n }] }:=by rw [ho];rfl
   rw [e] at hz1 hat hsz hss
   refine go 7 ?_
   refine aj (bG (269,0) _ _ aa rfl rfl (bT _).symm (.sl rfl) ab rfl (gX _ { k:=4,a:=n }) (show _+1=(s.acts++[({ k:=4,a:=n }:Ac)]).length by simp)) ?_
   refine go 2 ?_
   refine ay (⟨(k,{ s with pc:=s.pc+1,steps:=s.steps+1,cov:=s.cov++[s.pc],acts:=s.acts++[{ k:=4,a:=n }] }),?_,?_,?_⟩)
   ·exact ⟨hz1,by simp only at hss ⊢;omega,hat,hsz,hf⟩
   ·refine Le.mkJ [((60,0),(269,0))] [] rfl ?_ ?_ trivial trivial ?_
    ·exact ⟨(by repeat' (exact Lv.sl)),(bv (id:=(5,0)) rfl),(bv (id:=(8,0)) rfl),(bv (id:=(10,0)) rfl),(bv (id:=(11,0)) rfl),(aN ag),(ca rfl ag),trivial⟩
    ·exact ⟨(cI rfl rfl rfl rfl (by repeat' (first | exact Lv.v | exact Lv.sl | exact aK | refine ai ?_ ?_))),(cI rfl rfl rfl rfl (by repeat' (first | exact Lv.v | exact aK | refine ai ?_ ?_))),(cI rfl rfl rfl rfl (by repeat' (first | exact Lv.v | exact aK | refine ai ?_ ?_))),(cI rfl rfl rfl rfl lz),(cD rfl rfl rfl ag),(cD rfl rfl rfl ag),(cD rfl rfl rfl ag),(cD rfl rfl rfl ag),trivial⟩
    kernel_rfl
   simp only;omega
  refine aG (aj (bb _ _ rfl rfl rfl) (gn rfl (am (ax rfl (fun hc271=> ?_) (fun hc271=> ?_)))))
  ·have ho:o= .cancel:=by cases o <;> simp [Opc.num] at hc271 ⊢
   rw [ho] at g1 g2
   have g2:0≤s.stack.length:=g2
   have e:bS M.cx ⟨o,n⟩ { s with pc:=s.pc+1,steps:=s.steps+1,cov:=s.cov++[s.pc] }={ s with pc:=s.pc+1,steps:=s.steps+1,cov:=s.cov++[s.pc],acts:=s.acts++[{ k:=5,a:=n }] }:=by rw [ho];rfl
   rw [e] at hz1 hat hsz hss
   refine go 7 ?_
   refine aj (bG (279,0) _ _ aa rfl rfl (bT _).symm (.sl rfl) ab rfl (gX _ { k:=5,a:=n }) (show _+1=(s.acts++[({ k:=5,a:=n }:Ac)]).length by simp)) ?_
   refine go 2 ?_
   refine ay (⟨(k,{ s with pc:=s.pc+1,steps:=s.steps+1,cov:=s.cov++[s.pc],acts:=s.acts++[{ k:=5,a:=n }] }),?_,?_,?_⟩)
   ·exact ⟨hz1,by simp only at hss ⊢;omega,hat,hsz,hf⟩
   ·refine Le.mkJ [((60,0),(279,0))] [] rfl ?_ ?_ trivial trivial ?_
    ·exact ⟨(by repeat' (exact Lv.sl)),(bv (id:=(5,0)) rfl),(bv (id:=(8,0)) rfl),(bv (id:=(10,0)) rfl),(bv (id:=(11,0)) rfl),(aN ag),(ca rfl ag),trivial⟩
    ·exact ⟨(cI rfl rfl rfl rfl (by repeat' (first | exact Lv.v | exact Lv.sl | exact aK | refine ai ?_ ?_))),(cI rfl rfl rfl rfl (by repeat' (first | exact Lv.v | exact aK | refine ai ?_ ?_))),(cI rfl rfl rfl rfl (by repeat' (first | exact Lv.v | exact aK | refine ai ?_ ?_))),(cI rfl rfl rfl rfl lz),(cD rfl rfl rfl ag),(cD rfl rfl rfl ag),(cD rfl rfl rfl ag),(cD rfl rfl rfl ag),trivial⟩
    kernel_rfl
   simp only;omega
  refine aG (aj (bb _ _ rfl rfl rfl) (gn rfl (am (ax rfl (fun hc281=> ?_) (fun hc281=> ?_)))))
  ·have ho:o= .sync:=by cases o <;> simp [Opc.num] at hc281 ⊢
   rw [ho] at g1 g2
   have g2:0≤s.stack.length:=g2
   have e:bS M.cx ⟨o,n⟩ { s with pc:=s.pc+1,steps:=s.steps+1,cov:=s.cov++[s.pc] }={ s with pc:=s.pc+1,steps:=s.steps+1,cov:=s.cov++[s.pc],acts:=s.acts++[{ k:=2 }] }:=by rw [ho];rfl
   rw [e] at hz1 hat hsz hss
   refine go 5 ?_
   refine aj (bG (287,0) _ _ aa rfl rfl (bT _).symm (.sl rfl) ab rfl (gX _ { k:=2 }) (show _+1=(s.acts++[({ k:=2 }:Ac)]).length by simp)) ?_
   refine go 2 ?_
   refine ay (⟨(k,{ s with pc:=s.pc+1,steps:=s.steps+1,cov:=s.cov++[s.pc],acts:=s.acts++[{ k:=2 }] }),?_,?_,?_⟩)
   ·exact ⟨hz1,by simp only at hss ⊢;omega,hat,hsz,hf⟩
   ·refine Le.mkJ [((60,0),(287,0))] [] rfl ?_ ?_ trivial trivial ?_
    ·exact ⟨(by repeat' (exact Lv.sl)),(bv (id:=(5,0)) rfl),(bv (id:=(8,0)) rfl),(bv (id:=(10,0)) rfl),(bv (id:=(11,0)) rfl),(aN ag),(ca rfl ag),trivial⟩
    ·exact ⟨(cI rfl rfl rfl rfl (by repeat' (first | exact Lv.v | exact Lv.sl | exact aK | refine ai ?_ ?_))),(cI rfl rfl rfl rfl (by repeat' (first | exact Lv.v | exact aK | refine ai ?_ ?_))),(cI rfl rfl rfl rfl (by repeat' (first | exact Lv.v | exact aK | refine ai ?_ ?_))),(cI rfl rfl rfl rfl lz),(cD rfl rfl rfl ag),(cD rfl rfl rfl ag),(cD rfl rfl rfl ag),(cD rfl rfl rfl ag),trivial⟩
    kernel_rfl
   simp only;omega
  refine aG (aj (bb _ _ rfl rfl rfl) (gn rfl (am (ax rfl (fun hc289=> ?_) (fun hc289=> ?_)))))
  ·have ho:o= .reply:=by cases o <;> simp [Opc.num] at hc289 ⊢
   rw [ho] at g1 g2
   have g2:2≤s.stack.length:=g2
   have e:bS M.cx ⟨o,n⟩ { s with pc:=s.pc+1,steps:=s.steps+1,cov:=s.cov++[s.pc] }={ s with pc:=s.pc+1,steps:=s.steps+1,cov:=s.cov++[s.pc],stack:=s.pop 2,acts:=s.acts++[{ k:=6,a:=s.top 1,b:=s.top 0 }] }:=by rw [ho];rfl
   rw [e] at hz1 hat hsz hss
   refine aE ?_
   refine aB (σ':=an 330 [(4,_),(5,_),(8,_),(10,_),(11,_),(12,_),(13,_),(15,_)] [((5,0),_),((8,0),_),((10,0),_),((11,0),_),((20,0),_),((60,0),_),((61,0),_),((62,0),_)] [] []) kp ?_
   refine dA 14 [] ?_
   refine go 8 ?_
   refine aC (_,[]) (fun τ=> bp (r:=((s.stack.length - 2:Nat):Int)) _ _ rfl rfl ((bQ ab).trans ab)) ?_
   refine go 1 ?_
   refine aC (_,[]) (fun τ=> bq _ _ aa rfl rfl rfl _ rfl ab (by exact (Nat.zero_add _).trans (Nat.mul_one _))) ?_
   refine go 1 ?_
   refine aC (_,[]) (fun τ=> cA _ aa rfl rfl (by exact cF s 1 ab) rfl) ?_
   refine go 5 ?_
   refine aC (_,[]) (fun τ=> bp (r:=((s.stack.length - 1:Nat):Int)) _ _ rfl rfl ((bQ ab).trans ab)) ?_
   refine go 1 ?_
   refine aC (_,[]) (fun τ=> bq _ _ aa rfl rfl rfl _ rfl ab (by exact (Nat.zero_add _).trans (Nat.mul_one _))) ?_
   refine go 1 ?_
   refine aC (_,[]) (fun τ=> cA _ aa rfl rfl (by exact cF s 0 ab) rfl) ?_
   refine go 6 ?_
   refine aj (bG (305,0) _ _ aa rfl rfl (bT _).symm (.sl rfl) ab rfl (gX _ { k:=6,a:=s.top 1,b:=s.top 0 }) (show _+1=(s.acts++[({ k:=6,a:=s.top 1,b:=s.top 0 }:Ac)]).length by simp)) ?_
   refine go 3 ?_
   refine aB (σ':=an 330 [(4,_),(5,_),(8,_),(10,_),(11,_),(12,_),(13,_),(15,_)] [((5,0),_),((8,0),_),((10,0),_),((11,0),_),((20,0),_),((61,0),_),((62,0),_),((305,0),_)] [] []) kp ?_
   refine aD (ij rfl (bV rfl (aj (bp (r:=((s.stack.length - 2:Nat):Int)) _ _ rfl rfl ((bQ ab).trans ab)) ?_)))
   refine bA (Le.cutR (62,0) (s.stack.length - 2) rfl (cG _ _)) ?_
   refine aj (ej _ _ _ aa rfl rfl 0 (s.stack.length - 2) .dflt (.lit rfl rfl) ab ab rfl (show s.stack.length - 2 - 0=(s.pop 2).length by rw [bD];omega)) ?_
   refine dZ rfl (ay (⟨(k,{ s with pc:=s.pc+1,steps:=s.steps+1,cov:=s.cov++[s.pc],stack:=s.pop 2,acts:=s.acts++[{ k:=6,a:=s.top 1,b:=s.top 0 }] }),?_,?_,?_⟩))
   ·exact ⟨hz1,by simp only at hss ⊢;omega,hat,hsz,hf⟩
   ·refine Le.mkJ [((60,0),(305,0))] [] rfl ?_ ?_ trivial trivial ?_
    ·exact ⟨(by repeat' (exact Lv.sl)),(bv (id:=(5,0)) rfl),(bv (id:=(8,0)) rfl),(bv (id:=(10,0)) rfl),(bv (id:=(11,0)) rfl),(aN ag),(ca rfl ag),trivial⟩
    ·exact ⟨(cI rfl rfl rfl rfl (by repeat' (first | exact Lv.v | exact Lv.sl | exact aK | refine ai ?_ ?_))),(cI rfl rfl rfl rfl (by repeat' (first | exact Lv.v | exact aK | refine ai ?_ ?_))),(cI rfl rfl rfl rfl (by repeat' (first | exact Lv.v | exact aK | refine ai ?_ ?_))),(cI rfl rfl rfl rfl lz),(cD rfl rfl rfl ag),(cD rfl rfl rfl ag),(cD rfl rfl rfl ag),(cD rfl rfl rfl ag),trivial⟩
    kernel_rfl
   simp only;omega
  refine aG (aj (bb _ _ rfl rfl rfl) (gn rfl (am (ax rfl (fun hc311=> ?_) (fun hc311=> ?_)))))
  ·have ho:o= .fail:=by cases o <;> simp [Opc.num] at hc311 ⊢
   rw [ho] at g1 g2
   have g2:1≤s.stack.length:=g2
   have e:bS M.cx ⟨o,n⟩ { s with pc:=s.pc+1,steps:=s.steps+1,cov:=s.cov++[s.pc] }={ s with pc:=s.pc+1,steps:=s.steps+1,cov:=s.cov++[s.pc],stack:=s.pop 1,acts:=s.acts++[{ k:=7,a:=s.top 0 }] }:=by rw [ho];rfl
   rw [e] at hz1 hat hsz hss
   refine aE ?_
   refine aB (σ':=an 330 [(4,_),(5,_),(8,_),(10,_),(11,_),(12,_),(13,_),(15,_)] [((5,0),_),((8,0),_),((10,0),_),((11,0),_),((20,0),_),((60,0),_),((61,0),_),((62,0),_)] [] []) kp ?_
   refine dA 9 [] ?_
   refine go 8 ?_
   refine aC (_,[]) (fun τ=> bp (r:=((s.stack.length - 1:Nat):Int)) _ _ rfl rfl ((bQ ab).trans ab)) ?_
   refine go 1 ?_
   refine aC (_,[]) (fun τ=> bq _ _ aa rfl rfl rfl _ rfl ab (by exact (Nat.zero_add _).trans (Nat.mul_one _))) ?_
   refine go 1 ?_
   refine aC (_,[]) (fun τ=> cA _ aa rfl rfl (by exact cF s 0 ab) rfl) ?_
   refine go 6 ?_
   refine aj (bG (322,0) _ _ aa rfl rfl (bT _).symm (.sl rfl) ab rfl (gX _ { k:=7,a:=s.top 0 }) (show _+1=(s.acts++[({ k:=7,a:=s.top 0 }:Ac)]).length by simp)) ?_
   refine go 6 ?_
   refine aj (bp (r:=((s.stack.length - 1:Nat):Int)) _ _ rfl rfl ((bQ ab).trans ab)) ?_
   refine bA (Le.cutR (62,0) (s.stack.length - 1) rfl (cG _ _)) ?_
   refine aj (ej _ _ _ aa rfl rfl 0 (s.stack.length - 1) .dflt (.lit rfl rfl) ab ab rfl (show s.stack.length - 1 - 0=(s.pop 1).length by rw [bD];omega)) ?_
   refine dZ rfl (ay (⟨(k,{ s with pc:=s.pc+1,steps:=s.steps+1,cov:=s.cov++[s.pc],stack:=s.pop 1,acts:=s.acts++[{ k:=7,a:=s.top 0 }] }),?_,?_,?_⟩))
   ·exact ⟨hz1,by simp only at hss ⊢;omega,hat,hsz,hf⟩
   ·refine Le.mkJ [((60,0),(322,0))] [] rfl ?_ ?_ trivial trivial ?_
    ·exact ⟨(by repeat' (exact Lv.sl)),(bv (id:=(5,0)) rfl),(bv (id:=(8,0)) rfl),(bv (id:=(10,0)) rfl),(bv (id:=(11,0)) rfl),(aN ag),(ca rfl ag),trivial⟩
    ·exact ⟨(cI rfl rfl rfl rfl (by repeat' (first | exact Lv.v | exact Lv.sl | exact aK | refine ai ?_ ?_))),(cI rfl rfl rfl rfl (by repeat' (first | exact Lv.v | exact aK | refine ai ?_ ?_))),(cI rfl rfl rfl rfl (by repeat' (first | exact Lv.v | exact aK | refine ai ?_ ?_))),(cI rfl rfl rfl rfl lz),(cD rfl rfl rfl ag),(cD rfl rfl rfl ag),(cD rfl rfl rfl ag),(cD rfl rfl rfl ag),trivial⟩
    kernel_rfl
   simp only;omega
  have ho:o= .stop:=by cases o <;> first | rfl | (exfalso;simp_all [Opc.num])
  have hRs:R={ s with pc:=s.pc+1,steps:=s.steps+1,cov:=s.cov++[s.pc],fin:=true }:=by rw [hz1,ho];exact yc rfl k
  refine go 4 ?_
  refine au ?_
  rw [hRs]
  exact cq (.inr rfl) rfl (.cellA aa rfl rfl rfl) (Le.out [] [(20,0),(60,0),(61,0)] (.agg rfl (ai (dI rfl rfl (by simp) rfl) (ai (dI rfl rfl (bT _).symm rfl) (ai .v (ai .v (ai .sl (ai (dI rfl rfl (by simp) rfl) aK))))))) rfl rfl rfl tr trivial)
 have hk0:k=0:=by omega
 have hRs:R=s:=by rw [hz1,hk0];rfl
 refine aW (id (hK7 _ ?_))
 refine go 8 ?_
 refine au ?_
 rw [hRs,hf]
 exact cq (.inr rfl) rfl (.cellA aa rfl rfl rfl) (Le.out [] [(20,0),(60,0),(61,0)] (.agg rfl (ai (dI rfl rfl (by simp) rfl) (ai (dI rfl rfl (bT _).symm rfl) (ai .v (ai .v (ai .sl (ai (dI rfl rfl (by simp) rfl) aK))))))) rfl rfl rfl tr trivial)
end Go.Proofs.YtmjnackchaahbaaGreat

set_option maxHeartbeats 2000000
namespace Go.Proofs.YtmjnackchaahbaaGreat
open Go.RowKit

theorem xh (M:Mk) (h:Nat) (hh:h < 40) (he:M.P.e h < 0) (h1:M.iv.length≤1000):
  Spec Tryz.prog 26 (aI [fY M.P, .v (.int .i64 (h:Int)), .sl M.iv.length (ba M.iv), .agg [.v (.int .i64 (M.nm 0)), .v (.int .i64 (M.nm 1)), .v (.int .i64 (M.nm 2)), .v (.int .i64 (M.nm 3)), .v (.int .i64 (M.nm 4)), .v (.int .i64 (M.nm 5)), .v (.int .i64 (M.nm 6)), .v (.int .i64 (M.nm 7)), .v (.int .i64 (M.nm 8))], .sl M.ans.length (ba M.ans)] []) (aA (.agg [.sl M.iv.length (ba M.iv), .sl 0 [], .v (.int .i64 0), .v (.bool false), .sl 0 [], .sl 0 []]) []):=by
 have hg:=nh M.P.c.length (inl M.P.c) M.P.e (M.P.d:Int) (M.P.v:Int) h hh
 refine Spec.ofN Tryz.func26 rfl Tryz.ntmps26 rfl ?_
 refine go 6 ?_
 refine aj (gp (18,0) _ _ aa rfl ag (by (simp <;> rfl)) ah rfl rfl) ?_
 refine gT rfl (aj (bG (20,0) _ _ aa rfl rfl rfl (.sl (by simp)) ab rfl (List.nil_append _) (Nat.zero_add _)) ?_)
 refine go 7 ?_
 refine aj (bO _ _ aa rfl rfl rfl h rfl ab (by exact congrArg (fun z=> 0+1+z) (Nat.mul_one h))) ?_
 refine aj (bK _ aa rfl rfl (by exact (congrArg (fun z=> (Bx M.P.c.length (inl M.P.c) M.P.e (M.P.d:Int) (M.P.v:Int))[z]?) ab).trans hg)) ?_
 refine cp rfl (am (aE (aG (bV rfl (aj (cT (r:=true) _ _ rfl rfl (decide_eq_true he)) ?_)))))
 refine am (fX rfl rfl (aE ?_))
 refine aB (σ':=an 330 [(10,_),(11,_)] [((10,0),_),((20,0),_),((11,0),_)] [] []) kp ?_
 refine go 4 ?_
 exact au (cq (.inr rfl) rfl (.cellA aa rfl rfl rfl) (Le.out [] [(20,0)] (.agg rfl (ai (dI rfl rfl (by simp) rfl) lz)) rfl rfl rfl tr trivial))
end Go.Proofs.YtmjnackchaahbaaGreat

set_option maxHeartbeats 2000000
namespace Go.Proofs.YtmjnackchaahbaaGreat
open Go.RowKit

theorem vi (d:Dk) (h1:d.cells.length≤1000000) (h2:d.pend.length≤1000000) (ho:eX d) (b:List Bool) (hb:b.length=d.pend.length):
  Spec Tryz.prog 110 (aI [mf d, .sl b.length (xo b)] []) (aA (mf (d.crash b)) []):=by
 have hlz:(d.crash b).cells.length=d.cells.length:=dq _ _
 have hkl:(kept d.pend b).length≤d.pend.length:=by
  have: ∀ (l:List (Int×Int)) (b:List Bool),(kept l b).length≤l.length:=by
   intro l
   induction l with
   | nil=> intro b;cases b <;> simp [kept]
   | cons x l ih=>
    intro b
    cases b with
    | nil=> simp [kept]
    | cons y b=>
     have:=ih b
     cases y <;> simp [kept] <;> omega
  exact this _ _
 have ha:=lu d.cells (kept d.pend b) h1 ab (fun w hw=> ho w (nL hw))
 refine Spec.ofN Tryz.func110 rfl Tryz.ntmps110 rfl ?_
 refine go 5 ?_
 refine aj (aX _ ea) (am (aF fun K3 hK3=> ?_))
 refine aG (cp rfl (am (aH ?_)))
 refine aB (Le.nilS 5 (60,0) 126 2 rfl rfl) ?_
 refine aS (α:=Nat) (fun k=> k≤d.pend.length∧(kept (d.pend.take k) b).length≤k) 37 [(1,_),(2,_),(4,_)] [((2,0),_),((4,0),_)] (fun k=> [(5, .ref (60,0) 0 (kept (d.pend.take k) b).length),(6, .v (.int .i64 (k:Int)))]) (fun k=> [((60,0), .row 126 2 (eT (kept (d.pend.take k) b)))]) [] [] (fun k=> d.pend.length - k) 0 ?_ (kj [0,0,2] [] []) ?_
 ·exact ⟨Nat.zero_le _,by simp [kept]⟩
 intro k hk
 refine aF fun K5 hK5=> ?_
 refine aF fun K6 hK6=> ?_
 refine go 5 ?_
 refine aj (cT (r:=decide ((k:Int) < (d.pend.length:Int))) _ _ rfl rfl rfl) ?_
 refine FV rfl (cj (fun hg12=> ?_) (fun hg12=> ?_))
 ·obtain ⟨hk1,hk2⟩:=hk
  have hia:=kV d.pend k ab
  have q1:=oK d.pend b k ab ab
  have q2:=mU (kept (d.pend.take k) b) (d.pend.getD k (0,0))
  have hbg:=xL b k ab
  generalize d.pend.getD k (0,0)=w at hia q1 q2
  refine go 3 ?_
  refine aZ rfl rfl (cT (r:=true) _ _ rfl rfl (decide_eq_true ab)) ?_
  refine go 1 ?_
  refine ay (hK6 _ ?_)
  refine fX rfl rfl (aR (hK5 _ ?_))
  refine aE (aH (aG (gT rfl (bV rfl (aj (aQ _ _ aa rfl rfl _ rfl ab (by (simp only [aq,aJ,aM,aq,bC,aJ,cX];omega)) (by exact Nat.mul_one _)) ?_)))))
  refine aj (bl _ aa rfl (by exact hbg) rfl) ?_
  refine am (ax rfl (fun hc23=> ?_) (fun hc23=> ?_))
  ·rw [if_pos hc23] at q1
   rw [← q1] at q2
   have q3:(kept (d.pend.take (k+1)) b).length=(kept (d.pend.take k) b).length+1:=by rw [q1];simp
   refine aB (σ':=an 37 [(1,_),(2,_),(4,_),(5,_),(6,_)] [((2,0),_),((4,0),_),((60,0),_)] [] []) kp ?_
   refine go 5 ?_
   refine aj (aQ _ _ aa rfl rfl _ rfl ab (by (simp only [aq,aJ,aM,aq,bC,aJ,cX];omega)) ag) ?_
   refine aj (bs _ aa rfl (by exact hia) rfl) ?_
   refine aj (gK (xs:=vW w) _ _ aa rfl ag (by simp <;> rfl) ah rfl) ?_
   refine aj (bG (31,0) _ _ aa rfl rfl (bC _).symm (.sl rfl) ab rfl q2 rfl) ?_
   refine go 6 ?_
   refine ay (⟨k+1,?_,?_,?_⟩)
   ·exact ⟨by omega,by omega⟩
   ·refine Le.mkJ [((60,0),(31,0))] [] rfl ?_ ?_ trivial trivial ?_
    ·exact ⟨(by repeat' (exact Lv.sl)),(bv (id:=(2,0)) rfl),(bv (id:=(4,0)) rfl),(ca rfl ab),(aN ag),trivial⟩
    ·exact ⟨(cI rfl rfl rfl rfl (by repeat' (first | exact Lv.sl | exact aK | refine ai ?_ ?_))),(cI rfl rfl rfl rfl (by repeat' (first | exact Lv.v | exact aK | refine ai ?_ ?_))),(cD rfl rfl rfl ag),trivial⟩
    kernel_rfl
   omega
  rw [if_neg (by rw [hc23];exact Bool.false_ne_true),List.append_nil] at q1
  refine kH ?_
  refine aB (σ':=an 37 [(1,_),(2,_),(4,_),(5,_),(6,_)] [((2,0),_),((4,0),_),((60,0),_)] [] []) kp ?_
  refine go 4 ?_
  refine ay (⟨k+1,?_,?_,?_⟩)
  ·exact ⟨by omega,by rw [q1];omega⟩
  ·refine Le.mkJ [] [] rfl ?_ ?_ trivial trivial ?_
   ·exact ⟨(iS rfl),(iP rfl),(iP rfl),(ca rfl (by (rw [q1]))),(aN ag),trivial⟩
   ·exact ⟨(bN rfl rfl rfl),(bN rfl rfl rfl),(cD rfl rfl rfl (by (rw [q1]))),trivial⟩
   kernel_rfl
  omega
 obtain ⟨hk1,hk2⟩:=hk
 obtain rfl:k=d.pend.length:=by omega
 rw [List.take_length] at hk2
 rw [List.take_length]
 refine go 5 ?_
 refine ay (hK6 _ ?_)
 refine cP rfl rfl (aW (id (hK3 _ ?_)))
 refine aE ?_
 refine aB (Le.frzS (ys:=eT (kept d.pend b)) 5 mP rfl rfl (by rw [List.drop_zero,oe]) (by rw [bC,Nat.zero_add];exact Nat.le_refl _)) ?_
 refine go 4 ?_
 refine aj (bu aa [((0,8),(35,0))] ar (ha.toI) trivial tr tr rfl rfl ae ae) ?_
 refine go 3 ?_
 exact au (cq (.inr rfl) rfl (.cellA aa rfl rfl rfl) (Le.out [] [(35,0)] (.agg rfl (ai (Jj rfl rfl hlz.symm rfl) lz)) rfl rfl rfl tr trivial))
theorem Cq (v:List Int) (k:Nat):ba (v++List.replicate k 0)++[.v (.int .i64 0)]=ba (v++List.replicate (k+1) 0):=by
 rw [List.replicate_succ',← List.append_assoc];simp [ba]
theorem tx (d:Dk) (n:Nat) (h1:d.cells.length≤1000000) (h2:d.pend.length≤1000000) (hn:n≤1000000) (ho:eX d):
  Spec Tryz.prog 109 (aI [mf d, .v (.int .i64 (n:Int))] []) (aA (mf (d.resize n)) []):=by
 have hv:=mz d h1 h2 ho
 have hl:(d.resize n).cells.length=n:=by simp [Dk.resize]
 have hvl:d.view.length=d.cells.length:=dq _ _
 rw [← hvl] at hv
 have hrs: ∀ k,n≤d.view.length+k→(d.view++List.replicate k 0).take n=(d.resize n).cells:=fun k hk=> by
  show _=(d.view++List.replicate n 0).take n
  rw [List.take_append,List.take_append,List.take_replicate,List.take_replicate]
  congr 2
  omega
 refine Spec.ofN Tryz.func109 rfl Tryz.ntmps109 rfl ?_
 refine go 6 ?_
 refine aj (bu aa [((0,8),(7,0))] ar (hv.toI) trivial tr tr rfl rfl ae ae) ?_
 refine dZ rfl (am (aF fun K3 hK3=> ?_))
 refine aH ?_
 refine aS (α:=Nat) (fun k=> k=0∨d.view.length+k≤n) 19 [(1,_),(4,_)] [((4,0),_)] (fun k=> [(5, .ref (7,0) 0 (d.view.length+k))]) (fun k=> [((7,0), .row 3 1 (ba (d.view++List.replicate k 0)))]) [] [] (fun k=> n - (d.view.length+k)) 0 ?_ (by
  refine Le.mkJ [] [] rfl ?_ ?_ trivial trivial ?_
  ·exact ⟨(iV rfl),(iP rfl),(ca rfl ag),trivial⟩
  ·exact ⟨(bN rfl rfl rfl),(cD rfl rfl rfl (by (simp))),trivial⟩
  kernel_rfl) ?_
 ·exact .inl rfl
 intro k hk
 refine aF fun K4 hK4=> ?_
 refine go 6 ?_
 refine ax rfl (fun hc11=> ?_) (fun hc11=> ?_)
 ·have q2:=Cq d.view k
  have q3:(d.view.length+k)*1=(ba (d.view++List.replicate k 0)).length:=by rw [aq,List.length_append,List.length_replicate,Nat.mul_one]
  refine aR (hK4 _ ?_)
  refine go 4 ?_
  refine aj (bG (14,0) _ _ aa rfl rfl q3 (.sl rfl) ab rfl q2 rfl) ?_
  refine dZ rfl (ay (⟨k+1,?_,?_,?_⟩))
  ·exact .inr ab
  ·refine Le.mkJ [((7,0),(14,0))] [] rfl ?_ ?_ trivial trivial ?_
   ·exact ⟨(by repeat' (exact Lv.v)),(bv (id:=(4,0)) rfl),(ca rfl ag),trivial⟩
   ·exact ⟨(cI rfl rfl rfl rfl (by repeat' (first | exact Lv.v | exact aK | refine ai ?_ ?_))),(cD rfl rfl rfl ag),trivial⟩
   kernel_rfl
  omega
 have q4:=hrs k ab
 have q5:((ba (d.view++List.replicate k 0)).drop (0+0*1)).take (n*1)=ba (d.resize n).cells:=by rw [← q4];simp [ba]
 refine aW (id (hK3 _ ?_))
 refine aG (ij rfl (bV rfl (aj (ej _ _ _ aa rfl rfl 0 n .dflt (.lit rfl rfl) ab ab rfl rfl) ?_)))
 refine go 3 ?_
 exact au (cq (.inr rfl) rfl (.cellA aa rfl rfl rfl) (Le.out [] [(7,0)] (.agg rfl (ai (by rw [hl];exact .frz rfl rfl q5 (by rw [aq,List.length_append,List.length_replicate];omega)) lz)) rfl rfl rfl tr trivial))
end Go.Proofs.YtmjnackchaahbaaGreat

set_option maxHeartbeats 2000000
namespace Go.Proofs.YtmjnackchaahbaaGreat
open Go.RowKit

abbrev q0:Qa:=⟨0,0,0,0⟩
theorem DG (p:Pg) (h:Nat) (names vars ans:List Int):(fT p h names vars ans).asked.length≤500:=by
 unfold fT
 split
 ·exact Nat.zero_le _
 have h1:=jb (K:=⟨p.c,p.d,names,ans⟩) (I:=Sz) (fun s hs _=> pu hs) 500 (cQ vars (p.e h).toNat) ⟨Nat.le_refl _,Nat.le_refl _,Nat.le_refl _⟩
 have h2:=(lR (K:=⟨p.c,p.d,names,ans⟩) 500 (cQ vars (p.e h).toNat)).1
 have h3:=h1.ak
 have h4:(cQ vars (p.e h).toNat).steps=0:=rfl
 omega
theorem xB (t:Tl) (l:List Qa):(wz t l).length=l.length*7:=gB (fun x:Qa=> vT t x.kind x.idx x.ar x.n) 7 (fun _=> rfl) l
end Go.Proofs.YtmjnackchaahbaaGreat
