/- Part 19 of the texts that the walk leans on: the machine, the walks, the plain laws. -/
import Derived.Test.YtmjnackchaahbaaGreatVrZ18
set_option linter.unusedSimpArgs false
set_option linter.unusedVariables false
namespace Go.Proofs.YtmjnackchaahbaaGreat
open Go.RowKit

def kO (l:List Nat):List Int:=l.foldl (fun m (i:Nat)=> ks m (i:Int)) []
theorem uV (l:List Nat) (i:Nat):kO (l++[i])=ks (kO l) (i:Int):=by simp [kO,List.foldl_append]
theorem wK (l:List Int) (x:Int):(ks l x).length≤l.length+1:=by
 unfold ks
 split
 ·omega
 ·have h:=congrArg List.length (List.takeWhile_append_dropWhile (p:=fun y=> decide (y < x)) (l:=l))
  simp only [List.length_append,List.length_cons,List.length_nil] at h ⊢
  omega
theorem sj (l:List Nat):(kO l).length≤l.length:=by
 have: ∀ (l:List Nat) (m:List Int),(l.foldl (fun m (i:Nat)=> ks m (i:Int)) m).length≤m.length+l.length:=by
  intro l
  induction l with
  | nil=> intro m;simp
  | cons a l ih=> intro m;have h1:=ih (ks m a);have h2:=wK m a;simp only [List.foldl_cons,List.length_cons];omega
 simpa [kO] using this l []
theorem BB (M:Mk) (k:Nat) (hk:k < 9):([.v (.int .i64 (M.nm 0)), .v (.int .i64 (M.nm 1)), .v (.int .i64 (M.nm 2)), .v (.int .i64 (M.nm 3)), .v (.int .i64 (M.nm 4)), .v (.int .i64 (M.nm 5)), .v (.int .i64 (M.nm 6)), .v (.int .i64 (M.nm 7)), .v (.int .i64 (M.nm 8))]:List AV)[k]? =some (.v (.int .i64 (M.nm k))):=by
 rcases k with _ | _ | _ | _ | _ | _ | _ | _ | _ | k
 all_goals first | rfl | omega
theorem gD (s:Ms) (h:1≤s.stack.length) (x:Int):s.stack.set (s.stack.length - 1) x=s.pop 1++[x]:=by
 unfold Ms.pop
 rw [List.set_eq_take_append_cons_drop,if_pos ab,List.drop_eq_nil_of_le ab]
theorem fb (s:Ms) (h:2≤s.stack.length) (x:Int):(s.stack.set (s.stack.length - 2) x).take (s.stack.length - 1)=s.pop 2++[x]:=by
 unfold Ms.pop
 rw [List.set_eq_take_append_cons_drop,if_pos ab,List.take_append,List.length_take,List.take_take]
 rw [show s.stack.length - 1 - min (s.stack.length - 2) s.stack.length=1 by omega,show min (s.stack.length - 1) (s.stack.length - 2)=s.stack.length - 2 by omega]
 rfl
theorem cV (s:Ms) (j:Nat) (h:j < s.stack.length):(cu s.stack)[s.stack.length - 1 - j]? =some (.v (.int .i64 (s.top j))):=dl s.stack _ ab
set_option maxHeartbeats 4000000 in
theorem wk (M:Mk) (D:Nat→Nat) (nv:Nat) (hK:PG M.cx D nv) (h:Nat) (hh:h < 40) (e0:Nat) (he:M.P.e h=(e0:Int)) (he2:e0 < M.P.c.length) (hD:D e0=0) (hiv:M.iv.length=nv) (hir: ∀ v∈M.iv,Rg v) (h0:0 < nv) (hc:M.P.c.length≤1000000) (hn:M.ans.length≤4611686018427387904) (R:Ms) (hR:R=jf M.cx 500 (fj M.iv e0)):
  Spec Tryz.prog 26 (bj [sQ M.P, .v (.int .i64 (h:Int)), .sl M.iv.length (cu M.iv), .agg [.v (.int .i64 (M.nm 0)), .v (.int .i64 (M.nm 1)), .v (.int .i64 (M.nm 2)), .v (.int .i64 (M.nm 3)), .v (.int .i64 (M.nm 4)), .v (.int .i64 (M.nm 5)), .v (.int .i64 (M.nm 6)), .v (.int .i64 (M.nm 7)), .v (.int .i64 (M.nm 8))], .sl M.ans.length (cu M.ans)] []) (aT (.agg [.sl R.vars.length (cu R.vars), .sl R.acts.length (oU R.acts), .v (.int .i64 (R.steps:Int)), .v (.bool (!R.fin)), .sl (kO R.cov).length (cu (kO R.cov)), .sl R.asked.length (cu R.asked)]) []):=by
 have hnv:=hK.nv
 have hg:=lS M.P.c.length (inl M.P.c) M.P.e (M.P.d:Int) (M.P.v:Int) h hh
 rw [he] at hg
 refine Spec.ofN Tryz.func26 rfl Tryz.ntmps26 rfl ?_
 refine am (ai (bm (5,0) _ rfl rfl) (ai (bm (8,0) _ rfl rfl) (ai (az (10,0) aa rfl rfl) (aj (am (ai (tc _ aa rfl) (ef rfl (ai (qs (20,0) _ _ aa rfl (show 0 < M.iv.length by omega) (.sl (by simp)) ab rfl) ?_))))))))
 refine ai (aB _ aa rfl (by exact (rfl:_=some [_,_,_,_,_,_]))) ?_
 refine ai (az (11,0) aa rfl rfl) (bO rfl rfl rfl rfl rfl rfl (aj (am (aP rfl (bz rfl rfl rfl (ai (ek _ _ aa rfl rfl rfl h rfl ab (by exact congrArg (fun z=> 0+1+z) (Nat.mul_one h))) ?_))))))
 refine ai (aM _ aa rfl rfl (by exact (congrArg (fun z=> (xx M.P.c.length (inl M.P.c) M.P.e (M.P.d:Int) (M.P.v:Int))[z]?) ab).trans hg)) ?_
 refine ba rfl (aj (aq (am (aP rfl (ai (bp _ _ rfl rfl rfl) (aj (aS rfl (decide_eq_false ab) ?_)))))))
 refine aL (aq ?_)
 refine aN (σ':=aA 330 [(4,_),(5,_),(8,_),(10,_),(11,_),(12,_)] [((5,0),_),((8,0),_),((10,0),_),((20,0),_),((11,0),_)] [] []) kp ?_
 refine an (ai (bJ _ (rfl:_=AV.v (.slice _ _ _))) (aj (aH fun K7 hK7=> ?_)))
 refine au ?_
 refine aN (Le.nilB (11,0) 1 (60,0) 57 5 rfl rfl rfl) ?_
 refine aN (Le.nil0 (11,0) 4 rfl rfl) ?_
 refine aN (Le.nilB (11,0) 5 (61,0) 3 1 rfl rfl rfl) ?_
 refine aN (Le.nilS 13 (62,0) 3 1 rfl rfl) ?_
 refine bD (α:=Nat×Ms) (fun z=> R=jf M.cx z.1 z.2∧z.1+z.2.steps=500∧At M.cx D nv z.2∧Sz z.2∧z.2.fin=false) 330 [(4,_),(5,_),(8,_),(10,_),(11,_)] [((5,0),_),((8,0),_),((10,0),_)] (fun z=> [(12, .v (.int .i64 (z.2.pc:Int))),(13, .ref (62,0) 0 z.2.stack.length)]) (fun z=> [((11,0), .box 39 [.ref (20,0) 0 z.2.vars.length, .ref (60,0) 0 z.2.acts.length, .v (.int .i64 (z.2.steps:Int)), .v (.bool false), .sl (kO z.2.cov).length (cu (kO z.2.cov)), .ref (61,0) 0 z.2.asked.length]),((20,0), .row 3 1 (cu z.2.vars)),((60,0), .row 57 5 (oU z.2.acts)),((61,0), .row 3 1 (cu z.2.asked)),((62,0), .row 3 1 (cu z.2.stack))]) [] [] (fun z=> z.1) (500,fj M.iv e0) ?_ (by
  refine Le.mkJ [] [] rfl ?_ ?_ trivial trivial ?_
  ·exact ⟨(iS rfl),(iP rfl),(iP rfl),(iP rfl),(iP rfl),(bY ag),(cq rfl ag),trivial⟩
  ·exact ⟨(ce rfl rfl rfl),(ce rfl rfl rfl),(ce rfl rfl rfl),(di rfl rfl rfl rfl lz),(cw rfl rfl rfl ag),(cw rfl rfl rfl ag),(cw rfl rfl rfl ag),(cw rfl rfl rfl ag),trivial⟩
  ·kernel_rfl) ?_
 ·exact ⟨hR,rfl,nU hiv hir he2 hD,⟨Nat.le_refl _,Nat.le_refl _,Nat.le_refl _⟩,rfl⟩
 intro z hz
 obtain ⟨k,s⟩:=z
 obtain ⟨hz1,hz2,hz3,hz4,hf⟩:=hz
 simp only at hz1 hz2 hz3 hz4 hf ⊢
 have hl1:=hz4.st
 have hl2:=hz4.ac
 have hl3:=hz4.ak
 have hcn:=hz3.cn
 refine aH fun K8 hK8=> ?_
 refine am (bz rfl rfl rfl (cI rfl rfl rfl (ai (bp (r:=decide ((s.steps:Int) < 500)) _ _ rfl rfl rfl) ?_)))
 refine aj (aO rfl (fun hc31=> ?_) (fun hc31=> ?_))
 ·skip
  obtain ⟨k,rfl⟩: ∃ q,k=q+1:=⟨k - 1,by omega⟩
  obtain ⟨hp,hd⟩:=hz3.go hf
  obtain ⟨⟨o,n⟩,hx⟩: ∃ x,M.cx.code[s.pc]? =some x:=⟨_,List.getElem?_eq_getElem hp⟩
  obtain ⟨g1,g2,_⟩:=hK.good s.pc ⟨o,n⟩ hx
  rw [Nat.zero_add] at g2
  have g2:o.pops≤D s.pc:=g2
  rw [← hd] at g2
  have hgx:M.cx.code.getD s.pc { op:= .stop }=⟨o,n⟩:=by rw [List.getD_eq_getElem?_getD,hx];rfl
  have hst:gO M.cx s=cC M.cx ⟨o,n⟩ { s with pc:=s.pc+1,steps:=s.steps+1,cov:=s.cov++[s.pc] }:=by unfold gO;rw [hgx]
  have hat:=qC hK hz3 hf
  have hsz:=qb (K:=M.cx) hz4
  have hss:=(stepM_steps (K:=M.cx) (s:=s)).1
  rw [jf,if_neg (by rw [hf];decide)] at hz1
  rw [hst] at hz1 hat hsz hss
  have hia:=sB M.P.c s.pc hp
  rw [show cP M.P.c s.pc=⟨o,n⟩ from hgx] at hia
  have hpcl:s.pc < M.P.c.length:=hp
  have hcl:=sj s.cov
  have hput:=wa (kO s.cov) (s.pc:Int) ab
  rw [← uV] at hput
  have hvl:=hz3.iv.vl
  have hsn:=hz3.iv.sn
  have htr:=qB hz3.iv.rs
  have tX:=hK.nm
  have hvr:=lZ hz3.iv.rv
  refine bB (hK8 _ ?_)
  clear hK8;try clear K8
  refine au (am (bz rfl rfl rfl (fA rfl rfl rfl (aP rfl (ai (bi _ _ aa rfl rfl _ rfl ab (by (simp only [aZ,bq,bo,aZ,dm,bN];omega)) ag) ?_)))))
  refine ai (cp _ aa rfl (by exact hia) rfl) ?_
  refine ai (az (14,0) aa rfl rfl) (bO rfl rfl rfl rfl rfl rfl (aj (am (bz rfl rfl rfl (fA rfl rfl rfl (aP rfl (ai (aF aa al (hput) rfl rfl) ?_)))))))
  refine bz rfl rfl rfl (bO rfl rfl rfl rfl rfl rfl (aj (aq ?_)))
  refine aN (σ':=aA 330 [(4,_),(5,_),(8,_),(10,_),(11,_),(12,_),(13,_),(14,_)] [((5,0),_),((8,0),_),((10,0),_),((11,0),_),((20,0),_),((60,0),_),((61,0),_),((62,0),_),((14,0),_)] [] []) kp ?_
  refine an (bz rfl rfl rfl (cI rfl rfl rfl (ai (bc (r:=((s.steps+1:Nat):Int)) _ _ rfl rfl ((be ab).trans ab)) ?_)))
  refine bz rfl rfl rfl (bO rfl rfl rfl rfl rfl rfl (aj (am (aP rfl (ai (bc (r:=((s.pc+1:Nat):Int)) _ _ rfl rfl ((be ab).trans ab)) ?_)))))
  refine ba rfl (aj (am (ei rfl (ai (dv _ aa rfl rfl) (ba rfl (aj (am (bz rfl rfl rfl (cI rfl rfl rfl (aj ?_))))))))))
  refine au (am (ai (br _ _ rfl rfl rfl) (ci rfl (aj (aO rfl (fun hc53=> ?_) (fun hc53=> ?_))))))
  ·skip
   have ho:o= .push:=by cases o <;> simp [Opc.num] at hc53 ⊢
   rw [ho] at g1 g2
   have g2:0≤s.stack.length:=g2
   have g1: -2147483647≤n∧n≤2147483647:=g1
   have e:cC M.cx ⟨o,n⟩ { s with pc:=s.pc+1,steps:=s.steps+1,cov:=s.cov++[s.pc] }={ s with pc:=s.pc+1,steps:=s.steps+1,cov:=s.cov++[s.pc],stack:=s.stack++[n] }:=by rw [ho];show ({ s with pc:=_,steps:=_,cov:=_,stack:=s.stack++[jS n] }:Ms)=_;rw [qD g1]
   rw [e] at hz1 hat hsz hss
   refine aN (σ':=aA 330 [(4,_),(5,_),(8,_),(10,_),(11,_),(12,_),(13,_),(14,_)] [((5,0),_),((8,0),_),((10,0),_),((11,0),_),((20,0),_),((60,0),_),((61,0),_),((62,0),_),((14,0),_)] [] []) kp ?_
   refine an (ei rfl (bz rfl rfl rfl (cI rfl rfl rfl (ai (aU _ _ aa rfl ag (by (simp <;> rfl)) ah rfl) ?_))))
   refine ai (cE (59,0) _ _ aa rfl rfl (by simp) (.sl rfl) ab rfl (fm _ _) (show _+1=(s.stack++[n]).length by simp)) ?_
   refine dY rfl (ax (⟨(k,{ s with pc:=s.pc+1,steps:=s.steps+1,cov:=s.cov++[s.pc],stack:=s.stack++[n] }),?_,?_,?_⟩))
   ·exact ⟨hz1,by simp only at hss ⊢;omega,hat,hsz,hf⟩
   ·skip
    refine Le.mkJ [((62,0),(59,0))] [] rfl ?_ ?_ trivial trivial ?_
    ·exact ⟨(by repeat' (exact Lv.sl)),(cr (id:=(5,0)) rfl),(cr (id:=(8,0)) rfl),(cr (id:=(10,0)) rfl),(cr (id:=(11,0)) rfl),(bY ag),(cq rfl ag),trivial⟩
    ·exact ⟨(di rfl rfl rfl rfl (by repeat' (first | exact Lv.v | exact Lv.sl | exact bf | refine aD ?_ ?_))),(di rfl rfl rfl rfl (by repeat' (first | exact Lv.v | exact bf | refine aD ?_ ?_))),(di rfl rfl rfl rfl (by repeat' (first | exact Lv.v | exact bf | refine aD ?_ ?_))),(di rfl rfl rfl rfl lz),(cw rfl rfl rfl ag),(cw rfl rfl rfl ag),(cw rfl rfl rfl ag),(cw rfl rfl rfl ag),trivial⟩
    ·kernel_rfl
   ·simp only;omega
  ·skip
   refine aq ?_
   refine aN (σ':=aA 330 [(4,_),(5,_),(8,_),(10,_),(11,_),(12,_),(13,_),(14,_),(15,_),(51,_)] [((5,0),_),((8,0),_),((10,0),_),((11,0),_),((20,0),_),((60,0),_),((61,0),_),((62,0),_),((14,0),_)] [] []) kp ?_
   refine an (ai (br _ _ rfl rfl rfl) (ci rfl (aj (aO rfl (fun hc60=> ?_) (fun hc60=> ?_)))))
   ·skip
    have ho:o= .var:=by cases o <;> simp [Opc.num] at hc60 ⊢
    rw [ho] at g1 g2
    have g2:0≤s.stack.length:=g2
    have g1:0≤n∧n < nv:=g1
    obtain ⟨j,rfl⟩: ∃ j:Nat,n=j:=⟨n.toNat,by omega⟩
    have e:cC M.cx ⟨o,(j:Int)⟩ { s with pc:=s.pc+1,steps:=s.steps+1,cov:=s.cov++[s.pc] }={ s with pc:=s.pc+1,steps:=s.steps+1,cov:=s.cov++[s.pc],stack:=s.stack++[s.vars.getD j 0] }:=by rw [ho];show ({ s with pc:=_,steps:=_,cov:=_,stack:=s.stack++[jS (s.vars.getD ((j:Int)).toNat 0)] }:Ms)=_;rw [qD (hvr _)];rfl
    rw [e] at hz1 hat hsz hss
    refine an (ei rfl (bz rfl rfl rfl (ai (aM _ aa rfl rfl (rfl:_=some (AV.ref _ _ _))) (bz rfl rfl rfl (cI rfl rfl rfl (ai (bZ _ _ aa rfl rfl rfl _ rfl ab (by exact (Nat.zero_add _).trans (Nat.mul_one _))) ?_))))))
    refine ai (cR _ aa rfl rfl (by exact dl _ _ ab) rfl) ?_
    refine ai (aU _ _ aa rfl ag (by (simp <;> rfl)) ah rfl) ?_
    refine ai (cE (70,0) _ _ aa rfl rfl (by simp) (.sl rfl) ab rfl (fm _ _) (show _+1=(s.stack++[s.vars.getD j 0]).length by simp)) ?_
    refine dY rfl (ax (⟨(k,{ s with pc:=s.pc+1,steps:=s.steps+1,cov:=s.cov++[s.pc],stack:=s.stack++[s.vars.getD j 0] }),?_,?_,?_⟩))
    ·exact ⟨hz1,by simp only at hss ⊢;omega,hat,hsz,hf⟩
    ·skip
     refine Le.mkJ [((62,0),(70,0))] [] rfl ?_ ?_ trivial trivial ?_
     ·exact ⟨(by repeat' (exact Lv.sl)),(cr (id:=(5,0)) rfl),(cr (id:=(8,0)) rfl),(cr (id:=(10,0)) rfl),(cr (id:=(11,0)) rfl),(bY ag),(cq rfl ag),trivial⟩
     ·exact ⟨(di rfl rfl rfl rfl (by repeat' (first | exact Lv.v | exact Lv.sl | exact bf | refine aD ?_ ?_))),(di rfl rfl rfl rfl (by repeat' (first | exact Lv.v | exact bf | refine aD ?_ ?_))),(di rfl rfl rfl rfl (by repeat' (first | exact Lv.v | exact bf | refine aD ?_ ?_))),(di rfl rfl rfl rfl lz),(cw rfl rfl rfl ag),(cw rfl rfl rfl ag),(cw rfl rfl rfl ag),(cw rfl rfl rfl ag),trivial⟩
     ·kernel_rfl
    ·simp only;omega
   ·skip
    refine am (ai (br _ _ rfl rfl rfl) (ci rfl (aj (aO rfl (fun hc71=> ?_) (fun hc71=> ?_)))))
    ·skip
     have ho:o= .name:=by cases o <;> simp [Opc.num] at hc71 ⊢
     rw [ho] at g1 g2
     have g2:0≤s.stack.length:=g2
     have g1:0≤n∧n < 9:=g1
     obtain ⟨j,rfl⟩: ∃ j:Nat,n=j:=⟨n.toNat,by omega⟩
     have e:cC M.cx ⟨o,(j:Int)⟩ { s with pc:=s.pc+1,steps:=s.steps+1,cov:=s.cov++[s.pc] }={ s with pc:=s.pc+1,steps:=s.steps+1,cov:=s.cov++[s.pc],stack:=s.stack++[M.nm j] }:=by rw [ho];show ({ s with pc:=_,steps:=_,cov:=_,stack:=s.stack++[jS (M.names.getD ((j:Int)).toNat 0)] }:Ms)=_;rw [qD (tX _)];rfl
     rw [e] at hz1 hat hsz hss
     refine an (ei rfl (bz rfl rfl rfl (cI rfl rfl rfl (ai (ek _ _ aa rfl rfl rfl j rfl ab (by exact (Nat.zero_add _).trans (Nat.mul_one _))) ?_))))
     refine ai (aM _ aa rfl rfl (by exact BB M j ab)) ?_
     refine ai (aU _ _ aa rfl ag (by (simp <;> rfl)) ah rfl) ?_
     refine ai (cE (79,0) _ _ aa rfl rfl (by simp) (.sl rfl) ab rfl (fm _ _) (show _+1=(s.stack++[M.nm j]).length by simp)) ?_
     refine dY rfl (ax (⟨(k,{ s with pc:=s.pc+1,steps:=s.steps+1,cov:=s.cov++[s.pc],stack:=s.stack++[M.nm j] }),?_,?_,?_⟩))
     ·exact ⟨hz1,by simp only at hss ⊢;omega,hat,hsz,hf⟩
     ·skip
      refine Le.mkJ [((62,0),(79,0))] [] rfl ?_ ?_ trivial trivial ?_
      ·exact ⟨(by repeat' (exact Lv.sl)),(cr (id:=(5,0)) rfl),(cr (id:=(8,0)) rfl),(cr (id:=(10,0)) rfl),(cr (id:=(11,0)) rfl),(bY ag),(cq rfl ag),trivial⟩
      ·exact ⟨(di rfl rfl rfl rfl (by repeat' (first | exact Lv.v | exact Lv.sl | exact bf | refine aD ?_ ?_))),(di rfl rfl rfl rfl (by repeat' (first | exact Lv.v | exact bf | refine aD ?_ ?_))),(di rfl rfl rfl rfl (by repeat' (first | exact Lv.v | exact bf | refine aD ?_ ?_))),(di rfl rfl rfl rfl lz),(cw rfl rfl rfl ag),(cw rfl rfl rfl ag),(cw rfl rfl rfl ag),(cw rfl rfl rfl ag),trivial⟩
      ·kernel_rfl
     ·simp only;omega
    ·skip
     refine am (ai (br _ _ rfl rfl rfl) (ci rfl (aj (aO rfl (fun hc80=> ?_) (fun hc80=> ?_)))))
     ·skip
      have ho:o= .setVar:=by cases o <;> simp [Opc.num] at hc80 ⊢
      rw [ho] at g1 g2
      have g2:1≤s.stack.length:=g2
      have g1:0≤n∧n < nv:=g1
      obtain ⟨j,rfl⟩: ∃ j:Nat,n=j:=⟨n.toNat,by omega⟩
      have hjn:(j:Int) < nv:=g1.2
      have hvs:(s.vars.set j (s.top 0)).length=s.vars.length:=List.length_set
      refine aq ?_
      refine aN (σ':=aA 330 [(4,_),(5,_),(8,_),(10,_),(11,_),(12,_),(13,_),(14,_),(15,_)] [((5,0),_),((8,0),_),((10,0),_),((11,0),_),((20,0),_),((60,0),_),((61,0),_),((62,0),_),((14,0),_)] [] []) kp ?_
      refine bu 9 [82,83,84,85,86,87,88,89,90] [] ae ae rfl (aK rfl) (rfl:_=[_,_,_,_,_,_,_,_,_]) (rfl:_=[_,_]) ?_
      refine ap (_,[]) (fun τ=> aI _ aa rfl rfl rfl) ?_
      refine el rfl ?_
      refine ap (_,[]) (fun τ=> aM _ aa rfl rfl (rfl:_=some (AV.ref _ _ _))) ?_
      refine eo rfl ?_
      refine ap (_,[]) (fun τ=> aI _ aa rfl rfl rfl) ?_
      refine ep rfl ?_
      refine ap (_,[]) (fun τ=> aM _ aa rfl rfl (rfl:_=some (AV.v (.int _ _)))) ?_
      refine ew rfl ?_
      refine ap (_,[]) (fun τ=> aC _ (rfl:_=AV.ref _ _ _)) ?_
      refine eF rfl ?_
      refine ap (_,[]) (fun τ=> aC _ (rfl:_=AV.v (.int _ _))) ?_
      refine eV rfl ?_
      refine ap (_,[]) (fun τ=> bk (r:=((s.stack.length - 1:Nat):Int)) _ _ rfl rfl ((be ab).trans ab)) ?_
      refine fF rfl ?_
      refine ap (_,[]) (fun τ=> bZ _ _ aa rfl rfl rfl _ rfl ab (by exact (Nat.zero_add _).trans (Nat.mul_one _))) ?_
      refine iu rfl ?_
      refine ap (_,[]) (fun τ=> cR _ aa rfl rfl (by exact cV s 0 ab) rfl) ?_
      refine ig rfl (bg ⟨rfl,?_⟩)
      refine ai (bZ _ _ aa rfl rfl rfl _ rfl ab (by exact (Nat.zero_add _).trans (Nat.mul_one _))) ?_
      refine ai (fg _ _ aa rfl rfl rfl rfl rfl (by rw [aZ];simp only [List.length_cons,List.length_nil];omega) (eg s.vars j (s.top 0) ab)) ?_
      refine aj (aq (am (bz rfl rfl rfl (cI rfl rfl rfl (bz rfl rfl rfl (cI rfl rfl rfl (ai (bp _ _ rfl rfl rfl) (aj (aO rfl (fun hc96=> ?_) (fun hc96=> ?_))))))))))
      ·skip
       have hdj:j < M.P.d:=by have hd2:(j:Int) < ((M.P.d:Nat):Int):=hc96;omega
       have e:cC M.cx ⟨o,(j:Int)⟩ { s with pc:=s.pc+1,steps:=s.steps+1,cov:=s.cov++[s.pc] }={ s with pc:=s.pc+1,steps:=s.steps+1,cov:=s.cov++[s.pc],vars:=s.vars.set j (s.top 0),stack:=s.pop 1,acts:=s.acts++[{ k:=1,a:=(j:Int),b:=s.top 0 }] }:=by rw [ho];show ({ s with pc:=_,steps:=_,cov:=_,vars:=s.vars.set ((j:Int)).toNat (s.top 0),stack:=s.pop 1,acts:=if (j:Int) < ((M.P.d:Nat):Int) then _ else _ }:Ms)=_;rw [if_pos ab];rfl
       rw [e] at hz1 hat hsz hss
       refine aN (σ':=aA 330 [(4,_),(5,_),(8,_),(10,_),(11,_),(12,_),(13,_),(14,_),(15,_)] [((5,0),_),((8,0),_),((10,0),_),((11,0),_),((20,0),_),((60,0),_),((61,0),_),((62,0),_),((14,0),_)] [] []) kp ?_
       refine bu 11 [97,98,99,100,101,102,103,104,105,106,107] [] ae ae rfl (aK rfl) (rfl:_=[_,_,_,_,_,_,_,_,_,_,_]) (rfl:_=[_,_,_]) ?_
       refine ap (_,[]) (fun τ=> aI _ aa rfl rfl rfl) ?_
       refine el rfl ?_
       refine ap (_,[]) (fun τ=> aM _ aa rfl rfl (rfl:_=some (AV.ref _ _ _))) ?_
       refine eo rfl ?_
       refine ap (_,[]) (fun τ=> aI _ aa rfl rfl rfl) ?_
       refine ep rfl ?_
       refine ap (_,[]) (fun τ=> aM _ aa rfl rfl (rfl:_=some (AV.v (.int _ _)))) ?_
       refine ew rfl ?_
       refine ap (_,[]) (fun τ=> aC _ (rfl:_=AV.ref _ _ _)) ?_
       refine eF rfl ?_
       refine ap (_,[]) (fun τ=> aC _ (rfl:_=AV.v (.int _ _))) ?_
       refine eV rfl ?_
       refine ap (_,[]) (fun τ=> bk (r:=((s.stack.length - 1:Nat):Int)) _ _ rfl rfl ((be ab).trans ab)) ?_
       refine fF rfl ?_
       refine ap (_,[]) (fun τ=> bZ _ _ aa rfl rfl rfl _ rfl ab (by exact (Nat.zero_add _).trans (Nat.mul_one _))) ?_
       refine iu rfl ?_
       refine ap (_,[]) (fun τ=> cR _ aa rfl rfl (by exact cV s 0 ab) rfl) ?_
       refine ig rfl ?_
       refine ap (_,[]) (fun τ=> aB _ aa rfl (by exact (rfl:_=some [_,_,_,_,_]))) ?_
       refine eO rfl ?_
       refine ap (_,[]) (fun τ=> aU _ _ aa rfl ag (by (simp <;> rfl)) ah rfl) ?_
       refine fc rfl (bg ⟨rfl,?_⟩)
       refine ai (cE (108,0) _ _ aa rfl rfl (dm _).symm (.sl rfl) ab rfl (gJ _ { k:=1,a:=(j:Int),b:=s.top 0 }) (show _+1=(s.acts++[({ k:=1,a:=(j:Int),b:=s.top 0 }:Ac)]).length by simp)) ?_
       refine bz rfl rfl rfl (bO rfl rfl rfl rfl rfl rfl (aj (an (ei rfl (aP rfl (ai (bk (r:=((s.stack.length - 1:Nat):Int)) _ _ rfl rfl ((be ab).trans ab)) ?_))))))
       refine ca (Le.cutR (62,0) (s.stack.length - 1) rfl (cY _ _)) ?_
       refine ai (eW _ _ _ aa rfl rfl 0 (s.stack.length - 1) .dflt (.lit rfl rfl) ab ab rfl (show s.stack.length - 1 - 0=(s.pop 1).length by rw [bX];omega)) ?_
       refine dY rfl (ax (⟨(k,{ s with pc:=s.pc+1,steps:=s.steps+1,cov:=s.cov++[s.pc],vars:=s.vars.set j (s.top 0),stack:=s.pop 1,acts:=s.acts++[{ k:=1,a:=(j:Int),b:=s.top 0 }] }),?_,?_,?_⟩))
       ·exact ⟨hz1,by simp only at hss ⊢;omega,hat,hsz,hf⟩
       ·skip
        refine Le.mkJ [((60,0),(108,0))] [] rfl ?_ ?_ trivial trivial ?_
        ·exact ⟨(by repeat' (exact Lv.sl)),(cr (id:=(5,0)) rfl),(cr (id:=(8,0)) rfl),(cr (id:=(10,0)) rfl),(cr (id:=(11,0)) rfl),(bY ag),(cq rfl ag),trivial⟩
        ·exact ⟨(di rfl rfl rfl rfl (by repeat' (first | exact Lv.v | exact Lv.sl | exact bf | refine aD ?_ ?_))),(di rfl rfl rfl rfl (by repeat' (first | exact Lv.v | exact bf | refine aD ?_ ?_))),(di rfl rfl rfl rfl (by repeat' (first | exact Lv.v | exact bf | refine aD ?_ ?_))),(di rfl rfl rfl rfl (aD (cq rfl ab) lz)),(cw rfl rfl rfl ag),(cw rfl rfl rfl ag),(cw rfl rfl rfl ag),(cw rfl rfl rfl ag),trivial⟩
        ·kernel_rfl
       ·simp only;omega
      ·skip
       have hdj:M.P.d≤j:=by have hd2:((M.P.d:Nat):Int)≤(j:Int):=hc96;omega
       have e:cC M.cx ⟨o,(j:Int)⟩ { s with pc:=s.pc+1,steps:=s.steps+1,cov:=s.cov++[s.pc] }={ s with pc:=s.pc+1,steps:=s.steps+1,cov:=s.cov++[s.pc],vars:=s.vars.set j (s.top 0),stack:=s.pop 1 }:=by rw [ho];show ({ s with pc:=_,steps:=_,cov:=_,vars:=s.vars.set ((j:Int)).toNat (s.top 0),stack:=s.pop 1,acts:=if (j:Int) < ((M.P.d:Nat):Int) then _ else _ }:Ms)=_;rw [if_neg ab];rfl
       rw [e] at hz1 hat hsz hss
       refine aL ?_
       refine aN (σ':=aA 330 [(4,_),(5,_),(8,_),(10,_),(11,_),(12,_),(13,_),(15,_)] [((5,0),_),((8,0),_),((10,0),_),((11,0),_),((20,0),_),((60,0),_),((61,0),_),((62,0),_)] [] []) kp ?_
       refine an (ei rfl (aP rfl (ai (bk (r:=((s.stack.length - 1:Nat):Int)) _ _ rfl rfl ((be ab).trans ab)) ?_)))
       refine ca (Le.cutR (62,0) (s.stack.length - 1) rfl (cY _ _)) ?_
       refine ai (eW _ _ _ aa rfl rfl 0 (s.stack.length - 1) .dflt (.lit rfl rfl) ab ab rfl (show s.stack.length - 1 - 0=(s.pop 1).length by rw [bX];omega)) ?_
       refine dY rfl (ax (⟨(k,{ s with pc:=s.pc+1,steps:=s.steps+1,cov:=s.cov++[s.pc],vars:=s.vars.set j (s.top 0),stack:=s.pop 1 }),?_,?_,?_⟩))
       ·exact ⟨hz1,by simp only at hss ⊢;omega,hat,hsz,hf⟩
       ·skip
        refine Le.mkJ [] [] rfl ?_ ?_ trivial trivial ?_
        ·exact ⟨(iS rfl),(iP rfl),(iP rfl),(iP rfl),(iP rfl),(bY ag),(cq rfl ag),trivial⟩
        ·exact ⟨(ce rfl rfl rfl),(ce rfl rfl rfl),(ce rfl rfl rfl),(di rfl rfl rfl rfl (aD (cq rfl ab) lz)),(cw rfl rfl rfl ag),(cw rfl rfl rfl ag),(cw rfl rfl rfl ag),(cw rfl rfl rfl ag),trivial⟩
        ·kernel_rfl
       ·simp only;omega
     ·skip
      refine am (ai (br _ _ rfl rfl rfl) (ci rfl (aj (aO rfl (fun hc114=> ?_) (fun hc114=> ?_)))))
      ·skip
       have ho:o= .draw:=by cases o <;> simp [Opc.num] at hc114 ⊢
       rw [ho] at g1 g2
       have g2:1≤s.stack.length:=g2
       obtain ⟨q,hq⟩: ∃ q,max 1 (min (s.top 0) 4)=q:=⟨_,rfl⟩
       have hq2:1≤q∧q≤4:=by omega
       have hans:=rN M.ans s.asked.length q ab ab hn
       refine am (ei rfl (aP rfl (ai (bk (r:=((s.stack.length - 1:Nat):Int)) _ _ rfl rfl ((be ab).trans ab)) ?_)))
       refine ai (bZ _ _ aa rfl rfl rfl _ rfl ab (by exact (Nat.zero_add _).trans (Nat.mul_one _))) ?_
       refine ai (cR _ aa rfl rfl (by exact cV s 0 ab) rfl) ?_
       refine ai (nS _ _ rfl rfl rfl) (ai (tN (r:=q) _ _ rfl rfl hq) ?_)
       refine ba rfl (aj (aq ?_))
       refine aN (σ':=aA 330 [(4,_),(5,_),(8,_),(10,_),(11,_),(12,_),(13,_),(15,_),(16,_)] [((5,0),_),((8,0),_),((10,0),_),((11,0),_),((20,0),_),((60,0),_),((61,0),_),((62,0),_)] [] []) kp ?_
       refine an (ei rfl (aP rfl (ai (bk (r:=((s.stack.length - 1:Nat):Int)) _ _ rfl rfl ((be ab).trans ab)) ?_)))
       refine ai (bZ _ _ aa rfl rfl rfl _ rfl ab (by exact (Nat.zero_add _).trans (Nat.mul_one _))) ?_
       refine ai (fg _ _ aa rfl rfl rfl rfl rfl (by rw [aZ];simp only [List.length_cons,List.length_nil];omega) ((eg s.stack (s.stack.length - 1) 0 ab).trans (congrArg cu (gD s g2 0)))) ?_
       refine aj (am (aP rfl (ai (dB _ _ rfl rfl rfl) (aj (aO rfl (fun hc128=> ?_) (fun hc128=> ?_))))))
       ·skip
        have hq1:q≠1:=by omega
        have e:cC M.cx ⟨o,n⟩ { s with pc:=s.pc+1,steps:=s.steps+1,cov:=s.cov++[s.pc] }={ s with pc:=s.pc+1,steps:=s.steps+1,cov:=s.cov++[s.pc],stack:=s.pop 1++[il M.ans s.asked.length q],asked:=s.asked++[q] }:=by rw [ho];subst hq;exact if_neg hq1
        rw [e] at hz1 hat hsz hss
        have hpl:(s.pop 1++[(0:Int)]).length=s.stack.length:=by rw [← gD s g2,List.length_set]
        have hpl2:(s.pop 1++[il M.ans s.asked.length q]).length=s.stack.length:=by rw [← gD s g2,List.length_set]
        refine am (ei rfl (aP rfl (ai (bk (r:=((s.stack.length - 1:Nat):Int)) _ _ rfl rfl ((be ab).trans ab)) ?_)))
        refine ef rfl (bz rfl rfl rfl (ai (aM _ aa rfl rfl (rfl:_=some (AV.ref _ _ _))) (ai (dv _ aa rfl rfl) (aP rfl (ai (aF aa al (hans) rfl rfl) ?_)))))
        refine ai (bZ _ _ aa rfl rfl rfl _ rfl ab (by exact (Nat.zero_add _).trans (Nat.mul_one _))) ?_
        refine ai (fg _ _ aa rfl rfl rfl rfl rfl (by rw [aZ,hpl];simp only [List.length_cons,List.length_nil];omega) ((eg _ (s.stack.length - 1) (il M.ans s.asked.length q) ab).trans (congrArg cu (by rw [← gD s g2 0,List.set_set,gD s g2])))) ?_
        refine aj ?_
        refine aN (σ':=aA 330 [(4,_),(5,_),(8,_),(10,_),(11,_),(12,_),(13,_),(16,_)] [((5,0),_),((8,0),_),((10,0),_),((11,0),_),((20,0),_),((60,0),_),((61,0),_),((62,0),_)] [] []) kp ?_
        refine an (bz rfl rfl rfl (ai (aM _ aa rfl rfl (rfl:_=some (AV.ref _ _ _))) (aP rfl (ai (aU _ _ aa rfl ag (by (simp <;> rfl)) ah rfl) ?_))))
        refine ai (cE (143,0) _ _ aa rfl rfl (by simp) (.sl rfl) ab rfl (fm _ _) (show _+1=(s.asked++[q]).length by simp)) ?_
        refine bz rfl rfl rfl (bO rfl rfl rfl rfl rfl rfl (ax (⟨(k,{ s with pc:=s.pc+1,steps:=s.steps+1,cov:=s.cov++[s.pc],stack:=s.pop 1++[il M.ans s.asked.length q],asked:=s.asked++[q] }),?_,?_,?_⟩)))
        ·exact ⟨hz1,by simp only at hss ⊢;omega,hat,hsz,hf⟩
        ·skip
         refine Le.mkJ [((61,0),(143,0))] [] rfl ?_ ?_ trivial trivial ?_
         ·exact ⟨(by repeat' (exact Lv.sl)),(cr (id:=(5,0)) rfl),(cr (id:=(8,0)) rfl),(cr (id:=(10,0)) rfl),(cr (id:=(11,0)) rfl),(bY ag),(cq rfl ab),trivial⟩
         ·exact ⟨(di rfl rfl rfl rfl (by repeat' (first | exact Lv.v | exact Lv.sl | exact bf | refine aD ?_ ?_))),(di rfl rfl rfl rfl (by repeat' (first | exact Lv.v | exact bf | refine aD ?_ ?_))),(di rfl rfl rfl rfl (by repeat' (first | exact Lv.v | exact bf | refine aD ?_ ?_))),(di rfl rfl rfl rfl lz),(cw rfl rfl rfl ag),(cw rfl rfl rfl ag),(cw rfl rfl rfl ag),(cw rfl rfl rfl ag),trivial⟩
         ·kernel_rfl
        ·simp only;omega
       ·skip
        have hq1:q=1:=by omega
        have e:cC M.cx ⟨o,n⟩ { s with pc:=s.pc+1,steps:=s.steps+1,cov:=s.cov++[s.pc] }={ s with pc:=s.pc+1,steps:=s.steps+1,cov:=s.cov++[s.pc],stack:=s.pop 1++[0] }:=by rw [ho];subst hq;exact if_pos hq1
        rw [e] at hz1 hat hsz hss
        have hpl:(s.pop 1++[(0:Int)]).length=s.stack.length:=by rw [← gD s g2,List.length_set]
        refine bB (⟨(k,{ s with pc:=s.pc+1,steps:=s.steps+1,cov:=s.cov++[s.pc],stack:=s.pop 1++[0] }),?_,?_,?_⟩)
        ·exact ⟨hz1,by simp only at hss ⊢;omega,hat,hsz,hf⟩
        ·skip
         refine Le.mkJ [] [] rfl ?_ ?_ trivial trivial ?_
         ·exact ⟨(iS rfl),(iP rfl),(iP rfl),(iP rfl),(iP rfl),(bY ag),(cq rfl ab),trivial⟩
         ·exact ⟨(ce rfl rfl rfl),(ce rfl rfl rfl),(ce rfl rfl rfl),(di rfl rfl rfl rfl lz),(cw rfl rfl rfl ag),(cw rfl rfl rfl ag),(cw rfl rfl rfl ag),(cw rfl rfl rfl ag),trivial⟩
         ·kernel_rfl
        ·simp only;omega
      ·skip
       refine aq (am (ai (br _ _ rfl rfl rfl) (ci rfl (aj (aO rfl (fun hc145=> ?_) (fun hc145=> ?_))))))
       ·skip
        have ho:o= .add∨o= .sub∨o= .mul∨o= .div∨o= .lt∨o= .le∨o= .eq:=by cases o <;> simp [Opc.num] at hc145 ⊢
        have g2:2≤s.stack.length:=by rcases ho with rfl | rfl | rfl | rfl | rfl | rfl | rfl <;> exact g2
        have hap:=fT (htr 1) (htr 0) ho
        have e:cC M.cx ⟨o,n⟩ { s with pc:=s.pc+1,steps:=s.steps+1,cov:=s.cov++[s.pc] }={ s with pc:=s.pc+1,steps:=s.steps+1,cov:=s.cov++[s.pc],stack:=s.pop 2++[eD o (s.top 1) (s.top 0)] }:=by rcases ho with rfl | rfl | rfl | rfl | rfl | rfl | rfl <;> rfl
        rw [e] at hz1 hat hsz hss
        have hsl:(s.stack.set (s.stack.length - 2) (eD o (s.top 1) (s.top 0))).length=s.stack.length:=List.length_set
        refine aL (bC rfl (by exact beq_iff_eq.2 hc145) ?_)
        refine aq ?_
        refine aN (σ':=aA 330 [(4,_),(5,_),(8,_),(10,_),(11,_),(12,_),(13,_),(14,_),(15,_)] [((5,0),_),((8,0),_),((10,0),_),((11,0),_),((20,0),_),((60,0),_),((61,0),_),((62,0),_),((14,0),_)] [] []) kp ?_
        refine bu 16 [153,154,155,156,157,158,159,160,161,162,163,164,165,166,167,168] [] ae ae rfl (aK rfl) (rfl:_=[_,_,_,_,_,_,_,_,_,_,_,_,_,_,_,_]) (rfl:_=[_,_]) ?_
        refine ap (_,[]) (fun τ=> aC _ (rfl:_=AV.ref _ _ _)) ?_
        refine el rfl ?_
        refine ap (_,[]) (fun τ=> aC _ (rfl:_=AV.v (.int _ _))) ?_
        refine eo rfl ?_
        refine ap (_,[]) (fun τ=> bk (r:=((s.stack.length - 2:Nat):Int)) _ _ rfl rfl ((be ab).trans ab)) ?_
        refine ep rfl ?_
        refine ap (_,[]) (fun τ=> aI _ aa rfl rfl rfl) ?_
        refine ew rfl ?_
        refine ap (_,[]) (fun τ=> aM _ aa rfl rfl (rfl:_=some (AV.v (.int _ _)))) ?_
        refine eF rfl ?_
        refine ap (_,[]) (fun τ=> aC _ (rfl:_=AV.ref _ _ _)) ?_
        refine eV rfl ?_
        refine ap (_,[]) (fun τ=> aC _ (rfl:_=AV.v (.int _ _))) ?_
        refine fF rfl ?_
        refine ap (_,[]) (fun τ=> bk (r:=((s.stack.length - 2:Nat):Int)) _ _ rfl rfl ((be ab).trans ab)) ?_
        refine iu rfl ?_
        refine ap (_,[]) (fun τ=> bZ _ _ aa rfl rfl rfl _ rfl ab (by exact (Nat.zero_add _).trans (Nat.mul_one _))) ?_
        refine ig rfl ?_
        refine ap (_,[]) (fun τ=> cR _ aa rfl rfl (by exact cV s 1 ab) rfl) ?_
        refine eO rfl ?_
        refine ap (_,[]) (fun τ=> aC _ (rfl:_=AV.ref _ _ _)) ?_
        refine fc rfl ?_
        refine ap (_,[]) (fun τ=> aC _ (rfl:_=AV.v (.int _ _))) ?_
        refine gU rfl ?_
        refine ap (_,[]) (fun τ=> bk (r:=((s.stack.length - 1:Nat):Int)) _ _ rfl rfl ((be ab).trans ab)) ?_
        refine gY rfl ?_
        refine ap (_,[]) (fun τ=> bZ _ _ aa rfl rfl rfl _ rfl ab (by exact (Nat.zero_add _).trans (Nat.mul_one _))) ?_
        refine jm rfl ?_
        refine ap (_,[]) (fun τ=> cR _ aa rfl rfl (by exact cV s 0 ab) rfl) ?_
        refine lU rfl ?_
        refine ap (_,[]) (fun τ=> (aF aa al (hap) rfl rfl)) ?_
        refine lQ rfl (bg ⟨rfl,?_⟩)
        refine ai (bZ _ _ aa rfl rfl rfl _ rfl ab (by exact (Nat.zero_add _).trans (Nat.mul_one _))) ?_
        refine ai (fg _ _ aa rfl rfl rfl rfl rfl (by rw [aZ];simp only [List.length_cons,List.length_nil];omega) (eg s.stack (s.stack.length - 2) _ ab)) ?_
        refine aj ?_
        refine aN (σ':=aA 330 [(4,_),(5,_),(8,_),(10,_),(11,_),(12,_),(13,_),(15,_)] [((5,0),_),((8,0),_),((10,0),_),((11,0),_),((20,0),_),((60,0),_),((61,0),_),((62,0),_)] [] []) kp ?_
        refine an (ei rfl (aP rfl (ai (bk (r:=((s.stack.length - 1:Nat):Int)) _ _ rfl rfl ((be ab).trans ab)) ?_)))
        refine ca (Le.cutR (62,0) (s.stack.length - 1) rfl ((cY _ _).trans (congrArg cu (fb s g2 _)))) ?_
        refine ai (eW _ _ _ aa rfl rfl 0 (s.stack.length - 1) .dflt (.lit rfl rfl) ab ab rfl (show s.stack.length - 1 - 0=(s.pop 2++[eD o (s.top 1) (s.top 0)]).length by rw [← fb s g2,List.length_take,hsl];omega)) ?_
        refine dY rfl (ax (⟨(k,{ s with pc:=s.pc+1,steps:=s.steps+1,cov:=s.cov++[s.pc],stack:=s.pop 2++[eD o (s.top 1) (s.top 0)] }),?_,?_,?_⟩))
        ·exact ⟨hz1,by simp only at hss ⊢;omega,hat,hsz,hf⟩
        ·skip
         refine Le.mkJ [] [] rfl ?_ ?_ trivial trivial ?_
         ·exact ⟨(iS rfl),(iP rfl),(iP rfl),(iP rfl),(iP rfl),(bY ag),(cq rfl ag),trivial⟩
         ·exact ⟨(ce rfl rfl rfl),(ce rfl rfl rfl),(ce rfl rfl rfl),(di rfl rfl rfl rfl lz),(cw rfl rfl rfl ag),(cw rfl rfl rfl ag),(cw rfl rfl rfl ag),(cw rfl rfl rfl ag),trivial⟩
         ·kernel_rfl
        ·simp only;omega
       ·skip
        refine am (ai (br _ _ rfl rfl rfl) (ci rfl (aj (aO rfl (fun hc145=> ?_) (fun hc145=> ?_)))))
        ·skip
         have ho:o= .add∨o= .sub∨o= .mul∨o= .div∨o= .lt∨o= .le∨o= .eq:=by cases o <;> simp [Opc.num] at hc145 ⊢
         have g2:2≤s.stack.length:=by rcases ho with rfl | rfl | rfl | rfl | rfl | rfl | rfl <;> exact g2
         have hap:=fT (htr 1) (htr 0) ho
         have e:cC M.cx ⟨o,n⟩ { s with pc:=s.pc+1,steps:=s.steps+1,cov:=s.cov++[s.pc] }={ s with pc:=s.pc+1,steps:=s.steps+1,cov:=s.cov++[s.pc],stack:=s.pop 2++[eD o (s.top 1) (s.top 0)] }:=by rcases ho with rfl | rfl | rfl | rfl | rfl | rfl | rfl <;> rfl
         rw [e] at hz1 hat hsz hss
         have hsl:(s.stack.set (s.stack.length - 2) (eD o (s.top 1) (s.top 0))).length=s.stack.length:=List.length_set
         refine aL (bC rfl (by exact beq_iff_eq.2 hc145) ?_)
         refine aq ?_
         refine aN (σ':=aA 330 [(4,_),(5,_),(8,_),(10,_),(11,_),(12,_),(13,_),(14,_),(15,_)] [((5,0),_),((8,0),_),((10,0),_),((11,0),_),((20,0),_),((60,0),_),((61,0),_),((62,0),_),((14,0),_)] [] []) kp ?_
         refine bu 16 [153,154,155,156,157,158,159,160,161,162,163,164,165,166,167,168] [] ae ae rfl (aK rfl) (rfl:_=[_,_,_,_,_,_,_,_,_,_,_,_,_,_,_,_]) (rfl:_=[_,_]) ?_
         refine ap (_,[]) (fun τ=> aC _ (rfl:_=AV.ref _ _ _)) ?_
         refine el rfl ?_
         refine ap (_,[]) (fun τ=> aC _ (rfl:_=AV.v (.int _ _))) ?_
         refine eo rfl ?_
         refine ap (_,[]) (fun τ=> bk (r:=((s.stack.length - 2:Nat):Int)) _ _ rfl rfl ((be ab).trans ab)) ?_
         refine ep rfl ?_
         refine ap (_,[]) (fun τ=> aI _ aa rfl rfl rfl) ?_
         refine ew rfl ?_
         refine ap (_,[]) (fun τ=> aM _ aa rfl rfl (rfl:_=some (AV.v (.int _ _)))) ?_
         refine eF rfl ?_
         refine ap (_,[]) (fun τ=> aC _ (rfl:_=AV.ref _ _ _)) ?_
         refine eV rfl ?_
         refine ap (_,[]) (fun τ=> aC _ (rfl:_=AV.v (.int _ _))) ?_
         refine fF rfl ?_
         refine ap (_,[]) (fun τ=> bk (r:=((s.stack.length - 2:Nat):Int)) _ _ rfl rfl ((be ab).trans ab)) ?_
         refine iu rfl ?_
         refine ap (_,[]) (fun τ=> bZ _ _ aa rfl rfl rfl _ rfl ab (by exact (Nat.zero_add _).trans (Nat.mul_one _))) ?_
         refine ig rfl ?_
         refine ap (_,[]) (fun τ=> cR _ aa rfl rfl (by exact cV s 1 ab) rfl) ?_
         refine eO rfl ?_
         refine ap (_,[]) (fun τ=> aC _ (rfl:_=AV.ref _ _ _)) ?_
         refine fc rfl ?_
         refine ap (_,[]) (fun τ=> aC _ (rfl:_=AV.v (.int _ _))) ?_
         refine gU rfl ?_
         refine ap (_,[]) (fun τ=> bk (r:=((s.stack.length - 1:Nat):Int)) _ _ rfl rfl ((be ab).trans ab)) ?_
         refine gY rfl ?_
         refine ap (_,[]) (fun τ=> bZ _ _ aa rfl rfl rfl _ rfl ab (by exact (Nat.zero_add _).trans (Nat.mul_one _))) ?_
         refine jm rfl ?_
         refine ap (_,[]) (fun τ=> cR _ aa rfl rfl (by exact cV s 0 ab) rfl) ?_
         refine lU rfl ?_
         refine ap (_,[]) (fun τ=> (aF aa al (hap) rfl rfl)) ?_
         refine lQ rfl (bg ⟨rfl,?_⟩)
         refine ai (bZ _ _ aa rfl rfl rfl _ rfl ab (by exact (Nat.zero_add _).trans (Nat.mul_one _))) ?_
         refine ai (fg _ _ aa rfl rfl rfl rfl rfl (by rw [aZ];simp only [List.length_cons,List.length_nil];omega) (eg s.stack (s.stack.length - 2) _ ab)) ?_
         refine aj ?_
         refine aN (σ':=aA 330 [(4,_),(5,_),(8,_),(10,_),(11,_),(12,_),(13,_),(15,_)] [((5,0),_),((8,0),_),((10,0),_),((11,0),_),((20,0),_),((60,0),_),((61,0),_),((62,0),_)] [] []) kp ?_
         refine an (ei rfl (aP rfl (ai (bk (r:=((s.stack.length - 1:Nat):Int)) _ _ rfl rfl ((be ab).trans ab)) ?_)))
         refine ca (Le.cutR (62,0) (s.stack.length - 1) rfl ((cY _ _).trans (congrArg cu (fb s g2 _)))) ?_
         refine ai (eW _ _ _ aa rfl rfl 0 (s.stack.length - 1) .dflt (.lit rfl rfl) ab ab rfl (show s.stack.length - 1 - 0=(s.pop 2++[eD o (s.top 1) (s.top 0)]).length by rw [← fb s g2,List.length_take,hsl];omega)) ?_
         refine dY rfl (ax (⟨(k,{ s with pc:=s.pc+1,steps:=s.steps+1,cov:=s.cov++[s.pc],stack:=s.pop 2++[eD o (s.top 1) (s.top 0)] }),?_,?_,?_⟩))
         ·exact ⟨hz1,by simp only at hss ⊢;omega,hat,hsz,hf⟩
         ·skip
          refine Le.mkJ [] [] rfl ?_ ?_ trivial trivial ?_
          ·exact ⟨(iS rfl),(iP rfl),(iP rfl),(iP rfl),(iP rfl),(bY ag),(cq rfl ag),trivial⟩
          ·exact ⟨(ce rfl rfl rfl),(ce rfl rfl rfl),(ce rfl rfl rfl),(di rfl rfl rfl rfl lz),(cw rfl rfl rfl ag),(cw rfl rfl rfl ag),(cw rfl rfl rfl ag),(cw rfl rfl rfl ag),trivial⟩
          ·kernel_rfl
         ·simp only;omega
        ·skip
         refine am (ai (br _ _ rfl rfl rfl) (ci rfl (aj (aO rfl (fun hc145=> ?_) (fun hc145=> ?_)))))
         ·skip
          have ho:o= .add∨o= .sub∨o= .mul∨o= .div∨o= .lt∨o= .le∨o= .eq:=by cases o <;> simp [Opc.num] at hc145 ⊢
          have g2:2≤s.stack.length:=by rcases ho with rfl | rfl | rfl | rfl | rfl | rfl | rfl <;> exact g2
          have hap:=fT (htr 1) (htr 0) ho
          have e:cC M.cx ⟨o,n⟩ { s with pc:=s.pc+1,steps:=s.steps+1,cov:=s.cov++[s.pc] }={ s with pc:=s.pc+1,steps:=s.steps+1,cov:=s.cov++[s.pc],stack:=s.pop 2++[eD o (s.top 1) (s.top 0)] }:=by rcases ho with rfl | rfl | rfl | rfl | rfl | rfl | rfl <;> rfl
          rw [e] at hz1 hat hsz hss
          have hsl:(s.stack.set (s.stack.length - 2) (eD o (s.top 1) (s.top 0))).length=s.stack.length:=List.length_set
          refine aL (bC rfl (by exact beq_iff_eq.2 hc145) ?_)
          refine aq ?_
          refine aN (σ':=aA 330 [(4,_),(5,_),(8,_),(10,_),(11,_),(12,_),(13,_),(14,_),(15,_)] [((5,0),_),((8,0),_),((10,0),_),((11,0),_),((20,0),_),((60,0),_),((61,0),_),((62,0),_),((14,0),_)] [] []) kp ?_
          refine bu 16 [153,154,155,156,157,158,159,160,161,162,163,164,165,166,167,168] [] ae ae rfl (aK rfl) (rfl:_=[_,_,_,_,_,_,_,_,_,_,_,_,_,_,_,_]) (rfl:_=[_,_]) ?_
          refine ap (_,[]) (fun τ=> aC _ (rfl:_=AV.ref _ _ _)) ?_
          refine el rfl ?_
          refine ap (_,[]) (fun τ=> aC _ (rfl:_=AV.v (.int _ _))) ?_
          refine eo rfl ?_
          refine ap (_,[]) (fun τ=> bk (r:=((s.stack.length - 2:Nat):Int)) _ _ rfl rfl ((be ab).trans ab)) ?_
          refine ep rfl ?_
          refine ap (_,[]) (fun τ=> aI _ aa rfl rfl rfl) ?_
          refine ew rfl ?_
          refine ap (_,[]) (fun τ=> aM _ aa rfl rfl (rfl:_=some (AV.v (.int _ _)))) ?_
          refine eF rfl ?_
          refine ap (_,[]) (fun τ=> aC _ (rfl:_=AV.ref _ _ _)) ?_
          refine eV rfl ?_
          refine ap (_,[]) (fun τ=> aC _ (rfl:_=AV.v (.int _ _))) ?_
          refine fF rfl ?_
          refine ap (_,[]) (fun τ=> bk (r:=((s.stack.length - 2:Nat):Int)) _ _ rfl rfl ((be ab).trans ab)) ?_
          refine iu rfl ?_
          refine ap (_,[]) (fun τ=> bZ _ _ aa rfl rfl rfl _ rfl ab (by exact (Nat.zero_add _).trans (Nat.mul_one _))) ?_
          refine ig rfl ?_
          refine ap (_,[]) (fun τ=> cR _ aa rfl rfl (by exact cV s 1 ab) rfl) ?_
          refine eO rfl ?_
          refine ap (_,[]) (fun τ=> aC _ (rfl:_=AV.ref _ _ _)) ?_
          refine fc rfl ?_
          refine ap (_,[]) (fun τ=> aC _ (rfl:_=AV.v (.int _ _))) ?_
          refine gU rfl ?_
          refine ap (_,[]) (fun τ=> bk (r:=((s.stack.length - 1:Nat):Int)) _ _ rfl rfl ((be ab).trans ab)) ?_
          refine gY rfl ?_
          refine ap (_,[]) (fun τ=> bZ _ _ aa rfl rfl rfl _ rfl ab (by exact (Nat.zero_add _).trans (Nat.mul_one _))) ?_
          refine jm rfl ?_
          refine ap (_,[]) (fun τ=> cR _ aa rfl rfl (by exact cV s 0 ab) rfl) ?_
          refine lU rfl ?_
          refine ap (_,[]) (fun τ=> (aF aa al (hap) rfl rfl)) ?_
          refine lQ rfl (bg ⟨rfl,?_⟩)
          refine ai (bZ _ _ aa rfl rfl rfl _ rfl ab (by exact (Nat.zero_add _).trans (Nat.mul_one _))) ?_
          refine ai (fg _ _ aa rfl rfl rfl rfl rfl (by rw [aZ];simp only [List.length_cons,List.length_nil];omega) (eg s.stack (s.stack.length - 2) _ ab)) ?_
          refine aj ?_
          refine aN (σ':=aA 330 [(4,_),(5,_),(8,_),(10,_),(11,_),(12,_),(13,_),(15,_)] [((5,0),_),((8,0),_),((10,0),_),((11,0),_),((20,0),_),((60,0),_),((61,0),_),((62,0),_)] [] []) kp ?_
          refine an (ei rfl (aP rfl (ai (bk (r:=((s.stack.length - 1:Nat):Int)) _ _ rfl rfl ((be ab).trans ab)) ?_)))
          refine ca (Le.cutR (62,0) (s.stack.length - 1) rfl ((cY _ _).trans (congrArg cu (fb s g2 _)))) ?_
          refine ai (eW _ _ _ aa rfl rfl 0 (s.stack.length - 1) .dflt (.lit rfl rfl) ab ab rfl (show s.stack.length - 1 - 0=(s.pop 2++[eD o (s.top 1) (s.top 0)]).length by rw [← fb s g2,List.length_take,hsl];omega)) ?_
          refine dY rfl (ax (⟨(k,{ s with pc:=s.pc+1,steps:=s.steps+1,cov:=s.cov++[s.pc],stack:=s.pop 2++[eD o (s.top 1) (s.top 0)] }),?_,?_,?_⟩))
          ·exact ⟨hz1,by simp only at hss ⊢;omega,hat,hsz,hf⟩
          ·skip
           refine Le.mkJ [] [] rfl ?_ ?_ trivial trivial ?_
           ·exact ⟨(iS rfl),(iP rfl),(iP rfl),(iP rfl),(iP rfl),(bY ag),(cq rfl ag),trivial⟩
           ·exact ⟨(ce rfl rfl rfl),(ce rfl rfl rfl),(ce rfl rfl rfl),(di rfl rfl rfl rfl lz),(cw rfl rfl rfl ag),(cw rfl rfl rfl ag),(cw rfl rfl rfl ag),(cw rfl rfl rfl ag),trivial⟩
           ·kernel_rfl
          ·simp only;omega
         ·skip
          refine am (ai (br _ _ rfl rfl rfl) (ci rfl (aj (aO rfl (fun hc145=> ?_) (fun hc145=> ?_)))))
          ·skip
           have ho:o= .add∨o= .sub∨o= .mul∨o= .div∨o= .lt∨o= .le∨o= .eq:=by cases o <;> simp [Opc.num] at hc145 ⊢
           have g2:2≤s.stack.length:=by rcases ho with rfl | rfl | rfl | rfl | rfl | rfl | rfl <;> exact g2
           have hap:=fT (htr 1) (htr 0) ho
           have e:cC M.cx ⟨o,n⟩ { s with pc:=s.pc+1,steps:=s.steps+1,cov:=s.cov++[s.pc] }={ s with pc:=s.pc+1,steps:=s.steps+1,cov:=s.cov++[s.pc],stack:=s.pop 2++[eD o (s.top 1) (s.top 0)] }:=by rcases ho with rfl | rfl | rfl | rfl | rfl | rfl | rfl <;> rfl
           rw [e] at hz1 hat hsz hss
           have hsl:(s.stack.set (s.stack.length - 2) (eD o (s.top 1) (s.top 0))).length=s.stack.length:=List.length_set
           refine aL (bC rfl (by exact beq_iff_eq.2 hc145) ?_)
           refine aq ?_
           refine aN (σ':=aA 330 [(4,_),(5,_),(8,_),(10,_),(11,_),(12,_),(13,_),(14,_),(15,_)] [((5,0),_),((8,0),_),((10,0),_),((11,0),_),((20,0),_),((60,0),_),((61,0),_),((62,0),_),((14,0),_)] [] []) kp ?_
           refine bu 16 [153,154,155,156,157,158,159,160,161,162,163,164,165,166,167,168] [] ae ae rfl (aK rfl) (rfl:_=[_,_,_,_,_,_,_,_,_,_,_,_,_,_,_,_]) (rfl:_=[_,_]) ?_
           refine ap (_,[]) (fun τ=> aC _ (rfl:_=AV.ref _ _ _)) ?_
           refine el rfl ?_
           refine ap (_,[]) (fun τ=> aC _ (rfl:_=AV.v (.int _ _))) ?_
           refine eo rfl ?_
           refine ap (_,[]) (fun τ=> bk (r:=((s.stack.length - 2:Nat):Int)) _ _ rfl rfl ((be ab).trans ab)) ?_
           refine ep rfl ?_
           refine ap (_,[]) (fun τ=> aI _ aa rfl rfl rfl) ?_
           refine ew rfl ?_
           refine ap (_,[]) (fun τ=> aM _ aa rfl rfl (rfl:_=some (AV.v (.int _ _)))) ?_
           refine eF rfl ?_
           refine ap (_,[]) (fun τ=> aC _ (rfl:_=AV.ref _ _ _)) ?_
           refine eV rfl ?_
           refine ap (_,[]) (fun τ=> aC _ (rfl:_=AV.v (.int _ _))) ?_
           refine fF rfl ?_
           refine ap (_,[]) (fun τ=> bk (r:=((s.stack.length - 2:Nat):Int)) _ _ rfl rfl ((be ab).trans ab)) ?_
           refine iu rfl ?_
           refine ap (_,[]) (fun τ=> bZ _ _ aa rfl rfl rfl _ rfl ab (by exact (Nat.zero_add _).trans (Nat.mul_one _))) ?_
           refine ig rfl ?_
           refine ap (_,[]) (fun τ=> cR _ aa rfl rfl (by exact cV s 1 ab) rfl) ?_
           refine eO rfl ?_
           refine ap (_,[]) (fun τ=> aC _ (rfl:_=AV.ref _ _ _)) ?_
           refine fc rfl ?_
           refine ap (_,[]) (fun τ=> aC _ (rfl:_=AV.v (.int _ _))) ?_
           refine gU rfl ?_
           refine ap (_,[]) (fun τ=> bk (r:=((s.stack.length - 1:Nat):Int)) _ _ rfl rfl ((be ab).trans ab)) ?_
           refine gY rfl ?_
           refine ap (_,[]) (fun τ=> bZ _ _ aa rfl rfl rfl _ rfl ab (by exact (Nat.zero_add _).trans (Nat.mul_one _))) ?_
           refine jm rfl ?_
           refine ap (_,[]) (fun τ=> cR _ aa rfl rfl (by exact cV s 0 ab) rfl) ?_
           refine lU rfl ?_
           refine ap (_,[]) (fun τ=> (aF aa al (hap) rfl rfl)) ?_
           refine lQ rfl (bg ⟨rfl,?_⟩)
           refine ai (bZ _ _ aa rfl rfl rfl _ rfl ab (by exact (Nat.zero_add _).trans (Nat.mul_one _))) ?_
           refine ai (fg _ _ aa rfl rfl rfl rfl rfl (by rw [aZ];simp only [List.length_cons,List.length_nil];omega) (eg s.stack (s.stack.length - 2) _ ab)) ?_
           refine aj ?_
           refine aN (σ':=aA 330 [(4,_),(5,_),(8,_),(10,_),(11,_),(12,_),(13,_),(15,_)] [((5,0),_),((8,0),_),((10,0),_),((11,0),_),((20,0),_),((60,0),_),((61,0),_),((62,0),_)] [] []) kp ?_
           refine an (ei rfl (aP rfl (ai (bk (r:=((s.stack.length - 1:Nat):Int)) _ _ rfl rfl ((be ab).trans ab)) ?_)))
           refine ca (Le.cutR (62,0) (s.stack.length - 1) rfl ((cY _ _).trans (congrArg cu (fb s g2 _)))) ?_
           refine ai (eW _ _ _ aa rfl rfl 0 (s.stack.length - 1) .dflt (.lit rfl rfl) ab ab rfl (show s.stack.length - 1 - 0=(s.pop 2++[eD o (s.top 1) (s.top 0)]).length by rw [← fb s g2,List.length_take,hsl];omega)) ?_
           refine dY rfl (ax (⟨(k,{ s with pc:=s.pc+1,steps:=s.steps+1,cov:=s.cov++[s.pc],stack:=s.pop 2++[eD o (s.top 1) (s.top 0)] }),?_,?_,?_⟩))
           ·exact ⟨hz1,by simp only at hss ⊢;omega,hat,hsz,hf⟩
           ·skip
            refine Le.mkJ [] [] rfl ?_ ?_ trivial trivial ?_
            ·exact ⟨(iS rfl),(iP rfl),(iP rfl),(iP rfl),(iP rfl),(bY ag),(cq rfl ag),trivial⟩
            ·exact ⟨(ce rfl rfl rfl),(ce rfl rfl rfl),(ce rfl rfl rfl),(di rfl rfl rfl rfl lz),(cw rfl rfl rfl ag),(cw rfl rfl rfl ag),(cw rfl rfl rfl ag),(cw rfl rfl rfl ag),trivial⟩
            ·kernel_rfl
           ·simp only;omega
          ·skip
           refine aq ?_
           refine aN (σ':=aA 330 [(4,_),(5,_),(8,_),(10,_),(11,_),(12,_),(13,_),(14,_),(15,_),(51,_)] [((5,0),_),((8,0),_),((10,0),_),((11,0),_),((20,0),_),((60,0),_),((61,0),_),((62,0),_),((14,0),_)] [] []) kp ?_
           refine an (ai (br _ _ rfl rfl rfl) (ci rfl (aj (aO rfl (fun hc145=> ?_) (fun hc145=> ?_)))))
           ·skip
            have ho:o= .add∨o= .sub∨o= .mul∨o= .div∨o= .lt∨o= .le∨o= .eq:=by cases o <;> simp [Opc.num] at hc145 ⊢
            have g2:2≤s.stack.length:=by rcases ho with rfl | rfl | rfl | rfl | rfl | rfl | rfl <;> exact g2
            have hap:=fT (htr 1) (htr 0) ho
            have e:cC M.cx ⟨o,n⟩ { s with pc:=s.pc+1,steps:=s.steps+1,cov:=s.cov++[s.pc] }={ s with pc:=s.pc+1,steps:=s.steps+1,cov:=s.cov++[s.pc],stack:=s.pop 2++[eD o (s.top 1) (s.top 0)] }:=by rcases ho with rfl | rfl | rfl | rfl | rfl | rfl | rfl <;> rfl
            rw [e] at hz1 hat hsz hss
            have hsl:(s.stack.set (s.stack.length - 2) (eD o (s.top 1) (s.top 0))).length=s.stack.length:=List.length_set
            refine aL (bC rfl (by exact beq_iff_eq.2 hc145) ?_)
            refine aq (bu 16 [153,154,155,156,157,158,159,160,161,162,163,164,165,166,167,168] [] ae ae rfl (aK rfl) (rfl:_=[_,_,_,_,_,_,_,_,_,_,_,_,_,_,_,_]) (rfl:_=[_,_]) ?_)
            refine ap (_,[]) (fun τ=> aC _ (rfl:_=AV.ref _ _ _)) ?_
            refine el rfl ?_
            refine ap (_,[]) (fun τ=> aC _ (rfl:_=AV.v (.int _ _))) ?_
            refine eo rfl ?_
            refine ap (_,[]) (fun τ=> bk (r:=((s.stack.length - 2:Nat):Int)) _ _ rfl rfl ((be ab).trans ab)) ?_
            refine ep rfl ?_
            refine ap (_,[]) (fun τ=> aI _ aa rfl rfl rfl) ?_
            refine ew rfl ?_
            refine ap (_,[]) (fun τ=> aM _ aa rfl rfl (rfl:_=some (AV.v (.int _ _)))) ?_
            refine eF rfl ?_
            refine ap (_,[]) (fun τ=> aC _ (rfl:_=AV.ref _ _ _)) ?_
            refine eV rfl ?_
            refine ap (_,[]) (fun τ=> aC _ (rfl:_=AV.v (.int _ _))) ?_
            refine fF rfl ?_
            refine ap (_,[]) (fun τ=> bk (r:=((s.stack.length - 2:Nat):Int)) _ _ rfl rfl ((be ab).trans ab)) ?_
            refine iu rfl ?_
            refine ap (_,[]) (fun τ=> bZ _ _ aa rfl rfl rfl _ rfl ab (by exact (Nat.zero_add _).trans (Nat.mul_one _))) ?_
            refine ig rfl ?_
            refine ap (_,[]) (fun τ=> cR _ aa rfl rfl (by exact cV s 1 ab) rfl) ?_
            refine eO rfl ?_
            refine ap (_,[]) (fun τ=> aC _ (rfl:_=AV.ref _ _ _)) ?_
            refine fc rfl ?_
            refine ap (_,[]) (fun τ=> aC _ (rfl:_=AV.v (.int _ _))) ?_
            refine gU rfl ?_
            refine ap (_,[]) (fun τ=> bk (r:=((s.stack.length - 1:Nat):Int)) _ _ rfl rfl ((be ab).trans ab)) ?_
            refine gY rfl ?_
            refine ap (_,[]) (fun τ=> bZ _ _ aa rfl rfl rfl _ rfl ab (by exact (Nat.zero_add _).trans (Nat.mul_one _))) ?_
            refine jm rfl ?_
            refine ap (_,[]) (fun τ=> cR _ aa rfl rfl (by exact cV s 0 ab) rfl) ?_
            refine lU rfl ?_
            refine ap (_,[]) (fun τ=> (aF aa al (hap) rfl rfl)) ?_
            refine lQ rfl (bg ⟨rfl,?_⟩)
            refine ai (bZ _ _ aa rfl rfl rfl _ rfl ab (by exact (Nat.zero_add _).trans (Nat.mul_one _))) ?_
            refine ai (fg _ _ aa rfl rfl rfl rfl rfl (by rw [aZ];simp only [List.length_cons,List.length_nil];omega) (eg s.stack (s.stack.length - 2) _ ab)) ?_
            refine aj ?_
            refine aN (σ':=aA 330 [(4,_),(5,_),(8,_),(10,_),(11,_),(12,_),(13,_),(15,_)] [((5,0),_),((8,0),_),((10,0),_),((11,0),_),((20,0),_),((60,0),_),((61,0),_),((62,0),_)] [] []) kp ?_
            refine an (ei rfl (aP rfl (ai (bk (r:=((s.stack.length - 1:Nat):Int)) _ _ rfl rfl ((be ab).trans ab)) ?_)))
            refine ca (Le.cutR (62,0) (s.stack.length - 1) rfl ((cY _ _).trans (congrArg cu (fb s g2 _)))) ?_
            refine ai (eW _ _ _ aa rfl rfl 0 (s.stack.length - 1) .dflt (.lit rfl rfl) ab ab rfl (show s.stack.length - 1 - 0=(s.pop 2++[eD o (s.top 1) (s.top 0)]).length by rw [← fb s g2,List.length_take,hsl];omega)) ?_
            refine dY rfl (ax (⟨(k,{ s with pc:=s.pc+1,steps:=s.steps+1,cov:=s.cov++[s.pc],stack:=s.pop 2++[eD o (s.top 1) (s.top 0)] }),?_,?_,?_⟩))
            ·exact ⟨hz1,by simp only at hss ⊢;omega,hat,hsz,hf⟩
            ·skip
             refine Le.mkJ [] [] rfl ?_ ?_ trivial trivial ?_
             ·exact ⟨(iS rfl),(iP rfl),(iP rfl),(iP rfl),(iP rfl),(bY ag),(cq rfl ag),trivial⟩
             ·exact ⟨(ce rfl rfl rfl),(ce rfl rfl rfl),(ce rfl rfl rfl),(di rfl rfl rfl rfl lz),(cw rfl rfl rfl ag),(cw rfl rfl rfl ag),(cw rfl rfl rfl ag),(cw rfl rfl rfl ag),trivial⟩
             ·kernel_rfl
            ·simp only;omega
           ·skip
            refine am (ai (br _ _ rfl rfl rfl) (ci rfl (aj (aO rfl (fun hc145=> ?_) (fun hc145=> ?_)))))
            ·skip
             have ho:o= .add∨o= .sub∨o= .mul∨o= .div∨o= .lt∨o= .le∨o= .eq:=by cases o <;> simp [Opc.num] at hc145 ⊢
             have g2:2≤s.stack.length:=by rcases ho with rfl | rfl | rfl | rfl | rfl | rfl | rfl <;> exact g2
             have hap:=fT (htr 1) (htr 0) ho
             have e:cC M.cx ⟨o,n⟩ { s with pc:=s.pc+1,steps:=s.steps+1,cov:=s.cov++[s.pc] }={ s with pc:=s.pc+1,steps:=s.steps+1,cov:=s.cov++[s.pc],stack:=s.pop 2++[eD o (s.top 1) (s.top 0)] }:=by rcases ho with rfl | rfl | rfl | rfl | rfl | rfl | rfl <;> rfl
             rw [e] at hz1 hat hsz hss
             have hsl:(s.stack.set (s.stack.length - 2) (eD o (s.top 1) (s.top 0))).length=s.stack.length:=List.length_set
             refine aL (bC rfl (by exact beq_iff_eq.2 hc145) ?_)
             refine aq ?_
             refine aN (σ':=aA 330 [(4,_),(5,_),(8,_),(10,_),(11,_),(12,_),(13,_),(14,_),(15,_)] [((5,0),_),((8,0),_),((10,0),_),((11,0),_),((20,0),_),((60,0),_),((61,0),_),((62,0),_),((14,0),_)] [] []) kp ?_
             refine bu 16 [153,154,155,156,157,158,159,160,161,162,163,164,165,166,167,168] [] ae ae rfl (aK rfl) (rfl:_=[_,_,_,_,_,_,_,_,_,_,_,_,_,_,_,_]) (rfl:_=[_,_]) ?_
             refine ap (_,[]) (fun τ=> aC _ (rfl:_=AV.ref _ _ _)) ?_
             refine el rfl ?_
             refine ap (_,[]) (fun τ=> aC _ (rfl:_=AV.v (.int _ _))) ?_
             refine eo rfl ?_
             refine ap (_,[]) (fun τ=> bk (r:=((s.stack.length - 2:Nat):Int)) _ _ rfl rfl ((be ab).trans ab)) ?_
             refine ep rfl ?_
             refine ap (_,[]) (fun τ=> aI _ aa rfl rfl rfl) ?_
             refine ew rfl ?_
             refine ap (_,[]) (fun τ=> aM _ aa rfl rfl (rfl:_=some (AV.v (.int _ _)))) ?_
             refine eF rfl ?_
             refine ap (_,[]) (fun τ=> aC _ (rfl:_=AV.ref _ _ _)) ?_
             refine eV rfl ?_
             refine ap (_,[]) (fun τ=> aC _ (rfl:_=AV.v (.int _ _))) ?_
             refine fF rfl ?_
             refine ap (_,[]) (fun τ=> bk (r:=((s.stack.length - 2:Nat):Int)) _ _ rfl rfl ((be ab).trans ab)) ?_
             refine iu rfl ?_
             refine ap (_,[]) (fun τ=> bZ _ _ aa rfl rfl rfl _ rfl ab (by exact (Nat.zero_add _).trans (Nat.mul_one _))) ?_
             refine ig rfl ?_
             refine ap (_,[]) (fun τ=> cR _ aa rfl rfl (by exact cV s 1 ab) rfl) ?_
             refine eO rfl ?_
             refine ap (_,[]) (fun τ=> aC _ (rfl:_=AV.ref _ _ _)) ?_
             refine fc rfl ?_
             refine ap (_,[]) (fun τ=> aC _ (rfl:_=AV.v (.int _ _))) ?_
             refine gU rfl ?_
             refine ap (_,[]) (fun τ=> bk (r:=((s.stack.length - 1:Nat):Int)) _ _ rfl rfl ((be ab).trans ab)) ?_
             refine gY rfl ?_
             refine ap (_,[]) (fun τ=> bZ _ _ aa rfl rfl rfl _ rfl ab (by exact (Nat.zero_add _).trans (Nat.mul_one _))) ?_
             refine jm rfl ?_
             refine ap (_,[]) (fun τ=> cR _ aa rfl rfl (by exact cV s 0 ab) rfl) ?_
             refine lU rfl ?_
             refine ap (_,[]) (fun τ=> (aF aa al (hap) rfl rfl)) ?_
             refine lQ rfl (bg ⟨rfl,?_⟩)
             refine ai (bZ _ _ aa rfl rfl rfl _ rfl ab (by exact (Nat.zero_add _).trans (Nat.mul_one _))) ?_
             refine ai (fg _ _ aa rfl rfl rfl rfl rfl (by rw [aZ];simp only [List.length_cons,List.length_nil];omega) (eg s.stack (s.stack.length - 2) _ ab)) ?_
             refine aj ?_
             refine aN (σ':=aA 330 [(4,_),(5,_),(8,_),(10,_),(11,_),(12,_),(13,_),(15,_)] [((5,0),_),((8,0),_),((10,0),_),((11,0),_),((20,0),_),((60,0),_),((61,0),_),((62,0),_)] [] []) kp ?_
             refine an (ei rfl (aP rfl (ai (bk (r:=((s.stack.length - 1:Nat):Int)) _ _ rfl rfl ((be ab).trans ab)) ?_)))
             refine ca (Le.cutR (62,0) (s.stack.length - 1) rfl ((cY _ _).trans (congrArg cu (fb s g2 _)))) ?_
             refine ai (eW _ _ _ aa rfl rfl 0 (s.stack.length - 1) .dflt (.lit rfl rfl) ab ab rfl (show s.stack.length - 1 - 0=(s.pop 2++[eD o (s.top 1) (s.top 0)]).length by rw [← fb s g2,List.length_take,hsl];omega)) ?_
             refine dY rfl (ax (⟨(k,{ s with pc:=s.pc+1,steps:=s.steps+1,cov:=s.cov++[s.pc],stack:=s.pop 2++[eD o (s.top 1) (s.top 0)] }),?_,?_,?_⟩))
             ·exact ⟨hz1,by simp only at hss ⊢;omega,hat,hsz,hf⟩
             ·skip
              refine Le.mkJ [] [] rfl ?_ ?_ trivial trivial ?_
              ·exact ⟨(iS rfl),(iP rfl),(iP rfl),(iP rfl),(iP rfl),(bY ag),(cq rfl ag),trivial⟩
              ·exact ⟨(ce rfl rfl rfl),(ce rfl rfl rfl),(ce rfl rfl rfl),(di rfl rfl rfl rfl lz),(cw rfl rfl rfl ag),(cw rfl rfl rfl ag),(cw rfl rfl rfl ag),(cw rfl rfl rfl ag),trivial⟩
              ·kernel_rfl
             ·simp only;omega
            ·skip
             refine an (ai (br _ _ rfl rfl rfl) (ci rfl (aj (aO rfl (fun hc145=> ?_) (fun hc145=> ?_)))))
             ·skip
              have ho:o= .add∨o= .sub∨o= .mul∨o= .div∨o= .lt∨o= .le∨o= .eq:=by cases o <;> simp [Opc.num] at hc145 ⊢
              have g2:2≤s.stack.length:=by rcases ho with rfl | rfl | rfl | rfl | rfl | rfl | rfl <;> exact g2
              have hap:=fT (htr 1) (htr 0) ho
              have e:cC M.cx ⟨o,n⟩ { s with pc:=s.pc+1,steps:=s.steps+1,cov:=s.cov++[s.pc] }={ s with pc:=s.pc+1,steps:=s.steps+1,cov:=s.cov++[s.pc],stack:=s.pop 2++[eD o (s.top 1) (s.top 0)] }:=by rcases ho with rfl | rfl | rfl | rfl | rfl | rfl | rfl <;> rfl
              rw [e] at hz1 hat hsz hss
              have hsl:(s.stack.set (s.stack.length - 2) (eD o (s.top 1) (s.top 0))).length=s.stack.length:=List.length_set
              refine aq ?_
              refine aN (σ':=aA 330 [(4,_),(5,_),(8,_),(10,_),(11,_),(12,_),(13,_),(14,_),(15,_)] [((5,0),_),((8,0),_),((10,0),_),((11,0),_),((20,0),_),((60,0),_),((61,0),_),((62,0),_),((14,0),_)] [] []) kp ?_
              refine bu 16 [153,154,155,156,157,158,159,160,161,162,163,164,165,166,167,168] [] ae ae rfl (aK rfl) (rfl:_=[_,_,_,_,_,_,_,_,_,_,_,_,_,_,_,_]) (rfl:_=[_,_]) ?_
              refine ap (_,[]) (fun τ=> aC _ (rfl:_=AV.ref _ _ _)) ?_
              refine el rfl ?_
              refine ap (_,[]) (fun τ=> aC _ (rfl:_=AV.v (.int _ _))) ?_
              refine eo rfl ?_
              refine ap (_,[]) (fun τ=> bk (r:=((s.stack.length - 2:Nat):Int)) _ _ rfl rfl ((be ab).trans ab)) ?_
              refine ep rfl ?_
              refine ap (_,[]) (fun τ=> aI _ aa rfl rfl rfl) ?_
              refine ew rfl ?_
              refine ap (_,[]) (fun τ=> aM _ aa rfl rfl (rfl:_=some (AV.v (.int _ _)))) ?_
              refine eF rfl ?_
              refine ap (_,[]) (fun τ=> aC _ (rfl:_=AV.ref _ _ _)) ?_
              refine eV rfl ?_
              refine ap (_,[]) (fun τ=> aC _ (rfl:_=AV.v (.int _ _))) ?_
              refine fF rfl ?_
              refine ap (_,[]) (fun τ=> bk (r:=((s.stack.length - 2:Nat):Int)) _ _ rfl rfl ((be ab).trans ab)) ?_
              refine iu rfl ?_
              refine ap (_,[]) (fun τ=> bZ _ _ aa rfl rfl rfl _ rfl ab (by exact (Nat.zero_add _).trans (Nat.mul_one _))) ?_
              refine ig rfl ?_
              refine ap (_,[]) (fun τ=> cR _ aa rfl rfl (by exact cV s 1 ab) rfl) ?_
              refine eO rfl ?_
              refine ap (_,[]) (fun τ=> aC _ (rfl:_=AV.ref _ _ _)) ?_
              refine fc rfl ?_
              refine ap (_,[]) (fun τ=> aC _ (rfl:_=AV.v (.int _ _))) ?_
              refine gU rfl ?_
              refine ap (_,[]) (fun τ=> bk (r:=((s.stack.length - 1:Nat):Int)) _ _ rfl rfl ((be ab).trans ab)) ?_
              refine gY rfl ?_
              refine ap (_,[]) (fun τ=> bZ _ _ aa rfl rfl rfl _ rfl ab (by exact (Nat.zero_add _).trans (Nat.mul_one _))) ?_
              refine jm rfl ?_
              refine ap (_,[]) (fun τ=> cR _ aa rfl rfl (by exact cV s 0 ab) rfl) ?_
              refine lU rfl ?_
              refine ap (_,[]) (fun τ=> (aF aa al (hap) rfl rfl)) ?_
              refine lQ rfl (bg ⟨rfl,?_⟩)
              refine ai (bZ _ _ aa rfl rfl rfl _ rfl ab (by exact (Nat.zero_add _).trans (Nat.mul_one _))) ?_
              refine ai (fg _ _ aa rfl rfl rfl rfl rfl (by rw [aZ];simp only [List.length_cons,List.length_nil];omega) (eg s.stack (s.stack.length - 2) _ ab)) ?_
              refine aj ?_
              refine aN (σ':=aA 330 [(4,_),(5,_),(8,_),(10,_),(11,_),(12,_),(13,_),(15,_)] [((5,0),_),((8,0),_),((10,0),_),((11,0),_),((20,0),_),((60,0),_),((61,0),_),((62,0),_)] [] []) kp ?_
              refine an (ei rfl (aP rfl (ai (bk (r:=((s.stack.length - 1:Nat):Int)) _ _ rfl rfl ((be ab).trans ab)) ?_)))
              refine ca (Le.cutR (62,0) (s.stack.length - 1) rfl ((cY _ _).trans (congrArg cu (fb s g2 _)))) ?_
              refine ai (eW _ _ _ aa rfl rfl 0 (s.stack.length - 1) .dflt (.lit rfl rfl) ab ab rfl (show s.stack.length - 1 - 0=(s.pop 2++[eD o (s.top 1) (s.top 0)]).length by rw [← fb s g2,List.length_take,hsl];omega)) ?_
              refine dY rfl (ax (⟨(k,{ s with pc:=s.pc+1,steps:=s.steps+1,cov:=s.cov++[s.pc],stack:=s.pop 2++[eD o (s.top 1) (s.top 0)] }),?_,?_,?_⟩))
              ·exact ⟨hz1,by simp only at hss ⊢;omega,hat,hsz,hf⟩
              ·skip
               refine Le.mkJ [] [] rfl ?_ ?_ trivial trivial ?_
               ·exact ⟨(iS rfl),(iP rfl),(iP rfl),(iP rfl),(iP rfl),(bY ag),(cq rfl ag),trivial⟩
               ·exact ⟨(ce rfl rfl rfl),(ce rfl rfl rfl),(ce rfl rfl rfl),(di rfl rfl rfl rfl lz),(cw rfl rfl rfl ag),(cw rfl rfl rfl ag),(cw rfl rfl rfl ag),(cw rfl rfl rfl ag),trivial⟩
               ·kernel_rfl
              ·simp only;omega
             ·skip
              refine am (ai (br _ _ rfl rfl rfl) (ci rfl (aj (aO rfl (fun hc174=> ?_) (fun hc174=> ?_)))))
              ·skip
               have ho:o= .neg:=by cases o <;> simp [Opc.num] at hc174 ⊢
               rw [ho] at g1 g2
               have g2:1≤s.stack.length:=g2
               have hpl:(s.pop 1++[-(s.top 0)]).length=s.stack.length:=by rw [← gD s g2,List.length_set]
               have ht0:=htr 0
               unfold Rg at ht0
               have e:cC M.cx ⟨o,n⟩ { s with pc:=s.pc+1,steps:=s.steps+1,cov:=s.cov++[s.pc] }={ s with pc:=s.pc+1,steps:=s.steps+1,cov:=s.cov++[s.pc],stack:=s.pop 1++[-(s.top 0)] }:=by rw [ho];show ({ s with pc:=_,steps:=_,cov:=_,stack:=s.pop 1++[jS (-(s.top 0))] }:Ms)=_;rw [qD (by have:=htr 0;unfold Rg at this ⊢;omega)]
               rw [e] at hz1 hat hsz hss
               refine an (ei rfl (aP rfl (ai (bk (r:=((s.stack.length - 1:Nat):Int)) _ _ rfl rfl ((be ab).trans ab)) ?_)))
               refine ei rfl (aP rfl (ai (bk (r:=((s.stack.length - 1:Nat):Int)) _ _ rfl rfl ((be ab).trans ab)) ?_))
               refine ai (bZ _ _ aa rfl rfl rfl _ rfl ab (by exact (Nat.zero_add _).trans (Nat.mul_one _))) ?_
               refine ai (cR _ aa rfl rfl (by exact cV s 0 ab) rfl) ?_
               refine ai (qK (r:= -(s.top 0)) _ rfl (be ab)) ?_
               refine ai (bZ _ _ aa rfl rfl rfl _ rfl ab (by exact (Nat.zero_add _).trans (Nat.mul_one _))) ?_
               refine ai (fg _ _ aa rfl rfl rfl rfl rfl (by rw [aZ];simp only [List.length_cons,List.length_nil];omega) ((eg s.stack (s.stack.length - 1) _ ab).trans (congrArg cu (gD s g2 _)))) ?_
               refine ax (⟨(k,{ s with pc:=s.pc+1,steps:=s.steps+1,cov:=s.cov++[s.pc],stack:=s.pop 1++[-(s.top 0)] }),?_,?_,?_⟩)
               ·exact ⟨hz1,by simp only at hss ⊢;omega,hat,hsz,hf⟩
               ·skip
                refine Le.mkJ [] [] rfl ?_ ?_ trivial trivial ?_
                ·exact ⟨(iS rfl),(iP rfl),(iP rfl),(iP rfl),(iP rfl),(bY ag),(cq rfl ab),trivial⟩
                ·exact ⟨(ce rfl rfl rfl),(ce rfl rfl rfl),(ce rfl rfl rfl),(di rfl rfl rfl rfl lz),(cw rfl rfl rfl ag),(cw rfl rfl rfl ag),(cw rfl rfl rfl ag),(cw rfl rfl rfl ag),trivial⟩
                ·kernel_rfl
               ·simp only;omega
              ·skip
               refine am (ai (br _ _ rfl rfl rfl) (ci rfl (aj (aO rfl (fun hc186=> ?_) (fun hc186=> ?_)))))
               ·skip
                have ho:o= .not:=by cases o <;> simp [Opc.num] at hc186 ⊢
                rw [ho] at g1 g2
                have g2:1≤s.stack.length:=g2
                have hpl:(s.pop 1++[flag (decide (s.top 0=0))]).length=s.stack.length:=by rw [← gD s g2,List.length_set]
                have e:cC M.cx ⟨o,n⟩ { s with pc:=s.pc+1,steps:=s.steps+1,cov:=s.cov++[s.pc] }={ s with pc:=s.pc+1,steps:=s.steps+1,cov:=s.cov++[s.pc],stack:=s.pop 1++[flag (decide (s.top 0=0))] }:=by rw [ho];rfl
                rw [e] at hz1 hat hsz hss
                refine an (ei rfl (aP rfl (ai (bk (r:=((s.stack.length - 1:Nat):Int)) _ _ rfl rfl ((be ab).trans ab)) ?_)))
                refine ei rfl (aP rfl (ai (bk (r:=((s.stack.length - 1:Nat):Int)) _ _ rfl rfl ((be ab).trans ab)) ?_))
                refine ai (bZ _ _ aa rfl rfl rfl _ rfl ab (by exact (Nat.zero_add _).trans (Nat.mul_one _))) ?_
                refine ai (cR _ aa rfl rfl (by exact cV s 0 ab) rfl) ?_
                refine ai (br (r:=decide (s.top 0=0)) _ _ rfl rfl rfl) ?_
                refine ai (aF aa al (jJ (decide (s.top 0=0))) rfl rfl) ?_
                refine ai (bZ _ _ aa rfl rfl rfl _ rfl ab (by exact (Nat.zero_add _).trans (Nat.mul_one _))) ?_
                refine ai (fg _ _ aa rfl rfl rfl rfl rfl (by rw [aZ];simp only [List.length_cons,List.length_nil];omega) ((eg s.stack (s.stack.length - 1) _ ab).trans (congrArg cu (gD s g2 _)))) ?_
                refine ax (⟨(k,{ s with pc:=s.pc+1,steps:=s.steps+1,cov:=s.cov++[s.pc],stack:=s.pop 1++[flag (decide (s.top 0=0))] }),?_,?_,?_⟩)
                ·exact ⟨hz1,by simp only at hss ⊢;omega,hat,hsz,hf⟩
                ·skip
                 refine Le.mkJ [] [] rfl ?_ ?_ trivial trivial ?_
                 ·exact ⟨(iS rfl),(iP rfl),(iP rfl),(iP rfl),(iP rfl),(bY ag),(cq rfl ab),trivial⟩
                 ·exact ⟨(ce rfl rfl rfl),(ce rfl rfl rfl),(ce rfl rfl rfl),(di rfl rfl rfl rfl lz),(cw rfl rfl rfl ag),(cw rfl rfl rfl ag),(cw rfl rfl rfl ag),(cw rfl rfl rfl ag),trivial⟩
                 ·kernel_rfl
                ·simp only;omega
               ·skip
                refine am (ai (br _ _ rfl rfl rfl) (ci rfl (aj (aO rfl (fun hc199=> ?_) (fun hc199=> ?_)))))
                ·skip
                 have ho:o= .jump:=by cases o <;> simp [Opc.num] at hc199 ⊢
                 rw [ho] at g1 g2
                 have g2:0≤s.stack.length:=g2
                 have g1:0≤n:=g1
                 obtain ⟨j,rfl⟩: ∃ j:Nat,n=j:=⟨n.toNat,by omega⟩
                 have e:cC M.cx ⟨o,(j:Int)⟩ { s with pc:=s.pc+1,steps:=s.steps+1,cov:=s.cov++[s.pc] }={ s with pc:=j,steps:=s.steps+1,cov:=s.cov++[s.pc] }:=by rw [ho];rfl
                 rw [e] at hz1 hat hsz hss
                 refine an (bz rfl rfl rfl (cI rfl rfl rfl (ba rfl (ax (⟨(k,{ s with pc:=j,steps:=s.steps+1,cov:=s.cov++[s.pc] }),?_,?_,?_⟩)))))
                 ·exact ⟨hz1,by simp only at hss ⊢;omega,hat,hsz,hf⟩
                 ·skip
                  refine Le.mkJ [] [] rfl ?_ ?_ trivial trivial ?_
                  ·exact ⟨(iS rfl),(iP rfl),(iP rfl),(iP rfl),(iP rfl),(bY ag),(cq rfl ag),trivial⟩
                  ·exact ⟨(ce rfl rfl rfl),(ce rfl rfl rfl),(ce rfl rfl rfl),(di rfl rfl rfl rfl lz),(cw rfl rfl rfl ag),(cw rfl rfl rfl ag),(cw rfl rfl rfl ag),(cw rfl rfl rfl ag),trivial⟩
                  ·kernel_rfl
                 ·simp only;omega
                ·skip
                 refine am (ai (br _ _ rfl rfl rfl) (ci rfl (aj (aO rfl (fun hc203=> ?_) (fun hc203=> ?_)))))
                 ·skip
                  have ho:o= .unl:=by cases o <;> simp [Opc.num] at hc203 ⊢
                  rw [ho] at g1 g2
                  have g2:1≤s.stack.length:=g2
                  have g1:0≤n:=g1
                  obtain ⟨j,rfl⟩: ∃ j:Nat,n=j:=⟨n.toNat,by omega⟩
                  refine aq (am (ei rfl (aP rfl (ai (bk (r:=((s.stack.length - 1:Nat):Int)) _ _ rfl rfl ((be ab).trans ab)) ?_))))
                  refine ai (bZ _ _ aa rfl rfl rfl _ rfl ab (by exact (Nat.zero_add _).trans (Nat.mul_one _))) ?_
                  refine ai (cR _ aa rfl rfl (by exact cV s 0 ab) rfl) ?_
                  refine ai (br _ _ rfl rfl rfl) (aj (aO rfl (fun hc210=> ?_) (fun hc210=> ?_)))
                  ·skip
                   have e:cC M.cx ⟨o,(j:Int)⟩ { s with pc:=s.pc+1,steps:=s.steps+1,cov:=s.cov++[s.pc] }={ s with pc:=j,steps:=s.steps+1,cov:=s.cov++[s.pc],stack:=s.pop 1 }:=by rw [ho];show ({ s with pc:=if s.top 0=0 then _ else _,steps:=_,cov:=_,stack:=s.pop 1 }:Ms)=_;rw [if_pos hc210];rfl
                   rw [e] at hz1 hat hsz hss
                   refine aN (σ':=aA 330 [(4,_),(5,_),(8,_),(10,_),(11,_),(13,_),(14,_),(15,_)] [((5,0),_),((8,0),_),((10,0),_),((11,0),_),((20,0),_),((60,0),_),((61,0),_),((62,0),_),((14,0),_)] [] []) kp ?_
                   refine an (bz rfl rfl rfl (cI rfl rfl rfl (ba rfl (aj (an (ei rfl (aP rfl (ai (bk (r:=((s.stack.length - 1:Nat):Int)) _ _ rfl rfl ((be ab).trans ab)) ?_))))))))
                   refine ca (Le.cutR (62,0) (s.stack.length - 1) rfl (cY _ _)) ?_
                   refine ai (eW _ _ _ aa rfl rfl 0 (s.stack.length - 1) .dflt (.lit rfl rfl) ab ab rfl (show s.stack.length - 1 - 0=(s.pop 1).length by rw [bX];omega)) ?_
                   refine dY rfl (ax (⟨(k,{ s with pc:=j,steps:=s.steps+1,cov:=s.cov++[s.pc],stack:=s.pop 1 }),?_,?_,?_⟩))
                   ·exact ⟨hz1,by simp only at hss ⊢;omega,hat,hsz,hf⟩
                   ·skip
                    refine Le.mkJ [] [] rfl ?_ ?_ trivial trivial ?_
                    ·exact ⟨(iS rfl),(iP rfl),(iP rfl),(iP rfl),(iP rfl),(bY ag),(cq rfl ag),trivial⟩
                    ·exact ⟨(ce rfl rfl rfl),(ce rfl rfl rfl),(ce rfl rfl rfl),(di rfl rfl rfl rfl lz),(cw rfl rfl rfl ag),(cw rfl rfl rfl ag),(cw rfl rfl rfl ag),(cw rfl rfl rfl ag),trivial⟩
                    ·kernel_rfl
                   ·simp only;omega
                  ·skip
                   have e:cC M.cx ⟨o,(j:Int)⟩ { s with pc:=s.pc+1,steps:=s.steps+1,cov:=s.cov++[s.pc] }={ s with pc:=s.pc+1,steps:=s.steps+1,cov:=s.cov++[s.pc],stack:=s.pop 1 }:=by rw [ho];show ({ s with pc:=if s.top 0=0 then _ else _,steps:=_,cov:=_,stack:=s.pop 1 }:Ms)=_;rw [if_neg hc210]
                   rw [e] at hz1 hat hsz hss
                   refine aL ?_
                   refine aN (σ':=aA 330 [(4,_),(5,_),(8,_),(10,_),(11,_),(12,_),(13,_),(15,_)] [((5,0),_),((8,0),_),((10,0),_),((11,0),_),((20,0),_),((60,0),_),((61,0),_),((62,0),_)] [] []) kp ?_
                   refine an (ei rfl (aP rfl (ai (bk (r:=((s.stack.length - 1:Nat):Int)) _ _ rfl rfl ((be ab).trans ab)) ?_)))
                   refine ca (Le.cutR (62,0) (s.stack.length - 1) rfl (cY _ _)) ?_
                   refine ai (eW _ _ _ aa rfl rfl 0 (s.stack.length - 1) .dflt (.lit rfl rfl) ab ab rfl (show s.stack.length - 1 - 0=(s.pop 1).length by rw [bX];omega)) ?_
                   refine dY rfl (ax (⟨(k,{ s with pc:=s.pc+1,steps:=s.steps+1,cov:=s.cov++[s.pc],stack:=s.pop 1 }),?_,?_,?_⟩))
                   ·exact ⟨hz1,by simp only at hss ⊢;omega,hat,hsz,hf⟩
                   ·skip
                    refine Le.mkJ [] [] rfl ?_ ?_ trivial trivial ?_
                    ·exact ⟨(iS rfl),(iP rfl),(iP rfl),(iP rfl),(iP rfl),(bY ag),(cq rfl ag),trivial⟩
                    ·exact ⟨(ce rfl rfl rfl),(ce rfl rfl rfl),(ce rfl rfl rfl),(di rfl rfl rfl rfl lz),(cw rfl rfl rfl ag),(cw rfl rfl rfl ag),(cw rfl rfl rfl ag),(cw rfl rfl rfl ag),trivial⟩
                    ·kernel_rfl
                   ·simp only;omega
                 ·skip
                  refine am (ai (br _ _ rfl rfl rfl) (ci rfl (aj (aO rfl (fun hc217=> ?_) (fun hc217=> ?_)))))
                  ·skip
                   have ho:o= .send:=by cases o <;> simp [Opc.num] at hc217 ⊢
                   rw [ho] at g1 g2
                   have g2:3≤s.stack.length:=g2
                   have g1:0≤n∧n < 30:=g1
                   have hal:s.acts.length*5=(oU s.acts).length:=(dm _).symm
                   refine aq ?_
                   refine aN (σ':=aA 330 [(4,_),(5,_),(8,_),(10,_),(11,_),(12,_),(13,_),(14,_),(15,_)] [((5,0),_),((8,0),_),((10,0),_),((11,0),_),((20,0),_),((60,0),_),((61,0),_),((62,0),_),((14,0),_)] [] []) kp ?_
                   refine an (ei rfl (aP rfl (ai (bk (r:=((s.stack.length - 3:Nat):Int)) _ _ rfl rfl ((be ab).trans ab)) ?_)))
                   refine ai (bZ _ _ aa rfl rfl rfl _ rfl ab (by exact (Nat.zero_add _).trans (Nat.mul_one _))) ?_
                   refine ai (cR _ aa rfl rfl (by exact cV s 2 ab) rfl) ?_
                   refine ba rfl (aj (aq (am (aP rfl (ai (eH _ _ rfl rfl rfl) (cM rfl (dx (fun hg226=> ?_) (fun hg226=> ?_))))))))
                   ·skip
                    refine ay rfl rfl (aC _ (rfl:_=AV.v (.int _ _))) (ay rfl rfl (ek _ _ aa rfl rfl rfl 1 rfl ab (by exact (Nat.zero_add _).trans (Nat.mul_one _))) ?_)
                    refine ay rfl rfl (aM _ aa rfl rfl (rfl:_=some (AV.v (.int _ _)))) (ay rfl rfl (bp _ _ rfl rfl rfl) (ai (aG _ _ _ rfl (rfl:_=AV.v (.bool _))) (cM rfl (dx (fun hg232=> ?_) (fun hg232=> ?_)))))
                    ·skip
                     refine ay rfl rfl (aI _ aa rfl rfl rfl) (ay rfl rfl (aM _ aa rfl rfl (rfl:_=some (AV.ref _ _ _))) (ay rfl rfl (pV aa aw (vS s.acts ab) rfl) ?_))
                     refine ay rfl rfl (bp _ _ rfl rfl rfl) (ai (aG _ _ _ rfl (rfl:_=AV.v (.bool _))) (aj (aO rfl (fun hc237=> ?_) (fun hc237=> ?_))))
                     ·skip
                      have hx3:co s.acts < 20:=by omega
                      have e:cC M.cx ⟨o,n⟩ { s with pc:=s.pc+1,steps:=s.steps+1,cov:=s.cov++[s.pc] }={ s with pc:=s.pc+1,steps:=s.steps+1,cov:=s.cov++[s.pc],stack:=s.pop 3,acts:=s.acts++[{ k:=3,a:=s.top 2,b:=n,c:=s.top 1,d:=s.top 0 }] }:=by rw [ho];show ({ s with pc:=_,steps:=_,cov:=_,stack:=s.pop 3,acts:=if 0≤s.top 2∧s.top 2 < M.nm 1∧co s.acts < 20 then _ else _ }:Ms)=_;rw [if_pos ⟨hg226,hg232,hx3⟩];rfl
                      rw [e] at hz1 hat hsz hss
                      refine aN (σ':=aA 330 [(4,_),(5,_),(8,_),(10,_),(11,_),(12,_),(13,_),(14,_),(15,_),(17,_)] [((5,0),_),((8,0),_),((10,0),_),((11,0),_),((20,0),_),((60,0),_),((61,0),_),((62,0),_),((14,0),_)] [] []) kp ?_
                      refine bu 17 [238,239,240,241,242,243,244,245,246,247,248,249,250,251,252,253,254] [] ae ae rfl (aK rfl) (rfl:_=[_,_,_,_,_,_,_,_,_,_,_,_,_,_,_,_,_]) (rfl:_=[_,_,_]) ?_
                      refine ap (_,[]) (fun τ=> aI _ aa rfl rfl rfl) ?_
                      refine el rfl ?_
                      refine ap (_,[]) (fun τ=> aM _ aa rfl rfl (rfl:_=some (AV.ref _ _ _))) ?_
                      refine eo rfl ?_
                      refine ap (_,[]) (fun τ=> aC _ (rfl:_=AV.v (.int _ _))) ?_
                      refine ep rfl ?_
                      refine ap (_,[]) (fun τ=> aI _ aa rfl rfl rfl) ?_
                      refine ew rfl ?_
                      refine ap (_,[]) (fun τ=> aM _ aa rfl rfl (rfl:_=some (AV.v (.int _ _)))) ?_
                      refine eF rfl ?_
                      refine ap (_,[]) (fun τ=> aC _ (rfl:_=AV.ref _ _ _)) ?_
                      refine eV rfl ?_
                      refine ap (_,[]) (fun τ=> aC _ (rfl:_=AV.v (.int _ _))) ?_
                      refine fF rfl ?_
                      refine ap (_,[]) (fun τ=> bk (r:=((s.stack.length - 2:Nat):Int)) _ _ rfl rfl ((be ab).trans ab)) ?_
                      refine iu rfl ?_
                      refine ap (_,[]) (fun τ=> bZ _ _ aa rfl rfl rfl _ rfl ab (by exact (Nat.zero_add _).trans (Nat.mul_one _))) ?_
                      refine ig rfl ?_
                      refine ap (_,[]) (fun τ=> cR _ aa rfl rfl (by exact cV s 1 ab) rfl) ?_
                      refine eO rfl ?_
                      refine ap (_,[]) (fun τ=> aC _ (rfl:_=AV.ref _ _ _)) ?_
                      refine fc rfl ?_
                      refine ap (_,[]) (fun τ=> aC _ (rfl:_=AV.v (.int _ _))) ?_
                      refine gU rfl ?_
                      refine ap (_,[]) (fun τ=> bk (r:=((s.stack.length - 1:Nat):Int)) _ _ rfl rfl ((be ab).trans ab)) ?_
                      refine gY rfl ?_
                      refine ap (_,[]) (fun τ=> bZ _ _ aa rfl rfl rfl _ rfl ab (by exact (Nat.zero_add _).trans (Nat.mul_one _))) ?_
                      refine jm rfl ?_
                      refine ap (_,[]) (fun τ=> cR _ aa rfl rfl (by exact cV s 0 ab) rfl) ?_
                      refine lU rfl ?_
                      refine ap (_,[]) (fun τ=> aB _ aa rfl (by exact (rfl:_=some [_,_,_,_,_]))) ?_
                      refine lQ rfl ?_
                      refine ap (_,[]) (fun τ=> aU _ _ aa rfl ag (by (simp <;> rfl)) ah rfl) ?_
                      refine vN rfl (bg ⟨rfl,?_⟩)
                      refine ai (cE (255,0) _ _ aa rfl rfl (dm _).symm (.sl rfl) ab rfl (gJ _ { k:=3,a:=s.top 2,b:=n,c:=s.top 1,d:=s.top 0 }) (show _+1=(s.acts++[({ k:=3,a:=s.top 2,b:=n,c:=s.top 1,d:=s.top 0 }:Ac)]).length by simp)) ?_
                      refine bz rfl rfl rfl (bO rfl rfl rfl rfl rfl rfl (aj ?_))
                      refine aN (σ':=aA 330 [(4,_),(5,_),(8,_),(10,_),(11,_),(12,_),(13,_),(15,_)] [((5,0),_),((8,0),_),((10,0),_),((11,0),_),((20,0),_),((61,0),_),((62,0),_),((255,0),_)] [] []) kp ?_
                      refine an (ei rfl (aP rfl (ai (bk (r:=((s.stack.length - 3:Nat):Int)) _ _ rfl rfl ((be ab).trans ab)) ?_)))
                      refine ca (Le.cutR (62,0) (s.stack.length - 3) rfl (cY _ _)) ?_
                      refine ai (eW _ _ _ aa rfl rfl 0 (s.stack.length - 3) .dflt (.lit rfl rfl) ab ab rfl (show s.stack.length - 3 - 0=(s.pop 3).length by rw [bX];omega)) ?_
                      refine dY rfl (ax (⟨(k,{ s with pc:=s.pc+1,steps:=s.steps+1,cov:=s.cov++[s.pc],stack:=s.pop 3,acts:=s.acts++[{ k:=3,a:=s.top 2,b:=n,c:=s.top 1,d:=s.top 0 }] }),?_,?_,?_⟩))
                      ·exact ⟨hz1,by simp only at hss ⊢;omega,hat,hsz,hf⟩
                      ·skip
                       refine Le.mkJ [((60,0),(255,0))] [] rfl ?_ ?_ trivial trivial ?_
                       ·exact ⟨(by repeat' (exact Lv.sl)),(cr (id:=(5,0)) rfl),(cr (id:=(8,0)) rfl),(cr (id:=(10,0)) rfl),(cr (id:=(11,0)) rfl),(bY ag),(cq rfl ag),trivial⟩
                       ·exact ⟨(di rfl rfl rfl rfl (by repeat' (first | exact Lv.v | exact Lv.sl | exact bf | refine aD ?_ ?_))),(di rfl rfl rfl rfl (by repeat' (first | exact Lv.v | exact bf | refine aD ?_ ?_))),(di rfl rfl rfl rfl (by repeat' (first | exact Lv.v | exact bf | refine aD ?_ ?_))),(di rfl rfl rfl rfl lz),(cw rfl rfl rfl ag),(cw rfl rfl rfl ag),(cw rfl rfl rfl ag),(cw rfl rfl rfl ag),trivial⟩
                       ·kernel_rfl
                      ·simp only;omega
                     ·skip
                      skip
                      have e:cC M.cx ⟨o,n⟩ { s with pc:=s.pc+1,steps:=s.steps+1,cov:=s.cov++[s.pc] }={ s with pc:=s.pc+1,steps:=s.steps+1,cov:=s.cov++[s.pc],stack:=s.pop 3 }:=by rw [ho];show ({ s with pc:=_,steps:=_,cov:=_,stack:=s.pop 3,acts:=if 0≤s.top 2∧s.top 2 < M.nm 1∧co s.acts < 20 then _ else _ }:Ms)=_;rw [if_neg (fun hh=> by omega)]
                      rw [e] at hz1 hat hsz hss
                      refine aL ?_
                      refine aN (σ':=aA 330 [(4,_),(5,_),(8,_),(10,_),(11,_),(12,_),(13,_),(15,_)] [((5,0),_),((8,0),_),((10,0),_),((11,0),_),((20,0),_),((60,0),_),((61,0),_),((62,0),_)] [] []) kp ?_
                      refine an (ei rfl (aP rfl (ai (bk (r:=((s.stack.length - 3:Nat):Int)) _ _ rfl rfl ((be ab).trans ab)) ?_)))
                      refine ca (Le.cutR (62,0) (s.stack.length - 3) rfl (cY _ _)) ?_
                      refine ai (eW _ _ _ aa rfl rfl 0 (s.stack.length - 3) .dflt (.lit rfl rfl) ab ab rfl (show s.stack.length - 3 - 0=(s.pop 3).length by rw [bX];omega)) ?_
                      refine dY rfl (ax (⟨(k,{ s with pc:=s.pc+1,steps:=s.steps+1,cov:=s.cov++[s.pc],stack:=s.pop 3 }),?_,?_,?_⟩))
                      ·exact ⟨hz1,by simp only at hss ⊢;omega,hat,hsz,hf⟩
                      ·skip
                       refine Le.mkJ [] [] rfl ?_ ?_ trivial trivial ?_
                       ·exact ⟨(iS rfl),(iP rfl),(iP rfl),(iP rfl),(iP rfl),(bY ag),(cq rfl ag),trivial⟩
                       ·exact ⟨(ce rfl rfl rfl),(ce rfl rfl rfl),(ce rfl rfl rfl),(di rfl rfl rfl rfl lz),(cw rfl rfl rfl ag),(cw rfl rfl rfl ag),(cw rfl rfl rfl ag),(cw rfl rfl rfl ag),trivial⟩
                       ·kernel_rfl
                      ·simp only;omega
                    ·skip
                     skip
                     have e:cC M.cx ⟨o,n⟩ { s with pc:=s.pc+1,steps:=s.steps+1,cov:=s.cov++[s.pc] }={ s with pc:=s.pc+1,steps:=s.steps+1,cov:=s.cov++[s.pc],stack:=s.pop 3 }:=by rw [ho];show ({ s with pc:=_,steps:=_,cov:=_,stack:=s.pop 3,acts:=if 0≤s.top 2∧s.top 2 < M.nm 1∧co s.acts < 20 then _ else _ }:Ms)=_;rw [if_neg (fun hh=> by have:=hh.2.1;omega)]
                     rw [e] at hz1 hat hsz hss
                     refine aW rfl rfl ah ?_
                     refine aW rfl rfl ah ?_
                     refine aW rfl rfl ah ?_
                     refine aW rfl rfl ah ?_
                     refine ai (aG _ _ _ rfl (rfl:_=AV.v (.bool _))) (aj (aS rfl rfl (aL ?_)))
                     refine aN (σ':=aA 330 [(4,_),(5,_),(8,_),(10,_),(11,_),(12,_),(13,_),(15,_)] [((5,0),_),((8,0),_),((10,0),_),((11,0),_),((20,0),_),((60,0),_),((61,0),_),((62,0),_)] [] []) kp ?_
                     refine an (ei rfl (aP rfl (ai (bk (r:=((s.stack.length - 3:Nat):Int)) _ _ rfl rfl ((be ab).trans ab)) ?_)))
                     refine ca (Le.cutR (62,0) (s.stack.length - 3) rfl (cY _ _)) ?_
                     refine ai (eW _ _ _ aa rfl rfl 0 (s.stack.length - 3) .dflt (.lit rfl rfl) ab ab rfl (show s.stack.length - 3 - 0=(s.pop 3).length by rw [bX];omega)) ?_
                     refine dY rfl (ax (⟨(k,{ s with pc:=s.pc+1,steps:=s.steps+1,cov:=s.cov++[s.pc],stack:=s.pop 3 }),?_,?_,?_⟩))
                     ·exact ⟨hz1,by simp only at hss ⊢;omega,hat,hsz,hf⟩
                     ·skip
                      refine Le.mkJ [] [] rfl ?_ ?_ trivial trivial ?_
                      ·exact ⟨(iS rfl),(iP rfl),(iP rfl),(iP rfl),(iP rfl),(bY ag),(cq rfl ag),trivial⟩
                      ·exact ⟨(ce rfl rfl rfl),(ce rfl rfl rfl),(ce rfl rfl rfl),(di rfl rfl rfl rfl lz),(cw rfl rfl rfl ag),(cw rfl rfl rfl ag),(cw rfl rfl rfl ag),(cw rfl rfl rfl ag),trivial⟩
                      ·kernel_rfl
                     ·simp only;omega
                   ·skip
                    skip
                    have e:cC M.cx ⟨o,n⟩ { s with pc:=s.pc+1,steps:=s.steps+1,cov:=s.cov++[s.pc] }={ s with pc:=s.pc+1,steps:=s.steps+1,cov:=s.cov++[s.pc],stack:=s.pop 3 }:=by rw [ho];show ({ s with pc:=_,steps:=_,cov:=_,stack:=s.pop 3,acts:=if 0≤s.top 2∧s.top 2 < M.nm 1∧co s.acts < 20 then _ else _ }:Ms)=_;rw [if_neg (fun hh=> by have:=hh.1;omega)]
                    rw [e] at hz1 hat hsz hss
                    refine aW rfl rfl ah ?_
                    refine aW rfl rfl ah ?_
                    refine aW rfl rfl ah ?_
                    refine aW rfl rfl ah ?_
                    refine ai (aG _ _ _ rfl (rfl:_=AV.v (.bool _))) (cM rfl (aW rfl rfl ah ?_))
                    refine aW rfl rfl ah ?_
                    refine aW rfl rfl ah ?_
                    refine aW rfl rfl ah ?_
                    refine ai (aG _ _ _ rfl (rfl:_=AV.v (.bool _))) (aj (aS rfl rfl (aL ?_)))
                    refine aN (σ':=aA 330 [(4,_),(5,_),(8,_),(10,_),(11,_),(12,_),(13,_),(15,_)] [((5,0),_),((8,0),_),((10,0),_),((11,0),_),((20,0),_),((60,0),_),((61,0),_),((62,0),_)] [] []) kp ?_
                    refine an (ei rfl (aP rfl (ai (bk (r:=((s.stack.length - 3:Nat):Int)) _ _ rfl rfl ((be ab).trans ab)) ?_)))
                    refine ca (Le.cutR (62,0) (s.stack.length - 3) rfl (cY _ _)) ?_
                    refine ai (eW _ _ _ aa rfl rfl 0 (s.stack.length - 3) .dflt (.lit rfl rfl) ab ab rfl (show s.stack.length - 3 - 0=(s.pop 3).length by rw [bX];omega)) ?_
                    refine dY rfl (ax (⟨(k,{ s with pc:=s.pc+1,steps:=s.steps+1,cov:=s.cov++[s.pc],stack:=s.pop 3 }),?_,?_,?_⟩))
                    ·exact ⟨hz1,by simp only at hss ⊢;omega,hat,hsz,hf⟩
                    ·skip
                     refine Le.mkJ [] [] rfl ?_ ?_ trivial trivial ?_
                     ·exact ⟨(iS rfl),(iP rfl),(iP rfl),(iP rfl),(iP rfl),(bY ag),(cq rfl ag),trivial⟩
                     ·exact ⟨(ce rfl rfl rfl),(ce rfl rfl rfl),(ce rfl rfl rfl),(di rfl rfl rfl rfl lz),(cw rfl rfl rfl ag),(cw rfl rfl rfl ag),(cw rfl rfl rfl ag),(cw rfl rfl rfl ag),trivial⟩
                     ·kernel_rfl
                    ·simp only;omega
                  ·skip
                   refine aq ?_
                   refine aN (σ':=aA 330 [(4,_),(5,_),(8,_),(10,_),(11,_),(12,_),(13,_),(14,_),(15,_),(51,_)] [((5,0),_),((8,0),_),((10,0),_),((11,0),_),((20,0),_),((60,0),_),((61,0),_),((62,0),_),((14,0),_)] [] []) kp ?_
                   refine an (ai (br _ _ rfl rfl rfl) (ci rfl (aj (aO rfl (fun hc261=> ?_) (fun hc261=> ?_)))))
                   ·skip
                    have ho:o= .timer:=by cases o <;> simp [Opc.num] at hc261 ⊢
                    rw [ho] at g1 g2
                    have g2:0≤s.stack.length:=g2
                    have e:cC M.cx ⟨o,n⟩ { s with pc:=s.pc+1,steps:=s.steps+1,cov:=s.cov++[s.pc] }={ s with pc:=s.pc+1,steps:=s.steps+1,cov:=s.cov++[s.pc],acts:=s.acts++[{ k:=4,a:=n }] }:=by rw [ho];rfl
                    rw [e] at hz1 hat hsz hss
                    refine an (bz rfl rfl rfl (ai (aM _ aa rfl rfl (rfl:_=some (AV.ref _ _ _))) (bz rfl rfl rfl (cI rfl rfl rfl (ai (aB _ aa rfl (by exact (rfl:_=some [_,_,_,_,_]))) ?_)))))
                    refine ai (aU _ _ aa rfl ag (by (simp <;> rfl)) ah rfl) ?_
                    refine ai (cE (269,0) _ _ aa rfl rfl (dm _).symm (.sl rfl) ab rfl (gJ _ { k:=4,a:=n }) (show _+1=(s.acts++[({ k:=4,a:=n }:Ac)]).length by simp)) ?_
                    refine bz rfl rfl rfl (bO rfl rfl rfl rfl rfl rfl (ax (⟨(k,{ s with pc:=s.pc+1,steps:=s.steps+1,cov:=s.cov++[s.pc],acts:=s.acts++[{ k:=4,a:=n }] }),?_,?_,?_⟩)))
                    ·exact ⟨hz1,by simp only at hss ⊢;omega,hat,hsz,hf⟩
                    ·skip
                     refine Le.mkJ [((60,0),(269,0))] [] rfl ?_ ?_ trivial trivial ?_
                     ·exact ⟨(by repeat' (exact Lv.sl)),(cr (id:=(5,0)) rfl),(cr (id:=(8,0)) rfl),(cr (id:=(10,0)) rfl),(cr (id:=(11,0)) rfl),(bY ag),(cq rfl ag),trivial⟩
                     ·exact ⟨(di rfl rfl rfl rfl (by repeat' (first | exact Lv.v | exact Lv.sl | exact bf | refine aD ?_ ?_))),(di rfl rfl rfl rfl (by repeat' (first | exact Lv.v | exact bf | refine aD ?_ ?_))),(di rfl rfl rfl rfl (by repeat' (first | exact Lv.v | exact bf | refine aD ?_ ?_))),(di rfl rfl rfl rfl lz),(cw rfl rfl rfl ag),(cw rfl rfl rfl ag),(cw rfl rfl rfl ag),(cw rfl rfl rfl ag),trivial⟩
                     ·kernel_rfl
                    ·simp only;omega
                   ·skip
                    refine am (ai (br _ _ rfl rfl rfl) (ci rfl (aj (aO rfl (fun hc271=> ?_) (fun hc271=> ?_)))))
                    ·skip
                     have ho:o= .cancel:=by cases o <;> simp [Opc.num] at hc271 ⊢
                     rw [ho] at g1 g2
                     have g2:0≤s.stack.length:=g2
                     have e:cC M.cx ⟨o,n⟩ { s with pc:=s.pc+1,steps:=s.steps+1,cov:=s.cov++[s.pc] }={ s with pc:=s.pc+1,steps:=s.steps+1,cov:=s.cov++[s.pc],acts:=s.acts++[{ k:=5,a:=n }] }:=by rw [ho];rfl
                     rw [e] at hz1 hat hsz hss
                     refine an (bz rfl rfl rfl (ai (aM _ aa rfl rfl (rfl:_=some (AV.ref _ _ _))) (bz rfl rfl rfl (cI rfl rfl rfl (ai (aB _ aa rfl (by exact (rfl:_=some [_,_,_,_,_]))) ?_)))))
                     refine ai (aU _ _ aa rfl ag (by (simp <;> rfl)) ah rfl) ?_
                     refine ai (cE (279,0) _ _ aa rfl rfl (dm _).symm (.sl rfl) ab rfl (gJ _ { k:=5,a:=n }) (show _+1=(s.acts++[({ k:=5,a:=n }:Ac)]).length by simp)) ?_
                     refine bz rfl rfl rfl (bO rfl rfl rfl rfl rfl rfl (ax (⟨(k,{ s with pc:=s.pc+1,steps:=s.steps+1,cov:=s.cov++[s.pc],acts:=s.acts++[{ k:=5,a:=n }] }),?_,?_,?_⟩)))
                     ·exact ⟨hz1,by simp only at hss ⊢;omega,hat,hsz,hf⟩
                     ·skip
                      refine Le.mkJ [((60,0),(279,0))] [] rfl ?_ ?_ trivial trivial ?_
                      ·exact ⟨(by repeat' (exact Lv.sl)),(cr (id:=(5,0)) rfl),(cr (id:=(8,0)) rfl),(cr (id:=(10,0)) rfl),(cr (id:=(11,0)) rfl),(bY ag),(cq rfl ag),trivial⟩
                      ·exact ⟨(di rfl rfl rfl rfl (by repeat' (first | exact Lv.v | exact Lv.sl | exact bf | refine aD ?_ ?_))),(di rfl rfl rfl rfl (by repeat' (first | exact Lv.v | exact bf | refine aD ?_ ?_))),(di rfl rfl rfl rfl (by repeat' (first | exact Lv.v | exact bf | refine aD ?_ ?_))),(di rfl rfl rfl rfl lz),(cw rfl rfl rfl ag),(cw rfl rfl rfl ag),(cw rfl rfl rfl ag),(cw rfl rfl rfl ag),trivial⟩
                      ·kernel_rfl
                     ·simp only;omega
                    ·skip
                     refine am (ai (br _ _ rfl rfl rfl) (ci rfl (aj (aO rfl (fun hc281=> ?_) (fun hc281=> ?_)))))
                     ·skip
                      have ho:o= .sync:=by cases o <;> simp [Opc.num] at hc281 ⊢
                      rw [ho] at g1 g2
                      have g2:0≤s.stack.length:=g2
                      have e:cC M.cx ⟨o,n⟩ { s with pc:=s.pc+1,steps:=s.steps+1,cov:=s.cov++[s.pc] }={ s with pc:=s.pc+1,steps:=s.steps+1,cov:=s.cov++[s.pc],acts:=s.acts++[{ k:=2 }] }:=by rw [ho];rfl
                      rw [e] at hz1 hat hsz hss
                      refine an (bz rfl rfl rfl (ai (aM _ aa rfl rfl (rfl:_=some (AV.ref _ _ _))) (ai (aB _ aa rfl (by exact (rfl:_=some [_,_,_,_,_]))) ?_)))
                      refine ai (aU _ _ aa rfl ag (by (simp <;> rfl)) ah rfl) ?_
                      refine ai (cE (287,0) _ _ aa rfl rfl (dm _).symm (.sl rfl) ab rfl (gJ _ { k:=2 }) (show _+1=(s.acts++[({ k:=2 }:Ac)]).length by simp)) ?_
                      refine bz rfl rfl rfl (bO rfl rfl rfl rfl rfl rfl (ax (⟨(k,{ s with pc:=s.pc+1,steps:=s.steps+1,cov:=s.cov++[s.pc],acts:=s.acts++[{ k:=2 }] }),?_,?_,?_⟩)))
                      ·exact ⟨hz1,by simp only at hss ⊢;omega,hat,hsz,hf⟩
                      ·skip
                       refine Le.mkJ [((60,0),(287,0))] [] rfl ?_ ?_ trivial trivial ?_
                       ·exact ⟨(by repeat' (exact Lv.sl)),(cr (id:=(5,0)) rfl),(cr (id:=(8,0)) rfl),(cr (id:=(10,0)) rfl),(cr (id:=(11,0)) rfl),(bY ag),(cq rfl ag),trivial⟩
                       ·exact ⟨(di rfl rfl rfl rfl (by repeat' (first | exact Lv.v | exact Lv.sl | exact bf | refine aD ?_ ?_))),(di rfl rfl rfl rfl (by repeat' (first | exact Lv.v | exact bf | refine aD ?_ ?_))),(di rfl rfl rfl rfl (by repeat' (first | exact Lv.v | exact bf | refine aD ?_ ?_))),(di rfl rfl rfl rfl lz),(cw rfl rfl rfl ag),(cw rfl rfl rfl ag),(cw rfl rfl rfl ag),(cw rfl rfl rfl ag),trivial⟩
                       ·kernel_rfl
                      ·simp only;omega
                     ·skip
                      refine am (ai (br _ _ rfl rfl rfl) (ci rfl (aj (aO rfl (fun hc289=> ?_) (fun hc289=> ?_)))))
                      ·skip
                       have ho:o= .reply:=by cases o <;> simp [Opc.num] at hc289 ⊢
                       rw [ho] at g1 g2
                       have g2:2≤s.stack.length:=g2
                       have e:cC M.cx ⟨o,n⟩ { s with pc:=s.pc+1,steps:=s.steps+1,cov:=s.cov++[s.pc] }={ s with pc:=s.pc+1,steps:=s.steps+1,cov:=s.cov++[s.pc],stack:=s.pop 2,acts:=s.acts++[{ k:=6,a:=s.top 1,b:=s.top 0 }] }:=by rw [ho];rfl
                       rw [e] at hz1 hat hsz hss
                       refine aq ?_
                       refine aN (σ':=aA 330 [(4,_),(5,_),(8,_),(10,_),(11,_),(12,_),(13,_),(15,_)] [((5,0),_),((8,0),_),((10,0),_),((11,0),_),((20,0),_),((60,0),_),((61,0),_),((62,0),_)] [] []) kp ?_
                       refine bu 14 [291,292,293,294,295,296,297,298,299,300,301,302,303,304] [] ae ae rfl (aK rfl) (rfl:_=[_,_,_,_,_,_,_,_,_,_,_,_,_,_]) (rfl:_=[_,_,_]) ?_
                       refine ap (_,[]) (fun τ=> aI _ aa rfl rfl rfl) ?_
                       refine el rfl ?_
                       refine ap (_,[]) (fun τ=> aM _ aa rfl rfl (rfl:_=some (AV.ref _ _ _))) ?_
                       refine eo rfl ?_
                       refine ap (_,[]) (fun τ=> aC _ (rfl:_=AV.ref _ _ _)) ?_
                       refine ep rfl ?_
                       refine ap (_,[]) (fun τ=> aC _ (rfl:_=AV.v (.int _ _))) ?_
                       refine ew rfl ?_
                       refine ap (_,[]) (fun τ=> bk (r:=((s.stack.length - 2:Nat):Int)) _ _ rfl rfl ((be ab).trans ab)) ?_
                       refine eF rfl ?_
                       refine ap (_,[]) (fun τ=> bZ _ _ aa rfl rfl rfl _ rfl ab (by exact (Nat.zero_add _).trans (Nat.mul_one _))) ?_
                       refine eV rfl ?_
                       refine ap (_,[]) (fun τ=> cR _ aa rfl rfl (by exact cV s 1 ab) rfl) ?_
                       refine fF rfl ?_
                       refine ap (_,[]) (fun τ=> aC _ (rfl:_=AV.ref _ _ _)) ?_
                       refine iu rfl ?_
                       refine ap (_,[]) (fun τ=> aC _ (rfl:_=AV.v (.int _ _))) ?_
                       refine ig rfl ?_
                       refine ap (_,[]) (fun τ=> bk (r:=((s.stack.length - 1:Nat):Int)) _ _ rfl rfl ((be ab).trans ab)) ?_
                       refine eO rfl ?_
                       refine ap (_,[]) (fun τ=> bZ _ _ aa rfl rfl rfl _ rfl ab (by exact (Nat.zero_add _).trans (Nat.mul_one _))) ?_
                       refine fc rfl ?_
                       refine ap (_,[]) (fun τ=> cR _ aa rfl rfl (by exact cV s 0 ab) rfl) ?_
                       refine gU rfl ?_
                       refine ap (_,[]) (fun τ=> aB _ aa rfl (by exact (rfl:_=some [_,_,_,_,_]))) ?_
                       refine gY rfl ?_
                       refine ap (_,[]) (fun τ=> aU _ _ aa rfl ag (by (simp <;> rfl)) ah rfl) ?_
                       refine jm rfl (bg ⟨rfl,?_⟩)
                       refine ai (cE (305,0) _ _ aa rfl rfl (dm _).symm (.sl rfl) ab rfl (gJ _ { k:=6,a:=s.top 1,b:=s.top 0 }) (show _+1=(s.acts++[({ k:=6,a:=s.top 1,b:=s.top 0 }:Ac)]).length by simp)) ?_
                       refine bz rfl rfl rfl (bO rfl rfl rfl rfl rfl rfl (aj ?_))
                       refine aN (σ':=aA 330 [(4,_),(5,_),(8,_),(10,_),(11,_),(12,_),(13,_),(15,_)] [((5,0),_),((8,0),_),((10,0),_),((11,0),_),((20,0),_),((61,0),_),((62,0),_),((305,0),_)] [] []) kp ?_
                       refine an (ei rfl (aP rfl (ai (bk (r:=((s.stack.length - 2:Nat):Int)) _ _ rfl rfl ((be ab).trans ab)) ?_)))
                       refine ca (Le.cutR (62,0) (s.stack.length - 2) rfl (cY _ _)) ?_
                       refine ai (eW _ _ _ aa rfl rfl 0 (s.stack.length - 2) .dflt (.lit rfl rfl) ab ab rfl (show s.stack.length - 2 - 0=(s.pop 2).length by rw [bX];omega)) ?_
                       refine dY rfl (ax (⟨(k,{ s with pc:=s.pc+1,steps:=s.steps+1,cov:=s.cov++[s.pc],stack:=s.pop 2,acts:=s.acts++[{ k:=6,a:=s.top 1,b:=s.top 0 }] }),?_,?_,?_⟩))
                       ·exact ⟨hz1,by simp only at hss ⊢;omega,hat,hsz,hf⟩
                       ·skip
                        refine Le.mkJ [((60,0),(305,0))] [] rfl ?_ ?_ trivial trivial ?_
                        ·exact ⟨(by repeat' (exact Lv.sl)),(cr (id:=(5,0)) rfl),(cr (id:=(8,0)) rfl),(cr (id:=(10,0)) rfl),(cr (id:=(11,0)) rfl),(bY ag),(cq rfl ag),trivial⟩
                        ·exact ⟨(di rfl rfl rfl rfl (by repeat' (first | exact Lv.v | exact Lv.sl | exact bf | refine aD ?_ ?_))),(di rfl rfl rfl rfl (by repeat' (first | exact Lv.v | exact bf | refine aD ?_ ?_))),(di rfl rfl rfl rfl (by repeat' (first | exact Lv.v | exact bf | refine aD ?_ ?_))),(di rfl rfl rfl rfl lz),(cw rfl rfl rfl ag),(cw rfl rfl rfl ag),(cw rfl rfl rfl ag),(cw rfl rfl rfl ag),trivial⟩
                        ·kernel_rfl
                       ·simp only;omega
                      ·skip
                       refine am (ai (br _ _ rfl rfl rfl) (ci rfl (aj (aO rfl (fun hc311=> ?_) (fun hc311=> ?_)))))
                       ·skip
                        have ho:o= .fail:=by cases o <;> simp [Opc.num] at hc311 ⊢
                        rw [ho] at g1 g2
                        have g2:1≤s.stack.length:=g2
                        have e:cC M.cx ⟨o,n⟩ { s with pc:=s.pc+1,steps:=s.steps+1,cov:=s.cov++[s.pc] }={ s with pc:=s.pc+1,steps:=s.steps+1,cov:=s.cov++[s.pc],stack:=s.pop 1,acts:=s.acts++[{ k:=7,a:=s.top 0 }] }:=by rw [ho];rfl
                        rw [e] at hz1 hat hsz hss
                        refine aq ?_
                        refine aN (σ':=aA 330 [(4,_),(5,_),(8,_),(10,_),(11,_),(12,_),(13,_),(15,_)] [((5,0),_),((8,0),_),((10,0),_),((11,0),_),((20,0),_),((60,0),_),((61,0),_),((62,0),_)] [] []) kp ?_
                        refine bu 9 [313,314,315,316,317,318,319,320,321] [] ae ae rfl (aK rfl) (rfl:_=[_,_,_,_,_,_,_,_,_]) (rfl:_=[_,_,_]) ?_
                        refine ap (_,[]) (fun τ=> aI _ aa rfl rfl rfl) ?_
                        refine el rfl ?_
                        refine ap (_,[]) (fun τ=> aM _ aa rfl rfl (rfl:_=some (AV.ref _ _ _))) ?_
                        refine eo rfl ?_
                        refine ap (_,[]) (fun τ=> aC _ (rfl:_=AV.ref _ _ _)) ?_
                        refine ep rfl ?_
                        refine ap (_,[]) (fun τ=> aC _ (rfl:_=AV.v (.int _ _))) ?_
                        refine ew rfl ?_
                        refine ap (_,[]) (fun τ=> bk (r:=((s.stack.length - 1:Nat):Int)) _ _ rfl rfl ((be ab).trans ab)) ?_
                        refine eF rfl ?_
                        refine ap (_,[]) (fun τ=> bZ _ _ aa rfl rfl rfl _ rfl ab (by exact (Nat.zero_add _).trans (Nat.mul_one _))) ?_
                        refine eV rfl ?_
                        refine ap (_,[]) (fun τ=> cR _ aa rfl rfl (by exact cV s 0 ab) rfl) ?_
                        refine fF rfl ?_
                        refine ap (_,[]) (fun τ=> aB _ aa rfl (by exact (rfl:_=some [_,_,_,_,_]))) ?_
                        refine iu rfl ?_
                        refine ap (_,[]) (fun τ=> aU _ _ aa rfl ag (by (simp <;> rfl)) ah rfl) ?_
                        refine ig rfl (bg ⟨rfl,?_⟩)
                        refine ai (cE (322,0) _ _ aa rfl rfl (dm _).symm (.sl rfl) ab rfl (gJ _ { k:=7,a:=s.top 0 }) (show _+1=(s.acts++[({ k:=7,a:=s.top 0 }:Ac)]).length by simp)) ?_
                        refine bz rfl rfl rfl (bO rfl rfl rfl rfl rfl rfl (aj (an (ei rfl (aP rfl (ai (bk (r:=((s.stack.length - 1:Nat):Int)) _ _ rfl rfl ((be ab).trans ab)) ?_))))))
                        refine ca (Le.cutR (62,0) (s.stack.length - 1) rfl (cY _ _)) ?_
                        refine ai (eW _ _ _ aa rfl rfl 0 (s.stack.length - 1) .dflt (.lit rfl rfl) ab ab rfl (show s.stack.length - 1 - 0=(s.pop 1).length by rw [bX];omega)) ?_
                        refine dY rfl (ax (⟨(k,{ s with pc:=s.pc+1,steps:=s.steps+1,cov:=s.cov++[s.pc],stack:=s.pop 1,acts:=s.acts++[{ k:=7,a:=s.top 0 }] }),?_,?_,?_⟩))
                        ·exact ⟨hz1,by simp only at hss ⊢;omega,hat,hsz,hf⟩
                        ·skip
                         refine Le.mkJ [((60,0),(322,0))] [] rfl ?_ ?_ trivial trivial ?_
                         ·exact ⟨(by repeat' (exact Lv.sl)),(cr (id:=(5,0)) rfl),(cr (id:=(8,0)) rfl),(cr (id:=(10,0)) rfl),(cr (id:=(11,0)) rfl),(bY ag),(cq rfl ag),trivial⟩
                         ·exact ⟨(di rfl rfl rfl rfl (by repeat' (first | exact Lv.v | exact Lv.sl | exact bf | refine aD ?_ ?_))),(di rfl rfl rfl rfl (by repeat' (first | exact Lv.v | exact bf | refine aD ?_ ?_))),(di rfl rfl rfl rfl (by repeat' (first | exact Lv.v | exact bf | refine aD ?_ ?_))),(di rfl rfl rfl rfl lz),(cw rfl rfl rfl ag),(cw rfl rfl rfl ag),(cw rfl rfl rfl ag),(cw rfl rfl rfl ag),trivial⟩
                         ·kernel_rfl
                        ·simp only;omega
                       ·skip
                        have ho:o= .stop:=by cases o <;> first | rfl | (exfalso;simp_all [Opc.num])
                        have hRs:R={ s with pc:=s.pc+1,steps:=s.steps+1,cov:=s.cov++[s.pc],fin:=true }:=by rw [hz1,ho];exact ue rfl k
                        refine am (ai (aR _ aa rfl rfl rfl rfl) (bO rfl rfl rfl rfl rfl rfl (aj (aE ?_))))
                        rw [hRs]
                        exact aX (.inr rfl) rfl (.cellA aa rfl rfl rfl) (Le.out [] [(20,0),(60,0),(61,0)] (.agg rfl (aD (fY rfl rfl (by simp) rfl) (aD (fY rfl rfl (dm _).symm rfl) (aD .v (aD .v (aD .sl (aD (fY rfl rfl (by simp) rfl) bf))))))) rfl rfl rfl tr trivial)
 ·skip
  have hk0:k=0:=by omega
  have hRs:R=s:=by rw [hz1,hk0];rfl
  refine bK (id (hK7 _ ?_))
  clear hK7;try clear K7
  refine am (bz rfl rfl rfl (bO rfl rfl rfl rfl rfl rfl (aj (am (ai (aR _ aa rfl rfl rfl rfl) (bO rfl rfl rfl rfl rfl rfl (aj (aE ?_))))))))
  rw [hRs,hf]
  exact aX (.inr rfl) rfl (.cellA aa rfl rfl rfl) (Le.out [] [(20,0),(60,0),(61,0)] (.agg rfl (aD (fY rfl rfl (by simp) rfl) (aD (fY rfl rfl (dm _).symm rfl) (aD .v (aD .v (aD .sl (aD (fY rfl rfl (by simp) rfl) bf))))))) rfl rfl rfl tr trivial)
end Go.Proofs.YtmjnackchaahbaaGreat
