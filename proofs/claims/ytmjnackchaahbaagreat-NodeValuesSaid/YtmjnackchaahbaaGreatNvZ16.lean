/- part 16 -/
import Derived.Test.YtmjnackchaahbaaGreatNvZ15
set_option linter.unusedSimpArgs false
set_option linter.unusedVariables false
set_option maxHeartbeats 2000000
namespace Go.Proofs.YtmjnackchaahbaaGreat
open Go.RowKit

theorem JJ (w:World) (a b:Int):(Op.equal 126 (.agg #[.int .i64 a, .int .i64 b]) (.agg #[.int .i64 a, .int .i64 b])).run Tryz.prog w= .ok true w:=by
 have h:=jh w #[.int .i64 a, .int .i64 b]
 have e:=tB 9998 w
 show (Op.equalIn (9999+1) _ _ _).run Tryz.prog w=_
 rw [Op.equalIn]
 simp only [Sem.run_bind,run_underlying Tryz.underlying126,Result.andThen_ok]
 simp [Op.eqFields,h 0 _ rfl,h 1 _ rfl,e]
theorem Ks (n:Nat) (w:World) (a b c:Int):(Op.equalIn (n+2) 91 (.agg #[.int .i64 a, .int .i64 b, .int .i64 c]) (.agg #[.int .i64 a, .int .i64 b, .int .i64 c])).run Tryz.prog w= .ok true w:=by
 have:=vj n w a b c a b c
 rwa [decide_eq_true ⟨rfl,rfl,rfl⟩] at this
section
variable {σ:St} {dd:Option Tmp} {ty:TypeId}
theorem Im {T t':TypeId} (x y:Operand) (us:List Value) (hx:σ.eval x= .agg (us.map AV.v)) (hy:σ.eval y= .agg (us.map AV.v)) (hg:Tryz.prog.eqGuardType Tryz.prog.depth T=false) (he: ∀ w,(Op.equal T (.agg us.toArray) (.agg us.toArray)).run Tryz.prog w= .ok true w):Stp Tryz.prog dd (.binOp .neq T x y t') ty σ (σ.put dd (.v (.bool false))):=by
 refine tI us us hx hy fun o ρ w ho hx hy=> ?_
 have:=he w
 simp [execOp,ho,hx,hy,eqGuard,binOp,hg,this,Sem.run]
end
theorem uO (d:Dk) (h1:d.cells.length≤1000000) (h2:d.pend.length≤1000000):Spec Tryz.prog 76 (aI [mf d,mf d] []) (aA (.v (.bool true)) []):=by
 have hs:=xn d.cells ab
 refine Spec.ofN Tryz.func76 rfl Tryz.ntmps76 rfl ?_
 refine go 11 ?_
 refine aj (ap aa al (hs) rfl rfl) ?_
 refine go 8 ?_
 refine aZ rfl rfl (cV (r:=false) _ _ rfl rfl (bne_self_eq_false _)) ?_
 refine go 4 ?_
 refine aF fun K4 hK4=> ?_
 refine aE ?_
 refine aB (σ':=an 39 [(2,_),(3,_)] [((2,0),_),((3,0),_)] [] []) kp ?_
 refine aD (cp rfl (am (aH ?_)))
 refine aS (α:=Nat) (fun k=> k≤d.pend.length) 39 [(2,_),(3,_)] [((2,0),_),((3,0),_)] (fun k=> [(5, .v (.int .i64 (k:Int)))]) (fun k=> []) [] [] (fun k=> d.pend.length - k) 0 ?_ (kj [0,0] [] []) ?_
 ·omega
 intro k hk
 refine aF fun K6 hK6=> ?_
 refine go 7 ?_
 refine ax rfl (fun hc25=> ?_) (fun hc25=> ?_)
 ·have hia:=kV d.pend k ab
  generalize d.pend.getD k (0,0)=w at hia
  refine aR (hK6 _ ?_)
  refine aE (aH (aE ?_))
  refine aB (σ':=an 39 [(2,_),(3,_),(5,_)] [((2,0),_),((3,0),_)] [] []) kp ?_
  refine dA 11 [] ?_
  refine go 6 ?_
  refine aC (_,[]) (fun τ=> aQ _ _ aa rfl rfl _ rfl ab (by (simp only [aq,aJ,aM,aq,bC,aJ,cX,xB,dQ];omega)) ag) ?_
  refine go 1 ?_
  refine aC (_,[]) (fun τ=> bs _ aa rfl (by exact hia) rfl) ?_
  refine go 7 ?_
  refine aC (_,[]) (fun τ=> aQ _ _ aa rfl rfl _ rfl ab (by (simp only [aq,aJ,aM,aq,bC,aJ,cX,xB,dQ];omega)) ag) ?_
  refine go 1 ?_
  refine aC (_,[]) (fun τ=> bs _ aa rfl (by exact hia) rfl) ?_
  refine go 1 ?_
  refine aC (_,[]) (fun τ=> Im _ _ [.int .i64 w.1, .int .i64 w.2] rfl rfl ae (fun W=> JJ W w.1 w.2)) ?_
  refine go 9 ?_
  refine ay (⟨k+1,?_,?_,?_⟩)
  ·omega
  ·exact kj [0,0] [] []
  omega
 refine aW (id (hK4 _ ?_))
 exact aG (gn rfl (am (au (eb rfl rfl))))
theorem xb (s:Ns) (hs:fJ s) (ho:eX s.dk):Spec Tryz.prog 48 (aI [ii s] []) (aA (.sl (s.dk.view++s.vol).length (ba (s.dk.view++s.vol))) []):=by
 have hc:=hs.c
 have hp:=hs.p
 have hv:=hs.v
 have hw:=mz s.dk ab ab ho
 have hvl:s.dk.view.length=s.dk.cells.length:=dq _ _
 rw [← hvl] at hw
 refine Spec.ofN Tryz.func48 rfl Tryz.ntmps48 rfl ?_
 refine aG (aj (dX (1,0) _ rfl rfl) (aj (aX _ ea) (am (aE (lK 6 [3,4,5,6,7,8] [(5,0),(5,0),(8,0)] ae ae rfl (rfl:_=[_,_,_,_,_,_]) (rfl:_=[_]) ?_)))))
 refine bn (_,[]) (fun τ=> dT _ aa rfl rfl rfl) ?_
 refine bo (rfl:_=[_]) ?_
 refine bn (_,[]) (fun τ=> gd _ aa rfl rfl rfl rfl) ?_
 refine bo (rfl:_=[_,_]) ?_
 refine bn (_,[((5,0),_)]) (fun τ=> (bu aa [((0,8),(5,0))] ar (hw.toI) trivial tr tr rfl rfl ae ae)) ?_
 refine bo (rfl:_=[_,_,_]) ?_
 refine bn (_,[]) (fun τ=> dT _ aa rfl rfl rfl) ?_
 refine bo (rfl:_=[_,_,_,_]) ?_
 refine bn (_,[]) (fun τ=> bK _ aa rfl rfl xm) ?_
 refine bo (rfl:_=[_,_,_,_,_]) ?_
 refine bn (_,[((5,0), .gone),((8,0), .gone)]) (fun τ=> Ay (8,0) _ _ aa rfl rfl (by rw [aq,Nat.mul_one]) (.sl (by rw [aq,Nat.mul_one])) ab rfl rfl rfl (lM _ _) List.length_append.symm) ?_
 refine bo (rfl:_=[_,_,_,_,_,_]) ?_
 refine jM ⟨⟨rfl,by kernel_rfl,by kernel_rfl⟩,?_⟩
 exact Ee rfl (am (au (qW rfl rfl)))
theorem yx (l:List Int) (k:Int) (b:Bool) (i:Nat):(((List.range (i+1)).map fun (i:Nat)=> (i:Int)).filter fun i=> if i=k then b else decide (i∈l))=(((List.range i).map fun (i:Nat)=> (i:Int)).filter fun i=> if i=k then b else decide (i∈l))++(if (if (i:Int)=k then b else decide ((i:Int)∈l))=true then [(i:Int)] else []):=by
 rw [List.range_succ,List.map_append,List.filter_append]
 congr 1
 simp only [List.map_cons,List.map_nil,List.filter_cons,List.filter_nil]
theorem oZ (l:List Int) (k:Int) (b:Bool) (hl:l.length≤1000000):Spec Tryz.prog 182 (aI [.sl l.length (ba l), .v (.int .i64 k), .v (.bool b)] []) (aA (.sl (rX l k b).length (ba (rX l k b))) []):=by
 have hs:=yx l k b
 have h0:(((List.range 0).map fun (i:Nat)=> (i:Int)).filter fun i=> if i=k then b else decide (i∈l))=[]:=rfl
 have h8:(((List.range 8).map fun (i:Nat)=> (i:Int)).filter fun i=> if i=k then b else decide (i∈l))=rX l k b:=rfl
 have hle: ∀ i,(((List.range i).map fun (i:Nat)=> (i:Int)).filter fun i=> if i=k then b else decide (i∈l)).length≤i:=fun i=> by
  have:=List.length_filter_le (fun i=> if i=k then b else decide (i∈l)) ((List.range i).map fun (i:Nat)=> (i:Int))
  simpa using this
 obtain ⟨F,hF⟩: ∃ F:Nat→List Int,F=fun n=> (((List.range n).map fun (i:Nat)=> (i:Int)).filter fun i=> if i=k then b else decide (i∈l)):=⟨_,rfl⟩
 have hs: ∀ i:Nat,F (i+1)=F i++(if (if (i:Int)=k then b else decide ((i:Int)∈l))=true then [(i:Int)] else []):=fun i=> by rw [hF];exact hs i
 have h0:F 0=[]:=by rw [hF];exact h0
 have h8:F 8=rX l k b:=by rw [hF];exact h8
 have hle: ∀ i,(F i).length≤i:=fun i=> by rw [hF];exact hle i
 clear hF
 refine Spec.ofN Tryz.func182 rfl Tryz.ntmps182 rfl ?_
 refine aG (aj (aX _ ea) (am (aG (aj (aX _ ea) (am (aF fun K3 hK3=> ?_))))))
 refine aG (cp rfl (am (aH ?_)))
 refine aB (Le.nilS 7 (60,0) 3 1 rfl rfl) ?_
 refine aS (α:=Nat) (fun i=> i≤8) 27 [(0,_),(1,_),(2,_)] [] (fun i=> [(7, .ref (60,0) 0 (F i).length),(8, .v (.int .i64 (i:Int)))]) (fun i=> [((60,0), .row 3 1 (ba (F i)))]) [] [] (fun i=> 8 - i) 0 ?_ (by
  refine Le.mkJ [] [] rfl ?_ ?_ trivial trivial ?_
  ·exact ⟨(iS rfl),(iV rfl),(iV rfl),(ca rfl (by ((rw [h0];rfl)))),(aN ag),trivial⟩
  ·exact ⟨(cD rfl rfl rfl (by ((rw [h0];rfl)))),trivial⟩
  kernel_rfl) ?_
 ·omega
 intro i hi
 refine aF fun K5 hK5=> ?_
 refine go 4 ?_
 refine ax rfl (fun hc11=> ?_) (fun hc11=> ?_)
 ·have hh:=rE l (i:Int) ab
  have q1:=hs i
  have q0:=hle i
  refine aR (hK5 _ ?_)
  refine aE (aH (aG (gT rfl (bV rfl (aj (ap aa al (hh) rfl rfl) ?_)))))
  refine gn rfl (am ?_)
  refine gP (α:=Bool) (fun c=> (if (i:Int)=k then b else decide ((i:Int)∈l))=c) 27 [(0,_),(1,_),(2,_),(7,_),(8,_)] [((60,0),_)] (fun c=> [(9, .v (.bool c))]) (fun c=> []) [] []
   (by exact ⟨(iS rfl),(iV rfl),(iV rfl),(iR rfl),(iV rfl),trivial⟩)
   (by exact ⟨(bN rfl rfl rfl),trivial⟩) ?_ ?_
  ·refine aG (bV rfl (bV rfl (aj (bb (r:=decide ((i:Int)=k)) _ _ rfl rfl (by rw [Bool.eq_iff_iff];simp)) ?_)))
   refine am (ax rfl (fun hc19=> ?_) (fun hc19=> ?_))
   ·refine aD (FV rfl (gn rfl (ay (⟨b,?_,?_⟩))))
    ·exact if_pos hc19
    exact kj [0] [] []
   refine aR (⟨decide ((i:Int)∈l),?_,?_⟩)
   ·exact if_neg hc19
   exact kj [0] [] []
  intro c hc
  rw [hc] at q1
  refine aG (FV rfl (am (ax rfl (fun hc21=> ?_) (fun hc21=> ?_))))
  ·rw [if_pos hc21] at q1
   have q2:ba (F i)++[.v (.int .i64 (i:Int))]=ba (F (i+1)):=by rw [q1];simp [ba]
   have q3:(F (i+1)).length=(F i).length+1:=by rw [q1];simp
   refine go 4 ?_
   refine aj (bG (25,0) _ _ aa rfl rfl (by rw [aq,Nat.mul_one]) (.sl rfl) ab rfl q2 q3.symm) ?_
   refine go 6 ?_
   refine ay (⟨i+1,?_,?_,?_⟩)
   ·omega
   ·refine Le.mkJ [((60,0),(25,0))] [] rfl ?_ ?_ trivial trivial ?_
    ·exact ⟨(by repeat' (exact Lv.sl)),(by repeat' (exact Lv.v)),(by repeat' (exact Lv.v)),(ca rfl ag),(aN ag),trivial⟩
    ·exact ⟨(cD rfl rfl rfl ag),trivial⟩
    kernel_rfl
   omega
  rw [if_neg (by rw [hc21];exact Bool.false_ne_true),List.append_nil] at q1
  refine go 5 ?_
  refine ay (⟨i+1,?_,?_,?_⟩)
  ·omega
  ·refine Le.mkJ [] [] rfl ?_ ?_ trivial trivial ?_
   ·exact ⟨(iS rfl),(iV rfl),(iV rfl),(ca rfl (by (rw [q1]))),(aN ag),trivial⟩
   ·exact ⟨(cD rfl rfl rfl (by (rw [q1]))),trivial⟩
   kernel_rfl
  omega
 obtain rfl:i=8:=by omega
 refine aW (id (hK3 _ ?_))
 exact aG (ij rfl (dZ rfl (am (au (cq (.inr rfl) rfl (.tmp mP) (Le.out [] [(60,0)] (Id rfl rfl (by rw [h8]) (by rw [h8]) rfl) rfl rfl rfl tr trivial))))))
end Go.Proofs.YtmjnackchaahbaaGreat

set_option maxHeartbeats 2000000
namespace Go.Proofs.YtmjnackchaahbaaGreat
open Go.RowKit

theorem Fx (l:List An) (k:Nat) (h:k < l.length) (j:Nat) (hj:j < 6):(nD l)[k*6+j]? =(Ew (mQ l k))[j]? :=by
 rw [sO l k h];exact jA Ew 6 (fun _=> rfl) l k j h hj
theorem Di (l:List An) (k:Nat) (h:k < l.length):PV.ups (((nD l).drop (k*6+0+0)).take 3)=[.v (.int .i64 (mQ l k).a), .v (.int .i64 (mQ l k).b), .v (.int .i64 (mQ l k).c)]:=by
 have e:((nD l).drop (k*6+0+0)).take 3=(((nD l).drop (k*6)).take 6).take 3:=by rw [List.take_take];rfl
 rw [e,yd l k h];rfl
theorem xr (a b c k:Int) (l:List Int) (j:Nat) (h:j < l.length):(gM a b c k l).getD j ⟨0,0,0,0,0,0⟩=⟨a,b,c,k,(j:Int),l.getD j 0⟩:=by
 unfold gM
 rw [List.getD_eq_getElem?_getD,List.getElem?_map,List.getElem?_range h];rfl
theorem Gb (a b c tick:Int) (draws keeps:List Int) (j:Nat) (h:j < (eD a b c tick draws keeps).length):(mQ (eD a b c tick draws keeps) j).a=a∧(mQ (eD a b c tick draws keeps) j).b=b∧(mQ (eD a b c tick draws keeps) j).c=c∧
  ((1≤j∧j≤draws.length)→(mQ (eD a b c tick draws keeps) j).k=1∧(mQ (eD a b c tick draws keeps) j).i=(j:Int) - 1)∧(¬ (1≤j∧j≤draws.length)→(mQ (eD a b c tick draws keeps) j).k≠1):=by
 have hl:=jG a b c tick draws keeps
 have h1:=ic a b c 1 draws
 have h3:=ic a b c 3 keeps
 rcases Nat.eq_zero_or_pos j with rfl | h0
 ·have e:mQ (eD a b c tick draws keeps) 0=⟨a,b,c,2,0,tick⟩:=rfl
  rw [e]
  exact ⟨rfl,rfl,rfl,fun h=> absurd h.1 ab,fun _=> (by show (2:Int)≠1;decide)⟩
 by_cases hj:j≤draws.length
 ·have e:mQ (eD a b c tick draws keeps) j=⟨a,b,c,1,((j - 1:Nat):Int),draws.getD (j - 1) 0⟩:=by
   rw [← xr a b c 1 draws (j - 1) ab]
   show ([(⟨a,b,c,2,0,tick⟩:An)]++gM a b c 1 draws++gM a b c 3 keeps).getD j _=_
   rw [List.getD_eq_getElem?_getD,List.getD_eq_getElem?_getD,List.getElem?_append_left (by rw [List.length_append,h1];simp;omega),List.getElem?_append_right (by simp;omega)]
   rfl
  rw [e]
  exact ⟨rfl,rfl,rfl,fun _=> ⟨rfl,by simp only;omega⟩,fun h=> absurd (And.intro ab hj) h⟩
 have e:mQ (eD a b c tick draws keeps) j=⟨a,b,c,3,((j - 1 - draws.length:Nat):Int),keeps.getD (j - 1 - draws.length) 0⟩:=by
  rw [← xr a b c 3 keeps (j - 1 - draws.length) ab]
  show ([(⟨a,b,c,2,0,tick⟩:An)]++gM a b c 1 draws++gM a b c 3 keeps).getD j _=_
  have hl2:([(⟨a,b,c,2,0,tick⟩:An)]++gM a b c 1 draws).length=1+draws.length:=by rw [List.length_append,h1];rfl
  rw [List.getD_eq_getElem?_getD,List.getD_eq_getElem?_getD,List.getElem?_append_right ab,hl2,show j - (1+draws.length)=j - 1 - draws.length by omega]
 rw [e]
 exact ⟨rfl,rfl,rfl,fun h=> absurd h.2 hj,fun _=> (by show (3:Int)≠1;decide)⟩
section
variable {σ:St} {dd:Option Tmp} {ty:TypeId}
theorem Co {T t':TypeId} (x y:Operand) (us:List Value) (hx:σ.eval x= .agg (us.map AV.v)) (hy:σ.eval y= .agg (us.map AV.v)) (hg:Tryz.prog.eqGuardType Tryz.prog.depth T=false) (he: ∀ w,(Op.equal T (.agg us.toArray) (.agg us.toArray)).run Tryz.prog w= .ok true w):Stp Tryz.prog dd (.binOp .eql T x y t') ty σ (σ.put dd (.v (.bool true))):=by
 refine tI us us hx hy fun o ρ w ho hx hy=> ?_
 have:=he w
 simp [execOp,ho,hx,hy,eqGuard,binOp,hg,this,Sem.run]
end
theorem Ar (l:List Int) (i:Nat) (h:i < l.length):ba (l.take i)++[.v (.int .i64 (l.getD i 0))]=ba (l.take (i+1)):=by
 have e:l.take (i+1)=l.take i++[l.getD i 0]:=by rw [List.take_add_one,List.getElem?_eq_getElem h,List.getD_eq_getElem?_getD,List.getElem?_eq_getElem h];rfl
 rw [e];exact lM (l.take i) [l.getD i 0]
theorem ve (c1 c2 c3 tick:Int) (draws keeps:List Int) (hd: ∀ x∈draws,0≤x) (h1:draws.length≤500) (h2:keeps.length≤1000):
  Spec Tryz.prog 111 (aI [.sl (eD c1 c2 c3 tick draws keeps).length (nD (eD c1 c2 c3 tick draws keeps)), .agg [.v (.int .i64 c1), .v (.int .i64 c2), .v (.int .i64 c3)]] []) (aA (.sl draws.length (ba draws)) []):=by
 have hl:=jG c1 c2 c3 tick draws keeps
 have hat:=Gb c1 c2 c3 tick draws keeps
 have hgc:=Di (eD c1 c2 c3 tick draws keeps)
 have hgk:=Fx (eD c1 c2 c3 tick draws keeps)
 have hvs:=fun i:Nat=> nB (eD c1 c2 c3 tick draws keeps) ab c1 c2 c3 1 (i:Int)
 have hvd:=fun i:Nat=> rB (a:=c1) (b:=c2) (c:=c3) (tick:=tick) (draws:=draws) (keeps:=keeps) i hd
 generalize eD c1 c2 c3 tick draws keeps=L at*
 refine Spec.ofN Tryz.func111 rfl Tryz.ntmps111 rfl ?_
 refine aG (aj (dX (3,0) _ rfl rfl) (aj (aX _ ea) (am (aG (aj (aX _ ea) (am (aG (cp rfl (am (aF fun K4 hK4=> ?_))))))))))
 refine aG (cp rfl (am (aH ?_)))
 refine aS (α:=Nat) (fun j=> j≤L.length) 58 [(0,_),(3,_),(5,_)] [((3,0),_)] (fun j=> [(6, .v (.int .i64 (((min (j - 1) draws.length:Nat):Int) - 1))),(7, .v (.int .i64 (j:Int)))]) (fun j=> []) [] [] (fun j=> L.length - j) 0 ?_ (by
  refine Le.mkJ [] [] rfl ?_ ?_ trivial trivial ?_
  ·exact ⟨(iS rfl),(iP rfl),(by exact iV rfl),(aN ag),(aN ag),trivial⟩
  ·exact ⟨(bN rfl rfl rfl),trivial⟩
  kernel_rfl) ?_
 ·omega
 intro j hj
 refine aF fun K6 hK6=> ?_
 refine go 6 ?_
 refine ax rfl (fun hc12=> ?_) (fun hc12=> ?_)
 ·obtain ⟨a1,a2,a3,a4,a5⟩:=hat j ab
  have gc:=hgc j ab
  have gk:=hgk j ab
  rw [a1,a2,a3] at gc
  generalize mQ L j=x at gk a4 a5
  refine aR (hK6 _ ?_)
  refine aE (aH (aE ?_))
  refine aB (σ':=an 58 [(0,_),(3,_),(5,_),(6,_),(7,_)] [((3,0),_)] [] []) (by
   refine Le.mkJ [] [] rfl ?_ ?_ trivial trivial ?_
   ·exact ⟨(iS rfl),(iP rfl),(by exact iV rfl),(iV rfl),(iV rfl),trivial⟩
   ·exact ⟨(bN rfl rfl rfl),trivial⟩
   kernel_rfl) ?_
  refine dA 17 [] ?_
  refine go 4 ?_
  refine aC (_,[]) (fun τ=> aQ _ _ aa rfl rfl _ rfl ab (by (simp only [aq,aJ,aM,aq,bC,dQ,bT,eU,cX];omega)) ag) ?_
  refine go 5 ?_
  refine aC (_,[]) (fun τ=> bs _ aa rfl (by exact gc) rfl) ?_
  refine go 3 ?_
  refine aC (_,[]) (fun τ=> Co _ _ [.int .i64 c1, .int .i64 c2, .int .i64 c3] rfl rfl ae (fun W=> Ks 9998 W c1 c2 c3)) ?_
  refine go 7 ?_
  refine ew (_,[]) rfl (fun τ=> rfl) (fun τ=> aQ _ _ aa rfl rfl _ rfl ab (by (simp only [aq,aJ,aM,aq,bC,dQ,bT,eU,cX];omega)) ag) ?_
  refine go 5 ?_
  refine ew (_,[]) rfl (fun τ=> rfl) (fun τ=> bl _ aa rfl (by exact gk 3 ab) rfl) ?_
  refine go 1 ?_
  refine ew (_,[]) rfl (fun τ=> rfl) (fun τ=> bb (r:=decide (x.k=1)) _ _ rfl rfl (by rw [Bool.eq_iff_iff];simp)) ?_
  refine go 5 ?_
  refine ax rfl (fun hc31=> ?_) (fun hc31=> ?_)
  ·have hj:1≤j∧j≤draws.length:=Decidable.by_contra fun h=> a5 h hc31
   obtain ⟨_,a6⟩:=a4 hj
   refine aB (σ':=an 58 [(0,_),(3,_),(5,_),(6,_),(7,_)] [((3,0),_)] [] []) (by
    refine Le.mkJ [] [] rfl ?_ ?_ trivial trivial ?_
    ·exact ⟨(iS rfl),(iP rfl),(by exact iV rfl),(iV rfl),(iV rfl),trivial⟩
    ·exact ⟨(bN rfl rfl rfl),trivial⟩
    kernel_rfl) ?_
   refine aD (bV rfl (gT rfl (bV rfl ?_)))
   refine aj (aQ _ _ aa rfl rfl _ rfl ab (by (simp only [aq,aJ,aM,aq,bC,dQ,bT,eU,cX];omega)) ag) ?_
   refine go 2 ?_
   refine aj (bl _ aa rfl (by exact gk 4 ab) rfl) ?_
   refine aj (qT _ _ rfl rfl rfl) (go 6 ?_)
   refine ay (⟨j+1,?_,?_,?_⟩)
   ·omega
   ·refine Le.mkJ [] [] rfl ?_ ?_ trivial trivial ?_
    ·exact ⟨(iS rfl),(iP rfl),(by exact iV rfl),(aN ab),(aN ag),trivial⟩
    ·exact ⟨(bN rfl rfl rfl),trivial⟩
    kernel_rfl
   omega
  have hj: ¬ (1≤j∧j≤draws.length):=fun h=> hc31 (a4 h).1
  refine kH ?_
  refine aB (σ':=an 58 [(0,_),(3,_),(5,_),(6,_),(7,_)] [((3,0),_)] [] []) (by
   refine Le.mkJ [] [] rfl ?_ ?_ trivial trivial ?_
   ·exact ⟨(iS rfl),(iP rfl),(by exact iV rfl),(iV rfl),(iV rfl),trivial⟩
   ·exact ⟨(bN rfl rfl rfl),trivial⟩
   kernel_rfl) ?_
  refine go 4 ?_
  refine ay (⟨j+1,?_,?_,?_⟩)
  ·omega
  ·refine Le.mkJ [] [] rfl ?_ ?_ trivial trivial ?_
   ·exact ⟨(iS rfl),(iP rfl),(by exact iV rfl),(aN ab),(aN ag),trivial⟩
   ·exact ⟨(bN rfl rfl rfl),trivial⟩
   kernel_rfl
  omega
 obtain rfl:j=L.length:=by omega
 rw [show min (L.length - 1) draws.length=draws.length by omega]
 refine aW (id (hK4 _ ?_))
 refine aF fun K10 hK10=> ?_
 refine aG (cp rfl (am (aH ?_)))
 refine aB (Le.nilS 5 (60,0) 3 1 rfl rfl) ?_
 refine aS (α:=Nat) (fun i=> i≤draws.length) 58 [(0,_),(3,_),(6,_)] [((3,0),_)] (fun i=> [(5, .ref (60,0) 0 i),(8, .v (.int .i64 (i:Int)))]) (fun i=> [((60,0), .row 3 1 (ba (draws.take i)))]) [] [] (fun i=> draws.length - i) 0 ?_ (kj [0,2] [] []) ?_
 ·omega
 intro i hi
 refine aF fun K12 hK12=> ?_
 refine aF fun K13 hK13=> ?_
 refine aD (bV rfl (bV rfl (aj (Cg (r:=decide ((i:Int)≤(draws.length:Int) - 1)) _ _ rfl rfl rfl) ?_)))
 refine FV rfl (cj (fun hg43=> ?_) (fun hg43=> ?_))
 ·have q2:=Ar draws i ab
  have hv:=hvs i
  rw [hvd i] at hv
  refine go 1 ?_
  refine aZ rfl rfl (cT (r:=true) _ _ rfl rfl (decide_eq_true ab)) ?_
  refine go 1 ?_
  refine ay (hK13 _ ?_)
  refine fX rfl rfl (aR (hK12 _ ?_))
  refine go 8 ?_
  refine aj (ap aa al (hv) rfl rfl) ?_
  refine go 1 ?_
  refine aj (bG (56,0) _ _ aa rfl rfl (by rw [aq,List.length_take];omega) (.sl rfl) ab rfl q2 rfl) ?_
  refine dZ rfl (Ef ?_)
  refine aB (σ':=an 58 [(0,_),(3,_),(5,_),(6,_),(8,_)] [((3,0),_),((56,0),_)] [] []) kp ?_
  refine go 4 ?_
  refine ay (⟨i+1,?_,?_,?_⟩)
  ·omega
  ·refine Le.mkJ [((60,0),(56,0))] [] rfl ?_ ?_ trivial trivial ?_
   ·exact ⟨(by repeat' (exact Lv.sl)),(bv (id:=(3,0)) rfl),(by repeat' (exact Lv.v)),(ca rfl ag),(aN ag),trivial⟩
   ·exact ⟨(cI rfl rfl rfl rfl (by repeat' (first | exact Lv.v | exact aK | refine ai ?_ ?_))),(cD rfl rfl rfl ag),trivial⟩
   kernel_rfl
  omega
 obtain rfl:i=draws.length:=by omega
 refine go 3 ?_
 refine ay (hK13 _ ?_)
 refine cP rfl rfl (aW (id (hK10 _ ?_)))
 exact aG (ij rfl (dZ rfl (am (au (cq (.inr rfl) rfl (.tmp mP) (Le.out [] [(60,0)] (Id rfl rfl rfl (by rw [List.take_length]) rfl) rfl rfl rfl tr trivial))))))
theorem qr (s:Ns) (hs:fJ s):Spec Tryz.prog 43 (aI [ii s,ii s] []) (aA (.v (.bool true)) []):=by
 have hd:=uO s.dk (by have:=hs.c;omega) (by have:=hs.p;omega)
 have h1:=xn s.vol (by have:=hs.v;omega)
 have h2:=xn s.timers (by have:=hs.t;omega)
 refine Spec.ofN Tryz.func43 rfl Tryz.ntmps43 rfl ?_
 refine go 11 ?_
 refine aj (HY (r:=false) _ _ rfl rfl Tryz.underlying4 (bne_self_eq_false _)) ?_
 refine go 5 ?_
 refine aZ rfl rfl (cV (r:=false) _ _ rfl rfl (bne_self_eq_false _)) ?_
 refine go 6 ?_
 refine aZ rfl rfl (cV (r:=false) _ _ rfl rfl (bne_self_eq_false _)) ?_
 refine go 6 ?_
 refine aZ rfl rfl (cV (r:=false) _ _ rfl rfl (bne_self_eq_false _)) ?_
 refine go 6 ?_
 refine aZ rfl rfl (cV (r:=false) _ _ rfl rfl (bne_self_eq_false _)) ?_
 refine go 6 ?_
 refine aZ rfl rfl (cV (r:=false) _ _ rfl rfl (bne_self_eq_false _)) ?_
 refine go 6 ?_
 refine aZ rfl rfl (cV (r:=false) _ _ rfl rfl (bne_self_eq_false _)) ?_
 refine go 4 ?_
 refine aE ?_
 refine aB (σ':=an 78 [(2,_),(3,_)] [((2,0),_),((3,0),_)] [] []) kp ?_
 refine go 5 ?_
 refine aj (Co _ _ (Nk (aP s)) rfl rfl ae (fun W=> JM W (aP s))) ?_
 refine go 5 ?_
 refine aZ rfl rfl (ap aa al (hd) rfl rfl) ?_
 refine go 6 ?_
 refine aZ rfl rfl (ap aa al (h1) rfl rfl) ?_
 refine go 6 ?_
 refine aZ rfl rfl (ap aa al (h2) rfl rfl) ?_
 refine go 3 ?_
 exact au (eb rfl rfl)
instance SV:Ty Tryz.prog 93 true [.bool false, .int .i64 0, .int .i64 0, .int .i64 0, .slice none 0 0, .slice none 0 0, .slice none 0 0, .slice none 0 0, .int .i64 0, .int .i64 0, .int .i64 0, .int .i64 0, .int .i64 0, .int .i64 0, .int .i64 0, .int .i64 0, .int .i64 0, .int .i64 0, .int .i64 0, .int .i64 0, .int .i64 0, .int .i64 0, .int .i64 0, .int .i64 0, .int .i64 0, .int .i64 0, .int .i64 0, .int .i64 0, .int .i64 0, .int .i64 0, .int .i64 0, .int .i64 0, .int .i64 0, .int .i64 0, .int .i64 0, .int .i64 0, .int .i64 0, .int .i64 0, .int .i64 0, .int .i64 0, .int .i64 0, .int .i64 0, .int .i64 0, .int .i64 0, .int .i64 0, .int .i64 0, .int .i64 0, .int .i64 0, .int .i64 0, .int .i64 0, .int .i64 0, .int .i64 0, .slice none 0 0, .slice none 0 0, .bool false, .int .i64 0, .slice none 0 0, .int .i64 0, .int .i64 0, .int .i64 0, .slice none 0 0, .slice none 0 0, .int .i64 0, .bool false, .slice none 0 0, .slice none 0 0, .slice none 0 0]:=Ty.of (bytes:=728) (.agg #[.bool false, .int .i64 0, .int .i64 0, .int .i64 0, .slice none 0 0, .slice none 0 0, .slice none 0 0, .slice none 0 0, .int .i64 0, .int .i64 0, .int .i64 0, .int .i64 0, .int .i64 0, .int .i64 0, .int .i64 0, .int .i64 0, .int .i64 0, .int .i64 0, .int .i64 0, .int .i64 0, .int .i64 0, .int .i64 0, .int .i64 0, .int .i64 0, .int .i64 0, .int .i64 0, .int .i64 0, .int .i64 0, .int .i64 0, .int .i64 0, .int .i64 0, .int .i64 0, .int .i64 0, .int .i64 0, .int .i64 0, .int .i64 0, .int .i64 0, .int .i64 0, .int .i64 0, .int .i64 0, .int .i64 0, .int .i64 0, .int .i64 0, .int .i64 0, .int .i64 0, .int .i64 0, .int .i64 0, .int .i64 0, .int .i64 0, .int .i64 0, .int .i64 0, .int .i64 0, .slice none 0 0, .slice none 0 0, .bool false, .int .i64 0, .slice none 0 0, .int .i64 0, .int .i64 0, .int .i64 0, .slice none 0 0, .slice none 0 0, .int .i64 0, .bool false, .slice none 0 0, .slice none 0 0, .slice none 0 0]) Tryz.underlying93 rfl ae rfl oC
instance MA:dG Tryz.prog 93 0 0:=⟨fun ad w=> by kernel_rfl⟩
instance LP:dG Tryz.prog 93 1 52:=⟨fun ad w=> by kernel_rfl⟩
instance LW:dG Tryz.prog 93 2 53:=⟨fun ad w=> by kernel_rfl⟩
instance Nv:dG Tryz.prog 93 3 54:=⟨fun ad w=> by kernel_rfl⟩
instance Mj:dG Tryz.prog 93 4 55:=⟨fun ad w=> by kernel_rfl⟩
instance MC:dG Tryz.prog 93 5 56:=⟨fun ad w=> by kernel_rfl⟩
instance Oj:dG Tryz.prog 93 6 57:=⟨fun ad w=> by kernel_rfl⟩
instance NT:dG Tryz.prog 93 7 60:=⟨fun ad w=> by kernel_rfl⟩
instance LZ:dG Tryz.prog 93 8 66:=⟨fun ad w=> by kernel_rfl⟩
abbrev Mn (s:Ns) (r:Nr) (c:Cz) (o:Ms) (na:Nat) (A:List PV) (se fa:AV):List AV:=[.v (.bool s.up), .v (.int .i64 (s.ver)), .v (.int .i64 (s.epoch)), .v (.int .i64 (s.clock)), .sl s.dk.cells.length (ba s.dk.cells), .sl s.dk.pend.length (eT s.dk.pend), .sl s.vol.length (ba s.vol), .sl s.timers.length (ba s.timers), .v (.int .i64 (aP s 0)), .v (.int .i64 (aP s 1)), .v (.int .i64 (aP s 2)), .v (.int .i64 (aP s 3)), .v (.int .i64 (aP s 4)), .v (.int .i64 (aP s 5)), .v (.int .i64 (aP s 6)), .v (.int .i64 (aP s 7)), .v (.int .i64 (aP s 8)), .v (.int .i64 (aP s 9)), .v (.int .i64 (aP s 10)), .v (.int .i64 (aP s 11)), .v (.int .i64 (aP s 12)), .v (.int .i64 (aP s 13)), .v (.int .i64 (aP s 14)), .v (.int .i64 (aP s 15)), .v (.int .i64 (aP s 16)), .v (.int .i64 (aP s 17)), .v (.int .i64 (aP s 18)), .v (.int .i64 (aP s 19)), .v (.int .i64 (aP s 20)), .v (.int .i64 (aP s 21)), .v (.int .i64 (aP s 22)), .v (.int .i64 (aP s 23)), .v (.int .i64 (aP s 24)), .v (.int .i64 (aP s 25)), .v (.int .i64 (aP s 26)), .v (.int .i64 (aP s 27)), .v (.int .i64 (aP s 28)), .v (.int .i64 (aP s 29)), .v (.int .i64 (aP s 30)), .v (.int .i64 (aP s 31)), .v (.int .i64 (aP s 32)), .v (.int .i64 (aP s 33)), .v (.int .i64 (aP s 34)), .v (.int .i64 (aP s 35)), .v (.int .i64 (aP s 36)), .v (.int .i64 (aP s 37)), .v (.int .i64 (aP s 38)), .v (.int .i64 (aP s 39)), .v (.int .i64 (aP s 40)), .v (.int .i64 (s.wait)), .v (.int .i64 (0)), .v (.int .i64 (0)), .sl na A,se, .v (.bool r.repl), .v (.int .i64 (r.value)),fa, .v (.int .i64 (c.a)), .v (.int .i64 (c.b)), .v (.int .i64 (c.c)), .sl o.vars.length (ba o.vars), .sl o.acts.length (pt o.acts), .v (.int .i64 (o.steps:Int)), .v (.bool (!o.fin)), .sl (hG o.cov).length (ba (hG o.cov)), .sl o.asked.length (ba o.asked), .sl (hG o.cov).length (ba (hG o.cov))]
abbrev TN (a:Ac):AV:= .agg [.v (.int .i64 a.k), .v (.int .i64 a.a), .v (.int .i64 a.b), .v (.int .i64 a.c), .v (.int .i64 a.d)]
abbrev pm (c:Cz) (o:Ms) (na:Nat) (A:List PV) (s:Ns) (r:Nr) (a:Ac) (s':Ns) (r':Nr):Prop:=Spec Tryz.prog 112 (aL [.agg (Mn s r c o na A (.ref (3,9) 0 r.sent.length) (.ref (4,9) 0 r.fails.length)),TN a] [((3,9), .row 117 9 (xI c r.sent)),((4,9), .row 3 1 (ba r.fails))])
 (aO (.agg (Mn s' r' c o na A (.ref (3,8) 0 r'.sent.length) (.ref (4,8) 0 r'.fails.length))) [((3,8), .row 117 9 (xI c r'.sent)),((4,8), .row 3 1 (ba r'.fails))] [(3,8),(4,8)] [])
section
variable (c:Cz) (o:Ms) (na:Nat) (A:List PV) (s:Ns) (r:Nr) (x y z w:Int)
set_option maxHeartbeats 2000000 in
theorem xp (hs:fJ s) (ho:eX s.dk):pm c o na A s r ⟨1,x,y,z,w⟩ { s with dk:=s.dk.write x y } r:=by
 have hc:=hs.c
 have hp:=hs.p
 have hw:=vm s.dk x y ab ab ho
 refine Spec.ofNI Tryz.func112 rfl Tryz.ntmps112 rfl ?_
 refine go 24 ?_
 refine aj (ap aa al (hw) rfl rfl) ?_
 refine go 4 ?_
 refine aE ?_
 refine aB (σ':=an 101 [(2,_),(4,_)] [((3,9),_),((4,9),_),((2,0),_),((4,0),_)] [(3,9),(4,9)] []) kp ?_
 refine go 4 ?_
 exact au (jr [((3,8),(3,9)),((4,8),(4,9))])
set_option maxHeartbeats 2000000 in
theorem Ah (hs:fJ s) (ho:eX s.dk):pm c o na A s r ⟨2,x,y,z,w⟩ { s with dk:=s.dk.sync } r:=by
 have hc:=hs.c
 have hp:=hs.p
 have hw:=wC s.dk ab ab ho
 refine Spec.ofNI Tryz.func112 rfl Tryz.ntmps112 rfl ?_
 refine go 25 ?_
 refine aj (ap aa al (hw) rfl rfl) ?_
 refine go 4 ?_
 refine aE ?_
 refine aB (σ':=an 101 [(2,_),(4,_)] [((3,9),_),((4,9),_),((2,0),_),((4,0),_)] [(3,9),(4,9)] []) kp ?_
 refine go 4 ?_
 exact au (jr [((3,8),(3,9)),((4,8),(4,9))])
set_option maxHeartbeats 2000000 in
theorem wd (hs:fJ s) (ho:eX s.dk):pm c o na A s r ⟨4,x,y,z,w⟩ { s with timers:=rX s.timers x true } r:=by
 have hw:=oZ s.timers x true (by have:=hs.t;omega)
 refine Spec.ofNI Tryz.func112 rfl Tryz.ntmps112 rfl ?_
 refine go 32 ?_
 refine aj (ap aa al (hw) rfl rfl) ?_
 refine go 4 ?_
 refine aE ?_
 refine aB (σ':=an 101 [(2,_),(4,_)] [((3,9),_),((4,9),_),((2,0),_),((4,0),_)] [(3,9),(4,9)] []) kp ?_
 refine go 4 ?_
 exact au (jr [((3,8),(3,9)),((4,8),(4,9))])
set_option maxHeartbeats 2000000 in
theorem ue (hs:fJ s) (ho:eX s.dk):pm c o na A s r ⟨5,x,y,z,w⟩ { s with timers:=rX s.timers x false } r:=by
 have hw:=oZ s.timers x false (by have:=hs.t;omega)
 refine Spec.ofNI Tryz.func112 rfl Tryz.ntmps112 rfl ?_
 refine go 37 ?_
 refine aj (ap aa al (hw) rfl rfl) ?_
 refine go 4 ?_
 refine aE ?_
 refine aB (σ':=an 101 [(2,_),(4,_)] [((3,9),_),((4,9),_),((2,0),_),((4,0),_)] [(3,9),(4,9)] []) kp ?_
 refine go 4 ?_
 exact au (jr [((3,8),(3,9)),((4,8),(4,9))])
set_option maxHeartbeats 2000000 in
theorem zg (hr:r.sent.length≤1000):pm c o na A s r ⟨3,x,y,z,w⟩ s { r with sent:=r.sent++[(⟨3,x,y,z,w⟩:Ac)] }:=by
 have hl2:=dQ c r.sent
 have hl3:r.sent.length+1=(r.sent++[(⟨3,x,y,z,w⟩:Ac)]).length:=by rw [List.length_append];rfl
 refine Spec.ofNI Tryz.func112 rfl Tryz.ntmps112 rfl ?_
 refine go 36 ?_
 refine aE ?_
 refine aB (σ':=an 101 [(2,_),(3,_),(4,_)] [((3,9),_),((4,9),_),((2,0),_),((3,0),_),((4,0),_)] [(3,9),(4,9)] []) kp ?_
 refine go 24 ?_
 refine bA (Le.incT (69,0) rfl) ?_
 refine aj (kA (b:=true) (69,0) _ _ aa rfl rfl hl2.symm (.sl rfl) ab rfl rfl rfl (vu c r.sent ⟨3,x,y,z,w⟩) hl3) ?_
 refine go 3 ?_
 refine aE ?_
 refine aB (σ':=an 101 [(2,_),(4,_)] [((4,9),_),((2,0),_),((4,0),_),((69,0),_)] [(4,9),(69,0)] []) kp ?_
 refine go 4 ?_
 exact au (jr [((3,8),(69,0)),((4,8),(4,9))])
set_option maxHeartbeats 2000000 in
theorem wG (h0:0≤s.wait) (h1:x=s.wait):pm c o na A s r ⟨6,x,y,z,w⟩ { s with wait:= -1 } { r with repl:=true,value:=y }:=by
 refine Spec.ofNI Tryz.func112 rfl Tryz.ntmps112 rfl ?_
 refine go 36 ?_
 refine aE ?_
 refine aB (σ':=an 101 [(2,_),(3,_),(4,_),(7,_)] [((3,9),_),((4,9),_),((2,0),_),((3,0),_),((4,0),_)] [(3,9),(4,9)] []) kp ?_
 refine go 9 ?_
 refine aj (eg (r:=true) _ _ rfl rfl (decide_eq_true ab)) ?_
 refine go 6 ?_
 refine aZ rfl rfl (bb (r:=true) _ _ rfl rfl (by rw [h1];exact beq_self_eq_true _)) ?_
 refine go 7 ?_
 refine aE ?_
 refine aB (σ':=an 101 [(2,_),(3,_),(4,_)] [((3,9),_),((4,9),_),((2,0),_),((3,0),_),((4,0),_)] [(3,9),(4,9)] []) kp ?_
 refine go 15 ?_
 exact au (jr [((3,8),(3,9)),((4,8),(4,9))])
set_option maxHeartbeats 2000000 in
theorem uh (h0:s.wait < 0):pm c o na A s r ⟨6,x,y,z,w⟩ s r:=by
 refine Spec.ofNI Tryz.func112 rfl Tryz.ntmps112 rfl ?_
 refine go 36 ?_
 refine aE ?_
 refine aB (σ':=an 101 [(2,_),(3,_),(4,_),(7,_)] [((3,9),_),((4,9),_),((2,0),_),((3,0),_),((4,0),_)] [(3,9),(4,9)] []) kp ?_
 refine go 9 ?_
 refine aj (eg (r:=false) _ _ rfl rfl (decide_eq_false ab)) ?_
 refine go 15 ?_
 exact au (jr [((3,8),(3,9)),((4,8),(4,9))])
set_option maxHeartbeats 2000000 in
theorem uF (h0:0≤s.wait) (h1:x≠s.wait):pm c o na A s r ⟨6,x,y,z,w⟩ s r:=by
 refine Spec.ofNI Tryz.func112 rfl Tryz.ntmps112 rfl ?_
 refine go 36 ?_
 refine aE ?_
 refine aB (σ':=an 101 [(2,_),(3,_),(4,_),(7,_)] [((3,9),_),((4,9),_),((2,0),_),((3,0),_),((4,0),_)] [(3,9),(4,9)] []) kp ?_
 refine go 9 ?_
 refine aj (eg (r:=true) _ _ rfl rfl (decide_eq_true ab)) ?_
 refine go 6 ?_
 refine aZ rfl rfl (bb (r:=false) _ _ rfl rfl (beq_eq_false_iff_ne.2 h1)) ?_
 refine go 8 ?_
 exact au (jr [((3,8),(3,9)),((4,8),(4,9))])
set_option maxHeartbeats 2000000 in
theorem zT (hr:r.fails.length≤1000):pm c o na A s r ⟨7,x,y,z,w⟩ s { r with fails:=r.fails++[x] }:=by
 have hl3:r.fails.length+1=(r.fails++[x]).length:=by rw [List.length_append];rfl
 refine Spec.ofNI Tryz.func112 rfl Tryz.ntmps112 rfl ?_
 refine go 36 ?_
 refine aE ?_
 refine aB (σ':=an 101 [(2,_),(3,_),(4,_),(7,_)] [((3,9),_),((4,9),_),((2,0),_),((3,0),_),((4,0),_)] [(3,9),(4,9)] []) kp ?_
 refine go 16 ?_
 refine bA (Le.incT (98,0) rfl) ?_
 refine aj (kA (b:=true) (98,0) _ _ aa rfl rfl (by rw [aq,Nat.mul_one]) (.sl rfl) ab rfl rfl rfl (lM r.fails [x]) hl3) ?_
 refine go 7 ?_
 exact au (jr [((3,8),(3,9)),((4,8),(98,0))])
end
theorem EP (c:Cz) (o:Ms) (na:Nat) (A:List PV) (s:Ns) (r:Nr) (a:Ac) (hk:1≤a.k∧a.k≤7) (hs:fJ s) (ho:eX s.dk) (hr:r.sent.length≤1000) (hf:r.fails.length≤1000):
  pm c o na A s r a (dj (s,r) a).1 (dj (s,r) a).2:=by
 obtain ⟨k,x,y,z,w⟩:=a
 simp only at hk
 have:k=1∨k=2∨k=3∨k=4∨k=5∨k=6∨k=7:=by omega
 rcases this with e | e | e | e | e | e | e <;> subst e
 ·exact xp c o na A s r x y z w hs ho
 ·exact Ah c o na A s r x y z w hs ho
 ·exact zg c o na A s r x y z w hr
 ·exact wd c o na A s r x y z w hs ho
 ·exact ue c o na A s r x y z w hs ho
 ·by_cases h0:0≤s.wait
  ·by_cases h1:x=s.wait
   ·have e:dj (s,r) ⟨6,x,y,z,w⟩=({ s with wait:= -1 },{ r with repl:=true,value:=y }):=by
     show (if 0≤s.wait∧x=s.wait then ({ s with wait:= -1 },{ r with repl:=true,value:=y }) else (s,r))=_
     exact if_pos ⟨h0,h1⟩
    rw [e];exact wG c o na A s r x y z w h0 h1
   have e:dj (s,r) ⟨6,x,y,z,w⟩=(s,r):=by
    show (if 0≤s.wait∧x=s.wait then ({ s with wait:= -1 },{ r with repl:=true,value:=y }) else (s,r))=_
    exact if_neg fun h=> h1 h.2
   rw [e];exact uF c o na A s r x y z w h0 h1
  have e:dj (s,r) ⟨6,x,y,z,w⟩=(s,r):=by
   show (if 0≤s.wait∧x=s.wait then ({ s with wait:= -1 },{ r with repl:=true,value:=y }) else (s,r))=_
   exact if_neg fun h=> h0 h.1
  rw [e];exact uh c o na A s r x y z w ab
 exact zT c o na A s r x y z w hf
end Go.Proofs.YtmjnackchaahbaaGreat

set_option maxHeartbeats 2000000
namespace Go.Proofs.YtmjnackchaahbaaGreat
open Go.RowKit

theorem HL (P:Pg) (hp:po P) (hcl:P.c.length≤1000000) (h:Nat) (hh:h < 40) (nm iv ans:List Int) (hn: ∀ i,Rg (nm.getD i 0)) (hiv:iv.length=P.d+P.v) (hir: ∀ v∈iv,Rg v) (ha:ans.length≤4611686018427387904) (R:Ms) (hR:R=mh P h nm iv ans):
  Spec Tryz.prog 26 (aI [fY P, .v (.int .i64 (h:Int)), .sl iv.length (ba iv), .agg [.v (.int .i64 (nm.getD 0 0)), .v (.int .i64 (nm.getD 1 0)), .v (.int .i64 (nm.getD 2 0)), .v (.int .i64 (nm.getD 3 0)), .v (.int .i64 (nm.getD 4 0)), .v (.int .i64 (nm.getD 5 0)), .v (.int .i64 (nm.getD 6 0)), .v (.int .i64 (nm.getD 7 0)), .v (.int .i64 (nm.getD 8 0))], .sl ans.length (ba ans)] [])
   (aA (.agg [.sl R.vars.length (ba R.vars), .sl R.acts.length (pt R.acts), .v (.int .i64 (R.steps:Int)), .v (.bool (!R.fin)), .sl (hG R.cov).length (ba (hG R.cov)), .sl R.asked.length (ba R.asked)]) []):=by
 have hnv:=hp.nv
 by_cases he:P.e h < 0
 ·have hR2:R={ vars:=iv,pc:=0,fin:=true }:=by rw [hR];unfold mh;rw [if_pos he]
  subst hR2
  exact xh ⟨P,iv,nm,ans,vg⟩ h hh he (by show iv.length≤1000;omega)
 obtain ⟨D,hg,hE⟩:=hp.ex
 obtain ⟨e1,e2,e3⟩:=(hE h).resolve_left he
 have hR2:R=jf ⟨P.c,P.d,nm,ans⟩ 500 (cQ iv (P.e h).toNat):=by rw [hR];unfold mh;rw [if_neg he]
 exact yw ⟨P,iv,nm,ans,vg⟩ D (P.d+P.v) ⟨hg,hnv,hn⟩ h hh (P.e h).toNat (by show P.e h=_;omega) (by show _ < P.c.length;omega) e3 hiv hir hcl ha R hR2
end Go.Proofs.YtmjnackchaahbaaGreat

set_option maxHeartbeats 2000000
namespace Go.Proofs.YtmjnackchaahbaaGreat
open Go.RowKit

abbrev wx (s:Ns) (r:Nr) (c:Cz) (o:Ms) (na:Nat) (A:List PV):AV:= .agg (Mn s r c o na A (.sl r.sent.length (xI c r.sent)) (.sl r.fails.length (ba r.fails)))
theorem Iz (up:Bool) (ver ep ck:Int) (ce pe vo tm:AV) (e:Nat→Int) (wt:Int) (T:List AV) (h:Nat) (hh:h < 41):(Au up ver ep ck ce pe vo tm e wt++T)[8+h]? =some (.v (.int .i64 (e h))):=by
 rw [List.getElem?_append_left (by show 8+h < 52;omega)]
 exact lX up ver ep ck ce pe vo tm e wt h hh
theorem DY (up:Bool) (ver ep ck:Int) (ce pe vo tm:AV) (e:Nat→Int) (wt:Int) (T:List AV) (h:Nat) (hh:h < 41) (x:Int):eO (Au up ver ep ck ce pe vo tm e wt++T) (8+h) [.v (.int .i64 x)]=Au up ver ep ck ce pe vo tm (kB e h x) wt++T:=by
 rw [← tn up ver ep ck ce pe vo tm e wt h hh x]
 unfold eO
 rw [List.take_append_of_le_length (by show 8+h≤52;omega),List.drop_append_of_le_length (by show 8+h+1≤52;omega)]
 simp only [List.append_assoc]
theorem AB (t:Tl) (ans:List Int) (l:List Int) {i:Nat} (hi:i < l.length):oP t ans (l.take i)++vT t 1 (i:Int) (l.getD i 0) (el ans i (l.getD i 0))=oP t ans (l.take (i+1)):=by
 have h:=uB { t with pre:=[] } ans (l.take i) (l.getD i 0)
 have e1:(l.take i).length=i:=by rw [List.length_take];omega
 have e2:l.take (i+1)=l.take i++[l.getD i 0]:=by rw [List.take_add_one,List.getElem?_eq_getElem hi,List.getD_eq_getElem?_getD,List.getElem?_eq_getElem hi];rfl
 rw [e1] at h
 rw [e2];exact h
theorem Bd (t:Tl) (drift tick:Int):(jE t drift tick).length=jW drift*7:=by
 unfold jE jW;split <;> rfl
set_option maxHeartbeats 4000000 in
theorem sH (s:Ns) (hs:fJ s) (ho:eX s.dk) (hc:s.counts.length=41) (P:Pg) (h:Nat) (hh:h < 40) (self nodes drift tick:Int) (nm:List Int) (t:Tl) (ans:List Int) (hdr:0≤drift∧drift≤1000) (ht1:t.c1=self) (ht2:t.c2=(h:Int)) (ht3:t.c3=s.counts.getD h 0)
  (hlk:0 < drift→tg t 2 0 (drift+1) (tick % (drift+1))) (hld: ∀ (i:Nat) (k:Int),i≤100000→2≤k→k≤4→tg t 1 (i:Int) k (el ans i k)) (hcb: ∀ k, -1000000≤s.counts.getD k 0∧s.counts.getD k 0≤1000000) (hck: -1000000≤s.clock∧s.clock≤1000000)
  (hraw:Spec Tryz.prog 111 (aI [.sl t.na t.A, .agg [.v (.int .i64 self), .v (.int .i64 (h:Int)), .v (.int .i64 (s.counts.getD h 0))]] []) (aA (.sl ans.length (ba ans)) [])) (R:Ms)
  (hv:Spec Tryz.prog 26 (aI [fY P, .v (.int .i64 (h:Int)), .sl (s.dk.view++s.vol).length (ba (s.dk.view++s.vol)), .agg [.v (.int .i64 (self)), .v (.int .i64 (nodes)), .v (.int .i64 (aT s.clock drift tick)), .v (.int .i64 (nm.getD 3 0)), .v (.int .i64 (nm.getD 4 0)), .v (.int .i64 (nm.getD 5 0)), .v (.int .i64 (nm.getD 6 0)), .v (.int .i64 (nm.getD 7 0)), .v (.int .i64 (nm.getD 8 0))], .sl ans.length (ba ans)] []) (aA (.agg [.sl R.vars.length (ba R.vars), .sl R.acts.length (pt R.acts), .v (.int .i64 (R.steps:Int)), .v (.bool (!R.fin)), .sl (hG R.cov).length (ba (hG R.cov)), .sl R.asked.length (ba R.asked)]) []))
  (hd:P.d≤R.vars.length) (hrv:R.vars.length≤P.d+16) (hra:R.acts.length≤500) (hrk:R.asked.length≤500) (hak: ∀ i,i < R.asked.length→2≤R.asked.getD i 0∧R.asked.getD i 0≤4)
  (hq: ∀ i,i < R.acts.length→ ∀ (na:Nat) (A:List PV),pm ⟨self,(h:Int),s.counts.getD h 0⟩ R na A (co s h (aT s.clock drift tick) P R i).1 (co s h (aT s.clock drift tick) P R i).2 (mm R.acts i) (co s h (aT s.clock drift tick) P R (i+1)).1 (co s h (aT s.clock drift tick) P R (i+1)).2):
  Spec Tryz.prog 80 (aI [ii s,fY P, .v (.int .i64 (h:Int)), .v (.int .i64 self), .v (.int .i64 nodes), .v (.int .i64 drift), .agg [.v (.int .i64 (nm.getD 0 0)), .v (.int .i64 (nm.getD 1 0)), .v (.int .i64 (nm.getD 2 0)), .v (.int .i64 (nm.getD 3 0)), .v (.int .i64 (nm.getD 4 0)), .v (.int .i64 (nm.getD 5 0)), .v (.int .i64 (nm.getD 6 0)), .v (.int .i64 (nm.getD 7 0)), .v (.int .i64 (nm.getD 8 0))], .sl t.na t.A] [])
   (aA (wx (co s h (aT s.clock drift tick) P R R.acts.length).1 (co s h (aT s.clock drift tick) P R R.acts.length).2 ⟨self,(h:Int),s.counts.getD h 0⟩ R (jW drift+R.asked.length) (jE t drift tick++oP t ans R.asked)) []):=by
 have hcb2:=hcb h
 have hcb2: -1000000≤aP s h∧aP s h≤1000000:=hcb2
 have hce:=pz s h ab (s.counts.getD h 0+1)
 have hal:=bT R.acts
 have hnv:=xb s hs ho
 have hpl:=Bd t drift tick
 have hpn1:jW drift≤1:=by unfold jW;split <;> omega
 have hqs:=fun i (hi:i < R.asked.length)=> AB t ans R.asked hi
 have hql:=yr t ans
 have hL7:(jE t drift tick++oP t ans R.asked).length=(jW drift+R.asked.length)*7:=by rw [List.length_append,hpl,hql];omega
 have hin:=zD (R.vars.drop P.d) (by rw [List.length_drop];omega) 16 ab
 rw [List.take_of_length_le (by rw [List.length_drop];omega)] at hin
 have hds:((ba R.vars).drop (P.d*1)).take ((R.vars.length - P.d)*1)=ba (R.vars.drop P.d):=by
  rw [Nat.mul_one,Nat.mul_one,List.take_of_length_le (by rw [List.length_drop,aq];omega)]
  simp [ba,List.map_drop]
 have hdl:R.vars.length - P.d=(R.vars.drop P.d).length:=by rw [List.length_drop]
 have htk0:drift≤0→aT s.clock drift tick=s.clock+1:=fun h=> vP h
 have htk1:0 < drift→aT s.clock drift tick=s.clock+1+tick % (drift+1):=fun h=> Bn h
 have hmod:0 < drift→0≤tick % (drift+1)∧tick % (drift+1) < drift+1:=fun h=> ⟨Int.emod_nonneg _ ab,Int.emod_lt_of_pos _ ab⟩
 unfold tg at hlk hld
 rw [ht1,ht2,ht3] at hlk hld
 refine Spec.ofN Tryz.func80 rfl Tryz.ntmps80 rfl ?_
 refine go 6 ?_
 refine aE ?_
 refine aB (σ':=an 158 [(2,_),(3,_),(4,_),(5,_),(7,_),(8,_),(9,_),(14,_),(16,_)] [((8,0),_),((9,0),_),((14,0),_),((16,0),_)] [] []) kp ?_
 refine dA 10 [(17,0)] ?_
 refine go 10 ?_
 refine aC (_,[]) (fun τ=> bO _ _ aa rfl rfl rfl h rfl ab (show 8+h*1=8+h from by omega)) ?_
 refine go 1 ?_
 refine aC (_,[]) (fun τ=> bK _ aa rfl rfl (lX _ _ _ _ _ _ _ _ _ _ h ab)) ?_
 refine go 5 ?_
 refine aC (_,[((17,0),_)]) (fun τ=> eB (17,0) aa rfl rfl) ?_
 refine go 13 ?_
 refine gP (α:=Unit) (fun u=> True) 158 [(2,_),(3,_),(4,_),(7,_),(8,_),(9,_),(14,_),(16,_),(17,_)] [((8,0),_),((9,0),_),((14,0),_),((16,0),_)] (fun u=> []) (fun u=> [((17,0), .box 93 [.v (.bool s.up), .v (.int .i64 (s.ver)), .v (.int .i64 (s.epoch)), .v (.int .i64 (aT s.clock drift tick)), .sl s.dk.cells.length (ba s.dk.cells), .sl s.dk.pend.length (eT s.dk.pend), .sl s.vol.length (ba s.vol), .sl s.timers.length (ba s.timers), .v (.int .i64 (aP s 0)), .v (.int .i64 (aP s 1)), .v (.int .i64 (aP s 2)), .v (.int .i64 (aP s 3)), .v (.int .i64 (aP s 4)), .v (.int .i64 (aP s 5)), .v (.int .i64 (aP s 6)), .v (.int .i64 (aP s 7)), .v (.int .i64 (aP s 8)), .v (.int .i64 (aP s 9)), .v (.int .i64 (aP s 10)), .v (.int .i64 (aP s 11)), .v (.int .i64 (aP s 12)), .v (.int .i64 (aP s 13)), .v (.int .i64 (aP s 14)), .v (.int .i64 (aP s 15)), .v (.int .i64 (aP s 16)), .v (.int .i64 (aP s 17)), .v (.int .i64 (aP s 18)), .v (.int .i64 (aP s 19)), .v (.int .i64 (aP s 20)), .v (.int .i64 (aP s 21)), .v (.int .i64 (aP s 22)), .v (.int .i64 (aP s 23)), .v (.int .i64 (aP s 24)), .v (.int .i64 (aP s 25)), .v (.int .i64 (aP s 26)), .v (.int .i64 (aP s 27)), .v (.int .i64 (aP s 28)), .v (.int .i64 (aP s 29)), .v (.int .i64 (aP s 30)), .v (.int .i64 (aP s 31)), .v (.int .i64 (aP s 32)), .v (.int .i64 (aP s 33)), .v (.int .i64 (aP s 34)), .v (.int .i64 (aP s 35)), .v (.int .i64 (aP s 36)), .v (.int .i64 (aP s 37)), .v (.int .i64 (aP s 38)), .v (.int .i64 (aP s 39)), .v (.int .i64 (aP s 40)), .v (.int .i64 (s.wait)), .v (.int .i64 (0)), .v (.int .i64 (0)), .ref (60,0) 0 (jW drift), .v (.slice none 0 0), .v (.bool false), .v (.int .i64 (0)), .v (.slice none 0 0), .v (.int .i64 (self)), .v (.int .i64 ((h:Int))), .v (.int .i64 (s.counts.getD h 0)), .v (.slice none 0 0), .v (.slice none 0 0), .v (.int .i64 (0)), .v (.bool false), .v (.slice none 0 0), .v (.slice none 0 0), .v (.slice none 0 0)]),((60,0), .row 111 7 (jE t drift tick))]) [] []
  (by exact ⟨(iV rfl),(iV rfl),(iV rfl),(iS rfl),(iP rfl),(iP rfl),(iP rfl),(iP rfl),(iP rfl),trivial⟩)
  (by exact ⟨(bN rfl rfl rfl),(bN rfl rfl rfl),(bN rfl rfl rfl),(bN rfl rfl rfl),trivial⟩) ?_ ?_
 ·refine aE ?_
  refine aB (Le.nilB (17,0) 52 (60,0) 111 7 rfl rfl rfl) ?_
  refine aD (bV rfl (aj (qj (r:=decide (0 < drift)) _ _ rfl rfl rfl) ?_))
  refine am (ax rfl (fun hc39=> ?_) (fun hc39=> ?_))
  ·have hlk1:=hlk hc39
   have htk2:=htk1 hc39
   have hmd:=hmod hc39
   have hpq:jE t drift tick=vT t 2 0 (drift+1) (tick % (drift+1)):=if_pos hc39
   have hpn:jW drift=1:=if_pos hc39
   refine aE ?_
   refine aB (σ':=an 158 [(2,_),(3,_),(4,_),(5,_),(7,_),(8,_),(9,_),(14,_),(16,_),(17,_)] [((8,0),_),((9,0),_),((14,0),_),((16,0),_),((17,0),_),((60,0),_)] [] []) kp ?_
   refine go 11 ?_
   refine aj (eI (r:=drift+1) _ _ rfl rfl (bQ ab)) ?_
   refine aj (ap aa al (hlk1) rfl rfl) ?_
   refine go 7 ?_
   refine aj (eI (r:=drift+1) _ _ rfl rfl (bQ ab)) ?_
   refine go 3 ?_
   refine aj (bG (56,0) _ _ aa rfl rfl rfl (.sl rfl) ab rfl (List.nil_append _) rfl) ?_
   refine go 3 ?_
   refine aB (σ':=an 158 [(2,_),(3,_),(4,_),(7,_),(8,_),(9,_),(14,_),(16,_),(17,_),(19,_)] [((8,0),_),((9,0),_),((14,0),_),((16,0),_),((17,0),_),((56,0),_)] [] []) kp ?_
   refine go 9 ?_
   refine ay (⟨(),?_,?_⟩)
   ·trivial
   refine Le.mkJ [((60,0),(56,0))] [] rfl ?_ ?_ trivial trivial ?_
   ·exact ⟨(by repeat' (exact Lv.v)),(by repeat' (exact Lv.v)),(by repeat' (exact Lv.v)),(by repeat' (exact Lv.sl)),(bv (id:=(8,0)) rfl),(bv (id:=(9,0)) rfl),(bv (id:=(14,0)) rfl),(bv (id:=(16,0)) rfl),(bv (id:=(17,0)) rfl),trivial⟩
   ·exact ⟨(cI rfl rfl rfl rfl (by repeat' (first | exact Lv.v | exact Lv.sl | exact aK | refine ai ?_ ?_))),(cI rfl rfl rfl rfl (by repeat' (first | exact Lv.v | exact Lv.sl | exact aK | refine ai ?_ ?_))),(cI rfl rfl rfl rfl (by repeat' (first | exact Lv.v | exact aK | refine ai ?_ ?_))),(cI rfl rfl rfl rfl (by repeat' (first | exact Lv.v | exact aK | refine ai ?_ ?_))),(cI rfl rfl rfl rfl (ai (jC ag) (eW (eW (ai (aN ab) (ai (cL ag ag) (ai (cL ag ag) (ai (cL ag ag) (ai (cL ag ag) (eZ (eZ (eZ (eZ (rf (ai (ca rfl ab) (ai (by repeat' (exact Lv.v)) (ai (jC ag) (eW (ai (by repeat' (exact Lv.v)) (eW (eW (eW (ai (by repeat' (exact Lv.v)) (ai (by repeat' (exact Lv.v)) (eW (ai (jC ag) (ai (by repeat' (exact Lv.v)) (ai (by repeat' (exact Lv.v)) (ai (by repeat' (exact Lv.v)) aK))))))))))))))))))))))))))))),(cD rfl rfl rfl (by (((rw [hpq];unfold vT;rw [ht1,ht2,ht3]))))),trivial⟩
   kernel_rfl
  have htk2:=htk0 ab
  have hpq:jE t drift tick=[]:=if_neg ab
  have hpn:jW drift=0:=if_neg ab
  refine aR (⟨(),?_,?_⟩)
  ·trivial
  refine Le.mkJ [] [] rfl ?_ ?_ trivial trivial ?_
  ·exact ⟨(iV rfl),(iV rfl),(iV rfl),(iS rfl),(iP rfl),(iP rfl),(iP rfl),(iP rfl),(iP rfl),trivial⟩
  ·exact ⟨(bN rfl rfl rfl),(bN rfl rfl rfl),(bN rfl rfl rfl),(bN rfl rfl rfl),(cI rfl rfl rfl rfl (ai (jC ag) (eW (eW (ai (aN ab) (ai (cL ag ag) (ai (cL ag ag) (ai (cL ag ag) (ai (cL ag ag) (eZ (eZ (eZ (eZ (rf (ai (ca rfl ab) (ai (by repeat' (exact Lv.v)) (ai (jC ag) (eW (ai (by repeat' (exact Lv.v)) (eW (eW (eW (ai (by repeat' (exact Lv.v)) (ai (by repeat' (exact Lv.v)) (eW (ai (jC ag) (ai (by repeat' (exact Lv.v)) (ai (by repeat' (exact Lv.v)) (ai (by repeat' (exact Lv.v)) aK))))))))))))))))))))))))))))),(cD rfl rfl rfl ab),trivial⟩
  kernel_rfl
 intro u hu
 refine aG (bV rfl (aj (bO _ _ aa rfl rfl rfl 0 rfl ab rfl) ?_))
 refine go 4 ?_
 refine aj (bO _ _ aa rfl rfl rfl 1 rfl ab rfl) ?_
 refine go 6 ?_
 refine aj (bO _ _ aa rfl rfl rfl 2 rfl ab rfl) ?_
 refine go 2 ?_
 refine aE ?_
 refine aB (σ':=an 158 [(2,_),(7,_),(8,_),(9,_),(14,_),(16,_),(17,_)] [((8,0),_),((9,0),_),((14,0),_),((16,0),_),((17,0),_),((60,0),_)] [] []) kp ?_
 refine dA 11 [] ?_
 refine go 6 ?_
 refine aC (_,[]) (fun τ=> (ap aa al (hnv) rfl rfl)) ?_
 refine go 9 ?_
 refine aC (_,[]) (fun τ=> (ap aa al (hraw) rfl rfl)) ?_
 refine go 1 ?_
 refine aC (_,[]) (fun τ=> (ap aa al (hv) rfl rfl)) ?_
 refine go 13 ?_
 refine aF fun K13 hK13=> ?_
 refine aE ?_
 refine aB (σ':=an 158 [(2,_),(7,_),(9,_),(16,_),(17,_)] [((9,0),_),((16,0),_),((17,0),_),((60,0),_)] [] []) kp ?_
 refine aD (cp rfl (am (aH ?_)))
 refine aS (α:=Nat) (fun i=> i≤R.asked.length) 158 [(2,_),(7,_),(9,_),(16,_),(17,_)] [((9,0),_),((16,0),_)] (fun i=> [(20, .v (.int .i64 (i:Int)))]) (fun i=> [((17,0), .box 93 [.v (.bool s.up), .v (.int .i64 (s.ver)), .v (.int .i64 (s.epoch)), .v (.int .i64 (aT s.clock drift tick)), .sl s.dk.cells.length (ba s.dk.cells), .sl s.dk.pend.length (eT s.dk.pend), .sl s.vol.length (ba s.vol), .sl s.timers.length (ba s.timers), .v (.int .i64 (aP s 0)), .v (.int .i64 (aP s 1)), .v (.int .i64 (aP s 2)), .v (.int .i64 (aP s 3)), .v (.int .i64 (aP s 4)), .v (.int .i64 (aP s 5)), .v (.int .i64 (aP s 6)), .v (.int .i64 (aP s 7)), .v (.int .i64 (aP s 8)), .v (.int .i64 (aP s 9)), .v (.int .i64 (aP s 10)), .v (.int .i64 (aP s 11)), .v (.int .i64 (aP s 12)), .v (.int .i64 (aP s 13)), .v (.int .i64 (aP s 14)), .v (.int .i64 (aP s 15)), .v (.int .i64 (aP s 16)), .v (.int .i64 (aP s 17)), .v (.int .i64 (aP s 18)), .v (.int .i64 (aP s 19)), .v (.int .i64 (aP s 20)), .v (.int .i64 (aP s 21)), .v (.int .i64 (aP s 22)), .v (.int .i64 (aP s 23)), .v (.int .i64 (aP s 24)), .v (.int .i64 (aP s 25)), .v (.int .i64 (aP s 26)), .v (.int .i64 (aP s 27)), .v (.int .i64 (aP s 28)), .v (.int .i64 (aP s 29)), .v (.int .i64 (aP s 30)), .v (.int .i64 (aP s 31)), .v (.int .i64 (aP s 32)), .v (.int .i64 (aP s 33)), .v (.int .i64 (aP s 34)), .v (.int .i64 (aP s 35)), .v (.int .i64 (aP s 36)), .v (.int .i64 (aP s 37)), .v (.int .i64 (aP s 38)), .v (.int .i64 (aP s 39)), .v (.int .i64 (aP s 40)), .v (.int .i64 (s.wait)), .v (.int .i64 (0)), .v (.int .i64 (0)), .ref (60,0) 0 (jW drift+i), .v (.slice none 0 0), .v (.bool false), .v (.int .i64 (0)), .v (.slice none 0 0), .v (.int .i64 (self)), .v (.int .i64 ((h:Int))), .v (.int .i64 (s.counts.getD h 0)), .sl R.vars.length (ba R.vars), .sl R.acts.length (pt R.acts), .v (.int .i64 (R.steps:Int)), .v (.bool (!R.fin)), .sl (hG R.cov).length (ba (hG R.cov)), .sl R.asked.length (ba R.asked), .sl (hG R.cov).length (ba (hG R.cov))]),((60,0), .row 111 7 (jE t drift tick++oP t ans (R.asked.take i)))]) [] [] (fun i=> R.asked.length - i) 0 ?_ (by
  refine Le.mkJ [] [] rfl ?_ ?_ trivial trivial ?_
  ·exact ⟨(iV rfl),(iS rfl),(iP rfl),(iP rfl),(iP rfl),(aN ag),trivial⟩
  ·exact ⟨(bN rfl rfl rfl),(bN rfl rfl rfl),(cI rfl rfl rfl rfl (ai (jC ag) (eW (eW (eW (ai (cL ag ag) (ai (cL ag ag) (ai (cL ag ag) (ai (cL ag ag) (eZ (eZ (eZ (eZ (rf (ai (ca rfl ag) (ai (by repeat' (exact Lv.v)) (ai (jC ag) (eW (ai (by repeat' (exact Lv.v)) lz))))))))))))))))))),(cD rfl rfl rfl (by (((simp [oP];done))))),trivial⟩
  kernel_rfl) ?_
 ·omega
 intro i hi
 refine aF fun K15 hK15=> ?_
 refine go 8 ?_
 refine ax rfl (fun hc93=> ?_) (fun hc93=> ?_)
 ·have hk1:=hak i ab
  have hl1:=hld i (R.asked.getD i 0) ab hk1.1 hk1.2
  have q2:=hqs i ab
  have q3:(jW drift+i)*7=(jE t drift tick++oP t ans (R.asked.take i)).length:=by rw [List.length_append,hpl,hql,List.length_take,Nat.min_eq_left ab];omega
  have q4:(jE t drift tick++oP t ans (R.asked.take i))++[.v (.int .i64 self), .v (.int .i64 (h:Int)), .v (.int .i64 (s.counts.getD h 0)), .v (.int .i64 1), .v (.int .i64 (i:Int)), .v (.int .i64 (R.asked.getD i 0)), .v (.int .i64 (el ans i (R.asked.getD i 0)))]=jE t drift tick++oP t ans (R.asked.take (i+1)):=by rw [List.append_assoc,← q2];unfold vT;rw [ht1,ht2,ht3]
  refine aR (hK15 _ ?_)
  refine go 10 ?_
  refine aB (σ':=an 158 [(2,_),(7,_),(9,_),(16,_),(17,_),(20,_),(21,_)] [((9,0),_),((16,0),_),((17,0),_),((60,0),_),((21,0),_)] [] []) kp ?_
  refine dA 22 [(60,0),(120,0)] ?_
  refine go 14 ?_
  refine aC (_,[]) (fun τ=> aQ _ _ aa rfl rfl _ rfl ab (by (simp only [aq,aJ,aM,aq,bC,dQ,bT,eU,cX];omega)) (by exact Nat.mul_one _)) ?_
  refine go 1 ?_
  refine aC (_,[]) (fun τ=> bl _ aa rfl (by exact cw _ _ ab) rfl) ?_
  refine go 13 ?_
  refine aC (_,[]) (fun τ=> aQ _ _ aa rfl rfl _ rfl ab (by (simp only [aq,aJ,aM,aq,bC,dQ,bT,eU,cX];omega)) (by exact Nat.mul_one _)) ?_
  refine go 1 ?_
  refine aC (_,[]) (fun τ=> bl _ aa rfl (by exact cw _ _ ab) rfl) ?_
  refine go 1 ?_
  refine aC (_,[]) (fun τ=> (ap aa al (hl1) rfl rfl)) ?_
  refine go 5 ?_
  refine aC (_,[((60,0), .gone),((120,0),_)]) (fun τ=> qR (120,0) _ _ aa rfl rfl q3 (.sl rfl) ab rfl rfl rfl (by exact q4) rfl) ?_
  refine go 6 ?_
  refine aB (σ':=an 158 [(2,_),(7,_),(9,_),(16,_),(17,_),(20,_)] [((9,0),_),((16,0),_),((17,0),_),((120,0),_)] [] []) kp ?_
  refine go 4 ?_
  refine ay (⟨i+1,?_,?_,?_⟩)
  ·omega
  ·refine Le.mkJ [((60,0),(120,0))] [] rfl ?_ ?_ trivial trivial ?_
   ·exact ⟨(by repeat' (exact Lv.v)),(by repeat' (exact Lv.sl)),(bv (id:=(9,0)) rfl),(bv (id:=(16,0)) rfl),(bv (id:=(17,0)) rfl),(aN ag),trivial⟩
   ·exact ⟨(cI rfl rfl rfl rfl (by repeat' (first | exact Lv.v | exact Lv.sl | exact aK | refine ai ?_ ?_))),(cI rfl rfl rfl rfl (by repeat' (first | exact Lv.v | exact aK | refine ai ?_ ?_))),(cI rfl rfl rfl rfl (ai (jC ag) (eW (eW (eW (ai (cL ag ag) (ai (cL ag ag) (ai (cL ag ag) (ai (cL ag ag) (eZ (eZ (eZ (eZ (rf (ai (ca rfl ag) (ai (by repeat' (exact Lv.v)) (ai (jC ag) (eW (ai (by repeat' (exact Lv.v)) lz))))))))))))))))))),(cD rfl rfl rfl ag),trivial⟩
   kernel_rfl
  omega
 obtain rfl:i=R.asked.length:=by omega
 rw [List.take_length]
 refine aW (id (hK13 _ ?_))
 refine go 5 ?_
 refine aj (bO _ _ aa rfl rfl rfl h rfl ab (show 8+h*1=8+h from by omega)) ?_
 refine aj (bK _ aa rfl rfl (by exact Iz _ _ _ _ _ _ _ _ _ _ _ h ab)) ?_
 refine go 3 ?_
 refine aj (bO _ _ aa rfl rfl rfl h rfl ab (show 8+h*1=8+h from by omega)) ?_
 refine aj (dE _ _ aa rfl rfl rfl rfl (by show (8+h)+1≤67;omega) (by exact (DY s.up s.ver s.epoch (aT s.clock drift tick) _ _ _ _ (aP s) s.wait _ h ab _).trans (congrArg (fun e=> Au s.up s.ver s.epoch (aT s.clock drift tick) _ _ _ _ e s.wait++_) hce))) ?_
 refine am (aE ?_)
 refine aB (σ':=an 158 [(9,_),(16,_),(17,_)] [((9,0),_),((16,0),_),((17,0),_),((60,0),_)] [] []) kp ?_
 refine go 6 ?_
 refine aj (gA _ _ _ aa rfl P.d R.vars.length (.lit rfl rfl) .dflt hd (Nat.le_refl _) hds hdl) ?_
 refine aj (ap aa al (hin) rfl rfl) ?_
 refine go 4 ?_
 refine aF fun K21 hK21=> ?_
 refine aG (cp rfl (am (aH ?_)))
 refine aB (Le.frzB (ys:=jE t drift tick++oP t ans R.asked) (17,0) 52 rfl rfl rfl rfl (by rw [List.drop_zero,List.take_of_length_le (by rw [hL7];exact Nat.le_refl _)]) (by rw [hL7,Nat.zero_add];exact Nat.le_refl _)) ?_
 refine aB (Le.nilB (17,0) 53 (63,0) 117 9 rfl rfl rfl) ?_
 refine aB (Le.nilB (17,0) 56 (64,0) 3 1 rfl rfl rfl) ?_
 refine aS (α:=Nat) (fun k=> k≤R.acts.length) 158 [(16,_),(17,_)] [((16,0),_)] (fun k=> [(22, .v (.int .i64 (k:Int)))]) (fun k=> [((17,0), .box 93 [.v (.bool (co s h (aT s.clock drift tick) P R k).1.up), .v (.int .i64 ((co s h (aT s.clock drift tick) P R k).1.ver)), .v (.int .i64 ((co s h (aT s.clock drift tick) P R k).1.epoch)), .v (.int .i64 ((co s h (aT s.clock drift tick) P R k).1.clock)), .sl (co s h (aT s.clock drift tick) P R k).1.dk.cells.length (ba (co s h (aT s.clock drift tick) P R k).1.dk.cells), .sl (co s h (aT s.clock drift tick) P R k).1.dk.pend.length (eT (co s h (aT s.clock drift tick) P R k).1.dk.pend), .sl (co s h (aT s.clock drift tick) P R k).1.vol.length (ba (co s h (aT s.clock drift tick) P R k).1.vol), .sl (co s h (aT s.clock drift tick) P R k).1.timers.length (ba (co s h (aT s.clock drift tick) P R k).1.timers), .v (.int .i64 (aP (co s h (aT s.clock drift tick) P R k).1 0)), .v (.int .i64 (aP (co s h (aT s.clock drift tick) P R k).1 1)), .v (.int .i64 (aP (co s h (aT s.clock drift tick) P R k).1 2)), .v (.int .i64 (aP (co s h (aT s.clock drift tick) P R k).1 3)), .v (.int .i64 (aP (co s h (aT s.clock drift tick) P R k).1 4)), .v (.int .i64 (aP (co s h (aT s.clock drift tick) P R k).1 5)), .v (.int .i64 (aP (co s h (aT s.clock drift tick) P R k).1 6)), .v (.int .i64 (aP (co s h (aT s.clock drift tick) P R k).1 7)), .v (.int .i64 (aP (co s h (aT s.clock drift tick) P R k).1 8)), .v (.int .i64 (aP (co s h (aT s.clock drift tick) P R k).1 9)), .v (.int .i64 (aP (co s h (aT s.clock drift tick) P R k).1 10)), .v (.int .i64 (aP (co s h (aT s.clock drift tick) P R k).1 11)), .v (.int .i64 (aP (co s h (aT s.clock drift tick) P R k).1 12)), .v (.int .i64 (aP (co s h (aT s.clock drift tick) P R k).1 13)), .v (.int .i64 (aP (co s h (aT s.clock drift tick) P R k).1 14)), .v (.int .i64 (aP (co s h (aT s.clock drift tick) P R k).1 15)), .v (.int .i64 (aP (co s h (aT s.clock drift tick) P R k).1 16)), .v (.int .i64 (aP (co s h (aT s.clock drift tick) P R k).1 17)), .v (.int .i64 (aP (co s h (aT s.clock drift tick) P R k).1 18)), .v (.int .i64 (aP (co s h (aT s.clock drift tick) P R k).1 19)), .v (.int .i64 (aP (co s h (aT s.clock drift tick) P R k).1 20)), .v (.int .i64 (aP (co s h (aT s.clock drift tick) P R k).1 21)), .v (.int .i64 (aP (co s h (aT s.clock drift tick) P R k).1 22)), .v (.int .i64 (aP (co s h (aT s.clock drift tick) P R k).1 23)), .v (.int .i64 (aP (co s h (aT s.clock drift tick) P R k).1 24)), .v (.int .i64 (aP (co s h (aT s.clock drift tick) P R k).1 25)), .v (.int .i64 (aP (co s h (aT s.clock drift tick) P R k).1 26)), .v (.int .i64 (aP (co s h (aT s.clock drift tick) P R k).1 27)), .v (.int .i64 (aP (co s h (aT s.clock drift tick) P R k).1 28)), .v (.int .i64 (aP (co s h (aT s.clock drift tick) P R k).1 29)), .v (.int .i64 (aP (co s h (aT s.clock drift tick) P R k).1 30)), .v (.int .i64 (aP (co s h (aT s.clock drift tick) P R k).1 31)), .v (.int .i64 (aP (co s h (aT s.clock drift tick) P R k).1 32)), .v (.int .i64 (aP (co s h (aT s.clock drift tick) P R k).1 33)), .v (.int .i64 (aP (co s h (aT s.clock drift tick) P R k).1 34)), .v (.int .i64 (aP (co s h (aT s.clock drift tick) P R k).1 35)), .v (.int .i64 (aP (co s h (aT s.clock drift tick) P R k).1 36)), .v (.int .i64 (aP (co s h (aT s.clock drift tick) P R k).1 37)), .v (.int .i64 (aP (co s h (aT s.clock drift tick) P R k).1 38)), .v (.int .i64 (aP (co s h (aT s.clock drift tick) P R k).1 39)), .v (.int .i64 (aP (co s h (aT s.clock drift tick) P R k).1 40)), .v (.int .i64 ((co s h (aT s.clock drift tick) P R k).1.wait)), .v (.int .i64 (0)), .v (.int .i64 (0)), .sl (jW drift+R.asked.length) (jE t drift tick++oP t ans R.asked), .ref (63,0) 0 (co s h (aT s.clock drift tick) P R k).2.sent.length, .v (.bool (co s h (aT s.clock drift tick) P R k).2.repl), .v (.int .i64 ((co s h (aT s.clock drift tick) P R k).2.value)), .ref (64,0) 0 (co s h (aT s.clock drift tick) P R k).2.fails.length, .v (.int .i64 (self)), .v (.int .i64 ((h:Int))), .v (.int .i64 (s.counts.getD h 0)), .sl R.vars.length (ba R.vars), .sl R.acts.length (pt R.acts), .v (.int .i64 (R.steps:Int)), .v (.bool (!R.fin)), .sl (hG R.cov).length (ba (hG R.cov)), .sl R.asked.length (ba R.asked), .sl (hG R.cov).length (ba (hG R.cov))]),((63,0), .row 117 9 (xI ⟨self,(h:Int),s.counts.getD h 0⟩ (co s h (aT s.clock drift tick) P R k).2.sent)),((64,0), .row 3 1 (ba (co s h (aT s.clock drift tick) P R k).2.fails))]) [] [] (fun k=> R.acts.length - k) 0 ?_ (kj [0,1,2,2] [] []) ?_
 ·omega
 intro k hk
 refine aF fun K23 hK23=> ?_
 refine go 8 ?_
 refine ax rfl (fun hc146=> ?_) (fun hc146=> ?_)
 ·have ha:=hq k ab (jW drift+R.asked.length) (jE t drift tick++oP t ans R.asked)
  have hga:=uL R.acts k ab
  refine aR (hK23 _ ?_)
  refine aE (aH ?_)
  refine aB (σ':=an 158 [(16,_),(17,_),(22,_)] [((16,0),_),((17,0),_),((63,0),_),((64,0),_)] [] []) kp ?_
  refine dA 7 [] ?_
  refine go 10 ?_
  refine aC (_,[]) (fun τ=> aQ _ _ aa rfl rfl _ rfl ab (by (simp only [aq,aJ,aM,aq,bC,dQ,bT,eU,cX];omega)) ag) ?_
  refine go 1 ?_
  refine aC (_,[]) (fun τ=> bs _ aa rfl (by exact hga) rfl) ?_
  refine go 1 ?_
  refine ci ⟨rfl,?_⟩
  refine aj (bu aa [((3,9),(63,0)),((4,9),(64,0)),((3,8),(156,0)),((4,8),(156,1))] ar (ha) ob tr tr rfl rfl ae ae) ?_
  refine go 6 ?_
  refine ay (⟨k+1,?_,?_,?_⟩)
  ·omega
  ·refine Le.mkJ [((63,0),(156,0)),((64,0),(156,1))] [] rfl ?_ ?_ trivial trivial ?_
   ·exact ⟨(bv (id:=(16,0)) rfl),(bv (id:=(17,0)) rfl),(aN ag),trivial⟩
   ·exact ⟨(cI rfl rfl rfl rfl (by repeat' (first | exact Lv.v | exact aK | refine ai ?_ ?_))),(cI rfl rfl rfl rfl lz),(cD rfl rfl rfl ag),(cD rfl rfl rfl ag),trivial⟩
   kernel_rfl
  omega
 obtain rfl:k=R.acts.length:=by omega
 refine aW (id (hK21 _ ?_))
 refine go 4 ?_
 refine au ?_
 exact cq (.inr rfl) rfl (.cellA aa rfl rfl rfl) (Le.out [] [(63,0),(64,0)] (.agg rfl (xF (ai .sl (ai .sl (ai .sl (ai .sl (so (so (so (so (xF (ai .sl (ai (dI rfl rfl (dQ _ _).symm rfl) (ai .v (ai .v (ai (dI rfl rfl (by rw [aq,Nat.mul_one]) rfl) lz)))))))))))))))) rfl rfl rfl tr trivial)
end Go.Proofs.YtmjnackchaahbaaGreat

set_option maxHeartbeats 2000000
namespace Go.Proofs.YtmjnackchaahbaaGreat
open Go.RowKit

abbrev Pq:Ms:={ vars:=[],pc:=0,fin:=true }
set_option maxHeartbeats 4000000 in
theorem BG (s:Ns) (hs:fJ s) (ho:eX s.dk) (hc:s.counts.length=41) (hcb: -1000000≤s.counts.getD 40 0∧s.counts.getD 40 0≤1000000) (hep: -1000000≤s.epoch∧s.epoch≤1000000)
  (self:Int) (t:Tl) (ht1:t.c1=self) (ht2:t.c2=40) (ht3:t.c3=s.counts.getD 40 0) (ks:List Int) (hlk: ∀ i:Nat,i < s.dk.pend.length→tg t 3 (i:Int) 2 (ks.getD i 0)):
  Spec Tryz.prog 79 (aI [ii s, .v (.int .i64 self), .sl t.na t.A] []) (aA (wx (fQ s (fh s.dk.pend.length ks)) {} ⟨self,40,s.counts.getD 40 0⟩ Pq s.dk.pend.length (ym t ks s.dk.pend.length)) []):=by
 have hp:=hs.p
 have hcc:=hs.c
 have hv:=hs.v
 have hcr:=vi s.dk ab ab ho (fh s.dk.pend.length ks) (eR _ _)
 rw [eR] at hcr
 have hce:=pz s 40 ab (s.counts.getD 40 0+1)
 have hcb2: -1000000≤aP s 40∧aP s 40≤1000000:=hcb
 have hl1:(s.dk.crash (fh s.dk.pend.length ks)).cells.length=s.dk.cells.length:=dq _ _
 have hql:=yo t ks
 have hqs:=uG t ks
 unfold vT at hqs
 rw [ht1,ht2,ht3] at hqs
 unfold tg at hlk
 rw [ht1,ht2,ht3] at hlk
 refine Spec.ofN Tryz.func79 rfl Tryz.ntmps79 rfl ?_
 refine go 8 ?_
 refine aj (bO _ _ aa rfl rfl rfl 40 rfl ab rfl) ?_
 refine go 7 ?_
 refine aj (aX _ ea) (am (aF fun K4 hK4=> ?_))
 refine aG (cp rfl (am (aH ?_)))
 refine aB (Le.nilB (7,0) 52 (60,0) 111 7 rfl rfl rfl) ?_
 refine aB (Le.nilS 8 (61,0) 4 1 rfl rfl) ?_
 refine aS (α:=Nat) (fun k=> k≤s.dk.pend.length) 80 [(2,_),(3,_),(6,_),(7,_)] [((3,0),_),((6,0),_)] (fun k=> [(8, .ref (61,0) 0 k),(9, .v (.int .i64 (k:Int)))]) (fun k=> [((7,0), .box 93 [.v (.bool s.up), .v (.int .i64 (s.ver)), .v (.int .i64 (s.epoch)), .v (.int .i64 (s.clock)), .sl s.dk.cells.length (ba s.dk.cells), .sl s.dk.pend.length (eT s.dk.pend), .sl s.vol.length (ba s.vol), .sl s.timers.length (ba s.timers), .v (.int .i64 (aP s 0)), .v (.int .i64 (aP s 1)), .v (.int .i64 (aP s 2)), .v (.int .i64 (aP s 3)), .v (.int .i64 (aP s 4)), .v (.int .i64 (aP s 5)), .v (.int .i64 (aP s 6)), .v (.int .i64 (aP s 7)), .v (.int .i64 (aP s 8)), .v (.int .i64 (aP s 9)), .v (.int .i64 (aP s 10)), .v (.int .i64 (aP s 11)), .v (.int .i64 (aP s 12)), .v (.int .i64 (aP s 13)), .v (.int .i64 (aP s 14)), .v (.int .i64 (aP s 15)), .v (.int .i64 (aP s 16)), .v (.int .i64 (aP s 17)), .v (.int .i64 (aP s 18)), .v (.int .i64 (aP s 19)), .v (.int .i64 (aP s 20)), .v (.int .i64 (aP s 21)), .v (.int .i64 (aP s 22)), .v (.int .i64 (aP s 23)), .v (.int .i64 (aP s 24)), .v (.int .i64 (aP s 25)), .v (.int .i64 (aP s 26)), .v (.int .i64 (aP s 27)), .v (.int .i64 (aP s 28)), .v (.int .i64 (aP s 29)), .v (.int .i64 (aP s 30)), .v (.int .i64 (aP s 31)), .v (.int .i64 (aP s 32)), .v (.int .i64 (aP s 33)), .v (.int .i64 (aP s 34)), .v (.int .i64 (aP s 35)), .v (.int .i64 (aP s 36)), .v (.int .i64 (aP s 37)), .v (.int .i64 (aP s 38)), .v (.int .i64 (aP s 39)), .v (.int .i64 (aP s 40)), .v (.int .i64 (s.wait)), .v (.int .i64 (0)), .v (.int .i64 (0)), .ref (60,0) 0 k, .v (.slice none 0 0), .v (.bool false), .v (.int .i64 (0)), .v (.slice none 0 0), .v (.int .i64 (self)), .v (.int .i64 40), .v (.int .i64 (s.counts.getD 40 0)), .v (.slice none 0 0), .v (.slice none 0 0), .v (.int .i64 (0)), .v (.bool false), .v (.slice none 0 0), .v (.slice none 0 0), .v (.slice none 0 0)]),((60,0), .row 111 7 (ym t ks k)),((61,0), .row 4 1 (xo (fh k ks)))]) [] [] (fun k=> s.dk.pend.length - k) 0 ?_ (by
  refine Le.mkJ [] [] rfl ?_ ?_ trivial trivial ?_
  ·exact ⟨(iS rfl),(iP rfl),(iP rfl),(iP rfl),(ca rfl ag),(aN ag),trivial⟩
  ·exact ⟨(bN rfl rfl rfl),(bN rfl rfl rfl),(cI rfl rfl rfl rfl (ai (jC ag) (eW (eW (eW (ai (cL ag ag) (ai (cL ag ag) (ai (cL ag ag) (ai (cL ag ag) (eZ (eZ (eZ (eZ (rf (ai (ca rfl ag) (ai (by repeat' (exact Lv.v)) (ai (jC ag) (eW (ai (by repeat' (exact Lv.v)) (eW (eW (eW (ai (by repeat' (exact Lv.v)) (ai (by repeat' (exact Lv.v)) (eW (ai (jC ag) (ai (by repeat' (exact Lv.v)) (ai (by repeat' (exact Lv.v)) (ai (by repeat' (exact Lv.v)) aK))))))))))))))))))))))))))))),(cD rfl rfl rfl ag),(cD rfl rfl rfl ag),trivial⟩
  kernel_rfl) ?_
 ·omega
 intro k hk
 refine aF fun K6 hK6=> ?_
 refine go 8 ?_
 refine ax rfl (fun hc24=> ?_) (fun hc24=> ?_)
 ·have hl:=hlk k ab
  have hkb:=pL k ks
  have q2:=hqs k
  refine aR (hK6 _ ?_)
  refine go 13 ?_
  refine aj (ap aa al (hl) rfl rfl) ?_
  refine cp rfl (am (aE ?_))
  refine aB (σ':=an 80 [(2,_),(3,_),(6,_),(7,_),(8,_),(9,_),(10,_),(11,_)] [((3,0),_),((6,0),_),((7,0),_),((60,0),_),((61,0),_),((10,0),_)] [] []) kp ?_
  refine go 7 ?_
  refine aj (bG (40,0) _ _ aa rfl rfl (hql k).symm (.sl rfl) ab rfl (by exact q2) rfl) ?_
  refine go 6 ?_
  refine aj (bb (r:=decide (ks.getD k 0=1)) _ _ rfl rfl (by rw [Bool.eq_iff_iff];simp)) ?_
  refine go 1 ?_
  refine aj (bG (46,0) _ _ aa rfl rfl (by rw [aJ,eR,Nat.mul_one]) (.sl rfl) ab rfl ((qU _ _).trans (congrArg xo hkb.symm)) rfl) ?_
  refine dZ rfl (Ef ?_)
  refine aB (σ':=an 80 [(2,_),(3,_),(6,_),(7,_),(8,_),(9,_)] [((3,0),_),((6,0),_),((7,0),_),((40,0),_),((46,0),_)] [] []) kp ?_
  refine go 4 ?_
  refine ay (⟨k+1,?_,?_,?_⟩)
  ·omega
  ·refine Le.mkJ [((61,0),(46,0)),((60,0),(40,0))] [] rfl ?_ ?_ trivial trivial ?_
   ·exact ⟨(by repeat' (exact Lv.sl)),(bv (id:=(3,0)) rfl),(bv (id:=(6,0)) rfl),(bv (id:=(7,0)) rfl),(ca rfl ag),(aN ag),trivial⟩
   ·exact ⟨(cI rfl rfl rfl rfl (by repeat' (first | exact Lv.v | exact Lv.sl | exact aK | refine ai ?_ ?_))),(cI rfl rfl rfl rfl (by repeat' (first | exact Lv.v | exact aK | refine ai ?_ ?_))),(cI rfl rfl rfl rfl (ai (jC ag) (eW (eW (eW (ai (cL ag ag) (ai (cL ag ag) (ai (cL ag ag) (ai (cL ag ag) (eZ (eZ (eZ (eZ (rf (ai (ca rfl ag) (ai (by repeat' (exact Lv.v)) (ai (jC ag) (eW (ai (by repeat' (exact Lv.v)) (eW (eW (eW (ai (by repeat' (exact Lv.v)) (ai (by repeat' (exact Lv.v)) (eW (ai (jC ag) (ai (by repeat' (exact Lv.v)) (ai (by repeat' (exact Lv.v)) (ai (by repeat' (exact Lv.v)) aK))))))))))))))))))))))))))))),(cD rfl rfl rfl ag),(cD rfl rfl rfl ag),trivial⟩
   kernel_rfl
  omega
 obtain rfl:k=s.dk.pend.length:=by omega
 refine aW (id (hK4 _ ?_))
 refine aE ?_
 refine aB (Le.frzS (ys:=xo (fh s.dk.pend.length ks)) 8 mP rfl rfl (by rw [List.drop_zero,Nat.mul_one,List.take_of_length_le (by rw [aJ,eR];omega)]) (by rw [aJ,eR];omega)) ?_
 refine go 4 ?_
 refine aj (ap aa al (hcr) rfl rfl) ?_
 refine go 7 ?_
 refine aj (bO _ _ aa rfl rfl rfl 40 rfl ab rfl) ?_
 refine go 4 ?_
 refine aj (bO _ _ aa rfl rfl rfl 40 rfl ab rfl) ?_
 refine aj (dE _ _ aa rfl rfl rfl rfl (by show 48+1≤67;omega) (by exact (DY s.up s.ver s.epoch s.clock _ _ _ _ (aP s) s.wait _ 40 ab _).trans (congrArg (fun e=> Au s.up s.ver s.epoch s.clock _ _ _ _ e s.wait++_) hce))) ?_
 refine am (aE ?_)
 refine aB (σ':=an 80 [(3,_),(6,_),(7,_)] [((3,0),_),((6,0),_),((7,0),_),((60,0),_)] [] []) kp ?_
 refine go 13 ?_
 refine aj (oV (70,0) _ _ aa rfl rfl _ rfl rfl ab rfl rfl) ?_
 refine go 9 ?_
 refine aE ?_
 refine aB (σ':=an 80 [(6,_),(7,_)] [((6,0),_),((7,0),_),((60,0),_),((70,0),_)] [] []) kp ?_
 refine go 14 ?_
 exact au (cq (.inr rfl) rfl (.cellA aa rfl rfl rfl) (Le.out [] [(60,0),(70,0)] (.agg rfl (xF (ai (cL rfl rfl) (ai (cL rfl rfl) (ai (Id rfl rfl (by simp [fQ]) (by simp [fQ,ba,rep]) rfl) (ai .nil (so (so (so (so (xF (ai (dI rfl rfl (hql _).symm rfl) lz)))))))))))) rfl rfl rfl tr trivial))
set_option maxHeartbeats 4000000 in
theorem Ec (s:Ns) (hs:fJ s) (ho:eX s.dk) (P:Pg) (ver self nodes drift:Int) (na:Nat) (A:List PV) (hpd:P.d≤1000) (hpv:P.v≤1000) (q:Ns×Nr) (c:Cz) (R:Ms) (n:Nat) (L:List PV)
  (hH:Spec Tryz.prog 80 (aI [ii (cH s P ver),fY P, .v (.int .i64 ((0:Nat):Int)), .v (.int .i64 self), .v (.int .i64 nodes), .v (.int .i64 drift), .agg [.v (.int .i64 0), .v (.int .i64 0), .v (.int .i64 0), .v (.int .i64 0), .v (.int .i64 0), .v (.int .i64 0), .v (.int .i64 0), .v (.int .i64 0), .v (.int .i64 0)], .sl na A] []) (aA (wx q.1 q.2 c R n L) [])):
  Spec Tryz.prog 77 (aI [ii s,fY P, .v (.int .i64 ver), .v (.int .i64 self), .v (.int .i64 nodes), .v (.int .i64 drift), .sl na A] []) (aA (wx q.1 q.2 c R n L) []):=by
 have hcc:=hs.c
 have hpp:=hs.p
 have hrz:=tx s.dk P.d ab ab ab ho
 obtain ⟨dk,hdk⟩: ∃ dk,dk=if s.dk.cells.length=P.d then s.dk else s.dk.resize P.d:=⟨_,rfl⟩
 have hb:cH s P ver={ s with ver:=ver,dk:=dk,vol:=List.replicate P.v 0,timers:=[],wait:= -1,up:=true }:=by rw [hdk];rfl
 rw [hb] at hH
 refine Spec.ofN Tryz.func77 rfl Tryz.ntmps77 rfl ?_
 refine go 10 ?_
 refine gP (α:=Unit) (fun u=> True) 45 [(3,_),(4,_),(5,_),(6,_),(7,_),(8,_),(14,_)] [((8,0),_),((14,0),_)] (fun u=> []) (fun u=> [((7,0), .box 83 [.v (.bool s.up), .v (.int .i64 ver), .v (.int .i64 (s.epoch)), .v (.int .i64 (s.clock)), .sl dk.cells.length (ba dk.cells), .sl dk.pend.length (eT dk.pend), .sl s.vol.length (ba s.vol), .sl s.timers.length (ba s.timers), .v (.int .i64 (aP s 0)), .v (.int .i64 (aP s 1)), .v (.int .i64 (aP s 2)), .v (.int .i64 (aP s 3)), .v (.int .i64 (aP s 4)), .v (.int .i64 (aP s 5)), .v (.int .i64 (aP s 6)), .v (.int .i64 (aP s 7)), .v (.int .i64 (aP s 8)), .v (.int .i64 (aP s 9)), .v (.int .i64 (aP s 10)), .v (.int .i64 (aP s 11)), .v (.int .i64 (aP s 12)), .v (.int .i64 (aP s 13)), .v (.int .i64 (aP s 14)), .v (.int .i64 (aP s 15)), .v (.int .i64 (aP s 16)), .v (.int .i64 (aP s 17)), .v (.int .i64 (aP s 18)), .v (.int .i64 (aP s 19)), .v (.int .i64 (aP s 20)), .v (.int .i64 (aP s 21)), .v (.int .i64 (aP s 22)), .v (.int .i64 (aP s 23)), .v (.int .i64 (aP s 24)), .v (.int .i64 (aP s 25)), .v (.int .i64 (aP s 26)), .v (.int .i64 (aP s 27)), .v (.int .i64 (aP s 28)), .v (.int .i64 (aP s 29)), .v (.int .i64 (aP s 30)), .v (.int .i64 (aP s 31)), .v (.int .i64 (aP s 32)), .v (.int .i64 (aP s 33)), .v (.int .i64 (aP s 34)), .v (.int .i64 (aP s 35)), .v (.int .i64 (aP s 36)), .v (.int .i64 (aP s 37)), .v (.int .i64 (aP s 38)), .v (.int .i64 (aP s 39)), .v (.int .i64 (aP s 40)), .v (.int .i64 (s.wait)), .v (.int .i64 (0)), .v (.int .i64 (0))])]) [] []
  (by exact ⟨(iV rfl),(iV rfl),(iV rfl),(iS rfl),(iP rfl),(iP rfl),(iP rfl),trivial⟩)
  (by exact ⟨(bN rfl rfl rfl),(bN rfl rfl rfl),trivial⟩) ?_ ?_
 ·refine go 7 ?_
  refine aj (cV (r:=decide (s.dk.cells.length≠P.d)) _ _ rfl rfl (by rw [Bool.eq_iff_iff];simp;omega)) ?_
  refine am (ax rfl (fun hc23=> ?_) (fun hc23=> ?_))
  ·have hb2:dk=s.dk.resize P.d:=hdk.trans (if_neg (by simpa using hc23))
   refine go 5 ?_
   refine aj (ap aa al (hrz) rfl rfl) ?_
   refine go 2 ?_
   refine ay (⟨(),?_,?_⟩)
   ·trivial
   refine Le.mkJ [] [] rfl ?_ ?_ trivial trivial ?_
   ·exact ⟨(iV rfl),(iV rfl),(iV rfl),(iS rfl),(iP rfl),(iP rfl),(iP rfl),trivial⟩
   ·exact ⟨(bN rfl rfl rfl),(bN rfl rfl rfl),(cI rfl rfl rfl rfl (ai (jC ag) (eW (eW (eW (ai (cL (by (rw [hb2])) (by (rw [hb2]))) (ai (cL (by (rw [hb2])) (by (rw [hb2]))) lz))))))),trivial⟩
   kernel_rfl
  have hb2:dk=s.dk:=hdk.trans (if_pos (by simpa using hc23))
  refine aR (⟨(),?_,?_⟩)
  ·trivial
  refine Le.mkJ [] [] rfl ?_ ?_ trivial trivial ?_
  ·exact ⟨(iV rfl),(iV rfl),(iV rfl),(iS rfl),(iP rfl),(iP rfl),(iP rfl),trivial⟩
  ·exact ⟨(bN rfl rfl rfl),(bN rfl rfl rfl),(cI rfl rfl rfl rfl (ai (jC ag) (eW (eW (eW (ai (cL (by (rw [hb2])) (by (rw [hb2]))) (ai (cL (by (rw [hb2])) (by (rw [hb2]))) lz))))))),trivial⟩
  kernel_rfl
 intro u hu
 refine go 3 ?_
 refine aj (oV (32,0) _ _ aa rfl rfl (List.replicate P.v (0:Int)).length (by rw [List.length_replicate]) (by rw [List.length_replicate]) (by rw [List.length_replicate];omega) rfl (show _=ba (List.replicate P.v 0) by rw [List.length_replicate];exact oq P.v)) ?_
 refine go 15 ?_
 refine aE ?_
 refine aB (Le.frzB (ys:=ba (List.replicate P.v 0)) (7,0) 6 rfl rfl rfl rfl (by rw [List.drop_zero,Nat.mul_one,List.take_of_length_le (by rw [aq];exact Nat.le_refl _)]) (by rw [aq,Nat.mul_one,Nat.zero_add];exact Nat.le_refl _)) ?_
 refine go 8 ?_
 refine aj (ap aa al (hH) rfl rfl) ?_
 refine go 2 ?_
 exact au (uo [])
end Go.Proofs.YtmjnackchaahbaaGreat

set_option maxHeartbeats 2000000
namespace Go.Proofs.YtmjnackchaahbaaGreat
open Go.RowKit

set_option maxHeartbeats 4000000 in
theorem HH (s:Ns) (hup:s.up=false) (hep:0≤s.epoch) (P Q X:Pg) (ver:Int) (hX1:s.epoch % 2=1→X=Q∧ver=1) (hX2: ¬ s.epoch % 2=1→X=P∧ver=0) (drift:Int) (a:Na) (h1:a.draws.length≤1000) (h2:a.keeps.length≤1000) (c:Cz) (R:Ms) (q:Ns×Nr) (n:Nat) (L:List PV)
  (hS:Spec Tryz.prog 77 (aI [ii s,fY X, .v (.int .i64 ver), .v (.int .i64 1), .v (.int .i64 3), .v (.int .i64 drift), .sl (eD 1 0 (s.counts.getD 0 0) a.tick a.draws a.keeps).length (nD (eD 1 0 (s.counts.getD 0 0) a.tick a.draws a.keeps))] []) (aA (wx q.1 q.2 c R n L) [])):
  Spec Tryz.prog 44 (aI [ii s,fY P,fY Q, .v (.int .i64 drift),vz a] []) (aA (wx q.1 q.2 c R n L) []):=by
 have hans:=ir 1 0 (s.counts.getD 0 0) a h1 h2
 refine Spec.ofN Tryz.func44 rfl Tryz.ntmps44 rfl ?_
 refine go 11 ?_
 refine aj (fI (r:=true) _ rfl (by rw [hup];rfl)) ?_
 refine go 10 ?_
 refine gP (α:=Unit) (fun u=> True) 71 [(3,_),(5,_),(9,_),(10,_),(11,_)] [((5,0),_),((9,0),_),((10,0),_)] (fun u=> [(12, .v (.int .i64 ver))]) (fun u=> [((11,0), .box 26 [.sl X.c.length (inl X.c), .v (.int .i64 (X.e 0)), .v (.int .i64 (X.e 1)), .v (.int .i64 (X.e 2)), .v (.int .i64 (X.e 3)), .v (.int .i64 (X.e 4)), .v (.int .i64 (X.e 5)), .v (.int .i64 (X.e 6)), .v (.int .i64 (X.e 7)), .v (.int .i64 (X.e 8)), .v (.int .i64 (X.e 9)), .v (.int .i64 (X.e 10)), .v (.int .i64 (X.e 11)), .v (.int .i64 (X.e 12)), .v (.int .i64 (X.e 13)), .v (.int .i64 (X.e 14)), .v (.int .i64 (X.e 15)), .v (.int .i64 (X.e 16)), .v (.int .i64 (X.e 17)), .v (.int .i64 (X.e 18)), .v (.int .i64 (X.e 19)), .v (.int .i64 (X.e 20)), .v (.int .i64 (X.e 21)), .v (.int .i64 (X.e 22)), .v (.int .i64 (X.e 23)), .v (.int .i64 (X.e 24)), .v (.int .i64 (X.e 25)), .v (.int .i64 (X.e 26)), .v (.int .i64 (X.e 27)), .v (.int .i64 (X.e 28)), .v (.int .i64 (X.e 29)), .v (.int .i64 (X.e 30)), .v (.int .i64 (X.e 31)), .v (.int .i64 (X.e 32)), .v (.int .i64 (X.e 33)), .v (.int .i64 (X.e 34)), .v (.int .i64 (X.e 35)), .v (.int .i64 (X.e 36)), .v (.int .i64 (X.e 37)), .v (.int .i64 (X.e 38)), .v (.int .i64 (X.e 39)), .v (.int .i64 (X.d:Int)), .v (.int .i64 (X.v:Int))])]) [] []
  (by exact ⟨(iV rfl),(iP rfl),(iP rfl),(iP rfl),(iP rfl),trivial⟩)
  (by exact ⟨(bN rfl rfl rfl),(bN rfl rfl rfl),(bN rfl rfl rfl),trivial⟩) ?_ ?_
 ·refine go 3 ?_
  refine aj (de (r:=s.epoch % 2) _ _ rfl rfl ab (Int.tmod_eq_emod_of_nonneg hep)) ?_
  refine aj (bb (r:=decide (s.epoch % 2=1)) _ _ rfl rfl (by rw [Bool.eq_iff_iff];simp)) ?_
  refine am (ax rfl (fun hc21=> ?_) (fun hc21=> ?_))
  ·obtain ⟨e1,e2⟩:=hX1 hc21
   refine aE ?_
   refine aB (σ':=an 71 [(3,_),(5,_),(7,_),(9,_),(10,_),(11,_)] [((5,0),_),((7,0),_),((9,0),_),((10,0),_),((11,0),_)] [] []) kp ?_
   refine go 6 ?_
   refine ay (⟨(),?_,?_⟩)
   ·trivial
   refine Le.mkJ [] [] rfl ?_ ?_ trivial trivial ?_
   ·exact ⟨(iV rfl),(iP rfl),(iP rfl),(iP rfl),(iP rfl),(aN ab),trivial⟩
   ·exact ⟨(bN rfl rfl rfl),(bN rfl rfl rfl),(bN rfl rfl rfl),(cI rfl rfl rfl rfl (ai (cL (by ((rw [e1]))) (by ((rw [e1])))) (ai (aN (by ((rw [e1])))) (ai (aN (by ((rw [e1])))) (ai (aN (by ((rw [e1])))) (ai (aN (by ((rw [e1])))) (ai (aN (by ((rw [e1])))) (ai (aN (by ((rw [e1])))) (ai (aN (by ((rw [e1])))) (ai (aN (by ((rw [e1])))) (ai (aN (by ((rw [e1])))) (ai (aN (by ((rw [e1])))) (ai (aN (by ((rw [e1])))) (ai (aN (by ((rw [e1])))) (ai (aN (by ((rw [e1])))) (ai (aN (by ((rw [e1])))) (ai (aN (by ((rw [e1])))) (ai (aN (by ((rw [e1])))) (ai (aN (by ((rw [e1])))) (ai (aN (by ((rw [e1])))) (ai (aN (by ((rw [e1])))) (ai (aN (by ((rw [e1])))) (ai (aN (by ((rw [e1])))) (ai (aN (by ((rw [e1])))) (ai (aN (by ((rw [e1])))) (ai (aN (by ((rw [e1])))) (ai (aN (by ((rw [e1])))) (ai (aN (by ((rw [e1])))) (ai (aN (by ((rw [e1])))) (ai (aN (by ((rw [e1])))) (ai (aN (by ((rw [e1])))) (ai (aN (by ((rw [e1])))) (ai (aN (by ((rw [e1])))) (ai (aN (by ((rw [e1])))) (ai (aN (by ((rw [e1])))) (ai (aN (by ((rw [e1])))) (ai (aN (by ((rw [e1])))) (ai (aN (by ((rw [e1])))) (ai (aN (by ((rw [e1])))) (ai (aN (by ((rw [e1])))) (ai (aN (by ((rw [e1])))) (ai (aN (by ((rw [e1])))) (ai (aN (by ((rw [e1])))) (ai (aN (by ((rw [e1])))) aK)))))))))))))))))))))))))))))))))))))))))))),trivial⟩
   kernel_rfl
  obtain ⟨e1,e2⟩:=hX2 hc21
  refine aR (⟨(),?_,?_⟩)
  ·trivial
  refine Le.mkJ [] [] rfl ?_ ?_ trivial trivial ?_
  ·exact ⟨(iV rfl),(iP rfl),(iP rfl),(iP rfl),(iP rfl),(aN ab),trivial⟩
  ·exact ⟨(bN rfl rfl rfl),(bN rfl rfl rfl),(bN rfl rfl rfl),(cI rfl rfl rfl rfl (ai (cL (by ((rw [e1]))) (by ((rw [e1])))) (ai (aN (by ((rw [e1])))) (ai (aN (by ((rw [e1])))) (ai (aN (by ((rw [e1])))) (ai (aN (by ((rw [e1])))) (ai (aN (by ((rw [e1])))) (ai (aN (by ((rw [e1])))) (ai (aN (by ((rw [e1])))) (ai (aN (by ((rw [e1])))) (ai (aN (by ((rw [e1])))) (ai (aN (by ((rw [e1])))) (ai (aN (by ((rw [e1])))) (ai (aN (by ((rw [e1])))) (ai (aN (by ((rw [e1])))) (ai (aN (by ((rw [e1])))) (ai (aN (by ((rw [e1])))) (ai (aN (by ((rw [e1])))) (ai (aN (by ((rw [e1])))) (ai (aN (by ((rw [e1])))) (ai (aN (by ((rw [e1])))) (ai (aN (by ((rw [e1])))) (ai (aN (by ((rw [e1])))) (ai (aN (by ((rw [e1])))) (ai (aN (by ((rw [e1])))) (ai (aN (by ((rw [e1])))) (ai (aN (by ((rw [e1])))) (ai (aN (by ((rw [e1])))) (ai (aN (by ((rw [e1])))) (ai (aN (by ((rw [e1])))) (ai (aN (by ((rw [e1])))) (ai (aN (by ((rw [e1])))) (ai (aN (by ((rw [e1])))) (ai (aN (by ((rw [e1])))) (ai (aN (by ((rw [e1])))) (ai (aN (by ((rw [e1])))) (ai (aN (by ((rw [e1])))) (ai (aN (by ((rw [e1])))) (ai (aN (by ((rw [e1])))) (ai (aN (by ((rw [e1])))) (ai (aN (by ((rw [e1])))) (ai (aN (by ((rw [e1])))) (ai (aN (by ((rw [e1])))) (ai (aN (by ((rw [e1])))) aK)))))))))))))))))))))))))))))))))))))))))))),trivial⟩
  kernel_rfl
 intro u hu
 refine aE (dA 11 [] ?_)
 refine go 12 ?_
 refine aC (_,[]) (fun τ=> bO _ _ aa rfl rfl rfl 0 rfl ab rfl) ?_
 refine go 5 ?_
 refine aC (_,[]) (fun τ=> (ap aa al (hans) rfl rfl)) ?_
 refine go 1 ?_
 refine aC (_,[]) (fun τ=> (ap aa al (hS) rfl rfl)) ?_
 refine go 4 ?_
 exact au (uo [])
set_option maxHeartbeats 4000000 in
theorem Ja (s:Ns) (hup:s.up=true) (P Q:Pg) (drift:Int) (a:Na) (hcr:a.crash=true) (h1:a.draws.length≤1000) (h2:a.keeps.length≤1000) (c:Cz) (R:Ms) (q:Ns×Nr) (n:Nat) (L:List PV)
  (hS:Spec Tryz.prog 79 (aI [ii s, .v (.int .i64 1), .sl (eD 1 40 (s.counts.getD 40 0) a.tick a.draws a.keeps).length (nD (eD 1 40 (s.counts.getD 40 0) a.tick a.draws a.keeps))] []) (aA (wx q.1 q.2 c R n L) [])):
  Spec Tryz.prog 44 (aI [ii s,fY P,fY Q, .v (.int .i64 drift),vz a] []) (aA (wx q.1 q.2 c R n L) []):=by
 have hans:=ir 1 40 (s.counts.getD 40 0) a h1 h2
 refine Spec.ofN Tryz.func44 rfl Tryz.ntmps44 rfl ?_
 refine go 11 ?_
 refine aj (fI (r:=false) _ rfl (by rw [hup];rfl)) ?_
 refine go 7 ?_
 refine Mh rfl rfl (by rw [hcr];rfl) ?_
 refine am (fX rfl rfl (aE ?_))
 refine aB (σ':=an 71 [(5,_),(9,_),(10,_)] [((5,0),_),((9,0),_),((10,0),_)] [] []) kp ?_
 refine dA 8 [] ?_
 refine go 6 ?_
 refine aC (_,[]) (fun τ=> bO _ _ aa rfl rfl rfl 40 rfl ab rfl) ?_
 refine go 5 ?_
 refine aC (_,[]) (fun τ=> (ap aa al (hans) rfl rfl)) ?_
 refine go 1 ?_
 refine aC (_,[]) (fun τ=> (ap aa al (hS) rfl rfl)) ?_
 refine go 4 ?_
 exact au (uo [])
set_option maxHeartbeats 4000000 in
theorem IN (s:Ns) (hup:s.up=true) (P Q X:Pg) (hX1:s.ver=1→X=Q) (hX2: ¬ s.ver=1→X=P) (drift:Int) (a:Na) (hcr:a.crash=false) (hh:a.h < 41) (h1:a.draws.length≤1000) (h2:a.keeps.length≤1000) (c:Cz) (R:Ms) (q:Ns×Nr) (n:Nat) (L:List PV)
  (hS:Spec Tryz.prog 80 (aI [ii { s with wait:=a.wait },fY X, .v (.int .i64 (a.h:Int)), .v (.int .i64 1), .v (.int .i64 3), .v (.int .i64 drift), .agg [.v (.int .i64 (a.names.getD 0 0)), .v (.int .i64 (a.names.getD 1 0)), .v (.int .i64 (a.names.getD 2 0)), .v (.int .i64 (a.names.getD 3 0)), .v (.int .i64 (a.names.getD 4 0)), .v (.int .i64 (a.names.getD 5 0)), .v (.int .i64 (a.names.getD 6 0)), .v (.int .i64 (a.names.getD 7 0)), .v (.int .i64 (a.names.getD 8 0))], .sl (eD 1 (a.h:Int) (s.counts.getD a.h 0) a.tick a.draws a.keeps).length (nD (eD 1 (a.h:Int) (s.counts.getD a.h 0) a.tick a.draws a.keeps))] []) (aA (wx q.1 q.2 c R n L) [])):
  Spec Tryz.prog 44 (aI [ii s,fY P,fY Q, .v (.int .i64 drift),vz a] []) (aA (wx q.1 q.2 c R n L) []):=by
 have hans:=ir 1 (a.h:Int) (s.counts.getD a.h 0) a h1 h2
 refine Spec.ofN Tryz.func44 rfl Tryz.ntmps44 rfl ?_
 refine go 11 ?_
 refine aj (fI (r:=false) _ rfl (by rw [hup];rfl)) ?_
 refine go 7 ?_
 refine Av rfl rfl (by rw [if_neg (by rw [hcr];exact Bool.false_ne_true)];rfl) ?_
 refine go 8 ?_
 refine gP (α:=Unit) (fun u=> True) 71 [(3,_),(5,_),(9,_),(10,_),(13,_)] [((5,0),_),((9,0),_),((10,0),_)] (fun u=> []) (fun u=> [((13,0), .box 26 [.sl X.c.length (inl X.c), .v (.int .i64 (X.e 0)), .v (.int .i64 (X.e 1)), .v (.int .i64 (X.e 2)), .v (.int .i64 (X.e 3)), .v (.int .i64 (X.e 4)), .v (.int .i64 (X.e 5)), .v (.int .i64 (X.e 6)), .v (.int .i64 (X.e 7)), .v (.int .i64 (X.e 8)), .v (.int .i64 (X.e 9)), .v (.int .i64 (X.e 10)), .v (.int .i64 (X.e 11)), .v (.int .i64 (X.e 12)), .v (.int .i64 (X.e 13)), .v (.int .i64 (X.e 14)), .v (.int .i64 (X.e 15)), .v (.int .i64 (X.e 16)), .v (.int .i64 (X.e 17)), .v (.int .i64 (X.e 18)), .v (.int .i64 (X.e 19)), .v (.int .i64 (X.e 20)), .v (.int .i64 (X.e 21)), .v (.int .i64 (X.e 22)), .v (.int .i64 (X.e 23)), .v (.int .i64 (X.e 24)), .v (.int .i64 (X.e 25)), .v (.int .i64 (X.e 26)), .v (.int .i64 (X.e 27)), .v (.int .i64 (X.e 28)), .v (.int .i64 (X.e 29)), .v (.int .i64 (X.e 30)), .v (.int .i64 (X.e 31)), .v (.int .i64 (X.e 32)), .v (.int .i64 (X.e 33)), .v (.int .i64 (X.e 34)), .v (.int .i64 (X.e 35)), .v (.int .i64 (X.e 36)), .v (.int .i64 (X.e 37)), .v (.int .i64 (X.e 38)), .v (.int .i64 (X.e 39)), .v (.int .i64 (X.d:Int)), .v (.int .i64 (X.v:Int))])]) [] []
  (by exact ⟨(iV rfl),(iP rfl),(iP rfl),(iP rfl),(iP rfl),trivial⟩)
  (by exact ⟨(bN rfl rfl rfl),(bN rfl rfl rfl),(bN rfl rfl rfl),trivial⟩) ?_ ?_
 ·refine go 3 ?_
  refine aj (bb (r:=decide (s.ver=1)) _ _ rfl rfl (by rw [Bool.eq_iff_iff];simp)) ?_
  refine am (ax rfl (fun hc48=> ?_) (fun hc48=> ?_))
  ·have e1:=hX1 hc48
   refine aB (σ':=an 71 [(3,_),(5,_),(7,_),(9,_),(10,_),(13,_)] [((5,0),_),((7,0),_),((9,0),_),((10,0),_),((13,0),_)] [] []) kp ?_
   refine go 3 ?_
   refine ay (⟨(),?_,?_⟩)
   ·trivial
   refine Le.mkJ [] [] rfl ?_ ?_ trivial trivial ?_
   ·exact ⟨(iV rfl),(iP rfl),(iP rfl),(iP rfl),(iP rfl),trivial⟩
   ·exact ⟨(bN rfl rfl rfl),(bN rfl rfl rfl),(bN rfl rfl rfl),(cI rfl rfl rfl rfl (ai (cL (by (rw [e1])) (by (rw [e1]))) (ai (aN (by (rw [e1]))) (ai (aN (by (rw [e1]))) (ai (aN (by (rw [e1]))) (ai (aN (by (rw [e1]))) (ai (aN (by (rw [e1]))) (ai (aN (by (rw [e1]))) (ai (aN (by (rw [e1]))) (ai (aN (by (rw [e1]))) (ai (aN (by (rw [e1]))) (ai (aN (by (rw [e1]))) (ai (aN (by (rw [e1]))) (ai (aN (by (rw [e1]))) (ai (aN (by (rw [e1]))) (ai (aN (by (rw [e1]))) (ai (aN (by (rw [e1]))) (ai (aN (by (rw [e1]))) (ai (aN (by (rw [e1]))) (ai (aN (by (rw [e1]))) (ai (aN (by (rw [e1]))) (ai (aN (by (rw [e1]))) (ai (aN (by (rw [e1]))) (ai (aN (by (rw [e1]))) (ai (aN (by (rw [e1]))) (ai (aN (by (rw [e1]))) (ai (aN (by (rw [e1]))) (ai (aN (by (rw [e1]))) (ai (aN (by (rw [e1]))) (ai (aN (by (rw [e1]))) (ai (aN (by (rw [e1]))) (ai (aN (by (rw [e1]))) (ai (aN (by (rw [e1]))) (ai (aN (by (rw [e1]))) (ai (aN (by (rw [e1]))) (ai (aN (by (rw [e1]))) (ai (aN (by (rw [e1]))) (ai (aN (by (rw [e1]))) (ai (aN (by (rw [e1]))) (ai (aN (by (rw [e1]))) (ai (aN (by (rw [e1]))) (ai (aN (by (rw [e1]))) (ai (aN (by (rw [e1]))) (ai (aN (by (rw [e1]))) aK)))))))))))))))))))))))))))))))))))))))))))),trivial⟩
   kernel_rfl
  have e1:=hX2 hc48
  refine aR (⟨(),?_,?_⟩)
  ·trivial
  refine Le.mkJ [] [] rfl ?_ ?_ trivial trivial ?_
  ·exact ⟨(iV rfl),(iP rfl),(iP rfl),(iP rfl),(iP rfl),trivial⟩
  ·exact ⟨(bN rfl rfl rfl),(bN rfl rfl rfl),(bN rfl rfl rfl),(cI rfl rfl rfl rfl (ai (cL (by (rw [e1])) (by (rw [e1]))) (ai (aN (by (rw [e1]))) (ai (aN (by (rw [e1]))) (ai (aN (by (rw [e1]))) (ai (aN (by (rw [e1]))) (ai (aN (by (rw [e1]))) (ai (aN (by (rw [e1]))) (ai (aN (by (rw [e1]))) (ai (aN (by (rw [e1]))) (ai (aN (by (rw [e1]))) (ai (aN (by (rw [e1]))) (ai (aN (by (rw [e1]))) (ai (aN (by (rw [e1]))) (ai (aN (by (rw [e1]))) (ai (aN (by (rw [e1]))) (ai (aN (by (rw [e1]))) (ai (aN (by (rw [e1]))) (ai (aN (by (rw [e1]))) (ai (aN (by (rw [e1]))) (ai (aN (by (rw [e1]))) (ai (aN (by (rw [e1]))) (ai (aN (by (rw [e1]))) (ai (aN (by (rw [e1]))) (ai (aN (by (rw [e1]))) (ai (aN (by (rw [e1]))) (ai (aN (by (rw [e1]))) (ai (aN (by (rw [e1]))) (ai (aN (by (rw [e1]))) (ai (aN (by (rw [e1]))) (ai (aN (by (rw [e1]))) (ai (aN (by (rw [e1]))) (ai (aN (by (rw [e1]))) (ai (aN (by (rw [e1]))) (ai (aN (by (rw [e1]))) (ai (aN (by (rw [e1]))) (ai (aN (by (rw [e1]))) (ai (aN (by (rw [e1]))) (ai (aN (by (rw [e1]))) (ai (aN (by (rw [e1]))) (ai (aN (by (rw [e1]))) (ai (aN (by (rw [e1]))) (ai (aN (by (rw [e1]))) (ai (aN (by (rw [e1]))) aK)))))))))))))))))))))))))))))))))))))))))))),trivial⟩
  kernel_rfl
 intro u hu
 refine go 6 ?_
 refine aE ?_
 refine aB (σ':=an 71 [(3,_),(5,_),(9,_),(10,_),(13,_)] [((5,0),_),((9,0),_),((10,0),_),((13,0),_)] [] []) kp ?_
 refine dA 18 [] ?_
 refine go 26 ?_
 refine aC (_,[]) (fun τ=> bO _ _ aa rfl rfl rfl a.h rfl ab (show 8+a.h*1=8+a.h from by omega)) ?_
 refine go 1 ?_
 refine aC (_,[]) (fun τ=> bK _ aa rfl rfl (lX _ _ _ _ _ _ _ _ _ _ a.h ab)) ?_
 refine go 3 ?_
 refine aC (_,[]) (fun τ=> (ap aa al (hans) rfl rfl)) ?_
 refine go 1 ?_
 refine aC (_,[]) (fun τ=> (ap aa al (hS) rfl rfl)) ?_
 refine go 4 ?_
 exact au (uo [])
end Go.Proofs.YtmjnackchaahbaaGreat
