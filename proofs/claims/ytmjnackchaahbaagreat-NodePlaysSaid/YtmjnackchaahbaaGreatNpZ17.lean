/- part 17 -/
import Derived.Test.YtmjnackchaahbaaGreatNpZ16
set_option linter.unusedSimpArgs false
set_option linter.unusedVariables false
set_option maxHeartbeats 2000000
namespace Go.Proofs.YtmjnackchaahbaaGreat
open Go.RowKit

abbrev q0:Qa:=⟨0,0,0,0⟩
structure OC (cr:Bool) (d:Int) (pn:Nat) (nq:List Qa):Prop where
 l:nq.length≤1000
 c:cr=true→nq.length=pn∧ ∀ k,k < nq.length→(nq.getD k q0).kind=3∧(nq.getD k q0).idx=(k:Int)∧(nq.getD k q0).ar=2
 t:cr=false→0 < d→0 < nq.length∧(nq.getD 0 q0).kind=2∧(nq.getD 0 q0).idx=0∧(nq.getD 0 q0).ar=d+1
 h:cr=false→ ∀ k,eX d≤k→k < nq.length→(nq.getD k q0).kind=1∧(nq.getD k q0).idx=(k:Int) - (eX d:Int)∧2≤(nq.getD k q0).ar∧(nq.getD k q0).ar≤4
theorem qN {d tick:Int} {asked ans:List Int} (pn:Nat) (ha: ∀ k∈asked,2≤k∧k≤4) (hl:asked.length≤500):OC false d pn (eE d tick asked ans):=by
 refine ⟨?_,fun h=> (by cases h),fun _ hd=> ?_,fun _ k hk hl=> ?_⟩
 ·rw [gl];unfold eX;split <;> omega
 ·unfold eE
  rw [if_pos hd]
  refine ⟨?_,rfl,rfl,rfl⟩
  rw [List.length_append];exact Nat.lt_of_lt_of_le Nat.one_pos (Nat.le_add_right _ _)
 have hg:(eE d tick asked ans).getD k q0=⟨1,((k - eX d:Nat):Int),asked.getD (k - eX d) 0,ee ans (k - eX d) (asked.getD (k - eX d) 0)⟩:=by
  have hl2:k - eX d < asked.length:=by rw [gl] at hl;omega
  have hp:(if 0 < d then [(⟨2,0,d+1,tick % (d+1)⟩:Qa)] else []).length=eX d:=by unfold eX;split <;> rfl
  unfold eE
  rw [List.getD_eq_getElem?_getD,List.getElem?_append_right (by rw [hp];exact hk),hp,List.getElem?_map,List.getElem?_range hl2]
  rfl
 have hl2:k - eX d < asked.length:=by rw [gl] at hl;omega
 rw [hg]
 refine ⟨rfl,?_,?_⟩
 ·show ((k - eX d:Nat):Int)=_;omega
 have hm:asked.getD (k - eX d) 0∈asked:=by rw [List.getD_eq_getElem?_getD,List.getElem?_eq_getElem hl2];exact List.getElem_mem _
 exact ha _ hm
theorem Ah (d:Int) (pn:Nat) (hp:pn≤1000) (keeps:List Int):OC true d pn (fY pn keeps):=by
 refine ⟨by simpa [fY] using hp,fun _=> ⟨by simp [fY],fun k hk=> ?_⟩,fun h=> (by cases h),fun h=> (by cases h)⟩
 have hk2:k < pn:=by simpa [fY] using hk
 have hg:(fY pn keeps).getD k q0=⟨3,(k:Int),2,keeps.getD k 0⟩:=by
  unfold fY
  rw [List.getD_eq_getElem?_getD,List.getElem?_map,List.getElem?_range hk2]
  rfl
 rw [hg]
 exact ⟨rfl,rfl,rfl⟩
theorem rm (p:Pg) (h:Nat) (names vars ans:List Int):(fG p h names vars ans).asked.length≤500:=by
 unfold fG
 split
 ·exact Nat.zero_le _
 have h1:=iB (K:=⟨p.c,p.d,names,ans⟩) (I:=Sz) (fun s hs _=> pY hs) 500 (cR vars (p.e h).toNat) ⟨Nat.le_refl _,Nat.le_refl _,Nat.le_refl _⟩
 have h2:=(kr (K:=⟨p.c,p.d,names,ans⟩) 500 (cR vars (p.e h).toNat)).1
 have h3:=h1.ak
 have h4:(cR vars (p.e h).toNat).steps=0:=rfl
 omega
theorem Iy {p q:Pg} (hp:lU p) (hq:lU q) {d:Int} (hd:0≤d∧d≤3) {a:Na} (ha:EB a) {i:Nat} (hi:i≤100) {s:Ns} (h:Sq p q i s):OC (s.up && a.crash) d s.dk.pend.length (dR p q d a s):=by
 have hck:=h.ck
 have htk:=ki (clock:=s.clock) (tick:=a.tick) hd
 unfold dR
 split
 ·rename_i hu
  obtain ⟨⟨n,hdk⟩,_,_⟩:=h.dn hu
  have hb:(s.up && a.crash)=false:=by rw [hu];rfl
  rw [hb]
  have hok:lU (bf p q s):=by unfold bf;split <;> split <;> assumption
  have hb:=sy (p:=bf p q s) hdk h.cl (fb s)
  exact qN _ (kD hok hb (h:=0) (self:=1) (nodes:=3) (drift:=d) (tick:=a.tick) (ans:=a.draws) FP (cB ab) (cB ab) (cB (by show -1000≤aQ s.clock d a.tick∧aQ s.clock d a.tick≤1000;omega))).2.1.ar (rm _ _ _ _ _)
 rename_i hu
 have hu:s.up=true:=by simpa using hu
 obtain ⟨hs,hv⟩:=h.up hu
 split
 ·rename_i hc
  have hb:(s.up && a.crash)=true:=by rw [hu,hc];rfl
  rw [hb];exact Ah _ _ (by have:=hs.dk.pn;omega) _
 rename_i hc
 have hb:(s.up && a.crash)=false:=by rw [hu];simpa using hc
 rw [hb]
 have hpg:bf p q s=if s.ver=1 then q else p:=by unfold bf;rw [if_pos hu]
 have hok:lU (bf p q s):=by rw [hpg];split <;> assumption
 have hs':rN (bf p q s) { s with wait:=a.wait }:=by rw [hpg];exact ⟨hs.dk,hs.vl,hs.vr,hs.tm,hs.ct⟩
 exact qN _ (kD hok hs' (h:=a.h) (self:=1) (nodes:=3) (drift:=d) (tick:=a.tick) (ans:=a.draws) ha.nm (cB ab) (cB ab) (cB (by show -1000≤aQ s.clock d a.tick∧aQ s.clock d a.tick≤1000;omega))).2.1.ar (rm _ _ _ _ _)
theorem CX (t:Tl) (l:List Qa) (k:Nat) (h:k < l.length):PV.ups (((rG t l).drop (k*7)).take 7)=[.v (.int .i64 t.c1), .v (.int .i64 t.c2), .v (.int .i64 t.c3), .v (.int .i64 (l.getD k q0).kind), .v (.int .i64 (l.getD k q0).idx), .v (.int .i64 (l.getD k q0).ar), .v (.int .i64 (l.getD k q0).n)]:=by
 have e:l.getD k q0=l[k]:=by rw [List.getD_eq_getElem?_getD,List.getElem?_eq_getElem h];rfl
 rw [e,show ((rG t l).drop (k*7)).take 7=pZ t l[k].kind l[k].idx l[k].ar l[k].n from kX (fun x:Qa=> pZ t x.kind x.idx x.ar x.n) 7 (fun _=> rfl) l k h];rfl
theorem jy (t:Tl) (l:List Qa):(rG t l).length=l.length*7:=gQ (fun x:Qa=> pZ t x.kind x.idx x.ar x.n) 7 (fun _=> rfl) l
end Go.Proofs.YtmjnackchaahbaaGreat

set_option maxHeartbeats 2000000
namespace Go.Proofs.YtmjnackchaahbaaGreat
open Go.RowKit

section
variable {σ:St} {dd:Option Tmp} {ty:TypeId}
end
theorem BN (c:Cz) (l:List Ac) (k:Nat) (h:k < l.length):PV.ups (((sY c l).drop (k*9)).take 9)=[.v (.int .i64 c.a), .v (.int .i64 c.b), .v (.int .i64 c.c), .v (.int .i64 (k:Int)), .v (.int .i64 0), .v (.int .i64 (kt l k).a), .v (.int .i64 (kt l k).b), .v (.int .i64 (kt l k).c), .v (.int .i64 (kt l k).d)]:=by
 have h2:k < (List.range l.length).length:=by rw [List.length_range];exact h
 rw [show ((sY c l).drop (k*9)).take 9=Lj c (List.range l.length)[k] (kt l (List.range l.length)[k]) from kX (fun i=> Lj c i (kt l i)) 9 (fun _=> rfl) (List.range l.length) k h2,List.getElem_range];rfl
end Go.Proofs.YtmjnackchaahbaaGreat

set_option maxHeartbeats 2000000
namespace Go.Proofs.YtmjnackchaahbaaGreat
open Go.RowKit

theorem La (w:World) (a b:Int):(Op.equal 126 (.agg #[.int .i64 a, .int .i64 b]) (.agg #[.int .i64 a, .int .i64 b])).run Tryz.prog w= .ok true w:=by
 have h:=eV w #[.int .i64 a, .int .i64 b]
 have e:=kR 9998 w
 show (Op.equalIn (9999+1) _ _ _).run Tryz.prog w=_
 rw [Op.equalIn]
 simp only [Sem.run_bind,run_underlying Tryz.underlying126,Result.andThen_ok]
 simp [Op.eqFields,h 0 _ rfl,h 1 _ rfl,e]
theorem yf (n:Nat) (w:World) (a b c:Int):(Op.equalIn (n+2) 91 (.agg #[.int .i64 a, .int .i64 b, .int .i64 c]) (.agg #[.int .i64 a, .int .i64 b, .int .i64 c])).run Tryz.prog w= .ok true w:=by
 have:=uD n w a b c a b c
 rwa [decide_eq_true ⟨rfl,rfl,rfl⟩] at this
theorem yj (w:World) (a b c:Int) (l:List Value):(part 91 (.int .i64 a:: .int .i64 b:: .int .i64 c::l).toArray 0).run Tryz.prog w= .ok (.agg #[.int .i64 a, .int .i64 b, .int .i64 c]) w:=by
 simp [part,isAgg,sizeOf,run_underlying Tryz.underlying91]
 rfl
theorem IM (w:World) (a b c k i m n:Int):(Op.equal 111 (.agg #[.int .i64 a, .int .i64 b, .int .i64 c, .int .i64 k, .int .i64 i, .int .i64 m, .int .i64 n]) (.agg #[.int .i64 a, .int .i64 b, .int .i64 c, .int .i64 k, .int .i64 i, .int .i64 m, .int .i64 n])).run Tryz.prog w= .ok true w:=by
 have h:=eV w #[.int .i64 a, .int .i64 b, .int .i64 c, .int .i64 k, .int .i64 i, .int .i64 m, .int .i64 n]
 have h5:=eV w #[.int .i64 a, .int .i64 b, .int .i64 c, .int .i64 k, .int .i64 i]
 have hc:=yj w a b c [.int .i64 k, .int .i64 i]
 have hq:(part 109 #[.int .i64 a, .int .i64 b, .int .i64 c, .int .i64 k, .int .i64 i, .int .i64 m, .int .i64 n] 0).run Tryz.prog w= .ok (.agg #[.int .i64 a, .int .i64 b, .int .i64 c, .int .i64 k, .int .i64 i]) w:=by
  simp [part,isAgg,sizeOf,run_underlying Tryz.underlying109]
  rfl
 have eq:(Op.equalIn 9999 109 (.agg #[.int .i64 a, .int .i64 b, .int .i64 c, .int .i64 k, .int .i64 i]) (.agg #[.int .i64 a, .int .i64 b, .int .i64 c, .int .i64 k, .int .i64 i])).run Tryz.prog w= .ok true w:=by
  show (Op.equalIn (9998+1) _ _ _).run Tryz.prog w=_
  rw [Op.equalIn]
  simp only [Sem.run_bind,run_underlying Tryz.underlying109,Result.andThen_ok]
  simp [Op.eqFields,hc,h5 3 _ rfl,h5 4 _ rfl,kR 9997 w,yf 9996 w]
 show (Op.equalIn (9999+1) _ _ _).run Tryz.prog w=_
 rw [Op.equalIn]
 simp only [Sem.run_bind,run_underlying Tryz.underlying111,Result.andThen_ok]
 simp [Op.eqFields,hq,h 5 _ rfl,h 6 _ rfl,kR 9998 w,eq]
theorem Jl (w:World) (a b c k i x y m n:Int):(Op.equal 117 (.agg #[.int .i64 a, .int .i64 b, .int .i64 c, .int .i64 k, .int .i64 i, .int .i64 x, .int .i64 y, .int .i64 m, .int .i64 n]) (.agg #[.int .i64 a, .int .i64 b, .int .i64 c, .int .i64 k, .int .i64 i, .int .i64 x, .int .i64 y, .int .i64 m, .int .i64 n])).run Tryz.prog w= .ok true w:=by
 have h:=eV w #[.int .i64 a, .int .i64 b, .int .i64 c, .int .i64 k, .int .i64 i, .int .i64 x, .int .i64 y, .int .i64 m, .int .i64 n]
 have h5:=eV w #[.int .i64 a, .int .i64 b, .int .i64 c, .int .i64 k, .int .i64 i]
 have hc:=yj w a b c [.int .i64 k, .int .i64 i]
 have hq:(part 115 #[.int .i64 a, .int .i64 b, .int .i64 c, .int .i64 k, .int .i64 i, .int .i64 x, .int .i64 y, .int .i64 m, .int .i64 n] 0).run Tryz.prog w= .ok (.agg #[.int .i64 a, .int .i64 b, .int .i64 c, .int .i64 k, .int .i64 i]) w:=by
  simp [part,isAgg,sizeOf,run_underlying Tryz.underlying115]
  rfl
 have eq:(Op.equalIn 9999 115 (.agg #[.int .i64 a, .int .i64 b, .int .i64 c, .int .i64 k, .int .i64 i]) (.agg #[.int .i64 a, .int .i64 b, .int .i64 c, .int .i64 k, .int .i64 i])).run Tryz.prog w= .ok true w:=by
  show (Op.equalIn (9998+1) _ _ _).run Tryz.prog w=_
  rw [Op.equalIn]
  simp only [Sem.run_bind,run_underlying Tryz.underlying115,Result.andThen_ok]
  simp [Op.eqFields,hc,h5 3 _ rfl,h5 4 _ rfl,kR 9997 w,yf 9996 w]
 show (Op.equalIn (9999+1) _ _ _).run Tryz.prog w=_
 rw [Op.equalIn]
 simp only [Sem.run_bind,run_underlying Tryz.underlying117,Result.andThen_ok]
 simp [Op.eqFields,hq,h 5 _ rfl,h 6 _ rfl,h 7 _ rfl,h 8 _ rfl,kR 9998 w,eq]
section
variable {σ:St} {dd:Option Tmp} {ty:TypeId}
theorem qw {T t':TypeId} (x y:Operand) (us:List Value) (hx:σ.eval x= .agg (us.map AV.v)) (hy:σ.eval y= .agg (us.map AV.v)) (hg:Tryz.prog.eqGuardType Tryz.prog.depth T=false) (he: ∀ w,(Op.equal T (.agg us.toArray) (.agg us.toArray)).run Tryz.prog w= .ok true w):Stp Tryz.prog dd (.binOp .neq T x y t') ty σ (σ.put dd (.v (.bool false))):=by
 refine ub us us hx hy fun o ρ w ho hx hy=> ?_
 have:=he w
 simp [execOp,ho,hx,hy,eqGuard,binOp,hg,this,Sem.run]
end
theorem vT (d:Dk) (h1:d.cells.length≤1000000) (h2:d.pend.length≤1000000):Spec Tryz.prog 76 (aI [lA d,lA d] []) (aC (.v (.bool true)) []):=by
 have hs:=mK d.cells ab
 refine Spec.ofN Tryz.func76 rfl Tryz.ntmps76 rfl ?_
 refine go 11 ?_
 refine aj (ap aa al (hs) rfl rfl) ?_
 refine go 8 ?_
 refine aV rfl rfl (cM (r:=false) _ _ rfl rfl (bne_self_eq_false _)) ?_
 refine go 4 ?_
 refine aF fun K4 hK4=> ?_
 refine aE ?_
 refine az (σ':=an 39 [(2,_),(3,_)] [((2,0),_),((3,0),_)] [] []) kp ?_
 refine aD (cC rfl (am (aH ?_)))
 refine aT (α:=Nat) (fun k=> k≤d.pend.length) 39 [(2,_),(3,_)] [((2,0),_),((3,0),_)] (fun k=> [(5, .v (.int .i64 (k:Int)))]) (fun k=> []) [] [] (fun k=> d.pend.length - k) 0 ?_ (kj [0,0] [] []) ?_
 ·omega
 intro k hk
 refine aF fun K6 hK6=> ?_
 refine go 7 ?_
 refine ay rfl (fun hc25=> ?_) (fun hc25=> ?_)
 ·have hia:=li d.pend k ab
  generalize d.pend.getD k (0,0)=w at hia
  refine aR (hK6 _ ?_)
  refine aE (aH (aE ?_))
  refine az (σ':=an 39 [(2,_),(3,_),(5,_)] [((2,0),_),((3,0),_)] [] []) kp ?_
  refine dA 11 [] ?_
  refine go 6 ?_
  refine aB (_,[]) (fun τ=> aO _ _ aa rfl rfl _ rfl ab (by (simp only [aq,aJ,aM,aq,bA,aJ,cJ,jy,cU];omega)) ag) ?_
  refine go 1 ?_
  refine aB (_,[]) (fun τ=> bn _ aa rfl (by exact hia) rfl) ?_
  refine go 7 ?_
  refine aB (_,[]) (fun τ=> aO _ _ aa rfl rfl _ rfl ab (by (simp only [aq,aJ,aM,aq,bA,aJ,cJ,jy,cU];omega)) ag) ?_
  refine go 1 ?_
  refine aB (_,[]) (fun τ=> bn _ aa rfl (by exact hia) rfl) ?_
  refine go 1 ?_
  refine aB (_,[]) (fun τ=> qw _ _ [.int .i64 w.1, .int .i64 w.2] rfl rfl ae (fun W=> La W w.1 w.2)) ?_
  refine go 9 ?_
  refine ax (⟨k+1,?_,?_,?_⟩)
  ·omega
  ·exact kj [0,0] [] []
  omega
 refine aW (id (hK4 _ ?_))
 exact aG (gv rfl (am (au (dU rfl rfl))))
theorem rO (t:Tl) (l:List Qa) (h1:l.length≤1000000):Spec Tryz.prog 46 (aI [.sl l.length (rG t l), .sl l.length (rG t l)] []) (aC (.v (.bool true)) []):=by
 refine Spec.ofN Tryz.func46 rfl Tryz.ntmps46 rfl ?_
 refine go 9 ?_
 refine aj (cM (r:=false) _ _ rfl rfl (bne_self_eq_false _)) ?_
 refine am (cK rfl rfl (cE (aF fun K4 hK4=> ?_)))
 refine aG (cC rfl (am (aH ?_)))
 refine aT (α:=Nat) (fun k=> k≤l.length) 26 [(0,_),(1,_)] [] (fun k=> [(5, .v (.int .i64 (k:Int)))]) (fun k=> []) [] [] (fun k=> l.length - k) 0 ?_ (kj [] [] []) ?_
 ·omega
 intro k hk
 refine aF fun K6 hK6=> ?_
 refine go 6 ?_
 refine ay rfl (fun hc14=> ?_) (fun hc14=> ?_)
 ·have hia:=CX t l k ab
  generalize l.getD k q0=q at hia
  refine aR (hK6 _ ?_)
  refine aE (aH (aE ?_))
  refine az (σ':=an 26 [(0,_),(1,_),(5,_)] [] [] []) kp ?_
  refine dA 9 [] ?_
  refine go 4 ?_
  refine aB (_,[]) (fun τ=> aO _ _ aa rfl rfl _ rfl ab (by (simp only [aq,aJ,aM,aq,bA,aJ,cJ,jy,cU];omega)) ag) ?_
  refine go 1 ?_
  refine aB (_,[]) (fun τ=> bn _ aa rfl (by exact hia) rfl) ?_
  refine go 5 ?_
  refine aB (_,[]) (fun τ=> aO _ _ aa rfl rfl _ rfl ab (by (simp only [aq,aJ,aM,aq,bA,aJ,cJ,jy,cU];omega)) ag) ?_
  refine go 1 ?_
  refine aB (_,[]) (fun τ=> bn _ aa rfl (by exact hia) rfl) ?_
  refine go 1 ?_
  refine aB (_,[]) (fun τ=> qw _ _ [.int .i64 t.c1, .int .i64 t.c2, .int .i64 t.c3, .int .i64 q.kind, .int .i64 q.idx, .int .i64 q.ar, .int .i64 q.n] rfl rfl ae (fun W=> IM W _ _ _ _ _ _ _)) ?_
  refine go 9 ?_
  refine ax (⟨k+1,?_,?_,?_⟩)
  ·omega
  ·exact kj [] [] []
  omega
 refine aW (id (hK4 _ ?_))
 exact aG (gv rfl (am (au (dU rfl rfl))))
theorem tn (c:Cz) (l:List Ac) (h1:l.length≤1000000):Spec Tryz.prog 84 (aI [.sl l.length (sY c l), .sl l.length (sY c l)] []) (aC (.v (.bool true)) []):=by
 refine Spec.ofN Tryz.func84 rfl Tryz.ntmps84 rfl ?_
 refine go 9 ?_
 refine aj (cM (r:=false) _ _ rfl rfl (bne_self_eq_false _)) ?_
 refine am (cK rfl rfl (cE (aF fun K4 hK4=> ?_)))
 refine aG (cC rfl (am (aH ?_)))
 refine aT (α:=Nat) (fun k=> k≤l.length) 26 [(0,_),(1,_)] [] (fun k=> [(5, .v (.int .i64 (k:Int)))]) (fun k=> []) [] [] (fun k=> l.length - k) 0 ?_ (kj [] [] []) ?_
 ·omega
 intro k hk
 refine aF fun K6 hK6=> ?_
 refine go 6 ?_
 refine ay rfl (fun hc14=> ?_) (fun hc14=> ?_)
 ·have hia:=BN c l k ab
  generalize kt l k=x at hia
  refine aR (hK6 _ ?_)
  refine aE (aH (aE ?_))
  refine az (σ':=an 26 [(0,_),(1,_),(5,_)] [] [] []) kp ?_
  refine dA 9 [] ?_
  refine go 4 ?_
  refine aB (_,[]) (fun τ=> aO _ _ aa rfl rfl _ rfl ab (by (simp only [aq,aJ,aM,aq,bA,aJ,cJ,jy,cU];omega)) ag) ?_
  refine go 1 ?_
  refine aB (_,[]) (fun τ=> bn _ aa rfl (by exact hia) rfl) ?_
  refine go 5 ?_
  refine aB (_,[]) (fun τ=> aO _ _ aa rfl rfl _ rfl ab (by (simp only [aq,aJ,aM,aq,bA,aJ,cJ,jy,cU];omega)) ag) ?_
  refine go 1 ?_
  refine aB (_,[]) (fun τ=> bn _ aa rfl (by exact hia) rfl) ?_
  refine go 1 ?_
  refine aB (_,[]) (fun τ=> qw _ _ [.int .i64 c.a, .int .i64 c.b, .int .i64 c.c, .int .i64 (k:Int), .int .i64 0, .int .i64 x.a, .int .i64 x.b, .int .i64 x.c, .int .i64 x.d] rfl rfl ae (fun W=> Jl W _ _ _ _ _ _ _ _ _)) ?_
  refine go 9 ?_
  refine ax (⟨k+1,?_,?_,?_⟩)
  ·omega
  ·exact kj [] [] []
  omega
 refine aW (id (hK4 _ ?_))
 exact aG (gv rfl (am (au (dU rfl rfl))))
theorem rh (s:Ns) (hs:fB s) (ho:eL s.dk):Spec Tryz.prog 48 (aI [gm s] []) (aC (.sl (s.dk.view++s.vol).length (be (s.dk.view++s.vol))) []):=by
 have hc:=hs.c
 have hp:=hs.p
 have hv:=hs.v
 have hw:=mM s.dk ab ab ho
 have hvl:s.dk.view.length=s.dk.cells.length:=dF _ _
 rw [← hvl] at hw
 refine Spec.ofN Tryz.func48 rfl Tryz.ntmps48 rfl ?_
 refine aG (aj (dZ (1,0) _ rfl rfl) (aj (aX _ eh) (am (aE (nT 6 [3,4,5,6,7,8] [(5,0),(5,0),(8,0)] ae ae rfl (rfl:_=[_,_,_,_,_,_]) (rfl:_=[_]) ?_)))))
 refine bP (_,[]) (fun τ=> di _ aa rfl rfl rfl) ?_
 refine bO (rfl:_=[_]) ?_
 refine bP (_,[]) (fun τ=> jM _ aa rfl rfl rfl rfl) ?_
 refine bO (rfl:_=[_,_]) ?_
 refine bP (_,[((5,0),_)]) (fun τ=> (bp aa [((0,8),(5,0))] ar (hw.toI) trivial tr tr rfl rfl ae ae)) ?_
 refine bO (rfl:_=[_,_,_]) ?_
 refine bP (_,[]) (fun τ=> di _ aa rfl rfl rfl) ?_
 refine bO (rfl:_=[_,_,_,_]) ?_
 refine bP (_,[]) (fun τ=> bB _ aa rfl rfl xn) ?_
 refine bO (rfl:_=[_,_,_,_,_]) ?_
 refine bP (_,[((5,0), .gone),((8,0), .gone)]) (fun τ=> wG (8,0) _ _ aa rfl rfl (by rw [aq,Nat.mul_one]) (.sl (by rw [aq,Nat.mul_one])) ab rfl rfl rfl (lY _ _) List.length_append.symm) ?_
 refine bO (rfl:_=[_,_,_,_,_,_]) ?_
 refine lp ⟨⟨rfl,by kernel_rfl,by kernel_rfl⟩,?_⟩
 exact yq rfl (am (au (pO rfl rfl)))
theorem Aw (l:List Int) (k:Int) (b:Bool) (i:Nat):(((List.range (i+1)).map fun (i:Nat)=> (i:Int)).filter fun i=> if i=k then b else decide (i∈l))=(((List.range i).map fun (i:Nat)=> (i:Int)).filter fun i=> if i=k then b else decide (i∈l))++(if (if (i:Int)=k then b else decide ((i:Int)∈l))=true then [(i:Int)] else []):=by
 rw [List.range_succ,List.map_append,List.filter_append]
 congr 1
 simp only [List.map_cons,List.map_nil,List.filter_cons,List.filter_nil]
theorem px (l:List Int) (k:Int) (b:Bool) (hl:l.length≤1000000):Spec Tryz.prog 182 (aI [.sl l.length (be l), .v (.int .i64 k), .v (.bool b)] []) (aC (.sl (sF l k b).length (be (sF l k b))) []):=by
 have hs:=Aw l k b
 have h0:(((List.range 0).map fun (i:Nat)=> (i:Int)).filter fun i=> if i=k then b else decide (i∈l))=[]:=rfl
 have h8:(((List.range 8).map fun (i:Nat)=> (i:Int)).filter fun i=> if i=k then b else decide (i∈l))=sF l k b:=rfl
 have hle: ∀ i,(((List.range i).map fun (i:Nat)=> (i:Int)).filter fun i=> if i=k then b else decide (i∈l)).length≤i:=fun i=> by
  have:=List.length_filter_le (fun i=> if i=k then b else decide (i∈l)) ((List.range i).map fun (i:Nat)=> (i:Int))
  simpa using this
 obtain ⟨F,hF⟩: ∃ F:Nat→List Int,F=fun n=> (((List.range n).map fun (i:Nat)=> (i:Int)).filter fun i=> if i=k then b else decide (i∈l)):=⟨_,rfl⟩
 have hs: ∀ i:Nat,F (i+1)=F i++(if (if (i:Int)=k then b else decide ((i:Int)∈l))=true then [(i:Int)] else []):=fun i=> by rw [hF];exact hs i
 have h0:F 0=[]:=by rw [hF];exact h0
 have h8:F 8=sF l k b:=by rw [hF];exact h8
 have hle: ∀ i,(F i).length≤i:=fun i=> by rw [hF];exact hle i
 clear hF
 refine Spec.ofN Tryz.func182 rfl Tryz.ntmps182 rfl ?_
 refine aG (aj (aX _ eh) (am (aG (aj (aX _ eh) (am (aF fun K3 hK3=> ?_))))))
 refine aG (cC rfl (am (aH ?_)))
 refine az (Le.nilS 7 (60,0) 3 1 rfl rfl) ?_
 refine aT (α:=Nat) (fun i=> i≤8) 27 [(0,_),(1,_),(2,_)] [] (fun i=> [(7, .ref (60,0) 0 (F i).length),(8, .v (.int .i64 (i:Int)))]) (fun i=> [((60,0), .row 3 1 (be (F i)))]) [] [] (fun i=> 8 - i) 0 ?_ (by
  refine Le.mkJ [] [] rfl ?_ ?_ trivial trivial ?_
  ·exact ⟨(iS rfl),(iV rfl),(iV rfl),(cf rfl (by ((rw [h0];rfl)))),(bj ag),trivial⟩
  ·exact ⟨(cL rfl rfl rfl (by ((rw [h0];rfl)))),trivial⟩
  kernel_rfl) ?_
 ·omega
 intro i hi
 refine aF fun K5 hK5=> ?_
 refine go 4 ?_
 refine ay rfl (fun hc11=> ?_) (fun hc11=> ?_)
 ·have hh:=sH l (i:Int) ab
  have q1:=hs i
  have q0:=hle i
  refine aR (hK5 _ ?_)
  refine aE (aH (aG (gR rfl (bW rfl (aj (ap aa al (hh) rfl rfl) ?_)))))
  refine gv rfl (am ?_)
  refine jI (α:=Bool) (fun c=> (if (i:Int)=k then b else decide ((i:Int)∈l))=c) 27 [(0,_),(1,_),(2,_),(7,_),(8,_)] [((60,0),_)] (fun c=> [(9, .v (.bool c))]) (fun c=> []) [] []
   (by exact ⟨(iS rfl),(iV rfl),(iV rfl),(iR rfl),(iV rfl),trivial⟩)
   (by exact ⟨(bU rfl rfl rfl),trivial⟩) ?_ ?_
  ·refine aG (bW rfl (bW rfl (aj (ba (r:=decide ((i:Int)=k)) _ _ rfl rfl (by rw [Bool.eq_iff_iff];simp)) ?_)))
   refine am (ay rfl (fun hc19=> ?_) (fun hc19=> ?_))
   ·refine aD (Ec rfl (gv rfl (ax (⟨b,?_,?_⟩))))
    ·exact if_pos hc19
    exact kj [0] [] []
   refine aR (⟨decide ((i:Int)∈l),?_,?_⟩)
   ·exact if_neg hc19
   exact kj [0] [] []
  intro c hc
  rw [hc] at q1
  refine aG (Ec rfl (am (ay rfl (fun hc21=> ?_) (fun hc21=> ?_))))
  ·rw [if_pos hc21] at q1
   have q2:be (F i)++[.v (.int .i64 (i:Int))]=be (F (i+1)):=by rw [q1];simp [be]
   have q3:(F (i+1)).length=(F i).length+1:=by rw [q1];simp
   refine go 4 ?_
   refine aj (bI (25,0) _ _ aa rfl rfl (by rw [aq,Nat.mul_one]) (.sl rfl) ab rfl q2 q3.symm) ?_
   refine go 6 ?_
   refine ax (⟨i+1,?_,?_,?_⟩)
   ·omega
   ·refine Le.mkJ [((60,0),(25,0))] [] rfl ?_ ?_ trivial trivial ?_
    ·exact ⟨(by repeat' (exact Lv.sl)),(by repeat' (exact Lv.v)),(by repeat' (exact Lv.v)),(cf rfl ag),(bj ag),trivial⟩
    ·exact ⟨(cL rfl rfl rfl ag),trivial⟩
    kernel_rfl
   omega
  rw [if_neg (by rw [hc21];exact Bool.false_ne_true),List.append_nil] at q1
  refine go 5 ?_
  refine ax (⟨i+1,?_,?_,?_⟩)
  ·omega
  ·refine Le.mkJ [] [] rfl ?_ ?_ trivial trivial ?_
   ·exact ⟨(iS rfl),(iV rfl),(iV rfl),(cf rfl (by (rw [q1]))),(bj ag),trivial⟩
   ·exact ⟨(cL rfl rfl rfl (by (rw [q1]))),trivial⟩
   kernel_rfl
  omega
 obtain rfl:i=8:=by omega
 refine aW (id (hK3 _ ?_))
 exact aG (iE rfl (eu rfl (am (au (cg (.inr rfl) rfl (.tmp mW) (Le.out [] [(60,0)] (Hn rfl rfl (by rw [h8]) (by rw [h8]) rfl) rfl rfl rfl tr trivial))))))
end Go.Proofs.YtmjnackchaahbaaGreat

set_option maxHeartbeats 2000000
namespace Go.Proofs.YtmjnackchaahbaaGreat
open Go.RowKit

theorem GQ (l:List An) (k:Nat) (h:k < l.length) (j:Nat) (hj:j < 6):(ng l)[k*6+j]? =(EY (mY l k))[j]? :=by
 rw [tH l k h];exact jP EY 6 (fun _=> rfl) l k j h hj
theorem Cp (l:List An) (k:Nat) (h:k < l.length):PV.ups (((ng l).drop (k*6+0+0)).take 3)=[.v (.int .i64 (mY l k).a), .v (.int .i64 (mY l k).b), .v (.int .i64 (mY l k).c)]:=by
 have e:((ng l).drop (k*6+0+0)).take 3=(((ng l).drop (k*6)).take 6).take 3:=by rw [List.take_take];rfl
 rw [e,yy l k h];rfl
theorem yt (a b c k:Int) (l:List Int) (j:Nat) (h:j < l.length):(gV a b c k l).getD j ⟨0,0,0,0,0,0⟩=⟨a,b,c,k,(j:Int),l.getD j 0⟩:=by
 unfold gV
 rw [List.getD_eq_getElem?_getD,List.getElem?_map,List.getElem?_range h];rfl
theorem HA (a b c tick:Int) (draws keeps:List Int) (j:Nat) (h:j < (eJ a b c tick draws keeps).length):(mY (eJ a b c tick draws keeps) j).a=a∧(mY (eJ a b c tick draws keeps) j).b=b∧(mY (eJ a b c tick draws keeps) j).c=c∧
  ((1≤j∧j≤draws.length)→(mY (eJ a b c tick draws keeps) j).k=1∧(mY (eJ a b c tick draws keeps) j).i=(j:Int) - 1)∧(¬ (1≤j∧j≤draws.length)→(mY (eJ a b c tick draws keeps) j).k≠1):=by
 have hl:=km a b c tick draws keeps
 have h1:=ik a b c 1 draws
 have h3:=ik a b c 3 keeps
 rcases Nat.eq_zero_or_pos j with rfl | h0
 ·have e:mY (eJ a b c tick draws keeps) 0=⟨a,b,c,2,0,tick⟩:=rfl
  rw [e]
  exact ⟨rfl,rfl,rfl,fun h=> absurd h.1 ab,fun _=> (by show (2:Int)≠1;decide)⟩
 by_cases hj:j≤draws.length
 ·have e:mY (eJ a b c tick draws keeps) j=⟨a,b,c,1,((j - 1:Nat):Int),draws.getD (j - 1) 0⟩:=by
   rw [← yt a b c 1 draws (j - 1) ab]
   show ([(⟨a,b,c,2,0,tick⟩:An)]++gV a b c 1 draws++gV a b c 3 keeps).getD j _=_
   rw [List.getD_eq_getElem?_getD,List.getD_eq_getElem?_getD,List.getElem?_append_left (by rw [List.length_append,h1];simp;omega),List.getElem?_append_right (by simp;omega)]
   rfl
  rw [e]
  exact ⟨rfl,rfl,rfl,fun _=> ⟨rfl,by simp only;omega⟩,fun h=> absurd (And.intro ab hj) h⟩
 have e:mY (eJ a b c tick draws keeps) j=⟨a,b,c,3,((j - 1 - draws.length:Nat):Int),keeps.getD (j - 1 - draws.length) 0⟩:=by
  rw [← yt a b c 3 keeps (j - 1 - draws.length) ab]
  show ([(⟨a,b,c,2,0,tick⟩:An)]++gV a b c 1 draws++gV a b c 3 keeps).getD j _=_
  have hl2:([(⟨a,b,c,2,0,tick⟩:An)]++gV a b c 1 draws).length=1+draws.length:=by rw [List.length_append,h1];rfl
  rw [List.getD_eq_getElem?_getD,List.getD_eq_getElem?_getD,List.getElem?_append_right ab,hl2,show j - (1+draws.length)=j - 1 - draws.length by omega]
 rw [e]
 exact ⟨rfl,rfl,rfl,fun h=> absurd h.2 hj,fun _=> (by show (3:Int)≠1;decide)⟩
section
variable {σ:St} {dd:Option Tmp} {ty:TypeId}
theorem Cm {T t':TypeId} (x y:Operand) (us:List Value) (hx:σ.eval x= .agg (us.map AV.v)) (hy:σ.eval y= .agg (us.map AV.v)) (hg:Tryz.prog.eqGuardType Tryz.prog.depth T=false) (he: ∀ w,(Op.equal T (.agg us.toArray) (.agg us.toArray)).run Tryz.prog w= .ok true w):Stp Tryz.prog dd (.binOp .eql T x y t') ty σ (σ.put dd (.v (.bool true))):=by
 refine ub us us hx hy fun o ρ w ho hx hy=> ?_
 have:=he w
 simp [execOp,ho,hx,hy,eqGuard,binOp,hg,this,Sem.run]
end
theorem zS (l:List Int) (i:Nat) (h:i < l.length):be (l.take i)++[.v (.int .i64 (l.getD i 0))]=be (l.take (i+1)):=by
 have e:l.take (i+1)=l.take i++[l.getD i 0]:=by rw [List.take_add_one,List.getElem?_eq_getElem h,List.getD_eq_getElem?_getD,List.getElem?_eq_getElem h];rfl
 rw [e];exact lY (l.take i) [l.getD i 0]
theorem uB (c1 c2 c3 tick:Int) (draws keeps:List Int) (hd: ∀ x∈draws,0≤x) (h1:draws.length≤500) (h2:keeps.length≤1000):
  Spec Tryz.prog 111 (aI [.sl (eJ c1 c2 c3 tick draws keeps).length (ng (eJ c1 c2 c3 tick draws keeps)), .agg [.v (.int .i64 c1), .v (.int .i64 c2), .v (.int .i64 c3)]] []) (aC (.sl draws.length (be draws)) []):=by
 have hl:=km c1 c2 c3 tick draws keeps
 have hat:=HA c1 c2 c3 tick draws keeps
 have hgc:=Cp (eJ c1 c2 c3 tick draws keeps)
 have hgk:=GQ (eJ c1 c2 c3 tick draws keeps)
 have hvs:=fun i:Nat=> ox (eJ c1 c2 c3 tick draws keeps) ab c1 c2 c3 1 (i:Int)
 have hvd:=fun i:Nat=> sx (a:=c1) (b:=c2) (c:=c3) (tick:=tick) (draws:=draws) (keeps:=keeps) i hd
 generalize eJ c1 c2 c3 tick draws keeps=L at*
 refine Spec.ofN Tryz.func111 rfl Tryz.ntmps111 rfl ?_
 refine aG (aj (dZ (3,0) _ rfl rfl) (aj (aX _ eh) (am (aG (aj (aX _ eh) (am (aG (cC rfl (am (aF fun K4 hK4=> ?_))))))))))
 refine aG (cC rfl (am (aH ?_)))
 refine aT (α:=Nat) (fun j=> j≤L.length) 58 [(0,_),(3,_),(5,_)] [((3,0),_)] (fun j=> [(6, .v (.int .i64 (((min (j - 1) draws.length:Nat):Int) - 1))),(7, .v (.int .i64 (j:Int)))]) (fun j=> []) [] [] (fun j=> L.length - j) 0 ?_ (by
  refine Le.mkJ [] [] rfl ?_ ?_ trivial trivial ?_
  ·exact ⟨(iS rfl),(iP rfl),(by exact iV rfl),(bj ag),(bj ag),trivial⟩
  ·exact ⟨(bU rfl rfl rfl),trivial⟩
  kernel_rfl) ?_
 ·omega
 intro j hj
 refine aF fun K6 hK6=> ?_
 refine go 6 ?_
 refine ay rfl (fun hc12=> ?_) (fun hc12=> ?_)
 ·obtain ⟨a1,a2,a3,a4,a5⟩:=hat j ab
  have gc:=hgc j ab
  have gk:=hgk j ab
  rw [a1,a2,a3] at gc
  generalize mY L j=x at gk a4 a5
  refine aR (hK6 _ ?_)
  refine aE (aH (aE ?_))
  refine az (σ':=an 58 [(0,_),(3,_),(5,_),(6,_),(7,_)] [((3,0),_)] [] []) (by
   refine Le.mkJ [] [] rfl ?_ ?_ trivial trivial ?_
   ·exact ⟨(iS rfl),(iP rfl),(by exact iV rfl),(iV rfl),(iV rfl),trivial⟩
   ·exact ⟨(bU rfl rfl rfl),trivial⟩
   kernel_rfl) ?_
  refine dA 17 [] ?_
  refine go 4 ?_
  refine aB (_,[]) (fun τ=> aO _ _ aa rfl rfl _ rfl ab (by (simp only [aq,aJ,aM,aq,bA,cU,bN,eQ,cJ];omega)) ag) ?_
  refine go 5 ?_
  refine aB (_,[]) (fun τ=> bn _ aa rfl (by exact gc) rfl) ?_
  refine go 3 ?_
  refine aB (_,[]) (fun τ=> Cm _ _ [.int .i64 c1, .int .i64 c2, .int .i64 c3] rfl rfl ae (fun W=> yf 9998 W c1 c2 c3)) ?_
  refine go 7 ?_
  refine dM (_,[]) rfl (fun τ=> rfl) (fun τ=> aO _ _ aa rfl rfl _ rfl ab (by (simp only [aq,aJ,aM,aq,bA,cU,bN,eQ,cJ];omega)) ag) ?_
  refine go 5 ?_
  refine dM (_,[]) rfl (fun τ=> rfl) (fun τ=> bl _ aa rfl (by exact gk 3 ab) rfl) ?_
  refine go 1 ?_
  refine dM (_,[]) rfl (fun τ=> rfl) (fun τ=> ba (r:=decide (x.k=1)) _ _ rfl rfl (by rw [Bool.eq_iff_iff];simp)) ?_
  refine go 5 ?_
  refine ay rfl (fun hc31=> ?_) (fun hc31=> ?_)
  ·have hj:1≤j∧j≤draws.length:=Decidable.by_contra fun h=> a5 h hc31
   obtain ⟨_,a6⟩:=a4 hj
   refine az (σ':=an 58 [(0,_),(3,_),(5,_),(6,_),(7,_)] [((3,0),_)] [] []) (by
    refine Le.mkJ [] [] rfl ?_ ?_ trivial trivial ?_
    ·exact ⟨(iS rfl),(iP rfl),(by exact iV rfl),(iV rfl),(iV rfl),trivial⟩
    ·exact ⟨(bU rfl rfl rfl),trivial⟩
    kernel_rfl) ?_
   refine aD (bW rfl (gR rfl (bW rfl ?_)))
   refine aj (aO _ _ aa rfl rfl _ rfl ab (by (simp only [aq,aJ,aM,aq,bA,cU,bN,eQ,cJ];omega)) ag) ?_
   refine go 2 ?_
   refine aj (bl _ aa rfl (by exact gk 4 ab) rfl) ?_
   refine aj (qv _ _ rfl rfl rfl) (go 6 ?_)
   refine ax (⟨j+1,?_,?_,?_⟩)
   ·omega
   ·refine Le.mkJ [] [] rfl ?_ ?_ trivial trivial ?_
    ·exact ⟨(iS rfl),(iP rfl),(by exact iV rfl),(bj ab),(bj ag),trivial⟩
    ·exact ⟨(bU rfl rfl rfl),trivial⟩
    kernel_rfl
   omega
  have hj: ¬ (1≤j∧j≤draws.length):=fun h=> hc31 (a4 h).1
  refine kT ?_
  refine az (σ':=an 58 [(0,_),(3,_),(5,_),(6,_),(7,_)] [((3,0),_)] [] []) (by
   refine Le.mkJ [] [] rfl ?_ ?_ trivial trivial ?_
   ·exact ⟨(iS rfl),(iP rfl),(by exact iV rfl),(iV rfl),(iV rfl),trivial⟩
   ·exact ⟨(bU rfl rfl rfl),trivial⟩
   kernel_rfl) ?_
  refine go 4 ?_
  refine ax (⟨j+1,?_,?_,?_⟩)
  ·omega
  ·refine Le.mkJ [] [] rfl ?_ ?_ trivial trivial ?_
   ·exact ⟨(iS rfl),(iP rfl),(by exact iV rfl),(bj ab),(bj ag),trivial⟩
   ·exact ⟨(bU rfl rfl rfl),trivial⟩
   kernel_rfl
  omega
 obtain rfl:j=L.length:=by omega
 rw [show min (L.length - 1) draws.length=draws.length by omega]
 refine aW (id (hK4 _ ?_))
 refine aF fun K10 hK10=> ?_
 refine aG (cC rfl (am (aH ?_)))
 refine az (Le.nilS 5 (60,0) 3 1 rfl rfl) ?_
 refine aT (α:=Nat) (fun i=> i≤draws.length) 58 [(0,_),(3,_),(6,_)] [((3,0),_)] (fun i=> [(5, .ref (60,0) 0 i),(8, .v (.int .i64 (i:Int)))]) (fun i=> [((60,0), .row 3 1 (be (draws.take i)))]) [] [] (fun i=> draws.length - i) 0 ?_ (kj [0,2] [] []) ?_
 ·omega
 intro i hi
 refine aF fun K12 hK12=> ?_
 refine aF fun K13 hK13=> ?_
 refine aD (bW rfl (bW rfl (aj (Eo (r:=decide ((i:Int)≤(draws.length:Int) - 1)) _ _ rfl rfl rfl) ?_)))
 refine Ec rfl (cA (fun hg43=> ?_) (fun hg43=> ?_))
 ·have q2:=zS draws i ab
  have hv:=hvs i
  rw [hvd i] at hv
  refine go 1 ?_
  refine aV rfl rfl (cZ (r:=true) _ _ rfl rfl (decide_eq_true ab)) ?_
  refine go 1 ?_
  refine ax (hK13 _ ?_)
  refine fR rfl rfl (aR (hK12 _ ?_))
  refine go 8 ?_
  refine aj (ap aa al (hv) rfl rfl) ?_
  refine go 1 ?_
  refine aj (bI (56,0) _ _ aa rfl rfl (by rw [aq,List.length_take];omega) (.sl rfl) ab rfl q2 rfl) ?_
  refine eu rfl (Bg ?_)
  refine az (σ':=an 58 [(0,_),(3,_),(5,_),(6,_),(8,_)] [((3,0),_),((56,0),_)] [] []) kp ?_
  refine go 4 ?_
  refine ax (⟨i+1,?_,?_,?_⟩)
  ·omega
  ·refine Le.mkJ [((60,0),(56,0))] [] rfl ?_ ?_ trivial trivial ?_
   ·exact ⟨(by repeat' (exact Lv.sl)),(bs (id:=(3,0)) rfl),(by repeat' (exact Lv.v)),(cf rfl ag),(bj ag),trivial⟩
   ·exact ⟨(cT rfl rfl rfl rfl (by repeat' (first | exact Lv.v | exact aK | refine ai ?_ ?_))),(cL rfl rfl rfl ag),trivial⟩
   kernel_rfl
  omega
 obtain rfl:i=draws.length:=by omega
 refine go 3 ?_
 refine ax (hK13 _ ?_)
 refine cK rfl rfl (aW (id (hK10 _ ?_)))
 exact aG (iE rfl (eu rfl (am (au (cg (.inr rfl) rfl (.tmp mW) (Le.out [] [(60,0)] (Hn rfl rfl rfl (by rw [List.take_length]) rfl) rfl rfl rfl tr trivial))))))
theorem qr (s:Ns) (hs:fB s):Spec Tryz.prog 43 (aI [gm s,gm s] []) (aC (.v (.bool true)) []):=by
 have hd:=vT s.dk (by have:=hs.c;omega) (by have:=hs.p;omega)
 have h1:=mK s.vol (by have:=hs.v;omega)
 have h2:=mK s.timers (by have:=hs.t;omega)
 refine Spec.ofN Tryz.func43 rfl Tryz.ntmps43 rfl ?_
 refine go 11 ?_
 refine aj (Dq (r:=false) _ _ rfl rfl Tryz.underlying4 (bne_self_eq_false _)) ?_
 refine go 5 ?_
 refine aV rfl rfl (cM (r:=false) _ _ rfl rfl (bne_self_eq_false _)) ?_
 refine go 6 ?_
 refine aV rfl rfl (cM (r:=false) _ _ rfl rfl (bne_self_eq_false _)) ?_
 refine go 6 ?_
 refine aV rfl rfl (cM (r:=false) _ _ rfl rfl (bne_self_eq_false _)) ?_
 refine go 6 ?_
 refine aV rfl rfl (cM (r:=false) _ _ rfl rfl (bne_self_eq_false _)) ?_
 refine go 6 ?_
 refine aV rfl rfl (cM (r:=false) _ _ rfl rfl (bne_self_eq_false _)) ?_
 refine go 6 ?_
 refine aV rfl rfl (cM (r:=false) _ _ rfl rfl (bne_self_eq_false _)) ?_
 refine go 4 ?_
 refine aE ?_
 refine az (σ':=an 78 [(2,_),(3,_)] [((2,0),_),((3,0),_)] [] []) kp ?_
 refine go 5 ?_
 refine aj (Cm _ _ (Ob (aP s)) rfl rfl ae (fun W=> Kr W (aP s))) ?_
 refine go 5 ?_
 refine aV rfl rfl (ap aa al (hd) rfl rfl) ?_
 refine go 6 ?_
 refine aV rfl rfl (ap aa al (h1) rfl rfl) ?_
 refine go 6 ?_
 refine aV rfl rfl (ap aa al (h2) rfl rfl) ?_
 refine go 3 ?_
 exact au (dU rfl rfl)
instance RN:Ty Tryz.prog 93 true [.bool false, .int .i64 0, .int .i64 0, .int .i64 0, .slice none 0 0, .slice none 0 0, .slice none 0 0, .slice none 0 0, .int .i64 0, .int .i64 0, .int .i64 0, .int .i64 0, .int .i64 0, .int .i64 0, .int .i64 0, .int .i64 0, .int .i64 0, .int .i64 0, .int .i64 0, .int .i64 0, .int .i64 0, .int .i64 0, .int .i64 0, .int .i64 0, .int .i64 0, .int .i64 0, .int .i64 0, .int .i64 0, .int .i64 0, .int .i64 0, .int .i64 0, .int .i64 0, .int .i64 0, .int .i64 0, .int .i64 0, .int .i64 0, .int .i64 0, .int .i64 0, .int .i64 0, .int .i64 0, .int .i64 0, .int .i64 0, .int .i64 0, .int .i64 0, .int .i64 0, .int .i64 0, .int .i64 0, .int .i64 0, .int .i64 0, .int .i64 0, .int .i64 0, .int .i64 0, .slice none 0 0, .slice none 0 0, .bool false, .int .i64 0, .slice none 0 0, .int .i64 0, .int .i64 0, .int .i64 0, .slice none 0 0, .slice none 0 0, .int .i64 0, .bool false, .slice none 0 0, .slice none 0 0, .slice none 0 0]:=Ty.of (bytes:=728) (.agg #[.bool false, .int .i64 0, .int .i64 0, .int .i64 0, .slice none 0 0, .slice none 0 0, .slice none 0 0, .slice none 0 0, .int .i64 0, .int .i64 0, .int .i64 0, .int .i64 0, .int .i64 0, .int .i64 0, .int .i64 0, .int .i64 0, .int .i64 0, .int .i64 0, .int .i64 0, .int .i64 0, .int .i64 0, .int .i64 0, .int .i64 0, .int .i64 0, .int .i64 0, .int .i64 0, .int .i64 0, .int .i64 0, .int .i64 0, .int .i64 0, .int .i64 0, .int .i64 0, .int .i64 0, .int .i64 0, .int .i64 0, .int .i64 0, .int .i64 0, .int .i64 0, .int .i64 0, .int .i64 0, .int .i64 0, .int .i64 0, .int .i64 0, .int .i64 0, .int .i64 0, .int .i64 0, .int .i64 0, .int .i64 0, .int .i64 0, .int .i64 0, .int .i64 0, .int .i64 0, .slice none 0 0, .slice none 0 0, .bool false, .int .i64 0, .slice none 0 0, .int .i64 0, .int .i64 0, .int .i64 0, .slice none 0 0, .slice none 0 0, .int .i64 0, .bool false, .slice none 0 0, .slice none 0 0, .slice none 0 0]) Tryz.underlying93 rfl ae rfl oC
instance Mv:dO Tryz.prog 93 0 0:=⟨fun ad w=> by kernel_rfl⟩
instance OA:dO Tryz.prog 93 1 52:=⟨fun ad w=> by kernel_rfl⟩
instance OM:dO Tryz.prog 93 2 53:=⟨fun ad w=> by kernel_rfl⟩
instance NM:dO Tryz.prog 93 3 54:=⟨fun ad w=> by kernel_rfl⟩
instance Oo:dO Tryz.prog 93 4 55:=⟨fun ad w=> by kernel_rfl⟩
instance Nq:dO Tryz.prog 93 5 56:=⟨fun ad w=> by kernel_rfl⟩
instance MR:dO Tryz.prog 93 6 57:=⟨fun ad w=> by kernel_rfl⟩
instance MU:dO Tryz.prog 93 7 60:=⟨fun ad w=> by kernel_rfl⟩
instance Nc:dO Tryz.prog 93 8 66:=⟨fun ad w=> by kernel_rfl⟩
abbrev Nv (s:Ns) (r:Nr) (c:Cz) (o:Ms) (na:Nat) (A:List PV) (se fa:AV):List AV:=[.v (.bool s.up), .v (.int .i64 (s.ver)), .v (.int .i64 (s.epoch)), .v (.int .i64 (s.clock)), .sl s.dk.cells.length (be s.dk.cells), .sl s.dk.pend.length (iu s.dk.pend), .sl s.vol.length (be s.vol), .sl s.timers.length (be s.timers), .v (.int .i64 (aP s 0)), .v (.int .i64 (aP s 1)), .v (.int .i64 (aP s 2)), .v (.int .i64 (aP s 3)), .v (.int .i64 (aP s 4)), .v (.int .i64 (aP s 5)), .v (.int .i64 (aP s 6)), .v (.int .i64 (aP s 7)), .v (.int .i64 (aP s 8)), .v (.int .i64 (aP s 9)), .v (.int .i64 (aP s 10)), .v (.int .i64 (aP s 11)), .v (.int .i64 (aP s 12)), .v (.int .i64 (aP s 13)), .v (.int .i64 (aP s 14)), .v (.int .i64 (aP s 15)), .v (.int .i64 (aP s 16)), .v (.int .i64 (aP s 17)), .v (.int .i64 (aP s 18)), .v (.int .i64 (aP s 19)), .v (.int .i64 (aP s 20)), .v (.int .i64 (aP s 21)), .v (.int .i64 (aP s 22)), .v (.int .i64 (aP s 23)), .v (.int .i64 (aP s 24)), .v (.int .i64 (aP s 25)), .v (.int .i64 (aP s 26)), .v (.int .i64 (aP s 27)), .v (.int .i64 (aP s 28)), .v (.int .i64 (aP s 29)), .v (.int .i64 (aP s 30)), .v (.int .i64 (aP s 31)), .v (.int .i64 (aP s 32)), .v (.int .i64 (aP s 33)), .v (.int .i64 (aP s 34)), .v (.int .i64 (aP s 35)), .v (.int .i64 (aP s 36)), .v (.int .i64 (aP s 37)), .v (.int .i64 (aP s 38)), .v (.int .i64 (aP s 39)), .v (.int .i64 (aP s 40)), .v (.int .i64 (s.wait)), .v (.int .i64 (0)), .v (.int .i64 (0)), .sl na A,se, .v (.bool r.repl), .v (.int .i64 (r.value)),fa, .v (.int .i64 (c.a)), .v (.int .i64 (c.b)), .v (.int .i64 (c.c)), .sl o.vars.length (be o.vars), .sl o.acts.length (oz o.acts), .v (.int .i64 (o.steps:Int)), .v (.bool (!o.fin)), .sl (gh o.cov).length (be (gh o.cov)), .sl o.asked.length (be o.asked), .sl (gh o.cov).length (be (gh o.cov))]
abbrev SZ (a:Ac):AV:= .agg [.v (.int .i64 a.k), .v (.int .i64 a.a), .v (.int .i64 a.b), .v (.int .i64 a.c), .v (.int .i64 a.d)]
abbrev pL (c:Cz) (o:Ms) (na:Nat) (A:List PV) (s:Ns) (r:Nr) (a:Ac) (s':Ns) (r':Nr):Prop:=Spec Tryz.prog 112 (aL [.agg (Nv s r c o na A (.ref (3,9) 0 r.sent.length) (.ref (4,9) 0 r.fails.length)),SZ a] [((3,9), .row 117 9 (sY c r.sent)),((4,9), .row 3 1 (be r.fails))])
 (aN (.agg (Nv s' r' c o na A (.ref (3,8) 0 r'.sent.length) (.ref (4,8) 0 r'.fails.length))) [((3,8), .row 117 9 (sY c r'.sent)),((4,8), .row 3 1 (be r'.fails))] [(3,8),(4,8)] [])
section
variable (c:Cz) (o:Ms) (na:Nat) (A:List PV) (s:Ns) (r:Nr) (x y z w:Int)
set_option maxHeartbeats 2000000 in
theorem xk (hs:fB s) (ho:eL s.dk):pL c o na A s r ⟨1,x,y,z,w⟩ { s with dk:=s.dk.write x y } r:=by
 have hc:=hs.c
 have hp:=hs.p
 have hw:=uN s.dk x y ab ab ho
 refine Spec.ofNI Tryz.func112 rfl Tryz.ntmps112 rfl ?_
 refine go 24 ?_
 refine aj (ap aa al (hw) rfl rfl) ?_
 refine go 4 ?_
 refine aE ?_
 refine az (σ':=an 101 [(2,_),(4,_)] [((3,9),_),((4,9),_),((2,0),_),((4,0),_)] [(3,9),(4,9)] []) kp ?_
 refine go 4 ?_
 exact au (jF [((3,8),(3,9)),((4,8),(4,9))])
set_option maxHeartbeats 2000000 in
theorem zY (hs:fB s) (ho:eL s.dk):pL c o na A s r ⟨2,x,y,z,w⟩ { s with dk:=s.dk.sync } r:=by
 have hc:=hs.c
 have hp:=hs.p
 have hw:=wX s.dk ab ab ho
 refine Spec.ofNI Tryz.func112 rfl Tryz.ntmps112 rfl ?_
 refine go 25 ?_
 refine aj (ap aa al (hw) rfl rfl) ?_
 refine go 4 ?_
 refine aE ?_
 refine az (σ':=an 101 [(2,_),(4,_)] [((3,9),_),((4,9),_),((2,0),_),((4,0),_)] [(3,9),(4,9)] []) kp ?_
 refine go 4 ?_
 exact au (jF [((3,8),(3,9)),((4,8),(4,9))])
set_option maxHeartbeats 2000000 in
theorem wK (hs:fB s) (ho:eL s.dk):pL c o na A s r ⟨4,x,y,z,w⟩ { s with timers:=sF s.timers x true } r:=by
 have hw:=px s.timers x true (by have:=hs.t;omega)
 refine Spec.ofNI Tryz.func112 rfl Tryz.ntmps112 rfl ?_
 refine go 32 ?_
 refine aj (ap aa al (hw) rfl rfl) ?_
 refine go 4 ?_
 refine aE ?_
 refine az (σ':=an 101 [(2,_),(4,_)] [((3,9),_),((4,9),_),((2,0),_),((4,0),_)] [(3,9),(4,9)] []) kp ?_
 refine go 4 ?_
 exact au (jF [((3,8),(3,9)),((4,8),(4,9))])
set_option maxHeartbeats 2000000 in
theorem vD (hs:fB s) (ho:eL s.dk):pL c o na A s r ⟨5,x,y,z,w⟩ { s with timers:=sF s.timers x false } r:=by
 have hw:=px s.timers x false (by have:=hs.t;omega)
 refine Spec.ofNI Tryz.func112 rfl Tryz.ntmps112 rfl ?_
 refine go 37 ?_
 refine aj (ap aa al (hw) rfl rfl) ?_
 refine go 4 ?_
 refine aE ?_
 refine az (σ':=an 101 [(2,_),(4,_)] [((3,9),_),((4,9),_),((2,0),_),((4,0),_)] [(3,9),(4,9)] []) kp ?_
 refine go 4 ?_
 exact au (jF [((3,8),(3,9)),((4,8),(4,9))])
set_option maxHeartbeats 2000000 in
theorem Ad (hr:r.sent.length≤1000):pL c o na A s r ⟨3,x,y,z,w⟩ s { r with sent:=r.sent++[(⟨3,x,y,z,w⟩:Ac)] }:=by
 have hl2:=cU c r.sent
 have hl3:r.sent.length+1=(r.sent++[(⟨3,x,y,z,w⟩:Ac)]).length:=by rw [List.length_append];rfl
 refine Spec.ofNI Tryz.func112 rfl Tryz.ntmps112 rfl ?_
 refine go 36 ?_
 refine aE ?_
 refine az (σ':=an 101 [(2,_),(3,_),(4,_)] [((3,9),_),((4,9),_),((2,0),_),((3,0),_),((4,0),_)] [(3,9),(4,9)] []) kp ?_
 refine go 24 ?_
 refine bu (Le.incT (69,0) rfl) ?_
 refine aj (kJ (b:=true) (69,0) _ _ aa rfl rfl hl2.symm (.sl rfl) ab rfl rfl rfl (vZ c r.sent ⟨3,x,y,z,w⟩) hl3) ?_
 refine go 3 ?_
 refine aE ?_
 refine az (σ':=an 101 [(2,_),(4,_)] [((4,9),_),((2,0),_),((4,0),_),((69,0),_)] [(4,9),(69,0)] []) kp ?_
 refine go 4 ?_
 exact au (jF [((3,8),(69,0)),((4,8),(4,9))])
set_option maxHeartbeats 2000000 in
theorem wZ (h0:0≤s.wait) (h1:x=s.wait):pL c o na A s r ⟨6,x,y,z,w⟩ { s with wait:= -1 } { r with repl:=true,value:=y }:=by
 refine Spec.ofNI Tryz.func112 rfl Tryz.ntmps112 rfl ?_
 refine go 36 ?_
 refine aE ?_
 refine az (σ':=an 101 [(2,_),(3,_),(4,_),(7,_)] [((3,9),_),((4,9),_),((2,0),_),((3,0),_),((4,0),_)] [(3,9),(4,9)] []) kp ?_
 refine go 9 ?_
 refine aj (ez (r:=true) _ _ rfl rfl (decide_eq_true ab)) ?_
 refine go 6 ?_
 refine aV rfl rfl (ba (r:=true) _ _ rfl rfl (by rw [h1];exact beq_self_eq_true _)) ?_
 refine go 7 ?_
 refine aE ?_
 refine az (σ':=an 101 [(2,_),(3,_),(4,_)] [((3,9),_),((4,9),_),((2,0),_),((3,0),_),((4,0),_)] [(3,9),(4,9)] []) kp ?_
 refine go 15 ?_
 exact au (jF [((3,8),(3,9)),((4,8),(4,9))])
set_option maxHeartbeats 2000000 in
theorem vO (h0:s.wait < 0):pL c o na A s r ⟨6,x,y,z,w⟩ s r:=by
 refine Spec.ofNI Tryz.func112 rfl Tryz.ntmps112 rfl ?_
 refine go 36 ?_
 refine aE ?_
 refine az (σ':=an 101 [(2,_),(3,_),(4,_),(7,_)] [((3,9),_),((4,9),_),((2,0),_),((3,0),_),((4,0),_)] [(3,9),(4,9)] []) kp ?_
 refine go 9 ?_
 refine aj (ez (r:=false) _ _ rfl rfl (decide_eq_false ab)) ?_
 refine go 15 ?_
 exact au (jF [((3,8),(3,9)),((4,8),(4,9))])
set_option maxHeartbeats 2000000 in
theorem vB (h0:0≤s.wait) (h1:x≠s.wait):pL c o na A s r ⟨6,x,y,z,w⟩ s r:=by
 refine Spec.ofNI Tryz.func112 rfl Tryz.ntmps112 rfl ?_
 refine go 36 ?_
 refine aE ?_
 refine az (σ':=an 101 [(2,_),(3,_),(4,_),(7,_)] [((3,9),_),((4,9),_),((2,0),_),((3,0),_),((4,0),_)] [(3,9),(4,9)] []) kp ?_
 refine go 9 ?_
 refine aj (ez (r:=true) _ _ rfl rfl (decide_eq_true ab)) ?_
 refine go 6 ?_
 refine aV rfl rfl (ba (r:=false) _ _ rfl rfl (beq_eq_false_iff_ne.2 h1)) ?_
 refine go 8 ?_
 exact au (jF [((3,8),(3,9)),((4,8),(4,9))])
set_option maxHeartbeats 2000000 in
theorem zr (hr:r.fails.length≤1000):pL c o na A s r ⟨7,x,y,z,w⟩ s { r with fails:=r.fails++[x] }:=by
 have hl3:r.fails.length+1=(r.fails++[x]).length:=by rw [List.length_append];rfl
 refine Spec.ofNI Tryz.func112 rfl Tryz.ntmps112 rfl ?_
 refine go 36 ?_
 refine aE ?_
 refine az (σ':=an 101 [(2,_),(3,_),(4,_),(7,_)] [((3,9),_),((4,9),_),((2,0),_),((3,0),_),((4,0),_)] [(3,9),(4,9)] []) kp ?_
 refine go 16 ?_
 refine bu (Le.incT (98,0) rfl) ?_
 refine aj (kJ (b:=true) (98,0) _ _ aa rfl rfl (by rw [aq,Nat.mul_one]) (.sl rfl) ab rfl rfl rfl (lY r.fails [x]) hl3) ?_
 refine go 7 ?_
 exact au (jF [((3,8),(3,9)),((4,8),(98,0))])
end
theorem HC (c:Cz) (o:Ms) (na:Nat) (A:List PV) (s:Ns) (r:Nr) (a:Ac) (hk:1≤a.k∧a.k≤7) (hs:fB s) (ho:eL s.dk) (hr:r.sent.length≤1000) (hf:r.fails.length≤1000):
  pL c o na A s r a (dj (s,r) a).1 (dj (s,r) a).2:=by
 obtain ⟨k,x,y,z,w⟩:=a
 simp only at hk
 have:k=1∨k=2∨k=3∨k=4∨k=5∨k=6∨k=7:=by omega
 rcases this with e | e | e | e | e | e | e <;> subst e
 ·exact xk c o na A s r x y z w hs ho
 ·exact zY c o na A s r x y z w hs ho
 ·exact Ad c o na A s r x y z w hr
 ·exact wK c o na A s r x y z w hs ho
 ·exact vD c o na A s r x y z w hs ho
 ·by_cases h0:0≤s.wait
  ·by_cases h1:x=s.wait
   ·have e:dj (s,r) ⟨6,x,y,z,w⟩=({ s with wait:= -1 },{ r with repl:=true,value:=y }):=by
     show (if 0≤s.wait∧x=s.wait then ({ s with wait:= -1 },{ r with repl:=true,value:=y }) else (s,r))=_
     exact if_pos ⟨h0,h1⟩
    rw [e];exact wZ c o na A s r x y z w h0 h1
   have e:dj (s,r) ⟨6,x,y,z,w⟩=(s,r):=by
    show (if 0≤s.wait∧x=s.wait then ({ s with wait:= -1 },{ r with repl:=true,value:=y }) else (s,r))=_
    exact if_neg fun h=> h1 h.2
   rw [e];exact vB c o na A s r x y z w h0 h1
  have e:dj (s,r) ⟨6,x,y,z,w⟩=(s,r):=by
   show (if 0≤s.wait∧x=s.wait then ({ s with wait:= -1 },{ r with repl:=true,value:=y }) else (s,r))=_
   exact if_neg fun h=> h0 h.1
  rw [e];exact vO c o na A s r x y z w ab
 exact zr c o na A s r x y z w hf
end Go.Proofs.YtmjnackchaahbaaGreat

set_option maxHeartbeats 2000000
namespace Go.Proofs.YtmjnackchaahbaaGreat
open Go.RowKit

theorem Jt (P:Pg) (hp:lU P) (hcl:P.c.length≤1000000) (h:Nat) (hh:h < 40) (nm iv ans:List Int) (hn: ∀ i,Rg (nm.getD i 0)) (hiv:iv.length=P.d+P.v) (hir: ∀ v∈iv,Rg v) (ha:ans.length≤4611686018427387904) (R:Ms) (hR:R=jN P h nm iv ans):
  Spec Tryz.prog 26 (aI [eU P, .v (.int .i64 (h:Int)), .sl iv.length (be iv), .agg [.v (.int .i64 (nm.getD 0 0)), .v (.int .i64 (nm.getD 1 0)), .v (.int .i64 (nm.getD 2 0)), .v (.int .i64 (nm.getD 3 0)), .v (.int .i64 (nm.getD 4 0)), .v (.int .i64 (nm.getD 5 0)), .v (.int .i64 (nm.getD 6 0)), .v (.int .i64 (nm.getD 7 0)), .v (.int .i64 (nm.getD 8 0))], .sl ans.length (be ans)] [])
   (aC (.agg [.sl R.vars.length (be R.vars), .sl R.acts.length (oz R.acts), .v (.int .i64 (R.steps:Int)), .v (.bool (!R.fin)), .sl (gh R.cov).length (be (gh R.cov)), .sl R.asked.length (be R.asked)]) []):=by
 have hnv:=hp.nv
 by_cases he:P.e h < 0
 ·have hR2:R={ vars:=iv,pc:=0,fin:=true }:=by rw [hR];unfold jN;rw [if_pos he]
  subst hR2
  exact wR ⟨P,iv,nm,ans,uU⟩ h hh he (by show iv.length≤1000;omega)
 obtain ⟨D,hg,hE⟩:=hp.ex
 obtain ⟨e1,e2,e3⟩:=(hE h).resolve_left he
 have hR2:R=ju ⟨P.c,P.d,nm,ans⟩ 500 (cR iv (P.e h).toNat):=by rw [hR];unfold jN;rw [if_neg he]
 exact yZ ⟨P,iv,nm,ans,uU⟩ D (P.d+P.v) ⟨hg,hnv,hn⟩ h hh (P.e h).toNat (by show P.e h=_;omega) (by show _ < P.c.length;omega) e3 hiv hir hcl ha R hR2
end Go.Proofs.YtmjnackchaahbaaGreat

set_option maxHeartbeats 2000000
namespace Go.Proofs.YtmjnackchaahbaaGreat
open Go.RowKit

abbrev uA (s:Ns) (r:Nr) (c:Cz) (o:Ms) (na:Nat) (A:List PV):AV:= .agg (Nv s r c o na A (.sl r.sent.length (sY c r.sent)) (.sl r.fails.length (be r.fails)))
theorem HY (up:Bool) (ver ep ck:Int) (ce pe vo tm:AV) (e:Nat→Int) (wt:Int) (T:List AV) (h:Nat) (hh:h < 41):(AZ up ver ep ck ce pe vo tm e wt++T)[8+h]? =some (.v (.int .i64 (e h))):=by
 rw [List.getElem?_append_left (by show 8+h < 52;omega)]
 exact jA up ver ep ck ce pe vo tm e wt h hh
theorem Dg (up:Bool) (ver ep ck:Int) (ce pe vo tm:AV) (e:Nat→Int) (wt:Int) (T:List AV) (h:Nat) (hh:h < 41) (x:Int):fI (AZ up ver ep ck ce pe vo tm e wt++T) (8+h) [.v (.int .i64 x)]=AZ up ver ep ck ce pe vo tm (kO e h x) wt++T:=by
 rw [← pV up ver ep ck ce pe vo tm e wt h hh x]
 unfold fI
 rw [List.take_append_of_le_length (by show 8+h≤52;omega),List.drop_append_of_le_length (by show 8+h+1≤52;omega)]
 simp only [List.append_assoc]
theorem Cy (t:Tl) (ans:List Int) (l:List Int) {i:Nat} (hi:i < l.length):mw t ans (l.take i)++pZ t 1 (i:Int) (l.getD i 0) (ee ans i (l.getD i 0))=mw t ans (l.take (i+1)):=by
 have h:=uJ { t with pre:=[] } ans (l.take i) (l.getD i 0)
 have e1:(l.take i).length=i:=by rw [List.length_take];omega
 have e2:l.take (i+1)=l.take i++[l.getD i 0]:=by rw [List.take_add_one,List.getElem?_eq_getElem hi,List.getD_eq_getElem?_getD,List.getElem?_eq_getElem hi];rfl
 rw [e1] at h
 rw [e2];exact h
theorem ES (t:Tl) (drift tick:Int):(iz t drift tick).length=eX drift*7:=by
 unfold iz eX;split <;> rfl
set_option maxHeartbeats 4000000 in
theorem tS (s:Ns) (hs:fB s) (ho:eL s.dk) (hc:s.counts.length=41) (P:Pg) (h:Nat) (hh:h < 40) (self nodes drift tick:Int) (nm:List Int) (t:Tl) (ans:List Int) (hdr:0≤drift∧drift≤1000) (ht1:t.c1=self) (ht2:t.c2=(h:Int)) (ht3:t.c3=s.counts.getD h 0)
  (hlk:0 < drift→pB t 2 0 (drift+1) (tick % (drift+1))) (hld: ∀ (i:Nat) (k:Int),i≤100000→2≤k→k≤4→pB t 1 (i:Int) k (ee ans i k)) (hcb: ∀ k, -1000000≤s.counts.getD k 0∧s.counts.getD k 0≤1000000) (hck: -1000000≤s.clock∧s.clock≤1000000)
  (hraw:Spec Tryz.prog 111 (aI [.sl t.na t.A, .agg [.v (.int .i64 self), .v (.int .i64 (h:Int)), .v (.int .i64 (s.counts.getD h 0))]] []) (aC (.sl ans.length (be ans)) [])) (R:Ms)
  (hv:Spec Tryz.prog 26 (aI [eU P, .v (.int .i64 (h:Int)), .sl (s.dk.view++s.vol).length (be (s.dk.view++s.vol)), .agg [.v (.int .i64 (self)), .v (.int .i64 (nodes)), .v (.int .i64 (aQ s.clock drift tick)), .v (.int .i64 (nm.getD 3 0)), .v (.int .i64 (nm.getD 4 0)), .v (.int .i64 (nm.getD 5 0)), .v (.int .i64 (nm.getD 6 0)), .v (.int .i64 (nm.getD 7 0)), .v (.int .i64 (nm.getD 8 0))], .sl ans.length (be ans)] []) (aC (.agg [.sl R.vars.length (be R.vars), .sl R.acts.length (oz R.acts), .v (.int .i64 (R.steps:Int)), .v (.bool (!R.fin)), .sl (gh R.cov).length (be (gh R.cov)), .sl R.asked.length (be R.asked)]) []))
  (hd:P.d≤R.vars.length) (hrv:R.vars.length≤P.d+16) (hra:R.acts.length≤500) (hrk:R.asked.length≤500) (hak: ∀ i,i < R.asked.length→2≤R.asked.getD i 0∧R.asked.getD i 0≤4)
  (hq: ∀ i,i < R.acts.length→ ∀ (na:Nat) (A:List PV),pL ⟨self,(h:Int),s.counts.getD h 0⟩ R na A (bC s h (aQ s.clock drift tick) P R i).1 (bC s h (aQ s.clock drift tick) P R i).2 (kt R.acts i) (bC s h (aQ s.clock drift tick) P R (i+1)).1 (bC s h (aQ s.clock drift tick) P R (i+1)).2):
  Spec Tryz.prog 80 (aI [gm s,eU P, .v (.int .i64 (h:Int)), .v (.int .i64 self), .v (.int .i64 nodes), .v (.int .i64 drift), .agg [.v (.int .i64 (nm.getD 0 0)), .v (.int .i64 (nm.getD 1 0)), .v (.int .i64 (nm.getD 2 0)), .v (.int .i64 (nm.getD 3 0)), .v (.int .i64 (nm.getD 4 0)), .v (.int .i64 (nm.getD 5 0)), .v (.int .i64 (nm.getD 6 0)), .v (.int .i64 (nm.getD 7 0)), .v (.int .i64 (nm.getD 8 0))], .sl t.na t.A] [])
   (aC (uA (bC s h (aQ s.clock drift tick) P R R.acts.length).1 (bC s h (aQ s.clock drift tick) P R R.acts.length).2 ⟨self,(h:Int),s.counts.getD h 0⟩ R (eX drift+R.asked.length) (iz t drift tick++mw t ans R.asked)) []):=by
 have hcb2:=hcb h
 have hcb2: -1000000≤aP s h∧aP s h≤1000000:=hcb2
 have hce:=nZ s h ab (s.counts.getD h 0+1)
 have hal:=bN R.acts
 have hnv:=rh s hs ho
 have hpl:=ES t drift tick
 have hpn1:eX drift≤1:=by unfold eX;split <;> omega
 have hqs:=fun i (hi:i < R.asked.length)=> Cy t ans R.asked hi
 have hql:=yn t ans
 have hL7:(iz t drift tick++mw t ans R.asked).length=(eX drift+R.asked.length)*7:=by rw [List.length_append,hpl,hql];omega
 have hin:=zC (R.vars.drop P.d) (by rw [List.length_drop];omega) 16 ab
 rw [List.take_of_length_le (by rw [List.length_drop];omega)] at hin
 have hds:((be R.vars).drop (P.d*1)).take ((R.vars.length - P.d)*1)=be (R.vars.drop P.d):=by
  rw [Nat.mul_one,Nat.mul_one,List.take_of_length_le (by rw [List.length_drop,aq];omega)]
  simp [be,List.map_drop]
 have hdl:R.vars.length - P.d=(R.vars.drop P.d).length:=by rw [List.length_drop]
 have htk0:drift≤0→aQ s.clock drift tick=s.clock+1:=fun h=> wn h
 have htk1:0 < drift→aQ s.clock drift tick=s.clock+1+tick % (drift+1):=fun h=> uz h
 have hmod:0 < drift→0≤tick % (drift+1)∧tick % (drift+1) < drift+1:=fun h=> ⟨Int.emod_nonneg _ ab,Int.emod_lt_of_pos _ ab⟩
 unfold pB at hlk hld
 rw [ht1,ht2,ht3] at hlk hld
 refine Spec.ofN Tryz.func80 rfl Tryz.ntmps80 rfl ?_
 refine go 6 ?_
 refine aE ?_
 refine az (σ':=an 158 [(2,_),(3,_),(4,_),(5,_),(7,_),(8,_),(9,_),(14,_),(16,_)] [((8,0),_),((9,0),_),((14,0),_),((16,0),_)] [] []) kp ?_
 refine dA 10 [(17,0)] ?_
 refine go 10 ?_
 refine aB (_,[]) (fun τ=> bJ _ _ aa rfl rfl rfl h rfl ab (show 8+h*1=8+h from by omega)) ?_
 refine go 1 ?_
 refine aB (_,[]) (fun τ=> bB _ aa rfl rfl (jA _ _ _ _ _ _ _ _ _ _ h ab)) ?_
 refine go 5 ?_
 refine aB (_,[((17,0),_)]) (fun τ=> fq (17,0) aa rfl rfl) ?_
 refine go 13 ?_
 refine jI (α:=Unit) (fun u=> True) 158 [(2,_),(3,_),(4,_),(7,_),(8,_),(9,_),(14,_),(16,_),(17,_)] [((8,0),_),((9,0),_),((14,0),_),((16,0),_)] (fun u=> []) (fun u=> [((17,0), .box 93 [.v (.bool s.up), .v (.int .i64 (s.ver)), .v (.int .i64 (s.epoch)), .v (.int .i64 (aQ s.clock drift tick)), .sl s.dk.cells.length (be s.dk.cells), .sl s.dk.pend.length (iu s.dk.pend), .sl s.vol.length (be s.vol), .sl s.timers.length (be s.timers), .v (.int .i64 (aP s 0)), .v (.int .i64 (aP s 1)), .v (.int .i64 (aP s 2)), .v (.int .i64 (aP s 3)), .v (.int .i64 (aP s 4)), .v (.int .i64 (aP s 5)), .v (.int .i64 (aP s 6)), .v (.int .i64 (aP s 7)), .v (.int .i64 (aP s 8)), .v (.int .i64 (aP s 9)), .v (.int .i64 (aP s 10)), .v (.int .i64 (aP s 11)), .v (.int .i64 (aP s 12)), .v (.int .i64 (aP s 13)), .v (.int .i64 (aP s 14)), .v (.int .i64 (aP s 15)), .v (.int .i64 (aP s 16)), .v (.int .i64 (aP s 17)), .v (.int .i64 (aP s 18)), .v (.int .i64 (aP s 19)), .v (.int .i64 (aP s 20)), .v (.int .i64 (aP s 21)), .v (.int .i64 (aP s 22)), .v (.int .i64 (aP s 23)), .v (.int .i64 (aP s 24)), .v (.int .i64 (aP s 25)), .v (.int .i64 (aP s 26)), .v (.int .i64 (aP s 27)), .v (.int .i64 (aP s 28)), .v (.int .i64 (aP s 29)), .v (.int .i64 (aP s 30)), .v (.int .i64 (aP s 31)), .v (.int .i64 (aP s 32)), .v (.int .i64 (aP s 33)), .v (.int .i64 (aP s 34)), .v (.int .i64 (aP s 35)), .v (.int .i64 (aP s 36)), .v (.int .i64 (aP s 37)), .v (.int .i64 (aP s 38)), .v (.int .i64 (aP s 39)), .v (.int .i64 (aP s 40)), .v (.int .i64 (s.wait)), .v (.int .i64 (0)), .v (.int .i64 (0)), .ref (60,0) 0 (eX drift), .v (.slice none 0 0), .v (.bool false), .v (.int .i64 (0)), .v (.slice none 0 0), .v (.int .i64 (self)), .v (.int .i64 ((h:Int))), .v (.int .i64 (s.counts.getD h 0)), .v (.slice none 0 0), .v (.slice none 0 0), .v (.int .i64 (0)), .v (.bool false), .v (.slice none 0 0), .v (.slice none 0 0), .v (.slice none 0 0)]),((60,0), .row 111 7 (iz t drift tick))]) [] []
  (by exact ⟨(iV rfl),(iV rfl),(iV rfl),(iS rfl),(iP rfl),(iP rfl),(iP rfl),(iP rfl),(iP rfl),trivial⟩)
  (by exact ⟨(bU rfl rfl rfl),(bU rfl rfl rfl),(bU rfl rfl rfl),(bU rfl rfl rfl),trivial⟩) ?_ ?_
 ·refine aE ?_
  refine az (Le.nilB (17,0) 52 (60,0) 111 7 rfl rfl rfl) ?_
  refine aD (bW rfl (aj (oP (r:=decide (0 < drift)) _ _ rfl rfl rfl) ?_))
  refine am (ay rfl (fun hc39=> ?_) (fun hc39=> ?_))
  ·have hlk1:=hlk hc39
   have htk2:=htk1 hc39
   have hmd:=hmod hc39
   have hpq:iz t drift tick=pZ t 2 0 (drift+1) (tick % (drift+1)):=if_pos hc39
   have hpn:eX drift=1:=if_pos hc39
   refine aE ?_
   refine az (σ':=an 158 [(2,_),(3,_),(4,_),(5,_),(7,_),(8,_),(9,_),(14,_),(16,_),(17,_)] [((8,0),_),((9,0),_),((14,0),_),((16,0),_),((17,0),_),((60,0),_)] [] []) kp ?_
   refine go 11 ?_
   refine aj (eT (r:=drift+1) _ _ rfl rfl (bT ab)) ?_
   refine aj (ap aa al (hlk1) rfl rfl) ?_
   refine go 7 ?_
   refine aj (eT (r:=drift+1) _ _ rfl rfl (bT ab)) ?_
   refine go 3 ?_
   refine aj (bI (56,0) _ _ aa rfl rfl rfl (.sl rfl) ab rfl (List.nil_append _) rfl) ?_
   refine go 3 ?_
   refine az (σ':=an 158 [(2,_),(3,_),(4,_),(7,_),(8,_),(9,_),(14,_),(16,_),(17,_),(19,_)] [((8,0),_),((9,0),_),((14,0),_),((16,0),_),((17,0),_),((56,0),_)] [] []) kp ?_
   refine go 9 ?_
   refine ax (⟨(),?_,?_⟩)
   ·trivial
   refine Le.mkJ [((60,0),(56,0))] [] rfl ?_ ?_ trivial trivial ?_
   ·exact ⟨(by repeat' (exact Lv.v)),(by repeat' (exact Lv.v)),(by repeat' (exact Lv.v)),(by repeat' (exact Lv.sl)),(bs (id:=(8,0)) rfl),(bs (id:=(9,0)) rfl),(bs (id:=(14,0)) rfl),(bs (id:=(16,0)) rfl),(bs (id:=(17,0)) rfl),trivial⟩
   ·exact ⟨(cT rfl rfl rfl rfl (by repeat' (first | exact Lv.v | exact Lv.sl | exact aK | refine ai ?_ ?_))),(cT rfl rfl rfl rfl (by repeat' (first | exact Lv.v | exact Lv.sl | exact aK | refine ai ?_ ?_))),(cT rfl rfl rfl rfl (by repeat' (first | exact Lv.v | exact aK | refine ai ?_ ?_))),(cT rfl rfl rfl rfl (by repeat' (first | exact Lv.v | exact aK | refine ai ?_ ?_))),(cT rfl rfl rfl rfl (ai (jL ag) (fJ (fJ (ai (bj ab) (ai (de ag ag) (ai (de ag ag) (ai (de ag ag) (ai (de ag ag) (fj (fj (fj (fj (rP (ai (cf rfl ab) (ai (by repeat' (exact Lv.v)) (ai (jL ag) (fJ (ai (by repeat' (exact Lv.v)) (fJ (fJ (fJ (ai (by repeat' (exact Lv.v)) (ai (by repeat' (exact Lv.v)) (fJ (ai (jL ag) (ai (by repeat' (exact Lv.v)) (ai (by repeat' (exact Lv.v)) (ai (by repeat' (exact Lv.v)) aK))))))))))))))))))))))))))))),(cL rfl rfl rfl (by (((rw [hpq];unfold pZ;rw [ht1,ht2,ht3]))))),trivial⟩
   kernel_rfl
  have htk2:=htk0 ab
  have hpq:iz t drift tick=[]:=if_neg ab
  have hpn:eX drift=0:=if_neg ab
  refine aR (⟨(),?_,?_⟩)
  ·trivial
  refine Le.mkJ [] [] rfl ?_ ?_ trivial trivial ?_
  ·exact ⟨(iV rfl),(iV rfl),(iV rfl),(iS rfl),(iP rfl),(iP rfl),(iP rfl),(iP rfl),(iP rfl),trivial⟩
  ·exact ⟨(bU rfl rfl rfl),(bU rfl rfl rfl),(bU rfl rfl rfl),(bU rfl rfl rfl),(cT rfl rfl rfl rfl (ai (jL ag) (fJ (fJ (ai (bj ab) (ai (de ag ag) (ai (de ag ag) (ai (de ag ag) (ai (de ag ag) (fj (fj (fj (fj (rP (ai (cf rfl ab) (ai (by repeat' (exact Lv.v)) (ai (jL ag) (fJ (ai (by repeat' (exact Lv.v)) (fJ (fJ (fJ (ai (by repeat' (exact Lv.v)) (ai (by repeat' (exact Lv.v)) (fJ (ai (jL ag) (ai (by repeat' (exact Lv.v)) (ai (by repeat' (exact Lv.v)) (ai (by repeat' (exact Lv.v)) aK))))))))))))))))))))))))))))),(cL rfl rfl rfl ab),trivial⟩
  kernel_rfl
 intro u hu
 refine aG (bW rfl (aj (bJ _ _ aa rfl rfl rfl 0 rfl ab rfl) ?_))
 refine go 4 ?_
 refine aj (bJ _ _ aa rfl rfl rfl 1 rfl ab rfl) ?_
 refine go 6 ?_
 refine aj (bJ _ _ aa rfl rfl rfl 2 rfl ab rfl) ?_
 refine go 2 ?_
 refine aE ?_
 refine az (σ':=an 158 [(2,_),(7,_),(8,_),(9,_),(14,_),(16,_),(17,_)] [((8,0),_),((9,0),_),((14,0),_),((16,0),_),((17,0),_),((60,0),_)] [] []) kp ?_
 refine dA 11 [] ?_
 refine go 6 ?_
 refine aB (_,[]) (fun τ=> (ap aa al (hnv) rfl rfl)) ?_
 refine go 9 ?_
 refine aB (_,[]) (fun τ=> (ap aa al (hraw) rfl rfl)) ?_
 refine go 1 ?_
 refine aB (_,[]) (fun τ=> (ap aa al (hv) rfl rfl)) ?_
 refine go 13 ?_
 refine aF fun K13 hK13=> ?_
 refine aE ?_
 refine az (σ':=an 158 [(2,_),(7,_),(9,_),(16,_),(17,_)] [((9,0),_),((16,0),_),((17,0),_),((60,0),_)] [] []) kp ?_
 refine aD (cC rfl (am (aH ?_)))
 refine aT (α:=Nat) (fun i=> i≤R.asked.length) 158 [(2,_),(7,_),(9,_),(16,_),(17,_)] [((9,0),_),((16,0),_)] (fun i=> [(20, .v (.int .i64 (i:Int)))]) (fun i=> [((17,0), .box 93 [.v (.bool s.up), .v (.int .i64 (s.ver)), .v (.int .i64 (s.epoch)), .v (.int .i64 (aQ s.clock drift tick)), .sl s.dk.cells.length (be s.dk.cells), .sl s.dk.pend.length (iu s.dk.pend), .sl s.vol.length (be s.vol), .sl s.timers.length (be s.timers), .v (.int .i64 (aP s 0)), .v (.int .i64 (aP s 1)), .v (.int .i64 (aP s 2)), .v (.int .i64 (aP s 3)), .v (.int .i64 (aP s 4)), .v (.int .i64 (aP s 5)), .v (.int .i64 (aP s 6)), .v (.int .i64 (aP s 7)), .v (.int .i64 (aP s 8)), .v (.int .i64 (aP s 9)), .v (.int .i64 (aP s 10)), .v (.int .i64 (aP s 11)), .v (.int .i64 (aP s 12)), .v (.int .i64 (aP s 13)), .v (.int .i64 (aP s 14)), .v (.int .i64 (aP s 15)), .v (.int .i64 (aP s 16)), .v (.int .i64 (aP s 17)), .v (.int .i64 (aP s 18)), .v (.int .i64 (aP s 19)), .v (.int .i64 (aP s 20)), .v (.int .i64 (aP s 21)), .v (.int .i64 (aP s 22)), .v (.int .i64 (aP s 23)), .v (.int .i64 (aP s 24)), .v (.int .i64 (aP s 25)), .v (.int .i64 (aP s 26)), .v (.int .i64 (aP s 27)), .v (.int .i64 (aP s 28)), .v (.int .i64 (aP s 29)), .v (.int .i64 (aP s 30)), .v (.int .i64 (aP s 31)), .v (.int .i64 (aP s 32)), .v (.int .i64 (aP s 33)), .v (.int .i64 (aP s 34)), .v (.int .i64 (aP s 35)), .v (.int .i64 (aP s 36)), .v (.int .i64 (aP s 37)), .v (.int .i64 (aP s 38)), .v (.int .i64 (aP s 39)), .v (.int .i64 (aP s 40)), .v (.int .i64 (s.wait)), .v (.int .i64 (0)), .v (.int .i64 (0)), .ref (60,0) 0 (eX drift+i), .v (.slice none 0 0), .v (.bool false), .v (.int .i64 (0)), .v (.slice none 0 0), .v (.int .i64 (self)), .v (.int .i64 ((h:Int))), .v (.int .i64 (s.counts.getD h 0)), .sl R.vars.length (be R.vars), .sl R.acts.length (oz R.acts), .v (.int .i64 (R.steps:Int)), .v (.bool (!R.fin)), .sl (gh R.cov).length (be (gh R.cov)), .sl R.asked.length (be R.asked), .sl (gh R.cov).length (be (gh R.cov))]),((60,0), .row 111 7 (iz t drift tick++mw t ans (R.asked.take i)))]) [] [] (fun i=> R.asked.length - i) 0 ?_ (by
  refine Le.mkJ [] [] rfl ?_ ?_ trivial trivial ?_
  ·exact ⟨(iV rfl),(iS rfl),(iP rfl),(iP rfl),(iP rfl),(bj ag),trivial⟩
  ·exact ⟨(bU rfl rfl rfl),(bU rfl rfl rfl),(cT rfl rfl rfl rfl (ai (jL ag) (fJ (fJ (fJ (ai (de ag ag) (ai (de ag ag) (ai (de ag ag) (ai (de ag ag) (fj (fj (fj (fj (rP (ai (cf rfl ag) (ai (by repeat' (exact Lv.v)) (ai (jL ag) (fJ (ai (by repeat' (exact Lv.v)) lz))))))))))))))))))),(cL rfl rfl rfl (by (((simp [mw];done))))),trivial⟩
  kernel_rfl) ?_
 ·omega
 intro i hi
 refine aF fun K15 hK15=> ?_
 refine go 8 ?_
 refine ay rfl (fun hc93=> ?_) (fun hc93=> ?_)
 ·have hk1:=hak i ab
  have hl1:=hld i (R.asked.getD i 0) ab hk1.1 hk1.2
  have q2:=hqs i ab
  have q3:(eX drift+i)*7=(iz t drift tick++mw t ans (R.asked.take i)).length:=by rw [List.length_append,hpl,hql,List.length_take,Nat.min_eq_left ab];omega
  have q4:(iz t drift tick++mw t ans (R.asked.take i))++[.v (.int .i64 self), .v (.int .i64 (h:Int)), .v (.int .i64 (s.counts.getD h 0)), .v (.int .i64 1), .v (.int .i64 (i:Int)), .v (.int .i64 (R.asked.getD i 0)), .v (.int .i64 (ee ans i (R.asked.getD i 0)))]=iz t drift tick++mw t ans (R.asked.take (i+1)):=by rw [List.append_assoc,← q2];unfold pZ;rw [ht1,ht2,ht3]
  refine aR (hK15 _ ?_)
  refine go 10 ?_
  refine az (σ':=an 158 [(2,_),(7,_),(9,_),(16,_),(17,_),(20,_),(21,_)] [((9,0),_),((16,0),_),((17,0),_),((60,0),_),((21,0),_)] [] []) kp ?_
  refine dA 22 [(60,0),(120,0)] ?_
  refine go 14 ?_
  refine aB (_,[]) (fun τ=> aO _ _ aa rfl rfl _ rfl ab (by (simp only [aq,aJ,aM,aq,bA,cU,bN,eQ,cJ];omega)) (by exact Nat.mul_one _)) ?_
  refine go 1 ?_
  refine aB (_,[]) (fun τ=> bl _ aa rfl (by exact cI _ _ ab) rfl) ?_
  refine go 13 ?_
  refine aB (_,[]) (fun τ=> aO _ _ aa rfl rfl _ rfl ab (by (simp only [aq,aJ,aM,aq,bA,cU,bN,eQ,cJ];omega)) (by exact Nat.mul_one _)) ?_
  refine go 1 ?_
  refine aB (_,[]) (fun τ=> bl _ aa rfl (by exact cI _ _ ab) rfl) ?_
  refine go 1 ?_
  refine aB (_,[]) (fun τ=> (ap aa al (hl1) rfl rfl)) ?_
  refine go 5 ?_
  refine aB (_,[((60,0), .gone),((120,0),_)]) (fun τ=> tu (120,0) _ _ aa rfl rfl q3 (.sl rfl) ab rfl rfl rfl (by exact q4) rfl) ?_
  refine go 6 ?_
  refine az (σ':=an 158 [(2,_),(7,_),(9,_),(16,_),(17,_),(20,_)] [((9,0),_),((16,0),_),((17,0),_),((120,0),_)] [] []) kp ?_
  refine go 4 ?_
  refine ax (⟨i+1,?_,?_,?_⟩)
  ·omega
  ·refine Le.mkJ [((60,0),(120,0))] [] rfl ?_ ?_ trivial trivial ?_
   ·exact ⟨(by repeat' (exact Lv.v)),(by repeat' (exact Lv.sl)),(bs (id:=(9,0)) rfl),(bs (id:=(16,0)) rfl),(bs (id:=(17,0)) rfl),(bj ag),trivial⟩
   ·exact ⟨(cT rfl rfl rfl rfl (by repeat' (first | exact Lv.v | exact Lv.sl | exact aK | refine ai ?_ ?_))),(cT rfl rfl rfl rfl (by repeat' (first | exact Lv.v | exact aK | refine ai ?_ ?_))),(cT rfl rfl rfl rfl (ai (jL ag) (fJ (fJ (fJ (ai (de ag ag) (ai (de ag ag) (ai (de ag ag) (ai (de ag ag) (fj (fj (fj (fj (rP (ai (cf rfl ag) (ai (by repeat' (exact Lv.v)) (ai (jL ag) (fJ (ai (by repeat' (exact Lv.v)) lz))))))))))))))))))),(cL rfl rfl rfl ag),trivial⟩
   kernel_rfl
  omega
 obtain rfl:i=R.asked.length:=by omega
 rw [List.take_length]
 refine aW (id (hK13 _ ?_))
 refine go 5 ?_
 refine aj (bJ _ _ aa rfl rfl rfl h rfl ab (show 8+h*1=8+h from by omega)) ?_
 refine aj (bB _ aa rfl rfl (by exact HY _ _ _ _ _ _ _ _ _ _ _ h ab)) ?_
 refine go 3 ?_
 refine aj (bJ _ _ aa rfl rfl rfl h rfl ab (show 8+h*1=8+h from by omega)) ?_
 refine aj (cY _ _ aa rfl rfl rfl rfl (by show (8+h)+1≤67;omega) (by exact (Dg s.up s.ver s.epoch (aQ s.clock drift tick) _ _ _ _ (aP s) s.wait _ h ab _).trans (congrArg (fun e=> AZ s.up s.ver s.epoch (aQ s.clock drift tick) _ _ _ _ e s.wait++_) hce))) ?_
 refine am (aE ?_)
 refine az (σ':=an 158 [(9,_),(16,_),(17,_)] [((9,0),_),((16,0),_),((17,0),_),((60,0),_)] [] []) kp ?_
 refine go 6 ?_
 refine aj (fW _ _ _ aa rfl P.d R.vars.length (.lit rfl rfl) .dflt hd (Nat.le_refl _) hds hdl) ?_
 refine aj (ap aa al (hin) rfl rfl) ?_
 refine go 4 ?_
 refine aF fun K21 hK21=> ?_
 refine aG (cC rfl (am (aH ?_)))
 refine az (Le.frzB (ys:=iz t drift tick++mw t ans R.asked) (17,0) 52 rfl rfl rfl rfl (by rw [List.drop_zero,List.take_of_length_le (by rw [hL7];exact Nat.le_refl _)]) (by rw [hL7,Nat.zero_add];exact Nat.le_refl _)) ?_
 refine az (Le.nilB (17,0) 53 (63,0) 117 9 rfl rfl rfl) ?_
 refine az (Le.nilB (17,0) 56 (64,0) 3 1 rfl rfl rfl) ?_
 refine aT (α:=Nat) (fun k=> k≤R.acts.length) 158 [(16,_),(17,_)] [((16,0),_)] (fun k=> [(22, .v (.int .i64 (k:Int)))]) (fun k=> [((17,0), .box 93 [.v (.bool (bC s h (aQ s.clock drift tick) P R k).1.up), .v (.int .i64 ((bC s h (aQ s.clock drift tick) P R k).1.ver)), .v (.int .i64 ((bC s h (aQ s.clock drift tick) P R k).1.epoch)), .v (.int .i64 ((bC s h (aQ s.clock drift tick) P R k).1.clock)), .sl (bC s h (aQ s.clock drift tick) P R k).1.dk.cells.length (be (bC s h (aQ s.clock drift tick) P R k).1.dk.cells), .sl (bC s h (aQ s.clock drift tick) P R k).1.dk.pend.length (iu (bC s h (aQ s.clock drift tick) P R k).1.dk.pend), .sl (bC s h (aQ s.clock drift tick) P R k).1.vol.length (be (bC s h (aQ s.clock drift tick) P R k).1.vol), .sl (bC s h (aQ s.clock drift tick) P R k).1.timers.length (be (bC s h (aQ s.clock drift tick) P R k).1.timers), .v (.int .i64 (aP (bC s h (aQ s.clock drift tick) P R k).1 0)), .v (.int .i64 (aP (bC s h (aQ s.clock drift tick) P R k).1 1)), .v (.int .i64 (aP (bC s h (aQ s.clock drift tick) P R k).1 2)), .v (.int .i64 (aP (bC s h (aQ s.clock drift tick) P R k).1 3)), .v (.int .i64 (aP (bC s h (aQ s.clock drift tick) P R k).1 4)), .v (.int .i64 (aP (bC s h (aQ s.clock drift tick) P R k).1 5)), .v (.int .i64 (aP (bC s h (aQ s.clock drift tick) P R k).1 6)), .v (.int .i64 (aP (bC s h (aQ s.clock drift tick) P R k).1 7)), .v (.int .i64 (aP (bC s h (aQ s.clock drift tick) P R k).1 8)), .v (.int .i64 (aP (bC s h (aQ s.clock drift tick) P R k).1 9)), .v (.int .i64 (aP (bC s h (aQ s.clock drift tick) P R k).1 10)), .v (.int .i64 (aP (bC s h (aQ s.clock drift tick) P R k).1 11)), .v (.int .i64 (aP (bC s h (aQ s.clock drift tick) P R k).1 12)), .v (.int .i64 (aP (bC s h (aQ s.clock drift tick) P R k).1 13)), .v (.int .i64 (aP (bC s h (aQ s.clock drift tick) P R k).1 14)), .v (.int .i64 (aP (bC s h (aQ s.clock drift tick) P R k).1 15)), .v (.int .i64 (aP (bC s h (aQ s.clock drift tick) P R k).1 16)), .v (.int .i64 (aP (bC s h (aQ s.clock drift tick) P R k).1 17)), .v (.int .i64 (aP (bC s h (aQ s.clock drift tick) P R k).1 18)), .v (.int .i64 (aP (bC s h (aQ s.clock drift tick) P R k).1 19)), .v (.int .i64 (aP (bC s h (aQ s.clock drift tick) P R k).1 20)), .v (.int .i64 (aP (bC s h (aQ s.clock drift tick) P R k).1 21)), .v (.int .i64 (aP (bC s h (aQ s.clock drift tick) P R k).1 22)), .v (.int .i64 (aP (bC s h (aQ s.clock drift tick) P R k).1 23)), .v (.int .i64 (aP (bC s h (aQ s.clock drift tick) P R k).1 24)), .v (.int .i64 (aP (bC s h (aQ s.clock drift tick) P R k).1 25)), .v (.int .i64 (aP (bC s h (aQ s.clock drift tick) P R k).1 26)), .v (.int .i64 (aP (bC s h (aQ s.clock drift tick) P R k).1 27)), .v (.int .i64 (aP (bC s h (aQ s.clock drift tick) P R k).1 28)), .v (.int .i64 (aP (bC s h (aQ s.clock drift tick) P R k).1 29)), .v (.int .i64 (aP (bC s h (aQ s.clock drift tick) P R k).1 30)), .v (.int .i64 (aP (bC s h (aQ s.clock drift tick) P R k).1 31)), .v (.int .i64 (aP (bC s h (aQ s.clock drift tick) P R k).1 32)), .v (.int .i64 (aP (bC s h (aQ s.clock drift tick) P R k).1 33)), .v (.int .i64 (aP (bC s h (aQ s.clock drift tick) P R k).1 34)), .v (.int .i64 (aP (bC s h (aQ s.clock drift tick) P R k).1 35)), .v (.int .i64 (aP (bC s h (aQ s.clock drift tick) P R k).1 36)), .v (.int .i64 (aP (bC s h (aQ s.clock drift tick) P R k).1 37)), .v (.int .i64 (aP (bC s h (aQ s.clock drift tick) P R k).1 38)), .v (.int .i64 (aP (bC s h (aQ s.clock drift tick) P R k).1 39)), .v (.int .i64 (aP (bC s h (aQ s.clock drift tick) P R k).1 40)), .v (.int .i64 ((bC s h (aQ s.clock drift tick) P R k).1.wait)), .v (.int .i64 (0)), .v (.int .i64 (0)), .sl (eX drift+R.asked.length) (iz t drift tick++mw t ans R.asked), .ref (63,0) 0 (bC s h (aQ s.clock drift tick) P R k).2.sent.length, .v (.bool (bC s h (aQ s.clock drift tick) P R k).2.repl), .v (.int .i64 ((bC s h (aQ s.clock drift tick) P R k).2.value)), .ref (64,0) 0 (bC s h (aQ s.clock drift tick) P R k).2.fails.length, .v (.int .i64 (self)), .v (.int .i64 ((h:Int))), .v (.int .i64 (s.counts.getD h 0)), .sl R.vars.length (be R.vars), .sl R.acts.length (oz R.acts), .v (.int .i64 (R.steps:Int)), .v (.bool (!R.fin)), .sl (gh R.cov).length (be (gh R.cov)), .sl R.asked.length (be R.asked), .sl (gh R.cov).length (be (gh R.cov))]),((63,0), .row 117 9 (sY ⟨self,(h:Int),s.counts.getD h 0⟩ (bC s h (aQ s.clock drift tick) P R k).2.sent)),((64,0), .row 3 1 (be (bC s h (aQ s.clock drift tick) P R k).2.fails))]) [] [] (fun k=> R.acts.length - k) 0 ?_ (kj [0,1,2,2] [] []) ?_
 ·omega
 intro k hk
 refine aF fun K23 hK23=> ?_
 refine go 8 ?_
 refine ay rfl (fun hc146=> ?_) (fun hc146=> ?_)
 ·have ha:=hq k ab (eX drift+R.asked.length) (iz t drift tick++mw t ans R.asked)
  have hga:=nx R.acts k ab
  refine aR (hK23 _ ?_)
  refine aE (aH ?_)
  refine az (σ':=an 158 [(16,_),(17,_),(22,_)] [((16,0),_),((17,0),_),((63,0),_),((64,0),_)] [] []) kp ?_
  refine dA 7 [] ?_
  refine go 10 ?_
  refine aB (_,[]) (fun τ=> aO _ _ aa rfl rfl _ rfl ab (by (simp only [aq,aJ,aM,aq,bA,cU,bN,eQ,cJ];omega)) ag) ?_
  refine go 1 ?_
  refine aB (_,[]) (fun τ=> bn _ aa rfl (by exact hga) rfl) ?_
  refine go 1 ?_
  refine cq ⟨rfl,?_⟩
  refine aj (bp aa [((3,9),(63,0)),((4,9),(64,0)),((3,8),(156,0)),((4,8),(156,1))] ar (ha) ob tr tr rfl rfl ae ae) ?_
  refine go 6 ?_
  refine ax (⟨k+1,?_,?_,?_⟩)
  ·omega
  ·refine Le.mkJ [((63,0),(156,0)),((64,0),(156,1))] [] rfl ?_ ?_ trivial trivial ?_
   ·exact ⟨(bs (id:=(16,0)) rfl),(bs (id:=(17,0)) rfl),(bj ag),trivial⟩
   ·exact ⟨(cT rfl rfl rfl rfl (by repeat' (first | exact Lv.v | exact aK | refine ai ?_ ?_))),(cT rfl rfl rfl rfl lz),(cL rfl rfl rfl ag),(cL rfl rfl rfl ag),trivial⟩
   kernel_rfl
  omega
 obtain rfl:k=R.acts.length:=by omega
 refine aW (id (hK21 _ ?_))
 refine go 4 ?_
 refine au ?_
 exact cg (.inr rfl) rfl (.cellA aa rfl rfl rfl) (Le.out [] [(63,0),(64,0)] (.agg rfl (wv (ai .sl (ai .sl (ai .sl (ai .sl (sM (sM (sM (sM (wv (ai .sl (ai (dH rfl rfl (cU _ _).symm rfl) (ai .v (ai .v (ai (dH rfl rfl (by rw [aq,Nat.mul_one]) rfl) lz)))))))))))))))) rfl rfl rfl tr trivial)
end Go.Proofs.YtmjnackchaahbaaGreat

set_option maxHeartbeats 2000000
namespace Go.Proofs.YtmjnackchaahbaaGreat
open Go.RowKit

abbrev NP:Ms:={ vars:=[],pc:=0,fin:=true }
set_option maxHeartbeats 4000000 in
theorem Cu (s:Ns) (hs:fB s) (ho:eL s.dk) (hc:s.counts.length=41) (hcb: -1000000≤s.counts.getD 40 0∧s.counts.getD 40 0≤1000000) (hep: -1000000≤s.epoch∧s.epoch≤1000000)
  (self:Int) (t:Tl) (ht1:t.c1=self) (ht2:t.c2=40) (ht3:t.c3=s.counts.getD 40 0) (ks:List Int) (hlk: ∀ i:Nat,i < s.dk.pend.length→pB t 3 (i:Int) 2 (ks.getD i 0)):
  Spec Tryz.prog 79 (aI [gm s, .v (.int .i64 self), .sl t.na t.A] []) (aC (uA (gY s (keepB s.dk.pend.length ks)) {} ⟨self,40,s.counts.getD 40 0⟩ NP s.dk.pend.length (xM t ks s.dk.pend.length)) []):=by
 have hp:=hs.p
 have hcc:=hs.c
 have hv:=hs.v
 have hcr:=vE s.dk ab ab ho (keepB s.dk.pend.length ks) (ff _ _)
 rw [ff] at hcr
 have hce:=nZ s 40 ab (s.counts.getD 40 0+1)
 have hcb2: -1000000≤aP s 40∧aP s 40≤1000000:=hcb
 have hl1:(s.dk.crash (keepB s.dk.pend.length ks)).cells.length=s.dk.cells.length:=dF _ _
 have hql:=ya t ks
 have hqs:=uW t ks
 unfold pZ at hqs
 rw [ht1,ht2,ht3] at hqs
 unfold pB at hlk
 rw [ht1,ht2,ht3] at hlk
 refine Spec.ofN Tryz.func79 rfl Tryz.ntmps79 rfl ?_
 refine go 8 ?_
 refine aj (bJ _ _ aa rfl rfl rfl 40 rfl ab rfl) ?_
 refine go 7 ?_
 refine aj (aX _ eh) (am (aF fun K4 hK4=> ?_))
 refine aG (cC rfl (am (aH ?_)))
 refine az (Le.nilB (7,0) 52 (60,0) 111 7 rfl rfl rfl) ?_
 refine az (Le.nilS 8 (61,0) 4 1 rfl rfl) ?_
 refine aT (α:=Nat) (fun k=> k≤s.dk.pend.length) 80 [(2,_),(3,_),(6,_),(7,_)] [((3,0),_),((6,0),_)] (fun k=> [(8, .ref (61,0) 0 k),(9, .v (.int .i64 (k:Int)))]) (fun k=> [((7,0), .box 93 [.v (.bool s.up), .v (.int .i64 (s.ver)), .v (.int .i64 (s.epoch)), .v (.int .i64 (s.clock)), .sl s.dk.cells.length (be s.dk.cells), .sl s.dk.pend.length (iu s.dk.pend), .sl s.vol.length (be s.vol), .sl s.timers.length (be s.timers), .v (.int .i64 (aP s 0)), .v (.int .i64 (aP s 1)), .v (.int .i64 (aP s 2)), .v (.int .i64 (aP s 3)), .v (.int .i64 (aP s 4)), .v (.int .i64 (aP s 5)), .v (.int .i64 (aP s 6)), .v (.int .i64 (aP s 7)), .v (.int .i64 (aP s 8)), .v (.int .i64 (aP s 9)), .v (.int .i64 (aP s 10)), .v (.int .i64 (aP s 11)), .v (.int .i64 (aP s 12)), .v (.int .i64 (aP s 13)), .v (.int .i64 (aP s 14)), .v (.int .i64 (aP s 15)), .v (.int .i64 (aP s 16)), .v (.int .i64 (aP s 17)), .v (.int .i64 (aP s 18)), .v (.int .i64 (aP s 19)), .v (.int .i64 (aP s 20)), .v (.int .i64 (aP s 21)), .v (.int .i64 (aP s 22)), .v (.int .i64 (aP s 23)), .v (.int .i64 (aP s 24)), .v (.int .i64 (aP s 25)), .v (.int .i64 (aP s 26)), .v (.int .i64 (aP s 27)), .v (.int .i64 (aP s 28)), .v (.int .i64 (aP s 29)), .v (.int .i64 (aP s 30)), .v (.int .i64 (aP s 31)), .v (.int .i64 (aP s 32)), .v (.int .i64 (aP s 33)), .v (.int .i64 (aP s 34)), .v (.int .i64 (aP s 35)), .v (.int .i64 (aP s 36)), .v (.int .i64 (aP s 37)), .v (.int .i64 (aP s 38)), .v (.int .i64 (aP s 39)), .v (.int .i64 (aP s 40)), .v (.int .i64 (s.wait)), .v (.int .i64 (0)), .v (.int .i64 (0)), .ref (60,0) 0 k, .v (.slice none 0 0), .v (.bool false), .v (.int .i64 (0)), .v (.slice none 0 0), .v (.int .i64 (self)), .v (.int .i64 40), .v (.int .i64 (s.counts.getD 40 0)), .v (.slice none 0 0), .v (.slice none 0 0), .v (.int .i64 (0)), .v (.bool false), .v (.slice none 0 0), .v (.slice none 0 0), .v (.slice none 0 0)]),((60,0), .row 111 7 (xM t ks k)),((61,0), .row 4 1 (xu (keepB k ks)))]) [] [] (fun k=> s.dk.pend.length - k) 0 ?_ (by
  refine Le.mkJ [] [] rfl ?_ ?_ trivial trivial ?_
  ·exact ⟨(iS rfl),(iP rfl),(iP rfl),(iP rfl),(cf rfl ag),(bj ag),trivial⟩
  ·exact ⟨(bU rfl rfl rfl),(bU rfl rfl rfl),(cT rfl rfl rfl rfl (ai (jL ag) (fJ (fJ (fJ (ai (de ag ag) (ai (de ag ag) (ai (de ag ag) (ai (de ag ag) (fj (fj (fj (fj (rP (ai (cf rfl ag) (ai (by repeat' (exact Lv.v)) (ai (jL ag) (fJ (ai (by repeat' (exact Lv.v)) (fJ (fJ (fJ (ai (by repeat' (exact Lv.v)) (ai (by repeat' (exact Lv.v)) (fJ (ai (jL ag) (ai (by repeat' (exact Lv.v)) (ai (by repeat' (exact Lv.v)) (ai (by repeat' (exact Lv.v)) aK))))))))))))))))))))))))))))),(cL rfl rfl rfl ag),(cL rfl rfl rfl ag),trivial⟩
  kernel_rfl) ?_
 ·omega
 intro k hk
 refine aF fun K6 hK6=> ?_
 refine go 8 ?_
 refine ay rfl (fun hc24=> ?_) (fun hc24=> ?_)
 ·have hl:=hlk k ab
  have hkb:=rt k ks
  have q2:=hqs k
  refine aR (hK6 _ ?_)
  refine go 13 ?_
  refine aj (ap aa al (hl) rfl rfl) ?_
  refine cC rfl (am (aE ?_))
  refine az (σ':=an 80 [(2,_),(3,_),(6,_),(7,_),(8,_),(9,_),(10,_),(11,_)] [((3,0),_),((6,0),_),((7,0),_),((60,0),_),((61,0),_),((10,0),_)] [] []) kp ?_
  refine go 7 ?_
  refine aj (bI (40,0) _ _ aa rfl rfl (hql k).symm (.sl rfl) ab rfl (by exact q2) rfl) ?_
  refine go 6 ?_
  refine aj (ba (r:=decide (ks.getD k 0=1)) _ _ rfl rfl (by rw [Bool.eq_iff_iff];simp)) ?_
  refine go 1 ?_
  refine aj (bI (46,0) _ _ aa rfl rfl (by rw [aJ,ff,Nat.mul_one]) (.sl rfl) ab rfl ((qH _ _).trans (congrArg xu hkb.symm)) rfl) ?_
  refine eu rfl (Bg ?_)
  refine az (σ':=an 80 [(2,_),(3,_),(6,_),(7,_),(8,_),(9,_)] [((3,0),_),((6,0),_),((7,0),_),((40,0),_),((46,0),_)] [] []) kp ?_
  refine go 4 ?_
  refine ax (⟨k+1,?_,?_,?_⟩)
  ·omega
  ·refine Le.mkJ [((61,0),(46,0)),((60,0),(40,0))] [] rfl ?_ ?_ trivial trivial ?_
   ·exact ⟨(by repeat' (exact Lv.sl)),(bs (id:=(3,0)) rfl),(bs (id:=(6,0)) rfl),(bs (id:=(7,0)) rfl),(cf rfl ag),(bj ag),trivial⟩
   ·exact ⟨(cT rfl rfl rfl rfl (by repeat' (first | exact Lv.v | exact Lv.sl | exact aK | refine ai ?_ ?_))),(cT rfl rfl rfl rfl (by repeat' (first | exact Lv.v | exact aK | refine ai ?_ ?_))),(cT rfl rfl rfl rfl (ai (jL ag) (fJ (fJ (fJ (ai (de ag ag) (ai (de ag ag) (ai (de ag ag) (ai (de ag ag) (fj (fj (fj (fj (rP (ai (cf rfl ag) (ai (by repeat' (exact Lv.v)) (ai (jL ag) (fJ (ai (by repeat' (exact Lv.v)) (fJ (fJ (fJ (ai (by repeat' (exact Lv.v)) (ai (by repeat' (exact Lv.v)) (fJ (ai (jL ag) (ai (by repeat' (exact Lv.v)) (ai (by repeat' (exact Lv.v)) (ai (by repeat' (exact Lv.v)) aK))))))))))))))))))))))))))))),(cL rfl rfl rfl ag),(cL rfl rfl rfl ag),trivial⟩
   kernel_rfl
  omega
 obtain rfl:k=s.dk.pend.length:=by omega
 refine aW (id (hK4 _ ?_))
 refine aE ?_
 refine az (Le.frzS (ys:=xu (keepB s.dk.pend.length ks)) 8 mW rfl rfl (by rw [List.drop_zero,Nat.mul_one,List.take_of_length_le (by rw [aJ,ff];omega)]) (by rw [aJ,ff];omega)) ?_
 refine go 4 ?_
 refine aj (ap aa al (hcr) rfl rfl) ?_
 refine go 7 ?_
 refine aj (bJ _ _ aa rfl rfl rfl 40 rfl ab rfl) ?_
 refine go 4 ?_
 refine aj (bJ _ _ aa rfl rfl rfl 40 rfl ab rfl) ?_
 refine aj (cY _ _ aa rfl rfl rfl rfl (by show 48+1≤67;omega) (by exact (Dg s.up s.ver s.epoch s.clock _ _ _ _ (aP s) s.wait _ 40 ab _).trans (congrArg (fun e=> AZ s.up s.ver s.epoch s.clock _ _ _ _ e s.wait++_) hce))) ?_
 refine am (aE ?_)
 refine az (σ':=an 80 [(3,_),(6,_),(7,_)] [((3,0),_),((6,0),_),((7,0),_),((60,0),_)] [] []) kp ?_
 refine go 13 ?_
 refine aj (nX (70,0) _ _ aa rfl rfl _ rfl rfl ab rfl rfl) ?_
 refine go 9 ?_
 refine aE ?_
 refine az (σ':=an 80 [(6,_),(7,_)] [((6,0),_),((7,0),_),((60,0),_),((70,0),_)] [] []) kp ?_
 refine go 14 ?_
 exact au (cg (.inr rfl) rfl (.cellA aa rfl rfl rfl) (Le.out [] [(60,0),(70,0)] (.agg rfl (wv (ai (de rfl rfl) (ai (de rfl rfl) (ai (Hn rfl rfl (by simp [gY]) (by simp [gY,be,rep]) rfl) (ai .nil (sM (sM (sM (sM (wv (ai (dH rfl rfl (hql _).symm rfl) lz)))))))))))) rfl rfl rfl tr trivial))
set_option maxHeartbeats 4000000 in
theorem CO (s:Ns) (hs:fB s) (ho:eL s.dk) (P:Pg) (ver self nodes drift:Int) (na:Nat) (A:List PV) (hpd:P.d≤1000) (hpv:P.v≤1000) (q:Ns×Nr) (c:Cz) (R:Ms) (n:Nat) (L:List PV)
  (hH:Spec Tryz.prog 80 (aI [gm (bM s P ver),eU P, .v (.int .i64 ((0:Nat):Int)), .v (.int .i64 self), .v (.int .i64 nodes), .v (.int .i64 drift), .agg [.v (.int .i64 0), .v (.int .i64 0), .v (.int .i64 0), .v (.int .i64 0), .v (.int .i64 0), .v (.int .i64 0), .v (.int .i64 0), .v (.int .i64 0), .v (.int .i64 0)], .sl na A] []) (aC (uA q.1 q.2 c R n L) [])):
  Spec Tryz.prog 77 (aI [gm s,eU P, .v (.int .i64 ver), .v (.int .i64 self), .v (.int .i64 nodes), .v (.int .i64 drift), .sl na A] []) (aC (uA q.1 q.2 c R n L) []):=by
 have hcc:=hs.c
 have hpp:=hs.p
 have hrz:=tQ s.dk P.d ab ab ab ho
 obtain ⟨dk,hdk⟩: ∃ dk,dk=if s.dk.cells.length=P.d then s.dk else s.dk.resize P.d:=⟨_,rfl⟩
 have hb:bM s P ver={ s with ver:=ver,dk:=dk,vol:=List.replicate P.v 0,timers:=[],wait:= -1,up:=true }:=by rw [hdk];rfl
 rw [hb] at hH
 refine Spec.ofN Tryz.func77 rfl Tryz.ntmps77 rfl ?_
 refine go 10 ?_
 refine jI (α:=Unit) (fun u=> True) 45 [(3,_),(4,_),(5,_),(6,_),(7,_),(8,_),(14,_)] [((8,0),_),((14,0),_)] (fun u=> []) (fun u=> [((7,0), .box 83 [.v (.bool s.up), .v (.int .i64 ver), .v (.int .i64 (s.epoch)), .v (.int .i64 (s.clock)), .sl dk.cells.length (be dk.cells), .sl dk.pend.length (iu dk.pend), .sl s.vol.length (be s.vol), .sl s.timers.length (be s.timers), .v (.int .i64 (aP s 0)), .v (.int .i64 (aP s 1)), .v (.int .i64 (aP s 2)), .v (.int .i64 (aP s 3)), .v (.int .i64 (aP s 4)), .v (.int .i64 (aP s 5)), .v (.int .i64 (aP s 6)), .v (.int .i64 (aP s 7)), .v (.int .i64 (aP s 8)), .v (.int .i64 (aP s 9)), .v (.int .i64 (aP s 10)), .v (.int .i64 (aP s 11)), .v (.int .i64 (aP s 12)), .v (.int .i64 (aP s 13)), .v (.int .i64 (aP s 14)), .v (.int .i64 (aP s 15)), .v (.int .i64 (aP s 16)), .v (.int .i64 (aP s 17)), .v (.int .i64 (aP s 18)), .v (.int .i64 (aP s 19)), .v (.int .i64 (aP s 20)), .v (.int .i64 (aP s 21)), .v (.int .i64 (aP s 22)), .v (.int .i64 (aP s 23)), .v (.int .i64 (aP s 24)), .v (.int .i64 (aP s 25)), .v (.int .i64 (aP s 26)), .v (.int .i64 (aP s 27)), .v (.int .i64 (aP s 28)), .v (.int .i64 (aP s 29)), .v (.int .i64 (aP s 30)), .v (.int .i64 (aP s 31)), .v (.int .i64 (aP s 32)), .v (.int .i64 (aP s 33)), .v (.int .i64 (aP s 34)), .v (.int .i64 (aP s 35)), .v (.int .i64 (aP s 36)), .v (.int .i64 (aP s 37)), .v (.int .i64 (aP s 38)), .v (.int .i64 (aP s 39)), .v (.int .i64 (aP s 40)), .v (.int .i64 (s.wait)), .v (.int .i64 (0)), .v (.int .i64 (0))])]) [] []
  (by exact ⟨(iV rfl),(iV rfl),(iV rfl),(iS rfl),(iP rfl),(iP rfl),(iP rfl),trivial⟩)
  (by exact ⟨(bU rfl rfl rfl),(bU rfl rfl rfl),trivial⟩) ?_ ?_
 ·refine go 7 ?_
  refine aj (cM (r:=decide (s.dk.cells.length≠P.d)) _ _ rfl rfl (by rw [Bool.eq_iff_iff];simp;omega)) ?_
  refine am (ay rfl (fun hc23=> ?_) (fun hc23=> ?_))
  ·have hb2:dk=s.dk.resize P.d:=hdk.trans (if_neg (by simpa using hc23))
   refine go 5 ?_
   refine aj (ap aa al (hrz) rfl rfl) ?_
   refine go 2 ?_
   refine ax (⟨(),?_,?_⟩)
   ·trivial
   refine Le.mkJ [] [] rfl ?_ ?_ trivial trivial ?_
   ·exact ⟨(iV rfl),(iV rfl),(iV rfl),(iS rfl),(iP rfl),(iP rfl),(iP rfl),trivial⟩
   ·exact ⟨(bU rfl rfl rfl),(bU rfl rfl rfl),(cT rfl rfl rfl rfl (ai (jL ag) (fJ (fJ (fJ (ai (de (by (rw [hb2])) (by (rw [hb2]))) (ai (de (by (rw [hb2])) (by (rw [hb2]))) lz))))))),trivial⟩
   kernel_rfl
  have hb2:dk=s.dk:=hdk.trans (if_pos (by simpa using hc23))
  refine aR (⟨(),?_,?_⟩)
  ·trivial
  refine Le.mkJ [] [] rfl ?_ ?_ trivial trivial ?_
  ·exact ⟨(iV rfl),(iV rfl),(iV rfl),(iS rfl),(iP rfl),(iP rfl),(iP rfl),trivial⟩
  ·exact ⟨(bU rfl rfl rfl),(bU rfl rfl rfl),(cT rfl rfl rfl rfl (ai (jL ag) (fJ (fJ (fJ (ai (de (by (rw [hb2])) (by (rw [hb2]))) (ai (de (by (rw [hb2])) (by (rw [hb2]))) lz))))))),trivial⟩
  kernel_rfl
 intro u hu
 refine go 3 ?_
 refine aj (nX (32,0) _ _ aa rfl rfl (List.replicate P.v (0:Int)).length (by rw [List.length_replicate]) (by rw [List.length_replicate]) (by rw [List.length_replicate];omega) rfl (show _=be (List.replicate P.v 0) by rw [List.length_replicate];exact mc P.v)) ?_
 refine go 15 ?_
 refine aE ?_
 refine az (Le.frzB (ys:=be (List.replicate P.v 0)) (7,0) 6 rfl rfl rfl rfl (by rw [List.drop_zero,Nat.mul_one,List.take_of_length_le (by rw [aq];exact Nat.le_refl _)]) (by rw [aq,Nat.mul_one,Nat.zero_add];exact Nat.le_refl _)) ?_
 refine go 8 ?_
 refine aj (ap aa al (hH) rfl rfl) ?_
 refine go 2 ?_
 exact au (zX [])
end Go.Proofs.YtmjnackchaahbaaGreat
