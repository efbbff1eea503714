/- Part 17 of the texts that the walk leans on: the machine, the walks, the plain laws. -/
import Derived.Test.YtmjnackchaahbaaGreatNrZ16
set_option linter.unusedSimpArgs false
set_option linter.unusedVariables false
namespace Go.Proofs.YtmjnackchaahbaaGreat
open Go.RowKit

theorem KT {ρ:aB→aB} {σ:St} {F:aB→Bool} {id:aB} {e:TypeId} {n m:Nat} {xs:List PV} {r:List Int} (hid:σ.ob id= .obj (.row e 1 xs)) (hF:F id=true) (hm:n=m) (hx:xs=cu r) (hn:m=r.length):Lv ρ σ F (.sl m (cu r)) (.ref id 0 n):=by
 subst hm;subst hx
 exact fe hid hF (by rw [aL,Nat.mul_one];exact hn) rfl
def zE (t:Tl) (ks:List Int) (m:Nat):List PV:=(List.range m).flatMap fun (i:Nat)=> vu t 3 (i:Int) 2 (ks.getD i 0)
theorem CF (t:Tl) (ks:List Int) (m:Nat):zE t ks m++vu t 3 (m:Int) 2 (ks.getD m 0)=zE t ks (m+1):=by
 unfold zE;rw [List.range_succ,List.flatMap_append];simp
theorem Fj (t:Tl) (ks:List Int) (m:Nat):(zE t ks m).length=m*7:=by
 unfold zE
 rw [iL (fun (i:Nat)=> vu t 3 (i:Int) 2 (ks.getD i 0)) 7 (fun _=> rfl),List.length_range]
theorem vZ (k:Nat) (ks:List Int):keepB (k+1) ks=keepB k ks++[decide (ks.getD k 0=1)]:=by unfold keepB;rw [List.range_succ,List.map_append];rfl
theorem kz (k:Nat) (ks:List Int):(keepB k ks).length=k:=by simp [keepB]
theorem vN (l:List Bool) (x:Bool):BD l++[.v (.bool x)]=BD (l++[x]):=by simp [BD]
theorem su (s:Ns) (h:Nat) (hh:h < s.counts.length) (x:Int):lg (cQ s) h x=fun k=> (s.counts.set h x).getD k 0:=by
 funext k
 unfold lg
 by_cases e:k=h
 ·subst e;rw [if_pos rfl,List.getD_eq_getElem?_getD,List.getElem?_set_self hh];rfl
 rw [if_neg e,List.getD_eq_getElem?_getD,List.getElem?_set_ne (Ne.symm e),← List.getD_eq_getElem?_getD]
set_option maxHeartbeats 2000000 in
theorem pa (s:Ns) (hs:jU s) (ho:jz s.dk) (hc:s.counts.length=41) (hcb: -1000000≤s.counts.getD 40 0∧s.counts.getD 40 0≤1000000) (hep: -1000000≤s.epoch∧s.epoch≤1000000)
  (t:Tl) (n:Nat) (L:List PV) (hL:L.length=n*7) (hn:n≤1000) (ks:List Int) (hlk: ∀ i:Nat,i < s.dk.pend.length→tw t 3 (i:Int) 2 (ks.getD i 0)):
  Spec Tryz.prog 53 (aY [jS s,jA] (pv t n L (5,9))) (bc (jS (kO s (keepB s.dk.pend.length ks))) (pv t (n+s.dk.pend.length) (L++zE t ks s.dk.pend.length) (5,8)) [(4,9),(5,8)] [(4,9)]):=by
 have hown:=ko s hs
 have hp:=hs.p
 have hcc:=hs.c
 have hv:=hs.v
 have hcr:=tS s.dk ab ab ho (keepB s.dk.pend.length ks) (by rw [kz];omega)
 rw [kz] at hcr
 have hce:=su s 40 ab (s.counts.getD 40 0+1)
 have hcb2: -1000000≤cQ s 40∧cQ s 40≤1000000:=hcb
 have hl1:(s.dk.crash (keepB s.dk.pend.length ks)).cells.length=s.dk.cells.length:=gq _ _
 refine Spec.ofNI Tryz.func53 rfl Tryz.ntmps53 rfl ?_
 refine am (ai (aQ (2,0) _ rfl rfl) (ai (aD (4,0) aa rfl rfl) (aj (am (ai (az _ aa rfl rfl rfl rfl) (ai (bY aa [((1,8),(8,0))] ar (hown.toI) trivial tr tr rfl rfl ae ae) ?_))))))
 refine bG rfl rfl rfl rfl rfl rfl (aj (am (ai (bq _ fA) (aj (aU fun K4 hK4=> ?_)))))
 refine am (bb rfl rfl rfl (bb rfl rfl rfl (fb rfl rfl rfl (ai (bp _ aa rfl) (aX rfl (aj (ay ?_)))))))
 refine aN (Le.nilS 5 (60,0) 4 1 rfl rfl) ?_
 refine bu (α:=Nat) (fun k=> k≤s.dk.pend.length) 48 [(1,_),(2,_),(4,_),(12,_)] [((2,0),_),((4,0),_),((8,0),_)] (fun k=> [(5, .ref (60,0) 0 k),(13, .v (.int .i64 (k:Int)))]) (fun k=> [((60,0), .row 4 1 (BD (keepB k ks))),((4,9), .box 103 [.v (.int .i64 t.c1), .v (.int .i64 t.c2), .v (.int .i64 t.c3), .sl t.na t.A, .ref (5,9) 0 (n+k)]),((5,9), .row 111 7 (L++zE t ks k))]) [(4,9),(5,9)] [(4,9)] (fun k=> s.dk.pend.length - k) 0 ?_ (by
  refine Le.mkJ [] [] rfl ?_ ?_ trivial tr ?_
  ·exact ⟨(iN rfl),(iP rfl),(iP rfl),(iV rfl),(cP rfl ag),(cr ag),trivial⟩
  ·exact ⟨(cm rfl rfl rfl),(cm rfl rfl rfl),(cm rfl rfl rfl),(fg rfl rfl rfl ag),(fi rfl rfl rfl rfl lz),(fg rfl rfl rfl (by (simp [zE]))),trivial⟩
  kernel_rfl) ?_
 ·omega
 intro k hk
 refine am (ai (bn _ _ rfl rfl rfl) (aj (aU fun K7 hK7=> ?_)))
 refine aR rfl (fun hc14=> ?_) (fun hc14=> ?_)
 ·skip
  have htl:=oO t 3 (k:Int) 2 (ks.getD k 0) (n+k) (L++zE t ks k) (by rw [List.length_append,hL,Fj,Nat.add_mul]) ab ab (hlk k ab)
  rw [List.append_assoc,CF] at htl
  have hkb:=vZ k ks
  refine br (hK7 _ ?_)
  clear hK7;try clear K7
  refine aq (ay (am (aX rfl (be rfl (aj (an (gK rfl (ai (aH _ ls) (aX rfl (cA (Le.incT (19,0) rfl) ?_))))))))))
  refine ai (jt rfl aa [((5,8),(19,0))] ar (htl) ob tr tr rfl ae ae) ?_
  refine ai (bB (r:=decide (ks.getD k 0=1)) _ _ rfl rfl (by rw [Bool.eq_iff_iff];simp)) ?_
  refine ai (bi _ _ aa rfl ag (by (simp <;> rfl)) ah rfl) ?_
  refine ai (du (22,0) _ _ aa rfl rfl (by rw [bf,kz,Nat.mul_one]) (.sl rfl) ab rfl ((vN _ _).trans (congrArg BD hkb.symm)) rfl) ?_
  refine fh rfl (dY (an (ai (aZ _ _ rfl rfl (bF ab)) ?_)))
  refine aX rfl (aJ (⟨k+1,?_,?_,?_⟩))
  ·omega
  ·skip
   refine Le.mkJ [((60,0),(22,0)),((5,9),(19,0))] [] rfl ?_ ?_ trivial tr ?_
   ·exact ⟨(by repeat' (first | exact dH (id:=(4,9)) rfl | refine Lv.fn rfl ?_ rfl ?_ | exact bg | refine au ?_ ?_)),(dH (id:=(2,0)) rfl),(dH (id:=(4,0)) rfl),(by repeat' (exact Lv.v)),(cP rfl ag),(cr ag),trivial⟩
   ·exact ⟨(fi rfl rfl rfl rfl (by repeat' (first | exact Lv.v | exact Lv.sl | exact cP (id:=(8,0)) rfl rfl | exact bg | refine au ?_ ?_))),(fi rfl rfl rfl rfl (by repeat' (first | exact Lv.v | exact bg | refine au ?_ ?_))),(fg rfl rfl rfl rfl),(fg rfl rfl rfl ag),(fi rfl rfl rfl rfl lz),(fg rfl rfl rfl ag),trivial⟩
   kernel_rfl
  omega
 obtain rfl:k=s.dk.pend.length:=by omega
 refine bD (id (hK4 _ ?_))
 clear hK4;try clear K4
 refine aq ?_
 refine aN (Le.frzS (ys:=BD (keepB s.dk.pend.length ks)) 5 dV rfl rfl (by rw [List.drop_zero,Nat.mul_one,List.take_of_length_le (by rw [bf,kz];omega)]) (by rw [bf,kz];omega)) ?_
 refine an (bb rfl rfl rfl (ai (az _ aa rfl rfl rfl rfl) (eV rfl (ai (aI aa al (hcr) rfl rfl) ?_))))
 refine bb rfl rfl rfl (bG rfl rfl rfl rfl rfl rfl (aj (am (bb rfl rfl rfl (ai (cZ _ _ aa rfl rfl rfl 40 rfl ab rfl) ?_)))))
 refine cf rfl rfl rfl (ai (aZ _ _ rfl rfl (bF ab)) ?_)
 refine bb rfl rfl rfl (ai (cZ _ _ aa rfl rfl rfl 40 rfl ab rfl) ?_)
 refine ai (dF _ _ aa rfl rfl rfl rfl (by show 48+1≤52;omega) ((sX s.up s.ver s.epoch s.clock _ _ _ _ (cQ s) s.wait 40 ab _).trans (congrArg (fun e=> IF s.up s.ver s.epoch s.clock _ _ _ _ e s.wait) hce))) ?_
 refine aj (am (bb rfl rfl rfl (cf rfl rfl rfl (ai (aZ _ _ rfl rfl (bF ab)) ?_))))
 refine bb rfl rfl rfl (bG rfl rfl rfl rfl rfl rfl (aj (aq ?_)))
 refine aN (σ':=aE 48 [(2,_),(4,_)] [((2,0),_),((4,0),_),((8,0),_),((4,9),_),((5,9),_)] [(4,9),(5,9)] [(4,9)]) kp ?_
 refine an (bb rfl rfl rfl (fb rfl rfl rfl (ai (bp _ aa rfl) (ai (pX (42,0) _ _ aa rfl rfl _ rfl rfl ab rfl rfl) ?_))))
 refine bb rfl rfl rfl (bG rfl rfl rfl rfl rfl rfl (bb rfl rfl rfl (bG rfl rfl rfl rfl rfl rfl (bb rfl rfl rfl (bG rfl rfl rfl rfl rfl rfl (bb rfl rfl rfl (bG rfl rfl rfl rfl rfl rfl (aj (am (ai (az _ aa rfl rfl rfl rfl) ?_))))))))))
 exact bG rfl rfl rfl rfl rfl rfl (aj (aG (bI (.inr rfl) rfl (.cellA aa rfl rfl rfl) (Le.outI [((5,8),(5,9))] [(42,0)] (.agg rfl (zD (au (iY rfl rfl) (au (iY rfl rfl) (au (KT rfl rfl (by simp [kO]) (by simp [kO,cu,rep]) rfl) lz))))) rfl rfl rfl tr ob tr rfl))))

theorem yE {P:Program} {σ:St} {o:Oper} {f:FuncId} {avs:List AV} (hE:EntersAt P o σ f avs) {args:List AV} {x y:Value} (sp:Spec P f (ba args []) (aP (.tup [.v x, .v y]) []))
  (ha:gB σ (fun _=> true) avs args) (hp:AV.pures args=true):dc P o σ (σ.put o.dst (.tup [.v x, .v y])):=by
 intro K ι S a w R
 obtain ⟨vs,hrun,hvs,hrep⟩:=hE K ι S a w R
 have R1:=R.args ha hp hvs hrep
 refine jL hrun (sp _ _ _ _ w rfl rfl R1) ?_
 rintro e w' ⟨v,ι',S',rfl,R2⟩
 refine ⟨v,rfl,?_⟩
 have hb:Below w.heap.size w w':=⟨R2.keeps.os,R2.keeps.tape,R2.keeps.output,R2.keeps.size,fun g hg=> R2.keeps.block g hg (by simp)⟩
 have R3:=R.gen (ι':=ι) (S':=S) (w':=w') (ob':=σ.ob) (inc':=σ.inc) (fun _=> False) (.of_below hb) (fun _ _=> rfl) (fun _ _=> rfl) (fun _ _=> rfl) (fun _ h=> h) (fun g h=> h)
  (fun g h=> .inl h) (fun g h=> Nat.lt_of_lt_of_le (R.Slt g h) hb.size)
  (fun _ _ h=> h.elim) (fun _ _ h=> h.elim) (fun _ _ h=> h.elim) (fun _ _ _ _ _ h=> h.elim) (fun _ _ _ h=> h.elim) (fun _ _ _ h=> h.elim)
 refine ⟨ι,_,R3.put o.dst (av:= .tup [.v x, .v y]) ?_ fun id hi=> absurd hi (lG _ rfl)⟩
 have:=R2.fr 0 (by simp [aP])
 simp only [aP,Nat.beq_refl,cond_true] at this
 have:=(by simpa using this:Rep ι' S' w' (.tup [.v x, .v y]) v)
 cases this with
 | tup h1 h=>
  refine .tup h1 fun j a hj=> ?_
  have hr:=h j a hj
  match j,hj with
  | 0,hj=> cases hj;rw [hr.toV];exact .v
  | 1,hj=> cases hj;rw [hr.toV];exact .v
theorem oI {P:Program} {σ:St} {dd:Option Tmp} {ty:TypeId} {f:FuncId} {xs:Array Operand} {ats:Array TypeId} (C:cR P f) {args:List AV} {x y:Value} (ha:gB σ (fun _=> true) (xs.toList.map σ.eval) args) (sp:Spec P f (ba args []) (aP (.tup [.v x, .v y]) []))
  (hp:AV.pures args=true):Stp P dd (.call { callee:= .value (.func f),args:=xs,argTypes:=ats }) ty σ (σ.put dd (.tup [.v x, .v y])):=fun o hd ho ht=> by subst hd;exact yE (.fnc ho C) sp ha hp
structure Cz where
 a:Int
 b:Int
 c:Int
def KW (c:Cz) (i:Nat) (x:Ac):List PV:=[.v (.int .i64 c.a), .v (.int .i64 c.b), .v (.int .i64 c.c), .v (.int .i64 (i:Int)), .v (.int .i64 0), .v (.int .i64 x.a), .v (.int .i64 x.b), .v (.int .i64 x.c), .v (.int .i64 x.d)]
def AM (c:Cz) (l:List Ac):List PV:=(List.range l.length).flatMap fun i=> KW c i (pG l i)
theorem ig (c:Cz) (l:List Ac):(AM c l).length=l.length*9:=by
 unfold AM
 rw [iL (fun i=> KW c i (pG l i)) 9 (fun _=> rfl),List.length_range]
theorem CN (c:Cz) (l:List Ac) (x:Ac):AM c l++KW c l.length x=AM c (l++[x]):=by
 unfold AM
 rw [List.length_append,List.length_singleton,List.range_succ,List.flatMap_append]
 congr 1
 ·unfold List.flatMap
  congr 1
  apply List.map_congr_left
  intro i hi
  have hi:=List.mem_range.1 hi
  have e:pG (l++[x]) i=pG l i:=by unfold pG;rw [List.getD_eq_getElem?_getD,List.getD_eq_getElem?_getD,List.getElem?_append_left hi]
  rw [e]
 have e:pG (l++[x]) l.length=x:=by unfold pG;rw [List.getD_eq_getElem?_getD,List.getElem?_append_right (Nat.le_refl _),Nat.sub_self];rfl
 simp [e]
structure Ot where
 vars:List Int
 acts:List Ac
 steps:Int
 spent:Bool
 cov:List Int
abbrev Kv (c:Cz) (r:Nr) (o:Ot) (se fa ac:aB):List AV:=[.v (.int .i64 c.a), .v (.int .i64 c.b), .v (.int .i64 c.c), .ref se 0 r.sent.length, .v (.bool r.repl), .v (.int .i64 r.value), .ref fa 0 r.fails.length, .sl o.vars.length (cu o.vars), .ref ac 0 o.acts.length, .v (.int .i64 o.steps), .v (.bool o.spent), .sl o.cov.length (cu o.cov)]
abbrev MU (c:Cz) (o:Ot) (s:Ns) (r:Nr) (tm se fa:aB):List (aB×Cells):=[(tm, .row 3 1 (cu s.timers)),((2,9), .box 96 (Kv c r o se fa (5,9))),(se, .row 117 9 (AM c r.sent)),(fa, .row 3 1 (cu r.fails)),((5,9), .row 57 5 (vB o.acts))]
abbrev nV (c:Cz) (o:Ot) (s:Ns) (r:Nr) (a:Ac) (s':Ns) (r':Nr):Prop:=Spec Tryz.prog 114 (aY [.agg (GD s (.ref (1,9) 0 s.timers.length)), .agg [.v (.int .i64 a.k), .v (.int .i64 a.a), .v (.int .i64 a.b), .v (.int .i64 a.c), .v (.int .i64 a.d)], .ptr (2,9) 0] (MU c o s r (1,9) (3,9) (4,9)))
 (bc (.agg (GD s' (.ref (1,8) 0 s'.timers.length))) (MU c o s' r' (1,8) (3,8) (4,8)) [(1,8),(2,9),(3,8),(4,8),(5,9)] [(2,9),(5,9)])
section
variable (c:Cz) (o:Ot) (s:Ns) (r:Nr) (x y z w:Int)
theorem ya (hs:jU s) (ho:jz s.dk):nV c o s r ⟨1,x,y,z,w⟩ { s with dk:=s.dk.write x y } r:=by
 have hc:=hs.c
 have hp:=hs.p
 have hw:=tR s.dk ab ab ho x y
 refine Spec.ofNI Tryz.func114 rfl Tryz.ntmps114 rfl ?_
 refine am (ai (aQ (3,0) _ rfl rfl) (ai (aQ (4,0) _ rfl rfl) (ai (aD (6,0) aa rfl rfl) (aj (aq (am (bb rfl rfl rfl (cf rfl rfl rfl (aj (ay ?_))))))))))
 refine iE rfl rfl rfl rfl rfl (an (bb rfl rfl rfl (ai (az _ aa rfl rfl rfl rfl) (bb rfl rfl rfl (cf rfl rfl rfl (bb rfl rfl rfl (cf rfl rfl rfl (ai (aI aa al (hw) rfl rfl) ?_))))))))
 refine bb rfl rfl rfl (bG rfl rfl rfl rfl rfl rfl (dY (aq ?_)))
 refine aN (σ':=aE 134 [(3,_),(6,_)] [((1,9),_),((3,0),_),((6,0),_),((2,9),_),((3,9),_),((4,9),_),((5,9),_)] [(1,9),(2,9),(3,9),(4,9),(5,9)] [(2,9),(5,9)]) kp ?_
 exact an (ai (az _ aa rfl rfl rfl rfl) (bG rfl rfl rfl rfl rfl rfl (aj (aG (bI (.inr rfl) rfl (.cellA aa rfl rfl rfl) (Le.outI [((1,8),(1,9)),((3,8),(3,9)),((4,8),(4,9))] [] (.agg rfl lz) rfl rfl rfl trivial ob tr rfl))))))
theorem Bv (hs:jU s) (ho:jz s.dk):nV c o s r ⟨2,x,y,z,w⟩ { s with dk:=s.dk.sync } r:=by
 have hc:=hs.c
 have hp:=hs.p
 have hw:=qG s.dk ab ab ho
 refine Spec.ofNI Tryz.func114 rfl Tryz.ntmps114 rfl ?_
 refine am (ai (aQ (3,0) _ rfl rfl) (ai (aQ (4,0) _ rfl rfl) (ai (aD (6,0) aa rfl rfl) (aj (aq (am (bb rfl rfl rfl (cf rfl rfl rfl (aj (ay ?_))))))))))
 refine cK rfl rfl rfl rfl rfl (iE rfl rfl rfl rfl rfl (an (bb rfl rfl rfl (ai (az _ aa rfl rfl rfl rfl) (ai (aI aa al (hw) rfl rfl) ?_)))))
 exact bb rfl rfl rfl (bG rfl rfl rfl rfl rfl rfl (dY (am (ai (az _ aa rfl rfl rfl rfl) (bG rfl rfl rfl rfl rfl rfl (aj (aG (bI (.inr rfl) rfl (.cellA aa rfl rfl rfl) (Le.outI [((1,8),(1,9)),((3,8),(3,9)),((4,8),(4,9))] [] (.agg rfl lz) rfl rfl rfl trivial ob tr rfl)))))))))
theorem vR (ht:s.timers=[]):nV c o s r ⟨4,x,y,z,w⟩ { s with timers:=[x] } r:=by
 have hb:=kG s.timers x (by rw [ht];exact Nat.zero_le 1)
 have hl4:s.timers.length*1=(cu s.timers).length:=by rw [aL,Nat.mul_one]
 have hi:Spec Tryz.prog 185 (aY [.ref (0,9) 0 s.timers.length, .v (.int .i64 0), .sl 1 (cu [x])] [((0,9), .row 3 1 (cu s.timers))]) (bc (.ref (0,8) 0 1) [((0,8), .row 3 1 (cu [x]))] [(0,8)] []):=by rw [ht];exact si x
 have hn0:s.timers.length=0:=by rw [ht];rfl
 rw [show (if 0 < s.timers.length∧s.timers.getD 0 0 < x then (1:Int) else 0)=0 by rw [if_neg ab],show decide (0 < s.timers.length∧s.timers.getD 0 0=x)=false from decide_eq_false ab] at hb
 refine Spec.ofNI Tryz.func114 rfl Tryz.ntmps114 rfl ?_
 refine am (ai (aQ (3,0) _ rfl rfl) (ai (aQ (4,0) _ rfl rfl) (ai (aD (6,0) aa rfl rfl) (aj (aq (am (bb rfl rfl rfl (cf rfl rfl rfl (aj (ay ?_))))))))))
 iterate 2 refine cK rfl rfl rfl rfl rfl ?_
 refine iE rfl rfl rfl rfl rfl (am (bb rfl rfl rfl (ai (aF _ aa rfl rfl eT) (bb rfl rfl rfl (cf rfl rfl rfl (ai (oI aa (eY (fe rfl rfl hl4 rfl) (eY Lv.v cV)) hb rfl) ?_))))))
 refine ai (aH _ tN) (ai (cq _ rfl ei) (ai (cq _ rfl zW) (be rfl (cp rfl (aj (aq ?_))))))
 refine aN (σ':=aE 134 [(3,_),(4,_),(6,_),(7,_),(8,_)] [((1,9),_),((3,0),_),((4,0),_),((6,0),_),((2,9),_),((3,9),_),((4,9),_),((5,9),_)] [(1,9),(2,9),(3,9),(4,9),(5,9)] [(2,9),(5,9)]) kp ?_
 refine an (cM rfl (ai (co (r:=true) _ rfl rfl) (aj (bL rfl rfl (an (bb rfl rfl rfl (ai (aF _ aa rfl rfl eT) (aX rfl (bb rfl rfl rfl (cf rfl rfl rfl ?_))))))))))
 refine ai (bi _ _ aa rfl ag (by simp <;> rfl) ah (by exact (rfl:_=some (cu [x])))) ?_
 refine cA (Le.incT (48,0) rfl) ?_
 refine ai (bj aa [((0,9),(1,9)),((0,8),(48,0))] ar (hi) ob tr tr rfl ae ae) ?_
 exact bb rfl rfl rfl (bG rfl rfl rfl rfl rfl rfl (dY (am (ai (az _ aa rfl rfl rfl rfl) (bG rfl rfl rfl rfl rfl rfl (aj (aG (bI (.inr rfl) rfl (.cellA aa rfl rfl rfl) (Le.outI [((1,8),(48,0)),((3,8),(3,9)),((4,8),(4,9))] [] (.agg rfl lz) rfl rfl rfl trivial ob tr rfl)))))))))
theorem vH (ht:s.timers=[x]):nV c o s r ⟨4,x,y,z,w⟩ s r:=by
 have hb:=kG s.timers x (by rw [ht];exact Nat.le_refl 1)
 have hl4:s.timers.length*1=(cu s.timers).length:=by rw [aL,Nat.mul_one]
 rw [show decide (0 < s.timers.length∧s.timers.getD 0 0=x)=true from decide_eq_true (by rw [ht];exact ⟨Nat.zero_lt_one,rfl⟩)] at hb
 refine Spec.ofNI Tryz.func114 rfl Tryz.ntmps114 rfl ?_
 refine am (ai (aQ (3,0) _ rfl rfl) (ai (aQ (4,0) _ rfl rfl) (ai (aD (6,0) aa rfl rfl) (aj (aq (am (bb rfl rfl rfl (cf rfl rfl rfl (aj (ay ?_))))))))))
 iterate 2 refine cK rfl rfl rfl rfl rfl ?_
 refine iE rfl rfl rfl rfl rfl (am (bb rfl rfl rfl (ai (aF _ aa rfl rfl eT) (bb rfl rfl rfl (cf rfl rfl rfl (ai (oI aa (eY (fe rfl rfl hl4 rfl) (eY Lv.v cV)) hb rfl) ?_))))))
 refine ai (aH _ tN) (ai (cq _ rfl ei) (ai (cq _ rfl zW) (be rfl (cp rfl (aj (aq ?_))))))
 refine aN (σ':=aE 134 [(3,_),(4,_),(6,_),(7,_),(8,_)] [((1,9),_),((3,0),_),((4,0),_),((6,0),_),((2,9),_),((3,9),_),((4,9),_),((5,9),_)] [(1,9),(2,9),(3,9),(4,9),(5,9)] [(2,9),(5,9)]) kp ?_
 refine an (cM rfl (ai (co (r:=false) _ rfl rfl) (aj (aW rfl rfl (cw (am (ai (az _ aa rfl rfl rfl rfl) (bG rfl rfl rfl rfl rfl rfl (aj (aG ?_))))))))))
 exact bI (.inr rfl) rfl (.cellA aa rfl rfl rfl) (Le.outI [((1,8),(1,9)),((3,8),(3,9)),((4,8),(4,9))] [] (.agg rfl lz) rfl rfl rfl trivial ob tr rfl)
theorem vG (hl:s.timers.length≤1) (hx: ¬ (0 < s.timers.length∧s.timers.getD 0 0=x)):nV c o s r ⟨5,x,y,z,w⟩ s r:=by
 have hb:=kG s.timers x hl
 have hl4:s.timers.length*1=(cu s.timers).length:=by rw [aL,Nat.mul_one]
 rw [decide_eq_false hx] at hb
 refine Spec.ofNI Tryz.func114 rfl Tryz.ntmps114 rfl ?_
 refine am (ai (aQ (3,0) _ rfl rfl) (ai (aQ (4,0) _ rfl rfl) (ai (aD (6,0) aa rfl rfl) (aj (aq (am (bb rfl rfl rfl (cf rfl rfl rfl (aj (ay ?_))))))))))
 iterate 3 refine cK rfl rfl rfl rfl rfl ?_
 refine iE rfl rfl rfl rfl rfl (am (bb rfl rfl rfl (ai (aF _ aa rfl rfl eT) (bb rfl rfl rfl (cf rfl rfl rfl (ai (oI aa (eY (fe rfl rfl hl4 rfl) (eY Lv.v cV)) hb rfl) ?_))))))
 refine ai (aH _ tN) (ai (cq _ rfl ei) (ai (cq _ rfl zW) (be rfl (cp rfl (aj (aq ?_))))))
 refine aN (σ':=aE 134 [(3,_),(6,_),(9,_),(10,_)] [((1,9),_),((3,0),_),((6,0),_),((2,9),_),((3,9),_),((4,9),_),((5,9),_)] [(1,9),(2,9),(3,9),(4,9),(5,9)] [(2,9),(5,9)]) kp ?_
 exact an (cM rfl (aj (aW rfl rfl (cw (am (ai (az _ aa rfl rfl rfl rfl) (bG rfl rfl rfl rfl rfl rfl (aj (aG (bI (.inr rfl) rfl (.cellA aa rfl rfl rfl) (Le.outI [((1,8),(1,9)),((3,8),(3,9)),((4,8),(4,9))] [] (.agg rfl lz) rfl rfl rfl trivial ob tr rfl)))))))))))
theorem Dp (hr:r.sent.length≤1000):nV c o s r ⟨3,x,y,z,w⟩ s { r with sent:=r.sent++[(⟨3,x,y,z,w⟩:Ac)] }:=by
 have hl2:=ig c r.sent
 have hl3:r.sent.length+1=(r.sent++[(⟨3,x,y,z,w⟩:Ac)]).length:=by rw [List.length_append];rfl
 refine Spec.ofNI Tryz.func114 rfl Tryz.ntmps114 rfl ?_
 refine am (ai (aQ (3,0) _ rfl rfl) (ai (aQ (4,0) _ rfl rfl) (ai (aD (6,0) aa rfl rfl) (aj (aq (am (bb rfl rfl rfl (cf rfl rfl rfl (aj (ay ?_))))))))))
 iterate 4 refine cK rfl rfl rfl rfl rfl ?_
 refine iE rfl rfl rfl rfl rfl (aq ?_)
 refine aN (σ':=aE 134 [(2,_),(3,_),(4,_),(6,_)] [((1,9),_),((2,9),_),((3,9),_),((4,9),_),((5,9),_),((3,0),_),((4,0),_),((6,0),_)] [(1,9),(2,9),(3,9),(4,9),(5,9)] [(2,9),(5,9)]) kp ?_
 refine py 12 [70,71,72,73,74,75,76,77,78,79,11] [(11,0),(11,0)] ae ae rfl (rfl:_=[_,_,_,_,_,_,_,_,_,_,_,_]) (rfl:_=[]) ?_
 refine cF (_,[]) (fun τ=> aH _ cd) ?_
 refine cE (rfl:_=[_]) ?_
 refine cF (_,[]) (fun τ=> aT _ rfl rfl) ?_
 refine cE (rfl:_=[_,_]) ?_
 refine cF (_,[]) (fun τ=> aA _ aa rfl rfl rfl) ?_
 refine cE (rfl:_=[_,_,_]) ?_
 refine cF (_,[]) (fun τ=> az _ aa rfl rfl rfl rfl) ?_
 refine cE (rfl:_=[_,_,_,_]) ?_
 refine cF (_,[]) (fun τ=> aH _ cd) ?_
 refine cE (rfl:_=[_,_,_,_,_]) ?_
 refine cF (_,[]) (fun τ=> aT _ rfl rfl) ?_
 refine cE (rfl:_=[_,_,_,_,_,_]) ?_
 refine cF (_,[]) (fun τ=> aA _ aa rfl rfl rfl) ?_
 refine cE (rfl:_=[_,_,_,_,_,_,_]) ?_
 refine cF (_,[]) (fun τ=> aF _ aa rfl rfl eT) ?_
 refine cE (rfl:_=[_,_,_,_,_,_,_,_]) ?_
 refine cF (_,[]) (fun τ=> dg _ aa rfl rfl) ?_
 refine cE (rfl:_=[_,_,_,_,_,_,_,_,_]) ?_
 refine cF (_,[]) (fun τ=> aM _ aa rfl (by exact sK)) ?_
 refine cE (rfl:_=[_,_,_,_,_,_,_,_,_,_]) ?_
 refine cF (_,[((11,0),_)]) (fun τ=> aD (11,0) aa rfl rfl) ?_
 refine cE (rfl:_=[_,_,_,_,_,_,_,_,_,_,_]) ?_
 refine cF (_,[((11,0),_)]) (fun τ=> dF _ _ aa rfl rfl rfl rfl (Nat.le_of_ble_eq_true rfl) rfl) ?_
 refine cE (rfl:_=[_,_,_,_,_,_,_,_,_,_,_,_]) ?_
 refine nQ ⟨⟨rfl,by kernel_rfl,by kernel_rfl⟩,?_⟩
 refine aj ?_
 refine aN (σ':=aE 134 [(2,_),(3,_),(4,_),(6,_),(11,_)] [((1,9),_),((2,9),_),((3,9),_),((4,9),_),((5,9),_),((3,0),_),((4,0),_),((6,0),_),((11,0),_)] [(1,9),(2,9),(3,9),(4,9),(5,9)] [(2,9),(5,9)]) kp ?_
 refine aN (Le.incT (96,0) rfl) ?_
 refine hU 17 [80,81,82,83,84,85,86,87,88,89,90,91,92,93,94,95,96] [(3,9),(96,0)] [[],[],[],[(3,9)],[(3,9)],[],[],[],[],[],[],[],[],[],[(3,9)],[(3,9)],[]] ae ae rfl (aK rfl) (rfl:_=[_,_,_,_,_,_,_,_,_,_,_,_,_,_,_,_,_]) (rfl:_=[_,_,_]) ?_
 refine ap (_,[]) (fun τ=> aH _ cd) ?_
 refine fB rfl ?_
 refine ap (_,[]) (fun τ=> aH _ cd) ?_
 refine fH rfl ?_
 refine ap (_,[]) (fun τ=> aT _ rfl rfl) ?_
 refine fQ rfl ?_
 refine ap (_,[]) (fun τ=> aA _ aa rfl rfl rfl) ?_
 refine fV rfl ?_
 refine ap (_,[]) (fun τ=> aF _ aa rfl rfl eT) ?_
 refine gd rfl ?_
 refine ap (_,[]) (fun τ=> az _ aa rfl rfl rfl rfl) ?_
 refine gV rfl ?_
 refine ap (_,[]) (fun τ=> aA _ aa rfl rfl rfl) ?_
 refine iG rfl ?_
 refine ap (_,[]) (fun τ=> aF _ aa rfl rfl ei) ?_
 refine jO rfl ?_
 refine ap (_,[]) (fun τ=> aA _ aa rfl rfl rfl) ?_
 refine jW rfl ?_
 refine ap (_,[]) (fun τ=> aF _ aa rfl rfl ei) ?_
 refine fE rfl ?_
 refine ap (_,[]) (fun τ=> aA _ aa rfl rfl rfl) ?_
 refine gf rfl ?_
 refine ap (_,[]) (fun τ=> aF _ aa rfl rfl ei) ?_
 refine jV rfl ?_
 refine ap (_,[]) (fun τ=> aA _ aa rfl rfl rfl) ?_
 refine li rfl ?_
 refine ap (_,[]) (fun τ=> aF _ aa rfl rfl ei) ?_
 refine nR rfl ?_
 refine ap (_,[]) (fun τ=> aM _ aa rfl (by exact (rfl:_=some [_,_,_,_,_,_,_,_,_]))) ?_
 refine sP rfl ?_
 refine ap (_,[]) (fun τ=> bi _ _ aa rfl ag (by (simp <;> rfl)) ah rfl) ?_
 refine sy rfl ?_
 refine ap (_,[((3,9), .gone),((96,0),_)]) (fun τ=> mB (b:=true) (96,0) _ _ aa rfl (eJ rfl (by exact dP) rfl) hl2.symm (.sl rfl) ab rfl rfl rfl (CN c r.sent ⟨3,x,y,z,w⟩) hl3) ?_
 refine ut rfl (bl ⟨⟨rfl,by kernel_rfl⟩,?_⟩)
 refine ai (aT _ rfl rfl) (bb rfl rfl rfl (bG rfl rfl rfl rfl rfl rfl (dY (aq ?_))))
 refine aN (σ':=aE 134 [(3,_),(6,_)] [((1,9),_),((3,0),_),((6,0),_),((2,9),_),((4,9),_),((5,9),_),((96,0),_)] [(1,9),(2,9),(4,9),(5,9),(96,0)] [(2,9),(5,9)]) kp ?_
 exact an (ai (az _ aa rfl rfl rfl rfl) (bG rfl rfl rfl rfl rfl rfl (aj (aG (bI (.inr rfl) rfl (.cellA aa rfl rfl rfl) (Le.outI [((1,8),(1,9)),((3,8),(96,0)),((4,8),(4,9))] [] (.agg rfl lz) rfl rfl rfl trivial ob tr rfl))))))
theorem yx (h0:0≤s.wait) (h1:x=s.wait):nV c o s r ⟨6,x,y,z,w⟩ { s with wait:= -1 } { r with repl:=true,value:=y }:=by
 refine Spec.ofNI Tryz.func114 rfl Tryz.ntmps114 rfl ?_
 refine am (ai (aQ (3,0) _ rfl rfl) (ai (aQ (4,0) _ rfl rfl) (ai (aD (6,0) aa rfl rfl) (aj (aq (am (bb rfl rfl rfl (cf rfl rfl rfl (aj (ay ?_))))))))))
 iterate 5 refine cK rfl rfl rfl rfl rfl ?_
 refine aq ?_
 refine aN (σ':=aE 134 [(2,_),(3,_),(4,_),(6,_),(13,_)] [((1,9),_),((2,9),_),((3,9),_),((4,9),_),((5,9),_),((3,0),_),((4,0),_),((6,0),_)] [(1,9),(2,9),(3,9),(4,9),(5,9)] [(2,9),(5,9)]) kp ?_
 refine zG rfl rfl rfl rfl rfl (am (bb rfl rfl rfl (cf rfl rfl rfl (ai (ft (r:=true) _ _ rfl rfl (decide_eq_true ab)) ?_))))
 refine cM rfl (ax rfl rfl (aA _ aa rfl rfl rfl) (ax rfl rfl (aF _ aa rfl rfl ei) (ax rfl rfl (aA _ aa rfl rfl rfl) (ax rfl rfl (aF _ aa rfl rfl ei) (ax rfl rfl (bB (r:=true) _ _ rfl rfl (by rw [h1];exact beq_self_eq_true _)) ?_)))))
 refine ai (aC _ _ _ rfl bN) (aj (bL rfl rfl ?_))
 refine aN (σ':=aE 134 [(2,_),(3,_),(4,_),(6,_)] [((1,9),_),((2,9),_),((3,9),_),((4,9),_),((5,9),_),((3,0),_),((4,0),_),((6,0),_)] [(1,9),(2,9),(3,9),(4,9),(5,9)] [(2,9),(5,9)]) kp ?_
 refine hU 7 [111,112,113,114,115,116] [(2,9)] [[(2,9)],[],[],[],[(2,9)],[(2,9)],[]] ae ae rfl (aK rfl) (rfl:_=[_,_,_,_,_,_,_]) (rfl:_=[_,_,_,_,_]) ?_
 refine ap (_,[]) (fun τ=> aH _ cd) ?_
 refine fB rfl ?_
 refine ap (_,[]) (fun τ=> aH _ cd) ?_
 refine fH rfl ?_
 refine ap (_,[]) (fun τ=> aA _ aa rfl rfl rfl) ?_
 refine fQ rfl ?_
 refine ap (_,[]) (fun τ=> aF _ aa rfl rfl ei) ?_
 refine fV rfl ?_
 refine ap (_,[]) (fun τ=> aT _ rfl rfl) ?_
 refine gd rfl ?_
 refine ap (_,[]) (fun τ=> aA _ aa rfl rfl rfl) ?_
 refine gV rfl ?_
 refine ap (_,[((2,9),_)]) (fun τ=> dF _ _ aa rfl (eJ rfl (by exact dP) rfl) rfl rfl (Nat.le_of_ble_eq_true rfl) rfl) ?_
 refine iG rfl (bl ⟨⟨rfl,by kernel_rfl⟩,?_⟩)
 refine ai (aT _ rfl rfl) (bb rfl rfl rfl (bG rfl rfl rfl rfl rfl rfl (bb rfl rfl rfl (bG rfl rfl rfl rfl rfl rfl (dY (am (ai (az _ aa rfl rfl rfl rfl) (bG rfl rfl rfl rfl rfl rfl (aj (aG ?_))))))))))
 exact bI (.inr rfl) rfl (.cellA aa rfl rfl rfl) (Le.outI [((1,8),(1,9)),((3,8),(3,9)),((4,8),(4,9))] [] (.agg rfl lz) rfl rfl rfl trivial ob tr rfl)
theorem wb (h0:s.wait < 0):nV c o s r ⟨6,x,y,z,w⟩ s r:=by
 refine Spec.ofNI Tryz.func114 rfl Tryz.ntmps114 rfl ?_
 refine am (ai (aQ (3,0) _ rfl rfl) (ai (aQ (4,0) _ rfl rfl) (ai (aD (6,0) aa rfl rfl) (aj (aq (am (bb rfl rfl rfl (cf rfl rfl rfl (aj (ay ?_))))))))))
 iterate 5 refine cK rfl rfl rfl rfl rfl ?_
 refine aq ?_
 refine aN (σ':=aE 134 [(2,_),(3,_),(4,_),(6,_),(13,_)] [((1,9),_),((2,9),_),((3,9),_),((4,9),_),((5,9),_),((3,0),_),((4,0),_),((6,0),_)] [(1,9),(2,9),(3,9),(4,9),(5,9)] [(2,9),(5,9)]) kp ?_
 refine zG rfl rfl rfl rfl rfl (am (bb rfl rfl rfl (cf rfl rfl rfl (ai (ft (r:=false) _ _ rfl rfl (decide_eq_false ab)) ?_))))
 refine cM rfl (aO rfl rfl ah ?_)
 refine aO rfl rfl ah ?_
 refine aO rfl rfl ah ?_
 refine aO rfl rfl ah ?_
 refine aO rfl rfl ah ?_
 exact ai (aC _ _ _ rfl bN) (aj (aW rfl rfl (cw (am (ai (az _ aa rfl rfl rfl rfl) (bG rfl rfl rfl rfl rfl rfl (aj (aG (bI (.inr rfl) rfl (.cellA aa rfl rfl rfl) (Le.outI [((1,8),(1,9)),((3,8),(3,9)),((4,8),(4,9))] [] (.agg rfl lz) rfl rfl rfl trivial ob tr rfl))))))))))
theorem wD (h0:0≤s.wait) (h1:x≠s.wait):nV c o s r ⟨6,x,y,z,w⟩ s r:=by
 refine Spec.ofNI Tryz.func114 rfl Tryz.ntmps114 rfl ?_
 refine am (ai (aQ (3,0) _ rfl rfl) (ai (aQ (4,0) _ rfl rfl) (ai (aD (6,0) aa rfl rfl) (aj (aq (am (bb rfl rfl rfl (cf rfl rfl rfl (aj (ay ?_))))))))))
 iterate 5 refine cK rfl rfl rfl rfl rfl ?_
 refine aq ?_
 refine aN (σ':=aE 134 [(2,_),(3,_),(4,_),(6,_),(13,_)] [((1,9),_),((2,9),_),((3,9),_),((4,9),_),((5,9),_),((3,0),_),((4,0),_),((6,0),_)] [(1,9),(2,9),(3,9),(4,9),(5,9)] [(2,9),(5,9)]) kp ?_
 refine zG rfl rfl rfl rfl rfl (am (bb rfl rfl rfl (cf rfl rfl rfl (ai (ft (r:=true) _ _ rfl rfl (decide_eq_true ab)) ?_))))
 refine cM rfl (ax rfl rfl (aA _ aa rfl rfl rfl) (ax rfl rfl (aF _ aa rfl rfl ei) (ax rfl rfl (aA _ aa rfl rfl rfl) (ax rfl rfl (aF _ aa rfl rfl ei) (ax rfl rfl (bB (r:=false) _ _ rfl rfl (beq_eq_false_iff_ne.2 h1)) ?_)))))
 exact ai (aC _ _ _ rfl bN) (aj (aW rfl rfl (cw (am (ai (az _ aa rfl rfl rfl rfl) (bG rfl rfl rfl rfl rfl rfl (aj (aG (bI (.inr rfl) rfl (.cellA aa rfl rfl rfl) (Le.outI [((1,8),(1,9)),((3,8),(3,9)),((4,8),(4,9))] [] (.agg rfl lz) rfl rfl rfl trivial ob tr rfl))))))))))
theorem zL (hr:r.fails.length≤1000):nV c o s r ⟨7,x,y,z,w⟩ s { r with fails:=r.fails++[x] }:=by
 have hl3:r.fails.length+1=(r.fails++[x]).length:=by rw [List.length_append];rfl
 refine Spec.ofNI Tryz.func114 rfl Tryz.ntmps114 rfl ?_
 refine am (ai (aQ (3,0) _ rfl rfl) (ai (aQ (4,0) _ rfl rfl) (ai (aD (6,0) aa rfl rfl) (aj (aq (am (bb rfl rfl rfl (cf rfl rfl rfl (aj (ay ?_))))))))))
 iterate 5 refine cK rfl rfl rfl rfl rfl ?_
 refine aq ?_
 refine aN (σ':=aE 134 [(2,_),(3,_),(4,_),(6,_),(13,_)] [((1,9),_),((2,9),_),((3,9),_),((4,9),_),((5,9),_),((3,0),_),((4,0),_),((6,0),_)] [(1,9),(2,9),(3,9),(4,9),(5,9)] [(2,9),(5,9)]) kp ?_
 refine ed rfl rfl rfl rfl rfl (iE rfl rfl rfl rfl rfl ?_)
 refine aN (σ':=aE 134 [(2,_),(3,_),(4,_),(6,_)] [((1,9),_),((2,9),_),((3,9),_),((4,9),_),((5,9),_),((3,0),_),((4,0),_),((6,0),_)] [(1,9),(2,9),(3,9),(4,9),(5,9)] [(2,9),(5,9)]) kp ?_
 refine aN (Le.incT (130,0) rfl) ?_
 refine hU 9 [122,123,124,125,126,127,128,129,130] [(4,9),(130,0)] [[],[],[],[(4,9)],[(4,9)],[],[(4,9)],[(4,9)],[]] ae ae rfl (aK rfl) (rfl:_=[_,_,_,_,_,_,_,_,_]) (rfl:_=[_,_,_]) ?_
 refine ap (_,[]) (fun τ=> aH _ cd) ?_
 refine fB rfl ?_
 refine ap (_,[]) (fun τ=> aH _ cd) ?_
 refine fH rfl ?_
 refine ap (_,[]) (fun τ=> aT _ rfl rfl) ?_
 refine fQ rfl ?_
 refine ap (_,[]) (fun τ=> aA _ aa rfl rfl rfl) ?_
 refine fV rfl ?_
 refine ap (_,[]) (fun τ=> aF _ aa rfl rfl eT) ?_
 refine gd rfl ?_
 refine ap (_,[]) (fun τ=> aA _ aa rfl rfl rfl) ?_
 refine gV rfl ?_
 refine ap (_,[]) (fun τ=> aF _ aa rfl rfl ei) ?_
 refine iG rfl ?_
 refine ap (_,[]) (fun τ=> bi _ _ aa rfl ag (by (simp <;> rfl)) ah rfl) ?_
 refine jO rfl ?_
 refine ap (_,[((4,9), .gone),((130,0),_)]) (fun τ=> mB (b:=true) (130,0) _ _ aa rfl (eJ rfl (by exact dP) rfl) (by rw [aL,Nat.mul_one]) (.sl rfl) ab rfl rfl rfl (sh r.fails [x]) hl3) ?_
 refine jW rfl (bl ⟨⟨rfl,by kernel_rfl⟩,?_⟩)
 exact ai (aT _ rfl rfl) (bb rfl rfl rfl (bG rfl rfl rfl rfl rfl rfl (dY (am (ai (az _ aa rfl rfl rfl rfl) (bG rfl rfl rfl rfl rfl rfl (aj (aG (bI (.inr rfl) rfl (.cellA aa rfl rfl rfl) (Le.outI [((1,8),(1,9)),((3,8),(3,9)),((4,8),(130,0))] [] (.agg rfl lz) rfl rfl rfl trivial ob tr rfl))))))))))
end
end Go.Proofs.YtmjnackchaahbaaGreat

namespace Go.Proofs.YtmjnackchaahbaaGreat
def TmC (c:List eR) (t:Int):Bool:=decide (0≤t∧t < 8) && c.all fun x=> (decide (x.op≠ .timer) || decide (x.n=t)) && (decide (x.op≠ .cancel) || decide (x.n≠t))
structure wU (t:Int) (a:Ac):Prop where
 kd:1≤a.k∧a.k≤7
 tm:a.k=4→a.a=t
 cn:a.k=5→a.a≠t
theorem Em {K:Cx} {x:eR} {s:Ms} {t:Int} (h1:x.op= .timer→x.n=t) (h2:x.op= .cancel→x.n≠t) (h: ∀ a∈s.acts,wU t a): ∀ a∈(dC K x s).acts,wU t a:=by
 have app: ∀ (b:Ac),wU t b→ ∀ a∈s.acts++[b],wU t a:=fun b hb a ha=> by
  rcases List.mem_append.1 ha with ha | ha
  ·exact h a ha
  simp at ha;subst ha;exact hb
 unfold dC
 cases ho:x.op <;> simp only
 case setVar=>
  split
  ·exact app _ ⟨by simp,fun e=> by simp at e,fun e=> by simp at e⟩
  exact h
 case draw=> split <;> exact h
 case send=>
  split
  ·exact app _ ⟨by simp,fun e=> by simp at e,fun e=> by simp at e⟩
  exact h
 case timer=> exact app _ ⟨by simp,fun _=> h1 ho,fun e=> by simp at e⟩
 case cancel=> exact app _ ⟨by simp,fun e=> by simp at e,fun _=> h2 ho⟩
 case sync=> exact app _ ⟨by simp,fun e=> by simp at e,fun e=> by simp at e⟩
 case reply=> exact app _ ⟨by simp,fun e=> by simp at e,fun e=> by simp at e⟩
 case fail=> exact app _ ⟨by simp,fun e=> by simp at e,fun e=> by simp at e⟩
 all_goals exact h
theorem wV {c:List eR} {t:Int} (h:TmC c t=true) (i:Nat):((c.getD i { op:= .stop }).op= .timer→(c.getD i { op:= .stop }).n=t)∧((c.getD i { op:= .stop }).op= .cancel→(c.getD i { op:= .stop }).n≠t):=by
 unfold TmC at h
 rw [Bool.and_eq_true,List.all_eq_true] at h
 by_cases hi:i < c.length
 ·have e:c.getD i { op:= .stop }=c[i]:=by rw [List.getD_eq_getElem?_getD,List.getElem?_eq_getElem hi];rfl
  rw [e]
  have:=h.2 _ (List.getElem_mem hi)
  simp only [Bool.and_eq_true,Bool.or_eq_true,decide_eq_true_eq] at this
  exact ⟨fun e=> (this.1.resolve_left fun h=> h e),fun e=> (this.2.resolve_left fun h=> h e)⟩
 have e:c.getD i { op:= .stop }={ op:= .stop }:=by rw [List.getD_eq_getElem?_getD,List.getElem?_eq_none ab];rfl
 rw [e];exact ⟨fun e=> (by cases e),fun e=> (by cases e)⟩
theorem Ho {K:Cx} {t:Int} (hc:TmC K.code t=true) (k:Nat) (s:Ms) (h: ∀ a∈s.acts,wU t a): ∀ a∈(kX K k s).acts,wU t a:=
 lI (I:=fun s=> ∀ a∈s.acts,wU t a) (fun s h _=> Em (wV hc s.pc).1 (wV hc s.pc).2 h) k s h
theorem uX {p:Pg} {t:Int} (hc:TmC p.c t=true) (h:Nat) (names vars ans:List Int): ∀ a∈(jR p h names vars ans).acts,wU t a:=by
 unfold jR
 split
 ·exact fun a ha=> by simp at ha
 exact Ho hc 500 _ fun a ha=> by simp [ez] at ha
abbrev pP (t:Int) (l:List Int):Prop:=l=[]∨l=[t]
theorem TmC.rg {c:List eR} {t:Int} (h:TmC c t=true):0≤t∧t < 8:=by
 unfold TmC at h
 rw [Bool.and_eq_true] at h
 exact of_decide_eq_true h.1
theorem LY {P:Int→Prop} (h:P 0∧P 1∧P 2∧P 3∧P 4∧P 5∧P 6∧P 7) {t:Int} (ht:0≤t∧t < 8):P t:=by
 obtain ⟨h0,h1,h2,h3,h4,h5,h6,h7⟩:=h
 have:t=0∨t=1∨t=2∨t=3∨t=4∨t=5∨t=6∨t=7:=by omega
 rcases this with h | h | h | h | h | h | h | h <;> (subst h;assumption)
theorem xp {t:Int} (ht:0≤t∧t < 8) {l:List Int} (h:pP t l):wT l t true=[t]:=by
 rcases h with h | h
 ·subst h;exact LY (P:=fun t=> wT [] t true=[t]) ah ht
 subst h;exact LY (P:=fun t=> wT [t] t true=[t]) ah ht
theorem xk {t u:Int} (ht:0≤t∧t < 8) (hu:u≠t) {l:List Int} (h:pP t l):wT l u false=l:=by
 have e:wT l u false=((List.range 8).map fun (i:Nat)=> (i:Int)).filter fun i=> decide (i∈l):=by
  unfold wT
  refine List.filter_congr fun i _=> ?_
  split
  ·rename_i hi
   subst hi
   rcases h with h | h
   ·subst h;rfl
   subst h;exact (decide_eq_false (by simpa using hu)).symm
  rfl
 rw [e]
 rcases h with h | h
 ·subst h;rfl
 subst h;exact LY (P:=fun t=> (((List.range 8).map fun (i:Nat)=> (i:Int)).filter fun i=> decide (i∈[t]))=[t]) ah ht
theorem ua {t:Int} (ht:0≤t∧t < 8) {q:Ns×Nr} {a:Ac} (ha:wU t a) (h:pP t q.1.timers):pP t (dJ q a).1.timers:=by
 unfold dJ
 split
 ·exact h
 split
 ·exact h
 split
 ·rename_i h4
  show pP t (wT q.1.timers a.a true)
  rw [ha.tm h4,xp ht h]
  exact .inr rfl
 split
 ·rename_i h5
  show pP t (wT q.1.timers a.a false)
  rw [xk ht (ha.cn h5) h]
  exact h
 split
 ·exact h
 split
 ·split <;> exact h
 split <;> exact h
theorem GB {s:Ns} {l:List Int} (h:l=s.timers):{ s with timers:=l }=s:=by subst h;rfl
theorem GY (c:Cz) (o:Ot) {t:Int} (ht:0≤t∧t < 8) (q:Ns×Nr) (a:Ac) (ha:wU t a) (hq:pP t q.1.timers) (hs:jU q.1) (ho:jz q.1.dk) (hr:q.2.sent.length≤1000) (hf:q.2.fails.length≤1000):
  nV c o q.1 q.2 a (dJ q a).1 (dJ q a).2:=by
 obtain ⟨s,r⟩:=q
 obtain ⟨k,x,y,z,w⟩:=a
 obtain ⟨hk,h4,h5⟩:=ha
 simp only at hk h4 h5 hq hs ho hr hf
 have:k=1∨k=2∨k=3∨k=4∨k=5∨k=6∨k=7:=by omega
 rcases this with e | e | e | e | e | e | e <;> subst e
 ·exact ya c o s r x y z w hs ho
 ·exact Bv c o s r x y z w hs ho
 ·exact Dp c o s r x y z w hr
 ·obtain rfl:=h4 rfl
  have e:(dJ (s,r) ⟨4,x,y,z,w⟩)=({ s with timers:=[x] },r):=by
   show ({ s with timers:=wT s.timers x true },r)=_
   rw [xp ht hq]
  rw [e]
  rcases hq with hq | hq
  ·exact vR c o s r x y z w hq
  have:=vH c o s r x y z w hq
  rwa [GB hq.symm]
 ·have hx:=h5 rfl
  have e:(dJ (s,r) ⟨5,x,y,z,w⟩)=(s,r):=by
   show ({ s with timers:=wT s.timers x false },r)=_
   rw [xk ht hx hq,GB rfl]
  rw [e]
  refine vG c o s r x y z w ?_ ?_
  ·rcases hq with hq | hq <;> rw [hq]
   ·exact Nat.zero_le 1
   exact Nat.le_refl 1
  rcases hq with hq | hq <;> rw [hq]
  ·exact fun h=> absurd h.1 (Nat.lt_irrefl _)
  exact fun h=> hx h.2.symm
 ·by_cases h0:0≤s.wait
  ·by_cases h1:x=s.wait
   ·have e:(dJ (s,r) ⟨6,x,y,z,w⟩)=({ s with wait:= -1 },{ r with repl:=true,value:=y }):=by
     show (if 0≤s.wait∧x=s.wait then ({ s with wait:= -1 },{ r with repl:=true,value:=y }) else (s,r))=_
     exact if_pos ⟨h0,h1⟩
    rw [e];exact yx c o s r x y z w h0 h1
   have e:(dJ (s,r) ⟨6,x,y,z,w⟩)=(s,r):=by
    show (if 0≤s.wait∧x=s.wait then ({ s with wait:= -1 },{ r with repl:=true,value:=y }) else (s,r))=_
    exact if_neg fun h=> h1 h.2
   rw [e];exact wD c o s r x y z w h0 h1
  have e:(dJ (s,r) ⟨6,x,y,z,w⟩)=(s,r):=by
   show (if 0≤s.wait∧x=s.wait then ({ s with wait:= -1 },{ r with repl:=true,value:=y }) else (s,r))=_
   exact if_neg fun h=> h0 h.1
  rw [e];exact wb c o s r x y z w ab
 exact zL c o s r x y z w hf
theorem oZ (s:Ns) (hs:jU s) (ho:jz s.dk):Spec Tryz.prog 47 (aY [.agg (GD s (.ref (1,9) 0 s.timers.length))] [((1,9), .row 3 1 (cu s.timers))]) (bc (.sl (s.dk.view++s.vol).length (cu (s.dk.view++s.vol))) [((1,9), .row 3 1 (cu s.timers))] [(1,9)] [(1,9)]):=by
 have hc:=hs.c
 have hp:=hs.p
 have hv:=hs.v
 have hw:=rB s.dk ab ab ho
 have hl:s.dk.view.length=s.dk.cells.length:=gq _ _
 have hl2:s.dk.cells.length+s.vol.length=(s.dk.view++s.vol).length:=by rw [List.length_append,hl]
 refine Spec.ofNI Tryz.func47 rfl Tryz.ntmps47 rfl ?_
 refine am (ai (aQ (1,0) _ rfl rfl) (ai (bq _ fA) (aj (aq (py 6 [3,4,5,6,7,8] [(5,0),(5,0),(8,0)] ae ae rfl (rfl:_=[_,_,_,_,_,_]) (rfl:_=[_]) ?_)))))
 refine cF (_,[]) (fun τ=> aA _ aa rfl rfl rfl) ?_
 refine cE (rfl:_=[_]) ?_
 refine cF (_,[]) (fun τ=> az _ aa rfl rfl rfl rfl) ?_
 refine cE (rfl:_=[_,_]) ?_
 refine cF (_,[((5,0),_)]) (fun τ=> (bY aa [((0,8),(5,0))] ar (hw.toI) trivial tr tr rfl rfl ae ae)) ?_
 refine cE (rfl:_=[_,_,_]) ?_
 refine cF (_,[]) (fun τ=> aA _ aa rfl rfl rfl) ?_
 refine cE (rfl:_=[_,_,_,_]) ?_
 refine cF (_,[]) (fun τ=> aF _ aa rfl rfl eI) ?_
 refine cE (rfl:_=[_,_,_,_,_]) ?_
 refine cF (_,[((5,0), .gone),((8,0), .gone)]) (fun τ=> Db (8,0) _ _ aa rfl rfl (by rw [aL,hl,Nat.mul_one]) (.sl (by rw [aL,Nat.mul_one])) ab rfl rfl rfl (sh _ _) hl2) ?_
 refine cE (rfl:_=[_,_,_,_,_,_]) ?_
 refine nQ ⟨⟨rfl,by kernel_rfl,by kernel_rfl⟩,?_⟩
 exact kE rfl (aj (aG (bI (.inr rfl) rfl (.tmp mm) (Le.outI [] [] .sl rfl rfl rfl trivial ob tr rfl))))
theorem yX (l:List Int) (h:l.length≤1000000) (h0:0 < l.length):Spec Tryz.prog 92 (ba [.sl l.length (cu l)] []) (aP (.sl l.length (cu l)) []):=by
 refine Spec.ofN Tryz.func92 rfl Tryz.ntmps92 rfl ?_
 refine am (ai (bq _ fA) (aj (aq (am (eV rfl (ai (tH _ _ Tryz.underlying22 (.inl ⟨_,rfl⟩) h0 rfl) ?_))))))
 refine aj (aW rfl rfl (aS (am (ai (qC _ aa rfl) (eV rfl (ai (sW _ _ aa rfl (.sl (by rw [aL,Nat.mul_one])) ab) ?_))))))
 exact kE rfl (aj (aG (pY rfl rfl)))
theorem zb:Spec Tryz.prog 92 (ba [.sl 0 (cu [])] []) (aP (.sl 0 (cu [])) []):=by
 refine Spec.ofN Tryz.func92 rfl Tryz.ntmps92 rfl ?_
 refine am (ai (bq _ fA) (aj (aq (am (eV rfl (BG (sk _ _ Tryz.underlying22 rfl rfl) ?_))))))
 rintro _ ⟨b4,rfl⟩
 refine aj (aR rfl (fun hc4=> ?_) (fun hc4=> ?_))
 ·skip
  exact am (ai (bq _ fA) (aj (aG (bI (.inr rfl) rfl (.tmp kN) (Le.out [] [] .nil rfl rfl rfl trivial trivial)))))
 refine aS (am (ai (qC _ aa rfl) (eV rfl (ai (sW _ _ aa rfl (.sl rfl) ab) ?_))))
 exact kE rfl (aj (aG (pY rfl rfl)))
theorem nc (l:List Int) (h:l.length≤1000000):Spec Tryz.prog 92 (ba [.sl l.length (cu l)] []) (aP (.sl l.length (cu l)) []):=by
 by_cases h0:0 < l.length
 ·exact yX l h h0
 obtain rfl:l=[]:=List.eq_nil_of_length_eq_zero ab
 exact zb

abbrev MZ (s:Ns) (h:Nat) (ck:Int) (vol:List Int):Ns:={ s with clock:=ck,counts:=s.counts.set h (s.counts.getD h 0+1),vol:=vol }
abbrev cT (s:Ns) (h:Nat) (ck:Int) (P:Pg) (R:Ms) (k:Nat):Ns×Nr:=(R.acts.take k).foldl dJ (MZ s h ck (R.vars.drop P.d),{})
abbrev Hh (R:Ms):Ot:=⟨R.vars,R.acts,(R.steps:Int), !R.fin,fw (kD R.cov)⟩
abbrev Dz (nm:List Int):AV:= .agg [.v (.slice none 0 0), .v (.int .i64 (nm.getD 0 0)), .v (.int .i64 (nm.getD 1 0)), .v (.int .i64 (nm.getD 2 0)), .v (.int .i64 (nm.getD 3 0)), .v (.int .i64 (nm.getD 4 0)), .v (.int .i64 (nm.getD 5 0)), .v (.int .i64 (nm.getD 6 0)), .v (.int .i64 (nm.getD 7 0)), .v (.int .i64 (nm.getD 8 0))]
abbrev Lk (c:Cz) (R:Ms) (q:Ns×Nr) (t:Tl) (n:Nat) (L:List PV):List (aB×Cells):=[((1,8), .row 3 1 (cu q.1.timers)),((2,8), .row 57 5 (vB R.acts)),((3,8), .row 117 9 (AM c q.2.sent)),((6,8), .row 3 1 (cu q.2.fails))]++pv t n L (5,8)
set_option maxHeartbeats 4000000 in
theorem Lj (s:Ns) (hs:jU s) (ho:jz s.dk) (hc:s.counts.length=41) (P:Pg) (h:Nat) (hh:h < 40) (self nodes drift tk:Int) (nm:List Int) (t:Tl) (n0:Nat) (L0:List PV) (hdr:drift≤0) (hcb: ∀ k, -1000000≤s.counts.getD k 0∧s.counts.getD k 0≤1000000) (hck: -1000000≤s.clock∧s.clock≤1000000)
  (R:Ms) (Q:List PV) (hv:Spec Tryz.prog 59 (aY [ii P, .v (.int .i64 (h:Int)), .agg [.sl (s.dk.view++s.vol).length (cu (s.dk.view++s.vol)), .v (.int .i64 self), .v (.int .i64 nodes), .v (.int .i64 (s.clock+1)), .v (.int .i64 (nm.getD 3 0)), .v (.int .i64 (nm.getD 4 0)), .v (.int .i64 (nm.getD 5 0)), .v (.int .i64 (nm.getD 6 0)), .v (.int .i64 (nm.getD 7 0)), .v (.int .i64 (nm.getD 8 0))],vY (6,9)] (Dn t n0 (L0) (5,9)))
   (bc (.agg [.sl R.vars.length (cu R.vars), .ref (2,8) 0 R.acts.length, .v (.int .i64 (R.steps:Int)), .v (.bool (!R.fin)), .sl (fw (kD R.cov)).length (cu (fw (kD R.cov)))]) (((2,8), .row 57 5 (vB R.acts))::Dn t (n0+R.asked.length) (L0++Q) (5,8)) [(2,8),(4,9),(5,8),(6,9)] [(4,9),(6,9)]))
  (hd:P.d≤R.vars.length) (hrv:R.vars.length≤1000) (hra:R.acts.length≤500)
  (hq: ∀ i,i < R.acts.length→nV ⟨self,(h:Int),s.counts.getD h 0⟩ (Hh R) (cT s h (s.clock+1) P R i).1 (cT s h (s.clock+1) P R i).2 (pG R.acts i) (cT s h (s.clock+1) P R (i+1)).1 (cT s h (s.clock+1) P R (i+1)).2):
  Spec Tryz.prog 81 (aY [jS s,ii P, .v (.int .i64 (h:Int)), .v (.int .i64 self), .v (.int .i64 nodes), .v (.int .i64 drift),Dz nm,jA] (pv t n0 L0 (5,9)))
   (bc (.tup [.agg (GD (cT s h (s.clock+1) P R R.acts.length).1 (.ref (1,8) 0 (cT s h (s.clock+1) P R R.acts.length).1.timers.length)), .agg (Kv ⟨self,(h:Int),s.counts.getD h 0⟩ (cT s h (s.clock+1) P R R.acts.length).2 (Hh R) (3,8) (6,8) (2,8))]) (Lk ⟨self,(h:Int),s.counts.getD h 0⟩ R (cT s h (s.clock+1) P R R.acts.length) t (n0+R.asked.length) (L0++Q)) [(1,8),(2,8),(3,8),(4,9),(5,8),(6,8)] [(4,9)]):=by
 have hcb2:=hcb h
 have hcb2: -1000000≤cQ s h∧cQ s h≤1000000:=hcb2
 have hce:=su s h ab (s.counts.getD h 0+1)
 have hal:=fu R.acts
 have hown:=ko s hs
 have hnv:=oZ { s with clock:=s.clock+1 } ⟨hs.c,hs.p,hs.v,hs.t⟩ ho
 have hcl:=nc (R.vars.drop P.d) (by rw [List.length_drop];omega)
 have hds:((cu R.vars).drop (P.d*1)).take ((R.vars.length - P.d)*1)=cu (R.vars.drop P.d):=by
  rw [Nat.mul_one,Nat.mul_one,List.take_of_length_le (by rw [List.length_drop,aL];omega)]
  simp [cu,List.map_drop]
 have hdl:R.vars.length - P.d=(R.vars.drop P.d).length:=by rw [List.length_drop]
 refine Spec.ofNI Tryz.func81 rfl Tryz.ntmps81 rfl ?_
 refine am (ai (aQ (8,0) _ rfl rfl) (ai (aQ (9,0) _ rfl rfl) (ai (aQ (14,0) _ rfl rfl) (ai (aQ (15,0) _ rfl rfl) (ai (aD (16,0) aa rfl rfl) (ai (aD (17,0) aa rfl rfl) (aj (am (ai (az _ aa rfl rfl rfl rfl) (ai (bY aa [((1,8),(22,0))] ar (hown.toI) trivial tr tr rfl rfl ae ae) ?_))))))))))
 refine bG rfl rfl rfl rfl rfl rfl (aj (am (aX rfl (aX rfl (aX rfl (bb rfl rfl rfl (ai (cZ _ _ aa rfl rfl rfl h rfl ab (show 8+h*1=8+h from by omega)) ?_)))))))
 refine ai (aF _ aa rfl rfl (nW _ _ _ _ _ _ _ _ _ _ h ab)) ?_
 refine ai (aM _ aa rfl (by exact (rfl:_=some [_,_,_]))) ?_
 refine ai (aM _ aa rfl (by exact (rfl:_=some [_,_,_,_,_,_,_,_,_,_,_,_]))) ?_
 refine ai (aD (18,0) aa rfl rfl) (bG rfl rfl rfl rfl rfl rfl (aj (aq ?_)))
 refine aN (σ':=aE 93 [(2,_),(3,_),(4,_),(5,_),(8,_),(9,_),(14,_),(15,_),(16,_),(17,_),(18,_)] [((4,9),_),((5,9),_),((8,0),_),((9,0),_),((14,0),_),((15,0),_),((16,0),_),((17,0),_),((22,0),_),((18,0),_)] [(4,9),(5,9)] [(4,9)]) kp ?_
 refine an (bb rfl rfl rfl (cf rfl rfl rfl (ai (aZ _ _ rfl rfl (bF ab)) ?_)))
 refine bb rfl rfl rfl (bG rfl rfl rfl rfl rfl rfl (aj (aq (am (aX rfl (ai (gx (r:=false) _ _ rfl rfl (decide_eq_false ab)) ?_))))))
 refine aj (aW rfl rfl (aS (aU fun K7 hK7=> ?_)))
 refine an (ai (az _ aa rfl rfl rfl rfl) (ai (bY aa [((1,9),(22,0))] ar (hnv) ob tr tr rfl rfl ae ae) ?_))
 refine bb rfl rfl rfl (bG rfl rfl rfl rfl rfl rfl (aJ (hK7 _ ?_)))
 clear hK7;try clear K7
 refine aq ?_
 refine aN (σ':=aE 93 [(2,_),(3,_),(4,_),(8,_),(9,_),(14,_),(15,_),(16,_),(17,_),(18,_)] [((4,9),_),((5,9),_),((8,0),_),((9,0),_),((14,0),_),((15,0),_),((16,0),_),((17,0),_),((22,0),_),((18,0),_)] [(4,9),(5,9)] [(4,9)]) kp ?_
 refine xt (14,0) (fun c=> ∃ xs,c=Slot.obj (.box 132 xs)) 11 [48,49,50,51,52,53,54,55,56] [(14,0),(14,0)] ae ae rfl (rfl:_=[_,_,_,_,_,_,_,_,_,_,_]) (rfl:_=[_,_]) (⟨_,rfl⟩) ?_
 refine eB (_,[]) (fun τ hτ=> aH _ ek) ?_
 refine ey (rfl:_=[_]) ?_
 refine eB (_,[]) (fun τ hτ=> aH _ ek) ?_
 refine ey (rfl:_=[_,_]) ?_
 refine eB (_,[]) (fun τ hτ=> aA _ aa rfl rfl rfl) ?_
 refine ey (rfl:_=[_,_,_]) ?_
 refine eB (_,[]) (fun τ hτ=> aF _ aa rfl rfl ei) ?_
 refine ey (rfl:_=[_,_,_,_]) ?_
 refine eB (_,[]) (fun τ hτ=> aA _ aa rfl (by exact hτ.choose_spec) rfl) ?_
 refine ey (rfl:_=[_,_,_,_,_]) ?_
 refine eB (_,[]) (fun τ hτ=> cZ _ _ aa rfl (by exact hτ.choose_spec) rfl 0 rfl ab rfl) ?_
 refine ey (rfl:_=[_,_,_,_,_,_]) ?_
 refine eB (_,[((14,0),_)]) (fun τ hτ=> dF _ _ aa rfl rfl rfl rfl (Nat.le_of_ble_eq_true rfl) rfl) ?_
 refine ey (rfl:_=[_,_,_,_,_,_,_]) ?_
 refine eB (_,[]) (fun τ hτ=> aA _ aa rfl (by exact hτ.choose_spec) rfl) ?_
 refine ey (rfl:_=[_,_,_,_,_,_,_,_]) ?_
 refine eB (_,[]) (fun τ hτ=> cZ _ _ aa rfl rfl rfl 1 rfl ab rfl) ?_
 refine ey (rfl:_=[_,_,_,_,_,_,_,_,_]) ?_
 refine eB (_,[((14,0),_)]) (fun τ hτ=> dF _ _ aa rfl rfl rfl rfl (Nat.le_of_ble_eq_true rfl) rfl) ?_
 refine ey (rfl:_=[_,_,_,_,_,_,_,_,_,_]) ?_
 refine eB (_,[]) (fun τ hτ=> aA _ aa rfl (by exact hτ.choose_spec) rfl) ?_
 refine ey (rfl:_=[_,_,_,_,_,_,_,_,_,_,_]) ?_
 refine vc ⟨⟨⟨rfl,by kernel_rfl,by kernel_rfl⟩,(by intro r hr c hc;simp only [List.mem_cons,List.not_mem_nil,or_false] at hr;rcases hr with rfl | rfl | rfl | rfl | rfl | rfl | rfl | rfl | rfl | rfl | rfl <;> simp at hc <;> (subst hc;exact ⟨_,rfl⟩))⟩,?_⟩
 refine ai (cZ _ _ aa rfl rfl rfl 2 rfl ab rfl) ?_
 refine bG rfl rfl rfl rfl rfl rfl (aj (aU fun K9 hK9=> ?_))
 refine an (ai (az _ aa rfl rfl rfl rfl) (aX rfl (ai (az _ aa rfl rfl rfl rfl) (ai (jI _ _ (rfl:_=[]) (rfl:_=[AV.ptr _ _])) ?_))))
 refine cA (Le.trans (Le.incT (62,1) rfl) (Le.incT (62,0) rfl)) ?_
 refine ai (bj aa [((6,9),(15,0)),((2,8),(62,0)),((5,8),(62,1))] ar (hv) ob tr tr rfl ae ae) ?_
 refine bb rfl rfl rfl (bG rfl rfl rfl rfl rfl rfl (aJ (hK9 _ ?_)))
 clear hK9;try clear K9
 refine aq ?_
 refine aN (σ':=aE 93 [(2,_),(8,_),(9,_),(16,_),(17,_),(18,_)] [((8,0),_),((9,0),_),((16,0),_),((17,0),_),((22,0),_),((18,0),_),((62,0),_),((4,9),_),((62,1),_)] [(4,9),(62,0),(62,1)] [(4,9)]) kp ?_
 refine an (aX rfl (bb rfl rfl rfl (ai (cZ _ _ aa rfl rfl rfl h rfl ab (show 8+h*1=8+h from by omega)) ?_)))
 refine ai (aF _ aa rfl rfl (nW _ _ _ _ _ _ _ _ _ _ h ab)) ?_
 refine ai (aZ _ _ rfl rfl (bF ab)) ?_
 refine bb rfl rfl rfl (ai (cZ _ _ aa rfl rfl rfl h rfl ab (show 8+h*1=8+h from by omega)) ?_)
 refine ai (dF _ _ aa rfl rfl rfl rfl (by show (8+h)+1≤52;omega) ((sX s.up s.ver s.epoch (s.clock+1) _ _ _ _ (cQ s) s.wait h ab _).trans (congrArg (fun e=> IF s.up s.ver s.epoch (s.clock+1) _ _ _ _ e s.wait) hce))) ?_
 refine aj (am (bb rfl rfl rfl (bb rfl rfl rfl (fb rfl rfl rfl (bb rfl rfl rfl (cf rfl rfl rfl (ai (kT _ _ _ aa rfl P.d R.vars.length (.lit rfl rfl) .dflt hd (Nat.le_refl _) hds hdl) ?_)))))))
 refine ai (aI aa al (hcl) rfl rfl) ?_
 refine bb rfl rfl rfl (bG rfl rfl rfl rfl rfl rfl (aj (aU fun K12 hK12=> ?_)))
 refine aq ?_
 refine aN (σ':=aE 93 [(8,_),(16,_),(17,_),(18,_)] [((8,0),_),((16,0),_),((17,0),_),((22,0),_),((18,0),_),((62,0),_),((4,9),_),((62,1),_)] [(4,9),(62,0),(62,1)] [(4,9)]) kp ?_
 refine an (bb rfl rfl rfl (bb rfl rfl rfl (ai (aF _ aa rfl rfl eT) (ai (dg _ aa rfl rfl) (aX rfl (aj (ay ?_)))))))
 refine aN (Le.incA (22,0)) ?_
 refine aN (Le.incT (63,0) rfl) ?_
 refine aN (Le.incT (64,0) rfl) ?_
 refine aN (Le.nilB (18,0) 3 (63,0) 117 9 rfl rfl rfl) ?_
 refine aN (Le.nilB (18,0) 6 (64,0) 3 1 rfl rfl rfl) ?_
 refine bu (α:=Nat) (fun k=> k≤R.acts.length) 93 [(8,_),(16,_),(17,_),(18,_),(81,_),(82,_)] [((16,0),_),((17,0),_),((62,0),_),((4,9),_)] (fun k=> [(83, .v (.int .i64 (k:Int)))]) (fun k=> [((8,0), .box 83 [.v (.bool (cT s h (s.clock+1) P R k).1.up), .v (.int .i64 ((cT s h (s.clock+1) P R k).1.ver)), .v (.int .i64 ((cT s h (s.clock+1) P R k).1.epoch)), .v (.int .i64 ((cT s h (s.clock+1) P R k).1.clock)), .sl (cT s h (s.clock+1) P R k).1.dk.cells.length (cu (cT s h (s.clock+1) P R k).1.dk.cells), .sl (cT s h (s.clock+1) P R k).1.dk.pend.length (lA (cT s h (s.clock+1) P R k).1.dk.pend), .sl (cT s h (s.clock+1) P R k).1.vol.length (cu (cT s h (s.clock+1) P R k).1.vol), .ref (22,0) 0 (cT s h (s.clock+1) P R k).1.timers.length, .v (.int .i64 (cQ (cT s h (s.clock+1) P R k).1 0)), .v (.int .i64 (cQ (cT s h (s.clock+1) P R k).1 1)), .v (.int .i64 (cQ (cT s h (s.clock+1) P R k).1 2)), .v (.int .i64 (cQ (cT s h (s.clock+1) P R k).1 3)), .v (.int .i64 (cQ (cT s h (s.clock+1) P R k).1 4)), .v (.int .i64 (cQ (cT s h (s.clock+1) P R k).1 5)), .v (.int .i64 (cQ (cT s h (s.clock+1) P R k).1 6)), .v (.int .i64 (cQ (cT s h (s.clock+1) P R k).1 7)), .v (.int .i64 (cQ (cT s h (s.clock+1) P R k).1 8)), .v (.int .i64 (cQ (cT s h (s.clock+1) P R k).1 9)), .v (.int .i64 (cQ (cT s h (s.clock+1) P R k).1 10)), .v (.int .i64 (cQ (cT s h (s.clock+1) P R k).1 11)), .v (.int .i64 (cQ (cT s h (s.clock+1) P R k).1 12)), .v (.int .i64 (cQ (cT s h (s.clock+1) P R k).1 13)), .v (.int .i64 (cQ (cT s h (s.clock+1) P R k).1 14)), .v (.int .i64 (cQ (cT s h (s.clock+1) P R k).1 15)), .v (.int .i64 (cQ (cT s h (s.clock+1) P R k).1 16)), .v (.int .i64 (cQ (cT s h (s.clock+1) P R k).1 17)), .v (.int .i64 (cQ (cT s h (s.clock+1) P R k).1 18)), .v (.int .i64 (cQ (cT s h (s.clock+1) P R k).1 19)), .v (.int .i64 (cQ (cT s h (s.clock+1) P R k).1 20)), .v (.int .i64 (cQ (cT s h (s.clock+1) P R k).1 21)), .v (.int .i64 (cQ (cT s h (s.clock+1) P R k).1 22)), .v (.int .i64 (cQ (cT s h (s.clock+1) P R k).1 23)), .v (.int .i64 (cQ (cT s h (s.clock+1) P R k).1 24)), .v (.int .i64 (cQ (cT s h (s.clock+1) P R k).1 25)), .v (.int .i64 (cQ (cT s h (s.clock+1) P R k).1 26)), .v (.int .i64 (cQ (cT s h (s.clock+1) P R k).1 27)), .v (.int .i64 (cQ (cT s h (s.clock+1) P R k).1 28)), .v (.int .i64 (cQ (cT s h (s.clock+1) P R k).1 29)), .v (.int .i64 (cQ (cT s h (s.clock+1) P R k).1 30)), .v (.int .i64 (cQ (cT s h (s.clock+1) P R k).1 31)), .v (.int .i64 (cQ (cT s h (s.clock+1) P R k).1 32)), .v (.int .i64 (cQ (cT s h (s.clock+1) P R k).1 33)), .v (.int .i64 (cQ (cT s h (s.clock+1) P R k).1 34)), .v (.int .i64 (cQ (cT s h (s.clock+1) P R k).1 35)), .v (.int .i64 (cQ (cT s h (s.clock+1) P R k).1 36)), .v (.int .i64 (cQ (cT s h (s.clock+1) P R k).1 37)), .v (.int .i64 (cQ (cT s h (s.clock+1) P R k).1 38)), .v (.int .i64 (cQ (cT s h (s.clock+1) P R k).1 39)), .v (.int .i64 (cQ (cT s h (s.clock+1) P R k).1 40)), .v (.int .i64 ((cT s h (s.clock+1) P R k).1.wait)), .v (.int .i64 (0)), .v (.int .i64 (0))]),((22,0), .row 3 1 (cu (cT s h (s.clock+1) P R k).1.timers)),((18,0), .box 96 [.v (.int .i64 (self)), .v (.int .i64 (h:Int)), .v (.int .i64 (s.counts.getD h 0)), .ref (63,0) 0 (cT s h (s.clock+1) P R k).2.sent.length, .v (.bool (cT s h (s.clock+1) P R k).2.repl), .v (.int .i64 ((cT s h (s.clock+1) P R k).2.value)), .ref (64,0) 0 (cT s h (s.clock+1) P R k).2.fails.length, .sl R.vars.length (cu R.vars), .ref (62,0) 0 R.acts.length, .v (.int .i64 ((R.steps:Int))), .v (.bool (!R.fin)), .sl (fw (kD R.cov)).length (cu (fw (kD R.cov)))]),((63,0), .row 117 9 (AM ⟨self,(h:Int),s.counts.getD h 0⟩ (cT s h (s.clock+1) P R k).2.sent)),((64,0), .row 3 1 (cu (cT s h (s.clock+1) P R k).2.fails)),((62,1), .row 111 7 (L0++Q))]) [(4,9),(62,0),(62,1),(22,0),(63,0),(64,0)] [(4,9)] (fun k=> R.acts.length - k) 0 ?_ (by
  refine Le.mkJ [] [] rfl ?_ ?_ trivial tr ?_
  ·exact ⟨(iP rfl),(iP rfl),(iP rfl),(iP rfl),(iR rfl),(iV rfl),(cr ag),trivial⟩
  ·exact ⟨(cm rfl rfl rfl),(cm rfl rfl rfl),(cm rfl rfl rfl),(cm rfl rfl rfl),(fi rfl rfl rfl rfl lz),(fg rfl rfl rfl ag),(fi rfl rfl rfl rfl lz),(fg rfl rfl rfl ag),(fg rfl rfl rfl ag),(fg rfl rfl rfl ag),trivial⟩
  kernel_rfl) ?_
 ·omega
 intro k hk
 refine am (ai (bn _ _ rfl rfl rfl) (aj (aU fun K15 hK15=> ?_)))
 refine aR rfl (fun hc84=> ?_) (fun hc84=> ?_)
 ·skip
  have ha:=hq k ab
  have hga:=um R.acts k ab
  refine br (hK15 _ ?_)
  clear hK15;try clear K15
  refine aq (ay (am (ai (gC _ _ aa rfl rfl rfl _ rfl ab (by exact Nat.zero_add _)) ?_)))
  refine ai (wW _ aa rfl rfl (by exact hga) rfl) ?_
  refine ai (aD (20,0) aa rfl rfl) (bG rfl rfl rfl rfl rfl rfl (aj (an (ai (az _ aa rfl rfl rfl rfl) (ai (az _ aa rfl rfl rfl rfl) (cA (Le.trans (Le.incT (89,2) rfl) (Le.trans (Le.incT (89,1) rfl) (Le.incT (89,0) rfl))) ?_))))))
  refine ai (bj aa [((1,9),(22,0)),((2,9),(18,0)),((3,9),(63,0)),((4,9),(64,0)),((5,9),(62,0)),((1,8),(89,0)),((3,8),(89,1)),((4,8),(89,2))] ar (ha) ob tr tr rfl ae ae) ?_
  refine bG rfl rfl rfl rfl rfl rfl (dY (an (ai (aZ _ _ rfl rfl (bF ab)) ?_)))
  refine aX rfl (aJ (⟨k+1,?_,?_,?_⟩))
  ·omega
  ·skip
   refine Le.mkJ [((22,0),(89,0)),((63,0),(89,1)),((64,0),(89,2))] [] rfl ?_ ?_ trivial tr ?_
   ·exact ⟨(dH (id:=(8,0)) rfl),(dH (id:=(16,0)) rfl),(dH (id:=(17,0)) rfl),(dH (id:=(18,0)) rfl),(cP (id:=(62,0)) rfl rfl),(by repeat' (exact Lv.v)),(cr ag),trivial⟩
   ·exact ⟨(fi rfl rfl rfl rfl (by repeat' (first | exact Lv.v | exact bg | refine au ?_ ?_))),(fi rfl rfl rfl rfl (by repeat' (first | exact Lv.v | exact bg | refine au ?_ ?_))),(fg rfl rfl rfl rfl),(fi rfl rfl rfl rfl (by repeat' (first | exact Lv.v | exact Lv.sl | exact cP (id:=(62,1)) rfl rfl | exact bg | refine au ?_ ?_))),(fi rfl rfl rfl rfl lz),(fg rfl rfl rfl ag),(fi rfl rfl rfl rfl lz),(fg rfl rfl rfl ag),(fg rfl rfl rfl ag),(fg rfl rfl rfl ag),trivial⟩
   kernel_rfl
  omega
 obtain rfl:k=R.acts.length:=by omega
 refine bD (id (hK12 _ ?_))
 clear hK12;try clear K12
 refine aq (hU 3 [91,92] [(16,0)] [[(16,0)],[],[]] ae ae rfl (aK rfl) (rfl:_=[_,_,_]) (rfl:_=[_]) ?_)
 refine ap (_,[]) (fun τ=> az _ aa rfl rfl rfl rfl) ?_
 refine fB rfl ?_
 refine ap (_,[]) (fun τ=> az _ aa rfl rfl rfl rfl) ?_
 refine fH rfl ?_
 refine ap (_,[((16,0),_)]) (fun τ=> dF _ _ aa rfl (eJ rfl (by exact dP) rfl) rfl rfl (Nat.le_of_ble_eq_true rfl) rfl) ?_
 refine fQ rfl (bl ⟨⟨rfl,by kernel_rfl⟩,?_⟩)
 exact bG rfl rfl rfl rfl rfl rfl (aj (aG (jT (.inr rfl) rfl (.cellA aa rfl rfl rfl) (.cellA aa rfl rfl rfl) (Le.outI [((1,8),(22,0)),((2,8),(62,0)),((3,8),(63,0)),((6,8),(64,0)),((5,8),(62,1))] [] (.tup rfl lz) rfl rfl rfl trivial ob tr rfl))))
set_option maxHeartbeats 4000000 in
theorem Qo (s:Ns) (hs:jU s) (ho:jz s.dk) (hc:s.counts.length=41) (P:Pg) (h:Nat) (hh:h < 40) (self nodes drift tk:Int) (nm:List Int) (t:Tl) (hdr:0 < drift) (hlk:tw t 2 0 (drift+1) tk) (htk:0≤tk∧tk≤1000000) (hdr2:drift≤1000000) (hcb: ∀ k, -1000000≤s.counts.getD k 0∧s.counts.getD k 0≤1000000) (hck: -1000000≤s.clock∧s.clock≤1000000)
  (R:Ms) (Q:List PV) (hv:Spec Tryz.prog 59 (aY [ii P, .v (.int .i64 (h:Int)), .agg [.sl (s.dk.view++s.vol).length (cu (s.dk.view++s.vol)), .v (.int .i64 self), .v (.int .i64 nodes), .v (.int .i64 (s.clock+1+tk)), .v (.int .i64 (nm.getD 3 0)), .v (.int .i64 (nm.getD 4 0)), .v (.int .i64 (nm.getD 5 0)), .v (.int .i64 (nm.getD 6 0)), .v (.int .i64 (nm.getD 7 0)), .v (.int .i64 (nm.getD 8 0))],vY (6,9)] (Dn t 1 (vu t 2 0 (drift+1) tk) (5,9)))
   (bc (.agg [.sl R.vars.length (cu R.vars), .ref (2,8) 0 R.acts.length, .v (.int .i64 (R.steps:Int)), .v (.bool (!R.fin)), .sl (fw (kD R.cov)).length (cu (fw (kD R.cov)))]) (((2,8), .row 57 5 (vB R.acts))::Dn t (1+R.asked.length) (vu t 2 0 (drift+1) tk++Q) (5,8)) [(2,8),(4,9),(5,8),(6,9)] [(4,9),(6,9)]))
  (hd:P.d≤R.vars.length) (hrv:R.vars.length≤1000) (hra:R.acts.length≤500)
  (hq: ∀ i,i < R.acts.length→nV ⟨self,(h:Int),s.counts.getD h 0⟩ (Hh R) (cT s h (s.clock+1+tk) P R i).1 (cT s h (s.clock+1+tk) P R i).2 (pG R.acts i) (cT s h (s.clock+1+tk) P R (i+1)).1 (cT s h (s.clock+1+tk) P R (i+1)).2):
  Spec Tryz.prog 81 (aY [jS s,ii P, .v (.int .i64 (h:Int)), .v (.int .i64 self), .v (.int .i64 nodes), .v (.int .i64 drift),Dz nm,jA] (pv t 0 [] (5,9)))
   (bc (.tup [.agg (GD (cT s h (s.clock+1+tk) P R R.acts.length).1 (.ref (1,8) 0 (cT s h (s.clock+1+tk) P R R.acts.length).1.timers.length)), .agg (Kv ⟨self,(h:Int),s.counts.getD h 0⟩ (cT s h (s.clock+1+tk) P R R.acts.length).2 (Hh R) (3,8) (6,8) (2,8))]) (Lk ⟨self,(h:Int),s.counts.getD h 0⟩ R (cT s h (s.clock+1+tk) P R R.acts.length) t (1+R.asked.length) (vu t 2 0 (drift+1) tk++Q)) [(1,8),(2,8),(3,8),(4,9),(5,8),(6,8)] [(4,9)]):=by
 have hcb2:=hcb h
 have hcb2: -1000000≤cQ s h∧cQ s h≤1000000:=hcb2
 have hce:=su s h ab (s.counts.getD h 0+1)
 have hal:=fu R.acts
 have hown:=ko s hs
 have htl:=oO t 2 0 (drift+1) tk 0 [] rfl ab ab hlk
 have hnv:=oZ { s with clock:=s.clock+1+tk } ⟨hs.c,hs.p,hs.v,hs.t⟩ ho
 have hcl:=nc (R.vars.drop P.d) (by rw [List.length_drop];omega)
 have hds:((cu R.vars).drop (P.d*1)).take ((R.vars.length - P.d)*1)=cu (R.vars.drop P.d):=by
  rw [Nat.mul_one,Nat.mul_one,List.take_of_length_le (by rw [List.length_drop,aL];omega)]
  simp [cu,List.map_drop]
 have hdl:R.vars.length - P.d=(R.vars.drop P.d).length:=by rw [List.length_drop]
 refine Spec.ofNI Tryz.func81 rfl Tryz.ntmps81 rfl ?_
 refine am (ai (aQ (8,0) _ rfl rfl) (ai (aQ (9,0) _ rfl rfl) (ai (aQ (14,0) _ rfl rfl) (ai (aQ (15,0) _ rfl rfl) (ai (aD (16,0) aa rfl rfl) (ai (aD (17,0) aa rfl rfl) (aj (am (ai (az _ aa rfl rfl rfl rfl) (ai (bY aa [((1,8),(22,0))] ar (hown.toI) trivial tr tr rfl rfl ae ae) ?_))))))))))
 refine bG rfl rfl rfl rfl rfl rfl (aj (am (aX rfl (aX rfl (aX rfl (bb rfl rfl rfl (ai (cZ _ _ aa rfl rfl rfl h rfl ab (show 8+h*1=8+h from by omega)) ?_)))))))
 refine ai (aF _ aa rfl rfl (nW _ _ _ _ _ _ _ _ _ _ h ab)) ?_
 refine ai (aM _ aa rfl (by exact (rfl:_=some [_,_,_]))) ?_
 refine ai (aM _ aa rfl (by exact (rfl:_=some [_,_,_,_,_,_,_,_,_,_,_,_]))) ?_
 refine ai (aD (18,0) aa rfl rfl) (bG rfl rfl rfl rfl rfl rfl (aj (aq ?_)))
 refine aN (σ':=aE 93 [(2,_),(3,_),(4,_),(5,_),(8,_),(9,_),(14,_),(15,_),(16,_),(17,_),(18,_)] [((4,9),_),((5,9),_),((8,0),_),((9,0),_),((14,0),_),((15,0),_),((16,0),_),((17,0),_),((22,0),_),((18,0),_)] [(4,9),(5,9)] [(4,9)]) kp ?_
 refine an (bb rfl rfl rfl (cf rfl rfl rfl (ai (aZ _ _ rfl rfl (bF ab)) ?_)))
 refine bb rfl rfl rfl (bG rfl rfl rfl rfl rfl rfl (aj (aU fun K5 hK5=> ?_)))
 refine am (aX rfl (ai (gx (r:=true) _ _ rfl rfl (decide_eq_true ab)) ?_))
 refine aj (bL rfl rfl ?_)
 refine aN (Le.incT (42,0) rfl) ?_
 refine bK 7 [37,38,39,40,41,42,43] [(4,9),(42,0),(5,9)] ae ae rfl (aK rfl) (rfl:_=[_,_,_,_,_,_,_]) (rfl:_=[_,_]) ?_
 refine ap (_,[]) (fun τ=> aA _ aa rfl rfl rfl) ?_
 refine fB rfl ?_
 refine ap (_,[]) (fun τ=> aF _ aa rfl rfl ei) ?_
 refine fH rfl ?_
 refine ap (_,[]) (fun τ=> aF _ aa rfl rfl (rfl:_=some (AV.fn _ _ _))) ?_
 refine fQ rfl ?_
 refine ap (_,[]) (fun τ=> aH _ ek) ?_
 refine fV rfl ?_
 refine ap (_,[]) (fun τ=> aZ _ _ rfl rfl (bF ab)) ?_
 refine gd rfl ?_
 refine ap (_,[((4,9),_),((42,0),_),((5,9), .gone)]) (fun τ=> (jt rfl aa [((5,8),(42,0))] ar (htl) ob tr tr rfl ae ae)) ?_
 refine gV rfl ?_
 refine ap (_,[]) (fun τ=> aZ _ _ rfl rfl (bF ab)) ?_
 refine iG rfl (bl ⟨rfl,?_⟩)
 refine bb rfl rfl rfl (bG rfl rfl rfl rfl rfl rfl (aJ (hK5 _ ?_)))
 clear hK5;try clear K5
 refine aU fun K7 hK7=> ?_
 refine aN (σ':=aE 93 [(2,_),(3,_),(4,_),(8,_),(9,_),(14,_),(15,_),(16,_),(17,_),(18,_)] [((4,9),_),((8,0),_),((9,0),_),((14,0),_),((15,0),_),((16,0),_),((17,0),_),((22,0),_),((18,0),_),((42,0),_)] [(4,9),(42,0)] [(4,9)]) kp ?_
 refine an (ai (az _ aa rfl rfl rfl rfl) (ai (bY aa [((1,9),(22,0))] ar (hnv) ob tr tr rfl rfl ae ae) ?_))
 refine bb rfl rfl rfl (bG rfl rfl rfl rfl rfl rfl (aJ (hK7 _ ?_)))
 clear hK7;try clear K7
 refine aq ?_
 refine aN (σ':=aE 93 [(2,_),(3,_),(4,_),(8,_),(9,_),(14,_),(15,_),(16,_),(17,_),(18,_)] [((4,9),_),((8,0),_),((9,0),_),((14,0),_),((15,0),_),((16,0),_),((17,0),_),((22,0),_),((18,0),_),((42,0),_)] [(4,9),(42,0)] [(4,9)]) kp ?_
 refine xt (14,0) (fun c=> ∃ xs,c=Slot.obj (.box 132 xs)) 11 [48,49,50,51,52,53,54,55,56] [(14,0),(14,0)] ae ae rfl (rfl:_=[_,_,_,_,_,_,_,_,_,_,_]) (rfl:_=[_,_]) (⟨_,rfl⟩) ?_
 refine eB (_,[]) (fun τ hτ=> aH _ ek) ?_
 refine ey (rfl:_=[_]) ?_
 refine eB (_,[]) (fun τ hτ=> aH _ ek) ?_
 refine ey (rfl:_=[_,_]) ?_
 refine eB (_,[]) (fun τ hτ=> aA _ aa rfl rfl rfl) ?_
 refine ey (rfl:_=[_,_,_]) ?_
 refine eB (_,[]) (fun τ hτ=> aF _ aa rfl rfl ei) ?_
 refine ey (rfl:_=[_,_,_,_]) ?_
 refine eB (_,[]) (fun τ hτ=> aA _ aa rfl (by exact hτ.choose_spec) rfl) ?_
 refine ey (rfl:_=[_,_,_,_,_]) ?_
 refine eB (_,[]) (fun τ hτ=> cZ _ _ aa rfl (by exact hτ.choose_spec) rfl 0 rfl ab rfl) ?_
 refine ey (rfl:_=[_,_,_,_,_,_]) ?_
 refine eB (_,[((14,0),_)]) (fun τ hτ=> dF _ _ aa rfl rfl rfl rfl (Nat.le_of_ble_eq_true rfl) rfl) ?_
 refine ey (rfl:_=[_,_,_,_,_,_,_]) ?_
 refine eB (_,[]) (fun τ hτ=> aA _ aa rfl (by exact hτ.choose_spec) rfl) ?_
 refine ey (rfl:_=[_,_,_,_,_,_,_,_]) ?_
 refine eB (_,[]) (fun τ hτ=> cZ _ _ aa rfl rfl rfl 1 rfl ab rfl) ?_
 refine ey (rfl:_=[_,_,_,_,_,_,_,_,_]) ?_
 refine eB (_,[((14,0),_)]) (fun τ hτ=> dF _ _ aa rfl rfl rfl rfl (Nat.le_of_ble_eq_true rfl) rfl) ?_
 refine ey (rfl:_=[_,_,_,_,_,_,_,_,_,_]) ?_
 refine eB (_,[]) (fun τ hτ=> aA _ aa rfl (by exact hτ.choose_spec) rfl) ?_
 refine ey (rfl:_=[_,_,_,_,_,_,_,_,_,_,_]) ?_
 refine vc ⟨⟨⟨rfl,by kernel_rfl,by kernel_rfl⟩,(by intro r hr c hc;simp only [List.mem_cons,List.not_mem_nil,or_false] at hr;rcases hr with rfl | rfl | rfl | rfl | rfl | rfl | rfl | rfl | rfl | rfl | rfl <;> simp at hc <;> (subst hc;exact ⟨_,rfl⟩))⟩,?_⟩
 refine ai (cZ _ _ aa rfl rfl rfl 2 rfl ab rfl) ?_
 refine bG rfl rfl rfl rfl rfl rfl (aj (aU fun K9 hK9=> ?_))
 refine an (ai (az _ aa rfl rfl rfl rfl) (aX rfl (ai (az _ aa rfl rfl rfl rfl) (ai (jI _ _ (rfl:_=[]) (rfl:_=[AV.ptr _ _])) ?_))))
 refine cA (Le.trans (Le.incT (62,1) rfl) (Le.incT (62,0) rfl)) ?_
 refine ai (bj aa [((5,9),(42,0)),((6,9),(15,0)),((2,8),(62,0)),((5,8),(62,1))] ar (hv) ob tr tr rfl ae ae) ?_
 refine bb rfl rfl rfl (bG rfl rfl rfl rfl rfl rfl (aJ (hK9 _ ?_)))
 clear hK9;try clear K9
 refine aq ?_
 refine aN (σ':=aE 93 [(2,_),(8,_),(9,_),(16,_),(17,_),(18,_)] [((8,0),_),((9,0),_),((16,0),_),((17,0),_),((22,0),_),((18,0),_),((62,0),_),((4,9),_),((62,1),_)] [(4,9),(62,0),(62,1)] [(4,9)]) kp ?_
 refine an (aX rfl (bb rfl rfl rfl (ai (cZ _ _ aa rfl rfl rfl h rfl ab (show 8+h*1=8+h from by omega)) ?_)))
 refine ai (aF _ aa rfl rfl (nW _ _ _ _ _ _ _ _ _ _ h ab)) ?_
 refine ai (aZ _ _ rfl rfl (bF ab)) ?_
 refine bb rfl rfl rfl (ai (cZ _ _ aa rfl rfl rfl h rfl ab (show 8+h*1=8+h from by omega)) ?_)
 refine ai (dF _ _ aa rfl rfl rfl rfl (by show (8+h)+1≤52;omega) ((sX s.up s.ver s.epoch (s.clock+1+tk) _ _ _ _ (cQ s) s.wait h ab _).trans (congrArg (fun e=> IF s.up s.ver s.epoch (s.clock+1+tk) _ _ _ _ e s.wait) hce))) ?_
 refine aj (am (bb rfl rfl rfl (bb rfl rfl rfl (fb rfl rfl rfl (bb rfl rfl rfl (cf rfl rfl rfl (ai (kT _ _ _ aa rfl P.d R.vars.length (.lit rfl rfl) .dflt hd (Nat.le_refl _) hds hdl) ?_)))))))
 refine ai (aI aa al (hcl) rfl rfl) ?_
 refine bb rfl rfl rfl (bG rfl rfl rfl rfl rfl rfl (aj (aU fun K12 hK12=> ?_)))
 refine aq ?_
 refine aN (σ':=aE 93 [(8,_),(16,_),(17,_),(18,_)] [((8,0),_),((16,0),_),((17,0),_),((22,0),_),((18,0),_),((62,0),_),((4,9),_),((62,1),_)] [(4,9),(62,0),(62,1)] [(4,9)]) kp ?_
 refine an (bb rfl rfl rfl (bb rfl rfl rfl (ai (aF _ aa rfl rfl eT) (ai (dg _ aa rfl rfl) (aX rfl (aj (ay ?_)))))))
 refine aN (Le.incA (22,0)) ?_
 refine aN (Le.incT (63,0) rfl) ?_
 refine aN (Le.incT (64,0) rfl) ?_
 refine aN (Le.nilB (18,0) 3 (63,0) 117 9 rfl rfl rfl) ?_
 refine aN (Le.nilB (18,0) 6 (64,0) 3 1 rfl rfl rfl) ?_
 refine bu (α:=Nat) (fun k=> k≤R.acts.length) 93 [(8,_),(16,_),(17,_),(18,_),(81,_),(82,_)] [((16,0),_),((17,0),_),((62,0),_),((4,9),_)] (fun k=> [(83, .v (.int .i64 (k:Int)))]) (fun k=> [((8,0), .box 83 [.v (.bool (cT s h (s.clock+1+tk) P R k).1.up), .v (.int .i64 ((cT s h (s.clock+1+tk) P R k).1.ver)), .v (.int .i64 ((cT s h (s.clock+1+tk) P R k).1.epoch)), .v (.int .i64 ((cT s h (s.clock+1+tk) P R k).1.clock)), .sl (cT s h (s.clock+1+tk) P R k).1.dk.cells.length (cu (cT s h (s.clock+1+tk) P R k).1.dk.cells), .sl (cT s h (s.clock+1+tk) P R k).1.dk.pend.length (lA (cT s h (s.clock+1+tk) P R k).1.dk.pend), .sl (cT s h (s.clock+1+tk) P R k).1.vol.length (cu (cT s h (s.clock+1+tk) P R k).1.vol), .ref (22,0) 0 (cT s h (s.clock+1+tk) P R k).1.timers.length, .v (.int .i64 (cQ (cT s h (s.clock+1+tk) P R k).1 0)), .v (.int .i64 (cQ (cT s h (s.clock+1+tk) P R k).1 1)), .v (.int .i64 (cQ (cT s h (s.clock+1+tk) P R k).1 2)), .v (.int .i64 (cQ (cT s h (s.clock+1+tk) P R k).1 3)), .v (.int .i64 (cQ (cT s h (s.clock+1+tk) P R k).1 4)), .v (.int .i64 (cQ (cT s h (s.clock+1+tk) P R k).1 5)), .v (.int .i64 (cQ (cT s h (s.clock+1+tk) P R k).1 6)), .v (.int .i64 (cQ (cT s h (s.clock+1+tk) P R k).1 7)), .v (.int .i64 (cQ (cT s h (s.clock+1+tk) P R k).1 8)), .v (.int .i64 (cQ (cT s h (s.clock+1+tk) P R k).1 9)), .v (.int .i64 (cQ (cT s h (s.clock+1+tk) P R k).1 10)), .v (.int .i64 (cQ (cT s h (s.clock+1+tk) P R k).1 11)), .v (.int .i64 (cQ (cT s h (s.clock+1+tk) P R k).1 12)), .v (.int .i64 (cQ (cT s h (s.clock+1+tk) P R k).1 13)), .v (.int .i64 (cQ (cT s h (s.clock+1+tk) P R k).1 14)), .v (.int .i64 (cQ (cT s h (s.clock+1+tk) P R k).1 15)), .v (.int .i64 (cQ (cT s h (s.clock+1+tk) P R k).1 16)), .v (.int .i64 (cQ (cT s h (s.clock+1+tk) P R k).1 17)), .v (.int .i64 (cQ (cT s h (s.clock+1+tk) P R k).1 18)), .v (.int .i64 (cQ (cT s h (s.clock+1+tk) P R k).1 19)), .v (.int .i64 (cQ (cT s h (s.clock+1+tk) P R k).1 20)), .v (.int .i64 (cQ (cT s h (s.clock+1+tk) P R k).1 21)), .v (.int .i64 (cQ (cT s h (s.clock+1+tk) P R k).1 22)), .v (.int .i64 (cQ (cT s h (s.clock+1+tk) P R k).1 23)), .v (.int .i64 (cQ (cT s h (s.clock+1+tk) P R k).1 24)), .v (.int .i64 (cQ (cT s h (s.clock+1+tk) P R k).1 25)), .v (.int .i64 (cQ (cT s h (s.clock+1+tk) P R k).1 26)), .v (.int .i64 (cQ (cT s h (s.clock+1+tk) P R k).1 27)), .v (.int .i64 (cQ (cT s h (s.clock+1+tk) P R k).1 28)), .v (.int .i64 (cQ (cT s h (s.clock+1+tk) P R k).1 29)), .v (.int .i64 (cQ (cT s h (s.clock+1+tk) P R k).1 30)), .v (.int .i64 (cQ (cT s h (s.clock+1+tk) P R k).1 31)), .v (.int .i64 (cQ (cT s h (s.clock+1+tk) P R k).1 32)), .v (.int .i64 (cQ (cT s h (s.clock+1+tk) P R k).1 33)), .v (.int .i64 (cQ (cT s h (s.clock+1+tk) P R k).1 34)), .v (.int .i64 (cQ (cT s h (s.clock+1+tk) P R k).1 35)), .v (.int .i64 (cQ (cT s h (s.clock+1+tk) P R k).1 36)), .v (.int .i64 (cQ (cT s h (s.clock+1+tk) P R k).1 37)), .v (.int .i64 (cQ (cT s h (s.clock+1+tk) P R k).1 38)), .v (.int .i64 (cQ (cT s h (s.clock+1+tk) P R k).1 39)), .v (.int .i64 (cQ (cT s h (s.clock+1+tk) P R k).1 40)), .v (.int .i64 ((cT s h (s.clock+1+tk) P R k).1.wait)), .v (.int .i64 (0)), .v (.int .i64 (0))]),((22,0), .row 3 1 (cu (cT s h (s.clock+1+tk) P R k).1.timers)),((18,0), .box 96 [.v (.int .i64 (self)), .v (.int .i64 (h:Int)), .v (.int .i64 (s.counts.getD h 0)), .ref (63,0) 0 (cT s h (s.clock+1+tk) P R k).2.sent.length, .v (.bool (cT s h (s.clock+1+tk) P R k).2.repl), .v (.int .i64 ((cT s h (s.clock+1+tk) P R k).2.value)), .ref (64,0) 0 (cT s h (s.clock+1+tk) P R k).2.fails.length, .sl R.vars.length (cu R.vars), .ref (62,0) 0 R.acts.length, .v (.int .i64 ((R.steps:Int))), .v (.bool (!R.fin)), .sl (fw (kD R.cov)).length (cu (fw (kD R.cov)))]),((63,0), .row 117 9 (AM ⟨self,(h:Int),s.counts.getD h 0⟩ (cT s h (s.clock+1+tk) P R k).2.sent)),((64,0), .row 3 1 (cu (cT s h (s.clock+1+tk) P R k).2.fails)),((62,1), .row 111 7 (vu t 2 0 (drift+1) tk++Q))]) [(4,9),(62,0),(62,1),(22,0),(63,0),(64,0)] [(4,9)] (fun k=> R.acts.length - k) 0 ?_ (by
  refine Le.mkJ [] [] rfl ?_ ?_ trivial tr ?_
  ·exact ⟨(iP rfl),(iP rfl),(iP rfl),(iP rfl),(iR rfl),(iV rfl),(cr ag),trivial⟩
  ·exact ⟨(cm rfl rfl rfl),(cm rfl rfl rfl),(cm rfl rfl rfl),(cm rfl rfl rfl),(fi rfl rfl rfl rfl lz),(fg rfl rfl rfl ag),(fi rfl rfl rfl rfl lz),(fg rfl rfl rfl ag),(fg rfl rfl rfl ag),(fg rfl rfl rfl ag),trivial⟩
  kernel_rfl) ?_
 ·omega
 intro k hk
 refine am (ai (bn _ _ rfl rfl rfl) (aj (aU fun K15 hK15=> ?_)))
 refine aR rfl (fun hc84=> ?_) (fun hc84=> ?_)
 ·skip
  have ha:=hq k ab
  have hga:=um R.acts k ab
  refine br (hK15 _ ?_)
  clear hK15;try clear K15
  refine aq (ay (am (ai (gC _ _ aa rfl rfl rfl _ rfl ab (by exact Nat.zero_add _)) ?_)))
  refine ai (wW _ aa rfl rfl (by exact hga) rfl) ?_
  refine ai (aD (20,0) aa rfl rfl) (bG rfl rfl rfl rfl rfl rfl (aj (an (ai (az _ aa rfl rfl rfl rfl) (ai (az _ aa rfl rfl rfl rfl) (cA (Le.trans (Le.incT (89,2) rfl) (Le.trans (Le.incT (89,1) rfl) (Le.incT (89,0) rfl))) ?_))))))
  refine ai (bj aa [((1,9),(22,0)),((2,9),(18,0)),((3,9),(63,0)),((4,9),(64,0)),((5,9),(62,0)),((1,8),(89,0)),((3,8),(89,1)),((4,8),(89,2))] ar (ha) ob tr tr rfl ae ae) ?_
  refine bG rfl rfl rfl rfl rfl rfl (dY (an (ai (aZ _ _ rfl rfl (bF ab)) ?_)))
  refine aX rfl (aJ (⟨k+1,?_,?_,?_⟩))
  ·omega
  ·skip
   refine Le.mkJ [((22,0),(89,0)),((63,0),(89,1)),((64,0),(89,2))] [] rfl ?_ ?_ trivial tr ?_
   ·exact ⟨(dH (id:=(8,0)) rfl),(dH (id:=(16,0)) rfl),(dH (id:=(17,0)) rfl),(dH (id:=(18,0)) rfl),(cP (id:=(62,0)) rfl rfl),(by repeat' (exact Lv.v)),(cr ag),trivial⟩
   ·exact ⟨(fi rfl rfl rfl rfl (by repeat' (first | exact Lv.v | exact bg | refine au ?_ ?_))),(fi rfl rfl rfl rfl (by repeat' (first | exact Lv.v | exact bg | refine au ?_ ?_))),(fg rfl rfl rfl rfl),(fi rfl rfl rfl rfl (by repeat' (first | exact Lv.v | exact Lv.sl | exact cP (id:=(62,1)) rfl rfl | exact bg | refine au ?_ ?_))),(fi rfl rfl rfl rfl lz),(fg rfl rfl rfl ag),(fi rfl rfl rfl rfl lz),(fg rfl rfl rfl ag),(fg rfl rfl rfl ag),(fg rfl rfl rfl ag),trivial⟩
   kernel_rfl
  omega
 obtain rfl:k=R.acts.length:=by omega
 refine bD (id (hK12 _ ?_))
 clear hK12;try clear K12
 refine aq (hU 3 [91,92] [(16,0)] [[(16,0)],[],[]] ae ae rfl (aK rfl) (rfl:_=[_,_,_]) (rfl:_=[_]) ?_)
 refine ap (_,[]) (fun τ=> az _ aa rfl rfl rfl rfl) ?_
 refine fB rfl ?_
 refine ap (_,[]) (fun τ=> az _ aa rfl rfl rfl rfl) ?_
 refine fH rfl ?_
 refine ap (_,[((16,0),_)]) (fun τ=> dF _ _ aa rfl (eJ rfl (by exact dP) rfl) rfl rfl (Nat.le_of_ble_eq_true rfl) rfl) ?_
 refine fQ rfl (bl ⟨⟨rfl,by kernel_rfl⟩,?_⟩)
 exact bG rfl rfl rfl rfl rfl rfl (aj (aG (jT (.inr rfl) rfl (.cellA aa rfl rfl rfl) (.cellA aa rfl rfl rfl) (Le.outI [((1,8),(22,0)),((2,8),(62,0)),((3,8),(63,0)),((6,8),(64,0)),((5,8),(62,1))] [] (.tup rfl lz) rfl rfl rfl trivial ob tr rfl))))

abbrev iU (c:Cz) (R:Ms) (q:Ns×Nr) (t:Tl) (n:Nat) (L:List PV):St:=bc (.tup [.agg (GD q.1 (.ref (1,8) 0 q.1.timers.length)), .agg (Kv c q.2 (Hh R) (3,8) (6,8) (2,8))]) (Lk c R q t n L) [(1,8),(2,8),(3,8),(4,9),(5,8),(6,8)] [(4,9)]
set_option maxHeartbeats 4000000 in
theorem Ri (s:Ns) (hs:jU s) (ho:jz s.dk) (P:Pg) (ver self nodes drift:Int) (t:Tl) (n0:Nat) (L0:List PV) (hd:s.dk.cells.length=P.d) (hpd:P.d≤1000) (hpv:P.v≤1000)
  (c:Cz) (R:Ms) (q:Ns×Nr) (n:Nat) (L:List PV) (hH:Spec Tryz.prog 81 (aY [jS (cI s P ver),ii P, .v (.int .i64 ((0:Nat):Int)), .v (.int .i64 self), .v (.int .i64 nodes), .v (.int .i64 drift),Dz (List.replicate 9 0),jA] (pv t n0 L0 (5,9))) (iU c R q t n L)):
  Spec Tryz.prog 56 (aY [jS s,ii P, .v (.int .i64 ver), .v (.int .i64 self), .v (.int .i64 nodes), .v (.int .i64 drift),jA] (pv t n0 L0 (5,9))) (iU c R q t n L):=by
 have hown:=ko s hs
 have hcc:=hs.c
 have hpp:=hs.p
 have hb:cI s P ver={ s with ver:=ver,vol:=List.replicate P.v 0,timers:=[],wait:= -1,up:=true }:=by unfold cI;rw [if_pos hd]
 rw [hb] at hH
 refine Spec.ofNI Tryz.func56 rfl Tryz.ntmps56 rfl ?_
 refine am (ai (aQ (7,0) _ rfl rfl) (ai (aQ (8,0) _ rfl rfl) (ai (aD (14,0) aa rfl rfl) (ai (aD (15,0) aa rfl rfl) (aj (am (ai (az _ aa rfl rfl rfl rfl) (ai (bY aa [((1,8),(17,0))] ar (hown.toI) trivial tr tr rfl rfl ae ae) ?_))))))))
 refine bG rfl rfl rfl rfl rfl rfl (aj (am (aX rfl (bb rfl rfl rfl (bG rfl rfl rfl rfl rfl rfl (aj (aq (am (bb rfl rfl rfl (bb rfl rfl rfl ?_))))))))))
 refine fb rfl rfl rfl (ai (bp _ aa rfl) (bb rfl rfl rfl (cf rfl rfl rfl (ai (bT (r:=false) _ _ rfl rfl (by rw [hd];exact bne_self_eq_false _)) ?_))))
 refine aj (aW rfl rfl (aS (aq ?_)))
 refine aN (σ':=aE 50 [(3,_),(4,_),(5,_),(6,_),(7,_),(8,_),(14,_),(15,_)] [((4,9),_),((5,9),_),((7,0),_),((8,0),_),((14,0),_),((15,0),_),((17,0),_)] [(4,9),(5,9)] [(4,9)]) kp ?_
 refine an (bb rfl rfl rfl (cf rfl rfl rfl (ai (pX (35,0) _ _ aa rfl rfl (List.replicate P.v (0:Int)).length (by rw [List.length_replicate]) (by rw [List.length_replicate]) (by rw [List.length_replicate];omega) rfl (show _=cu (List.replicate P.v 0) by rw [List.length_replicate];exact ow P.v)) ?_)))
 refine bb rfl rfl rfl (bG rfl rfl rfl rfl rfl rfl (bb rfl rfl rfl (bG rfl rfl rfl rfl rfl rfl (bb rfl rfl rfl (bG rfl rfl rfl rfl rfl rfl (bb rfl rfl rfl (bG rfl rfl rfl rfl rfl rfl (aj (aU fun K7 hK7=> ?_)))))))))
 refine aN (Le.frzB (ys:=cu (List.replicate P.v 0)) (7,0) 6 rfl rfl rfl rfl (by rw [List.drop_zero,Nat.mul_one,List.take_of_length_le (by rw [aL];exact Nat.le_refl _)]) (by rw [aL,Nat.mul_one,Nat.zero_add];exact Nat.le_refl _)) ?_
 refine an (ai (az _ aa rfl rfl rfl rfl) (ai (az _ aa rfl rfl rfl rfl) (aX rfl (aX rfl (aX rfl (ai (aM _ aa rfl (by exact Cl)) ?_))))))
 refine ai (aH _ ls) (cA (Le.trans (Le.incT (47,4) rfl) (Le.trans (Le.incT (47,3) rfl) (Le.trans (Le.incT (47,2) rfl) (Le.trans (Le.incT (47,1) rfl) (Le.incT (47,0) rfl))))) ?_)
 refine ai (bj aa [((1,8),(47,0)),((2,8),(47,1)),((3,8),(47,2)),((6,8),(47,3)),((5,8),(47,4))] ar (hH) ob tr tr rfl ae ae) ?_
 refine ai (cq _ rfl pE) (ai (cq _ rfl pE) (bG rfl rfl rfl rfl rfl rfl (bG rfl rfl rfl rfl rfl rfl (aJ (hK7 _ ?_)))))
 clear hK7;try clear K7
 exact aG (jT (.inr rfl) rfl (.cellA aa rfl rfl rfl) (.cellA aa rfl rfl rfl) (Le.outI [((1,8),(47,0)),((2,8),(47,1)),((3,8),(47,2)),((6,8),(47,3)),((5,8),(47,4))] [] (.tup rfl lz) rfl rfl rfl trivial ob tr rfl))
set_option maxHeartbeats 4000000 in
theorem Qe (s:Ns) (hs:jU s) (ho:jz s.dk) (P:Pg) (ver self nodes drift:Int) (t:Tl) (n0:Nat) (L0:List PV) (hd:s.dk.cells.length≠P.d) (hpd:P.d≤1000) (hpv:P.v≤1000)
  (c:Cz) (R:Ms) (q:Ns×Nr) (n:Nat) (L:List PV) (hH:Spec Tryz.prog 81 (aY [jS (cI s P ver),ii P, .v (.int .i64 ((0:Nat):Int)), .v (.int .i64 self), .v (.int .i64 nodes), .v (.int .i64 drift),Dz (List.replicate 9 0),jA] (pv t n0 L0 (5,9))) (iU c R q t n L)):
  Spec Tryz.prog 56 (aY [jS s,ii P, .v (.int .i64 ver), .v (.int .i64 self), .v (.int .i64 nodes), .v (.int .i64 drift),jA] (pv t n0 L0 (5,9))) (iU c R q t n L):=by
 have hown:=ko s hs
 have hcc:=hs.c
 have hpp:=hs.p
 have hb:cI s P ver={ s with ver:=ver,dk:=s.dk.resize P.d,vol:=List.replicate P.v 0,timers:=[],wait:= -1,up:=true }:=by unfold cI;rw [if_neg hd]
 rw [hb] at hH
 have hrz:=sB s.dk P.d ab ab ab ho
 refine Spec.ofNI Tryz.func56 rfl Tryz.ntmps56 rfl ?_
 refine am (ai (aQ (7,0) _ rfl rfl) (ai (aQ (8,0) _ rfl rfl) (ai (aD (14,0) aa rfl rfl) (ai (aD (15,0) aa rfl rfl) (aj (am (ai (az _ aa rfl rfl rfl rfl) (ai (bY aa [((1,8),(17,0))] ar (hown.toI) trivial tr tr rfl rfl ae ae) ?_))))))))
 refine bG rfl rfl rfl rfl rfl rfl (aj (am (aX rfl (bb rfl rfl rfl (bG rfl rfl rfl rfl rfl rfl (aj (aq (am (bb rfl rfl rfl (bb rfl rfl rfl ?_))))))))))
 refine fb rfl rfl rfl (ai (bp _ aa rfl) (bb rfl rfl rfl (cf rfl rfl rfl (ai (bT (r:=true) _ _ rfl rfl (bne_iff_ne.2 fun h=> hd (Int.ofNat_inj.1 h))) ?_))))
 refine aj (bL rfl rfl ?_)
 refine aN (σ':=aE 50 [(3,_),(4,_),(5,_),(6,_),(7,_),(8,_),(14,_),(15,_)] [((4,9),_),((5,9),_),((7,0),_),((8,0),_),((14,0),_),((15,0),_),((17,0),_)] [(4,9),(5,9)] [(4,9)]) kp ?_
 refine an (bb rfl rfl rfl (ai (az _ aa rfl rfl rfl rfl) (bb rfl rfl rfl (cf rfl rfl rfl (ai (aI aa al (hrz) rfl rfl) ?_)))))
 refine bb rfl rfl rfl (bG rfl rfl rfl rfl rfl rfl (aj (am (bb rfl rfl rfl (cf rfl rfl rfl (ai (pX (35,0) _ _ aa rfl rfl (List.replicate P.v (0:Int)).length (by rw [List.length_replicate]) (by rw [List.length_replicate]) (by rw [List.length_replicate];omega) rfl (show _=cu (List.replicate P.v 0) by rw [List.length_replicate];exact ow P.v)) ?_))))))
 refine bb rfl rfl rfl (bG rfl rfl rfl rfl rfl rfl (bb rfl rfl rfl (bG rfl rfl rfl rfl rfl rfl (bb rfl rfl rfl (bG rfl rfl rfl rfl rfl rfl (bb rfl rfl rfl (bG rfl rfl rfl rfl rfl rfl (aj (aU fun K7 hK7=> ?_)))))))))
 refine aN (Le.frzB (ys:=cu (List.replicate P.v 0)) (7,0) 6 rfl rfl rfl rfl (by rw [List.drop_zero,Nat.mul_one,List.take_of_length_le (by rw [aL];exact Nat.le_refl _)]) (by rw [aL,Nat.mul_one,Nat.zero_add];exact Nat.le_refl _)) ?_
 refine an (ai (az _ aa rfl rfl rfl rfl) (ai (az _ aa rfl rfl rfl rfl) (aX rfl (aX rfl (aX rfl (ai (aM _ aa rfl (by exact Cl)) ?_))))))
 refine ai (aH _ ls) (cA (Le.trans (Le.incT (47,4) rfl) (Le.trans (Le.incT (47,3) rfl) (Le.trans (Le.incT (47,2) rfl) (Le.trans (Le.incT (47,1) rfl) (Le.incT (47,0) rfl))))) ?_)
 refine ai (bj aa [((1,8),(47,0)),((2,8),(47,1)),((3,8),(47,2)),((6,8),(47,3)),((5,8),(47,4))] ar (hH) ob tr tr rfl ae ae) ?_
 refine ai (cq _ rfl pE) (ai (cq _ rfl pE) (bG rfl rfl rfl rfl rfl rfl (bG rfl rfl rfl rfl rfl rfl (aJ (hK7 _ ?_)))))
 clear hK7;try clear K7
 exact aG (jT (.inr rfl) rfl (.cellA aa rfl rfl rfl) (.cellA aa rfl rfl rfl) (Le.outI [((1,8),(47,0)),((2,8),(47,1)),((3,8),(47,2)),((6,8),(47,3)),((5,8),(47,4))] [] (.tup rfl lz) rfl rfl rfl trivial ob tr rfl))

def pU (p:Pg) (h:Nat) (names vars ans:List Int):Ms:=if p.e h < 0 then { vars:=vars,pc:=0,fin:=true } else kX ⟨p.c,p.d,names,ans⟩ 500 (ez vars (p.e h).toNat)
theorem tE (p:Pg) (h:Nat) (names vars ans:List Int):(pU p h names vars ans).acts=(jR p h names vars ans).acts∧(pU p h names vars ans).vars=(jR p h names vars ans).vars∧(pU p h names vars ans).asked=(jR p h names vars ans).asked:=by
 unfold pU jR
 split <;> exact ⟨rfl,rfl,rfl⟩
set_option maxHeartbeats 2000000 in
theorem tI (M:Mk) (h:Nat) (hh:h < 40) (he:M.P.e h < 0) (h1:M.iv.length≤1000) (R:Ms) (hR:R={ vars:=M.iv,pc:=0,fin:=true }):
  Spec Tryz.prog 59 (aY [ii M.P, .v (.int .i64 (h:Int)), .agg [.sl M.iv.length (cu M.iv), .v (.int .i64 (M.nm 0)), .v (.int .i64 (M.nm 1)), .v (.int .i64 (M.nm 2)), .v (.int .i64 (M.nm 3)), .v (.int .i64 (M.nm 4)), .v (.int .i64 (M.nm 5)), .v (.int .i64 (M.nm 6)), .v (.int .i64 (M.nm 7)), .v (.int .i64 (M.nm 8))],vY (6,9)] (JA M [] (5,9))) (bc (.agg [.sl R.vars.length (cu R.vars), .ref (2,8) 0 R.acts.length, .v (.int .i64 (R.steps:Int)), .v (.bool (!R.fin)), .sl (fw (kD R.cov)).length (cu (fw (kD R.cov)))]) (((2,8), .row 57 5 (vB R.acts))::JA M R.asked (5,8)) [(2,8),(4,9),(5,8),(6,9)] [(4,9),(6,9)]):=by
 subst hR
 have hsk:fw (kD [])=[]:=by simp [fw,kD]
 have hcl:=qE M.iv ab
 have hg:=sO M.P.c.length (inl M.P.c) M.P.e (M.P.d:Int) (M.P.v:Int) h hh
 refine Spec.ofNI Tryz.func59 rfl Tryz.ntmps59 rfl ?_
 refine am ?_
 refine ai (aQ (4,0) _ rfl rfl) ?_
 refine ai (aQ (6,0) _ rfl rfl) ?_
 refine ai (aD (8,0) aa rfl rfl) ?_
 refine aj ?_
 refine aq ?_
 refine bK 11 [13,14,15,16,17,18,19,20,21,22,23] [(22,0)] ae ae rfl (aK rfl) (rfl:_=[_,_,_,_,_,_,_,_,_,_,_]) (rfl:_=[_,_,_]) ?_
 refine ap (_,[]) (fun τ=> az _ aa rfl rfl rfl rfl) ?_
 refine fB rfl ?_
 refine ap (_,[]) (fun τ=> az _ aa rfl rfl rfl rfl) ?_
 refine fH rfl ?_
 refine ap (_,[]) (fun τ=> aH _ ls) ?_
 refine fQ rfl ?_
 refine ap (_,[]) (fun τ=> aH _ ek) ?_
 refine fV rfl ?_
 refine ap (_,[]) (fun τ=> aA _ aa rfl rfl rfl) ?_
 refine gd rfl ?_
 refine ap (_,[]) (fun τ=> cZ _ _ aa rfl rfl rfl h rfl ab (by exact congrArg (fun z=> 0+1+z) (Nat.mul_one h))) ?_
 refine gV rfl ?_
 refine ap (_,[]) (fun τ=> aF _ aa rfl rfl (by exact (congrArg (fun z=> (FD M.P.c.length (inl M.P.c) M.P.e (M.P.d:Int) (M.P.v:Int))[z]?) ab).trans hg)) ?_
 refine iG rfl ?_
 refine ap (_,[]) (fun τ=> aA _ aa rfl rfl rfl) ?_
 refine jO rfl ?_
 refine ap (_,[]) (fun τ=> aF _ aa rfl rfl eI) ?_
 refine jW rfl ?_
 refine ap (_,[((22,0),_)]) (fun τ=> (bY aa [((0,8),(22,0))] ar (hcl.toI) trivial tr tr rfl rfl ae ae)) ?_
 refine fE rfl ?_
 refine ap (_,[]) (fun τ=> aM _ aa rfl (by exact (rfl:_=some [AV.ref (22,0) 0 M.iv.length,AV.v (.slice none 0 0),AV.v (.int .i64 0),AV.v (.bool false),AV.v (.slice none 0 0)]))) ?_
 refine gf rfl ?_
 refine bl ⟨rfl,?_⟩
 refine ai (aM _ aa rfl (by exact (rfl:_=some [_,_,_,_,_,_,_,_,_,_,_,_,_,_,_,_,_,_,_,_,_,_,_,_,_,_,_,_,_,_,_,_,_,_,_,_,_,_,_,_,_,_,_,_,_,_,_,_,_,_,_,_,_,_,_,_,_,_,_,_,_,_,_,_]))) ?_
 refine ai (aQ (25,0) _ rfl rfl) ?_
 refine vM rfl ?_
 refine aj ?_
 refine aq ?_
 refine aq ?_
 refine aN (σ':=aE 108 [(4,_),(8,_),(9,_)] [((4,9),_),((5,9),_),((6,9),_),((4,0),_),((8,0),_),((22,0),_),((25,0),_)] [(4,9),(5,9),(6,9)] [(4,9),(6,9)]) kp ?_
 refine an ?_
 refine bS rfl ?_
 refine ai (aT _ rfl rfl) ?_
 refine bb rfl rfl rfl ?_
 refine cf rfl rfl rfl ?_
 refine ai (bn (r:=true) _ _ rfl rfl (decide_eq_true he)) ?_
 refine aj ?_
 refine bL rfl rfl ?_
 refine aq ?_
 refine aN (Le.trans (Le.nilB (25,0) 55 (61,0) 57 5 rfl rfl rfl) (Le.incT (61,0) rfl)) ?_
 refine an ?_
 refine bS rfl ?_
 refine ai (aT _ rfl rfl) ?_
 refine bb rfl rfl rfl ?_
 refine ai (az _ aa rfl rfl rfl rfl) ?_
 refine bG rfl rfl rfl rfl rfl rfl ?_
 refine aj ?_
 refine aG ?_
 exact bI (.inr rfl) rfl (.cellA aa rfl rfl rfl) (Le.outI [((5,8),(5,9)),((2,8),(61,0))] [(22,0)] (.agg rfl (au (fe rfl rfl (by simp) rfl) (au (cP rfl rfl) (au .v (au .v (au (by show Lv _ _ _ (.sl (fw (kD [])).length (cu (fw (kD [])))) _;rw [hsk];exact .nil) bg)))))) rfl rfl rfl tr ob tr rfl)

theorem tP (s:Ns) (h:Nat) (ck:Int) (P:Pg) (R:Ms) {k:Nat} (hk:k < R.acts.length):cT s h ck P R (k+1)=dJ (cT s h ck P R k) (pG R.acts k):=by
 show (R.acts.take (k+1)).foldl dJ _=_
 rw [List.take_add_one,List.foldl_append,List.getElem?_eq_getElem hk,show pG R.acts k=R.acts[k] by simp [pG,hk]]
 rfl
theorem zQ (q:Ns×Nr) (a:Ac):(dJ q a).2.sent.length≤q.2.sent.length+1∧(dJ q a).2.fails.length≤q.2.fails.length+1:=by
 unfold dJ
 split
 ·exact ⟨Nat.le_succ _,Nat.le_succ _⟩
 split
 ·exact ⟨Nat.le_succ _,Nat.le_succ _⟩
 split
 ·exact ⟨Nat.le_succ _,Nat.le_succ _⟩
 split
 ·exact ⟨Nat.le_succ _,Nat.le_succ _⟩
 split
 ·exact ⟨by simp,Nat.le_succ _⟩
 split
 ·split <;> exact ⟨Nat.le_succ _,Nat.le_succ _⟩
 split
 ·exact ⟨Nat.le_succ _,by simp⟩
 exact ⟨Nat.le_succ _,Nat.le_succ _⟩
theorem wP {l:List Ac} {k:Nat} (hk:k < l.length):pG l k∈l:=by
 rw [show pG l k=l[k] by simp [pG,hk]];exact List.getElem_mem hk
structure Pz (P:Pg) (t:Int) (R:Ms) (q:Ns×Nr) (k:Nat):Prop where
 tm:pP t q.1.timers
 dk:DkOk P.d q.1.dk
 vo:q.1.vol=R.vars.drop P.d
 se:q.2.sent.length≤k
 fa:q.2.fails.length≤k
theorem xw {s:Ns} {h:Nat} {ck:Int} {P:Pg} {R:Ms} {t:Int} (ht:0≤t∧t < 8) (hac: ∀ a∈R.acts,wU t a∧Rg a.b) (htl:pP t s.timers) (hdk:DkOk P.d s.dk): ∀ k,k≤R.acts.length→Pz P t R (cT s h ck P R k) k
 | 0,_=> ⟨htl,hdk,rfl,Nat.le_refl _,Nat.le_refl _⟩
 | k+1,hk=> by
  obtain ⟨h1,h2,h3,h4,h5⟩:=xw (ck:=ck) ht hac htl hdk k ab
  obtain ⟨a1,a2⟩:=hac _ (wP (l:=R.acts) (k:=k) ab)
  rw [tP s h ck P R ab]
  obtain ⟨l1,l2⟩:=zQ (cT s h ck P R k) (pG R.acts k)
  exact ⟨ua ht a1 h1,sS h2 a2,(ry _ _).2.2.2.2.1.trans h3,by omega,by omega⟩
theorem JE (c:Cz) {s:Ns} {h:Nat} {ck:Int} {P:Pg} {R:Ms} {t:Int} (ht:0≤t∧t < 8) (hac: ∀ a∈R.acts,wU t a∧Rg a.b) (htl:pP t s.timers) (hdk:DkOk P.d s.dk) (hd:P.d≤1000) (hv:R.vars.length≤1000) (hn:R.acts.length≤500):
  ∀ i,i < R.acts.length→nV c (Hh R) (cT s h ck P R i).1 (cT s h ck P R i).2 (pG R.acts i) (cT s h ck P R (i+1)).1 (cT s h ck P R (i+1)).2:=fun i hi=> by
 obtain ⟨h1,h2,h3,h4,h5⟩:=xw (h:=h) (ck:=ck) ht hac htl hdk i ab
 rw [tP s h ck P R hi]
 have hp:=h2.pn
 refine GY c (Hh R) ht _ _ (hac _ (wP hi)).1 h1 ⟨by rw [h2.len];exact hd,by omega,by rw [h3,List.length_drop];omega,?_⟩ (fun w hw=> ?_) ab ab
 ·rcases h1 with h1 | h1 <;> rw [h1] <;> simp
 obtain ⟨b1,b2,_⟩:=h2.pr w hw
 exact ⟨b1,by rw [h2.len];exact b2⟩
theorem Fa (p:Pg) (h:Nat) (names vars ans:List Int):(pU p h names vars ans).acts.length≤500:=by
 unfold pU
 split
 ·exact Nat.zero_le _
 have h1:=lI (K:=⟨p.c,p.d,names,ans⟩) (I:=Sz) (fun s hs _=> xm hs) 500 (ez vars (p.e h).toNat) ⟨Nat.le_refl _,Nat.le_refl _,Nat.le_refl _⟩
 have h2:=(oF (K:=⟨p.c,p.d,names,ans⟩) 500 (ez vars (p.e h).toNat)).1
 have h3:=h1.ac
 have h4:(ez vars (p.e h).toNat).steps=0:=rfl
 omega
theorem JP (P:Pg) (hp:qc P) (hcl:P.c.length≤1000000) (h:Nat) (hh:h < 40) (nm iv ans:List Int) (hn: ∀ i,Rg (nm.getD i 0)) (hiv:iv.length=P.d+P.v) (hir: ∀ v∈iv,Rg v) (t:Tl) (ht:yf ⟨P,iv,nm,ans,t⟩) (R:Ms) (hR:R=pU P h nm iv ans):
  Spec Tryz.prog 59 (aY [ii P, .v (.int .i64 (h:Int)), .agg [.sl iv.length (cu iv), .v (.int .i64 (nm.getD 0 0)), .v (.int .i64 (nm.getD 1 0)), .v (.int .i64 (nm.getD 2 0)), .v (.int .i64 (nm.getD 3 0)), .v (.int .i64 (nm.getD 4 0)), .v (.int .i64 (nm.getD 5 0)), .v (.int .i64 (nm.getD 6 0)), .v (.int .i64 (nm.getD 7 0)), .v (.int .i64 (nm.getD 8 0))],vY (6,9)] (Dn t t.np t.pre (5,9)))
   (bc (.agg [.sl R.vars.length (cu R.vars), .ref (2,8) 0 R.acts.length, .v (.int .i64 (R.steps:Int)), .v (.bool (!R.fin)), .sl (fw (kD R.cov)).length (cu (fw (kD R.cov)))]) (((2,8), .row 57 5 (vB R.acts))::Dn t (t.np+R.asked.length) (t.pre++sj t ans R.asked) (5,8)) [(2,8),(4,9),(5,8),(6,9)] [(4,9),(6,9)]):=by
 have e0:JA ⟨P,iv,nm,ans,t⟩ [] (5,9)=Dn t t.np t.pre (5,9):=by
  show Dn t (t.np+0) (t.pre++sj t ans []) (5,9)=_
  rw [show sj t ans []=[] from rfl,List.append_nil];rfl
 rw [← e0]
 have hnv:=hp.nv
 by_cases he:P.e h < 0
 ·have hR2:R={ vars:=iv,pc:=0,fin:=true }:=by rw [hR];unfold pU;rw [if_pos he]
  exact tI ⟨P,iv,nm,ans,t⟩ h hh he (by show iv.length≤1000;omega) R hR2
 obtain ⟨D,hg,hE⟩:=hp.ex
 obtain ⟨e1,e2,e3⟩:=(hE h).resolve_left he
 have hR2:R=kX ⟨P.c,P.d,nm,ans⟩ 500 (ez iv (P.e h).toNat):=by rw [hR];unfold pU;rw [if_neg he]
 exact yc ⟨P,iv,nm,ans,t⟩ Jg D (P.d+P.v) ⟨hg,hnv,hn⟩ h hh (P.e h).toNat (by show P.e h=_;omega) (by show _ < P.c.length;omega) e3 hiv hir hcl ht R hR2
end Go.Proofs.YtmjnackchaahbaaGreat
