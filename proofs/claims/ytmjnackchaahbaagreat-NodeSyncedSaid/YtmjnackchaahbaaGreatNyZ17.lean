/- Part 17 of the texts that the walk leans on: the machine, the walks, the plain laws. -/
import Derived.Test.YtmjnackchaahbaaGreatNyZ16
set_option linter.unusedSimpArgs false
set_option linter.unusedVariables false
namespace Go.Proofs.YtmjnackchaahbaaGreat
open Go.RowKit

theorem LI {ρ:aB→aB} {σ:St} {F:aB→Bool} {id:aB} {e:TypeId} {n m:Nat} {xs:List PV} {r:List Int} (hid:σ.ob id= .obj (.row e 1 xs)) (hF:F id=true) (hm:n=m) (hx:xs=cm r) (hn:m=r.length):Lv ρ σ F (.sl m (cm r)) (.ref id 0 n):=by
 subst hm;subst hx
 exact ff hid hF (by rw [aN,Nat.mul_one];exact hn) rfl
def zu (t:Tl) (ks:List Int) (m:Nat):List PV:=(List.range m).flatMap fun (i:Nat)=> vB t 3 (i:Int) 2 (ks.getD i 0)
theorem zZ (t:Tl) (ks:List Int) (m:Nat):zu t ks m++vB t 3 (m:Int) 2 (ks.getD m 0)=zu t ks (m+1):=by
 unfold zu;rw [List.range_succ,List.flatMap_append];simp
theorem FI (t:Tl) (ks:List Int) (m:Nat):(zu t ks m).length=m*7:=by
 unfold zu
 rw [iG (fun (i:Nat)=> vB t 3 (i:Int) 2 (ks.getD i 0)) 7 (fun _=> rfl),List.length_range]
theorem vL (k:Nat) (ks:List Int):keepB (k+1) ks=keepB k ks++[decide (ks.getD k 0=1)]:=by unfold keepB;rw [List.range_succ,List.map_append];rfl
theorem kh (k:Nat) (ks:List Int):(keepB k ks).length=k:=by simp [keepB]
theorem wB (l:List Bool) (x:Bool):Ar l++[.v (.bool x)]=Ar (l++[x]):=by simp [Ar]
theorem te (s:Ns) (h:Nat) (hh:h < s.counts.length) (x:Int):lj (cO s) h x=fun k=> (s.counts.set h x).getD k 0:=by
 funext k
 unfold lj
 by_cases e:k=h
 ·subst e;rw [if_pos rfl,List.getD_eq_getElem?_getD,List.getElem?_set_self hh];rfl
 rw [if_neg e,List.getD_eq_getElem?_getD,List.getElem?_set_ne (Ne.symm e),← List.getD_eq_getElem?_getD]
set_option maxHeartbeats 2000000 in
theorem lB (s:Ns) (hs:jI s) (ho:ji s.dk) (hc:s.counts.length=41) (hcb: -1000000≤s.counts.getD 40 0∧s.counts.getD 40 0≤1000000) (hep: -1000000≤s.epoch∧s.epoch≤1000000)
  (t:Tl) (n:Nat) (L:List PV) (hL:L.length=n*7) (hn:n≤1000) (ks:List Int) (hlk: ∀ i:Nat,i < s.dk.pend.length→sW t 3 (i:Int) 2 (ks.getD i 0)):
  Spec Tryz.prog 53 (aY [jH s,jl] (oy t n L (5,9))) (bc (jH (gL s (keepB s.dk.pend.length ks))) (oy t (n+s.dk.pend.length) (L++zu t ks s.dk.pend.length) (5,8)) [(4,9),(5,8)] [(4,9)]):=by
 have hown:=kk s hs
 have hp:=hs.p
 have hcc:=hs.c
 have hv:=hs.v
 have hcr:=uE s.dk ab ab ho (keepB s.dk.pend.length ks) (by rw [kh];omega)
 rw [kh] at hcr
 have hce:=te s 40 ab (s.counts.getD 40 0+1)
 have hcb2: -1000000≤cO s 40∧cO s 40≤1000000:=hcb
 have hl1:(s.dk.crash (keepB s.dk.pend.length ks)).cells.length=s.dk.cells.length:=fQ _ _
 refine Spec.ofNI Tryz.func53 rfl Tryz.ntmps53 rfl ?_
 refine am (ai (aR (2,0) _ rfl rfl) (ai (aC (4,0) aa rfl rfl) (aj (am (ai (az _ aa rfl rfl rfl rfl) (ai (bS aa [((1,8),(8,0))] ar (hown.toI) trivial tr tr rfl rfl ae ae) ?_))))))
 refine bG rfl rfl rfl rfl rfl rfl (aj (am (ai (bp _ fz) (aj (aU fun K4 hK4=> ?_)))))
 refine am (bb rfl rfl rfl (bb rfl rfl rfl (eV rfl rfl rfl (ai (bn _ aa rfl) (aX rfl (aj (ax ?_)))))))
 refine aM (Le.nilS 5 (60,0) 4 1 rfl rfl) ?_
 refine bq (α:=Nat) (fun k=> k≤s.dk.pend.length) 48 [(1,_),(2,_),(4,_),(12,_)] [((2,0),_),((4,0),_),((8,0),_)] (fun k=> [(5, .ref (60,0) 0 k),(13, .v (.int .i64 (k:Int)))]) (fun k=> [((60,0), .row 4 1 (Ar (keepB k ks))),((4,9), .box 103 [.v (.int .i64 t.c1), .v (.int .i64 t.c2), .v (.int .i64 t.c3), .sl t.na t.A, .ref (5,9) 0 (n+k)]),((5,9), .row 111 7 (L++zu t ks k))]) [(4,9),(5,9)] [(4,9)] (fun k=> s.dk.pend.length - k) 0 ?_ (by
  refine Le.mkJ [] [] rfl ?_ ?_ trivial tr ?_
  ·exact ⟨(iN rfl),(iP rfl),(iP rfl),(iV rfl),(cP rfl ag),(co ag),trivial⟩
  ·exact ⟨(ca rfl rfl rfl),(ca rfl rfl rfl),(ca rfl rfl rfl),(fg rfl rfl rfl ag),(fm rfl rfl rfl rfl lz),(fg rfl rfl rfl (by (simp [zu]))),trivial⟩
  kernel_rfl) ?_
 ·omega
 intro k hk
 refine am (ai (bm _ _ rfl rfl rfl) (aj (aU fun K7 hK7=> ?_)))
 refine aP rfl (fun hc14=> ?_) (fun hc14=> ?_)
 ·skip
  have htl:=oB t 3 (k:Int) 2 (ks.getD k 0) (n+k) (L++zu t ks k) (by rw [List.length_append,hL,FI,Nat.add_mul]) ab ab (hlk k ab)
  rw [List.append_assoc,zZ] at htl
  have hkb:=vL k ks
  refine bs (hK7 _ ?_)
  clear hK7;try clear K7
  refine aq (ax (am (aX rfl (be rfl (aj (an (gG rfl (ai (aI _ lC) (aX rfl (cw (Le.incT (19,0) rfl) ?_))))))))))
  refine ai (jv rfl aa [((5,8),(19,0))] ar (htl) ob tr tr rfl ae ae) ?_
  refine ai (bB (r:=decide (ks.getD k 0=1)) _ _ rfl rfl (by rw [Bool.eq_iff_iff];simp)) ?_
  refine ai (bh _ _ aa rfl ag (by (simp <;> rfl)) ah rfl) ?_
  refine ai (dt (22,0) _ _ aa rfl rfl (by rw [bg,kh,Nat.mul_one]) (.sl rfl) ab rfl ((wB _ _).trans (congrArg Ar hkb.symm)) rfl) ?_
  refine fh rfl (dS (an (ai (aZ _ _ rfl rfl (bE ab)) ?_)))
  refine aX rfl (aJ (⟨k+1,?_,?_,?_⟩))
  ·omega
  ·skip
   refine Le.mkJ [((60,0),(22,0)),((5,9),(19,0))] [] rfl ?_ ?_ trivial tr ?_
   ·exact ⟨(by repeat' (first | exact dI (id:=(4,9)) rfl | refine Lv.fn rfl ?_ rfl ?_ | exact bf | refine au ?_ ?_)),(dI (id:=(2,0)) rfl),(dI (id:=(4,0)) rfl),(by repeat' (exact Lv.v)),(cP rfl ag),(co ag),trivial⟩
   ·exact ⟨(fm rfl rfl rfl rfl (by repeat' (first | exact Lv.v | exact Lv.sl | exact cP (id:=(8,0)) rfl rfl | exact bf | refine au ?_ ?_))),(fm rfl rfl rfl rfl (by repeat' (first | exact Lv.v | exact bf | refine au ?_ ?_))),(fg rfl rfl rfl rfl),(fg rfl rfl rfl ag),(fm rfl rfl rfl rfl lz),(fg rfl rfl rfl ag),trivial⟩
   kernel_rfl
  omega
 obtain rfl:k=s.dk.pend.length:=by omega
 refine bD (id (hK4 _ ?_))
 clear hK4;try clear K4
 refine aq ?_
 refine aM (Le.frzS (ys:=Ar (keepB s.dk.pend.length ks)) 5 dT rfl rfl (by rw [List.drop_zero,Nat.mul_one,List.take_of_length_le (by rw [bg,kh];omega)]) (by rw [bg,kh];omega)) ?_
 refine an (bb rfl rfl rfl (ai (az _ aa rfl rfl rfl rfl) (eW rfl (ai (aH aa al (hcr) rfl rfl) ?_))))
 refine bb rfl rfl rfl (bG rfl rfl rfl rfl rfl rfl (aj (am (bb rfl rfl rfl (ai (cY _ _ aa rfl rfl rfl 40 rfl ab rfl) ?_)))))
 refine cf rfl rfl rfl (ai (aZ _ _ rfl rfl (bE ab)) ?_)
 refine bb rfl rfl rfl (ai (cY _ _ aa rfl rfl rfl 40 rfl ab rfl) ?_)
 refine ai (dE _ _ aa rfl rfl rfl rfl (by show 48+1≤52;omega) ((sR s.up s.ver s.epoch s.clock _ _ _ _ (cO s) s.wait 40 ab _).trans (congrArg (fun e=> IH s.up s.ver s.epoch s.clock _ _ _ _ e s.wait) hce))) ?_
 refine aj (am (bb rfl rfl rfl (cf rfl rfl rfl (ai (aZ _ _ rfl rfl (bE ab)) ?_))))
 refine bb rfl rfl rfl (bG rfl rfl rfl rfl rfl rfl (aj (aq ?_)))
 refine aM (σ':=aD 48 [(2,_),(4,_)] [((2,0),_),((4,0),_),((8,0),_),((4,9),_),((5,9),_)] [(4,9),(5,9)] [(4,9)]) kp ?_
 refine an (bb rfl rfl rfl (eV rfl rfl rfl (ai (bn _ aa rfl) (ai (pQ (42,0) _ _ aa rfl rfl _ rfl rfl ab rfl rfl) ?_))))
 refine bb rfl rfl rfl (bG rfl rfl rfl rfl rfl rfl (bb rfl rfl rfl (bG rfl rfl rfl rfl rfl rfl (bb rfl rfl rfl (bG rfl rfl rfl rfl rfl rfl (bb rfl rfl rfl (bG rfl rfl rfl rfl rfl rfl (aj (am (ai (az _ aa rfl rfl rfl rfl) ?_))))))))))
 exact bG rfl rfl rfl rfl rfl rfl (aj (aG (bI (.inr rfl) rfl (.cellA aa rfl rfl rfl) (Le.outI [((5,8),(5,9))] [(42,0)] (.agg rfl (zt (au (jf rfl rfl) (au (jf rfl rfl) (au (LI rfl rfl (by simp [gL]) (by simp [gL,cm,rep]) rfl) lz))))) rfl rfl rfl tr ob tr rfl))))

theorem xT {P:Program} {σ:St} {o:Oper} {f:FuncId} {avs:List AV} (hE:EntersAt P o σ f avs) {args:List AV} {x y:Value} (sp:Spec P f (ba args []) (aO (.tup [.v x, .v y]) []))
  (ha:gy σ (fun _=> true) avs args) (hp:AV.pures args=true):db P o σ (σ.put o.dst (.tup [.v x, .v y])):=by
 intro K ι S a w R
 obtain ⟨vs,hrun,hvs,hrep⟩:=hE K ι S a w R
 have R1:=R.args ha hp hvs hrep
 refine jS hrun (sp _ _ _ _ w rfl rfl R1) ?_
 rintro e w' ⟨v,ι',S',rfl,R2⟩
 refine ⟨v,rfl,?_⟩
 have hb:Below w.heap.size w w':=⟨R2.keeps.os,R2.keeps.tape,R2.keeps.output,R2.keeps.size,fun g hg=> R2.keeps.block g hg (by simp)⟩
 have R3:=R.gen (ι':=ι) (S':=S) (w':=w') (ob':=σ.ob) (inc':=σ.inc) (fun _=> False) (.of_below hb) (fun _ _=> rfl) (fun _ _=> rfl) (fun _ _=> rfl) (fun _ h=> h) (fun g h=> h)
  (fun g h=> .inl h) (fun g h=> Nat.lt_of_lt_of_le (R.Slt g h) hb.size)
  (fun _ _ h=> h.elim) (fun _ _ h=> h.elim) (fun _ _ h=> h.elim) (fun _ _ _ _ _ h=> h.elim) (fun _ _ _ h=> h.elim) (fun _ _ _ h=> h.elim)
 refine ⟨ι,_,R3.put o.dst (av:= .tup [.v x, .v y]) ?_ fun id hi=> absurd hi (lE _ rfl)⟩
 have:=R2.fr 0 (by simp [aO])
 simp only [aO,Nat.beq_refl,cond_true] at this
 have:=(by simpa using this:Rep ι' S' w' (.tup [.v x, .v y]) v)
 cases this with
 | tup h1 h=>
  refine .tup h1 fun j a hj=> ?_
  have hr:=h j a hj
  match j,hj with
  | 0,hj=> cases hj;rw [hr.toV];exact .v
  | 1,hj=> cases hj;rw [hr.toV];exact .v
theorem oQ {P:Program} {σ:St} {dd:Option Tmp} {ty:TypeId} {f:FuncId} {xs:Array Operand} {ats:Array TypeId} (C:cQ P f) {args:List AV} {x y:Value} (ha:gy σ (fun _=> true) (xs.toList.map σ.eval) args) (sp:Spec P f (ba args []) (aO (.tup [.v x, .v y]) []))
  (hp:AV.pures args=true):Stp P dd (.call { callee:= .value (.func f),args:=xs,argTypes:=ats }) ty σ (σ.put dd (.tup [.v x, .v y])):=fun o hd ho ht=> by subst hd;exact xT (.fnc ho C) sp ha hp
structure Cz where
 a:Int
 b:Int
 c:Int
def Mr (c:Cz) (i:Nat) (x:Ac):List PV:=[.v (.int .i64 c.a), .v (.int .i64 c.b), .v (.int .i64 c.c), .v (.int .i64 (i:Int)), .v (.int .i64 0), .v (.int .i64 x.a), .v (.int .i64 x.b), .v (.int .i64 x.c), .v (.int .i64 x.d)]
def BT (c:Cz) (l:List Ac):List PV:=(List.range l.length).flatMap fun i=> Mr c i (mH l i)
theorem ja (c:Cz) (l:List Ac):(BT c l).length=l.length*9:=by
 unfold BT
 rw [iG (fun i=> Mr c i (mH l i)) 9 (fun _=> rfl),List.length_range]
theorem Cp (c:Cz) (l:List Ac) (x:Ac):BT c l++Mr c l.length x=BT c (l++[x]):=by
 unfold BT
 rw [List.length_append,List.length_singleton,List.range_succ,List.flatMap_append]
 congr 1
 ·unfold List.flatMap
  congr 1
  apply List.map_congr_left
  intro i hi
  have hi:=List.mem_range.1 hi
  have e:mH (l++[x]) i=mH l i:=by unfold mH;rw [List.getD_eq_getElem?_getD,List.getD_eq_getElem?_getD,List.getElem?_append_left hi]
  rw [e]
 have e:mH (l++[x]) l.length=x:=by unfold mH;rw [List.getD_eq_getElem?_getD,List.getElem?_append_right (Nat.le_refl _),Nat.sub_self];rfl
 simp [e]
structure Ot where
 vars:List Int
 acts:List Ac
 steps:Int
 spent:Bool
 cov:List Int
abbrev Kl (c:Cz) (r:Nr) (o:Ot) (se fa ac:aB):List AV:=[.v (.int .i64 c.a), .v (.int .i64 c.b), .v (.int .i64 c.c), .ref se 0 r.sent.length, .v (.bool r.repl), .v (.int .i64 r.value), .ref fa 0 r.fails.length, .sl o.vars.length (cm o.vars), .ref ac 0 o.acts.length, .v (.int .i64 o.steps), .v (.bool o.spent), .sl o.cov.length (cm o.cov)]
abbrev MI (c:Cz) (o:Ot) (s:Ns) (r:Nr) (tm se fa:aB):List (aB×Cells):=[(tm, .row 3 1 (cm s.timers)),((2,9), .box 96 (Kl c r o se fa (5,9))),(se, .row 117 9 (BT c r.sent)),(fa, .row 3 1 (cm r.fails)),((5,9), .row 57 5 (vk o.acts))]
abbrev nN (c:Cz) (o:Ot) (s:Ns) (r:Nr) (a:Ac) (s':Ns) (r':Nr):Prop:=Spec Tryz.prog 114 (aY [.agg (GD s (.ref (1,9) 0 s.timers.length)), .agg [.v (.int .i64 a.k), .v (.int .i64 a.a), .v (.int .i64 a.b), .v (.int .i64 a.c), .v (.int .i64 a.d)], .ptr (2,9) 0] (MI c o s r (1,9) (3,9) (4,9)))
 (bc (.agg (GD s' (.ref (1,8) 0 s'.timers.length))) (MI c o s' r' (1,8) (3,8) (4,8)) [(1,8),(2,9),(3,8),(4,8),(5,9)] [(2,9),(5,9)])
section
variable (c:Cz) (o:Ot) (s:Ns) (r:Nr) (x y z w:Int)
theorem yb (hs:jI s) (ho:ji s.dk):nN c o s r ⟨1,x,y,z,w⟩ { s with dk:=s.dk.write x y } r:=by
 have hc:=hs.c
 have hp:=hs.p
 have hw:=uI s.dk ab ab ho x y
 refine Spec.ofNI Tryz.func114 rfl Tryz.ntmps114 rfl ?_
 refine am (ai (aR (3,0) _ rfl rfl) (ai (aR (4,0) _ rfl rfl) (ai (aC (6,0) aa rfl rfl) (aj (aq (am (bb rfl rfl rfl (cf rfl rfl rfl (aj (ax ?_))))))))))
 refine iE rfl rfl rfl rfl rfl (an (bb rfl rfl rfl (ai (az _ aa rfl rfl rfl rfl) (bb rfl rfl rfl (cf rfl rfl rfl (bb rfl rfl rfl (cf rfl rfl rfl (ai (aH aa al (hw) rfl rfl) ?_))))))))
 refine bb rfl rfl rfl (bG rfl rfl rfl rfl rfl rfl (dS (aq ?_)))
 refine aM (σ':=aD 134 [(3,_),(6,_)] [((1,9),_),((3,0),_),((6,0),_),((2,9),_),((3,9),_),((4,9),_),((5,9),_)] [(1,9),(2,9),(3,9),(4,9),(5,9)] [(2,9),(5,9)]) kp ?_
 exact an (ai (az _ aa rfl rfl rfl rfl) (bG rfl rfl rfl rfl rfl rfl (aj (aG (bI (.inr rfl) rfl (.cellA aa rfl rfl rfl) (Le.outI [((1,8),(1,9)),((3,8),(3,9)),((4,8),(4,9))] [] (.agg rfl lz) rfl rfl rfl trivial ob tr rfl))))))
theorem CV (hs:jI s) (ho:ji s.dk):nN c o s r ⟨2,x,y,z,w⟩ { s with dk:=s.dk.sync } r:=by
 have hc:=hs.c
 have hp:=hs.p
 have hw:=qb s.dk ab ab ho
 refine Spec.ofNI Tryz.func114 rfl Tryz.ntmps114 rfl ?_
 refine am (ai (aR (3,0) _ rfl rfl) (ai (aR (4,0) _ rfl rfl) (ai (aC (6,0) aa rfl rfl) (aj (aq (am (bb rfl rfl rfl (cf rfl rfl rfl (aj (ax ?_))))))))))
 refine cI rfl rfl rfl rfl rfl (iE rfl rfl rfl rfl rfl (an (bb rfl rfl rfl (ai (az _ aa rfl rfl rfl rfl) (ai (aH aa al (hw) rfl rfl) ?_)))))
 exact bb rfl rfl rfl (bG rfl rfl rfl rfl rfl rfl (dS (am (ai (az _ aa rfl rfl rfl rfl) (bG rfl rfl rfl rfl rfl rfl (aj (aG (bI (.inr rfl) rfl (.cellA aa rfl rfl rfl) (Le.outI [((1,8),(1,9)),((3,8),(3,9)),((4,8),(4,9))] [] (.agg rfl lz) rfl rfl rfl trivial ob tr rfl)))))))))
theorem vU (ht:s.timers=[]):nN c o s r ⟨4,x,y,z,w⟩ { s with timers:=[x] } r:=by
 have hb:=kP s.timers x (by rw [ht];exact Nat.zero_le 1)
 have hl4:s.timers.length*1=(cm s.timers).length:=by rw [aN,Nat.mul_one]
 have hi:Spec Tryz.prog 185 (aY [.ref (0,9) 0 s.timers.length, .v (.int .i64 0), .sl 1 (cm [x])] [((0,9), .row 3 1 (cm s.timers))]) (bc (.ref (0,8) 0 1) [((0,8), .row 3 1 (cm [x]))] [(0,8)] []):=by rw [ht];exact sj x
 have hn0:s.timers.length=0:=by rw [ht];rfl
 rw [show (if 0 < s.timers.length∧s.timers.getD 0 0 < x then (1:Int) else 0)=0 by rw [if_neg ab],show decide (0 < s.timers.length∧s.timers.getD 0 0=x)=false from decide_eq_false ab] at hb
 refine Spec.ofNI Tryz.func114 rfl Tryz.ntmps114 rfl ?_
 refine am (ai (aR (3,0) _ rfl rfl) (ai (aR (4,0) _ rfl rfl) (ai (aC (6,0) aa rfl rfl) (aj (aq (am (bb rfl rfl rfl (cf rfl rfl rfl (aj (ax ?_))))))))))
 iterate 2 refine cI rfl rfl rfl rfl rfl ?_
 refine iE rfl rfl rfl rfl rfl (am (bb rfl rfl rfl (ai (aF _ aa rfl rfl eN) (bb rfl rfl rfl (cf rfl rfl rfl (ai (oQ aa (fb (ff rfl rfl hl4 rfl) (fb Lv.v cU)) hb rfl) ?_))))))
 refine ai (aI _ tN) (ai (cq _ rfl eg) (ai (cq _ rfl Cj) (be rfl (cp rfl (aj (aq ?_))))))
 refine aM (σ':=aD 134 [(3,_),(4,_),(6,_),(7,_),(8,_)] [((1,9),_),((3,0),_),((4,0),_),((6,0),_),((2,9),_),((3,9),_),((4,9),_),((5,9),_)] [(1,9),(2,9),(3,9),(4,9),(5,9)] [(2,9),(5,9)]) kp ?_
 refine an (cL rfl (ai (cu (r:=true) _ rfl rfl) (aj (bL rfl rfl (an (bb rfl rfl rfl (ai (aF _ aa rfl rfl eN) (aX rfl (bb rfl rfl rfl (cf rfl rfl rfl ?_))))))))))
 refine ai (bh _ _ aa rfl ag (by simp <;> rfl) ah (by exact (rfl:_=some (cm [x])))) ?_
 refine cw (Le.incT (48,0) rfl) ?_
 refine ai (bi aa [((0,9),(1,9)),((0,8),(48,0))] ar (hi) ob tr tr rfl ae ae) ?_
 exact bb rfl rfl rfl (bG rfl rfl rfl rfl rfl rfl (dS (am (ai (az _ aa rfl rfl rfl rfl) (bG rfl rfl rfl rfl rfl rfl (aj (aG (bI (.inr rfl) rfl (.cellA aa rfl rfl rfl) (Le.outI [((1,8),(48,0)),((3,8),(3,9)),((4,8),(4,9))] [] (.agg rfl lz) rfl rfl rfl trivial ob tr rfl)))))))))
theorem wH (ht:s.timers=[x]):nN c o s r ⟨4,x,y,z,w⟩ s r:=by
 have hb:=kP s.timers x (by rw [ht];exact Nat.le_refl 1)
 have hl4:s.timers.length*1=(cm s.timers).length:=by rw [aN,Nat.mul_one]
 rw [show decide (0 < s.timers.length∧s.timers.getD 0 0=x)=true from decide_eq_true (by rw [ht];exact ⟨Nat.zero_lt_one,rfl⟩)] at hb
 refine Spec.ofNI Tryz.func114 rfl Tryz.ntmps114 rfl ?_
 refine am (ai (aR (3,0) _ rfl rfl) (ai (aR (4,0) _ rfl rfl) (ai (aC (6,0) aa rfl rfl) (aj (aq (am (bb rfl rfl rfl (cf rfl rfl rfl (aj (ax ?_))))))))))
 iterate 2 refine cI rfl rfl rfl rfl rfl ?_
 refine iE rfl rfl rfl rfl rfl (am (bb rfl rfl rfl (ai (aF _ aa rfl rfl eN) (bb rfl rfl rfl (cf rfl rfl rfl (ai (oQ aa (fb (ff rfl rfl hl4 rfl) (fb Lv.v cU)) hb rfl) ?_))))))
 refine ai (aI _ tN) (ai (cq _ rfl eg) (ai (cq _ rfl Cj) (be rfl (cp rfl (aj (aq ?_))))))
 refine aM (σ':=aD 134 [(3,_),(4,_),(6,_),(7,_),(8,_)] [((1,9),_),((3,0),_),((4,0),_),((6,0),_),((2,9),_),((3,9),_),((4,9),_),((5,9),_)] [(1,9),(2,9),(3,9),(4,9),(5,9)] [(2,9),(5,9)]) kp ?_
 refine an (cL rfl (ai (cu (r:=false) _ rfl rfl) (aj (aW rfl rfl (cr (am (ai (az _ aa rfl rfl rfl rfl) (bG rfl rfl rfl rfl rfl rfl (aj (aG ?_))))))))))
 exact bI (.inr rfl) rfl (.cellA aa rfl rfl rfl) (Le.outI [((1,8),(1,9)),((3,8),(3,9)),((4,8),(4,9))] [] (.agg rfl lz) rfl rfl rfl trivial ob tr rfl)
theorem vG (hl:s.timers.length≤1) (hx: ¬ (0 < s.timers.length∧s.timers.getD 0 0=x)):nN c o s r ⟨5,x,y,z,w⟩ s r:=by
 have hb:=kP s.timers x hl
 have hl4:s.timers.length*1=(cm s.timers).length:=by rw [aN,Nat.mul_one]
 rw [decide_eq_false hx] at hb
 refine Spec.ofNI Tryz.func114 rfl Tryz.ntmps114 rfl ?_
 refine am (ai (aR (3,0) _ rfl rfl) (ai (aR (4,0) _ rfl rfl) (ai (aC (6,0) aa rfl rfl) (aj (aq (am (bb rfl rfl rfl (cf rfl rfl rfl (aj (ax ?_))))))))))
 iterate 3 refine cI rfl rfl rfl rfl rfl ?_
 refine iE rfl rfl rfl rfl rfl (am (bb rfl rfl rfl (ai (aF _ aa rfl rfl eN) (bb rfl rfl rfl (cf rfl rfl rfl (ai (oQ aa (fb (ff rfl rfl hl4 rfl) (fb Lv.v cU)) hb rfl) ?_))))))
 refine ai (aI _ tN) (ai (cq _ rfl eg) (ai (cq _ rfl Cj) (be rfl (cp rfl (aj (aq ?_))))))
 refine aM (σ':=aD 134 [(3,_),(6,_),(9,_),(10,_)] [((1,9),_),((3,0),_),((6,0),_),((2,9),_),((3,9),_),((4,9),_),((5,9),_)] [(1,9),(2,9),(3,9),(4,9),(5,9)] [(2,9),(5,9)]) kp ?_
 exact an (cL rfl (aj (aW rfl rfl (cr (am (ai (az _ aa rfl rfl rfl rfl) (bG rfl rfl rfl rfl rfl rfl (aj (aG (bI (.inr rfl) rfl (.cellA aa rfl rfl rfl) (Le.outI [((1,8),(1,9)),((3,8),(3,9)),((4,8),(4,9))] [] (.agg rfl lz) rfl rfl rfl trivial ob tr rfl)))))))))))
theorem Da (hr:r.sent.length≤1000):nN c o s r ⟨3,x,y,z,w⟩ s { r with sent:=r.sent++[(⟨3,x,y,z,w⟩:Ac)] }:=by
 have hl2:=ja c r.sent
 have hl3:r.sent.length+1=(r.sent++[(⟨3,x,y,z,w⟩:Ac)]).length:=by rw [List.length_append];rfl
 refine Spec.ofNI Tryz.func114 rfl Tryz.ntmps114 rfl ?_
 refine am (ai (aR (3,0) _ rfl rfl) (ai (aR (4,0) _ rfl rfl) (ai (aC (6,0) aa rfl rfl) (aj (aq (am (bb rfl rfl rfl (cf rfl rfl rfl (aj (ax ?_))))))))))
 iterate 4 refine cI rfl rfl rfl rfl rfl ?_
 refine iE rfl rfl rfl rfl rfl (aq ?_)
 refine aM (σ':=aD 134 [(2,_),(3,_),(4,_),(6,_)] [((1,9),_),((2,9),_),((3,9),_),((4,9),_),((5,9),_),((3,0),_),((4,0),_),((6,0),_)] [(1,9),(2,9),(3,9),(4,9),(5,9)] [(2,9),(5,9)]) kp ?_
 refine pK 12 [70,71,72,73,74,75,76,77,78,79,11] [(11,0),(11,0)] ae ae rfl (rfl:_=[_,_,_,_,_,_,_,_,_,_,_,_]) (rfl:_=[]) ?_
 refine cD (_,[]) (fun τ=> aI _ bW) ?_
 refine cE (rfl:_=[_]) ?_
 refine cD (_,[]) (fun τ=> aT _ rfl rfl) ?_
 refine cE (rfl:_=[_,_]) ?_
 refine cD (_,[]) (fun τ=> aA _ aa rfl rfl rfl) ?_
 refine cE (rfl:_=[_,_,_]) ?_
 refine cD (_,[]) (fun τ=> az _ aa rfl rfl rfl rfl) ?_
 refine cE (rfl:_=[_,_,_,_]) ?_
 refine cD (_,[]) (fun τ=> aI _ bW) ?_
 refine cE (rfl:_=[_,_,_,_,_]) ?_
 refine cD (_,[]) (fun τ=> aT _ rfl rfl) ?_
 refine cE (rfl:_=[_,_,_,_,_,_]) ?_
 refine cD (_,[]) (fun τ=> aA _ aa rfl rfl rfl) ?_
 refine cE (rfl:_=[_,_,_,_,_,_,_]) ?_
 refine cD (_,[]) (fun τ=> aF _ aa rfl rfl eN) ?_
 refine cE (rfl:_=[_,_,_,_,_,_,_,_]) ?_
 refine cD (_,[]) (fun τ=> dg _ aa rfl rfl) ?_
 refine cE (rfl:_=[_,_,_,_,_,_,_,_,_]) ?_
 refine cD (_,[]) (fun τ=> aL _ aa rfl (by exact rh)) ?_
 refine cE (rfl:_=[_,_,_,_,_,_,_,_,_,_]) ?_
 refine cD (_,[((11,0),_)]) (fun τ=> aC (11,0) aa rfl rfl) ?_
 refine cE (rfl:_=[_,_,_,_,_,_,_,_,_,_,_]) ?_
 refine cD (_,[((11,0),_)]) (fun τ=> dE _ _ aa rfl rfl rfl rfl (Nat.le_of_ble_eq_true rfl) rfl) ?_
 refine cE (rfl:_=[_,_,_,_,_,_,_,_,_,_,_,_]) ?_
 refine nf ⟨⟨rfl,by kernel_rfl,by kernel_rfl⟩,?_⟩
 refine aj ?_
 refine aM (σ':=aD 134 [(2,_),(3,_),(4,_),(6,_),(11,_)] [((1,9),_),((2,9),_),((3,9),_),((4,9),_),((5,9),_),((3,0),_),((4,0),_),((6,0),_),((11,0),_)] [(1,9),(2,9),(3,9),(4,9),(5,9)] [(2,9),(5,9)]) kp ?_
 refine aM (Le.incT (96,0) rfl) ?_
 refine hG 17 [80,81,82,83,84,85,86,87,88,89,90,91,92,93,94,95,96] [(3,9),(96,0)] [[],[],[],[(3,9)],[(3,9)],[],[],[],[],[],[],[],[],[],[(3,9)],[(3,9)],[]] ae ae rfl (aK rfl) (rfl:_=[_,_,_,_,_,_,_,_,_,_,_,_,_,_,_,_,_]) (rfl:_=[_,_,_]) ?_
 refine ap (_,[]) (fun τ=> aI _ bW) ?_
 refine fF rfl ?_
 refine ap (_,[]) (fun τ=> aI _ bW) ?_
 refine fL rfl ?_
 refine ap (_,[]) (fun τ=> aT _ rfl rfl) ?_
 refine fA rfl ?_
 refine ap (_,[]) (fun τ=> aA _ aa rfl rfl rfl) ?_
 refine fT rfl ?_
 refine ap (_,[]) (fun τ=> aF _ aa rfl rfl eN) ?_
 refine gj rfl ?_
 refine ap (_,[]) (fun τ=> az _ aa rfl rfl rfl rfl) ?_
 refine gU rfl ?_
 refine ap (_,[]) (fun τ=> aA _ aa rfl rfl rfl) ?_
 refine iC rfl ?_
 refine ap (_,[]) (fun τ=> aF _ aa rfl rfl eg) ?_
 refine jM rfl ?_
 refine ap (_,[]) (fun τ=> aA _ aa rfl rfl rfl) ?_
 refine jX rfl ?_
 refine ap (_,[]) (fun τ=> aF _ aa rfl rfl eg) ?_
 refine fI rfl ?_
 refine ap (_,[]) (fun τ=> aA _ aa rfl rfl rfl) ?_
 refine gh rfl ?_
 refine ap (_,[]) (fun τ=> aF _ aa rfl rfl eg) ?_
 refine jW rfl ?_
 refine ap (_,[]) (fun τ=> aA _ aa rfl rfl rfl) ?_
 refine li rfl ?_
 refine ap (_,[]) (fun τ=> aF _ aa rfl rfl eg) ?_
 refine nh rfl ?_
 refine ap (_,[]) (fun τ=> aL _ aa rfl (by exact (rfl:_=some [_,_,_,_,_,_,_,_,_]))) ?_
 refine uD rfl ?_
 refine ap (_,[]) (fun τ=> bh _ _ aa rfl ag (by (simp <;> rfl)) ah rfl) ?_
 refine uB rfl ?_
 refine ap (_,[((3,9), .gone),((96,0),_)]) (fun τ=> mT (b:=true) (96,0) _ _ aa rfl (eF rfl (by exact dJ) rfl) hl2.symm (.sl rfl) ab rfl rfl rfl (Cp c r.sent ⟨3,x,y,z,w⟩) hl3) ?_
 refine wo rfl (bl ⟨⟨rfl,by kernel_rfl⟩,?_⟩)
 refine ai (aT _ rfl rfl) (bb rfl rfl rfl (bG rfl rfl rfl rfl rfl rfl (dS (aq ?_))))
 refine aM (σ':=aD 134 [(3,_),(6,_)] [((1,9),_),((3,0),_),((6,0),_),((2,9),_),((4,9),_),((5,9),_),((96,0),_)] [(1,9),(2,9),(4,9),(5,9),(96,0)] [(2,9),(5,9)]) kp ?_
 exact an (ai (az _ aa rfl rfl rfl rfl) (bG rfl rfl rfl rfl rfl rfl (aj (aG (bI (.inr rfl) rfl (.cellA aa rfl rfl rfl) (Le.outI [((1,8),(1,9)),((3,8),(96,0)),((4,8),(4,9))] [] (.agg rfl lz) rfl rfl rfl trivial ob tr rfl))))))
theorem yo (h0:0≤s.wait) (h1:x=s.wait):nN c o s r ⟨6,x,y,z,w⟩ { s with wait:= -1 } { r with repl:=true,value:=y }:=by
 refine Spec.ofNI Tryz.func114 rfl Tryz.ntmps114 rfl ?_
 refine am (ai (aR (3,0) _ rfl rfl) (ai (aR (4,0) _ rfl rfl) (ai (aC (6,0) aa rfl rfl) (aj (aq (am (bb rfl rfl rfl (cf rfl rfl rfl (aj (ax ?_))))))))))
 iterate 5 refine cI rfl rfl rfl rfl rfl ?_
 refine aq ?_
 refine aM (σ':=aD 134 [(2,_),(3,_),(4,_),(6,_),(13,_)] [((1,9),_),((2,9),_),((3,9),_),((4,9),_),((5,9),_),((3,0),_),((4,0),_),((6,0),_)] [(1,9),(2,9),(3,9),(4,9),(5,9)] [(2,9),(5,9)]) kp ?_
 refine zr rfl rfl rfl rfl rfl (am (bb rfl rfl rfl (cf rfl rfl rfl (ai (fq (r:=true) _ _ rfl rfl (decide_eq_true ab)) ?_))))
 refine cL rfl (ay rfl rfl (aA _ aa rfl rfl rfl) (ay rfl rfl (aF _ aa rfl rfl eg) (ay rfl rfl (aA _ aa rfl rfl rfl) (ay rfl rfl (aF _ aa rfl rfl eg) (ay rfl rfl (bB (r:=true) _ _ rfl rfl (by rw [h1];exact beq_self_eq_true _)) ?_)))))
 refine ai (aE _ _ _ rfl bR) (aj (bL rfl rfl ?_))
 refine aM (σ':=aD 134 [(2,_),(3,_),(4,_),(6,_)] [((1,9),_),((2,9),_),((3,9),_),((4,9),_),((5,9),_),((3,0),_),((4,0),_),((6,0),_)] [(1,9),(2,9),(3,9),(4,9),(5,9)] [(2,9),(5,9)]) kp ?_
 refine hG 7 [111,112,113,114,115,116] [(2,9)] [[(2,9)],[],[],[],[(2,9)],[(2,9)],[]] ae ae rfl (aK rfl) (rfl:_=[_,_,_,_,_,_,_]) (rfl:_=[_,_,_,_,_]) ?_
 refine ap (_,[]) (fun τ=> aI _ bW) ?_
 refine fF rfl ?_
 refine ap (_,[]) (fun τ=> aI _ bW) ?_
 refine fL rfl ?_
 refine ap (_,[]) (fun τ=> aA _ aa rfl rfl rfl) ?_
 refine fA rfl ?_
 refine ap (_,[]) (fun τ=> aF _ aa rfl rfl eg) ?_
 refine fT rfl ?_
 refine ap (_,[]) (fun τ=> aT _ rfl rfl) ?_
 refine gj rfl ?_
 refine ap (_,[]) (fun τ=> aA _ aa rfl rfl rfl) ?_
 refine gU rfl ?_
 refine ap (_,[((2,9),_)]) (fun τ=> dE _ _ aa rfl (eF rfl (by exact dJ) rfl) rfl rfl (Nat.le_of_ble_eq_true rfl) rfl) ?_
 refine iC rfl (bl ⟨⟨rfl,by kernel_rfl⟩,?_⟩)
 refine ai (aT _ rfl rfl) (bb rfl rfl rfl (bG rfl rfl rfl rfl rfl rfl (bb rfl rfl rfl (bG rfl rfl rfl rfl rfl rfl (dS (am (ai (az _ aa rfl rfl rfl rfl) (bG rfl rfl rfl rfl rfl rfl (aj (aG ?_))))))))))
 exact bI (.inr rfl) rfl (.cellA aa rfl rfl rfl) (Le.outI [((1,8),(1,9)),((3,8),(3,9)),((4,8),(4,9))] [] (.agg rfl lz) rfl rfl rfl trivial ob tr rfl)
theorem vE (h0:s.wait < 0):nN c o s r ⟨6,x,y,z,w⟩ s r:=by
 refine Spec.ofNI Tryz.func114 rfl Tryz.ntmps114 rfl ?_
 refine am (ai (aR (3,0) _ rfl rfl) (ai (aR (4,0) _ rfl rfl) (ai (aC (6,0) aa rfl rfl) (aj (aq (am (bb rfl rfl rfl (cf rfl rfl rfl (aj (ax ?_))))))))))
 iterate 5 refine cI rfl rfl rfl rfl rfl ?_
 refine aq ?_
 refine aM (σ':=aD 134 [(2,_),(3,_),(4,_),(6,_),(13,_)] [((1,9),_),((2,9),_),((3,9),_),((4,9),_),((5,9),_),((3,0),_),((4,0),_),((6,0),_)] [(1,9),(2,9),(3,9),(4,9),(5,9)] [(2,9),(5,9)]) kp ?_
 refine zr rfl rfl rfl rfl rfl (am (bb rfl rfl rfl (cf rfl rfl rfl (ai (fq (r:=false) _ _ rfl rfl (decide_eq_false ab)) ?_))))
 refine cL rfl (aQ rfl rfl ah ?_)
 refine aQ rfl rfl ah ?_
 refine aQ rfl rfl ah ?_
 refine aQ rfl rfl ah ?_
 refine aQ rfl rfl ah ?_
 exact ai (aE _ _ _ rfl bR) (aj (aW rfl rfl (cr (am (ai (az _ aa rfl rfl rfl rfl) (bG rfl rfl rfl rfl rfl rfl (aj (aG (bI (.inr rfl) rfl (.cellA aa rfl rfl rfl) (Le.outI [((1,8),(1,9)),((3,8),(3,9)),((4,8),(4,9))] [] (.agg rfl lz) rfl rfl rfl trivial ob tr rfl))))))))))
theorem vO (h0:0≤s.wait) (h1:x≠s.wait):nN c o s r ⟨6,x,y,z,w⟩ s r:=by
 refine Spec.ofNI Tryz.func114 rfl Tryz.ntmps114 rfl ?_
 refine am (ai (aR (3,0) _ rfl rfl) (ai (aR (4,0) _ rfl rfl) (ai (aC (6,0) aa rfl rfl) (aj (aq (am (bb rfl rfl rfl (cf rfl rfl rfl (aj (ax ?_))))))))))
 iterate 5 refine cI rfl rfl rfl rfl rfl ?_
 refine aq ?_
 refine aM (σ':=aD 134 [(2,_),(3,_),(4,_),(6,_),(13,_)] [((1,9),_),((2,9),_),((3,9),_),((4,9),_),((5,9),_),((3,0),_),((4,0),_),((6,0),_)] [(1,9),(2,9),(3,9),(4,9),(5,9)] [(2,9),(5,9)]) kp ?_
 refine zr rfl rfl rfl rfl rfl (am (bb rfl rfl rfl (cf rfl rfl rfl (ai (fq (r:=true) _ _ rfl rfl (decide_eq_true ab)) ?_))))
 refine cL rfl (ay rfl rfl (aA _ aa rfl rfl rfl) (ay rfl rfl (aF _ aa rfl rfl eg) (ay rfl rfl (aA _ aa rfl rfl rfl) (ay rfl rfl (aF _ aa rfl rfl eg) (ay rfl rfl (bB (r:=false) _ _ rfl rfl (beq_eq_false_iff_ne.2 h1)) ?_)))))
 exact ai (aE _ _ _ rfl bR) (aj (aW rfl rfl (cr (am (ai (az _ aa rfl rfl rfl rfl) (bG rfl rfl rfl rfl rfl rfl (aj (aG (bI (.inr rfl) rfl (.cellA aa rfl rfl rfl) (Le.outI [((1,8),(1,9)),((3,8),(3,9)),((4,8),(4,9))] [] (.agg rfl lz) rfl rfl rfl trivial ob tr rfl))))))))))
theorem Bz (hr:r.fails.length≤1000):nN c o s r ⟨7,x,y,z,w⟩ s { r with fails:=r.fails++[x] }:=by
 have hl3:r.fails.length+1=(r.fails++[x]).length:=by rw [List.length_append];rfl
 refine Spec.ofNI Tryz.func114 rfl Tryz.ntmps114 rfl ?_
 refine am (ai (aR (3,0) _ rfl rfl) (ai (aR (4,0) _ rfl rfl) (ai (aC (6,0) aa rfl rfl) (aj (aq (am (bb rfl rfl rfl (cf rfl rfl rfl (aj (ax ?_))))))))))
 iterate 5 refine cI rfl rfl rfl rfl rfl ?_
 refine aq ?_
 refine aM (σ':=aD 134 [(2,_),(3,_),(4,_),(6,_),(13,_)] [((1,9),_),((2,9),_),((3,9),_),((4,9),_),((5,9),_),((3,0),_),((4,0),_),((6,0),_)] [(1,9),(2,9),(3,9),(4,9),(5,9)] [(2,9),(5,9)]) kp ?_
 refine dZ rfl rfl rfl rfl rfl (iE rfl rfl rfl rfl rfl ?_)
 refine aM (σ':=aD 134 [(2,_),(3,_),(4,_),(6,_)] [((1,9),_),((2,9),_),((3,9),_),((4,9),_),((5,9),_),((3,0),_),((4,0),_),((6,0),_)] [(1,9),(2,9),(3,9),(4,9),(5,9)] [(2,9),(5,9)]) kp ?_
 refine aM (Le.incT (130,0) rfl) ?_
 refine hG 9 [122,123,124,125,126,127,128,129,130] [(4,9),(130,0)] [[],[],[],[(4,9)],[(4,9)],[],[(4,9)],[(4,9)],[]] ae ae rfl (aK rfl) (rfl:_=[_,_,_,_,_,_,_,_,_]) (rfl:_=[_,_,_]) ?_
 refine ap (_,[]) (fun τ=> aI _ bW) ?_
 refine fF rfl ?_
 refine ap (_,[]) (fun τ=> aI _ bW) ?_
 refine fL rfl ?_
 refine ap (_,[]) (fun τ=> aT _ rfl rfl) ?_
 refine fA rfl ?_
 refine ap (_,[]) (fun τ=> aA _ aa rfl rfl rfl) ?_
 refine fT rfl ?_
 refine ap (_,[]) (fun τ=> aF _ aa rfl rfl eN) ?_
 refine gj rfl ?_
 refine ap (_,[]) (fun τ=> aA _ aa rfl rfl rfl) ?_
 refine gU rfl ?_
 refine ap (_,[]) (fun τ=> aF _ aa rfl rfl eg) ?_
 refine iC rfl ?_
 refine ap (_,[]) (fun τ=> bh _ _ aa rfl ag (by (simp <;> rfl)) ah rfl) ?_
 refine jM rfl ?_
 refine ap (_,[((4,9), .gone),((130,0),_)]) (fun τ=> mT (b:=true) (130,0) _ _ aa rfl (eF rfl (by exact dJ) rfl) (by rw [aN,Nat.mul_one]) (.sl rfl) ab rfl rfl rfl (sG r.fails [x]) hl3) ?_
 refine jX rfl (bl ⟨⟨rfl,by kernel_rfl⟩,?_⟩)
 exact ai (aT _ rfl rfl) (bb rfl rfl rfl (bG rfl rfl rfl rfl rfl rfl (dS (am (ai (az _ aa rfl rfl rfl rfl) (bG rfl rfl rfl rfl rfl rfl (aj (aG (bI (.inr rfl) rfl (.cellA aa rfl rfl rfl) (Le.outI [((1,8),(1,9)),((3,8),(3,9)),((4,8),(130,0))] [] (.agg rfl lz) rfl rfl rfl trivial ob tr rfl))))))))))
end
end Go.Proofs.YtmjnackchaahbaaGreat

namespace Go.Proofs.YtmjnackchaahbaaGreat
def TmC (c:List eU) (t:Int):Bool:=decide (0≤t∧t < 8) && c.all fun x=> (decide (x.op≠ .timer) || decide (x.n=t)) && (decide (x.op≠ .cancel) || decide (x.n≠t))
structure xi (t:Int) (a:Ac):Prop where
 kd:1≤a.k∧a.k≤7
 tm:a.k=4→a.a=t
 cn:a.k=5→a.a≠t
theorem FD {K:Cx} {x:eU} {s:Ms} {t:Int} (h1:x.op= .timer→x.n=t) (h2:x.op= .cancel→x.n≠t) (h: ∀ a∈s.acts,xi t a): ∀ a∈(dA K x s).acts,xi t a:=by
 have app: ∀ (b:Ac),xi t b→ ∀ a∈s.acts++[b],xi t a:=fun b hb a ha=> by
  rcases List.mem_append.1 ha with ha | ha
  ·exact h a ha
  simp at ha;subst ha;exact hb
 unfold dA
 cases ho:x.op <;> simp only
 case setVar=>
  split
  ·exact app _ ⟨by simp,fun e=> by simp at e,fun e=> by simp at e⟩
  exact h
 case draw=> split <;> exact h
 case send=>
  split
  ·exact app _ ⟨by simp,fun e=> by simp at e,fun e=> by simp at e⟩
  exact h
 case timer=> exact app _ ⟨by simp,fun _=> h1 ho,fun e=> by simp at e⟩
 case cancel=> exact app _ ⟨by simp,fun e=> by simp at e,fun _=> h2 ho⟩
 case sync=> exact app _ ⟨by simp,fun e=> by simp at e,fun e=> by simp at e⟩
 case reply=> exact app _ ⟨by simp,fun e=> by simp at e,fun e=> by simp at e⟩
 case fail=> exact app _ ⟨by simp,fun e=> by simp at e,fun e=> by simp at e⟩
 all_goals exact h
theorem wT {c:List eU} {t:Int} (h:TmC c t=true) (i:Nat):((c.getD i { op:= .stop }).op= .timer→(c.getD i { op:= .stop }).n=t)∧((c.getD i { op:= .stop }).op= .cancel→(c.getD i { op:= .stop }).n≠t):=by
 unfold TmC at h
 rw [Bool.and_eq_true,List.all_eq_true] at h
 by_cases hi:i < c.length
 ·have e:c.getD i { op:= .stop }=c[i]:=by rw [List.getD_eq_getElem?_getD,List.getElem?_eq_getElem hi];rfl
  rw [e]
  have:=h.2 _ (List.getElem_mem hi)
  simp only [Bool.and_eq_true,Bool.or_eq_true,decide_eq_true_eq] at this
  exact ⟨fun e=> (this.1.resolve_left fun h=> h e),fun e=> (this.2.resolve_left fun h=> h e)⟩
 have e:c.getD i { op:= .stop }={ op:= .stop }:=by rw [List.getD_eq_getElem?_getD,List.getElem?_eq_none ab];rfl
 rw [e];exact ⟨fun e=> (by cases e),fun e=> (by cases e)⟩
theorem GO {K:Cx} {t:Int} (hc:TmC K.code t=true) (k:Nat) (s:Ms) (h: ∀ a∈s.acts,xi t a): ∀ a∈(kL K k s).acts,xi t a:=
 lG (I:=fun s=> ∀ a∈s.acts,xi t a) (fun s h _=> FD (wT hc s.pc).1 (wT hc s.pc).2 h) k s h
theorem ul {p:Pg} {t:Int} (hc:TmC p.c t=true) (h:Nat) (names vars ans:List Int): ∀ a∈(jU p h names vars ans).acts,xi t a:=by
 unfold jU
 split
 ·exact fun a ha=> by simp at ha
 exact GO hc 500 _ fun a ha=> by simp [ey] at ha
abbrev qv (t:Int) (l:List Int):Prop:=l=[]∨l=[t]
theorem TmC.rg {c:List eU} {t:Int} (h:TmC c t=true):0≤t∧t < 8:=by
 unfold TmC at h
 rw [Bool.and_eq_true] at h
 exact of_decide_eq_true h.1
theorem LW {P:Int→Prop} (h:P 0∧P 1∧P 2∧P 3∧P 4∧P 5∧P 6∧P 7) {t:Int} (ht:0≤t∧t < 8):P t:=by
 obtain ⟨h0,h1,h2,h3,h4,h5,h6,h7⟩:=h
 have:t=0∨t=1∨t=2∨t=3∨t=4∨t=5∨t=6∨t=7:=by omega
 rcases this with h | h | h | h | h | h | h | h <;> (subst h;assumption)
theorem xo {t:Int} (ht:0≤t∧t < 8) {l:List Int} (h:qv t l):wR l t true=[t]:=by
 rcases h with h | h
 ·subst h;exact LW (P:=fun t=> wR [] t true=[t]) ah ht
 subst h;exact LW (P:=fun t=> wR [t] t true=[t]) ah ht
theorem wY {t u:Int} (ht:0≤t∧t < 8) (hu:u≠t) {l:List Int} (h:qv t l):wR l u false=l:=by
 have e:wR l u false=((List.range 8).map fun (i:Nat)=> (i:Int)).filter fun i=> decide (i∈l):=by
  unfold wR
  refine List.filter_congr fun i _=> ?_
  split
  ·rename_i hi
   subst hi
   rcases h with h | h
   ·subst h;rfl
   subst h;exact (decide_eq_false (by simpa using hu)).symm
  rfl
 rw [e]
 rcases h with h | h
 ·subst h;rfl
 subst h;exact LW (P:=fun t=> (((List.range 8).map fun (i:Nat)=> (i:Int)).filter fun i=> decide (i∈[t]))=[t]) ah ht
theorem uo {t:Int} (ht:0≤t∧t < 8) {q:Ns×Nr} {a:Ac} (ha:xi t a) (h:qv t q.1.timers):qv t (dV q a).1.timers:=by
 unfold dV
 split
 ·exact h
 split
 ·exact h
 split
 ·rename_i h4
  show qv t (wR q.1.timers a.a true)
  rw [ha.tm h4,xo ht h]
  exact .inr rfl
 split
 ·rename_i h5
  show qv t (wR q.1.timers a.a false)
  rw [wY ht (ha.cn h5) h]
  exact h
 split
 ·exact h
 split
 ·split <;> exact h
 split <;> exact h
theorem Gz {s:Ns} {l:List Int} (h:l=s.timers):{ s with timers:=l }=s:=by subst h;rfl
theorem If (c:Cz) (o:Ot) {t:Int} (ht:0≤t∧t < 8) (q:Ns×Nr) (a:Ac) (ha:xi t a) (hq:qv t q.1.timers) (hs:jI q.1) (ho:ji q.1.dk) (hr:q.2.sent.length≤1000) (hf:q.2.fails.length≤1000):
  nN c o q.1 q.2 a (dV q a).1 (dV q a).2:=by
 obtain ⟨s,r⟩:=q
 obtain ⟨k,x,y,z,w⟩:=a
 obtain ⟨hk,h4,h5⟩:=ha
 simp only at hk h4 h5 hq hs ho hr hf
 have:k=1∨k=2∨k=3∨k=4∨k=5∨k=6∨k=7:=by omega
 rcases this with e | e | e | e | e | e | e <;> subst e
 ·exact yb c o s r x y z w hs ho
 ·exact CV c o s r x y z w hs ho
 ·exact Da c o s r x y z w hr
 ·obtain rfl:=h4 rfl
  have e:(dV (s,r) ⟨4,x,y,z,w⟩)=({ s with timers:=[x] },r):=by
   show ({ s with timers:=wR s.timers x true },r)=_
   rw [xo ht hq]
  rw [e]
  rcases hq with hq | hq
  ·exact vU c o s r x y z w hq
  have:=wH c o s r x y z w hq
  rwa [Gz hq.symm]
 ·have hx:=h5 rfl
  have e:(dV (s,r) ⟨5,x,y,z,w⟩)=(s,r):=by
   show ({ s with timers:=wR s.timers x false },r)=_
   rw [wY ht hx hq,Gz rfl]
  rw [e]
  refine vG c o s r x y z w ?_ ?_
  ·rcases hq with hq | hq <;> rw [hq]
   ·exact Nat.zero_le 1
   exact Nat.le_refl 1
  rcases hq with hq | hq <;> rw [hq]
  ·exact fun h=> absurd h.1 (Nat.lt_irrefl _)
  exact fun h=> hx h.2.symm
 ·by_cases h0:0≤s.wait
  ·by_cases h1:x=s.wait
   ·have e:(dV (s,r) ⟨6,x,y,z,w⟩)=({ s with wait:= -1 },{ r with repl:=true,value:=y }):=by
     show (if 0≤s.wait∧x=s.wait then ({ s with wait:= -1 },{ r with repl:=true,value:=y }) else (s,r))=_
     exact if_pos ⟨h0,h1⟩
    rw [e];exact yo c o s r x y z w h0 h1
   have e:(dV (s,r) ⟨6,x,y,z,w⟩)=(s,r):=by
    show (if 0≤s.wait∧x=s.wait then ({ s with wait:= -1 },{ r with repl:=true,value:=y }) else (s,r))=_
    exact if_neg fun h=> h1 h.2
   rw [e];exact vO c o s r x y z w h0 h1
  have e:(dV (s,r) ⟨6,x,y,z,w⟩)=(s,r):=by
   show (if 0≤s.wait∧x=s.wait then ({ s with wait:= -1 },{ r with repl:=true,value:=y }) else (s,r))=_
   exact if_neg fun h=> h0 h.1
  rw [e];exact vE c o s r x y z w ab
 exact Bz c o s r x y z w hf
theorem oZ (s:Ns) (hs:jI s) (ho:ji s.dk):Spec Tryz.prog 47 (aY [.agg (GD s (.ref (1,9) 0 s.timers.length))] [((1,9), .row 3 1 (cm s.timers))]) (bc (.sl (s.dk.view++s.vol).length (cm (s.dk.view++s.vol))) [((1,9), .row 3 1 (cm s.timers))] [(1,9)] [(1,9)]):=by
 have hc:=hs.c
 have hp:=hs.p
 have hv:=hs.v
 have hw:=sd s.dk ab ab ho
 have hl:s.dk.view.length=s.dk.cells.length:=fQ _ _
 have hl2:s.dk.cells.length+s.vol.length=(s.dk.view++s.vol).length:=by rw [List.length_append,hl]
 refine Spec.ofNI Tryz.func47 rfl Tryz.ntmps47 rfl ?_
 refine am (ai (aR (1,0) _ rfl rfl) (ai (bp _ fz) (aj (aq (pK 6 [3,4,5,6,7,8] [(5,0),(5,0),(8,0)] ae ae rfl (rfl:_=[_,_,_,_,_,_]) (rfl:_=[_]) ?_)))))
 refine cD (_,[]) (fun τ=> aA _ aa rfl rfl rfl) ?_
 refine cE (rfl:_=[_]) ?_
 refine cD (_,[]) (fun τ=> az _ aa rfl rfl rfl rfl) ?_
 refine cE (rfl:_=[_,_]) ?_
 refine cD (_,[((5,0),_)]) (fun τ=> (bS aa [((0,8),(5,0))] ar (hw.toI) trivial tr tr rfl rfl ae ae)) ?_
 refine cE (rfl:_=[_,_,_]) ?_
 refine cD (_,[]) (fun τ=> aA _ aa rfl rfl rfl) ?_
 refine cE (rfl:_=[_,_,_,_]) ?_
 refine cD (_,[]) (fun τ=> aF _ aa rfl rfl eE) ?_
 refine cE (rfl:_=[_,_,_,_,_]) ?_
 refine cD (_,[((5,0), .gone),((8,0), .gone)]) (fun τ=> CL (8,0) _ _ aa rfl rfl (by rw [aN,hl,Nat.mul_one]) (.sl (by rw [aN,Nat.mul_one])) ab rfl rfl rfl (sG _ _) hl2) ?_
 refine cE (rfl:_=[_,_,_,_,_,_]) ?_
 refine nf ⟨⟨rfl,by kernel_rfl,by kernel_rfl⟩,?_⟩
 exact kD rfl (aj (aG (bI (.inr rfl) rfl (.tmp nB) (Le.outI [] [] .sl rfl rfl rfl trivial ob tr rfl))))
theorem xI (l:List Int) (h:l.length≤1000000) (h0:0 < l.length):Spec Tryz.prog 92 (ba [.sl l.length (cm l)] []) (aO (.sl l.length (cm l)) []):=by
 refine Spec.ofN Tryz.func92 rfl Tryz.ntmps92 rfl ?_
 refine am (ai (bp _ fz) (aj (aq (am (eW rfl (ai (sD _ _ Tryz.underlying22 (.inl ⟨_,rfl⟩) h0 rfl) ?_))))))
 refine aj (aW rfl rfl (aS (am (ai (pO _ aa rfl) (eW rfl (ai (sE _ _ aa rfl (.sl (by rw [aN,Nat.mul_one])) ab) ?_))))))
 exact kD rfl (aj (aG (pU rfl rfl)))
theorem yn:Spec Tryz.prog 92 (ba [.sl 0 (cm [])] []) (aO (.sl 0 (cm [])) []):=by
 refine Spec.ofN Tryz.func92 rfl Tryz.ntmps92 rfl ?_
 refine am (ai (bp _ fz) (aj (aq (am (eW rfl (AH (sL _ _ Tryz.underlying22 rfl rfl) ?_))))))
 rintro _ ⟨b4,rfl⟩
 refine aj (aP rfl (fun hc4=> ?_) (fun hc4=> ?_))
 ·skip
  exact am (ai (bp _ fz) (aj (aG (bI (.inr rfl) rfl (.tmp kU) (Le.out [] [] .nil rfl rfl rfl trivial trivial)))))
 refine aS (am (ai (pO _ aa rfl) (eW rfl (ai (sE _ _ aa rfl (.sl rfl) ab) ?_))))
 exact kD rfl (aj (aG (pU rfl rfl)))
theorem nL (l:List Int) (h:l.length≤1000000):Spec Tryz.prog 92 (ba [.sl l.length (cm l)] []) (aO (.sl l.length (cm l)) []):=by
 by_cases h0:0 < l.length
 ·exact xI l h h0
 obtain rfl:l=[]:=List.eq_nil_of_length_eq_zero ab
 exact yn

abbrev MF (s:Ns) (h:Nat) (ck:Int) (vol:List Int):Ns:={ s with clock:=ck,counts:=s.counts.set h (s.counts.getD h 0+1),vol:=vol }
abbrev cR (s:Ns) (h:Nat) (ck:Int) (P:Pg) (R:Ms) (k:Nat):Ns×Nr:=(R.acts.take k).foldl dV (MF s h ck (R.vars.drop P.d),{})
abbrev GU (R:Ms):Ot:=⟨R.vars,R.acts,(R.steps:Int), !R.fin,fw (kE R.cov)⟩
abbrev Du (nm:List Int):AV:= .agg [.v (.slice none 0 0), .v (.int .i64 (nm.getD 0 0)), .v (.int .i64 (nm.getD 1 0)), .v (.int .i64 (nm.getD 2 0)), .v (.int .i64 (nm.getD 3 0)), .v (.int .i64 (nm.getD 4 0)), .v (.int .i64 (nm.getD 5 0)), .v (.int .i64 (nm.getD 6 0)), .v (.int .i64 (nm.getD 7 0)), .v (.int .i64 (nm.getD 8 0))]
abbrev LD (c:Cz) (R:Ms) (q:Ns×Nr) (t:Tl) (n:Nat) (L:List PV):List (aB×Cells):=[((1,8), .row 3 1 (cm q.1.timers)),((2,8), .row 57 5 (vk R.acts)),((3,8), .row 117 9 (BT c q.2.sent)),((6,8), .row 3 1 (cm q.2.fails))]++oy t n L (5,8)
set_option maxHeartbeats 4000000 in
theorem Mu (s:Ns) (hs:jI s) (ho:ji s.dk) (hc:s.counts.length=41) (P:Pg) (h:Nat) (hh:h < 40) (self nodes drift tk:Int) (nm:List Int) (t:Tl) (n0:Nat) (L0:List PV) (hdr:drift≤0) (hcb: ∀ k, -1000000≤s.counts.getD k 0∧s.counts.getD k 0≤1000000) (hck: -1000000≤s.clock∧s.clock≤1000000)
  (R:Ms) (Q:List PV) (hv:Spec Tryz.prog 59 (aY [ii P, .v (.int .i64 (h:Int)), .agg [.sl (s.dk.view++s.vol).length (cm (s.dk.view++s.vol)), .v (.int .i64 self), .v (.int .i64 nodes), .v (.int .i64 (s.clock+1)), .v (.int .i64 (nm.getD 3 0)), .v (.int .i64 (nm.getD 4 0)), .v (.int .i64 (nm.getD 5 0)), .v (.int .i64 (nm.getD 6 0)), .v (.int .i64 (nm.getD 7 0)), .v (.int .i64 (nm.getD 8 0))],wF (6,9)] (AQ t n0 (L0) (5,9)))
   (bc (.agg [.sl R.vars.length (cm R.vars), .ref (2,8) 0 R.acts.length, .v (.int .i64 (R.steps:Int)), .v (.bool (!R.fin)), .sl (fw (kE R.cov)).length (cm (fw (kE R.cov)))]) (((2,8), .row 57 5 (vk R.acts))::AQ t (n0+R.asked.length) (L0++Q) (5,8)) [(2,8),(4,9),(5,8),(6,9)] [(4,9),(6,9)]))
  (hd:P.d≤R.vars.length) (hrv:R.vars.length≤1000) (hra:R.acts.length≤500)
  (hq: ∀ i,i < R.acts.length→nN ⟨self,(h:Int),s.counts.getD h 0⟩ (GU R) (cR s h (s.clock+1) P R i).1 (cR s h (s.clock+1) P R i).2 (mH R.acts i) (cR s h (s.clock+1) P R (i+1)).1 (cR s h (s.clock+1) P R (i+1)).2):
  Spec Tryz.prog 81 (aY [jH s,ii P, .v (.int .i64 (h:Int)), .v (.int .i64 self), .v (.int .i64 nodes), .v (.int .i64 drift),Du nm,jl] (oy t n0 L0 (5,9)))
   (bc (.tup [.agg (GD (cR s h (s.clock+1) P R R.acts.length).1 (.ref (1,8) 0 (cR s h (s.clock+1) P R R.acts.length).1.timers.length)), .agg (Kl ⟨self,(h:Int),s.counts.getD h 0⟩ (cR s h (s.clock+1) P R R.acts.length).2 (GU R) (3,8) (6,8) (2,8))]) (LD ⟨self,(h:Int),s.counts.getD h 0⟩ R (cR s h (s.clock+1) P R R.acts.length) t (n0+R.asked.length) (L0++Q)) [(1,8),(2,8),(3,8),(4,9),(5,8),(6,8)] [(4,9)]):=by
 have hcb2:=hcb h
 have hcb2: -1000000≤cO s h∧cO s h≤1000000:=hcb2
 have hce:=te s h ab (s.counts.getD h 0+1)
 have hal:=fS R.acts
 have hown:=kk s hs
 have hnv:=oZ { s with clock:=s.clock+1 } ⟨hs.c,hs.p,hs.v,hs.t⟩ ho
 have hcl:=nL (R.vars.drop P.d) (by rw [List.length_drop];omega)
 have hds:((cm R.vars).drop (P.d*1)).take ((R.vars.length - P.d)*1)=cm (R.vars.drop P.d):=by
  rw [Nat.mul_one,Nat.mul_one,List.take_of_length_le (by rw [List.length_drop,aN];omega)]
  simp [cm,List.map_drop]
 have hdl:R.vars.length - P.d=(R.vars.drop P.d).length:=by rw [List.length_drop]
 refine Spec.ofNI Tryz.func81 rfl Tryz.ntmps81 rfl ?_
 refine am (ai (aR (8,0) _ rfl rfl) (ai (aR (9,0) _ rfl rfl) (ai (aR (14,0) _ rfl rfl) (ai (aR (15,0) _ rfl rfl) (ai (aC (16,0) aa rfl rfl) (ai (aC (17,0) aa rfl rfl) (aj (am (ai (az _ aa rfl rfl rfl rfl) (ai (bS aa [((1,8),(22,0))] ar (hown.toI) trivial tr tr rfl rfl ae ae) ?_))))))))))
 refine bG rfl rfl rfl rfl rfl rfl (aj (am (aX rfl (aX rfl (aX rfl (bb rfl rfl rfl (ai (cY _ _ aa rfl rfl rfl h rfl ab (show 8+h*1=8+h from by omega)) ?_)))))))
 refine ai (aF _ aa rfl rfl (nE _ _ _ _ _ _ _ _ _ _ h ab)) ?_
 refine ai (aL _ aa rfl (by exact (rfl:_=some [_,_,_]))) ?_
 refine ai (aL _ aa rfl (by exact (rfl:_=some [_,_,_,_,_,_,_,_,_,_,_,_]))) ?_
 refine ai (aC (18,0) aa rfl rfl) (bG rfl rfl rfl rfl rfl rfl (aj (aq ?_)))
 refine aM (σ':=aD 93 [(2,_),(3,_),(4,_),(5,_),(8,_),(9,_),(14,_),(15,_),(16,_),(17,_),(18,_)] [((4,9),_),((5,9),_),((8,0),_),((9,0),_),((14,0),_),((15,0),_),((16,0),_),((17,0),_),((22,0),_),((18,0),_)] [(4,9),(5,9)] [(4,9)]) kp ?_
 refine an (bb rfl rfl rfl (cf rfl rfl rfl (ai (aZ _ _ rfl rfl (bE ab)) ?_)))
 refine bb rfl rfl rfl (bG rfl rfl rfl rfl rfl rfl (aj (aq (am (aX rfl (ai (gA (r:=false) _ _ rfl rfl (decide_eq_false ab)) ?_))))))
 refine aj (aW rfl rfl (aS (aU fun K7 hK7=> ?_)))
 refine an (ai (az _ aa rfl rfl rfl rfl) (ai (bS aa [((1,9),(22,0))] ar (hnv) ob tr tr rfl rfl ae ae) ?_))
 refine bb rfl rfl rfl (bG rfl rfl rfl rfl rfl rfl (aJ (hK7 _ ?_)))
 clear hK7;try clear K7
 refine aq ?_
 refine aM (σ':=aD 93 [(2,_),(3,_),(4,_),(8,_),(9,_),(14,_),(15,_),(16,_),(17,_),(18,_)] [((4,9),_),((5,9),_),((8,0),_),((9,0),_),((14,0),_),((15,0),_),((16,0),_),((17,0),_),((22,0),_),((18,0),_)] [(4,9),(5,9)] [(4,9)]) kp ?_
 refine xy (14,0) (fun c=> ∃ xs,c=Slot.obj (.box 132 xs)) 11 [48,49,50,51,52,53,54,55,56] [(14,0),(14,0)] ae ae rfl (rfl:_=[_,_,_,_,_,_,_,_,_,_,_]) (rfl:_=[_,_]) (⟨_,rfl⟩) ?_
 refine ez (_,[]) (fun τ hτ=> aI _ eu) ?_
 refine ev (rfl:_=[_]) ?_
 refine ez (_,[]) (fun τ hτ=> aI _ eu) ?_
 refine ev (rfl:_=[_,_]) ?_
 refine ez (_,[]) (fun τ hτ=> aA _ aa rfl rfl rfl) ?_
 refine ev (rfl:_=[_,_,_]) ?_
 refine ez (_,[]) (fun τ hτ=> aF _ aa rfl rfl eg) ?_
 refine ev (rfl:_=[_,_,_,_]) ?_
 refine ez (_,[]) (fun τ hτ=> aA _ aa rfl (by exact hτ.choose_spec) rfl) ?_
 refine ev (rfl:_=[_,_,_,_,_]) ?_
 refine ez (_,[]) (fun τ hτ=> cY _ _ aa rfl (by exact hτ.choose_spec) rfl 0 rfl ab rfl) ?_
 refine ev (rfl:_=[_,_,_,_,_,_]) ?_
 refine ez (_,[((14,0),_)]) (fun τ hτ=> dE _ _ aa rfl rfl rfl rfl (Nat.le_of_ble_eq_true rfl) rfl) ?_
 refine ev (rfl:_=[_,_,_,_,_,_,_]) ?_
 refine ez (_,[]) (fun τ hτ=> aA _ aa rfl (by exact hτ.choose_spec) rfl) ?_
 refine ev (rfl:_=[_,_,_,_,_,_,_,_]) ?_
 refine ez (_,[]) (fun τ hτ=> cY _ _ aa rfl rfl rfl 1 rfl ab rfl) ?_
 refine ev (rfl:_=[_,_,_,_,_,_,_,_,_]) ?_
 refine ez (_,[((14,0),_)]) (fun τ hτ=> dE _ _ aa rfl rfl rfl rfl (Nat.le_of_ble_eq_true rfl) rfl) ?_
 refine ev (rfl:_=[_,_,_,_,_,_,_,_,_,_]) ?_
 refine ez (_,[]) (fun τ hτ=> aA _ aa rfl (by exact hτ.choose_spec) rfl) ?_
 refine ev (rfl:_=[_,_,_,_,_,_,_,_,_,_,_]) ?_
 refine ut ⟨⟨⟨rfl,by kernel_rfl,by kernel_rfl⟩,(by intro r hr c hc;simp only [List.mem_cons,List.not_mem_nil,or_false] at hr;rcases hr with rfl | rfl | rfl | rfl | rfl | rfl | rfl | rfl | rfl | rfl | rfl <;> simp at hc <;> (subst hc;exact ⟨_,rfl⟩))⟩,?_⟩
 refine ai (cY _ _ aa rfl rfl rfl 2 rfl ab rfl) ?_
 refine bG rfl rfl rfl rfl rfl rfl (aj (aU fun K9 hK9=> ?_))
 refine an (ai (az _ aa rfl rfl rfl rfl) (aX rfl (ai (az _ aa rfl rfl rfl rfl) (ai (jk _ _ (rfl:_=[]) (rfl:_=[AV.ptr _ _])) ?_))))
 refine cw (Le.trans (Le.incT (62,1) rfl) (Le.incT (62,0) rfl)) ?_
 refine ai (bi aa [((6,9),(15,0)),((2,8),(62,0)),((5,8),(62,1))] ar (hv) ob tr tr rfl ae ae) ?_
 refine bb rfl rfl rfl (bG rfl rfl rfl rfl rfl rfl (aJ (hK9 _ ?_)))
 clear hK9;try clear K9
 refine aq ?_
 refine aM (σ':=aD 93 [(2,_),(8,_),(9,_),(16,_),(17,_),(18,_)] [((8,0),_),((9,0),_),((16,0),_),((17,0),_),((22,0),_),((18,0),_),((62,0),_),((4,9),_),((62,1),_)] [(4,9),(62,0),(62,1)] [(4,9)]) kp ?_
 refine an (aX rfl (bb rfl rfl rfl (ai (cY _ _ aa rfl rfl rfl h rfl ab (show 8+h*1=8+h from by omega)) ?_)))
 refine ai (aF _ aa rfl rfl (nE _ _ _ _ _ _ _ _ _ _ h ab)) ?_
 refine ai (aZ _ _ rfl rfl (bE ab)) ?_
 refine bb rfl rfl rfl (ai (cY _ _ aa rfl rfl rfl h rfl ab (show 8+h*1=8+h from by omega)) ?_)
 refine ai (dE _ _ aa rfl rfl rfl rfl (by show (8+h)+1≤52;omega) ((sR s.up s.ver s.epoch (s.clock+1) _ _ _ _ (cO s) s.wait h ab _).trans (congrArg (fun e=> IH s.up s.ver s.epoch (s.clock+1) _ _ _ _ e s.wait) hce))) ?_
 refine aj (am (bb rfl rfl rfl (bb rfl rfl rfl (eV rfl rfl rfl (bb rfl rfl rfl (cf rfl rfl rfl (ai (jx _ _ _ aa rfl P.d R.vars.length (.lit rfl rfl) .dflt hd (Nat.le_refl _) hds hdl) ?_)))))))
 refine ai (aH aa al (hcl) rfl rfl) ?_
 refine bb rfl rfl rfl (bG rfl rfl rfl rfl rfl rfl (aj (aU fun K12 hK12=> ?_)))
 refine aq ?_
 refine aM (σ':=aD 93 [(8,_),(16,_),(17,_),(18,_)] [((8,0),_),((16,0),_),((17,0),_),((22,0),_),((18,0),_),((62,0),_),((4,9),_),((62,1),_)] [(4,9),(62,0),(62,1)] [(4,9)]) kp ?_
 refine an (bb rfl rfl rfl (bb rfl rfl rfl (ai (aF _ aa rfl rfl eN) (ai (dg _ aa rfl rfl) (aX rfl (aj (ax ?_)))))))
 refine aM (Le.incA (22,0)) ?_
 refine aM (Le.incT (63,0) rfl) ?_
 refine aM (Le.incT (64,0) rfl) ?_
 refine aM (Le.nilB (18,0) 3 (63,0) 117 9 rfl rfl rfl) ?_
 refine aM (Le.nilB (18,0) 6 (64,0) 3 1 rfl rfl rfl) ?_
 refine bq (α:=Nat) (fun k=> k≤R.acts.length) 93 [(8,_),(16,_),(17,_),(18,_),(81,_),(82,_)] [((16,0),_),((17,0),_),((62,0),_),((4,9),_)] (fun k=> [(83, .v (.int .i64 (k:Int)))]) (fun k=> [((8,0), .box 83 [.v (.bool (cR s h (s.clock+1) P R k).1.up), .v (.int .i64 ((cR s h (s.clock+1) P R k).1.ver)), .v (.int .i64 ((cR s h (s.clock+1) P R k).1.epoch)), .v (.int .i64 ((cR s h (s.clock+1) P R k).1.clock)), .sl (cR s h (s.clock+1) P R k).1.dk.cells.length (cm (cR s h (s.clock+1) P R k).1.dk.cells), .sl (cR s h (s.clock+1) P R k).1.dk.pend.length (lQ (cR s h (s.clock+1) P R k).1.dk.pend), .sl (cR s h (s.clock+1) P R k).1.vol.length (cm (cR s h (s.clock+1) P R k).1.vol), .ref (22,0) 0 (cR s h (s.clock+1) P R k).1.timers.length, .v (.int .i64 (cO (cR s h (s.clock+1) P R k).1 0)), .v (.int .i64 (cO (cR s h (s.clock+1) P R k).1 1)), .v (.int .i64 (cO (cR s h (s.clock+1) P R k).1 2)), .v (.int .i64 (cO (cR s h (s.clock+1) P R k).1 3)), .v (.int .i64 (cO (cR s h (s.clock+1) P R k).1 4)), .v (.int .i64 (cO (cR s h (s.clock+1) P R k).1 5)), .v (.int .i64 (cO (cR s h (s.clock+1) P R k).1 6)), .v (.int .i64 (cO (cR s h (s.clock+1) P R k).1 7)), .v (.int .i64 (cO (cR s h (s.clock+1) P R k).1 8)), .v (.int .i64 (cO (cR s h (s.clock+1) P R k).1 9)), .v (.int .i64 (cO (cR s h (s.clock+1) P R k).1 10)), .v (.int .i64 (cO (cR s h (s.clock+1) P R k).1 11)), .v (.int .i64 (cO (cR s h (s.clock+1) P R k).1 12)), .v (.int .i64 (cO (cR s h (s.clock+1) P R k).1 13)), .v (.int .i64 (cO (cR s h (s.clock+1) P R k).1 14)), .v (.int .i64 (cO (cR s h (s.clock+1) P R k).1 15)), .v (.int .i64 (cO (cR s h (s.clock+1) P R k).1 16)), .v (.int .i64 (cO (cR s h (s.clock+1) P R k).1 17)), .v (.int .i64 (cO (cR s h (s.clock+1) P R k).1 18)), .v (.int .i64 (cO (cR s h (s.clock+1) P R k).1 19)), .v (.int .i64 (cO (cR s h (s.clock+1) P R k).1 20)), .v (.int .i64 (cO (cR s h (s.clock+1) P R k).1 21)), .v (.int .i64 (cO (cR s h (s.clock+1) P R k).1 22)), .v (.int .i64 (cO (cR s h (s.clock+1) P R k).1 23)), .v (.int .i64 (cO (cR s h (s.clock+1) P R k).1 24)), .v (.int .i64 (cO (cR s h (s.clock+1) P R k).1 25)), .v (.int .i64 (cO (cR s h (s.clock+1) P R k).1 26)), .v (.int .i64 (cO (cR s h (s.clock+1) P R k).1 27)), .v (.int .i64 (cO (cR s h (s.clock+1) P R k).1 28)), .v (.int .i64 (cO (cR s h (s.clock+1) P R k).1 29)), .v (.int .i64 (cO (cR s h (s.clock+1) P R k).1 30)), .v (.int .i64 (cO (cR s h (s.clock+1) P R k).1 31)), .v (.int .i64 (cO (cR s h (s.clock+1) P R k).1 32)), .v (.int .i64 (cO (cR s h (s.clock+1) P R k).1 33)), .v (.int .i64 (cO (cR s h (s.clock+1) P R k).1 34)), .v (.int .i64 (cO (cR s h (s.clock+1) P R k).1 35)), .v (.int .i64 (cO (cR s h (s.clock+1) P R k).1 36)), .v (.int .i64 (cO (cR s h (s.clock+1) P R k).1 37)), .v (.int .i64 (cO (cR s h (s.clock+1) P R k).1 38)), .v (.int .i64 (cO (cR s h (s.clock+1) P R k).1 39)), .v (.int .i64 (cO (cR s h (s.clock+1) P R k).1 40)), .v (.int .i64 ((cR s h (s.clock+1) P R k).1.wait)), .v (.int .i64 (0)), .v (.int .i64 (0))]),((22,0), .row 3 1 (cm (cR s h (s.clock+1) P R k).1.timers)),((18,0), .box 96 [.v (.int .i64 (self)), .v (.int .i64 (h:Int)), .v (.int .i64 (s.counts.getD h 0)), .ref (63,0) 0 (cR s h (s.clock+1) P R k).2.sent.length, .v (.bool (cR s h (s.clock+1) P R k).2.repl), .v (.int .i64 ((cR s h (s.clock+1) P R k).2.value)), .ref (64,0) 0 (cR s h (s.clock+1) P R k).2.fails.length, .sl R.vars.length (cm R.vars), .ref (62,0) 0 R.acts.length, .v (.int .i64 ((R.steps:Int))), .v (.bool (!R.fin)), .sl (fw (kE R.cov)).length (cm (fw (kE R.cov)))]),((63,0), .row 117 9 (BT ⟨self,(h:Int),s.counts.getD h 0⟩ (cR s h (s.clock+1) P R k).2.sent)),((64,0), .row 3 1 (cm (cR s h (s.clock+1) P R k).2.fails)),((62,1), .row 111 7 (L0++Q))]) [(4,9),(62,0),(62,1),(22,0),(63,0),(64,0)] [(4,9)] (fun k=> R.acts.length - k) 0 ?_ (by
  refine Le.mkJ [] [] rfl ?_ ?_ trivial tr ?_
  ·exact ⟨(iP rfl),(iP rfl),(iP rfl),(iP rfl),(iR rfl),(iV rfl),(co ag),trivial⟩
  ·exact ⟨(ca rfl rfl rfl),(ca rfl rfl rfl),(ca rfl rfl rfl),(ca rfl rfl rfl),(fm rfl rfl rfl rfl lz),(fg rfl rfl rfl ag),(fm rfl rfl rfl rfl lz),(fg rfl rfl rfl ag),(fg rfl rfl rfl ag),(fg rfl rfl rfl ag),trivial⟩
  kernel_rfl) ?_
 ·omega
 intro k hk
 refine am (ai (bm _ _ rfl rfl rfl) (aj (aU fun K15 hK15=> ?_)))
 refine aP rfl (fun hc84=> ?_) (fun hc84=> ?_)
 ·skip
  have ha:=hq k ab
  have hga:=uT R.acts k ab
  refine bs (hK15 _ ?_)
  clear hK15;try clear K15
  refine aq (ax (am (ai (gz _ _ aa rfl rfl rfl _ rfl ab (by exact Nat.zero_add _)) ?_)))
  refine ai (xB _ aa rfl rfl (by exact hga) rfl) ?_
  refine ai (aC (20,0) aa rfl rfl) (bG rfl rfl rfl rfl rfl rfl (aj (an (ai (az _ aa rfl rfl rfl rfl) (ai (az _ aa rfl rfl rfl rfl) (cw (Le.trans (Le.incT (89,2) rfl) (Le.trans (Le.incT (89,1) rfl) (Le.incT (89,0) rfl))) ?_))))))
  refine ai (bi aa [((1,9),(22,0)),((2,9),(18,0)),((3,9),(63,0)),((4,9),(64,0)),((5,9),(62,0)),((1,8),(89,0)),((3,8),(89,1)),((4,8),(89,2))] ar (ha) ob tr tr rfl ae ae) ?_
  refine bG rfl rfl rfl rfl rfl rfl (dS (an (ai (aZ _ _ rfl rfl (bE ab)) ?_)))
  refine aX rfl (aJ (⟨k+1,?_,?_,?_⟩))
  ·omega
  ·skip
   refine Le.mkJ [((22,0),(89,0)),((63,0),(89,1)),((64,0),(89,2))] [] rfl ?_ ?_ trivial tr ?_
   ·exact ⟨(dI (id:=(8,0)) rfl),(dI (id:=(16,0)) rfl),(dI (id:=(17,0)) rfl),(dI (id:=(18,0)) rfl),(cP (id:=(62,0)) rfl rfl),(by repeat' (exact Lv.v)),(co ag),trivial⟩
   ·exact ⟨(fm rfl rfl rfl rfl (by repeat' (first | exact Lv.v | exact bf | refine au ?_ ?_))),(fm rfl rfl rfl rfl (by repeat' (first | exact Lv.v | exact bf | refine au ?_ ?_))),(fg rfl rfl rfl rfl),(fm rfl rfl rfl rfl (by repeat' (first | exact Lv.v | exact Lv.sl | exact cP (id:=(62,1)) rfl rfl | exact bf | refine au ?_ ?_))),(fm rfl rfl rfl rfl lz),(fg rfl rfl rfl ag),(fm rfl rfl rfl rfl lz),(fg rfl rfl rfl ag),(fg rfl rfl rfl ag),(fg rfl rfl rfl ag),trivial⟩
   kernel_rfl
  omega
 obtain rfl:k=R.acts.length:=by omega
 refine bD (id (hK12 _ ?_))
 clear hK12;try clear K12
 refine aq (hG 3 [91,92] [(16,0)] [[(16,0)],[],[]] ae ae rfl (aK rfl) (rfl:_=[_,_,_]) (rfl:_=[_]) ?_)
 refine ap (_,[]) (fun τ=> az _ aa rfl rfl rfl rfl) ?_
 refine fF rfl ?_
 refine ap (_,[]) (fun τ=> az _ aa rfl rfl rfl rfl) ?_
 refine fL rfl ?_
 refine ap (_,[((16,0),_)]) (fun τ=> dE _ _ aa rfl (eF rfl (by exact dJ) rfl) rfl rfl (Nat.le_of_ble_eq_true rfl) rfl) ?_
 refine fA rfl (bl ⟨⟨rfl,by kernel_rfl⟩,?_⟩)
 exact bG rfl rfl rfl rfl rfl rfl (aj (aG (jV (.inr rfl) rfl (.cellA aa rfl rfl rfl) (.cellA aa rfl rfl rfl) (Le.outI [((1,8),(22,0)),((2,8),(62,0)),((3,8),(63,0)),((6,8),(64,0)),((5,8),(62,1))] [] (.tup rfl lz) rfl rfl rfl trivial ob tr rfl))))
set_option maxHeartbeats 4000000 in
theorem Qw (s:Ns) (hs:jI s) (ho:ji s.dk) (hc:s.counts.length=41) (P:Pg) (h:Nat) (hh:h < 40) (self nodes drift tk:Int) (nm:List Int) (t:Tl) (hdr:0 < drift) (hlk:sW t 2 0 (drift+1) tk) (htk:0≤tk∧tk≤1000000) (hdr2:drift≤1000000) (hcb: ∀ k, -1000000≤s.counts.getD k 0∧s.counts.getD k 0≤1000000) (hck: -1000000≤s.clock∧s.clock≤1000000)
  (R:Ms) (Q:List PV) (hv:Spec Tryz.prog 59 (aY [ii P, .v (.int .i64 (h:Int)), .agg [.sl (s.dk.view++s.vol).length (cm (s.dk.view++s.vol)), .v (.int .i64 self), .v (.int .i64 nodes), .v (.int .i64 (s.clock+1+tk)), .v (.int .i64 (nm.getD 3 0)), .v (.int .i64 (nm.getD 4 0)), .v (.int .i64 (nm.getD 5 0)), .v (.int .i64 (nm.getD 6 0)), .v (.int .i64 (nm.getD 7 0)), .v (.int .i64 (nm.getD 8 0))],wF (6,9)] (AQ t 1 (vB t 2 0 (drift+1) tk) (5,9)))
   (bc (.agg [.sl R.vars.length (cm R.vars), .ref (2,8) 0 R.acts.length, .v (.int .i64 (R.steps:Int)), .v (.bool (!R.fin)), .sl (fw (kE R.cov)).length (cm (fw (kE R.cov)))]) (((2,8), .row 57 5 (vk R.acts))::AQ t (1+R.asked.length) (vB t 2 0 (drift+1) tk++Q) (5,8)) [(2,8),(4,9),(5,8),(6,9)] [(4,9),(6,9)]))
  (hd:P.d≤R.vars.length) (hrv:R.vars.length≤1000) (hra:R.acts.length≤500)
  (hq: ∀ i,i < R.acts.length→nN ⟨self,(h:Int),s.counts.getD h 0⟩ (GU R) (cR s h (s.clock+1+tk) P R i).1 (cR s h (s.clock+1+tk) P R i).2 (mH R.acts i) (cR s h (s.clock+1+tk) P R (i+1)).1 (cR s h (s.clock+1+tk) P R (i+1)).2):
  Spec Tryz.prog 81 (aY [jH s,ii P, .v (.int .i64 (h:Int)), .v (.int .i64 self), .v (.int .i64 nodes), .v (.int .i64 drift),Du nm,jl] (oy t 0 [] (5,9)))
   (bc (.tup [.agg (GD (cR s h (s.clock+1+tk) P R R.acts.length).1 (.ref (1,8) 0 (cR s h (s.clock+1+tk) P R R.acts.length).1.timers.length)), .agg (Kl ⟨self,(h:Int),s.counts.getD h 0⟩ (cR s h (s.clock+1+tk) P R R.acts.length).2 (GU R) (3,8) (6,8) (2,8))]) (LD ⟨self,(h:Int),s.counts.getD h 0⟩ R (cR s h (s.clock+1+tk) P R R.acts.length) t (1+R.asked.length) (vB t 2 0 (drift+1) tk++Q)) [(1,8),(2,8),(3,8),(4,9),(5,8),(6,8)] [(4,9)]):=by
 have hcb2:=hcb h
 have hcb2: -1000000≤cO s h∧cO s h≤1000000:=hcb2
 have hce:=te s h ab (s.counts.getD h 0+1)
 have hal:=fS R.acts
 have hown:=kk s hs
 have htl:=oB t 2 0 (drift+1) tk 0 [] rfl ab ab hlk
 have hnv:=oZ { s with clock:=s.clock+1+tk } ⟨hs.c,hs.p,hs.v,hs.t⟩ ho
 have hcl:=nL (R.vars.drop P.d) (by rw [List.length_drop];omega)
 have hds:((cm R.vars).drop (P.d*1)).take ((R.vars.length - P.d)*1)=cm (R.vars.drop P.d):=by
  rw [Nat.mul_one,Nat.mul_one,List.take_of_length_le (by rw [List.length_drop,aN];omega)]
  simp [cm,List.map_drop]
 have hdl:R.vars.length - P.d=(R.vars.drop P.d).length:=by rw [List.length_drop]
 refine Spec.ofNI Tryz.func81 rfl Tryz.ntmps81 rfl ?_
 refine am (ai (aR (8,0) _ rfl rfl) (ai (aR (9,0) _ rfl rfl) (ai (aR (14,0) _ rfl rfl) (ai (aR (15,0) _ rfl rfl) (ai (aC (16,0) aa rfl rfl) (ai (aC (17,0) aa rfl rfl) (aj (am (ai (az _ aa rfl rfl rfl rfl) (ai (bS aa [((1,8),(22,0))] ar (hown.toI) trivial tr tr rfl rfl ae ae) ?_))))))))))
 refine bG rfl rfl rfl rfl rfl rfl (aj (am (aX rfl (aX rfl (aX rfl (bb rfl rfl rfl (ai (cY _ _ aa rfl rfl rfl h rfl ab (show 8+h*1=8+h from by omega)) ?_)))))))
 refine ai (aF _ aa rfl rfl (nE _ _ _ _ _ _ _ _ _ _ h ab)) ?_
 refine ai (aL _ aa rfl (by exact (rfl:_=some [_,_,_]))) ?_
 refine ai (aL _ aa rfl (by exact (rfl:_=some [_,_,_,_,_,_,_,_,_,_,_,_]))) ?_
 refine ai (aC (18,0) aa rfl rfl) (bG rfl rfl rfl rfl rfl rfl (aj (aq ?_)))
 refine aM (σ':=aD 93 [(2,_),(3,_),(4,_),(5,_),(8,_),(9,_),(14,_),(15,_),(16,_),(17,_),(18,_)] [((4,9),_),((5,9),_),((8,0),_),((9,0),_),((14,0),_),((15,0),_),((16,0),_),((17,0),_),((22,0),_),((18,0),_)] [(4,9),(5,9)] [(4,9)]) kp ?_
 refine an (bb rfl rfl rfl (cf rfl rfl rfl (ai (aZ _ _ rfl rfl (bE ab)) ?_)))
 refine bb rfl rfl rfl (bG rfl rfl rfl rfl rfl rfl (aj (aU fun K5 hK5=> ?_)))
 refine am (aX rfl (ai (gA (r:=true) _ _ rfl rfl (decide_eq_true ab)) ?_))
 refine aj (bL rfl rfl ?_)
 refine aM (Le.incT (42,0) rfl) ?_
 refine bK 7 [37,38,39,40,41,42,43] [(4,9),(42,0),(5,9)] ae ae rfl (aK rfl) (rfl:_=[_,_,_,_,_,_,_]) (rfl:_=[_,_]) ?_
 refine ap (_,[]) (fun τ=> aA _ aa rfl rfl rfl) ?_
 refine fF rfl ?_
 refine ap (_,[]) (fun τ=> aF _ aa rfl rfl eg) ?_
 refine fL rfl ?_
 refine ap (_,[]) (fun τ=> aF _ aa rfl rfl (rfl:_=some (AV.fn _ _ _))) ?_
 refine fA rfl ?_
 refine ap (_,[]) (fun τ=> aI _ eu) ?_
 refine fT rfl ?_
 refine ap (_,[]) (fun τ=> aZ _ _ rfl rfl (bE ab)) ?_
 refine gj rfl ?_
 refine ap (_,[((4,9),_),((42,0),_),((5,9), .gone)]) (fun τ=> (jv rfl aa [((5,8),(42,0))] ar (htl) ob tr tr rfl ae ae)) ?_
 refine gU rfl ?_
 refine ap (_,[]) (fun τ=> aZ _ _ rfl rfl (bE ab)) ?_
 refine iC rfl (bl ⟨rfl,?_⟩)
 refine bb rfl rfl rfl (bG rfl rfl rfl rfl rfl rfl (aJ (hK5 _ ?_)))
 clear hK5;try clear K5
 refine aU fun K7 hK7=> ?_
 refine aM (σ':=aD 93 [(2,_),(3,_),(4,_),(8,_),(9,_),(14,_),(15,_),(16,_),(17,_),(18,_)] [((4,9),_),((8,0),_),((9,0),_),((14,0),_),((15,0),_),((16,0),_),((17,0),_),((22,0),_),((18,0),_),((42,0),_)] [(4,9),(42,0)] [(4,9)]) kp ?_
 refine an (ai (az _ aa rfl rfl rfl rfl) (ai (bS aa [((1,9),(22,0))] ar (hnv) ob tr tr rfl rfl ae ae) ?_))
 refine bb rfl rfl rfl (bG rfl rfl rfl rfl rfl rfl (aJ (hK7 _ ?_)))
 clear hK7;try clear K7
 refine aq ?_
 refine aM (σ':=aD 93 [(2,_),(3,_),(4,_),(8,_),(9,_),(14,_),(15,_),(16,_),(17,_),(18,_)] [((4,9),_),((8,0),_),((9,0),_),((14,0),_),((15,0),_),((16,0),_),((17,0),_),((22,0),_),((18,0),_),((42,0),_)] [(4,9),(42,0)] [(4,9)]) kp ?_
 refine xy (14,0) (fun c=> ∃ xs,c=Slot.obj (.box 132 xs)) 11 [48,49,50,51,52,53,54,55,56] [(14,0),(14,0)] ae ae rfl (rfl:_=[_,_,_,_,_,_,_,_,_,_,_]) (rfl:_=[_,_]) (⟨_,rfl⟩) ?_
 refine ez (_,[]) (fun τ hτ=> aI _ eu) ?_
 refine ev (rfl:_=[_]) ?_
 refine ez (_,[]) (fun τ hτ=> aI _ eu) ?_
 refine ev (rfl:_=[_,_]) ?_
 refine ez (_,[]) (fun τ hτ=> aA _ aa rfl rfl rfl) ?_
 refine ev (rfl:_=[_,_,_]) ?_
 refine ez (_,[]) (fun τ hτ=> aF _ aa rfl rfl eg) ?_
 refine ev (rfl:_=[_,_,_,_]) ?_
 refine ez (_,[]) (fun τ hτ=> aA _ aa rfl (by exact hτ.choose_spec) rfl) ?_
 refine ev (rfl:_=[_,_,_,_,_]) ?_
 refine ez (_,[]) (fun τ hτ=> cY _ _ aa rfl (by exact hτ.choose_spec) rfl 0 rfl ab rfl) ?_
 refine ev (rfl:_=[_,_,_,_,_,_]) ?_
 refine ez (_,[((14,0),_)]) (fun τ hτ=> dE _ _ aa rfl rfl rfl rfl (Nat.le_of_ble_eq_true rfl) rfl) ?_
 refine ev (rfl:_=[_,_,_,_,_,_,_]) ?_
 refine ez (_,[]) (fun τ hτ=> aA _ aa rfl (by exact hτ.choose_spec) rfl) ?_
 refine ev (rfl:_=[_,_,_,_,_,_,_,_]) ?_
 refine ez (_,[]) (fun τ hτ=> cY _ _ aa rfl rfl rfl 1 rfl ab rfl) ?_
 refine ev (rfl:_=[_,_,_,_,_,_,_,_,_]) ?_
 refine ez (_,[((14,0),_)]) (fun τ hτ=> dE _ _ aa rfl rfl rfl rfl (Nat.le_of_ble_eq_true rfl) rfl) ?_
 refine ev (rfl:_=[_,_,_,_,_,_,_,_,_,_]) ?_
 refine ez (_,[]) (fun τ hτ=> aA _ aa rfl (by exact hτ.choose_spec) rfl) ?_
 refine ev (rfl:_=[_,_,_,_,_,_,_,_,_,_,_]) ?_
 refine ut ⟨⟨⟨rfl,by kernel_rfl,by kernel_rfl⟩,(by intro r hr c hc;simp only [List.mem_cons,List.not_mem_nil,or_false] at hr;rcases hr with rfl | rfl | rfl | rfl | rfl | rfl | rfl | rfl | rfl | rfl | rfl <;> simp at hc <;> (subst hc;exact ⟨_,rfl⟩))⟩,?_⟩
 refine ai (cY _ _ aa rfl rfl rfl 2 rfl ab rfl) ?_
 refine bG rfl rfl rfl rfl rfl rfl (aj (aU fun K9 hK9=> ?_))
 refine an (ai (az _ aa rfl rfl rfl rfl) (aX rfl (ai (az _ aa rfl rfl rfl rfl) (ai (jk _ _ (rfl:_=[]) (rfl:_=[AV.ptr _ _])) ?_))))
 refine cw (Le.trans (Le.incT (62,1) rfl) (Le.incT (62,0) rfl)) ?_
 refine ai (bi aa [((5,9),(42,0)),((6,9),(15,0)),((2,8),(62,0)),((5,8),(62,1))] ar (hv) ob tr tr rfl ae ae) ?_
 refine bb rfl rfl rfl (bG rfl rfl rfl rfl rfl rfl (aJ (hK9 _ ?_)))
 clear hK9;try clear K9
 refine aq ?_
 refine aM (σ':=aD 93 [(2,_),(8,_),(9,_),(16,_),(17,_),(18,_)] [((8,0),_),((9,0),_),((16,0),_),((17,0),_),((22,0),_),((18,0),_),((62,0),_),((4,9),_),((62,1),_)] [(4,9),(62,0),(62,1)] [(4,9)]) kp ?_
 refine an (aX rfl (bb rfl rfl rfl (ai (cY _ _ aa rfl rfl rfl h rfl ab (show 8+h*1=8+h from by omega)) ?_)))
 refine ai (aF _ aa rfl rfl (nE _ _ _ _ _ _ _ _ _ _ h ab)) ?_
 refine ai (aZ _ _ rfl rfl (bE ab)) ?_
 refine bb rfl rfl rfl (ai (cY _ _ aa rfl rfl rfl h rfl ab (show 8+h*1=8+h from by omega)) ?_)
 refine ai (dE _ _ aa rfl rfl rfl rfl (by show (8+h)+1≤52;omega) ((sR s.up s.ver s.epoch (s.clock+1+tk) _ _ _ _ (cO s) s.wait h ab _).trans (congrArg (fun e=> IH s.up s.ver s.epoch (s.clock+1+tk) _ _ _ _ e s.wait) hce))) ?_
 refine aj (am (bb rfl rfl rfl (bb rfl rfl rfl (eV rfl rfl rfl (bb rfl rfl rfl (cf rfl rfl rfl (ai (jx _ _ _ aa rfl P.d R.vars.length (.lit rfl rfl) .dflt hd (Nat.le_refl _) hds hdl) ?_)))))))
 refine ai (aH aa al (hcl) rfl rfl) ?_
 refine bb rfl rfl rfl (bG rfl rfl rfl rfl rfl rfl (aj (aU fun K12 hK12=> ?_)))
 refine aq ?_
 refine aM (σ':=aD 93 [(8,_),(16,_),(17,_),(18,_)] [((8,0),_),((16,0),_),((17,0),_),((22,0),_),((18,0),_),((62,0),_),((4,9),_),((62,1),_)] [(4,9),(62,0),(62,1)] [(4,9)]) kp ?_
 refine an (bb rfl rfl rfl (bb rfl rfl rfl (ai (aF _ aa rfl rfl eN) (ai (dg _ aa rfl rfl) (aX rfl (aj (ax ?_)))))))
 refine aM (Le.incA (22,0)) ?_
 refine aM (Le.incT (63,0) rfl) ?_
 refine aM (Le.incT (64,0) rfl) ?_
 refine aM (Le.nilB (18,0) 3 (63,0) 117 9 rfl rfl rfl) ?_
 refine aM (Le.nilB (18,0) 6 (64,0) 3 1 rfl rfl rfl) ?_
 refine bq (α:=Nat) (fun k=> k≤R.acts.length) 93 [(8,_),(16,_),(17,_),(18,_),(81,_),(82,_)] [((16,0),_),((17,0),_),((62,0),_),((4,9),_)] (fun k=> [(83, .v (.int .i64 (k:Int)))]) (fun k=> [((8,0), .box 83 [.v (.bool (cR s h (s.clock+1+tk) P R k).1.up), .v (.int .i64 ((cR s h (s.clock+1+tk) P R k).1.ver)), .v (.int .i64 ((cR s h (s.clock+1+tk) P R k).1.epoch)), .v (.int .i64 ((cR s h (s.clock+1+tk) P R k).1.clock)), .sl (cR s h (s.clock+1+tk) P R k).1.dk.cells.length (cm (cR s h (s.clock+1+tk) P R k).1.dk.cells), .sl (cR s h (s.clock+1+tk) P R k).1.dk.pend.length (lQ (cR s h (s.clock+1+tk) P R k).1.dk.pend), .sl (cR s h (s.clock+1+tk) P R k).1.vol.length (cm (cR s h (s.clock+1+tk) P R k).1.vol), .ref (22,0) 0 (cR s h (s.clock+1+tk) P R k).1.timers.length, .v (.int .i64 (cO (cR s h (s.clock+1+tk) P R k).1 0)), .v (.int .i64 (cO (cR s h (s.clock+1+tk) P R k).1 1)), .v (.int .i64 (cO (cR s h (s.clock+1+tk) P R k).1 2)), .v (.int .i64 (cO (cR s h (s.clock+1+tk) P R k).1 3)), .v (.int .i64 (cO (cR s h (s.clock+1+tk) P R k).1 4)), .v (.int .i64 (cO (cR s h (s.clock+1+tk) P R k).1 5)), .v (.int .i64 (cO (cR s h (s.clock+1+tk) P R k).1 6)), .v (.int .i64 (cO (cR s h (s.clock+1+tk) P R k).1 7)), .v (.int .i64 (cO (cR s h (s.clock+1+tk) P R k).1 8)), .v (.int .i64 (cO (cR s h (s.clock+1+tk) P R k).1 9)), .v (.int .i64 (cO (cR s h (s.clock+1+tk) P R k).1 10)), .v (.int .i64 (cO (cR s h (s.clock+1+tk) P R k).1 11)), .v (.int .i64 (cO (cR s h (s.clock+1+tk) P R k).1 12)), .v (.int .i64 (cO (cR s h (s.clock+1+tk) P R k).1 13)), .v (.int .i64 (cO (cR s h (s.clock+1+tk) P R k).1 14)), .v (.int .i64 (cO (cR s h (s.clock+1+tk) P R k).1 15)), .v (.int .i64 (cO (cR s h (s.clock+1+tk) P R k).1 16)), .v (.int .i64 (cO (cR s h (s.clock+1+tk) P R k).1 17)), .v (.int .i64 (cO (cR s h (s.clock+1+tk) P R k).1 18)), .v (.int .i64 (cO (cR s h (s.clock+1+tk) P R k).1 19)), .v (.int .i64 (cO (cR s h (s.clock+1+tk) P R k).1 20)), .v (.int .i64 (cO (cR s h (s.clock+1+tk) P R k).1 21)), .v (.int .i64 (cO (cR s h (s.clock+1+tk) P R k).1 22)), .v (.int .i64 (cO (cR s h (s.clock+1+tk) P R k).1 23)), .v (.int .i64 (cO (cR s h (s.clock+1+tk) P R k).1 24)), .v (.int .i64 (cO (cR s h (s.clock+1+tk) P R k).1 25)), .v (.int .i64 (cO (cR s h (s.clock+1+tk) P R k).1 26)), .v (.int .i64 (cO (cR s h (s.clock+1+tk) P R k).1 27)), .v (.int .i64 (cO (cR s h (s.clock+1+tk) P R k).1 28)), .v (.int .i64 (cO (cR s h (s.clock+1+tk) P R k).1 29)), .v (.int .i64 (cO (cR s h (s.clock+1+tk) P R k).1 30)), .v (.int .i64 (cO (cR s h (s.clock+1+tk) P R k).1 31)), .v (.int .i64 (cO (cR s h (s.clock+1+tk) P R k).1 32)), .v (.int .i64 (cO (cR s h (s.clock+1+tk) P R k).1 33)), .v (.int .i64 (cO (cR s h (s.clock+1+tk) P R k).1 34)), .v (.int .i64 (cO (cR s h (s.clock+1+tk) P R k).1 35)), .v (.int .i64 (cO (cR s h (s.clock+1+tk) P R k).1 36)), .v (.int .i64 (cO (cR s h (s.clock+1+tk) P R k).1 37)), .v (.int .i64 (cO (cR s h (s.clock+1+tk) P R k).1 38)), .v (.int .i64 (cO (cR s h (s.clock+1+tk) P R k).1 39)), .v (.int .i64 (cO (cR s h (s.clock+1+tk) P R k).1 40)), .v (.int .i64 ((cR s h (s.clock+1+tk) P R k).1.wait)), .v (.int .i64 (0)), .v (.int .i64 (0))]),((22,0), .row 3 1 (cm (cR s h (s.clock+1+tk) P R k).1.timers)),((18,0), .box 96 [.v (.int .i64 (self)), .v (.int .i64 (h:Int)), .v (.int .i64 (s.counts.getD h 0)), .ref (63,0) 0 (cR s h (s.clock+1+tk) P R k).2.sent.length, .v (.bool (cR s h (s.clock+1+tk) P R k).2.repl), .v (.int .i64 ((cR s h (s.clock+1+tk) P R k).2.value)), .ref (64,0) 0 (cR s h (s.clock+1+tk) P R k).2.fails.length, .sl R.vars.length (cm R.vars), .ref (62,0) 0 R.acts.length, .v (.int .i64 ((R.steps:Int))), .v (.bool (!R.fin)), .sl (fw (kE R.cov)).length (cm (fw (kE R.cov)))]),((63,0), .row 117 9 (BT ⟨self,(h:Int),s.counts.getD h 0⟩ (cR s h (s.clock+1+tk) P R k).2.sent)),((64,0), .row 3 1 (cm (cR s h (s.clock+1+tk) P R k).2.fails)),((62,1), .row 111 7 (vB t 2 0 (drift+1) tk++Q))]) [(4,9),(62,0),(62,1),(22,0),(63,0),(64,0)] [(4,9)] (fun k=> R.acts.length - k) 0 ?_ (by
  refine Le.mkJ [] [] rfl ?_ ?_ trivial tr ?_
  ·exact ⟨(iP rfl),(iP rfl),(iP rfl),(iP rfl),(iR rfl),(iV rfl),(co ag),trivial⟩
  ·exact ⟨(ca rfl rfl rfl),(ca rfl rfl rfl),(ca rfl rfl rfl),(ca rfl rfl rfl),(fm rfl rfl rfl rfl lz),(fg rfl rfl rfl ag),(fm rfl rfl rfl rfl lz),(fg rfl rfl rfl ag),(fg rfl rfl rfl ag),(fg rfl rfl rfl ag),trivial⟩
  kernel_rfl) ?_
 ·omega
 intro k hk
 refine am (ai (bm _ _ rfl rfl rfl) (aj (aU fun K15 hK15=> ?_)))
 refine aP rfl (fun hc84=> ?_) (fun hc84=> ?_)
 ·skip
  have ha:=hq k ab
  have hga:=uT R.acts k ab
  refine bs (hK15 _ ?_)
  clear hK15;try clear K15
  refine aq (ax (am (ai (gz _ _ aa rfl rfl rfl _ rfl ab (by exact Nat.zero_add _)) ?_)))
  refine ai (xB _ aa rfl rfl (by exact hga) rfl) ?_
  refine ai (aC (20,0) aa rfl rfl) (bG rfl rfl rfl rfl rfl rfl (aj (an (ai (az _ aa rfl rfl rfl rfl) (ai (az _ aa rfl rfl rfl rfl) (cw (Le.trans (Le.incT (89,2) rfl) (Le.trans (Le.incT (89,1) rfl) (Le.incT (89,0) rfl))) ?_))))))
  refine ai (bi aa [((1,9),(22,0)),((2,9),(18,0)),((3,9),(63,0)),((4,9),(64,0)),((5,9),(62,0)),((1,8),(89,0)),((3,8),(89,1)),((4,8),(89,2))] ar (ha) ob tr tr rfl ae ae) ?_
  refine bG rfl rfl rfl rfl rfl rfl (dS (an (ai (aZ _ _ rfl rfl (bE ab)) ?_)))
  refine aX rfl (aJ (⟨k+1,?_,?_,?_⟩))
  ·omega
  ·skip
   refine Le.mkJ [((22,0),(89,0)),((63,0),(89,1)),((64,0),(89,2))] [] rfl ?_ ?_ trivial tr ?_
   ·exact ⟨(dI (id:=(8,0)) rfl),(dI (id:=(16,0)) rfl),(dI (id:=(17,0)) rfl),(dI (id:=(18,0)) rfl),(cP (id:=(62,0)) rfl rfl),(by repeat' (exact Lv.v)),(co ag),trivial⟩
   ·exact ⟨(fm rfl rfl rfl rfl (by repeat' (first | exact Lv.v | exact bf | refine au ?_ ?_))),(fm rfl rfl rfl rfl (by repeat' (first | exact Lv.v | exact bf | refine au ?_ ?_))),(fg rfl rfl rfl rfl),(fm rfl rfl rfl rfl (by repeat' (first | exact Lv.v | exact Lv.sl | exact cP (id:=(62,1)) rfl rfl | exact bf | refine au ?_ ?_))),(fm rfl rfl rfl rfl lz),(fg rfl rfl rfl ag),(fm rfl rfl rfl rfl lz),(fg rfl rfl rfl ag),(fg rfl rfl rfl ag),(fg rfl rfl rfl ag),trivial⟩
   kernel_rfl
  omega
 obtain rfl:k=R.acts.length:=by omega
 refine bD (id (hK12 _ ?_))
 clear hK12;try clear K12
 refine aq (hG 3 [91,92] [(16,0)] [[(16,0)],[],[]] ae ae rfl (aK rfl) (rfl:_=[_,_,_]) (rfl:_=[_]) ?_)
 refine ap (_,[]) (fun τ=> az _ aa rfl rfl rfl rfl) ?_
 refine fF rfl ?_
 refine ap (_,[]) (fun τ=> az _ aa rfl rfl rfl rfl) ?_
 refine fL rfl ?_
 refine ap (_,[((16,0),_)]) (fun τ=> dE _ _ aa rfl (eF rfl (by exact dJ) rfl) rfl rfl (Nat.le_of_ble_eq_true rfl) rfl) ?_
 refine fA rfl (bl ⟨⟨rfl,by kernel_rfl⟩,?_⟩)
 exact bG rfl rfl rfl rfl rfl rfl (aj (aG (jV (.inr rfl) rfl (.cellA aa rfl rfl rfl) (.cellA aa rfl rfl rfl) (Le.outI [((1,8),(22,0)),((2,8),(62,0)),((3,8),(63,0)),((6,8),(64,0)),((5,8),(62,1))] [] (.tup rfl lz) rfl rfl rfl trivial ob tr rfl))))

abbrev iW (c:Cz) (R:Ms) (q:Ns×Nr) (t:Tl) (n:Nat) (L:List PV):St:=bc (.tup [.agg (GD q.1 (.ref (1,8) 0 q.1.timers.length)), .agg (Kl c q.2 (GU R) (3,8) (6,8) (2,8))]) (LD c R q t n L) [(1,8),(2,8),(3,8),(4,9),(5,8),(6,8)] [(4,9)]
set_option maxHeartbeats 4000000 in
theorem PB (s:Ns) (hs:jI s) (ho:ji s.dk) (P:Pg) (ver self nodes drift:Int) (t:Tl) (n0:Nat) (L0:List PV) (hd:s.dk.cells.length=P.d) (hpd:P.d≤1000) (hpv:P.v≤1000)
  (c:Cz) (R:Ms) (q:Ns×Nr) (n:Nat) (L:List PV) (hH:Spec Tryz.prog 81 (aY [jH (cM s P ver),ii P, .v (.int .i64 ((0:Nat):Int)), .v (.int .i64 self), .v (.int .i64 nodes), .v (.int .i64 drift),Du (List.replicate 9 0),jl] (oy t n0 L0 (5,9))) (iW c R q t n L)):
  Spec Tryz.prog 56 (aY [jH s,ii P, .v (.int .i64 ver), .v (.int .i64 self), .v (.int .i64 nodes), .v (.int .i64 drift),jl] (oy t n0 L0 (5,9))) (iW c R q t n L):=by
 have hown:=kk s hs
 have hcc:=hs.c
 have hpp:=hs.p
 have hb:cM s P ver={ s with ver:=ver,vol:=List.replicate P.v 0,timers:=[],wait:= -1,up:=true }:=by unfold cM;rw [if_pos hd]
 rw [hb] at hH
 refine Spec.ofNI Tryz.func56 rfl Tryz.ntmps56 rfl ?_
 refine am (ai (aR (7,0) _ rfl rfl) (ai (aR (8,0) _ rfl rfl) (ai (aC (14,0) aa rfl rfl) (ai (aC (15,0) aa rfl rfl) (aj (am (ai (az _ aa rfl rfl rfl rfl) (ai (bS aa [((1,8),(17,0))] ar (hown.toI) trivial tr tr rfl rfl ae ae) ?_))))))))
 refine bG rfl rfl rfl rfl rfl rfl (aj (am (aX rfl (bb rfl rfl rfl (bG rfl rfl rfl rfl rfl rfl (aj (aq (am (bb rfl rfl rfl (bb rfl rfl rfl ?_))))))))))
 refine eV rfl rfl rfl (ai (bn _ aa rfl) (bb rfl rfl rfl (cf rfl rfl rfl (ai (bY (r:=false) _ _ rfl rfl (by rw [hd];exact bne_self_eq_false _)) ?_))))
 refine aj (aW rfl rfl (aS (aq ?_)))
 refine aM (σ':=aD 50 [(3,_),(4,_),(5,_),(6,_),(7,_),(8,_),(14,_),(15,_)] [((4,9),_),((5,9),_),((7,0),_),((8,0),_),((14,0),_),((15,0),_),((17,0),_)] [(4,9),(5,9)] [(4,9)]) kp ?_
 refine an (bb rfl rfl rfl (cf rfl rfl rfl (ai (pQ (35,0) _ _ aa rfl rfl (List.replicate P.v (0:Int)).length (by rw [List.length_replicate]) (by rw [List.length_replicate]) (by rw [List.length_replicate];omega) rfl (show _=cm (List.replicate P.v 0) by rw [List.length_replicate];exact oo P.v)) ?_)))
 refine bb rfl rfl rfl (bG rfl rfl rfl rfl rfl rfl (bb rfl rfl rfl (bG rfl rfl rfl rfl rfl rfl (bb rfl rfl rfl (bG rfl rfl rfl rfl rfl rfl (bb rfl rfl rfl (bG rfl rfl rfl rfl rfl rfl (aj (aU fun K7 hK7=> ?_)))))))))
 refine aM (Le.frzB (ys:=cm (List.replicate P.v 0)) (7,0) 6 rfl rfl rfl rfl (by rw [List.drop_zero,Nat.mul_one,List.take_of_length_le (by rw [aN];exact Nat.le_refl _)]) (by rw [aN,Nat.mul_one,Nat.zero_add];exact Nat.le_refl _)) ?_
 refine an (ai (az _ aa rfl rfl rfl rfl) (ai (az _ aa rfl rfl rfl rfl) (aX rfl (aX rfl (aX rfl (ai (aL _ aa rfl (by exact Dn)) ?_))))))
 refine ai (aI _ lC) (cw (Le.trans (Le.incT (47,4) rfl) (Le.trans (Le.incT (47,3) rfl) (Le.trans (Le.incT (47,2) rfl) (Le.trans (Le.incT (47,1) rfl) (Le.incT (47,0) rfl))))) ?_)
 refine ai (bi aa [((1,8),(47,0)),((2,8),(47,1)),((3,8),(47,2)),((6,8),(47,3)),((5,8),(47,4))] ar (hH) ob tr tr rfl ae ae) ?_
 refine ai (cq _ rfl pE) (ai (cq _ rfl pE) (bG rfl rfl rfl rfl rfl rfl (bG rfl rfl rfl rfl rfl rfl (aJ (hK7 _ ?_)))))
 clear hK7;try clear K7
 exact aG (jV (.inr rfl) rfl (.cellA aa rfl rfl rfl) (.cellA aa rfl rfl rfl) (Le.outI [((1,8),(47,0)),((2,8),(47,1)),((3,8),(47,2)),((6,8),(47,3)),((5,8),(47,4))] [] (.tup rfl lz) rfl rfl rfl trivial ob tr rfl))
set_option maxHeartbeats 4000000 in
theorem Rq (s:Ns) (hs:jI s) (ho:ji s.dk) (P:Pg) (ver self nodes drift:Int) (t:Tl) (n0:Nat) (L0:List PV) (hd:s.dk.cells.length≠P.d) (hpd:P.d≤1000) (hpv:P.v≤1000)
  (c:Cz) (R:Ms) (q:Ns×Nr) (n:Nat) (L:List PV) (hH:Spec Tryz.prog 81 (aY [jH (cM s P ver),ii P, .v (.int .i64 ((0:Nat):Int)), .v (.int .i64 self), .v (.int .i64 nodes), .v (.int .i64 drift),Du (List.replicate 9 0),jl] (oy t n0 L0 (5,9))) (iW c R q t n L)):
  Spec Tryz.prog 56 (aY [jH s,ii P, .v (.int .i64 ver), .v (.int .i64 self), .v (.int .i64 nodes), .v (.int .i64 drift),jl] (oy t n0 L0 (5,9))) (iW c R q t n L):=by
 have hown:=kk s hs
 have hcc:=hs.c
 have hpp:=hs.p
 have hb:cM s P ver={ s with ver:=ver,dk:=s.dk.resize P.d,vol:=List.replicate P.v 0,timers:=[],wait:= -1,up:=true }:=by unfold cM;rw [if_neg hd]
 rw [hb] at hH
 have hrz:=tu s.dk P.d ab ab ab ho
 refine Spec.ofNI Tryz.func56 rfl Tryz.ntmps56 rfl ?_
 refine am (ai (aR (7,0) _ rfl rfl) (ai (aR (8,0) _ rfl rfl) (ai (aC (14,0) aa rfl rfl) (ai (aC (15,0) aa rfl rfl) (aj (am (ai (az _ aa rfl rfl rfl rfl) (ai (bS aa [((1,8),(17,0))] ar (hown.toI) trivial tr tr rfl rfl ae ae) ?_))))))))
 refine bG rfl rfl rfl rfl rfl rfl (aj (am (aX rfl (bb rfl rfl rfl (bG rfl rfl rfl rfl rfl rfl (aj (aq (am (bb rfl rfl rfl (bb rfl rfl rfl ?_))))))))))
 refine eV rfl rfl rfl (ai (bn _ aa rfl) (bb rfl rfl rfl (cf rfl rfl rfl (ai (bY (r:=true) _ _ rfl rfl (bne_iff_ne.2 fun h=> hd (Int.ofNat_inj.1 h))) ?_))))
 refine aj (bL rfl rfl ?_)
 refine aM (σ':=aD 50 [(3,_),(4,_),(5,_),(6,_),(7,_),(8,_),(14,_),(15,_)] [((4,9),_),((5,9),_),((7,0),_),((8,0),_),((14,0),_),((15,0),_),((17,0),_)] [(4,9),(5,9)] [(4,9)]) kp ?_
 refine an (bb rfl rfl rfl (ai (az _ aa rfl rfl rfl rfl) (bb rfl rfl rfl (cf rfl rfl rfl (ai (aH aa al (hrz) rfl rfl) ?_)))))
 refine bb rfl rfl rfl (bG rfl rfl rfl rfl rfl rfl (aj (am (bb rfl rfl rfl (cf rfl rfl rfl (ai (pQ (35,0) _ _ aa rfl rfl (List.replicate P.v (0:Int)).length (by rw [List.length_replicate]) (by rw [List.length_replicate]) (by rw [List.length_replicate];omega) rfl (show _=cm (List.replicate P.v 0) by rw [List.length_replicate];exact oo P.v)) ?_))))))
 refine bb rfl rfl rfl (bG rfl rfl rfl rfl rfl rfl (bb rfl rfl rfl (bG rfl rfl rfl rfl rfl rfl (bb rfl rfl rfl (bG rfl rfl rfl rfl rfl rfl (bb rfl rfl rfl (bG rfl rfl rfl rfl rfl rfl (aj (aU fun K7 hK7=> ?_)))))))))
 refine aM (Le.frzB (ys:=cm (List.replicate P.v 0)) (7,0) 6 rfl rfl rfl rfl (by rw [List.drop_zero,Nat.mul_one,List.take_of_length_le (by rw [aN];exact Nat.le_refl _)]) (by rw [aN,Nat.mul_one,Nat.zero_add];exact Nat.le_refl _)) ?_
 refine an (ai (az _ aa rfl rfl rfl rfl) (ai (az _ aa rfl rfl rfl rfl) (aX rfl (aX rfl (aX rfl (ai (aL _ aa rfl (by exact Dn)) ?_))))))
 refine ai (aI _ lC) (cw (Le.trans (Le.incT (47,4) rfl) (Le.trans (Le.incT (47,3) rfl) (Le.trans (Le.incT (47,2) rfl) (Le.trans (Le.incT (47,1) rfl) (Le.incT (47,0) rfl))))) ?_)
 refine ai (bi aa [((1,8),(47,0)),((2,8),(47,1)),((3,8),(47,2)),((6,8),(47,3)),((5,8),(47,4))] ar (hH) ob tr tr rfl ae ae) ?_
 refine ai (cq _ rfl pE) (ai (cq _ rfl pE) (bG rfl rfl rfl rfl rfl rfl (bG rfl rfl rfl rfl rfl rfl (aJ (hK7 _ ?_)))))
 clear hK7;try clear K7
 exact aG (jV (.inr rfl) rfl (.cellA aa rfl rfl rfl) (.cellA aa rfl rfl rfl) (Le.outI [((1,8),(47,0)),((2,8),(47,1)),((3,8),(47,2)),((6,8),(47,3)),((5,8),(47,4))] [] (.tup rfl lz) rfl rfl rfl trivial ob tr rfl))

def pu (p:Pg) (h:Nat) (names vars ans:List Int):Ms:=if p.e h < 0 then { vars:=vars,pc:=0,fin:=true } else kL ⟨p.c,p.d,names,ans⟩ 500 (ey vars (p.e h).toNat)
theorem nk (p:Pg) (h:Nat) (names vars ans:List Int):(pu p h names vars ans).acts=(jU p h names vars ans).acts∧(pu p h names vars ans).vars=(jU p h names vars ans).vars∧(pu p h names vars ans).asked=(jU p h names vars ans).asked:=by
 unfold pu jU
 split <;> exact ⟨rfl,rfl,rfl⟩
set_option maxHeartbeats 2000000 in
theorem sw (M:Mk) (h:Nat) (hh:h < 40) (he:M.P.e h < 0) (h1:M.iv.length≤1000) (R:Ms) (hR:R={ vars:=M.iv,pc:=0,fin:=true }):
  Spec Tryz.prog 59 (aY [ii M.P, .v (.int .i64 (h:Int)), .agg [.sl M.iv.length (cm M.iv), .v (.int .i64 (M.nm 0)), .v (.int .i64 (M.nm 1)), .v (.int .i64 (M.nm 2)), .v (.int .i64 (M.nm 3)), .v (.int .i64 (M.nm 4)), .v (.int .i64 (M.nm 5)), .v (.int .i64 (M.nm 6)), .v (.int .i64 (M.nm 7)), .v (.int .i64 (M.nm 8))],wF (6,9)] (Kb M [] (5,9))) (bc (.agg [.sl R.vars.length (cm R.vars), .ref (2,8) 0 R.acts.length, .v (.int .i64 (R.steps:Int)), .v (.bool (!R.fin)), .sl (fw (kE R.cov)).length (cm (fw (kE R.cov)))]) (((2,8), .row 57 5 (vk R.acts))::Kb M R.asked (5,8)) [(2,8),(4,9),(5,8),(6,9)] [(4,9),(6,9)]):=by
 subst hR
 have hsk:fw (kE [])=[]:=by simp [fw,kE]
 have hcl:=qF M.iv ab
 have hg:=sZ M.P.c.length (inl M.P.c) M.P.e (M.P.d:Int) (M.P.v:Int) h hh
 refine Spec.ofNI Tryz.func59 rfl Tryz.ntmps59 rfl ?_
 refine am ?_
 refine ai (aR (4,0) _ rfl rfl) ?_
 refine ai (aR (6,0) _ rfl rfl) ?_
 refine ai (aC (8,0) aa rfl rfl) ?_
 refine aj ?_
 refine aq ?_
 refine bK 11 [13,14,15,16,17,18,19,20,21,22,23] [(22,0)] ae ae rfl (aK rfl) (rfl:_=[_,_,_,_,_,_,_,_,_,_,_]) (rfl:_=[_,_,_]) ?_
 refine ap (_,[]) (fun τ=> az _ aa rfl rfl rfl rfl) ?_
 refine fF rfl ?_
 refine ap (_,[]) (fun τ=> az _ aa rfl rfl rfl rfl) ?_
 refine fL rfl ?_
 refine ap (_,[]) (fun τ=> aI _ lC) ?_
 refine fA rfl ?_
 refine ap (_,[]) (fun τ=> aI _ eu) ?_
 refine fT rfl ?_
 refine ap (_,[]) (fun τ=> aA _ aa rfl rfl rfl) ?_
 refine gj rfl ?_
 refine ap (_,[]) (fun τ=> cY _ _ aa rfl rfl rfl h rfl ab (by exact congrArg (fun z=> 0+1+z) (Nat.mul_one h))) ?_
 refine gU rfl ?_
 refine ap (_,[]) (fun τ=> aF _ aa rfl rfl (by exact (congrArg (fun z=> (El M.P.c.length (inl M.P.c) M.P.e (M.P.d:Int) (M.P.v:Int))[z]?) ab).trans hg)) ?_
 refine iC rfl ?_
 refine ap (_,[]) (fun τ=> aA _ aa rfl rfl rfl) ?_
 refine jM rfl ?_
 refine ap (_,[]) (fun τ=> aF _ aa rfl rfl eE) ?_
 refine jX rfl ?_
 refine ap (_,[((22,0),_)]) (fun τ=> (bS aa [((0,8),(22,0))] ar (hcl.toI) trivial tr tr rfl rfl ae ae)) ?_
 refine fI rfl ?_
 refine ap (_,[]) (fun τ=> aL _ aa rfl (by exact (rfl:_=some [AV.ref (22,0) 0 M.iv.length,AV.v (.slice none 0 0),AV.v (.int .i64 0),AV.v (.bool false),AV.v (.slice none 0 0)]))) ?_
 refine gh rfl ?_
 refine bl ⟨rfl,?_⟩
 refine ai (aL _ aa rfl (by exact (rfl:_=some [_,_,_,_,_,_,_,_,_,_,_,_,_,_,_,_,_,_,_,_,_,_,_,_,_,_,_,_,_,_,_,_,_,_,_,_,_,_,_,_,_,_,_,_,_,_,_,_,_,_,_,_,_,_,_,_,_,_,_,_,_,_,_,_]))) ?_
 refine ai (aR (25,0) _ rfl rfl) ?_
 refine vw rfl ?_
 refine aj ?_
 refine aq ?_
 refine aq ?_
 refine aM (σ':=aD 108 [(4,_),(8,_),(9,_)] [((4,9),_),((5,9),_),((6,9),_),((4,0),_),((8,0),_),((22,0),_),((25,0),_)] [(4,9),(5,9),(6,9)] [(4,9),(6,9)]) kp ?_
 refine an ?_
 refine bQ rfl ?_
 refine ai (aT _ rfl rfl) ?_
 refine bb rfl rfl rfl ?_
 refine cf rfl rfl rfl ?_
 refine ai (bm (r:=true) _ _ rfl rfl (decide_eq_true he)) ?_
 refine aj ?_
 refine bL rfl rfl ?_
 refine aq ?_
 refine aM (Le.trans (Le.nilB (25,0) 55 (61,0) 57 5 rfl rfl rfl) (Le.incT (61,0) rfl)) ?_
 refine an ?_
 refine bQ rfl ?_
 refine ai (aT _ rfl rfl) ?_
 refine bb rfl rfl rfl ?_
 refine ai (az _ aa rfl rfl rfl rfl) ?_
 refine bG rfl rfl rfl rfl rfl rfl ?_
 refine aj ?_
 refine aG ?_
 exact bI (.inr rfl) rfl (.cellA aa rfl rfl rfl) (Le.outI [((5,8),(5,9)),((2,8),(61,0))] [(22,0)] (.agg rfl (au (ff rfl rfl (by simp) rfl) (au (cP rfl rfl) (au .v (au .v (au (by show Lv _ _ _ (.sl (fw (kE [])).length (cm (fw (kE [])))) _;rw [hsk];exact .nil) bf)))))) rfl rfl rfl tr ob tr rfl)

theorem uL (s:Ns) (h:Nat) (ck:Int) (P:Pg) (R:Ms) {k:Nat} (hk:k < R.acts.length):cR s h ck P R (k+1)=dV (cR s h ck P R k) (mH R.acts k):=by
 show (R.acts.take (k+1)).foldl dV _=_
 rw [List.take_add_one,List.foldl_append,List.getElem?_eq_getElem hk,show mH R.acts k=R.acts[k] by simp [mH,hk]]
 rfl
theorem CO (q:Ns×Nr) (a:Ac):(dV q a).2.sent.length≤q.2.sent.length+1∧(dV q a).2.fails.length≤q.2.fails.length+1:=by
 unfold dV
 split
 ·exact ⟨Nat.le_succ _,Nat.le_succ _⟩
 split
 ·exact ⟨Nat.le_succ _,Nat.le_succ _⟩
 split
 ·exact ⟨Nat.le_succ _,Nat.le_succ _⟩
 split
 ·exact ⟨Nat.le_succ _,Nat.le_succ _⟩
 split
 ·exact ⟨by simp,Nat.le_succ _⟩
 split
 ·split <;> exact ⟨Nat.le_succ _,Nat.le_succ _⟩
 split
 ·exact ⟨Nat.le_succ _,by simp⟩
 exact ⟨Nat.le_succ _,Nat.le_succ _⟩
theorem xv {l:List Ac} {k:Nat} (hk:k < l.length):mH l k∈l:=by
 rw [show mH l k=l[k] by simp [mH,hk]];exact List.getElem_mem hk
structure Qn (P:Pg) (t:Int) (R:Ms) (q:Ns×Nr) (k:Nat):Prop where
 tm:qv t q.1.timers
 dk:DkOk P.d q.1.dk
 vo:q.1.vol=R.vars.drop P.d
 se:q.2.sent.length≤k
 fa:q.2.fails.length≤k
theorem xE {s:Ns} {h:Nat} {ck:Int} {P:Pg} {R:Ms} {t:Int} (ht:0≤t∧t < 8) (hac: ∀ a∈R.acts,xi t a∧Rg a.b) (htl:qv t s.timers) (hdk:DkOk P.d s.dk): ∀ k,k≤R.acts.length→Qn P t R (cR s h ck P R k) k
 | 0,_=> ⟨htl,hdk,rfl,Nat.le_refl _,Nat.le_refl _⟩
 | k+1,hk=> by
  obtain ⟨h1,h2,h3,h4,h5⟩:=xE (ck:=ck) ht hac htl hdk k ab
  obtain ⟨a1,a2⟩:=hac _ (xv (l:=R.acts) (k:=k) ab)
  rw [uL s h ck P R ab]
  obtain ⟨l1,l2⟩:=CO (cR s h ck P R k) (mH R.acts k)
  exact ⟨uo ht a1 h1,sB h2 a2,(sc _ _).2.2.2.2.1.trans h3,by omega,by omega⟩
theorem Jb (c:Cz) {s:Ns} {h:Nat} {ck:Int} {P:Pg} {R:Ms} {t:Int} (ht:0≤t∧t < 8) (hac: ∀ a∈R.acts,xi t a∧Rg a.b) (htl:qv t s.timers) (hdk:DkOk P.d s.dk) (hd:P.d≤1000) (hv:R.vars.length≤1000) (hn:R.acts.length≤500):
  ∀ i,i < R.acts.length→nN c (GU R) (cR s h ck P R i).1 (cR s h ck P R i).2 (mH R.acts i) (cR s h ck P R (i+1)).1 (cR s h ck P R (i+1)).2:=fun i hi=> by
 obtain ⟨h1,h2,h3,h4,h5⟩:=xE (h:=h) (ck:=ck) ht hac htl hdk i ab
 rw [uL s h ck P R hi]
 have hp:=h2.pn
 refine If c (GU R) ht _ _ (hac _ (xv hi)).1 h1 ⟨by rw [h2.len];exact hd,by omega,by rw [h3,List.length_drop];omega,?_⟩ (fun w hw=> ?_) ab ab
 ·rcases h1 with h1 | h1 <;> rw [h1] <;> simp
 obtain ⟨b1,b2,_⟩:=h2.pr w hw
 exact ⟨b1,by rw [h2.len];exact b2⟩
theorem xF (p:Pg) (h:Nat) (names vars ans:List Int):(pu p h names vars ans).acts.length≤500:=by
 unfold pu
 split
 ·exact Nat.zero_le _
 have h1:=lG (K:=⟨p.c,p.d,names,ans⟩) (I:=Sz) (fun s hs _=> xl hs) 500 (ey vars (p.e h).toNat) ⟨Nat.le_refl _,Nat.le_refl _,Nat.le_refl _⟩
 have h2:=(oS (K:=⟨p.c,p.d,names,ans⟩) 500 (ey vars (p.e h).toNat)).1
 have h3:=h1.ac
 have h4:(ey vars (p.e h).toNat).steps=0:=rfl
 omega
theorem JS (P:Pg) (hp:qx P) (hcl:P.c.length≤1000000) (h:Nat) (hh:h < 40) (nm iv ans:List Int) (hn: ∀ i,Rg (nm.getD i 0)) (hiv:iv.length=P.d+P.v) (hir: ∀ v∈iv,Rg v) (t:Tl) (ht:yO ⟨P,iv,nm,ans,t⟩) (R:Ms) (hR:R=pu P h nm iv ans):
  Spec Tryz.prog 59 (aY [ii P, .v (.int .i64 (h:Int)), .agg [.sl iv.length (cm iv), .v (.int .i64 (nm.getD 0 0)), .v (.int .i64 (nm.getD 1 0)), .v (.int .i64 (nm.getD 2 0)), .v (.int .i64 (nm.getD 3 0)), .v (.int .i64 (nm.getD 4 0)), .v (.int .i64 (nm.getD 5 0)), .v (.int .i64 (nm.getD 6 0)), .v (.int .i64 (nm.getD 7 0)), .v (.int .i64 (nm.getD 8 0))],wF (6,9)] (AQ t t.np t.pre (5,9)))
   (bc (.agg [.sl R.vars.length (cm R.vars), .ref (2,8) 0 R.acts.length, .v (.int .i64 (R.steps:Int)), .v (.bool (!R.fin)), .sl (fw (kE R.cov)).length (cm (fw (kE R.cov)))]) (((2,8), .row 57 5 (vk R.acts))::AQ t (t.np+R.asked.length) (t.pre++ti t ans R.asked) (5,8)) [(2,8),(4,9),(5,8),(6,9)] [(4,9),(6,9)]):=by
 have e0:Kb ⟨P,iv,nm,ans,t⟩ [] (5,9)=AQ t t.np t.pre (5,9):=by
  show AQ t (t.np+0) (t.pre++ti t ans []) (5,9)=_
  rw [show ti t ans []=[] from rfl,List.append_nil];rfl
 rw [← e0]
 have hnv:=hp.nv
 by_cases he:P.e h < 0
 ·have hR2:R={ vars:=iv,pc:=0,fin:=true }:=by rw [hR];unfold pu;rw [if_pos he]
  exact sw ⟨P,iv,nm,ans,t⟩ h hh he (by show iv.length≤1000;omega) R hR2
 obtain ⟨D,hg,hE⟩:=hp.ex
 obtain ⟨e1,e2,e3⟩:=(hE h).resolve_left he
 have hR2:R=kL ⟨P.c,P.d,nm,ans⟩ 500 (ey iv (P.e h).toNat):=by rw [hR];unfold pu;rw [if_neg he]
 exact xU ⟨P,iv,nm,ans,t⟩ Jn D (P.d+P.v) ⟨hg,hnv,hn⟩ h hh (P.e h).toNat (by show P.e h=_;omega) (by show _ < P.c.length;omega) e3 hiv hir hcl ht R hR2
end Go.Proofs.YtmjnackchaahbaaGreat
