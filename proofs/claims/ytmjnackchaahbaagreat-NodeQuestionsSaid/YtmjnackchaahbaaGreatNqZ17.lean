/- part 17 -/
import Derived.Test.YtmjnackchaahbaaGreatNqZ16
set_option linter.unusedSimpArgs false
set_option linter.unusedVariables false
namespace Go.Proofs.YtmjnackchaahbaaGreat
open Go.RowKit

theorem LA {ρ:aC→aC} {σ:St} {F:aC→Bool} {id:aC} {e:TypeId} {n m:Nat} {xs:List PV} {r:List Int} (hid:σ.ob id= .obj (.row e 1 xs)) (hF:F id=true) (hm:n=m) (hx:xs=cw r) (hn:m=r.length):Lv ρ σ F (.sl m (cw r)) (.ref id 0 n):=by
 subst hm;subst hx
 exact fi hid hF (by rw [aO,Nat.mul_one];exact hn) rfl
def zt (t:Tl) (ks:List Int) (m:Nat):List PV:=(List.range m).flatMap fun (i:Nat)=> rA t 3 (i:Int) 2 (ks.getD i 0)
theorem AH (t:Tl) (ks:List Int) (m:Nat):zt t ks m++rA t 3 (m:Int) 2 (ks.getD m 0)=zt t ks (m+1):=by
 unfold zt;rw [List.range_succ,List.flatMap_append];simp
theorem FF (t:Tl) (ks:List Int) (m:Nat):(zt t ks m).length=m*7:=by
 unfold zt
 rw [iW (fun (i:Nat)=> rA t 3 (i:Int) 2 (ks.getD i 0)) 7 (fun _=> rfl),List.length_range]
theorem wN (k:Nat) (ks:List Int):keepB (k+1) ks=keepB k ks++[decide (ks.getD k 0=1)]:=by unfold keepB;rw [List.range_succ,List.map_append];rfl
theorem kw (k:Nat) (ks:List Int):(keepB k ks).length=k:=by simp [keepB]
theorem wL (l:List Bool) (x:Bool):CF l++[.v (.bool x)]=CF (l++[x]):=by simp [CF]
theorem tA (s:Ns) (h:Nat) (hh:h < s.counts.length) (x:Int):lm (cO s) h x=fun k=> (s.counts.set h x).getD k 0:=by
 funext k
 unfold lm
 by_cases e:k=h
 ·subst e;rw [if_pos rfl,List.getD_eq_getElem?_getD,List.getElem?_set_self hh];rfl
 rw [if_neg e,List.getD_eq_getElem?_getD,List.getElem?_set_ne (Ne.symm e),← List.getD_eq_getElem?_getD]
set_option maxHeartbeats 2000000 in
theorem ph (s:Ns) (hs:jY s) (ho:jH s.dk) (hc:s.counts.length=41) (hcb: -1000000≤s.counts.getD 40 0∧s.counts.getD 40 0≤1000000) (hep: -1000000≤s.epoch∧s.epoch≤1000000)
  (t:Tl) (n:Nat) (L:List PV) (hL:L.length=n*7) (hn:n≤1000) (ks:List Int) (hlk: ∀ i:Nat,i < s.dk.pend.length→sB t 3 (i:Int) 2 (ks.getD i 0)):
  Spec Tryz.prog 53 (aY [jZ s,jL] (pu t n L (5,9))) (bc (jZ (lH s (keepB s.dk.pend.length ks))) (pu t (n+s.dk.pend.length) (L++zt t ks s.dk.pend.length) (5,8)) [(4,9),(5,8)] [(4,9)]):=by
 have hown:=kj s hs
 have hp:=hs.p
 have hcc:=hs.c
 have hv:=hs.v
 have hcr:=ui s.dk ab ab ho (keepB s.dk.pend.length ks) (by rw [kw];omega)
 rw [kw] at hcr
 have hce:=tA s 40 ab (s.counts.getD 40 0+1)
 have hcb2: -1000000≤cO s 40∧cO s 40≤1000000:=hcb
 have hl1:(s.dk.crash (keepB s.dk.pend.length ks)).cells.length=s.dk.cells.length:=gu _ _
 refine Spec.ofNI Tryz.func53 rfl Tryz.ntmps53 rfl ?_
 refine am (ai (aQ (2,0) _ rfl rfl) (ai (aD (4,0) aa rfl rfl) (aj (am (ai (az _ aa rfl rfl rfl rfl) (ai (bW aa [((1,8),(8,0))] ar (hown.toI) trivial tr tr rfl rfl ae ae) ?_))))))
 refine bG rfl rfl rfl rfl rfl rfl (aj (am (ai (bp _ fC) (aj (aU fun K4 hK4=> ?_)))))
 refine am (bb rfl rfl rfl (bb rfl rfl rfl (eZ rfl rfl rfl (ai (bo _ aa rfl) (aX rfl (aj (ay ?_)))))))
 refine aM (Le.nilS 5 (60,0) 4 1 rfl rfl) ?_
 refine bq (α:=Nat) (fun k=> k≤s.dk.pend.length) 48 [(1,_),(2,_),(4,_),(12,_)] [((2,0),_),((4,0),_),((8,0),_)] (fun k=> [(5, .ref (60,0) 0 k),(13, .v (.int .i64 (k:Int)))]) (fun k=> [((60,0), .row 4 1 (CF (keepB k ks))),((4,9), .box 103 [.v (.int .i64 t.c1), .v (.int .i64 t.c2), .v (.int .i64 t.c3), .sl t.na t.A, .ref (5,9) 0 (n+k)]),((5,9), .row 111 7 (L++zt t ks k))]) [(4,9),(5,9)] [(4,9)] (fun k=> s.dk.pend.length - k) 0 ?_ (by
  refine Le.mkJ [] [] rfl ?_ ?_ trivial tr ?_
  ·exact ⟨(iN rfl),(iP rfl),(iP rfl),(iV rfl),(cP rfl ag),(co ag),trivial⟩
  ·exact ⟨(bF rfl rfl rfl),(bF rfl rfl rfl),(bF rfl rfl rfl),(fj rfl rfl rfl ag),(fu rfl rfl rfl rfl lz),(fj rfl rfl rfl (by (simp [zt]))),trivial⟩
  kernel_rfl) ?_
 ·omega
 intro k hk
 refine am (ai (bl _ _ rfl rfl rfl) (aj (aU fun K7 hK7=> ?_)))
 refine aR rfl (fun hc14=> ?_) (fun hc14=> ?_)
 ·skip
  have htl:=oM t 3 (k:Int) 2 (ks.getD k 0) (n+k) (L++zt t ks k) (by rw [List.length_append,hL,FF,Nat.add_mul]) ab ab (hlk k ab)
  rw [List.append_assoc,AH] at htl
  have hkb:=wN k ks
  refine bs (hK7 _ ?_)
  clear hK7;try clear K7
  refine aq (ay (am (aX rfl (be rfl (aj (an (gI rfl (ai (aH _ lp) (aX rfl (cA (Le.incT (19,0) rfl) ?_))))))))))
  refine ai (jp rfl aa [((5,8),(19,0))] ar (htl) ob tr tr rfl ae ae) ?_
  refine ai (bC (r:=decide (ks.getD k 0=1)) _ _ rfl rfl (by rw [Bool.eq_iff_iff];simp)) ?_
  refine ai (bh _ _ aa rfl ag (by (simp <;> rfl)) ah rfl) ?_
  refine ai (du (22,0) _ _ aa rfl rfl (by rw [bg,kw,Nat.mul_one]) (.sl rfl) ab rfl ((wL _ _).trans (congrArg CF hkb.symm)) rfl) ?_
  refine fk rfl (ek (an (ai (aZ _ _ rfl rfl (bD ab)) ?_)))
  refine aX rfl (aJ (⟨k+1,?_,?_,?_⟩))
  ·omega
  ·skip
   refine Le.mkJ [((60,0),(22,0)),((5,9),(19,0))] [] rfl ?_ ?_ trivial tr ?_
   ·exact ⟨(by repeat' (first | exact dJ (id:=(4,9)) rfl | refine Lv.fn rfl ?_ rfl ?_ | exact bf | refine ax ?_ ?_)),(dJ (id:=(2,0)) rfl),(dJ (id:=(4,0)) rfl),(by repeat' (exact Lv.v)),(cP rfl ag),(co ag),trivial⟩
   ·exact ⟨(fu rfl rfl rfl rfl (by repeat' (first | exact Lv.v | exact Lv.sl | exact cP (id:=(8,0)) rfl rfl | exact bf | refine ax ?_ ?_))),(fu rfl rfl rfl rfl (by repeat' (first | exact Lv.v | exact bf | refine ax ?_ ?_))),(fj rfl rfl rfl rfl),(fj rfl rfl rfl ag),(fu rfl rfl rfl rfl lz),(fj rfl rfl rfl ag),trivial⟩
   kernel_rfl
  omega
 obtain rfl:k=s.dk.pend.length:=by omega
 refine bB (id (hK4 _ ?_))
 clear hK4;try clear K4
 refine aq ?_
 refine aM (Le.frzS (ys:=CF (keepB s.dk.pend.length ks)) 5 dW rfl rfl (by rw [List.drop_zero,Nat.mul_one,List.take_of_length_le (by rw [bg,kw];omega)]) (by rw [bg,kw];omega)) ?_
 refine an (bb rfl rfl rfl (ai (az _ aa rfl rfl rfl rfl) (eY rfl (ai (aI aa al (hcr) rfl rfl) ?_))))
 refine bb rfl rfl rfl (bG rfl rfl rfl rfl rfl rfl (aj (am (bb rfl rfl rfl (ai (da _ _ aa rfl rfl rfl 40 rfl ab rfl) ?_)))))
 refine cf rfl rfl rfl (ai (aZ _ _ rfl rfl (bD ab)) ?_)
 refine bb rfl rfl rfl (ai (da _ _ aa rfl rfl rfl 40 rfl ab rfl) ?_)
 refine ai (dH _ _ aa rfl rfl rfl rfl (by show 48+1≤52;omega) ((sx s.up s.ver s.epoch s.clock _ _ _ _ (cO s) s.wait 40 ab _).trans (congrArg (fun e=> HE s.up s.ver s.epoch s.clock _ _ _ _ e s.wait) hce))) ?_
 refine aj (am (bb rfl rfl rfl (cf rfl rfl rfl (ai (aZ _ _ rfl rfl (bD ab)) ?_))))
 refine bb rfl rfl rfl (bG rfl rfl rfl rfl rfl rfl (aj (aq ?_)))
 refine aM (σ':=aE 48 [(2,_),(4,_)] [((2,0),_),((4,0),_),((8,0),_),((4,9),_),((5,9),_)] [(4,9),(5,9)] [(4,9)]) kp ?_
 refine an (bb rfl rfl rfl (eZ rfl rfl rfl (ai (bo _ aa rfl) (ai (pS (42,0) _ _ aa rfl rfl _ rfl rfl ab rfl rfl) ?_))))
 refine bb rfl rfl rfl (bG rfl rfl rfl rfl rfl rfl (bb rfl rfl rfl (bG rfl rfl rfl rfl rfl rfl (bb rfl rfl rfl (bG rfl rfl rfl rfl rfl rfl (bb rfl rfl rfl (bG rfl rfl rfl rfl rfl rfl (aj (am (ai (az _ aa rfl rfl rfl rfl) ?_))))))))))
 exact bG rfl rfl rfl rfl rfl rfl (aj (aG (bI (.inr rfl) rfl (.cellA aa rfl rfl rfl) (Le.outI [((5,8),(5,9))] [(42,0)] (.agg rfl (zu (ax (jl rfl rfl) (ax (jl rfl rfl) (ax (LA rfl rfl (by simp [lH]) (by simp [lH,cw,rep]) rfl) lz))))) rfl rfl rfl tr ob tr rfl))))

theorem yF {P:Program} {σ:St} {o:Oper} {f:FuncId} {avs:List AV} (hE:EntersAt P o σ f avs) {args:List AV} {x y:Value} (sp:Spec P f (ba args []) (aP (.tup [.v x, .v y]) []))
  (ha:gw σ (fun _=> true) avs args) (hp:AV.pures args=true):dh P o σ (σ.put o.dst (.tup [.v x, .v y])):=by
 intro K ι S a w R
 obtain ⟨vs,hrun,hvs,hrep⟩:=hE K ι S a w R
 have R1:=R.args ha hp hvs hrep
 refine jV hrun (sp _ _ _ _ w rfl rfl R1) ?_
 rintro e w' ⟨v,ι',S',rfl,R2⟩
 refine ⟨v,rfl,?_⟩
 have hb:Below w.heap.size w w':=⟨R2.keeps.os,R2.keeps.tape,R2.keeps.output,R2.keeps.size,fun g hg=> R2.keeps.block g hg (by simp)⟩
 have R3:=R.gen (ι':=ι) (S':=S) (w':=w') (ob':=σ.ob) (inc':=σ.inc) (fun _=> False) (.of_below hb) (fun _ _=> rfl) (fun _ _=> rfl) (fun _ _=> rfl) (fun _ h=> h) (fun g h=> h)
  (fun g h=> .inl h) (fun g h=> Nat.lt_of_lt_of_le (R.Slt g h) hb.size)
  (fun _ _ h=> h.elim) (fun _ _ h=> h.elim) (fun _ _ h=> h.elim) (fun _ _ _ _ _ h=> h.elim) (fun _ _ _ h=> h.elim) (fun _ _ _ h=> h.elim)
 refine ⟨ι,_,R3.put o.dst (av:= .tup [.v x, .v y]) ?_ fun id hi=> absurd hi (lF _ rfl)⟩
 have:=R2.fr 0 (by simp [aP])
 simp only [aP,Nat.beq_refl,cond_true] at this
 have:=(by simpa using this:Rep ι' S' w' (.tup [.v x, .v y]) v)
 cases this with
 | tup h1 h=>
  refine .tup h1 fun j a hj=> ?_
  have hr:=h j a hj
  match j,hj with
  | 0,hj=> cases hj;rw [hr.toV];exact .v
  | 1,hj=> cases hj;rw [hr.toV];exact .v
theorem oF {P:Program} {σ:St} {dd:Option Tmp} {ty:TypeId} {f:FuncId} {xs:Array Operand} {ats:Array TypeId} (C:cR P f) {args:List AV} {x y:Value} (ha:gw σ (fun _=> true) (xs.toList.map σ.eval) args) (sp:Spec P f (ba args []) (aP (.tup [.v x, .v y]) []))
  (hp:AV.pures args=true):Stp P dd (.call { callee:= .value (.func f),args:=xs,argTypes:=ats }) ty σ (σ.put dd (.tup [.v x, .v y])):=fun o hd ho ht=> by subst hd;exact yF (.fnc ho C) sp ha hp
structure Cz where
 a:Int
 b:Int
 c:Int
def Me (c:Cz) (i:Nat) (x:Ac):List PV:=[.v (.int .i64 c.a), .v (.int .i64 c.b), .v (.int .i64 c.c), .v (.int .i64 (i:Int)), .v (.int .i64 0), .v (.int .i64 x.a), .v (.int .i64 x.b), .v (.int .i64 x.c), .v (.int .i64 x.d)]
def Al (c:Cz) (l:List Ac):List PV:=(List.range l.length).flatMap fun i=> Me c i (pB l i)
theorem jP (c:Cz) (l:List Ac):(Al c l).length=l.length*9:=by
 unfold Al
 rw [iW (fun i=> Me c i (pB l i)) 9 (fun _=> rfl),List.length_range]
theorem AX (c:Cz) (l:List Ac) (x:Ac):Al c l++Me c l.length x=Al c (l++[x]):=by
 unfold Al
 rw [List.length_append,List.length_singleton,List.range_succ,List.flatMap_append]
 congr 1
 ·unfold List.flatMap
  congr 1
  apply List.map_congr_left
  intro i hi
  have hi:=List.mem_range.1 hi
  have e:pB (l++[x]) i=pB l i:=by unfold pB;rw [List.getD_eq_getElem?_getD,List.getD_eq_getElem?_getD,List.getElem?_append_left hi]
  rw [e]
 have e:pB (l++[x]) l.length=x:=by unfold pB;rw [List.getD_eq_getElem?_getD,List.getElem?_append_right (Nat.le_refl _),Nat.sub_self];rfl
 simp [e]
structure Ot where
 vars:List Int
 acts:List Ac
 steps:Int
 spent:Bool
 cov:List Int
abbrev Ko (c:Cz) (r:Nr) (o:Ot) (se fa ac:aC):List AV:=[.v (.int .i64 c.a), .v (.int .i64 c.b), .v (.int .i64 c.c), .ref se 0 r.sent.length, .v (.bool r.repl), .v (.int .i64 r.value), .ref fa 0 r.fails.length, .sl o.vars.length (cw o.vars), .ref ac 0 o.acts.length, .v (.int .i64 o.steps), .v (.bool o.spent), .sl o.cov.length (cw o.cov)]
abbrev MZ (c:Cz) (o:Ot) (s:Ns) (r:Nr) (tm se fa:aC):List (aC×Cells):=[(tm, .row 3 1 (cw s.timers)),((2,9), .box 96 (Ko c r o se fa (5,9))),(se, .row 117 9 (Al c r.sent)),(fa, .row 3 1 (cw r.fails)),((5,9), .row 57 5 (vA o.acts))]
abbrev ni (c:Cz) (o:Ot) (s:Ns) (r:Nr) (a:Ac) (s':Ns) (r':Nr):Prop:=Spec Tryz.prog 114 (aY [.agg (GB s (.ref (1,9) 0 s.timers.length)), .agg [.v (.int .i64 a.k), .v (.int .i64 a.a), .v (.int .i64 a.b), .v (.int .i64 a.c), .v (.int .i64 a.d)], .ptr (2,9) 0] (MZ c o s r (1,9) (3,9) (4,9)))
 (bc (.agg (GB s' (.ref (1,8) 0 s'.timers.length))) (MZ c o s' r' (1,8) (3,8) (4,8)) [(1,8),(2,9),(3,8),(4,8),(5,9)] [(2,9),(5,9)])
section
variable (c:Cz) (o:Ot) (s:Ns) (r:Nr) (x y z w:Int)
theorem xJ (hs:jY s) (ho:jH s.dk):ni c o s r ⟨1,x,y,z,w⟩ { s with dk:=s.dk.write x y } r:=by
 have hc:=hs.c
 have hp:=hs.p
 have hw:=uV s.dk ab ab ho x y
 refine Spec.ofNI Tryz.func114 rfl Tryz.ntmps114 rfl ?_
 refine am (ai (aQ (3,0) _ rfl rfl) (ai (aQ (4,0) _ rfl rfl) (ai (aD (6,0) aa rfl rfl) (aj (aq (am (bb rfl rfl rfl (cf rfl rfl rfl (aj (ay ?_))))))))))
 refine iO rfl rfl rfl rfl rfl (an (bb rfl rfl rfl (ai (az _ aa rfl rfl rfl rfl) (bb rfl rfl rfl (cf rfl rfl rfl (bb rfl rfl rfl (cf rfl rfl rfl (ai (aI aa al (hw) rfl rfl) ?_))))))))
 refine bb rfl rfl rfl (bG rfl rfl rfl rfl rfl rfl (ek (aq ?_)))
 refine aM (σ':=aE 134 [(3,_),(6,_)] [((1,9),_),((3,0),_),((6,0),_),((2,9),_),((3,9),_),((4,9),_),((5,9),_)] [(1,9),(2,9),(3,9),(4,9),(5,9)] [(2,9),(5,9)]) kp ?_
 exact an (ai (az _ aa rfl rfl rfl rfl) (bG rfl rfl rfl rfl rfl rfl (aj (aG (bI (.inr rfl) rfl (.cellA aa rfl rfl rfl) (Le.outI [((1,8),(1,9)),((3,8),(3,9)),((4,8),(4,9))] [] (.agg rfl lz) rfl rfl rfl trivial ob tr rfl))))))
theorem zH (hs:jY s) (ho:jH s.dk):ni c o s r ⟨2,x,y,z,w⟩ { s with dk:=s.dk.sync } r:=by
 have hc:=hs.c
 have hp:=hs.p
 have hw:=qj s.dk ab ab ho
 refine Spec.ofNI Tryz.func114 rfl Tryz.ntmps114 rfl ?_
 refine am (ai (aQ (3,0) _ rfl rfl) (ai (aQ (4,0) _ rfl rfl) (ai (aD (6,0) aa rfl rfl) (aj (aq (am (bb rfl rfl rfl (cf rfl rfl rfl (aj (ay ?_))))))))))
 refine cK rfl rfl rfl rfl rfl (iO rfl rfl rfl rfl rfl (an (bb rfl rfl rfl (ai (az _ aa rfl rfl rfl rfl) (ai (aI aa al (hw) rfl rfl) ?_)))))
 exact bb rfl rfl rfl (bG rfl rfl rfl rfl rfl rfl (ek (am (ai (az _ aa rfl rfl rfl rfl) (bG rfl rfl rfl rfl rfl rfl (aj (aG (bI (.inr rfl) rfl (.cellA aa rfl rfl rfl) (Le.outI [((1,8),(1,9)),((3,8),(3,9)),((4,8),(4,9))] [] (.agg rfl lz) rfl rfl rfl trivial ob tr rfl)))))))))
theorem vV (ht:s.timers=[]):ni c o s r ⟨4,x,y,z,w⟩ { s with timers:=[x] } r:=by
 have hb:=kT s.timers x (by rw [ht];exact Nat.zero_le 1)
 have hl4:s.timers.length*1=(cw s.timers).length:=by rw [aO,Nat.mul_one]
 have hi:Spec Tryz.prog 185 (aY [.ref (0,9) 0 s.timers.length, .v (.int .i64 0), .sl 1 (cw [x])] [((0,9), .row 3 1 (cw s.timers))]) (bc (.ref (0,8) 0 1) [((0,8), .row 3 1 (cw [x]))] [(0,8)] []):=by rw [ht];exact tD x
 have hn0:s.timers.length=0:=by rw [ht];rfl
 rw [show (if 0 < s.timers.length∧s.timers.getD 0 0 < x then (1:Int) else 0)=0 by rw [if_neg ab],show decide (0 < s.timers.length∧s.timers.getD 0 0=x)=false from decide_eq_false ab] at hb
 refine Spec.ofNI Tryz.func114 rfl Tryz.ntmps114 rfl ?_
 refine am (ai (aQ (3,0) _ rfl rfl) (ai (aQ (4,0) _ rfl rfl) (ai (aD (6,0) aa rfl rfl) (aj (aq (am (bb rfl rfl rfl (cf rfl rfl rfl (aj (ay ?_))))))))))
 iterate 2 refine cK rfl rfl rfl rfl rfl ?_
 refine iO rfl rfl rfl rfl rfl (am (bb rfl rfl rfl (ai (aF _ aa rfl rfl ei) (bb rfl rfl rfl (cf rfl rfl rfl (ai (oF aa (fc (fi rfl rfl hl4 rfl) (fc Lv.v cX)) hb rfl) ?_))))))
 refine ai (aH _ tQ) (ai (cq _ rfl ee) (ai (cq _ rfl BX) (be rfl (cu rfl (aj (aq ?_))))))
 refine aM (σ':=aE 134 [(3,_),(4,_),(6,_),(7,_),(8,_)] [((1,9),_),((3,0),_),((4,0),_),((6,0),_),((2,9),_),((3,9),_),((4,9),_),((5,9),_)] [(1,9),(2,9),(3,9),(4,9),(5,9)] [(2,9),(5,9)]) kp ?_
 refine an (cE rfl (ai (cj (r:=true) _ rfl rfl) (aj (bM rfl rfl (an (bb rfl rfl rfl (ai (aF _ aa rfl rfl ei) (aX rfl (bb rfl rfl rfl (cf rfl rfl rfl ?_))))))))))
 refine ai (bh _ _ aa rfl ag (by simp <;> rfl) ah (by exact (rfl:_=some (cw [x])))) ?_
 refine cA (Le.incT (48,0) rfl) ?_
 refine ai (bi aa [((0,9),(1,9)),((0,8),(48,0))] ar (hi) ob tr tr rfl ae ae) ?_
 exact bb rfl rfl rfl (bG rfl rfl rfl rfl rfl rfl (ek (am (ai (az _ aa rfl rfl rfl rfl) (bG rfl rfl rfl rfl rfl rfl (aj (aG (bI (.inr rfl) rfl (.cellA aa rfl rfl rfl) (Le.outI [((1,8),(48,0)),((3,8),(3,9)),((4,8),(4,9))] [] (.agg rfl lz) rfl rfl rfl trivial ob tr rfl)))))))))
theorem vF (ht:s.timers=[x]):ni c o s r ⟨4,x,y,z,w⟩ s r:=by
 have hb:=kT s.timers x (by rw [ht];exact Nat.le_refl 1)
 have hl4:s.timers.length*1=(cw s.timers).length:=by rw [aO,Nat.mul_one]
 rw [show decide (0 < s.timers.length∧s.timers.getD 0 0=x)=true from decide_eq_true (by rw [ht];exact ⟨Nat.zero_lt_one,rfl⟩)] at hb
 refine Spec.ofNI Tryz.func114 rfl Tryz.ntmps114 rfl ?_
 refine am (ai (aQ (3,0) _ rfl rfl) (ai (aQ (4,0) _ rfl rfl) (ai (aD (6,0) aa rfl rfl) (aj (aq (am (bb rfl rfl rfl (cf rfl rfl rfl (aj (ay ?_))))))))))
 iterate 2 refine cK rfl rfl rfl rfl rfl ?_
 refine iO rfl rfl rfl rfl rfl (am (bb rfl rfl rfl (ai (aF _ aa rfl rfl ei) (bb rfl rfl rfl (cf rfl rfl rfl (ai (oF aa (fc (fi rfl rfl hl4 rfl) (fc Lv.v cX)) hb rfl) ?_))))))
 refine ai (aH _ tQ) (ai (cq _ rfl ee) (ai (cq _ rfl BX) (be rfl (cu rfl (aj (aq ?_))))))
 refine aM (σ':=aE 134 [(3,_),(4,_),(6,_),(7,_),(8,_)] [((1,9),_),((3,0),_),((4,0),_),((6,0),_),((2,9),_),((3,9),_),((4,9),_),((5,9),_)] [(1,9),(2,9),(3,9),(4,9),(5,9)] [(2,9),(5,9)]) kp ?_
 refine an (cE rfl (ai (cj (r:=false) _ rfl rfl) (aj (aW rfl rfl (cp (am (ai (az _ aa rfl rfl rfl rfl) (bG rfl rfl rfl rfl rfl rfl (aj (aG ?_))))))))))
 exact bI (.inr rfl) rfl (.cellA aa rfl rfl rfl) (Le.outI [((1,8),(1,9)),((3,8),(3,9)),((4,8),(4,9))] [] (.agg rfl lz) rfl rfl rfl trivial ob tr rfl)
theorem wC (hl:s.timers.length≤1) (hx: ¬ (0 < s.timers.length∧s.timers.getD 0 0=x)):ni c o s r ⟨5,x,y,z,w⟩ s r:=by
 have hb:=kT s.timers x hl
 have hl4:s.timers.length*1=(cw s.timers).length:=by rw [aO,Nat.mul_one]
 rw [decide_eq_false hx] at hb
 refine Spec.ofNI Tryz.func114 rfl Tryz.ntmps114 rfl ?_
 refine am (ai (aQ (3,0) _ rfl rfl) (ai (aQ (4,0) _ rfl rfl) (ai (aD (6,0) aa rfl rfl) (aj (aq (am (bb rfl rfl rfl (cf rfl rfl rfl (aj (ay ?_))))))))))
 iterate 3 refine cK rfl rfl rfl rfl rfl ?_
 refine iO rfl rfl rfl rfl rfl (am (bb rfl rfl rfl (ai (aF _ aa rfl rfl ei) (bb rfl rfl rfl (cf rfl rfl rfl (ai (oF aa (fc (fi rfl rfl hl4 rfl) (fc Lv.v cX)) hb rfl) ?_))))))
 refine ai (aH _ tQ) (ai (cq _ rfl ee) (ai (cq _ rfl BX) (be rfl (cu rfl (aj (aq ?_))))))
 refine aM (σ':=aE 134 [(3,_),(6,_),(9,_),(10,_)] [((1,9),_),((3,0),_),((6,0),_),((2,9),_),((3,9),_),((4,9),_),((5,9),_)] [(1,9),(2,9),(3,9),(4,9),(5,9)] [(2,9),(5,9)]) kp ?_
 exact an (cE rfl (aj (aW rfl rfl (cp (am (ai (az _ aa rfl rfl rfl rfl) (bG rfl rfl rfl rfl rfl rfl (aj (aG (bI (.inr rfl) rfl (.cellA aa rfl rfl rfl) (Le.outI [((1,8),(1,9)),((3,8),(3,9)),((4,8),(4,9))] [] (.agg rfl lz) rfl rfl rfl trivial ob tr rfl)))))))))))
theorem zI (hr:r.sent.length≤1000):ni c o s r ⟨3,x,y,z,w⟩ s { r with sent:=r.sent++[(⟨3,x,y,z,w⟩:Ac)] }:=by
 have hl2:=jP c r.sent
 have hl3:r.sent.length+1=(r.sent++[(⟨3,x,y,z,w⟩:Ac)]).length:=by rw [List.length_append];rfl
 refine Spec.ofNI Tryz.func114 rfl Tryz.ntmps114 rfl ?_
 refine am (ai (aQ (3,0) _ rfl rfl) (ai (aQ (4,0) _ rfl rfl) (ai (aD (6,0) aa rfl rfl) (aj (aq (am (bb rfl rfl rfl (cf rfl rfl rfl (aj (ay ?_))))))))))
 iterate 4 refine cK rfl rfl rfl rfl rfl ?_
 refine iO rfl rfl rfl rfl rfl (aq ?_)
 refine aM (σ':=aE 134 [(2,_),(3,_),(4,_),(6,_)] [((1,9),_),((2,9),_),((3,9),_),((4,9),_),((5,9),_),((3,0),_),((4,0),_),((6,0),_)] [(1,9),(2,9),(3,9),(4,9),(5,9)] [(2,9),(5,9)]) kp ?_
 refine pL 12 [70,71,72,73,74,75,76,77,78,79,11] [(11,0),(11,0)] ae ae rfl (rfl:_=[_,_,_,_,_,_,_,_,_,_,_,_]) (rfl:_=[]) ?_
 refine cD (_,[]) (fun τ=> aH _ bX) ?_
 refine cB (rfl:_=[_]) ?_
 refine cD (_,[]) (fun τ=> aS _ rfl rfl) ?_
 refine cB (rfl:_=[_,_]) ?_
 refine cD (_,[]) (fun τ=> aA _ aa rfl rfl rfl) ?_
 refine cB (rfl:_=[_,_,_]) ?_
 refine cD (_,[]) (fun τ=> az _ aa rfl rfl rfl rfl) ?_
 refine cB (rfl:_=[_,_,_,_]) ?_
 refine cD (_,[]) (fun τ=> aH _ bX) ?_
 refine cB (rfl:_=[_,_,_,_,_]) ?_
 refine cD (_,[]) (fun τ=> aS _ rfl rfl) ?_
 refine cB (rfl:_=[_,_,_,_,_,_]) ?_
 refine cD (_,[]) (fun τ=> aA _ aa rfl rfl rfl) ?_
 refine cB (rfl:_=[_,_,_,_,_,_,_]) ?_
 refine cD (_,[]) (fun τ=> aF _ aa rfl rfl ei) ?_
 refine cB (rfl:_=[_,_,_,_,_,_,_,_]) ?_
 refine cD (_,[]) (fun τ=> cV _ aa rfl rfl) ?_
 refine cB (rfl:_=[_,_,_,_,_,_,_,_,_]) ?_
 refine cD (_,[]) (fun τ=> aN _ aa rfl (by exact sU)) ?_
 refine cB (rfl:_=[_,_,_,_,_,_,_,_,_,_]) ?_
 refine cD (_,[((11,0),_)]) (fun τ=> aD (11,0) aa rfl rfl) ?_
 refine cB (rfl:_=[_,_,_,_,_,_,_,_,_,_,_]) ?_
 refine cD (_,[((11,0),_)]) (fun τ=> dH _ _ aa rfl rfl rfl rfl (Nat.le_of_ble_eq_true rfl) rfl) ?_
 refine cB (rfl:_=[_,_,_,_,_,_,_,_,_,_,_,_]) ?_
 refine nI ⟨⟨rfl,by kernel_rfl,by kernel_rfl⟩,?_⟩
 refine aj ?_
 refine aM (σ':=aE 134 [(2,_),(3,_),(4,_),(6,_),(11,_)] [((1,9),_),((2,9),_),((3,9),_),((4,9),_),((5,9),_),((3,0),_),((4,0),_),((6,0),_),((11,0),_)] [(1,9),(2,9),(3,9),(4,9),(5,9)] [(2,9),(5,9)]) kp ?_
 refine aM (Le.incT (96,0) rfl) ?_
 refine gX 17 [80,81,82,83,84,85,86,87,88,89,90,91,92,93,94,95,96] [(3,9),(96,0)] [[],[],[],[(3,9)],[(3,9)],[],[],[],[],[],[],[],[],[],[(3,9)],[(3,9)],[]] ae ae rfl (aL rfl) (rfl:_=[_,_,_,_,_,_,_,_,_,_,_,_,_,_,_,_,_]) (rfl:_=[_,_,_]) ?_
 refine ap (_,[]) (fun τ=> aH _ bX) ?_
 refine fP rfl ?_
 refine ap (_,[]) (fun τ=> aH _ bX) ?_
 refine fQ rfl ?_
 refine ap (_,[]) (fun τ=> aS _ rfl rfl) ?_
 refine fU rfl ?_
 refine ap (_,[]) (fun τ=> aA _ aa rfl rfl rfl) ?_
 refine fY rfl ?_
 refine ap (_,[]) (fun τ=> aF _ aa rfl rfl ei) ?_
 refine gz rfl ?_
 refine ap (_,[]) (fun τ=> az _ aa rfl rfl rfl rfl) ?_
 refine gZ rfl ?_
 refine ap (_,[]) (fun τ=> aA _ aa rfl rfl rfl) ?_
 refine jg rfl ?_
 refine ap (_,[]) (fun τ=> aF _ aa rfl rfl ee) ?_
 refine ka rfl ?_
 refine ap (_,[]) (fun τ=> aA _ aa rfl rfl rfl) ?_
 refine kG rfl ?_
 refine ap (_,[]) (fun τ=> aF _ aa rfl rfl ee) ?_
 refine fW rfl ?_
 refine ap (_,[]) (fun τ=> aA _ aa rfl rfl rfl) ?_
 refine gL rfl ?_
 refine ap (_,[]) (fun τ=> aF _ aa rfl rfl ee) ?_
 refine kP rfl ?_
 refine ap (_,[]) (fun τ=> aA _ aa rfl rfl rfl) ?_
 refine mt rfl ?_
 refine ap (_,[]) (fun τ=> aF _ aa rfl rfl ee) ?_
 refine pw rfl ?_
 refine ap (_,[]) (fun τ=> aN _ aa rfl (by exact (rfl:_=some [_,_,_,_,_,_,_,_,_]))) ?_
 refine vZ rfl ?_
 refine ap (_,[]) (fun τ=> bh _ _ aa rfl ag (by (simp <;> rfl)) ah rfl) ?_
 refine wJ rfl ?_
 refine ap (_,[((3,9), .gone),((96,0),_)]) (fun τ=> mZ (b:=true) (96,0) _ _ aa rfl (eL rfl (by exact dO) rfl) hl2.symm (.sl rfl) ab rfl rfl rfl (AX c r.sent ⟨3,x,y,z,w⟩) hl3) ?_
 refine yf rfl (bm ⟨⟨rfl,by kernel_rfl⟩,?_⟩)
 refine ai (aS _ rfl rfl) (bb rfl rfl rfl (bG rfl rfl rfl rfl rfl rfl (ek (aq ?_))))
 refine aM (σ':=aE 134 [(3,_),(6,_)] [((1,9),_),((3,0),_),((6,0),_),((2,9),_),((4,9),_),((5,9),_),((96,0),_)] [(1,9),(2,9),(4,9),(5,9),(96,0)] [(2,9),(5,9)]) kp ?_
 exact an (ai (az _ aa rfl rfl rfl rfl) (bG rfl rfl rfl rfl rfl rfl (aj (aG (bI (.inr rfl) rfl (.cellA aa rfl rfl rfl) (Le.outI [((1,8),(1,9)),((3,8),(96,0)),((4,8),(4,9))] [] (.agg rfl lz) rfl rfl rfl trivial ob tr rfl))))))
theorem yb (h0:0≤s.wait) (h1:x=s.wait):ni c o s r ⟨6,x,y,z,w⟩ { s with wait:= -1 } { r with repl:=true,value:=y }:=by
 refine Spec.ofNI Tryz.func114 rfl Tryz.ntmps114 rfl ?_
 refine am (ai (aQ (3,0) _ rfl rfl) (ai (aQ (4,0) _ rfl rfl) (ai (aD (6,0) aa rfl rfl) (aj (aq (am (bb rfl rfl rfl (cf rfl rfl rfl (aj (ay ?_))))))))))
 iterate 5 refine cK rfl rfl rfl rfl rfl ?_
 refine aq ?_
 refine aM (σ':=aE 134 [(2,_),(3,_),(4,_),(6,_),(13,_)] [((1,9),_),((2,9),_),((3,9),_),((4,9),_),((5,9),_),((3,0),_),((4,0),_),((6,0),_)] [(1,9),(2,9),(3,9),(4,9),(5,9)] [(2,9),(5,9)]) kp ?_
 refine zr rfl rfl rfl rfl rfl (am (bb rfl rfl rfl (cf rfl rfl rfl (ai (fw (r:=true) _ _ rfl rfl (decide_eq_true ab)) ?_))))
 refine cE rfl (au rfl rfl (aA _ aa rfl rfl rfl) (au rfl rfl (aF _ aa rfl rfl ee) (au rfl rfl (aA _ aa rfl rfl rfl) (au rfl rfl (aF _ aa rfl rfl ee) (au rfl rfl (bC (r:=true) _ _ rfl rfl (by rw [h1];exact beq_self_eq_true _)) ?_)))))
 refine ai (aB _ _ _ rfl bJ) (aj (bM rfl rfl ?_))
 refine aM (σ':=aE 134 [(2,_),(3,_),(4,_),(6,_)] [((1,9),_),((2,9),_),((3,9),_),((4,9),_),((5,9),_),((3,0),_),((4,0),_),((6,0),_)] [(1,9),(2,9),(3,9),(4,9),(5,9)] [(2,9),(5,9)]) kp ?_
 refine gX 7 [111,112,113,114,115,116] [(2,9)] [[(2,9)],[],[],[],[(2,9)],[(2,9)],[]] ae ae rfl (aL rfl) (rfl:_=[_,_,_,_,_,_,_]) (rfl:_=[_,_,_,_,_]) ?_
 refine ap (_,[]) (fun τ=> aH _ bX) ?_
 refine fP rfl ?_
 refine ap (_,[]) (fun τ=> aH _ bX) ?_
 refine fQ rfl ?_
 refine ap (_,[]) (fun τ=> aA _ aa rfl rfl rfl) ?_
 refine fU rfl ?_
 refine ap (_,[]) (fun τ=> aF _ aa rfl rfl ee) ?_
 refine fY rfl ?_
 refine ap (_,[]) (fun τ=> aS _ rfl rfl) ?_
 refine gz rfl ?_
 refine ap (_,[]) (fun τ=> aA _ aa rfl rfl rfl) ?_
 refine gZ rfl ?_
 refine ap (_,[((2,9),_)]) (fun τ=> dH _ _ aa rfl (eL rfl (by exact dO) rfl) rfl rfl (Nat.le_of_ble_eq_true rfl) rfl) ?_
 refine jg rfl (bm ⟨⟨rfl,by kernel_rfl⟩,?_⟩)
 refine ai (aS _ rfl rfl) (bb rfl rfl rfl (bG rfl rfl rfl rfl rfl rfl (bb rfl rfl rfl (bG rfl rfl rfl rfl rfl rfl (ek (am (ai (az _ aa rfl rfl rfl rfl) (bG rfl rfl rfl rfl rfl rfl (aj (aG ?_))))))))))
 exact bI (.inr rfl) rfl (.cellA aa rfl rfl rfl) (Le.outI [((1,8),(1,9)),((3,8),(3,9)),((4,8),(4,9))] [] (.agg rfl lz) rfl rfl rfl trivial ob tr rfl)
theorem wg (h0:s.wait < 0):ni c o s r ⟨6,x,y,z,w⟩ s r:=by
 refine Spec.ofNI Tryz.func114 rfl Tryz.ntmps114 rfl ?_
 refine am (ai (aQ (3,0) _ rfl rfl) (ai (aQ (4,0) _ rfl rfl) (ai (aD (6,0) aa rfl rfl) (aj (aq (am (bb rfl rfl rfl (cf rfl rfl rfl (aj (ay ?_))))))))))
 iterate 5 refine cK rfl rfl rfl rfl rfl ?_
 refine aq ?_
 refine aM (σ':=aE 134 [(2,_),(3,_),(4,_),(6,_),(13,_)] [((1,9),_),((2,9),_),((3,9),_),((4,9),_),((5,9),_),((3,0),_),((4,0),_),((6,0),_)] [(1,9),(2,9),(3,9),(4,9),(5,9)] [(2,9),(5,9)]) kp ?_
 refine zr rfl rfl rfl rfl rfl (am (bb rfl rfl rfl (cf rfl rfl rfl (ai (fw (r:=false) _ _ rfl rfl (decide_eq_false ab)) ?_))))
 refine cE rfl (aK rfl rfl ah ?_)
 refine aK rfl rfl ah ?_
 refine aK rfl rfl ah ?_
 refine aK rfl rfl ah ?_
 refine aK rfl rfl ah ?_
 exact ai (aB _ _ _ rfl bJ) (aj (aW rfl rfl (cp (am (ai (az _ aa rfl rfl rfl rfl) (bG rfl rfl rfl rfl rfl rfl (aj (aG (bI (.inr rfl) rfl (.cellA aa rfl rfl rfl) (Le.outI [((1,8),(1,9)),((3,8),(3,9)),((4,8),(4,9))] [] (.agg rfl lz) rfl rfl rfl trivial ob tr rfl))))))))))
theorem wF (h0:0≤s.wait) (h1:x≠s.wait):ni c o s r ⟨6,x,y,z,w⟩ s r:=by
 refine Spec.ofNI Tryz.func114 rfl Tryz.ntmps114 rfl ?_
 refine am (ai (aQ (3,0) _ rfl rfl) (ai (aQ (4,0) _ rfl rfl) (ai (aD (6,0) aa rfl rfl) (aj (aq (am (bb rfl rfl rfl (cf rfl rfl rfl (aj (ay ?_))))))))))
 iterate 5 refine cK rfl rfl rfl rfl rfl ?_
 refine aq ?_
 refine aM (σ':=aE 134 [(2,_),(3,_),(4,_),(6,_),(13,_)] [((1,9),_),((2,9),_),((3,9),_),((4,9),_),((5,9),_),((3,0),_),((4,0),_),((6,0),_)] [(1,9),(2,9),(3,9),(4,9),(5,9)] [(2,9),(5,9)]) kp ?_
 refine zr rfl rfl rfl rfl rfl (am (bb rfl rfl rfl (cf rfl rfl rfl (ai (fw (r:=true) _ _ rfl rfl (decide_eq_true ab)) ?_))))
 refine cE rfl (au rfl rfl (aA _ aa rfl rfl rfl) (au rfl rfl (aF _ aa rfl rfl ee) (au rfl rfl (aA _ aa rfl rfl rfl) (au rfl rfl (aF _ aa rfl rfl ee) (au rfl rfl (bC (r:=false) _ _ rfl rfl (beq_eq_false_iff_ne.2 h1)) ?_)))))
 exact ai (aB _ _ _ rfl bJ) (aj (aW rfl rfl (cp (am (ai (az _ aa rfl rfl rfl rfl) (bG rfl rfl rfl rfl rfl rfl (aj (aG (bI (.inr rfl) rfl (.cellA aa rfl rfl rfl) (Le.outI [((1,8),(1,9)),((3,8),(3,9)),((4,8),(4,9))] [] (.agg rfl lz) rfl rfl rfl trivial ob tr rfl))))))))))
theorem Az (hr:r.fails.length≤1000):ni c o s r ⟨7,x,y,z,w⟩ s { r with fails:=r.fails++[x] }:=by
 have hl3:r.fails.length+1=(r.fails++[x]).length:=by rw [List.length_append];rfl
 refine Spec.ofNI Tryz.func114 rfl Tryz.ntmps114 rfl ?_
 refine am (ai (aQ (3,0) _ rfl rfl) (ai (aQ (4,0) _ rfl rfl) (ai (aD (6,0) aa rfl rfl) (aj (aq (am (bb rfl rfl rfl (cf rfl rfl rfl (aj (ay ?_))))))))))
 iterate 5 refine cK rfl rfl rfl rfl rfl ?_
 refine aq ?_
 refine aM (σ':=aE 134 [(2,_),(3,_),(4,_),(6,_),(13,_)] [((1,9),_),((2,9),_),((3,9),_),((4,9),_),((5,9),_),((3,0),_),((4,0),_),((6,0),_)] [(1,9),(2,9),(3,9),(4,9),(5,9)] [(2,9),(5,9)]) kp ?_
 refine dZ rfl rfl rfl rfl rfl (iO rfl rfl rfl rfl rfl ?_)
 refine aM (σ':=aE 134 [(2,_),(3,_),(4,_),(6,_)] [((1,9),_),((2,9),_),((3,9),_),((4,9),_),((5,9),_),((3,0),_),((4,0),_),((6,0),_)] [(1,9),(2,9),(3,9),(4,9),(5,9)] [(2,9),(5,9)]) kp ?_
 refine aM (Le.incT (130,0) rfl) ?_
 refine gX 9 [122,123,124,125,126,127,128,129,130] [(4,9),(130,0)] [[],[],[],[(4,9)],[(4,9)],[],[(4,9)],[(4,9)],[]] ae ae rfl (aL rfl) (rfl:_=[_,_,_,_,_,_,_,_,_]) (rfl:_=[_,_,_]) ?_
 refine ap (_,[]) (fun τ=> aH _ bX) ?_
 refine fP rfl ?_
 refine ap (_,[]) (fun τ=> aH _ bX) ?_
 refine fQ rfl ?_
 refine ap (_,[]) (fun τ=> aS _ rfl rfl) ?_
 refine fU rfl ?_
 refine ap (_,[]) (fun τ=> aA _ aa rfl rfl rfl) ?_
 refine fY rfl ?_
 refine ap (_,[]) (fun τ=> aF _ aa rfl rfl ei) ?_
 refine gz rfl ?_
 refine ap (_,[]) (fun τ=> aA _ aa rfl rfl rfl) ?_
 refine gZ rfl ?_
 refine ap (_,[]) (fun τ=> aF _ aa rfl rfl ee) ?_
 refine jg rfl ?_
 refine ap (_,[]) (fun τ=> bh _ _ aa rfl ag (by (simp <;> rfl)) ah rfl) ?_
 refine ka rfl ?_
 refine ap (_,[((4,9), .gone),((130,0),_)]) (fun τ=> mZ (b:=true) (130,0) _ _ aa rfl (eL rfl (by exact dO) rfl) (by rw [aO,Nat.mul_one]) (.sl rfl) ab rfl rfl rfl (sC r.fails [x]) hl3) ?_
 refine kG rfl (bm ⟨⟨rfl,by kernel_rfl⟩,?_⟩)
 exact ai (aS _ rfl rfl) (bb rfl rfl rfl (bG rfl rfl rfl rfl rfl rfl (ek (am (ai (az _ aa rfl rfl rfl rfl) (bG rfl rfl rfl rfl rfl rfl (aj (aG (bI (.inr rfl) rfl (.cellA aa rfl rfl rfl) (Le.outI [((1,8),(1,9)),((3,8),(3,9)),((4,8),(130,0))] [] (.agg rfl lz) rfl rfl rfl trivial ob tr rfl))))))))))
end
end Go.Proofs.YtmjnackchaahbaaGreat

namespace Go.Proofs.YtmjnackchaahbaaGreat
def TmC (c:List eW) (t:Int):Bool:=decide (0≤t∧t < 8) && c.all fun x=> (decide (x.op≠ .timer) || decide (x.n=t)) && (decide (x.op≠ .cancel) || decide (x.n≠t))
structure xn (t:Int) (a:Ac):Prop where
 kd:1≤a.k∧a.k≤7
 tm:a.k=4→a.a=t
 cn:a.k=5→a.a≠t
theorem Fj {K:Cx} {x:eW} {s:Ms} {t:Int} (h1:x.op= .timer→x.n=t) (h2:x.op= .cancel→x.n≠t) (h: ∀ a∈s.acts,xn t a): ∀ a∈(dA K x s).acts,xn t a:=by
 have app: ∀ (b:Ac),xn t b→ ∀ a∈s.acts++[b],xn t a:=fun b hb a ha=> by
  rcases List.mem_append.1 ha with ha | ha
  ·exact h a ha
  simp at ha;subst ha;exact hb
 unfold dA
 cases ho:x.op <;> simp only
 case setVar=>
  split
  ·exact app _ ⟨by simp,fun e=> by simp at e,fun e=> by simp at e⟩
  exact h
 case draw=> split <;> exact h
 case send=>
  split
  ·exact app _ ⟨by simp,fun e=> by simp at e,fun e=> by simp at e⟩
  exact h
 case timer=> exact app _ ⟨by simp,fun _=> h1 ho,fun e=> by simp at e⟩
 case cancel=> exact app _ ⟨by simp,fun e=> by simp at e,fun _=> h2 ho⟩
 case sync=> exact app _ ⟨by simp,fun e=> by simp at e,fun e=> by simp at e⟩
 case reply=> exact app _ ⟨by simp,fun e=> by simp at e,fun e=> by simp at e⟩
 case fail=> exact app _ ⟨by simp,fun e=> by simp at e,fun e=> by simp at e⟩
 all_goals exact h
theorem xy {c:List eW} {t:Int} (h:TmC c t=true) (i:Nat):((c.getD i { op:= .stop }).op= .timer→(c.getD i { op:= .stop }).n=t)∧((c.getD i { op:= .stop }).op= .cancel→(c.getD i { op:= .stop }).n≠t):=by
 unfold TmC at h
 rw [Bool.and_eq_true,List.all_eq_true] at h
 by_cases hi:i < c.length
 ·have e:c.getD i { op:= .stop }=c[i]:=by rw [List.getD_eq_getElem?_getD,List.getElem?_eq_getElem hi];rfl
  rw [e]
  have:=h.2 _ (List.getElem_mem hi)
  simp only [Bool.and_eq_true,Bool.or_eq_true,decide_eq_true_eq] at this
  exact ⟨fun e=> (this.1.resolve_left fun h=> h e),fun e=> (this.2.resolve_left fun h=> h e)⟩
 have e:c.getD i { op:= .stop }={ op:= .stop }:=by rw [List.getD_eq_getElem?_getD,List.getElem?_eq_none ab];rfl
 rw [e];exact ⟨fun e=> (by cases e),fun e=> (by cases e)⟩
theorem GM {K:Cx} {t:Int} (hc:TmC K.code t=true) (k:Nat) (s:Ms) (h: ∀ a∈s.acts,xn t a): ∀ a∈(kV K k s).acts,xn t a:=
 kx (I:=fun s=> ∀ a∈s.acts,xn t a) (fun s h _=> Fj (xy hc s.pc).1 (xy hc s.pc).2 h) k s h
theorem vu {p:Pg} {t:Int} (hc:TmC p.c t=true) (h:Nat) (names vars ans:List Int): ∀ a∈(jb p h names vars ans).acts,xn t a:=by
 unfold jb
 split
 ·exact fun a ha=> by simp at ha
 exact GM hc 500 _ fun a ha=> by simp [dV] at ha
abbrev qS (t:Int) (l:List Int):Prop:=l=[]∨l=[t]
theorem TmC.rg {c:List eW} {t:Int} (h:TmC c t=true):0≤t∧t < 8:=by
 unfold TmC at h
 rw [Bool.and_eq_true] at h
 exact of_decide_eq_true h.1
theorem Mb {P:Int→Prop} (h:P 0∧P 1∧P 2∧P 3∧P 4∧P 5∧P 6∧P 7) {t:Int} (ht:0≤t∧t < 8):P t:=by
 obtain ⟨h0,h1,h2,h3,h4,h5,h6,h7⟩:=h
 have:t=0∨t=1∨t=2∨t=3∨t=4∨t=5∨t=6∨t=7:=by omega
 rcases this with h | h | h | h | h | h | h | h <;> (subst h;assumption)
theorem wS {t:Int} (ht:0≤t∧t < 8) {l:List Int} (h:qS t l):xj l t true=[t]:=by
 rcases h with h | h
 ·subst h;exact Mb (P:=fun t=> xj [] t true=[t]) ah ht
 subst h;exact Mb (P:=fun t=> xj [t] t true=[t]) ah ht
theorem xl {t u:Int} (ht:0≤t∧t < 8) (hu:u≠t) {l:List Int} (h:qS t l):xj l u false=l:=by
 have e:xj l u false=((List.range 8).map fun (i:Nat)=> (i:Int)).filter fun i=> decide (i∈l):=by
  unfold xj
  refine List.filter_congr fun i _=> ?_
  split
  ·rename_i hi
   subst hi
   rcases h with h | h
   ·subst h;rfl
   subst h;exact (decide_eq_false (by simpa using hu)).symm
  rfl
 rw [e]
 rcases h with h | h
 ·subst h;rfl
 subst h;exact Mb (P:=fun t=> (((List.range 8).map fun (i:Nat)=> (i:Int)).filter fun i=> decide (i∈[t]))=[t]) ah ht
theorem tW {t:Int} (ht:0≤t∧t < 8) {q:Ns×Nr} {a:Ac} (ha:xn t a) (h:qS t q.1.timers):qS t (eh q a).1.timers:=by
 unfold eh
 split
 ·exact h
 split
 ·exact h
 split
 ·rename_i h4
  show qS t (xj q.1.timers a.a true)
  rw [ha.tm h4,wS ht h]
  exact .inr rfl
 split
 ·rename_i h5
  show qS t (xj q.1.timers a.a false)
  rw [xl ht (ha.cn h5) h]
  exact h
 split
 ·exact h
 split
 ·split <;> exact h
 split <;> exact h
theorem Gx {s:Ns} {l:List Int} (h:l=s.timers):{ s with timers:=l }=s:=by subst h;rfl
theorem GG (c:Cz) (o:Ot) {t:Int} (ht:0≤t∧t < 8) (q:Ns×Nr) (a:Ac) (ha:xn t a) (hq:qS t q.1.timers) (hs:jY q.1) (ho:jH q.1.dk) (hr:q.2.sent.length≤1000) (hf:q.2.fails.length≤1000):
  ni c o q.1 q.2 a (eh q a).1 (eh q a).2:=by
 obtain ⟨s,r⟩:=q
 obtain ⟨k,x,y,z,w⟩:=a
 obtain ⟨hk,h4,h5⟩:=ha
 simp only at hk h4 h5 hq hs ho hr hf
 have:k=1∨k=2∨k=3∨k=4∨k=5∨k=6∨k=7:=by omega
 rcases this with e | e | e | e | e | e | e <;> subst e
 ·exact xJ c o s r x y z w hs ho
 ·exact zH c o s r x y z w hs ho
 ·exact zI c o s r x y z w hr
 ·obtain rfl:=h4 rfl
  have e:(eh (s,r) ⟨4,x,y,z,w⟩)=({ s with timers:=[x] },r):=by
   show ({ s with timers:=xj s.timers x true },r)=_
   rw [wS ht hq]
  rw [e]
  rcases hq with hq | hq
  ·exact vV c o s r x y z w hq
  have:=vF c o s r x y z w hq
  rwa [Gx hq.symm]
 ·have hx:=h5 rfl
  have e:(eh (s,r) ⟨5,x,y,z,w⟩)=(s,r):=by
   show ({ s with timers:=xj s.timers x false },r)=_
   rw [xl ht hx hq,Gx rfl]
  rw [e]
  refine wC c o s r x y z w ?_ ?_
  ·rcases hq with hq | hq <;> rw [hq]
   ·exact Nat.zero_le 1
   exact Nat.le_refl 1
  rcases hq with hq | hq <;> rw [hq]
  ·exact fun h=> absurd h.1 (Nat.lt_irrefl _)
  exact fun h=> hx h.2.symm
 ·by_cases h0:0≤s.wait
  ·by_cases h1:x=s.wait
   ·have e:(eh (s,r) ⟨6,x,y,z,w⟩)=({ s with wait:= -1 },{ r with repl:=true,value:=y }):=by
     show (if 0≤s.wait∧x=s.wait then ({ s with wait:= -1 },{ r with repl:=true,value:=y }) else (s,r))=_
     exact if_pos ⟨h0,h1⟩
    rw [e];exact yb c o s r x y z w h0 h1
   have e:(eh (s,r) ⟨6,x,y,z,w⟩)=(s,r):=by
    show (if 0≤s.wait∧x=s.wait then ({ s with wait:= -1 },{ r with repl:=true,value:=y }) else (s,r))=_
    exact if_neg fun h=> h1 h.2
   rw [e];exact wF c o s r x y z w h0 h1
  have e:(eh (s,r) ⟨6,x,y,z,w⟩)=(s,r):=by
   show (if 0≤s.wait∧x=s.wait then ({ s with wait:= -1 },{ r with repl:=true,value:=y }) else (s,r))=_
   exact if_neg fun h=> h0 h.1
  rw [e];exact wg c o s r x y z w ab
 exact Az c o s r x y z w hf
theorem pi (s:Ns) (hs:jY s) (ho:jH s.dk):Spec Tryz.prog 47 (aY [.agg (GB s (.ref (1,9) 0 s.timers.length))] [((1,9), .row 3 1 (cw s.timers))]) (bc (.sl (s.dk.view++s.vol).length (cw (s.dk.view++s.vol))) [((1,9), .row 3 1 (cw s.timers))] [(1,9)] [(1,9)]):=by
 have hc:=hs.c
 have hp:=hs.p
 have hv:=hs.v
 have hw:=sh s.dk ab ab ho
 have hl:s.dk.view.length=s.dk.cells.length:=gu _ _
 have hl2:s.dk.cells.length+s.vol.length=(s.dk.view++s.vol).length:=by rw [List.length_append,hl]
 refine Spec.ofNI Tryz.func47 rfl Tryz.ntmps47 rfl ?_
 refine am (ai (aQ (1,0) _ rfl rfl) (ai (bp _ fC) (aj (aq (pL 6 [3,4,5,6,7,8] [(5,0),(5,0),(8,0)] ae ae rfl (rfl:_=[_,_,_,_,_,_]) (rfl:_=[_]) ?_)))))
 refine cD (_,[]) (fun τ=> aA _ aa rfl rfl rfl) ?_
 refine cB (rfl:_=[_]) ?_
 refine cD (_,[]) (fun τ=> az _ aa rfl rfl rfl rfl) ?_
 refine cB (rfl:_=[_,_]) ?_
 refine cD (_,[((5,0),_)]) (fun τ=> (bW aa [((0,8),(5,0))] ar (hw.toI) trivial tr tr rfl rfl ae ae)) ?_
 refine cB (rfl:_=[_,_,_]) ?_
 refine cD (_,[]) (fun τ=> aA _ aa rfl rfl rfl) ?_
 refine cB (rfl:_=[_,_,_,_]) ?_
 refine cD (_,[]) (fun τ=> aF _ aa rfl rfl eG) ?_
 refine cB (rfl:_=[_,_,_,_,_]) ?_
 refine cD (_,[((5,0), .gone),((8,0), .gone)]) (fun τ=> Ch (8,0) _ _ aa rfl rfl (by rw [aO,hl,Nat.mul_one]) (.sl (by rw [aO,Nat.mul_one])) ab rfl rfl rfl (sC _ _) hl2) ?_
 refine cB (rfl:_=[_,_,_,_,_,_]) ?_
 refine nI ⟨⟨rfl,by kernel_rfl,by kernel_rfl⟩,?_⟩
 exact kH rfl (aj (aG (bI (.inr rfl) rfl (.tmp mL) (Le.outI [] [] .sl rfl rfl rfl trivial ob tr rfl))))
theorem zm (l:List Int) (h:l.length≤1000000) (h0:0 < l.length):Spec Tryz.prog 92 (ba [.sl l.length (cw l)] []) (aP (.sl l.length (cw l)) []):=by
 refine Spec.ofN Tryz.func92 rfl Tryz.ntmps92 rfl ?_
 refine am (ai (bp _ fC) (aj (aq (am (eY rfl (ai (sK _ _ Tryz.underlying22 (.inl ⟨_,rfl⟩) h0 rfl) ?_))))))
 refine aj (aW rfl rfl (aT (am (ai (qM _ aa rfl) (eY rfl (ai (ta _ _ aa rfl (.sl (by rw [aO,Nat.mul_one])) ab) ?_))))))
 exact kH rfl (aj (aG (qV rfl rfl)))
theorem xK:Spec Tryz.prog 92 (ba [.sl 0 (cw [])] []) (aP (.sl 0 (cw [])) []):=by
 refine Spec.ofN Tryz.func92 rfl Tryz.ntmps92 rfl ?_
 refine am (ai (bp _ fC) (aj (aq (am (eY rfl (AY (tB _ _ Tryz.underlying22 rfl rfl) ?_))))))
 rintro _ ⟨b4,rfl⟩
 refine aj (aR rfl (fun hc4=> ?_) (fun hc4=> ?_))
 ·skip
  exact am (ai (bp _ fC) (aj (aG (bI (.inr rfl) rfl (.tmp lb) (Le.out [] [] .nil rfl rfl rfl trivial trivial)))))
 refine aT (am (ai (qM _ aa rfl) (eY rfl (ai (ta _ _ aa rfl (.sl rfl) ab) ?_))))
 exact kH rfl (aj (aG (qV rfl rfl)))
theorem nT (l:List Int) (h:l.length≤1000000):Spec Tryz.prog 92 (ba [.sl l.length (cw l)] []) (aP (.sl l.length (cw l)) []):=by
 by_cases h0:0 < l.length
 ·exact zm l h h0
 obtain rfl:l=[]:=List.eq_nil_of_length_eq_zero ab
 exact xK

abbrev Oa (s:Ns) (h:Nat) (ck:Int) (vol:List Int):Ns:={ s with clock:=ck,counts:=s.counts.set h (s.counts.getD h 0+1),vol:=vol }
abbrev cU (s:Ns) (h:Nat) (ck:Int) (P:Pg) (R:Ms) (k:Nat):Ns×Nr:=(R.acts.take k).foldl eh (Oa s h ck (R.vars.drop P.d),{})
abbrev GU (R:Ms):Ot:=⟨R.vars,R.acts,(R.steps:Int), !R.fin,fz (kI R.cov)⟩
abbrev Dv (nm:List Int):AV:= .agg [.v (.slice none 0 0), .v (.int .i64 (nm.getD 0 0)), .v (.int .i64 (nm.getD 1 0)), .v (.int .i64 (nm.getD 2 0)), .v (.int .i64 (nm.getD 3 0)), .v (.int .i64 (nm.getD 4 0)), .v (.int .i64 (nm.getD 5 0)), .v (.int .i64 (nm.getD 6 0)), .v (.int .i64 (nm.getD 7 0)), .v (.int .i64 (nm.getD 8 0))]
abbrev LO (c:Cz) (R:Ms) (q:Ns×Nr) (t:Tl) (n:Nat) (L:List PV):List (aC×Cells):=[((1,8), .row 3 1 (cw q.1.timers)),((2,8), .row 57 5 (vA R.acts)),((3,8), .row 117 9 (Al c q.2.sent)),((6,8), .row 3 1 (cw q.2.fails))]++pu t n L (5,8)
set_option maxHeartbeats 4000000 in
theorem Ri (s:Ns) (hs:jY s) (ho:jH s.dk) (hc:s.counts.length=41) (P:Pg) (h:Nat) (hh:h < 40) (self nodes drift tk:Int) (nm:List Int) (t:Tl) (n0:Nat) (L0:List PV) (hdr:drift≤0) (hcb: ∀ k, -1000000≤s.counts.getD k 0∧s.counts.getD k 0≤1000000) (hck: -1000000≤s.clock∧s.clock≤1000000)
  (R:Ms) (Q:List PV) (hv:Spec Tryz.prog 59 (aY [il P, .v (.int .i64 (h:Int)), .agg [.sl (s.dk.view++s.vol).length (cw (s.dk.view++s.vol)), .v (.int .i64 self), .v (.int .i64 nodes), .v (.int .i64 (s.clock+1)), .v (.int .i64 (nm.getD 3 0)), .v (.int .i64 (nm.getD 4 0)), .v (.int .i64 (nm.getD 5 0)), .v (.int .i64 (nm.getD 6 0)), .v (.int .i64 (nm.getD 7 0)), .v (.int .i64 (nm.getD 8 0))],wo (6,9)] (zC t n0 (L0) (5,9)))
   (bc (.agg [.sl R.vars.length (cw R.vars), .ref (2,8) 0 R.acts.length, .v (.int .i64 (R.steps:Int)), .v (.bool (!R.fin)), .sl (fz (kI R.cov)).length (cw (fz (kI R.cov)))]) (((2,8), .row 57 5 (vA R.acts))::zC t (n0+R.asked.length) (L0++Q) (5,8)) [(2,8),(4,9),(5,8),(6,9)] [(4,9),(6,9)]))
  (hd:P.d≤R.vars.length) (hrv:R.vars.length≤1000) (hra:R.acts.length≤500)
  (hq: ∀ i,i < R.acts.length→ni ⟨self,(h:Int),s.counts.getD h 0⟩ (GU R) (cU s h (s.clock+1) P R i).1 (cU s h (s.clock+1) P R i).2 (pB R.acts i) (cU s h (s.clock+1) P R (i+1)).1 (cU s h (s.clock+1) P R (i+1)).2):
  Spec Tryz.prog 81 (aY [jZ s,il P, .v (.int .i64 (h:Int)), .v (.int .i64 self), .v (.int .i64 nodes), .v (.int .i64 drift),Dv nm,jL] (pu t n0 L0 (5,9)))
   (bc (.tup [.agg (GB (cU s h (s.clock+1) P R R.acts.length).1 (.ref (1,8) 0 (cU s h (s.clock+1) P R R.acts.length).1.timers.length)), .agg (Ko ⟨self,(h:Int),s.counts.getD h 0⟩ (cU s h (s.clock+1) P R R.acts.length).2 (GU R) (3,8) (6,8) (2,8))]) (LO ⟨self,(h:Int),s.counts.getD h 0⟩ R (cU s h (s.clock+1) P R R.acts.length) t (n0+R.asked.length) (L0++Q)) [(1,8),(2,8),(3,8),(4,9),(5,8),(6,8)] [(4,9)]):=by
 have hcb2:=hcb h
 have hcb2: -1000000≤cO s h∧cO s h≤1000000:=hcb2
 have hce:=tA s h ab (s.counts.getD h 0+1)
 have hal:=gk R.acts
 have hown:=kj s hs
 have hnv:=pi { s with clock:=s.clock+1 } ⟨hs.c,hs.p,hs.v,hs.t⟩ ho
 have hcl:=nT (R.vars.drop P.d) (by rw [List.length_drop];omega)
 have hds:((cw R.vars).drop (P.d*1)).take ((R.vars.length - P.d)*1)=cw (R.vars.drop P.d):=by
  rw [Nat.mul_one,Nat.mul_one,List.take_of_length_le (by rw [List.length_drop,aO];omega)]
  simp [cw,List.map_drop]
 have hdl:R.vars.length - P.d=(R.vars.drop P.d).length:=by rw [List.length_drop]
 refine Spec.ofNI Tryz.func81 rfl Tryz.ntmps81 rfl ?_
 refine am (ai (aQ (8,0) _ rfl rfl) (ai (aQ (9,0) _ rfl rfl) (ai (aQ (14,0) _ rfl rfl) (ai (aQ (15,0) _ rfl rfl) (ai (aD (16,0) aa rfl rfl) (ai (aD (17,0) aa rfl rfl) (aj (am (ai (az _ aa rfl rfl rfl rfl) (ai (bW aa [((1,8),(22,0))] ar (hown.toI) trivial tr tr rfl rfl ae ae) ?_))))))))))
 refine bG rfl rfl rfl rfl rfl rfl (aj (am (aX rfl (aX rfl (aX rfl (bb rfl rfl rfl (ai (da _ _ aa rfl rfl rfl h rfl ab (show 8+h*1=8+h from by omega)) ?_)))))))
 refine ai (aF _ aa rfl rfl (nn _ _ _ _ _ _ _ _ _ _ h ab)) ?_
 refine ai (aN _ aa rfl (by exact (rfl:_=some [_,_,_]))) ?_
 refine ai (aN _ aa rfl (by exact (rfl:_=some [_,_,_,_,_,_,_,_,_,_,_,_]))) ?_
 refine ai (aD (18,0) aa rfl rfl) (bG rfl rfl rfl rfl rfl rfl (aj (aq ?_)))
 refine aM (σ':=aE 93 [(2,_),(3,_),(4,_),(5,_),(8,_),(9,_),(14,_),(15,_),(16,_),(17,_),(18,_)] [((4,9),_),((5,9),_),((8,0),_),((9,0),_),((14,0),_),((15,0),_),((16,0),_),((17,0),_),((22,0),_),((18,0),_)] [(4,9),(5,9)] [(4,9)]) kp ?_
 refine an (bb rfl rfl rfl (cf rfl rfl rfl (ai (aZ _ _ rfl rfl (bD ab)) ?_)))
 refine bb rfl rfl rfl (bG rfl rfl rfl rfl rfl rfl (aj (aq (am (aX rfl (ai (fM (r:=false) _ _ rfl rfl (decide_eq_false ab)) ?_))))))
 refine aj (aW rfl rfl (aT (aU fun K7 hK7=> ?_)))
 refine an (ai (az _ aa rfl rfl rfl rfl) (ai (bW aa [((1,9),(22,0))] ar (hnv) ob tr tr rfl rfl ae ae) ?_))
 refine bb rfl rfl rfl (bG rfl rfl rfl rfl rfl rfl (aJ (hK7 _ ?_)))
 clear hK7;try clear K7
 refine aq ?_
 refine aM (σ':=aE 93 [(2,_),(3,_),(4,_),(8,_),(9,_),(14,_),(15,_),(16,_),(17,_),(18,_)] [((4,9),_),((5,9),_),((8,0),_),((9,0),_),((14,0),_),((15,0),_),((16,0),_),((17,0),_),((22,0),_),((18,0),_)] [(4,9),(5,9)] [(4,9)]) kp ?_
 refine wU (14,0) (fun c=> ∃ xs,c=Slot.obj (.box 132 xs)) 11 [48,49,50,51,52,53,54,55,56] [(14,0),(14,0)] ae ae rfl (rfl:_=[_,_,_,_,_,_,_,_,_,_,_]) (rfl:_=[_,_]) (⟨_,rfl⟩) ?_
 refine eB (_,[]) (fun τ hτ=> aH _ eg) ?_
 refine eA (rfl:_=[_]) ?_
 refine eB (_,[]) (fun τ hτ=> aH _ eg) ?_
 refine eA (rfl:_=[_,_]) ?_
 refine eB (_,[]) (fun τ hτ=> aA _ aa rfl rfl rfl) ?_
 refine eA (rfl:_=[_,_,_]) ?_
 refine eB (_,[]) (fun τ hτ=> aF _ aa rfl rfl ee) ?_
 refine eA (rfl:_=[_,_,_,_]) ?_
 refine eB (_,[]) (fun τ hτ=> aA _ aa rfl (by exact hτ.choose_spec) rfl) ?_
 refine eA (rfl:_=[_,_,_,_,_]) ?_
 refine eB (_,[]) (fun τ hτ=> da _ _ aa rfl (by exact hτ.choose_spec) rfl 0 rfl ab rfl) ?_
 refine eA (rfl:_=[_,_,_,_,_,_]) ?_
 refine eB (_,[((14,0),_)]) (fun τ hτ=> dH _ _ aa rfl rfl rfl rfl (Nat.le_of_ble_eq_true rfl) rfl) ?_
 refine eA (rfl:_=[_,_,_,_,_,_,_]) ?_
 refine eB (_,[]) (fun τ hτ=> aA _ aa rfl (by exact hτ.choose_spec) rfl) ?_
 refine eA (rfl:_=[_,_,_,_,_,_,_,_]) ?_
 refine eB (_,[]) (fun τ hτ=> da _ _ aa rfl rfl rfl 1 rfl ab rfl) ?_
 refine eA (rfl:_=[_,_,_,_,_,_,_,_,_]) ?_
 refine eB (_,[((14,0),_)]) (fun τ hτ=> dH _ _ aa rfl rfl rfl rfl (Nat.le_of_ble_eq_true rfl) rfl) ?_
 refine eA (rfl:_=[_,_,_,_,_,_,_,_,_,_]) ?_
 refine eB (_,[]) (fun τ hτ=> aA _ aa rfl (by exact hτ.choose_spec) rfl) ?_
 refine eA (rfl:_=[_,_,_,_,_,_,_,_,_,_,_]) ?_
 refine uo ⟨⟨⟨rfl,by kernel_rfl,by kernel_rfl⟩,(by intro r hr c hc;simp only [List.mem_cons,List.not_mem_nil,or_false] at hr;rcases hr with rfl | rfl | rfl | rfl | rfl | rfl | rfl | rfl | rfl | rfl | rfl <;> simp at hc <;> (subst hc;exact ⟨_,rfl⟩))⟩,?_⟩
 refine ai (da _ _ aa rfl rfl rfl 2 rfl ab rfl) ?_
 refine bG rfl rfl rfl rfl rfl rfl (aj (aU fun K9 hK9=> ?_))
 refine an (ai (az _ aa rfl rfl rfl rfl) (aX rfl (ai (az _ aa rfl rfl rfl rfl) (ai (jM _ _ (rfl:_=[]) (rfl:_=[AV.ptr _ _])) ?_))))
 refine cA (Le.trans (Le.incT (62,1) rfl) (Le.incT (62,0) rfl)) ?_
 refine ai (bi aa [((6,9),(15,0)),((2,8),(62,0)),((5,8),(62,1))] ar (hv) ob tr tr rfl ae ae) ?_
 refine bb rfl rfl rfl (bG rfl rfl rfl rfl rfl rfl (aJ (hK9 _ ?_)))
 clear hK9;try clear K9
 refine aq ?_
 refine aM (σ':=aE 93 [(2,_),(8,_),(9,_),(16,_),(17,_),(18,_)] [((8,0),_),((9,0),_),((16,0),_),((17,0),_),((22,0),_),((18,0),_),((62,0),_),((4,9),_),((62,1),_)] [(4,9),(62,0),(62,1)] [(4,9)]) kp ?_
 refine an (aX rfl (bb rfl rfl rfl (ai (da _ _ aa rfl rfl rfl h rfl ab (show 8+h*1=8+h from by omega)) ?_)))
 refine ai (aF _ aa rfl rfl (nn _ _ _ _ _ _ _ _ _ _ h ab)) ?_
 refine ai (aZ _ _ rfl rfl (bD ab)) ?_
 refine bb rfl rfl rfl (ai (da _ _ aa rfl rfl rfl h rfl ab (show 8+h*1=8+h from by omega)) ?_)
 refine ai (dH _ _ aa rfl rfl rfl rfl (by show (8+h)+1≤52;omega) ((sx s.up s.ver s.epoch (s.clock+1) _ _ _ _ (cO s) s.wait h ab _).trans (congrArg (fun e=> HE s.up s.ver s.epoch (s.clock+1) _ _ _ _ e s.wait) hce))) ?_
 refine aj (am (bb rfl rfl rfl (bb rfl rfl rfl (eZ rfl rfl rfl (bb rfl rfl rfl (cf rfl rfl rfl (ai (lc _ _ _ aa rfl P.d R.vars.length (.lit rfl rfl) .dflt hd (Nat.le_refl _) hds hdl) ?_)))))))
 refine ai (aI aa al (hcl) rfl rfl) ?_
 refine bb rfl rfl rfl (bG rfl rfl rfl rfl rfl rfl (aj (aU fun K12 hK12=> ?_)))
 refine aq ?_
 refine aM (σ':=aE 93 [(8,_),(16,_),(17,_),(18,_)] [((8,0),_),((16,0),_),((17,0),_),((22,0),_),((18,0),_),((62,0),_),((4,9),_),((62,1),_)] [(4,9),(62,0),(62,1)] [(4,9)]) kp ?_
 refine an (bb rfl rfl rfl (bb rfl rfl rfl (ai (aF _ aa rfl rfl ei) (ai (cV _ aa rfl rfl) (aX rfl (aj (ay ?_)))))))
 refine aM (Le.incA (22,0)) ?_
 refine aM (Le.incT (63,0) rfl) ?_
 refine aM (Le.incT (64,0) rfl) ?_
 refine aM (Le.nilB (18,0) 3 (63,0) 117 9 rfl rfl rfl) ?_
 refine aM (Le.nilB (18,0) 6 (64,0) 3 1 rfl rfl rfl) ?_
 refine bq (α:=Nat) (fun k=> k≤R.acts.length) 93 [(8,_),(16,_),(17,_),(18,_),(81,_),(82,_)] [((16,0),_),((17,0),_),((62,0),_),((4,9),_)] (fun k=> [(83, .v (.int .i64 (k:Int)))]) (fun k=> [((8,0), .box 83 [.v (.bool (cU s h (s.clock+1) P R k).1.up), .v (.int .i64 ((cU s h (s.clock+1) P R k).1.ver)), .v (.int .i64 ((cU s h (s.clock+1) P R k).1.epoch)), .v (.int .i64 ((cU s h (s.clock+1) P R k).1.clock)), .sl (cU s h (s.clock+1) P R k).1.dk.cells.length (cw (cU s h (s.clock+1) P R k).1.dk.cells), .sl (cU s h (s.clock+1) P R k).1.dk.pend.length (lG (cU s h (s.clock+1) P R k).1.dk.pend), .sl (cU s h (s.clock+1) P R k).1.vol.length (cw (cU s h (s.clock+1) P R k).1.vol), .ref (22,0) 0 (cU s h (s.clock+1) P R k).1.timers.length, .v (.int .i64 (cO (cU s h (s.clock+1) P R k).1 0)), .v (.int .i64 (cO (cU s h (s.clock+1) P R k).1 1)), .v (.int .i64 (cO (cU s h (s.clock+1) P R k).1 2)), .v (.int .i64 (cO (cU s h (s.clock+1) P R k).1 3)), .v (.int .i64 (cO (cU s h (s.clock+1) P R k).1 4)), .v (.int .i64 (cO (cU s h (s.clock+1) P R k).1 5)), .v (.int .i64 (cO (cU s h (s.clock+1) P R k).1 6)), .v (.int .i64 (cO (cU s h (s.clock+1) P R k).1 7)), .v (.int .i64 (cO (cU s h (s.clock+1) P R k).1 8)), .v (.int .i64 (cO (cU s h (s.clock+1) P R k).1 9)), .v (.int .i64 (cO (cU s h (s.clock+1) P R k).1 10)), .v (.int .i64 (cO (cU s h (s.clock+1) P R k).1 11)), .v (.int .i64 (cO (cU s h (s.clock+1) P R k).1 12)), .v (.int .i64 (cO (cU s h (s.clock+1) P R k).1 13)), .v (.int .i64 (cO (cU s h (s.clock+1) P R k).1 14)), .v (.int .i64 (cO (cU s h (s.clock+1) P R k).1 15)), .v (.int .i64 (cO (cU s h (s.clock+1) P R k).1 16)), .v (.int .i64 (cO (cU s h (s.clock+1) P R k).1 17)), .v (.int .i64 (cO (cU s h (s.clock+1) P R k).1 18)), .v (.int .i64 (cO (cU s h (s.clock+1) P R k).1 19)), .v (.int .i64 (cO (cU s h (s.clock+1) P R k).1 20)), .v (.int .i64 (cO (cU s h (s.clock+1) P R k).1 21)), .v (.int .i64 (cO (cU s h (s.clock+1) P R k).1 22)), .v (.int .i64 (cO (cU s h (s.clock+1) P R k).1 23)), .v (.int .i64 (cO (cU s h (s.clock+1) P R k).1 24)), .v (.int .i64 (cO (cU s h (s.clock+1) P R k).1 25)), .v (.int .i64 (cO (cU s h (s.clock+1) P R k).1 26)), .v (.int .i64 (cO (cU s h (s.clock+1) P R k).1 27)), .v (.int .i64 (cO (cU s h (s.clock+1) P R k).1 28)), .v (.int .i64 (cO (cU s h (s.clock+1) P R k).1 29)), .v (.int .i64 (cO (cU s h (s.clock+1) P R k).1 30)), .v (.int .i64 (cO (cU s h (s.clock+1) P R k).1 31)), .v (.int .i64 (cO (cU s h (s.clock+1) P R k).1 32)), .v (.int .i64 (cO (cU s h (s.clock+1) P R k).1 33)), .v (.int .i64 (cO (cU s h (s.clock+1) P R k).1 34)), .v (.int .i64 (cO (cU s h (s.clock+1) P R k).1 35)), .v (.int .i64 (cO (cU s h (s.clock+1) P R k).1 36)), .v (.int .i64 (cO (cU s h (s.clock+1) P R k).1 37)), .v (.int .i64 (cO (cU s h (s.clock+1) P R k).1 38)), .v (.int .i64 (cO (cU s h (s.clock+1) P R k).1 39)), .v (.int .i64 (cO (cU s h (s.clock+1) P R k).1 40)), .v (.int .i64 ((cU s h (s.clock+1) P R k).1.wait)), .v (.int .i64 (0)), .v (.int .i64 (0))]),((22,0), .row 3 1 (cw (cU s h (s.clock+1) P R k).1.timers)),((18,0), .box 96 [.v (.int .i64 (self)), .v (.int .i64 (h:Int)), .v (.int .i64 (s.counts.getD h 0)), .ref (63,0) 0 (cU s h (s.clock+1) P R k).2.sent.length, .v (.bool (cU s h (s.clock+1) P R k).2.repl), .v (.int .i64 ((cU s h (s.clock+1) P R k).2.value)), .ref (64,0) 0 (cU s h (s.clock+1) P R k).2.fails.length, .sl R.vars.length (cw R.vars), .ref (62,0) 0 R.acts.length, .v (.int .i64 ((R.steps:Int))), .v (.bool (!R.fin)), .sl (fz (kI R.cov)).length (cw (fz (kI R.cov)))]),((63,0), .row 117 9 (Al ⟨self,(h:Int),s.counts.getD h 0⟩ (cU s h (s.clock+1) P R k).2.sent)),((64,0), .row 3 1 (cw (cU s h (s.clock+1) P R k).2.fails)),((62,1), .row 111 7 (L0++Q))]) [(4,9),(62,0),(62,1),(22,0),(63,0),(64,0)] [(4,9)] (fun k=> R.acts.length - k) 0 ?_ (by
  refine Le.mkJ [] [] rfl ?_ ?_ trivial tr ?_
  ·exact ⟨(iP rfl),(iP rfl),(iP rfl),(iP rfl),(iR rfl),(iV rfl),(co ag),trivial⟩
  ·exact ⟨(bF rfl rfl rfl),(bF rfl rfl rfl),(bF rfl rfl rfl),(bF rfl rfl rfl),(fu rfl rfl rfl rfl lz),(fj rfl rfl rfl ag),(fu rfl rfl rfl rfl lz),(fj rfl rfl rfl ag),(fj rfl rfl rfl ag),(fj rfl rfl rfl ag),trivial⟩
  kernel_rfl) ?_
 ·omega
 intro k hk
 refine am (ai (bl _ _ rfl rfl rfl) (aj (aU fun K15 hK15=> ?_)))
 refine aR rfl (fun hc84=> ?_) (fun hc84=> ?_)
 ·skip
  have ha:=hq k ab
  have hga:=uH R.acts k ab
  refine bs (hK15 _ ?_)
  clear hK15;try clear K15
  refine aq (ay (am (ai (fh _ _ aa rfl rfl rfl _ rfl ab (by exact Nat.zero_add _)) ?_)))
  refine ai (tM _ aa rfl rfl (by exact hga) rfl) ?_
  refine ai (aD (20,0) aa rfl rfl) (bG rfl rfl rfl rfl rfl rfl (aj (an (ai (az _ aa rfl rfl rfl rfl) (ai (az _ aa rfl rfl rfl rfl) (cA (Le.trans (Le.incT (89,2) rfl) (Le.trans (Le.incT (89,1) rfl) (Le.incT (89,0) rfl))) ?_))))))
  refine ai (bi aa [((1,9),(22,0)),((2,9),(18,0)),((3,9),(63,0)),((4,9),(64,0)),((5,9),(62,0)),((1,8),(89,0)),((3,8),(89,1)),((4,8),(89,2))] ar (ha) ob tr tr rfl ae ae) ?_
  refine bG rfl rfl rfl rfl rfl rfl (ek (an (ai (aZ _ _ rfl rfl (bD ab)) ?_)))
  refine aX rfl (aJ (⟨k+1,?_,?_,?_⟩))
  ·omega
  ·skip
   refine Le.mkJ [((22,0),(89,0)),((63,0),(89,1)),((64,0),(89,2))] [] rfl ?_ ?_ trivial tr ?_
   ·exact ⟨(dJ (id:=(8,0)) rfl),(dJ (id:=(16,0)) rfl),(dJ (id:=(17,0)) rfl),(dJ (id:=(18,0)) rfl),(cP (id:=(62,0)) rfl rfl),(by repeat' (exact Lv.v)),(co ag),trivial⟩
   ·exact ⟨(fu rfl rfl rfl rfl (by repeat' (first | exact Lv.v | exact bf | refine ax ?_ ?_))),(fu rfl rfl rfl rfl (by repeat' (first | exact Lv.v | exact bf | refine ax ?_ ?_))),(fj rfl rfl rfl rfl),(fu rfl rfl rfl rfl (by repeat' (first | exact Lv.v | exact Lv.sl | exact cP (id:=(62,1)) rfl rfl | exact bf | refine ax ?_ ?_))),(fu rfl rfl rfl rfl lz),(fj rfl rfl rfl ag),(fu rfl rfl rfl rfl lz),(fj rfl rfl rfl ag),(fj rfl rfl rfl ag),(fj rfl rfl rfl ag),trivial⟩
   kernel_rfl
  omega
 obtain rfl:k=R.acts.length:=by omega
 refine bB (id (hK12 _ ?_))
 clear hK12;try clear K12
 refine aq (gX 3 [91,92] [(16,0)] [[(16,0)],[],[]] ae ae rfl (aL rfl) (rfl:_=[_,_,_]) (rfl:_=[_]) ?_)
 refine ap (_,[]) (fun τ=> az _ aa rfl rfl rfl rfl) ?_
 refine fP rfl ?_
 refine ap (_,[]) (fun τ=> az _ aa rfl rfl rfl rfl) ?_
 refine fQ rfl ?_
 refine ap (_,[((16,0),_)]) (fun τ=> dH _ _ aa rfl (eL rfl (by exact dO) rfl) rfl rfl (Nat.le_of_ble_eq_true rfl) rfl) ?_
 refine fU rfl (bm ⟨⟨rfl,by kernel_rfl⟩,?_⟩)
 exact bG rfl rfl rfl rfl rfl rfl (aj (aG (jW (.inr rfl) rfl (.cellA aa rfl rfl rfl) (.cellA aa rfl rfl rfl) (Le.outI [((1,8),(22,0)),((2,8),(62,0)),((3,8),(63,0)),((6,8),(64,0)),((5,8),(62,1))] [] (.tup rfl lz) rfl rfl rfl trivial ob tr rfl))))
set_option maxHeartbeats 4000000 in
theorem Pq (s:Ns) (hs:jY s) (ho:jH s.dk) (hc:s.counts.length=41) (P:Pg) (h:Nat) (hh:h < 40) (self nodes drift tk:Int) (nm:List Int) (t:Tl) (hdr:0 < drift) (hlk:sB t 2 0 (drift+1) tk) (htk:0≤tk∧tk≤1000000) (hdr2:drift≤1000000) (hcb: ∀ k, -1000000≤s.counts.getD k 0∧s.counts.getD k 0≤1000000) (hck: -1000000≤s.clock∧s.clock≤1000000)
  (R:Ms) (Q:List PV) (hv:Spec Tryz.prog 59 (aY [il P, .v (.int .i64 (h:Int)), .agg [.sl (s.dk.view++s.vol).length (cw (s.dk.view++s.vol)), .v (.int .i64 self), .v (.int .i64 nodes), .v (.int .i64 (s.clock+1+tk)), .v (.int .i64 (nm.getD 3 0)), .v (.int .i64 (nm.getD 4 0)), .v (.int .i64 (nm.getD 5 0)), .v (.int .i64 (nm.getD 6 0)), .v (.int .i64 (nm.getD 7 0)), .v (.int .i64 (nm.getD 8 0))],wo (6,9)] (zC t 1 (rA t 2 0 (drift+1) tk) (5,9)))
   (bc (.agg [.sl R.vars.length (cw R.vars), .ref (2,8) 0 R.acts.length, .v (.int .i64 (R.steps:Int)), .v (.bool (!R.fin)), .sl (fz (kI R.cov)).length (cw (fz (kI R.cov)))]) (((2,8), .row 57 5 (vA R.acts))::zC t (1+R.asked.length) (rA t 2 0 (drift+1) tk++Q) (5,8)) [(2,8),(4,9),(5,8),(6,9)] [(4,9),(6,9)]))
  (hd:P.d≤R.vars.length) (hrv:R.vars.length≤1000) (hra:R.acts.length≤500)
  (hq: ∀ i,i < R.acts.length→ni ⟨self,(h:Int),s.counts.getD h 0⟩ (GU R) (cU s h (s.clock+1+tk) P R i).1 (cU s h (s.clock+1+tk) P R i).2 (pB R.acts i) (cU s h (s.clock+1+tk) P R (i+1)).1 (cU s h (s.clock+1+tk) P R (i+1)).2):
  Spec Tryz.prog 81 (aY [jZ s,il P, .v (.int .i64 (h:Int)), .v (.int .i64 self), .v (.int .i64 nodes), .v (.int .i64 drift),Dv nm,jL] (pu t 0 [] (5,9)))
   (bc (.tup [.agg (GB (cU s h (s.clock+1+tk) P R R.acts.length).1 (.ref (1,8) 0 (cU s h (s.clock+1+tk) P R R.acts.length).1.timers.length)), .agg (Ko ⟨self,(h:Int),s.counts.getD h 0⟩ (cU s h (s.clock+1+tk) P R R.acts.length).2 (GU R) (3,8) (6,8) (2,8))]) (LO ⟨self,(h:Int),s.counts.getD h 0⟩ R (cU s h (s.clock+1+tk) P R R.acts.length) t (1+R.asked.length) (rA t 2 0 (drift+1) tk++Q)) [(1,8),(2,8),(3,8),(4,9),(5,8),(6,8)] [(4,9)]):=by
 have hcb2:=hcb h
 have hcb2: -1000000≤cO s h∧cO s h≤1000000:=hcb2
 have hce:=tA s h ab (s.counts.getD h 0+1)
 have hal:=gk R.acts
 have hown:=kj s hs
 have htl:=oM t 2 0 (drift+1) tk 0 [] rfl ab ab hlk
 have hnv:=pi { s with clock:=s.clock+1+tk } ⟨hs.c,hs.p,hs.v,hs.t⟩ ho
 have hcl:=nT (R.vars.drop P.d) (by rw [List.length_drop];omega)
 have hds:((cw R.vars).drop (P.d*1)).take ((R.vars.length - P.d)*1)=cw (R.vars.drop P.d):=by
  rw [Nat.mul_one,Nat.mul_one,List.take_of_length_le (by rw [List.length_drop,aO];omega)]
  simp [cw,List.map_drop]
 have hdl:R.vars.length - P.d=(R.vars.drop P.d).length:=by rw [List.length_drop]
 refine Spec.ofNI Tryz.func81 rfl Tryz.ntmps81 rfl ?_
 refine am (ai (aQ (8,0) _ rfl rfl) (ai (aQ (9,0) _ rfl rfl) (ai (aQ (14,0) _ rfl rfl) (ai (aQ (15,0) _ rfl rfl) (ai (aD (16,0) aa rfl rfl) (ai (aD (17,0) aa rfl rfl) (aj (am (ai (az _ aa rfl rfl rfl rfl) (ai (bW aa [((1,8),(22,0))] ar (hown.toI) trivial tr tr rfl rfl ae ae) ?_))))))))))
 refine bG rfl rfl rfl rfl rfl rfl (aj (am (aX rfl (aX rfl (aX rfl (bb rfl rfl rfl (ai (da _ _ aa rfl rfl rfl h rfl ab (show 8+h*1=8+h from by omega)) ?_)))))))
 refine ai (aF _ aa rfl rfl (nn _ _ _ _ _ _ _ _ _ _ h ab)) ?_
 refine ai (aN _ aa rfl (by exact (rfl:_=some [_,_,_]))) ?_
 refine ai (aN _ aa rfl (by exact (rfl:_=some [_,_,_,_,_,_,_,_,_,_,_,_]))) ?_
 refine ai (aD (18,0) aa rfl rfl) (bG rfl rfl rfl rfl rfl rfl (aj (aq ?_)))
 refine aM (σ':=aE 93 [(2,_),(3,_),(4,_),(5,_),(8,_),(9,_),(14,_),(15,_),(16,_),(17,_),(18,_)] [((4,9),_),((5,9),_),((8,0),_),((9,0),_),((14,0),_),((15,0),_),((16,0),_),((17,0),_),((22,0),_),((18,0),_)] [(4,9),(5,9)] [(4,9)]) kp ?_
 refine an (bb rfl rfl rfl (cf rfl rfl rfl (ai (aZ _ _ rfl rfl (bD ab)) ?_)))
 refine bb rfl rfl rfl (bG rfl rfl rfl rfl rfl rfl (aj (aU fun K5 hK5=> ?_)))
 refine am (aX rfl (ai (fM (r:=true) _ _ rfl rfl (decide_eq_true ab)) ?_))
 refine aj (bM rfl rfl ?_)
 refine aM (Le.incT (42,0) rfl) ?_
 refine bO 7 [37,38,39,40,41,42,43] [(4,9),(42,0),(5,9)] ae ae rfl (aL rfl) (rfl:_=[_,_,_,_,_,_,_]) (rfl:_=[_,_]) ?_
 refine ap (_,[]) (fun τ=> aA _ aa rfl rfl rfl) ?_
 refine fP rfl ?_
 refine ap (_,[]) (fun τ=> aF _ aa rfl rfl ee) ?_
 refine fQ rfl ?_
 refine ap (_,[]) (fun τ=> aF _ aa rfl rfl (rfl:_=some (AV.fn _ _ _))) ?_
 refine fU rfl ?_
 refine ap (_,[]) (fun τ=> aH _ eg) ?_
 refine fY rfl ?_
 refine ap (_,[]) (fun τ=> aZ _ _ rfl rfl (bD ab)) ?_
 refine gz rfl ?_
 refine ap (_,[((4,9),_),((42,0),_),((5,9), .gone)]) (fun τ=> (jp rfl aa [((5,8),(42,0))] ar (htl) ob tr tr rfl ae ae)) ?_
 refine gZ rfl ?_
 refine ap (_,[]) (fun τ=> aZ _ _ rfl rfl (bD ab)) ?_
 refine jg rfl (bm ⟨rfl,?_⟩)
 refine bb rfl rfl rfl (bG rfl rfl rfl rfl rfl rfl (aJ (hK5 _ ?_)))
 clear hK5;try clear K5
 refine aU fun K7 hK7=> ?_
 refine aM (σ':=aE 93 [(2,_),(3,_),(4,_),(8,_),(9,_),(14,_),(15,_),(16,_),(17,_),(18,_)] [((4,9),_),((8,0),_),((9,0),_),((14,0),_),((15,0),_),((16,0),_),((17,0),_),((22,0),_),((18,0),_),((42,0),_)] [(4,9),(42,0)] [(4,9)]) kp ?_
 refine an (ai (az _ aa rfl rfl rfl rfl) (ai (bW aa [((1,9),(22,0))] ar (hnv) ob tr tr rfl rfl ae ae) ?_))
 refine bb rfl rfl rfl (bG rfl rfl rfl rfl rfl rfl (aJ (hK7 _ ?_)))
 clear hK7;try clear K7
 refine aq ?_
 refine aM (σ':=aE 93 [(2,_),(3,_),(4,_),(8,_),(9,_),(14,_),(15,_),(16,_),(17,_),(18,_)] [((4,9),_),((8,0),_),((9,0),_),((14,0),_),((15,0),_),((16,0),_),((17,0),_),((22,0),_),((18,0),_),((42,0),_)] [(4,9),(42,0)] [(4,9)]) kp ?_
 refine wU (14,0) (fun c=> ∃ xs,c=Slot.obj (.box 132 xs)) 11 [48,49,50,51,52,53,54,55,56] [(14,0),(14,0)] ae ae rfl (rfl:_=[_,_,_,_,_,_,_,_,_,_,_]) (rfl:_=[_,_]) (⟨_,rfl⟩) ?_
 refine eB (_,[]) (fun τ hτ=> aH _ eg) ?_
 refine eA (rfl:_=[_]) ?_
 refine eB (_,[]) (fun τ hτ=> aH _ eg) ?_
 refine eA (rfl:_=[_,_]) ?_
 refine eB (_,[]) (fun τ hτ=> aA _ aa rfl rfl rfl) ?_
 refine eA (rfl:_=[_,_,_]) ?_
 refine eB (_,[]) (fun τ hτ=> aF _ aa rfl rfl ee) ?_
 refine eA (rfl:_=[_,_,_,_]) ?_
 refine eB (_,[]) (fun τ hτ=> aA _ aa rfl (by exact hτ.choose_spec) rfl) ?_
 refine eA (rfl:_=[_,_,_,_,_]) ?_
 refine eB (_,[]) (fun τ hτ=> da _ _ aa rfl (by exact hτ.choose_spec) rfl 0 rfl ab rfl) ?_
 refine eA (rfl:_=[_,_,_,_,_,_]) ?_
 refine eB (_,[((14,0),_)]) (fun τ hτ=> dH _ _ aa rfl rfl rfl rfl (Nat.le_of_ble_eq_true rfl) rfl) ?_
 refine eA (rfl:_=[_,_,_,_,_,_,_]) ?_
 refine eB (_,[]) (fun τ hτ=> aA _ aa rfl (by exact hτ.choose_spec) rfl) ?_
 refine eA (rfl:_=[_,_,_,_,_,_,_,_]) ?_
 refine eB (_,[]) (fun τ hτ=> da _ _ aa rfl rfl rfl 1 rfl ab rfl) ?_
 refine eA (rfl:_=[_,_,_,_,_,_,_,_,_]) ?_
 refine eB (_,[((14,0),_)]) (fun τ hτ=> dH _ _ aa rfl rfl rfl rfl (Nat.le_of_ble_eq_true rfl) rfl) ?_
 refine eA (rfl:_=[_,_,_,_,_,_,_,_,_,_]) ?_
 refine eB (_,[]) (fun τ hτ=> aA _ aa rfl (by exact hτ.choose_spec) rfl) ?_
 refine eA (rfl:_=[_,_,_,_,_,_,_,_,_,_,_]) ?_
 refine uo ⟨⟨⟨rfl,by kernel_rfl,by kernel_rfl⟩,(by intro r hr c hc;simp only [List.mem_cons,List.not_mem_nil,or_false] at hr;rcases hr with rfl | rfl | rfl | rfl | rfl | rfl | rfl | rfl | rfl | rfl | rfl <;> simp at hc <;> (subst hc;exact ⟨_,rfl⟩))⟩,?_⟩
 refine ai (da _ _ aa rfl rfl rfl 2 rfl ab rfl) ?_
 refine bG rfl rfl rfl rfl rfl rfl (aj (aU fun K9 hK9=> ?_))
 refine an (ai (az _ aa rfl rfl rfl rfl) (aX rfl (ai (az _ aa rfl rfl rfl rfl) (ai (jM _ _ (rfl:_=[]) (rfl:_=[AV.ptr _ _])) ?_))))
 refine cA (Le.trans (Le.incT (62,1) rfl) (Le.incT (62,0) rfl)) ?_
 refine ai (bi aa [((5,9),(42,0)),((6,9),(15,0)),((2,8),(62,0)),((5,8),(62,1))] ar (hv) ob tr tr rfl ae ae) ?_
 refine bb rfl rfl rfl (bG rfl rfl rfl rfl rfl rfl (aJ (hK9 _ ?_)))
 clear hK9;try clear K9
 refine aq ?_
 refine aM (σ':=aE 93 [(2,_),(8,_),(9,_),(16,_),(17,_),(18,_)] [((8,0),_),((9,0),_),((16,0),_),((17,0),_),((22,0),_),((18,0),_),((62,0),_),((4,9),_),((62,1),_)] [(4,9),(62,0),(62,1)] [(4,9)]) kp ?_
 refine an (aX rfl (bb rfl rfl rfl (ai (da _ _ aa rfl rfl rfl h rfl ab (show 8+h*1=8+h from by omega)) ?_)))
 refine ai (aF _ aa rfl rfl (nn _ _ _ _ _ _ _ _ _ _ h ab)) ?_
 refine ai (aZ _ _ rfl rfl (bD ab)) ?_
 refine bb rfl rfl rfl (ai (da _ _ aa rfl rfl rfl h rfl ab (show 8+h*1=8+h from by omega)) ?_)
 refine ai (dH _ _ aa rfl rfl rfl rfl (by show (8+h)+1≤52;omega) ((sx s.up s.ver s.epoch (s.clock+1+tk) _ _ _ _ (cO s) s.wait h ab _).trans (congrArg (fun e=> HE s.up s.ver s.epoch (s.clock+1+tk) _ _ _ _ e s.wait) hce))) ?_
 refine aj (am (bb rfl rfl rfl (bb rfl rfl rfl (eZ rfl rfl rfl (bb rfl rfl rfl (cf rfl rfl rfl (ai (lc _ _ _ aa rfl P.d R.vars.length (.lit rfl rfl) .dflt hd (Nat.le_refl _) hds hdl) ?_)))))))
 refine ai (aI aa al (hcl) rfl rfl) ?_
 refine bb rfl rfl rfl (bG rfl rfl rfl rfl rfl rfl (aj (aU fun K12 hK12=> ?_)))
 refine aq ?_
 refine aM (σ':=aE 93 [(8,_),(16,_),(17,_),(18,_)] [((8,0),_),((16,0),_),((17,0),_),((22,0),_),((18,0),_),((62,0),_),((4,9),_),((62,1),_)] [(4,9),(62,0),(62,1)] [(4,9)]) kp ?_
 refine an (bb rfl rfl rfl (bb rfl rfl rfl (ai (aF _ aa rfl rfl ei) (ai (cV _ aa rfl rfl) (aX rfl (aj (ay ?_)))))))
 refine aM (Le.incA (22,0)) ?_
 refine aM (Le.incT (63,0) rfl) ?_
 refine aM (Le.incT (64,0) rfl) ?_
 refine aM (Le.nilB (18,0) 3 (63,0) 117 9 rfl rfl rfl) ?_
 refine aM (Le.nilB (18,0) 6 (64,0) 3 1 rfl rfl rfl) ?_
 refine bq (α:=Nat) (fun k=> k≤R.acts.length) 93 [(8,_),(16,_),(17,_),(18,_),(81,_),(82,_)] [((16,0),_),((17,0),_),((62,0),_),((4,9),_)] (fun k=> [(83, .v (.int .i64 (k:Int)))]) (fun k=> [((8,0), .box 83 [.v (.bool (cU s h (s.clock+1+tk) P R k).1.up), .v (.int .i64 ((cU s h (s.clock+1+tk) P R k).1.ver)), .v (.int .i64 ((cU s h (s.clock+1+tk) P R k).1.epoch)), .v (.int .i64 ((cU s h (s.clock+1+tk) P R k).1.clock)), .sl (cU s h (s.clock+1+tk) P R k).1.dk.cells.length (cw (cU s h (s.clock+1+tk) P R k).1.dk.cells), .sl (cU s h (s.clock+1+tk) P R k).1.dk.pend.length (lG (cU s h (s.clock+1+tk) P R k).1.dk.pend), .sl (cU s h (s.clock+1+tk) P R k).1.vol.length (cw (cU s h (s.clock+1+tk) P R k).1.vol), .ref (22,0) 0 (cU s h (s.clock+1+tk) P R k).1.timers.length, .v (.int .i64 (cO (cU s h (s.clock+1+tk) P R k).1 0)), .v (.int .i64 (cO (cU s h (s.clock+1+tk) P R k).1 1)), .v (.int .i64 (cO (cU s h (s.clock+1+tk) P R k).1 2)), .v (.int .i64 (cO (cU s h (s.clock+1+tk) P R k).1 3)), .v (.int .i64 (cO (cU s h (s.clock+1+tk) P R k).1 4)), .v (.int .i64 (cO (cU s h (s.clock+1+tk) P R k).1 5)), .v (.int .i64 (cO (cU s h (s.clock+1+tk) P R k).1 6)), .v (.int .i64 (cO (cU s h (s.clock+1+tk) P R k).1 7)), .v (.int .i64 (cO (cU s h (s.clock+1+tk) P R k).1 8)), .v (.int .i64 (cO (cU s h (s.clock+1+tk) P R k).1 9)), .v (.int .i64 (cO (cU s h (s.clock+1+tk) P R k).1 10)), .v (.int .i64 (cO (cU s h (s.clock+1+tk) P R k).1 11)), .v (.int .i64 (cO (cU s h (s.clock+1+tk) P R k).1 12)), .v (.int .i64 (cO (cU s h (s.clock+1+tk) P R k).1 13)), .v (.int .i64 (cO (cU s h (s.clock+1+tk) P R k).1 14)), .v (.int .i64 (cO (cU s h (s.clock+1+tk) P R k).1 15)), .v (.int .i64 (cO (cU s h (s.clock+1+tk) P R k).1 16)), .v (.int .i64 (cO (cU s h (s.clock+1+tk) P R k).1 17)), .v (.int .i64 (cO (cU s h (s.clock+1+tk) P R k).1 18)), .v (.int .i64 (cO (cU s h (s.clock+1+tk) P R k).1 19)), .v (.int .i64 (cO (cU s h (s.clock+1+tk) P R k).1 20)), .v (.int .i64 (cO (cU s h (s.clock+1+tk) P R k).1 21)), .v (.int .i64 (cO (cU s h (s.clock+1+tk) P R k).1 22)), .v (.int .i64 (cO (cU s h (s.clock+1+tk) P R k).1 23)), .v (.int .i64 (cO (cU s h (s.clock+1+tk) P R k).1 24)), .v (.int .i64 (cO (cU s h (s.clock+1+tk) P R k).1 25)), .v (.int .i64 (cO (cU s h (s.clock+1+tk) P R k).1 26)), .v (.int .i64 (cO (cU s h (s.clock+1+tk) P R k).1 27)), .v (.int .i64 (cO (cU s h (s.clock+1+tk) P R k).1 28)), .v (.int .i64 (cO (cU s h (s.clock+1+tk) P R k).1 29)), .v (.int .i64 (cO (cU s h (s.clock+1+tk) P R k).1 30)), .v (.int .i64 (cO (cU s h (s.clock+1+tk) P R k).1 31)), .v (.int .i64 (cO (cU s h (s.clock+1+tk) P R k).1 32)), .v (.int .i64 (cO (cU s h (s.clock+1+tk) P R k).1 33)), .v (.int .i64 (cO (cU s h (s.clock+1+tk) P R k).1 34)), .v (.int .i64 (cO (cU s h (s.clock+1+tk) P R k).1 35)), .v (.int .i64 (cO (cU s h (s.clock+1+tk) P R k).1 36)), .v (.int .i64 (cO (cU s h (s.clock+1+tk) P R k).1 37)), .v (.int .i64 (cO (cU s h (s.clock+1+tk) P R k).1 38)), .v (.int .i64 (cO (cU s h (s.clock+1+tk) P R k).1 39)), .v (.int .i64 (cO (cU s h (s.clock+1+tk) P R k).1 40)), .v (.int .i64 ((cU s h (s.clock+1+tk) P R k).1.wait)), .v (.int .i64 (0)), .v (.int .i64 (0))]),((22,0), .row 3 1 (cw (cU s h (s.clock+1+tk) P R k).1.timers)),((18,0), .box 96 [.v (.int .i64 (self)), .v (.int .i64 (h:Int)), .v (.int .i64 (s.counts.getD h 0)), .ref (63,0) 0 (cU s h (s.clock+1+tk) P R k).2.sent.length, .v (.bool (cU s h (s.clock+1+tk) P R k).2.repl), .v (.int .i64 ((cU s h (s.clock+1+tk) P R k).2.value)), .ref (64,0) 0 (cU s h (s.clock+1+tk) P R k).2.fails.length, .sl R.vars.length (cw R.vars), .ref (62,0) 0 R.acts.length, .v (.int .i64 ((R.steps:Int))), .v (.bool (!R.fin)), .sl (fz (kI R.cov)).length (cw (fz (kI R.cov)))]),((63,0), .row 117 9 (Al ⟨self,(h:Int),s.counts.getD h 0⟩ (cU s h (s.clock+1+tk) P R k).2.sent)),((64,0), .row 3 1 (cw (cU s h (s.clock+1+tk) P R k).2.fails)),((62,1), .row 111 7 (rA t 2 0 (drift+1) tk++Q))]) [(4,9),(62,0),(62,1),(22,0),(63,0),(64,0)] [(4,9)] (fun k=> R.acts.length - k) 0 ?_ (by
  refine Le.mkJ [] [] rfl ?_ ?_ trivial tr ?_
  ·exact ⟨(iP rfl),(iP rfl),(iP rfl),(iP rfl),(iR rfl),(iV rfl),(co ag),trivial⟩
  ·exact ⟨(bF rfl rfl rfl),(bF rfl rfl rfl),(bF rfl rfl rfl),(bF rfl rfl rfl),(fu rfl rfl rfl rfl lz),(fj rfl rfl rfl ag),(fu rfl rfl rfl rfl lz),(fj rfl rfl rfl ag),(fj rfl rfl rfl ag),(fj rfl rfl rfl ag),trivial⟩
  kernel_rfl) ?_
 ·omega
 intro k hk
 refine am (ai (bl _ _ rfl rfl rfl) (aj (aU fun K15 hK15=> ?_)))
 refine aR rfl (fun hc84=> ?_) (fun hc84=> ?_)
 ·skip
  have ha:=hq k ab
  have hga:=uH R.acts k ab
  refine bs (hK15 _ ?_)
  clear hK15;try clear K15
  refine aq (ay (am (ai (fh _ _ aa rfl rfl rfl _ rfl ab (by exact Nat.zero_add _)) ?_)))
  refine ai (tM _ aa rfl rfl (by exact hga) rfl) ?_
  refine ai (aD (20,0) aa rfl rfl) (bG rfl rfl rfl rfl rfl rfl (aj (an (ai (az _ aa rfl rfl rfl rfl) (ai (az _ aa rfl rfl rfl rfl) (cA (Le.trans (Le.incT (89,2) rfl) (Le.trans (Le.incT (89,1) rfl) (Le.incT (89,0) rfl))) ?_))))))
  refine ai (bi aa [((1,9),(22,0)),((2,9),(18,0)),((3,9),(63,0)),((4,9),(64,0)),((5,9),(62,0)),((1,8),(89,0)),((3,8),(89,1)),((4,8),(89,2))] ar (ha) ob tr tr rfl ae ae) ?_
  refine bG rfl rfl rfl rfl rfl rfl (ek (an (ai (aZ _ _ rfl rfl (bD ab)) ?_)))
  refine aX rfl (aJ (⟨k+1,?_,?_,?_⟩))
  ·omega
  ·skip
   refine Le.mkJ [((22,0),(89,0)),((63,0),(89,1)),((64,0),(89,2))] [] rfl ?_ ?_ trivial tr ?_
   ·exact ⟨(dJ (id:=(8,0)) rfl),(dJ (id:=(16,0)) rfl),(dJ (id:=(17,0)) rfl),(dJ (id:=(18,0)) rfl),(cP (id:=(62,0)) rfl rfl),(by repeat' (exact Lv.v)),(co ag),trivial⟩
   ·exact ⟨(fu rfl rfl rfl rfl (by repeat' (first | exact Lv.v | exact bf | refine ax ?_ ?_))),(fu rfl rfl rfl rfl (by repeat' (first | exact Lv.v | exact bf | refine ax ?_ ?_))),(fj rfl rfl rfl rfl),(fu rfl rfl rfl rfl (by repeat' (first | exact Lv.v | exact Lv.sl | exact cP (id:=(62,1)) rfl rfl | exact bf | refine ax ?_ ?_))),(fu rfl rfl rfl rfl lz),(fj rfl rfl rfl ag),(fu rfl rfl rfl rfl lz),(fj rfl rfl rfl ag),(fj rfl rfl rfl ag),(fj rfl rfl rfl ag),trivial⟩
   kernel_rfl
  omega
 obtain rfl:k=R.acts.length:=by omega
 refine bB (id (hK12 _ ?_))
 clear hK12;try clear K12
 refine aq (gX 3 [91,92] [(16,0)] [[(16,0)],[],[]] ae ae rfl (aL rfl) (rfl:_=[_,_,_]) (rfl:_=[_]) ?_)
 refine ap (_,[]) (fun τ=> az _ aa rfl rfl rfl rfl) ?_
 refine fP rfl ?_
 refine ap (_,[]) (fun τ=> az _ aa rfl rfl rfl rfl) ?_
 refine fQ rfl ?_
 refine ap (_,[((16,0),_)]) (fun τ=> dH _ _ aa rfl (eL rfl (by exact dO) rfl) rfl rfl (Nat.le_of_ble_eq_true rfl) rfl) ?_
 refine fU rfl (bm ⟨⟨rfl,by kernel_rfl⟩,?_⟩)
 exact bG rfl rfl rfl rfl rfl rfl (aj (aG (jW (.inr rfl) rfl (.cellA aa rfl rfl rfl) (.cellA aa rfl rfl rfl) (Le.outI [((1,8),(22,0)),((2,8),(62,0)),((3,8),(63,0)),((6,8),(64,0)),((5,8),(62,1))] [] (.tup rfl lz) rfl rfl rfl trivial ob tr rfl))))

abbrev jc (c:Cz) (R:Ms) (q:Ns×Nr) (t:Tl) (n:Nat) (L:List PV):St:=bc (.tup [.agg (GB q.1 (.ref (1,8) 0 q.1.timers.length)), .agg (Ko c q.2 (GU R) (3,8) (6,8) (2,8))]) (LO c R q t n L) [(1,8),(2,8),(3,8),(4,9),(5,8),(6,8)] [(4,9)]
set_option maxHeartbeats 4000000 in
theorem PK (s:Ns) (hs:jY s) (ho:jH s.dk) (P:Pg) (ver self nodes drift:Int) (t:Tl) (n0:Nat) (L0:List PV) (hd:s.dk.cells.length=P.d) (hpd:P.d≤1000) (hpv:P.v≤1000)
  (c:Cz) (R:Ms) (q:Ns×Nr) (n:Nat) (L:List PV) (hH:Spec Tryz.prog 81 (aY [jZ (cQ s P ver),il P, .v (.int .i64 ((0:Nat):Int)), .v (.int .i64 self), .v (.int .i64 nodes), .v (.int .i64 drift),Dv (List.replicate 9 0),jL] (pu t n0 L0 (5,9))) (jc c R q t n L)):
  Spec Tryz.prog 56 (aY [jZ s,il P, .v (.int .i64 ver), .v (.int .i64 self), .v (.int .i64 nodes), .v (.int .i64 drift),jL] (pu t n0 L0 (5,9))) (jc c R q t n L):=by
 have hown:=kj s hs
 have hcc:=hs.c
 have hpp:=hs.p
 have hb:cQ s P ver={ s with ver:=ver,vol:=List.replicate P.v 0,timers:=[],wait:= -1,up:=true }:=by unfold cQ;rw [if_pos hd]
 rw [hb] at hH
 refine Spec.ofNI Tryz.func56 rfl Tryz.ntmps56 rfl ?_
 refine am (ai (aQ (7,0) _ rfl rfl) (ai (aQ (8,0) _ rfl rfl) (ai (aD (14,0) aa rfl rfl) (ai (aD (15,0) aa rfl rfl) (aj (am (ai (az _ aa rfl rfl rfl rfl) (ai (bW aa [((1,8),(17,0))] ar (hown.toI) trivial tr tr rfl rfl ae ae) ?_))))))))
 refine bG rfl rfl rfl rfl rfl rfl (aj (am (aX rfl (bb rfl rfl rfl (bG rfl rfl rfl rfl rfl rfl (aj (aq (am (bb rfl rfl rfl (bb rfl rfl rfl ?_))))))))))
 refine eZ rfl rfl rfl (ai (bo _ aa rfl) (bb rfl rfl rfl (cf rfl rfl rfl (ai (bL (r:=false) _ _ rfl rfl (by rw [hd];exact bne_self_eq_false _)) ?_))))
 refine aj (aW rfl rfl (aT (aq ?_)))
 refine aM (σ':=aE 50 [(3,_),(4,_),(5,_),(6,_),(7,_),(8,_),(14,_),(15,_)] [((4,9),_),((5,9),_),((7,0),_),((8,0),_),((14,0),_),((15,0),_),((17,0),_)] [(4,9),(5,9)] [(4,9)]) kp ?_
 refine an (bb rfl rfl rfl (cf rfl rfl rfl (ai (pS (35,0) _ _ aa rfl rfl (List.replicate P.v (0:Int)).length (by rw [List.length_replicate]) (by rw [List.length_replicate]) (by rw [List.length_replicate];omega) rfl (show _=cw (List.replicate P.v 0) by rw [List.length_replicate];exact oE P.v)) ?_)))
 refine bb rfl rfl rfl (bG rfl rfl rfl rfl rfl rfl (bb rfl rfl rfl (bG rfl rfl rfl rfl rfl rfl (bb rfl rfl rfl (bG rfl rfl rfl rfl rfl rfl (bb rfl rfl rfl (bG rfl rfl rfl rfl rfl rfl (aj (aU fun K7 hK7=> ?_)))))))))
 refine aM (Le.frzB (ys:=cw (List.replicate P.v 0)) (7,0) 6 rfl rfl rfl rfl (by rw [List.drop_zero,Nat.mul_one,List.take_of_length_le (by rw [aO];exact Nat.le_refl _)]) (by rw [aO,Nat.mul_one,Nat.zero_add];exact Nat.le_refl _)) ?_
 refine an (ai (az _ aa rfl rfl rfl rfl) (ai (az _ aa rfl rfl rfl rfl) (aX rfl (aX rfl (aX rfl (ai (aN _ aa rfl (by exact CB)) ?_))))))
 refine ai (aH _ lp) (cA (Le.trans (Le.incT (47,4) rfl) (Le.trans (Le.incT (47,3) rfl) (Le.trans (Le.incT (47,2) rfl) (Le.trans (Le.incT (47,1) rfl) (Le.incT (47,0) rfl))))) ?_)
 refine ai (bi aa [((1,8),(47,0)),((2,8),(47,1)),((3,8),(47,2)),((6,8),(47,3)),((5,8),(47,4))] ar (hH) ob tr tr rfl ae ae) ?_
 refine ai (cq _ rfl pF) (ai (cq _ rfl pF) (bG rfl rfl rfl rfl rfl rfl (bG rfl rfl rfl rfl rfl rfl (aJ (hK7 _ ?_)))))
 clear hK7;try clear K7
 exact aG (jW (.inr rfl) rfl (.cellA aa rfl rfl rfl) (.cellA aa rfl rfl rfl) (Le.outI [((1,8),(47,0)),((2,8),(47,1)),((3,8),(47,2)),((6,8),(47,3)),((5,8),(47,4))] [] (.tup rfl lz) rfl rfl rfl trivial ob tr rfl))
set_option maxHeartbeats 4000000 in
theorem QV (s:Ns) (hs:jY s) (ho:jH s.dk) (P:Pg) (ver self nodes drift:Int) (t:Tl) (n0:Nat) (L0:List PV) (hd:s.dk.cells.length≠P.d) (hpd:P.d≤1000) (hpv:P.v≤1000)
  (c:Cz) (R:Ms) (q:Ns×Nr) (n:Nat) (L:List PV) (hH:Spec Tryz.prog 81 (aY [jZ (cQ s P ver),il P, .v (.int .i64 ((0:Nat):Int)), .v (.int .i64 self), .v (.int .i64 nodes), .v (.int .i64 drift),Dv (List.replicate 9 0),jL] (pu t n0 L0 (5,9))) (jc c R q t n L)):
  Spec Tryz.prog 56 (aY [jZ s,il P, .v (.int .i64 ver), .v (.int .i64 self), .v (.int .i64 nodes), .v (.int .i64 drift),jL] (pu t n0 L0 (5,9))) (jc c R q t n L):=by
 have hown:=kj s hs
 have hcc:=hs.c
 have hpp:=hs.p
 have hb:cQ s P ver={ s with ver:=ver,dk:=s.dk.resize P.d,vol:=List.replicate P.v 0,timers:=[],wait:= -1,up:=true }:=by unfold cQ;rw [if_neg hd]
 rw [hb] at hH
 have hrz:=sH s.dk P.d ab ab ab ho
 refine Spec.ofNI Tryz.func56 rfl Tryz.ntmps56 rfl ?_
 refine am (ai (aQ (7,0) _ rfl rfl) (ai (aQ (8,0) _ rfl rfl) (ai (aD (14,0) aa rfl rfl) (ai (aD (15,0) aa rfl rfl) (aj (am (ai (az _ aa rfl rfl rfl rfl) (ai (bW aa [((1,8),(17,0))] ar (hown.toI) trivial tr tr rfl rfl ae ae) ?_))))))))
 refine bG rfl rfl rfl rfl rfl rfl (aj (am (aX rfl (bb rfl rfl rfl (bG rfl rfl rfl rfl rfl rfl (aj (aq (am (bb rfl rfl rfl (bb rfl rfl rfl ?_))))))))))
 refine eZ rfl rfl rfl (ai (bo _ aa rfl) (bb rfl rfl rfl (cf rfl rfl rfl (ai (bL (r:=true) _ _ rfl rfl (bne_iff_ne.2 fun h=> hd (Int.ofNat_inj.1 h))) ?_))))
 refine aj (bM rfl rfl ?_)
 refine aM (σ':=aE 50 [(3,_),(4,_),(5,_),(6,_),(7,_),(8,_),(14,_),(15,_)] [((4,9),_),((5,9),_),((7,0),_),((8,0),_),((14,0),_),((15,0),_),((17,0),_)] [(4,9),(5,9)] [(4,9)]) kp ?_
 refine an (bb rfl rfl rfl (ai (az _ aa rfl rfl rfl rfl) (bb rfl rfl rfl (cf rfl rfl rfl (ai (aI aa al (hrz) rfl rfl) ?_)))))
 refine bb rfl rfl rfl (bG rfl rfl rfl rfl rfl rfl (aj (am (bb rfl rfl rfl (cf rfl rfl rfl (ai (pS (35,0) _ _ aa rfl rfl (List.replicate P.v (0:Int)).length (by rw [List.length_replicate]) (by rw [List.length_replicate]) (by rw [List.length_replicate];omega) rfl (show _=cw (List.replicate P.v 0) by rw [List.length_replicate];exact oE P.v)) ?_))))))
 refine bb rfl rfl rfl (bG rfl rfl rfl rfl rfl rfl (bb rfl rfl rfl (bG rfl rfl rfl rfl rfl rfl (bb rfl rfl rfl (bG rfl rfl rfl rfl rfl rfl (bb rfl rfl rfl (bG rfl rfl rfl rfl rfl rfl (aj (aU fun K7 hK7=> ?_)))))))))
 refine aM (Le.frzB (ys:=cw (List.replicate P.v 0)) (7,0) 6 rfl rfl rfl rfl (by rw [List.drop_zero,Nat.mul_one,List.take_of_length_le (by rw [aO];exact Nat.le_refl _)]) (by rw [aO,Nat.mul_one,Nat.zero_add];exact Nat.le_refl _)) ?_
 refine an (ai (az _ aa rfl rfl rfl rfl) (ai (az _ aa rfl rfl rfl rfl) (aX rfl (aX rfl (aX rfl (ai (aN _ aa rfl (by exact CB)) ?_))))))
 refine ai (aH _ lp) (cA (Le.trans (Le.incT (47,4) rfl) (Le.trans (Le.incT (47,3) rfl) (Le.trans (Le.incT (47,2) rfl) (Le.trans (Le.incT (47,1) rfl) (Le.incT (47,0) rfl))))) ?_)
 refine ai (bi aa [((1,8),(47,0)),((2,8),(47,1)),((3,8),(47,2)),((6,8),(47,3)),((5,8),(47,4))] ar (hH) ob tr tr rfl ae ae) ?_
 refine ai (cq _ rfl pF) (ai (cq _ rfl pF) (bG rfl rfl rfl rfl rfl rfl (bG rfl rfl rfl rfl rfl rfl (aJ (hK7 _ ?_)))))
 clear hK7;try clear K7
 exact aG (jW (.inr rfl) rfl (.cellA aa rfl rfl rfl) (.cellA aa rfl rfl rfl) (Le.outI [((1,8),(47,0)),((2,8),(47,1)),((3,8),(47,2)),((6,8),(47,3)),((5,8),(47,4))] [] (.tup rfl lz) rfl rfl rfl trivial ob tr rfl))

def qy (p:Pg) (h:Nat) (names vars ans:List Int):Ms:=if p.e h < 0 then { vars:=vars,pc:=0,fin:=true } else kV ⟨p.c,p.d,names,ans⟩ 500 (dV vars (p.e h).toNat)
theorem tv (p:Pg) (h:Nat) (names vars ans:List Int):(qy p h names vars ans).acts=(jb p h names vars ans).acts∧(qy p h names vars ans).vars=(jb p h names vars ans).vars∧(qy p h names vars ans).asked=(jb p h names vars ans).asked:=by
 unfold qy jb
 split <;> exact ⟨rfl,rfl,rfl⟩
set_option maxHeartbeats 2000000 in
theorem sA (M:Mk) (h:Nat) (hh:h < 40) (he:M.P.e h < 0) (h1:M.iv.length≤1000) (R:Ms) (hR:R={ vars:=M.iv,pc:=0,fin:=true }):
  Spec Tryz.prog 59 (aY [il M.P, .v (.int .i64 (h:Int)), .agg [.sl M.iv.length (cw M.iv), .v (.int .i64 (M.nm 0)), .v (.int .i64 (M.nm 1)), .v (.int .i64 (M.nm 2)), .v (.int .i64 (M.nm 3)), .v (.int .i64 (M.nm 4)), .v (.int .i64 (M.nm 5)), .v (.int .i64 (M.nm 6)), .v (.int .i64 (M.nm 7)), .v (.int .i64 (M.nm 8))],wo (6,9)] (Jl M [] (5,9))) (bc (.agg [.sl R.vars.length (cw R.vars), .ref (2,8) 0 R.acts.length, .v (.int .i64 (R.steps:Int)), .v (.bool (!R.fin)), .sl (fz (kI R.cov)).length (cw (fz (kI R.cov)))]) (((2,8), .row 57 5 (vA R.acts))::Jl M R.asked (5,8)) [(2,8),(4,9),(5,8),(6,9)] [(4,9),(6,9)]):=by
 subst hR
 have hsk:fz (kI [])=[]:=by simp [fz,kI]
 have hcl:=qh M.iv ab
 have hg:=tJ M.P.c.length (inl M.P.c) M.P.e (M.P.d:Int) (M.P.v:Int) h hh
 refine Spec.ofNI Tryz.func59 rfl Tryz.ntmps59 rfl ?_
 refine am ?_
 refine ai (aQ (4,0) _ rfl rfl) ?_
 refine ai (aQ (6,0) _ rfl rfl) ?_
 refine ai (aD (8,0) aa rfl rfl) ?_
 refine aj ?_
 refine aq ?_
 refine bO 11 [13,14,15,16,17,18,19,20,21,22,23] [(22,0)] ae ae rfl (aL rfl) (rfl:_=[_,_,_,_,_,_,_,_,_,_,_]) (rfl:_=[_,_,_]) ?_
 refine ap (_,[]) (fun τ=> az _ aa rfl rfl rfl rfl) ?_
 refine fP rfl ?_
 refine ap (_,[]) (fun τ=> az _ aa rfl rfl rfl rfl) ?_
 refine fQ rfl ?_
 refine ap (_,[]) (fun τ=> aH _ lp) ?_
 refine fU rfl ?_
 refine ap (_,[]) (fun τ=> aH _ eg) ?_
 refine fY rfl ?_
 refine ap (_,[]) (fun τ=> aA _ aa rfl rfl rfl) ?_
 refine gz rfl ?_
 refine ap (_,[]) (fun τ=> da _ _ aa rfl rfl rfl h rfl ab (by exact congrArg (fun z=> 0+1+z) (Nat.mul_one h))) ?_
 refine gZ rfl ?_
 refine ap (_,[]) (fun τ=> aF _ aa rfl rfl (by exact (congrArg (fun z=> (DF M.P.c.length (inl M.P.c) M.P.e (M.P.d:Int) (M.P.v:Int))[z]?) ab).trans hg)) ?_
 refine jg rfl ?_
 refine ap (_,[]) (fun τ=> aA _ aa rfl rfl rfl) ?_
 refine ka rfl ?_
 refine ap (_,[]) (fun τ=> aF _ aa rfl rfl eG) ?_
 refine kG rfl ?_
 refine ap (_,[((22,0),_)]) (fun τ=> (bW aa [((0,8),(22,0))] ar (hcl.toI) trivial tr tr rfl rfl ae ae)) ?_
 refine fW rfl ?_
 refine ap (_,[]) (fun τ=> aN _ aa rfl (by exact (rfl:_=some [AV.ref (22,0) 0 M.iv.length,AV.v (.slice none 0 0),AV.v (.int .i64 0),AV.v (.bool false),AV.v (.slice none 0 0)]))) ?_
 refine gL rfl ?_
 refine bm ⟨rfl,?_⟩
 refine ai (aN _ aa rfl (by exact (rfl:_=some [_,_,_,_,_,_,_,_,_,_,_,_,_,_,_,_,_,_,_,_,_,_,_,_,_,_,_,_,_,_,_,_,_,_,_,_,_,_,_,_,_,_,_,_,_,_,_,_,_,_,_,_,_,_,_,_,_,_,_,_,_,_,_,_]))) ?_
 refine ai (aQ (25,0) _ rfl rfl) ?_
 refine wG rfl ?_
 refine aj ?_
 refine aq ?_
 refine aq ?_
 refine aM (σ':=aE 108 [(4,_),(8,_),(9,_)] [((4,9),_),((5,9),_),((6,9),_),((4,0),_),((8,0),_),((22,0),_),((25,0),_)] [(4,9),(5,9),(6,9)] [(4,9),(6,9)]) kp ?_
 refine an ?_
 refine bR rfl ?_
 refine ai (aS _ rfl rfl) ?_
 refine bb rfl rfl rfl ?_
 refine cf rfl rfl rfl ?_
 refine ai (bl (r:=true) _ _ rfl rfl (decide_eq_true he)) ?_
 refine aj ?_
 refine bM rfl rfl ?_
 refine aq ?_
 refine aM (Le.trans (Le.nilB (25,0) 55 (61,0) 57 5 rfl rfl rfl) (Le.incT (61,0) rfl)) ?_
 refine an ?_
 refine bR rfl ?_
 refine ai (aS _ rfl rfl) ?_
 refine bb rfl rfl rfl ?_
 refine ai (az _ aa rfl rfl rfl rfl) ?_
 refine bG rfl rfl rfl rfl rfl rfl ?_
 refine aj ?_
 refine aG ?_
 exact bI (.inr rfl) rfl (.cellA aa rfl rfl rfl) (Le.outI [((5,8),(5,9)),((2,8),(61,0))] [(22,0)] (.agg rfl (ax (fi rfl rfl (by simp) rfl) (ax (cP rfl rfl) (ax .v (ax .v (ax (by show Lv _ _ _ (.sl (fz (kI [])).length (cw (fz (kI [])))) _;rw [hsk];exact .nil) bf)))))) rfl rfl rfl tr ob tr rfl)

theorem ub (s:Ns) (h:Nat) (ck:Int) (P:Pg) (R:Ms) {k:Nat} (hk:k < R.acts.length):cU s h ck P R (k+1)=eh (cU s h ck P R k) (pB R.acts k):=by
 show (R.acts.take (k+1)).foldl eh _=_
 rw [List.take_add_one,List.foldl_append,List.getElem?_eq_getElem hk,show pB R.acts k=R.acts[k] by simp [pB,hk]]
 rfl
theorem Aa (q:Ns×Nr) (a:Ac):(eh q a).2.sent.length≤q.2.sent.length+1∧(eh q a).2.fails.length≤q.2.fails.length+1:=by
 unfold eh
 split
 ·exact ⟨Nat.le_succ _,Nat.le_succ _⟩
 split
 ·exact ⟨Nat.le_succ _,Nat.le_succ _⟩
 split
 ·exact ⟨Nat.le_succ _,Nat.le_succ _⟩
 split
 ·exact ⟨Nat.le_succ _,Nat.le_succ _⟩
 split
 ·exact ⟨by simp,Nat.le_succ _⟩
 split
 ·split <;> exact ⟨Nat.le_succ _,Nat.le_succ _⟩
 split
 ·exact ⟨Nat.le_succ _,by simp⟩
 exact ⟨Nat.le_succ _,Nat.le_succ _⟩
theorem xa {l:List Ac} {k:Nat} (hk:k < l.length):pB l k∈l:=by
 rw [show pB l k=l[k] by simp [pB,hk]];exact List.getElem_mem hk
structure Py (P:Pg) (t:Int) (R:Ms) (q:Ns×Nr) (k:Nat):Prop where
 tm:qS t q.1.timers
 dk:DkOk P.d q.1.dk
 vo:q.1.vol=R.vars.drop P.d
 se:q.2.sent.length≤k
 fa:q.2.fails.length≤k
theorem xg {s:Ns} {h:Nat} {ck:Int} {P:Pg} {R:Ms} {t:Int} (ht:0≤t∧t < 8) (hac: ∀ a∈R.acts,xn t a∧Rg a.b) (htl:qS t s.timers) (hdk:DkOk P.d s.dk): ∀ k,k≤R.acts.length→Py P t R (cU s h ck P R k) k
 | 0,_=> ⟨htl,hdk,rfl,Nat.le_refl _,Nat.le_refl _⟩
 | k+1,hk=> by
  obtain ⟨h1,h2,h3,h4,h5⟩:=xg (ck:=ck) ht hac htl hdk k ab
  obtain ⟨a1,a2⟩:=hac _ (xa (l:=R.acts) (k:=k) ab)
  rw [ub s h ck P R ab]
  obtain ⟨l1,l2⟩:=Aa (cU s h ck P R k) (pB R.acts k)
  exact ⟨tW ht a1 h1,sJ h2 a2,(rm _ _).2.2.2.2.1.trans h3,by omega,by omega⟩
theorem Ja (c:Cz) {s:Ns} {h:Nat} {ck:Int} {P:Pg} {R:Ms} {t:Int} (ht:0≤t∧t < 8) (hac: ∀ a∈R.acts,xn t a∧Rg a.b) (htl:qS t s.timers) (hdk:DkOk P.d s.dk) (hd:P.d≤1000) (hv:R.vars.length≤1000) (hn:R.acts.length≤500):
  ∀ i,i < R.acts.length→ni c (GU R) (cU s h ck P R i).1 (cU s h ck P R i).2 (pB R.acts i) (cU s h ck P R (i+1)).1 (cU s h ck P R (i+1)).2:=fun i hi=> by
 obtain ⟨h1,h2,h3,h4,h5⟩:=xg (h:=h) (ck:=ck) ht hac htl hdk i ab
 rw [ub s h ck P R hi]
 have hp:=h2.pn
 refine GG c (GU R) ht _ _ (hac _ (xa hi)).1 h1 ⟨by rw [h2.len];exact hd,by omega,by rw [h3,List.length_drop];omega,?_⟩ (fun w hw=> ?_) ab ab
 ·rcases h1 with h1 | h1 <;> rw [h1] <;> simp
 obtain ⟨b1,b2,_⟩:=h2.pr w hw
 exact ⟨b1,by rw [h2.len];exact b2⟩
theorem Fe (p:Pg) (h:Nat) (names vars ans:List Int):(qy p h names vars ans).acts.length≤500:=by
 unfold qy
 split
 ·exact Nat.zero_le _
 have h1:=kx (K:=⟨p.c,p.d,names,ans⟩) (I:=Sz) (fun s hs _=> sk hs) 500 (dV vars (p.e h).toNat) ⟨Nat.le_refl _,Nat.le_refl _,Nat.le_refl _⟩
 have h2:=(mi (K:=⟨p.c,p.d,names,ans⟩) 500 (dV vars (p.e h).toNat)).1
 have h3:=h1.ac
 have h4:(dV vars (p.e h).toNat).steps=0:=rfl
 omega
theorem Jq (P:Pg) (hp:mW P) (hcl:P.c.length≤1000000) (h:Nat) (hh:h < 40) (nm iv ans:List Int) (hn: ∀ i,Rg (nm.getD i 0)) (hiv:iv.length=P.d+P.v) (hir: ∀ v∈iv,Rg v) (t:Tl) (ht:yh ⟨P,iv,nm,ans,t⟩) (R:Ms) (hR:R=qy P h nm iv ans):
  Spec Tryz.prog 59 (aY [il P, .v (.int .i64 (h:Int)), .agg [.sl iv.length (cw iv), .v (.int .i64 (nm.getD 0 0)), .v (.int .i64 (nm.getD 1 0)), .v (.int .i64 (nm.getD 2 0)), .v (.int .i64 (nm.getD 3 0)), .v (.int .i64 (nm.getD 4 0)), .v (.int .i64 (nm.getD 5 0)), .v (.int .i64 (nm.getD 6 0)), .v (.int .i64 (nm.getD 7 0)), .v (.int .i64 (nm.getD 8 0))],wo (6,9)] (zC t t.np t.pre (5,9)))
   (bc (.agg [.sl R.vars.length (cw R.vars), .ref (2,8) 0 R.acts.length, .v (.int .i64 (R.steps:Int)), .v (.bool (!R.fin)), .sl (fz (kI R.cov)).length (cw (fz (kI R.cov)))]) (((2,8), .row 57 5 (vA R.acts))::zC t (t.np+R.asked.length) (t.pre++tI t ans R.asked) (5,8)) [(2,8),(4,9),(5,8),(6,9)] [(4,9),(6,9)]):=by
 have e0:Jl ⟨P,iv,nm,ans,t⟩ [] (5,9)=zC t t.np t.pre (5,9):=by
  show zC t (t.np+0) (t.pre++tI t ans []) (5,9)=_
  rw [show tI t ans []=[] from rfl,List.append_nil];rfl
 rw [← e0]
 have hnv:=hp.nv
 by_cases he:P.e h < 0
 ·have hR2:R={ vars:=iv,pc:=0,fin:=true }:=by rw [hR];unfold qy;rw [if_pos he]
  exact sA ⟨P,iv,nm,ans,t⟩ h hh he (by show iv.length≤1000;omega) R hR2
 obtain ⟨D,hg,hE⟩:=hp.ex
 obtain ⟨e1,e2,e3⟩:=(hE h).resolve_left he
 have hR2:R=kV ⟨P.c,P.d,nm,ans⟩ 500 (dV iv (P.e h).toNat):=by rw [hR];unfold qy;rw [if_neg he]
 exact yd ⟨P,iv,nm,ans,t⟩ Jd D (P.d+P.v) ⟨hg,hnv,hn⟩ h hh (P.e h).toNat (by show P.e h=_;omega) (by show _ < P.c.length;omega) e3 hiv hir hcl ht R hR2
end Go.Proofs.YtmjnackchaahbaaGreat
