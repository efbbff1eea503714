/- part 17 -/
import Derived.Test.YtmjnackchaahbaaGreatNsZ16
set_option linter.unusedSimpArgs false
set_option linter.unusedVariables false
namespace Go.Proofs.YtmjnackchaahbaaGreat
open Go.RowKit

theorem LS {ρ:aC→aC} {σ:St} {F:aC→Bool} {id:aC} {e:TypeId} {n m:Nat} {xs:List PV} {r:List Int} (hid:σ.ob id= .obj (.row e 1 xs)) (hF:F id=true) (hm:n=m) (hx:xs=cw r) (hn:m=r.length):Lv ρ σ F (.sl m (cw r)) (.ref id 0 n):=by
 subst hm;subst hx
 exact fg hid hF (by rw [aO,Nat.mul_one];exact hn) rfl
def yD (t:Tl) (ks:List Int) (m:Nat):List PV:=(List.range m).flatMap fun (i:Nat)=> vI t 3 (i:Int) 2 (ks.getD i 0)
theorem zQ (t:Tl) (ks:List Int) (m:Nat):yD t ks m++vI t 3 (m:Int) 2 (ks.getD m 0)=yD t ks (m+1):=by
 unfold yD;rw [List.range_succ,List.flatMap_append];simp
theorem xz (t:Tl) (ks:List Int) (m:Nat):(yD t ks m).length=m*7:=by
 unfold yD
 rw [iL (fun (i:Nat)=> vI t 3 (i:Int) 2 (ks.getD i 0)) 7 (fun _=> rfl),List.length_range]
theorem wM (k:Nat) (ks:List Int):keepB (k+1) ks=keepB k ks++[decide (ks.getD k 0=1)]:=by unfold keepB;rw [List.range_succ,List.map_append];rfl
theorem km (k:Nat) (ks:List Int):(keepB k ks).length=k:=by simp [keepB]
theorem wH (l:List Bool) (x:Bool):CM l++[.v (.bool x)]=CM (l++[x]):=by simp [CM]
theorem sU (s:Ns) (h:Nat) (hh:h < s.counts.length) (x:Int):ll (cP s) h x=fun k=> (s.counts.set h x).getD k 0:=by
 funext k
 unfold ll
 by_cases e:k=h
 ·subst e;rw [if_pos rfl,List.getD_eq_getElem?_getD,List.getElem?_set_self hh];rfl
 rw [if_neg e,List.getD_eq_getElem?_getD,List.getElem?_set_ne (Ne.symm e),← List.getD_eq_getElem?_getD]
set_option maxHeartbeats 2000000 in
theorem lU (s:Ns) (hs:js s) (ho:iJ s.dk) (hc:s.counts.length=41) (hcb: -1000000≤s.counts.getD 40 0∧s.counts.getD 40 0≤1000000) (hep: -1000000≤s.epoch∧s.epoch≤1000000)
  (t:Tl) (n:Nat) (L:List PV) (hL:L.length=n*7) (hn:n≤1000) (ks:List Int) (hlk: ∀ i:Nat,i < s.dk.pend.length→rE t 3 (i:Int) 2 (ks.getD i 0)):
  Spec Tryz.prog 53 (aY [jC s,jb] (oh t n L (5,9))) (bb (jC (la s (keepB s.dk.pend.length ks))) (oh t (n+s.dk.pend.length) (L++yD t ks s.dk.pend.length) (5,8)) [(4,9),(5,8)] [(4,9)]):=by
 have hown:=ka s hs
 have hp:=hs.p
 have hcc:=hs.c
 have hv:=hs.v
 have hcr:=uC s.dk ab ab ho (keepB s.dk.pend.length ks) (by rw [km];omega)
 rw [km] at hcr
 have hce:=sU s 40 ab (s.counts.getD 40 0+1)
 have hcb2: -1000000≤cP s 40∧cP s 40≤1000000:=hcb
 have hl1:(s.dk.crash (keepB s.dk.pend.length ks)).cells.length=s.dk.cells.length:=fU _ _
 refine Spec.ofNI Tryz.func53 rfl Tryz.ntmps53 rfl ?_
 refine am (ai (aQ (2,0) _ rfl rfl) (ai (aB (4,0) aa rfl rfl) (aj (am (ai (az _ aa rfl rfl rfl rfl) (ai (bR aa [((1,8),(8,0))] ar (hown.toI) trivial tr tr rfl rfl ae ae) ?_))))))
 refine bG rfl rfl rfl rfl rfl rfl (aj (am (ai (bq _ fG) (aj (aU fun K4 hK4=> ?_)))))
 refine am (bc rfl rfl rfl (bc rfl rfl rfl (eW rfl rfl rfl (ai (bn _ aa rfl) (aX rfl (aj (ay ?_)))))))
 refine aL (Le.nilS 5 (60,0) 4 1 rfl rfl) ?_
 refine br (α:=Nat) (fun k=> k≤s.dk.pend.length) 48 [(1,_),(2,_),(4,_),(12,_)] [((2,0),_),((4,0),_),((8,0),_)] (fun k=> [(5, .ref (60,0) 0 k),(13, .v (.int .i64 (k:Int)))]) (fun k=> [((60,0), .row 4 1 (CM (keepB k ks))),((4,9), .box 103 [.v (.int .i64 t.c1), .v (.int .i64 t.c2), .v (.int .i64 t.c3), .sl t.na t.A, .ref (5,9) 0 (n+k)]),((5,9), .row 111 7 (L++yD t ks k))]) [(4,9),(5,9)] [(4,9)] (fun k=> s.dk.pend.length - k) 0 ?_ (by
  refine Le.mkJ [] [] rfl ?_ ?_ trivial tr ?_
  ·exact ⟨(iN rfl),(iP rfl),(iP rfl),(iV rfl),(cO rfl ag),(cp ag),trivial⟩
  ·exact ⟨(bM rfl rfl rfl),(bM rfl rfl rfl),(bM rfl rfl rfl),(fi rfl rfl rfl ag),(fq rfl rfl rfl rfl lz),(fi rfl rfl rfl (by (simp [yD]))),trivial⟩
  kernel_rfl) ?_
 ·omega
 intro k hk
 refine am (ai (bm _ _ rfl rfl rfl) (aj (aU fun K7 hK7=> ?_)))
 refine aR rfl (fun hc14=> ?_) (fun hc14=> ?_)
 ·skip
  have htl:=oX t 3 (k:Int) 2 (ks.getD k 0) (n+k) (L++yD t ks k) (by rw [List.length_append,hL,xz,Nat.add_mul]) ab ab (hlk k ab)
  rw [List.append_assoc,zQ] at htl
  have hkb:=wM k ks
  refine bs (hK7 _ ?_)
  clear hK7;try clear K7
  refine aq (ay (am (aX rfl (be rfl (aj (an (gJ rfl (ai (aI _ lT) (aX rfl (cB (Le.incT (19,0) rfl) ?_))))))))))
  refine ai (jy rfl aa [((5,8),(19,0))] ar (htl) ob tr tr rfl ae ae) ?_
  refine ai (bC (r:=decide (ks.getD k 0=1)) _ _ rfl rfl (by rw [Bool.eq_iff_iff];simp)) ?_
  refine ai (bg _ _ aa rfl ag (by (simp <;> rfl)) ah rfl) ?_
  refine ai (du (22,0) _ _ aa rfl rfl (by rw [bi,km,Nat.mul_one]) (.sl rfl) ab rfl ((wH _ _).trans (congrArg CM hkb.symm)) rfl) ?_
  refine fj rfl (dY (an (ai (aZ _ _ rfl rfl (bE ab)) ?_)))
  refine aX rfl (aJ (⟨k+1,?_,?_,?_⟩))
  ·omega
  ·skip
   refine Le.mkJ [((60,0),(22,0)),((5,9),(19,0))] [] rfl ?_ ?_ trivial tr ?_
   ·exact ⟨(by repeat' (first | exact dH (id:=(4,9)) rfl | refine Lv.fn rfl ?_ rfl ?_ | exact bf | refine au ?_ ?_)),(dH (id:=(2,0)) rfl),(dH (id:=(4,0)) rfl),(by repeat' (exact Lv.v)),(cO rfl ag),(cp ag),trivial⟩
   ·exact ⟨(fq rfl rfl rfl rfl (by repeat' (first | exact Lv.v | exact Lv.sl | exact cO (id:=(8,0)) rfl rfl | exact bf | refine au ?_ ?_))),(fq rfl rfl rfl rfl (by repeat' (first | exact Lv.v | exact bf | refine au ?_ ?_))),(fi rfl rfl rfl rfl),(fi rfl rfl rfl ag),(fq rfl rfl rfl rfl lz),(fi rfl rfl rfl ag),trivial⟩
   kernel_rfl
  omega
 obtain rfl:k=s.dk.pend.length:=by omega
 refine bB (id (hK4 _ ?_))
 clear hK4;try clear K4
 refine aq ?_
 refine aL (Le.frzS (ys:=CM (keepB s.dk.pend.length ks)) 5 dU rfl rfl (by rw [List.drop_zero,Nat.mul_one,List.take_of_length_le (by rw [bi,km];omega)]) (by rw [bi,km];omega)) ?_
 refine an (bc rfl rfl rfl (ai (az _ aa rfl rfl rfl rfl) (eV rfl (ai (aH aa al (hcr) rfl rfl) ?_))))
 refine bc rfl rfl rfl (bG rfl rfl rfl rfl rfl rfl (aj (am (bc rfl rfl rfl (ai (cY _ _ aa rfl rfl rfl 40 rfl ab rfl) ?_)))))
 refine cd rfl rfl rfl (ai (aZ _ _ rfl rfl (bE ab)) ?_)
 refine bc rfl rfl rfl (ai (cY _ _ aa rfl rfl rfl 40 rfl ab rfl) ?_)
 refine ai (dG _ _ aa rfl rfl rfl rfl (by show 48+1≤52;omega) ((tH s.up s.ver s.epoch s.clock _ _ _ _ (cP s) s.wait 40 ab _).trans (congrArg (fun e=> IC s.up s.ver s.epoch s.clock _ _ _ _ e s.wait) hce))) ?_
 refine aj (am (bc rfl rfl rfl (cd rfl rfl rfl (ai (aZ _ _ rfl rfl (bE ab)) ?_))))
 refine bc rfl rfl rfl (bG rfl rfl rfl rfl rfl rfl (aj (aq ?_)))
 refine aL (σ':=aD 48 [(2,_),(4,_)] [((2,0),_),((4,0),_),((8,0),_),((4,9),_),((5,9),_)] [(4,9),(5,9)] [(4,9)]) kp ?_
 refine an (bc rfl rfl rfl (eW rfl rfl rfl (ai (bn _ aa rfl) (ai (pZ (42,0) _ _ aa rfl rfl _ rfl rfl ab rfl rfl) ?_))))
 refine bc rfl rfl rfl (bG rfl rfl rfl rfl rfl rfl (bc rfl rfl rfl (bG rfl rfl rfl rfl rfl rfl (bc rfl rfl rfl (bG rfl rfl rfl rfl rfl rfl (bc rfl rfl rfl (bG rfl rfl rfl rfl rfl rfl (aj (am (ai (az _ aa rfl rfl rfl rfl) ?_))))))))))
 exact bG rfl rfl rfl rfl rfl rfl (aj (aG (bH (.inr rfl) rfl (.cellA aa rfl rfl rfl) (Le.outI [((5,8),(5,9))] [(42,0)] (.agg rfl (zG (au (jc rfl rfl) (au (jc rfl rfl) (au (LS rfl rfl (by simp [la]) (by simp [la,cw,rep]) rfl) lz))))) rfl rfl rfl tr ob tr rfl))))

theorem yq {P:Program} {σ:St} {o:Oper} {f:FuncId} {avs:List AV} (hE:EntersAt P o σ f avs) {args:List AV} {x y:Value} (sp:Spec P f (ba args []) (aP (.tup [.v x, .v y]) []))
  (ha:gx σ (fun _=> true) avs args) (hp:AV.pures args=true):de P o σ (σ.put o.dst (.tup [.v x, .v y])):=by
 intro K ι S a w R
 obtain ⟨vs,hrun,hvs,hrep⟩:=hE K ι S a w R
 have R1:=R.args ha hp hvs hrep
 refine jQ hrun (sp _ _ _ _ w rfl rfl R1) ?_
 rintro e w' ⟨v,ι',S',rfl,R2⟩
 refine ⟨v,rfl,?_⟩
 have hb:Below w.heap.size w w':=⟨R2.keeps.os,R2.keeps.tape,R2.keeps.output,R2.keeps.size,fun g hg=> R2.keeps.block g hg (by simp)⟩
 have R3:=R.gen (ι':=ι) (S':=S) (w':=w') (ob':=σ.ob) (inc':=σ.inc) (fun _=> False) (.of_below hb) (fun _ _=> rfl) (fun _ _=> rfl) (fun _ _=> rfl) (fun _ h=> h) (fun g h=> h)
  (fun g h=> .inl h) (fun g h=> Nat.lt_of_lt_of_le (R.Slt g h) hb.size)
  (fun _ _ h=> h.elim) (fun _ _ h=> h.elim) (fun _ _ h=> h.elim) (fun _ _ _ _ _ h=> h.elim) (fun _ _ _ h=> h.elim) (fun _ _ _ h=> h.elim)
 refine ⟨ι,_,R3.put o.dst (av:= .tup [.v x, .v y]) ?_ fun id hi=> absurd hi (lr _ rfl)⟩
 have:=R2.fr 0 (by simp [aP])
 simp only [aP,Nat.beq_refl,cond_true] at this
 have:=(by simpa using this:Rep ι' S' w' (.tup [.v x, .v y]) v)
 cases this with
 | tup h1 h=>
  refine .tup h1 fun j a hj=> ?_
  have hr:=h j a hj
  match j,hj with
  | 0,hj=> cases hj;rw [hr.toV];exact .v
  | 1,hj=> cases hj;rw [hr.toV];exact .v
theorem oM {P:Program} {σ:St} {dd:Option Tmp} {ty:TypeId} {f:FuncId} {xs:Array Operand} {ats:Array TypeId} (C:cR P f) {args:List AV} {x y:Value} (ha:gx σ (fun _=> true) (xs.toList.map σ.eval) args) (sp:Spec P f (ba args []) (aP (.tup [.v x, .v y]) []))
  (hp:AV.pures args=true):Stp P dd (.call { callee:= .value (.func f),args:=xs,argTypes:=ats }) ty σ (σ.put dd (.tup [.v x, .v y])):=fun o hd ho ht=> by subst hd;exact yq (.fnc ho C) sp ha hp
structure Cz where
 a:Int
 b:Int
 c:Int
def LZ (c:Cz) (i:Nat) (x:Ac):List PV:=[.v (.int .i64 c.a), .v (.int .i64 c.b), .v (.int .i64 c.c), .v (.int .i64 (i:Int)), .v (.int .i64 0), .v (.int .i64 x.a), .v (.int .i64 x.b), .v (.int .i64 x.c), .v (.int .i64 x.d)]
def Cm (c:Cz) (l:List Ac):List PV:=(List.range l.length).flatMap fun i=> LZ c i (lm l i)
theorem mi (c:Cz) (l:List Ac):(Cm c l).length=l.length*9:=by
 unfold Cm
 rw [iL (fun i=> LZ c i (lm l i)) 9 (fun _=> rfl),List.length_range]
theorem CX (c:Cz) (l:List Ac) (x:Ac):Cm c l++LZ c l.length x=Cm c (l++[x]):=by
 unfold Cm
 rw [List.length_append,List.length_singleton,List.range_succ,List.flatMap_append]
 congr 1
 ·unfold List.flatMap
  congr 1
  apply List.map_congr_left
  intro i hi
  have hi:=List.mem_range.1 hi
  have e:lm (l++[x]) i=lm l i:=by unfold lm;rw [List.getD_eq_getElem?_getD,List.getD_eq_getElem?_getD,List.getElem?_append_left hi]
  rw [e]
 have e:lm (l++[x]) l.length=x:=by unfold lm;rw [List.getD_eq_getElem?_getD,List.getElem?_append_right (Nat.le_refl _),Nat.sub_self];rfl
 simp [e]
structure Ot where
 vars:List Int
 acts:List Ac
 steps:Int
 spent:Bool
 cov:List Int
abbrev Ks (c:Cz) (r:Nr) (o:Ot) (se fa ac:aC):List AV:=[.v (.int .i64 c.a), .v (.int .i64 c.b), .v (.int .i64 c.c), .ref se 0 r.sent.length, .v (.bool r.repl), .v (.int .i64 r.value), .ref fa 0 r.fails.length, .sl o.vars.length (cw o.vars), .ref ac 0 o.acts.length, .v (.int .i64 o.steps), .v (.bool o.spent), .sl o.cov.length (cw o.cov)]
abbrev Nc (c:Cz) (o:Ot) (s:Ns) (r:Nr) (tm se fa:aC):List (aC×Cells):=[(tm, .row 3 1 (cw s.timers)),((2,9), .box 96 (Ks c r o se fa (5,9))),(se, .row 117 9 (Cm c r.sent)),(fa, .row 3 1 (cw r.fails)),((5,9), .row 57 5 (ri o.acts))]
abbrev nF (c:Cz) (o:Ot) (s:Ns) (r:Nr) (a:Ac) (s':Ns) (r':Nr):Prop:=Spec Tryz.prog 114 (aY [.agg (GJ s (.ref (1,9) 0 s.timers.length)), .agg [.v (.int .i64 a.k), .v (.int .i64 a.a), .v (.int .i64 a.b), .v (.int .i64 a.c), .v (.int .i64 a.d)], .ptr (2,9) 0] (Nc c o s r (1,9) (3,9) (4,9)))
 (bb (.agg (GJ s' (.ref (1,8) 0 s'.timers.length))) (Nc c o s' r' (1,8) (3,8) (4,8)) [(1,8),(2,9),(3,8),(4,8),(5,9)] [(2,9),(5,9)])
section
variable (c:Cz) (o:Ot) (s:Ns) (r:Nr) (x y z w:Int)
theorem yc (hs:js s) (ho:iJ s.dk):nF c o s r ⟨1,x,y,z,w⟩ { s with dk:=s.dk.write x y } r:=by
 have hc:=hs.c
 have hp:=hs.p
 have hw:=vz s.dk ab ab ho x y
 refine Spec.ofNI Tryz.func114 rfl Tryz.ntmps114 rfl ?_
 refine am (ai (aQ (3,0) _ rfl rfl) (ai (aQ (4,0) _ rfl rfl) (ai (aB (6,0) aa rfl rfl) (aj (aq (am (bc rfl rfl rfl (cd rfl rfl rfl (aj (ay ?_))))))))))
 refine iE rfl rfl rfl rfl rfl (an (bc rfl rfl rfl (ai (az _ aa rfl rfl rfl rfl) (bc rfl rfl rfl (cd rfl rfl rfl (bc rfl rfl rfl (cd rfl rfl rfl (ai (aH aa al (hw) rfl rfl) ?_))))))))
 refine bc rfl rfl rfl (bG rfl rfl rfl rfl rfl rfl (dY (aq ?_)))
 refine aL (σ':=aD 134 [(3,_),(6,_)] [((1,9),_),((3,0),_),((6,0),_),((2,9),_),((3,9),_),((4,9),_),((5,9),_)] [(1,9),(2,9),(3,9),(4,9),(5,9)] [(2,9),(5,9)]) kp ?_
 exact an (ai (az _ aa rfl rfl rfl rfl) (bG rfl rfl rfl rfl rfl rfl (aj (aG (bH (.inr rfl) rfl (.cellA aa rfl rfl rfl) (Le.outI [((1,8),(1,9)),((3,8),(3,9)),((4,8),(4,9))] [] (.agg rfl lz) rfl rfl rfl trivial ob tr rfl))))))
theorem CD (hs:js s) (ho:iJ s.dk):nF c o s r ⟨2,x,y,z,w⟩ { s with dk:=s.dk.sync } r:=by
 have hc:=hs.c
 have hp:=hs.p
 have hw:=qV s.dk ab ab ho
 refine Spec.ofNI Tryz.func114 rfl Tryz.ntmps114 rfl ?_
 refine am (ai (aQ (3,0) _ rfl rfl) (ai (aQ (4,0) _ rfl rfl) (ai (aB (6,0) aa rfl rfl) (aj (aq (am (bc rfl rfl rfl (cd rfl rfl rfl (aj (ay ?_))))))))))
 refine cK rfl rfl rfl rfl rfl (iE rfl rfl rfl rfl rfl (an (bc rfl rfl rfl (ai (az _ aa rfl rfl rfl rfl) (ai (aH aa al (hw) rfl rfl) ?_)))))
 exact bc rfl rfl rfl (bG rfl rfl rfl rfl rfl rfl (dY (am (ai (az _ aa rfl rfl rfl rfl) (bG rfl rfl rfl rfl rfl rfl (aj (aG (bH (.inr rfl) rfl (.cellA aa rfl rfl rfl) (Le.outI [((1,8),(1,9)),((3,8),(3,9)),((4,8),(4,9))] [] (.agg rfl lz) rfl rfl rfl trivial ob tr rfl)))))))))
theorem vX (ht:s.timers=[]):nF c o s r ⟨4,x,y,z,w⟩ { s with timers:=[x] } r:=by
 have hb:=kQ s.timers x (by rw [ht];exact Nat.zero_le 1)
 have hl4:s.timers.length*1=(cw s.timers).length:=by rw [aO,Nat.mul_one]
 have hi:Spec Tryz.prog 185 (aY [.ref (0,9) 0 s.timers.length, .v (.int .i64 0), .sl 1 (cw [x])] [((0,9), .row 3 1 (cw s.timers))]) (bb (.ref (0,8) 0 1) [((0,8), .row 3 1 (cw [x]))] [(0,8)] []):=by rw [ht];exact tE x
 have hn0:s.timers.length=0:=by rw [ht];rfl
 rw [show (if 0 < s.timers.length∧s.timers.getD 0 0 < x then (1:Int) else 0)=0 by rw [if_neg ab],show decide (0 < s.timers.length∧s.timers.getD 0 0=x)=false from decide_eq_false ab] at hb
 refine Spec.ofNI Tryz.func114 rfl Tryz.ntmps114 rfl ?_
 refine am (ai (aQ (3,0) _ rfl rfl) (ai (aQ (4,0) _ rfl rfl) (ai (aB (6,0) aa rfl rfl) (aj (aq (am (bc rfl rfl rfl (cd rfl rfl rfl (aj (ay ?_))))))))))
 iterate 2 refine cK rfl rfl rfl rfl rfl ?_
 refine iE rfl rfl rfl rfl rfl (am (bc rfl rfl rfl (ai (aF _ aa rfl rfl eQ) (bc rfl rfl rfl (cd rfl rfl rfl (ai (oM aa (eY (fg rfl rfl hl4 rfl) (eY Lv.v cW)) hb rfl) ?_))))))
 refine ai (aI _ tA) (ai (cm _ rfl ee) (ai (cm _ rfl zx) (be rfl (cq rfl (aj (aq ?_))))))
 refine aL (σ':=aD 134 [(3,_),(4,_),(6,_),(7,_),(8,_)] [((1,9),_),((3,0),_),((4,0),_),((6,0),_),((2,9),_),((3,9),_),((4,9),_),((5,9),_)] [(1,9),(2,9),(3,9),(4,9),(5,9)] [(2,9),(5,9)]) kp ?_
 refine an (cN rfl (ai (cg (r:=true) _ rfl rfl) (aj (bL rfl rfl (an (bc rfl rfl rfl (ai (aF _ aa rfl rfl eQ) (aX rfl (bc rfl rfl rfl (cd rfl rfl rfl ?_))))))))))
 refine ai (bg _ _ aa rfl ag (by simp <;> rfl) ah (by exact (rfl:_=some (cw [x])))) ?_
 refine cB (Le.incT (48,0) rfl) ?_
 refine ai (bh aa [((0,9),(1,9)),((0,8),(48,0))] ar (hi) ob tr tr rfl ae ae) ?_
 exact bc rfl rfl rfl (bG rfl rfl rfl rfl rfl rfl (dY (am (ai (az _ aa rfl rfl rfl rfl) (bG rfl rfl rfl rfl rfl rfl (aj (aG (bH (.inr rfl) rfl (.cellA aa rfl rfl rfl) (Le.outI [((1,8),(48,0)),((3,8),(3,9)),((4,8),(4,9))] [] (.agg rfl lz) rfl rfl rfl trivial ob tr rfl)))))))))
theorem wi (ht:s.timers=[x]):nF c o s r ⟨4,x,y,z,w⟩ s r:=by
 have hb:=kQ s.timers x (by rw [ht];exact Nat.le_refl 1)
 have hl4:s.timers.length*1=(cw s.timers).length:=by rw [aO,Nat.mul_one]
 rw [show decide (0 < s.timers.length∧s.timers.getD 0 0=x)=true from decide_eq_true (by rw [ht];exact ⟨Nat.zero_lt_one,rfl⟩)] at hb
 refine Spec.ofNI Tryz.func114 rfl Tryz.ntmps114 rfl ?_
 refine am (ai (aQ (3,0) _ rfl rfl) (ai (aQ (4,0) _ rfl rfl) (ai (aB (6,0) aa rfl rfl) (aj (aq (am (bc rfl rfl rfl (cd rfl rfl rfl (aj (ay ?_))))))))))
 iterate 2 refine cK rfl rfl rfl rfl rfl ?_
 refine iE rfl rfl rfl rfl rfl (am (bc rfl rfl rfl (ai (aF _ aa rfl rfl eQ) (bc rfl rfl rfl (cd rfl rfl rfl (ai (oM aa (eY (fg rfl rfl hl4 rfl) (eY Lv.v cW)) hb rfl) ?_))))))
 refine ai (aI _ tA) (ai (cm _ rfl ee) (ai (cm _ rfl zx) (be rfl (cq rfl (aj (aq ?_))))))
 refine aL (σ':=aD 134 [(3,_),(4,_),(6,_),(7,_),(8,_)] [((1,9),_),((3,0),_),((4,0),_),((6,0),_),((2,9),_),((3,9),_),((4,9),_),((5,9),_)] [(1,9),(2,9),(3,9),(4,9),(5,9)] [(2,9),(5,9)]) kp ?_
 refine an (cN rfl (ai (cg (r:=false) _ rfl rfl) (aj (aW rfl rfl (cr (am (ai (az _ aa rfl rfl rfl rfl) (bG rfl rfl rfl rfl rfl rfl (aj (aG ?_))))))))))
 exact bH (.inr rfl) rfl (.cellA aa rfl rfl rfl) (Le.outI [((1,8),(1,9)),((3,8),(3,9)),((4,8),(4,9))] [] (.agg rfl lz) rfl rfl rfl trivial ob tr rfl)
theorem wB (hl:s.timers.length≤1) (hx: ¬ (0 < s.timers.length∧s.timers.getD 0 0=x)):nF c o s r ⟨5,x,y,z,w⟩ s r:=by
 have hb:=kQ s.timers x hl
 have hl4:s.timers.length*1=(cw s.timers).length:=by rw [aO,Nat.mul_one]
 rw [decide_eq_false hx] at hb
 refine Spec.ofNI Tryz.func114 rfl Tryz.ntmps114 rfl ?_
 refine am (ai (aQ (3,0) _ rfl rfl) (ai (aQ (4,0) _ rfl rfl) (ai (aB (6,0) aa rfl rfl) (aj (aq (am (bc rfl rfl rfl (cd rfl rfl rfl (aj (ay ?_))))))))))
 iterate 3 refine cK rfl rfl rfl rfl rfl ?_
 refine iE rfl rfl rfl rfl rfl (am (bc rfl rfl rfl (ai (aF _ aa rfl rfl eQ) (bc rfl rfl rfl (cd rfl rfl rfl (ai (oM aa (eY (fg rfl rfl hl4 rfl) (eY Lv.v cW)) hb rfl) ?_))))))
 refine ai (aI _ tA) (ai (cm _ rfl ee) (ai (cm _ rfl zx) (be rfl (cq rfl (aj (aq ?_))))))
 refine aL (σ':=aD 134 [(3,_),(6,_),(9,_),(10,_)] [((1,9),_),((3,0),_),((6,0),_),((2,9),_),((3,9),_),((4,9),_),((5,9),_)] [(1,9),(2,9),(3,9),(4,9),(5,9)] [(2,9),(5,9)]) kp ?_
 exact an (cN rfl (aj (aW rfl rfl (cr (am (ai (az _ aa rfl rfl rfl rfl) (bG rfl rfl rfl rfl rfl rfl (aj (aG (bH (.inr rfl) rfl (.cellA aa rfl rfl rfl) (Le.outI [((1,8),(1,9)),((3,8),(3,9)),((4,8),(4,9))] [] (.agg rfl lz) rfl rfl rfl trivial ob tr rfl)))))))))))
theorem Dc (hr:r.sent.length≤1000):nF c o s r ⟨3,x,y,z,w⟩ s { r with sent:=r.sent++[(⟨3,x,y,z,w⟩:Ac)] }:=by
 have hl2:=mi c r.sent
 have hl3:r.sent.length+1=(r.sent++[(⟨3,x,y,z,w⟩:Ac)]).length:=by rw [List.length_append];rfl
 refine Spec.ofNI Tryz.func114 rfl Tryz.ntmps114 rfl ?_
 refine am (ai (aQ (3,0) _ rfl rfl) (ai (aQ (4,0) _ rfl rfl) (ai (aB (6,0) aa rfl rfl) (aj (aq (am (bc rfl rfl rfl (cd rfl rfl rfl (aj (ay ?_))))))))))
 iterate 4 refine cK rfl rfl rfl rfl rfl ?_
 refine iE rfl rfl rfl rfl rfl (aq ?_)
 refine aL (σ':=aD 134 [(2,_),(3,_),(4,_),(6,_)] [((1,9),_),((2,9),_),((3,9),_),((4,9),_),((5,9),_),((3,0),_),((4,0),_),((6,0),_)] [(1,9),(2,9),(3,9),(4,9),(5,9)] [(2,9),(5,9)]) kp ?_
 refine pI 12 [70,71,72,73,74,75,76,77,78,79,11] [(11,0),(11,0)] ae ae rfl (rfl:_=[_,_,_,_,_,_,_,_,_,_,_,_]) (rfl:_=[]) ?_
 refine cG (_,[]) (fun τ=> aI _ ca) ?_
 refine cF (rfl:_=[_]) ?_
 refine cG (_,[]) (fun τ=> aT _ rfl rfl) ?_
 refine cF (rfl:_=[_,_]) ?_
 refine cG (_,[]) (fun τ=> aA _ aa rfl rfl rfl) ?_
 refine cF (rfl:_=[_,_,_]) ?_
 refine cG (_,[]) (fun τ=> az _ aa rfl rfl rfl rfl) ?_
 refine cF (rfl:_=[_,_,_,_]) ?_
 refine cG (_,[]) (fun τ=> aI _ ca) ?_
 refine cF (rfl:_=[_,_,_,_,_]) ?_
 refine cG (_,[]) (fun τ=> aT _ rfl rfl) ?_
 refine cF (rfl:_=[_,_,_,_,_,_]) ?_
 refine cG (_,[]) (fun τ=> aA _ aa rfl rfl rfl) ?_
 refine cF (rfl:_=[_,_,_,_,_,_,_]) ?_
 refine cG (_,[]) (fun τ=> aF _ aa rfl rfl eQ) ?_
 refine cF (rfl:_=[_,_,_,_,_,_,_,_]) ?_
 refine cG (_,[]) (fun τ=> dh _ aa rfl rfl) ?_
 refine cF (rfl:_=[_,_,_,_,_,_,_,_,_]) ?_
 refine cG (_,[]) (fun τ=> aN _ aa rfl (by exact rq)) ?_
 refine cF (rfl:_=[_,_,_,_,_,_,_,_,_,_]) ?_
 refine cG (_,[((11,0),_)]) (fun τ=> aB (11,0) aa rfl rfl) ?_
 refine cF (rfl:_=[_,_,_,_,_,_,_,_,_,_,_]) ?_
 refine cG (_,[((11,0),_)]) (fun τ=> dG _ _ aa rfl rfl rfl rfl (Nat.le_of_ble_eq_true rfl) rfl) ?_
 refine cF (rfl:_=[_,_,_,_,_,_,_,_,_,_,_,_]) ?_
 refine nj ⟨⟨rfl,by kernel_rfl,by kernel_rfl⟩,?_⟩
 refine aj ?_
 refine aL (σ':=aD 134 [(2,_),(3,_),(4,_),(6,_),(11,_)] [((1,9),_),((2,9),_),((3,9),_),((4,9),_),((5,9),_),((3,0),_),((4,0),_),((6,0),_),((11,0),_)] [(1,9),(2,9),(3,9),(4,9),(5,9)] [(2,9),(5,9)]) kp ?_
 refine aL (Le.incT (96,0) rfl) ?_
 refine ia 17 [80,81,82,83,84,85,86,87,88,89,90,91,92,93,94,95,96] [(3,9),(96,0)] [[],[],[],[(3,9)],[(3,9)],[],[],[],[],[],[],[],[],[],[(3,9)],[(3,9)],[]] ae ae rfl (aK rfl) (rfl:_=[_,_,_,_,_,_,_,_,_,_,_,_,_,_,_,_,_]) (rfl:_=[_,_,_]) ?_
 refine ap (_,[]) (fun τ=> aI _ ca) ?_
 refine fD rfl ?_
 refine ap (_,[]) (fun τ=> aI _ ca) ?_
 refine fF rfl ?_
 refine ap (_,[]) (fun τ=> aT _ rfl rfl) ?_
 refine fE rfl ?_
 refine ap (_,[]) (fun τ=> aA _ aa rfl rfl rfl) ?_
 refine fS rfl ?_
 refine ap (_,[]) (fun τ=> aF _ aa rfl rfl eQ) ?_
 refine gf rfl ?_
 refine ap (_,[]) (fun τ=> az _ aa rfl rfl rfl rfl) ?_
 refine gS rfl ?_
 refine ap (_,[]) (fun τ=> aA _ aa rfl rfl rfl) ?_
 refine ir rfl ?_
 refine ap (_,[]) (fun τ=> aF _ aa rfl rfl ee) ?_
 refine jE rfl ?_
 refine ap (_,[]) (fun τ=> aA _ aa rfl rfl rfl) ?_
 refine jU rfl ?_
 refine ap (_,[]) (fun τ=> aF _ aa rfl rfl ee) ?_
 refine fy rfl ?_
 refine ap (_,[]) (fun τ=> aA _ aa rfl rfl rfl) ?_
 refine gd rfl ?_
 refine ap (_,[]) (fun τ=> aF _ aa rfl rfl ee) ?_
 refine jG rfl ?_
 refine ap (_,[]) (fun τ=> aA _ aa rfl rfl rfl) ?_
 refine kT rfl ?_
 refine ap (_,[]) (fun τ=> aF _ aa rfl rfl ee) ?_
 refine mD rfl ?_
 refine ap (_,[]) (fun τ=> aN _ aa rfl (by exact (rfl:_=some [_,_,_,_,_,_,_,_,_]))) ?_
 refine rh rfl ?_
 refine ap (_,[]) (fun τ=> bg _ _ aa rfl ag (by (simp <;> rfl)) ah rfl) ?_
 refine re rfl ?_
 refine ap (_,[((3,9), .gone),((96,0),_)]) (fun τ=> mH (b:=true) (96,0) _ _ aa rfl (eE rfl (by exact dM) rfl) hl2.symm (.sl rfl) ab rfl rfl rfl (CX c r.sent ⟨3,x,y,z,w⟩) hl3) ?_
 refine vZ rfl (bj ⟨⟨rfl,by kernel_rfl⟩,?_⟩)
 refine ai (aT _ rfl rfl) (bc rfl rfl rfl (bG rfl rfl rfl rfl rfl rfl (dY (aq ?_))))
 refine aL (σ':=aD 134 [(3,_),(6,_)] [((1,9),_),((3,0),_),((6,0),_),((2,9),_),((4,9),_),((5,9),_),((96,0),_)] [(1,9),(2,9),(4,9),(5,9),(96,0)] [(2,9),(5,9)]) kp ?_
 exact an (ai (az _ aa rfl rfl rfl rfl) (bG rfl rfl rfl rfl rfl rfl (aj (aG (bH (.inr rfl) rfl (.cellA aa rfl rfl rfl) (Le.outI [((1,8),(1,9)),((3,8),(96,0)),((4,8),(4,9))] [] (.agg rfl lz) rfl rfl rfl trivial ob tr rfl))))))
theorem yj (h0:0≤s.wait) (h1:x=s.wait):nF c o s r ⟨6,x,y,z,w⟩ { s with wait:= -1 } { r with repl:=true,value:=y }:=by
 refine Spec.ofNI Tryz.func114 rfl Tryz.ntmps114 rfl ?_
 refine am (ai (aQ (3,0) _ rfl rfl) (ai (aQ (4,0) _ rfl rfl) (ai (aB (6,0) aa rfl rfl) (aj (aq (am (bc rfl rfl rfl (cd rfl rfl rfl (aj (ay ?_))))))))))
 iterate 5 refine cK rfl rfl rfl rfl rfl ?_
 refine aq ?_
 refine aL (σ':=aD 134 [(2,_),(3,_),(4,_),(6,_),(13,_)] [((1,9),_),((2,9),_),((3,9),_),((4,9),_),((5,9),_),((3,0),_),((4,0),_),((6,0),_)] [(1,9),(2,9),(3,9),(4,9),(5,9)] [(2,9),(5,9)]) kp ?_
 refine zI rfl rfl rfl rfl rfl (am (bc rfl rfl rfl (cd rfl rfl rfl (ai (fu (r:=true) _ _ rfl rfl (decide_eq_true ab)) ?_))))
 refine cN rfl (ax rfl rfl (aA _ aa rfl rfl rfl) (ax rfl rfl (aF _ aa rfl rfl ee) (ax rfl rfl (aA _ aa rfl rfl rfl) (ax rfl rfl (aF _ aa rfl rfl ee) (ax rfl rfl (bC (r:=true) _ _ rfl rfl (by rw [h1];exact beq_self_eq_true _)) ?_)))))
 refine ai (aE _ _ _ rfl bN) (aj (bL rfl rfl ?_))
 refine aL (σ':=aD 134 [(2,_),(3,_),(4,_),(6,_)] [((1,9),_),((2,9),_),((3,9),_),((4,9),_),((5,9),_),((3,0),_),((4,0),_),((6,0),_)] [(1,9),(2,9),(3,9),(4,9),(5,9)] [(2,9),(5,9)]) kp ?_
 refine ia 7 [111,112,113,114,115,116] [(2,9)] [[(2,9)],[],[],[],[(2,9)],[(2,9)],[]] ae ae rfl (aK rfl) (rfl:_=[_,_,_,_,_,_,_]) (rfl:_=[_,_,_,_,_]) ?_
 refine ap (_,[]) (fun τ=> aI _ ca) ?_
 refine fD rfl ?_
 refine ap (_,[]) (fun τ=> aI _ ca) ?_
 refine fF rfl ?_
 refine ap (_,[]) (fun τ=> aA _ aa rfl rfl rfl) ?_
 refine fE rfl ?_
 refine ap (_,[]) (fun τ=> aF _ aa rfl rfl ee) ?_
 refine fS rfl ?_
 refine ap (_,[]) (fun τ=> aT _ rfl rfl) ?_
 refine gf rfl ?_
 refine ap (_,[]) (fun τ=> aA _ aa rfl rfl rfl) ?_
 refine gS rfl ?_
 refine ap (_,[((2,9),_)]) (fun τ=> dG _ _ aa rfl (eE rfl (by exact dM) rfl) rfl rfl (Nat.le_of_ble_eq_true rfl) rfl) ?_
 refine ir rfl (bj ⟨⟨rfl,by kernel_rfl⟩,?_⟩)
 refine ai (aT _ rfl rfl) (bc rfl rfl rfl (bG rfl rfl rfl rfl rfl rfl (bc rfl rfl rfl (bG rfl rfl rfl rfl rfl rfl (dY (am (ai (az _ aa rfl rfl rfl rfl) (bG rfl rfl rfl rfl rfl rfl (aj (aG ?_))))))))))
 exact bH (.inr rfl) rfl (.cellA aa rfl rfl rfl) (Le.outI [((1,8),(1,9)),((3,8),(3,9)),((4,8),(4,9))] [] (.agg rfl lz) rfl rfl rfl trivial ob tr rfl)
theorem wa (h0:s.wait < 0):nF c o s r ⟨6,x,y,z,w⟩ s r:=by
 refine Spec.ofNI Tryz.func114 rfl Tryz.ntmps114 rfl ?_
 refine am (ai (aQ (3,0) _ rfl rfl) (ai (aQ (4,0) _ rfl rfl) (ai (aB (6,0) aa rfl rfl) (aj (aq (am (bc rfl rfl rfl (cd rfl rfl rfl (aj (ay ?_))))))))))
 iterate 5 refine cK rfl rfl rfl rfl rfl ?_
 refine aq ?_
 refine aL (σ':=aD 134 [(2,_),(3,_),(4,_),(6,_),(13,_)] [((1,9),_),((2,9),_),((3,9),_),((4,9),_),((5,9),_),((3,0),_),((4,0),_),((6,0),_)] [(1,9),(2,9),(3,9),(4,9),(5,9)] [(2,9),(5,9)]) kp ?_
 refine zI rfl rfl rfl rfl rfl (am (bc rfl rfl rfl (cd rfl rfl rfl (ai (fu (r:=false) _ _ rfl rfl (decide_eq_false ab)) ?_))))
 refine cN rfl (aM rfl rfl ah ?_)
 refine aM rfl rfl ah ?_
 refine aM rfl rfl ah ?_
 refine aM rfl rfl ah ?_
 refine aM rfl rfl ah ?_
 exact ai (aE _ _ _ rfl bN) (aj (aW rfl rfl (cr (am (ai (az _ aa rfl rfl rfl rfl) (bG rfl rfl rfl rfl rfl rfl (aj (aG (bH (.inr rfl) rfl (.cellA aa rfl rfl rfl) (Le.outI [((1,8),(1,9)),((3,8),(3,9)),((4,8),(4,9))] [] (.agg rfl lz) rfl rfl rfl trivial ob tr rfl))))))))))
theorem wG (h0:0≤s.wait) (h1:x≠s.wait):nF c o s r ⟨6,x,y,z,w⟩ s r:=by
 refine Spec.ofNI Tryz.func114 rfl Tryz.ntmps114 rfl ?_
 refine am (ai (aQ (3,0) _ rfl rfl) (ai (aQ (4,0) _ rfl rfl) (ai (aB (6,0) aa rfl rfl) (aj (aq (am (bc rfl rfl rfl (cd rfl rfl rfl (aj (ay ?_))))))))))
 iterate 5 refine cK rfl rfl rfl rfl rfl ?_
 refine aq ?_
 refine aL (σ':=aD 134 [(2,_),(3,_),(4,_),(6,_),(13,_)] [((1,9),_),((2,9),_),((3,9),_),((4,9),_),((5,9),_),((3,0),_),((4,0),_),((6,0),_)] [(1,9),(2,9),(3,9),(4,9),(5,9)] [(2,9),(5,9)]) kp ?_
 refine zI rfl rfl rfl rfl rfl (am (bc rfl rfl rfl (cd rfl rfl rfl (ai (fu (r:=true) _ _ rfl rfl (decide_eq_true ab)) ?_))))
 refine cN rfl (ax rfl rfl (aA _ aa rfl rfl rfl) (ax rfl rfl (aF _ aa rfl rfl ee) (ax rfl rfl (aA _ aa rfl rfl rfl) (ax rfl rfl (aF _ aa rfl rfl ee) (ax rfl rfl (bC (r:=false) _ _ rfl rfl (beq_eq_false_iff_ne.2 h1)) ?_)))))
 exact ai (aE _ _ _ rfl bN) (aj (aW rfl rfl (cr (am (ai (az _ aa rfl rfl rfl rfl) (bG rfl rfl rfl rfl rfl rfl (aj (aG (bH (.inr rfl) rfl (.cellA aa rfl rfl rfl) (Le.outI [((1,8),(1,9)),((3,8),(3,9)),((4,8),(4,9))] [] (.agg rfl lz) rfl rfl rfl trivial ob tr rfl))))))))))
theorem BH (hr:r.fails.length≤1000):nF c o s r ⟨7,x,y,z,w⟩ s { r with fails:=r.fails++[x] }:=by
 have hl3:r.fails.length+1=(r.fails++[x]).length:=by rw [List.length_append];rfl
 refine Spec.ofNI Tryz.func114 rfl Tryz.ntmps114 rfl ?_
 refine am (ai (aQ (3,0) _ rfl rfl) (ai (aQ (4,0) _ rfl rfl) (ai (aB (6,0) aa rfl rfl) (aj (aq (am (bc rfl rfl rfl (cd rfl rfl rfl (aj (ay ?_))))))))))
 iterate 5 refine cK rfl rfl rfl rfl rfl ?_
 refine aq ?_
 refine aL (σ':=aD 134 [(2,_),(3,_),(4,_),(6,_),(13,_)] [((1,9),_),((2,9),_),((3,9),_),((4,9),_),((5,9),_),((3,0),_),((4,0),_),((6,0),_)] [(1,9),(2,9),(3,9),(4,9),(5,9)] [(2,9),(5,9)]) kp ?_
 refine ea rfl rfl rfl rfl rfl (iE rfl rfl rfl rfl rfl ?_)
 refine aL (σ':=aD 134 [(2,_),(3,_),(4,_),(6,_)] [((1,9),_),((2,9),_),((3,9),_),((4,9),_),((5,9),_),((3,0),_),((4,0),_),((6,0),_)] [(1,9),(2,9),(3,9),(4,9),(5,9)] [(2,9),(5,9)]) kp ?_
 refine aL (Le.incT (130,0) rfl) ?_
 refine ia 9 [122,123,124,125,126,127,128,129,130] [(4,9),(130,0)] [[],[],[],[(4,9)],[(4,9)],[],[(4,9)],[(4,9)],[]] ae ae rfl (aK rfl) (rfl:_=[_,_,_,_,_,_,_,_,_]) (rfl:_=[_,_,_]) ?_
 refine ap (_,[]) (fun τ=> aI _ ca) ?_
 refine fD rfl ?_
 refine ap (_,[]) (fun τ=> aI _ ca) ?_
 refine fF rfl ?_
 refine ap (_,[]) (fun τ=> aT _ rfl rfl) ?_
 refine fE rfl ?_
 refine ap (_,[]) (fun τ=> aA _ aa rfl rfl rfl) ?_
 refine fS rfl ?_
 refine ap (_,[]) (fun τ=> aF _ aa rfl rfl eQ) ?_
 refine gf rfl ?_
 refine ap (_,[]) (fun τ=> aA _ aa rfl rfl rfl) ?_
 refine gS rfl ?_
 refine ap (_,[]) (fun τ=> aF _ aa rfl rfl ee) ?_
 refine ir rfl ?_
 refine ap (_,[]) (fun τ=> bg _ _ aa rfl ag (by (simp <;> rfl)) ah rfl) ?_
 refine jE rfl ?_
 refine ap (_,[((4,9), .gone),((130,0),_)]) (fun τ=> mH (b:=true) (130,0) _ _ aa rfl (eE rfl (by exact dM) rfl) (by rw [aO,Nat.mul_one]) (.sl rfl) ab rfl rfl rfl (sZ r.fails [x]) hl3) ?_
 refine jU rfl (bj ⟨⟨rfl,by kernel_rfl⟩,?_⟩)
 exact ai (aT _ rfl rfl) (bc rfl rfl rfl (bG rfl rfl rfl rfl rfl rfl (dY (am (ai (az _ aa rfl rfl rfl rfl) (bG rfl rfl rfl rfl rfl rfl (aj (aG (bH (.inr rfl) rfl (.cellA aa rfl rfl rfl) (Le.outI [((1,8),(1,9)),((3,8),(3,9)),((4,8),(130,0))] [] (.agg rfl lz) rfl rfl rfl trivial ob tr rfl))))))))))
end
end Go.Proofs.YtmjnackchaahbaaGreat

namespace Go.Proofs.YtmjnackchaahbaaGreat
def TmC (c:List eS) (t:Int):Bool:=decide (0≤t∧t < 8) && c.all fun x=> (decide (x.op≠ .timer) || decide (x.n=t)) && (decide (x.op≠ .cancel) || decide (x.n≠t))
structure wY (t:Int) (a:Ac):Prop where
 kd:1≤a.k∧a.k≤7
 tm:a.k=4→a.a=t
 cn:a.k=5→a.a≠t
theorem Fw {K:Cx} {x:eS} {s:Ms} {t:Int} (h1:x.op= .timer→x.n=t) (h2:x.op= .cancel→x.n≠t) (h: ∀ a∈s.acts,wY t a): ∀ a∈(dz K x s).acts,wY t a:=by
 have app: ∀ (b:Ac),wY t b→ ∀ a∈s.acts++[b],wY t a:=fun b hb a ha=> by
  rcases List.mem_append.1 ha with ha | ha
  ·exact h a ha
  simp at ha;subst ha;exact hb
 unfold dz
 cases ho:x.op <;> simp only
 case setVar=>
  split
  ·exact app _ ⟨by simp,fun e=> by simp at e,fun e=> by simp at e⟩
  exact h
 case draw=> split <;> exact h
 case send=>
  split
  ·exact app _ ⟨by simp,fun e=> by simp at e,fun e=> by simp at e⟩
  exact h
 case timer=> exact app _ ⟨by simp,fun _=> h1 ho,fun e=> by simp at e⟩
 case cancel=> exact app _ ⟨by simp,fun e=> by simp at e,fun _=> h2 ho⟩
 case sync=> exact app _ ⟨by simp,fun e=> by simp at e,fun e=> by simp at e⟩
 case reply=> exact app _ ⟨by simp,fun e=> by simp at e,fun e=> by simp at e⟩
 case fail=> exact app _ ⟨by simp,fun e=> by simp at e,fun e=> by simp at e⟩
 all_goals exact h
theorem xi {c:List eS} {t:Int} (h:TmC c t=true) (i:Nat):((c.getD i { op:= .stop }).op= .timer→(c.getD i { op:= .stop }).n=t)∧((c.getD i { op:= .stop }).op= .cancel→(c.getD i { op:= .stop }).n≠t):=by
 unfold TmC at h
 rw [Bool.and_eq_true,List.all_eq_true] at h
 by_cases hi:i < c.length
 ·have e:c.getD i { op:= .stop }=c[i]:=by rw [List.getD_eq_getElem?_getD,List.getElem?_eq_getElem hi];rfl
  rw [e]
  have:=h.2 _ (List.getElem_mem hi)
  simp only [Bool.and_eq_true,Bool.or_eq_true,decide_eq_true_eq] at this
  exact ⟨fun e=> (this.1.resolve_left fun h=> h e),fun e=> (this.2.resolve_left fun h=> h e)⟩
 have e:c.getD i { op:= .stop }={ op:= .stop }:=by rw [List.getD_eq_getElem?_getD,List.getElem?_eq_none ab];rfl
 rw [e];exact ⟨fun e=> (by cases e),fun e=> (by cases e)⟩
theorem Ie {K:Cx} {t:Int} (hc:TmC K.code t=true) (k:Nat) (s:Ms) (h: ∀ a∈s.acts,wY t a): ∀ a∈(kM K k s).acts,wY t a:=
 lw (I:=fun s=> ∀ a∈s.acts,wY t a) (fun s h _=> Fw (xi hc s.pc).1 (xi hc s.pc).2 h) k s h
theorem uQ {p:Pg} {t:Int} (hc:TmC p.c t=true) (h:Nat) (names vars ans:List Int): ∀ a∈(jP p h names vars ans).acts,wY t a:=by
 unfold jP
 split
 ·exact fun a ha=> by simp at ha
 exact Ie hc 500 _ fun a ha=> by simp [ez] at ha
abbrev pM (t:Int) (l:List Int):Prop:=l=[]∨l=[t]
theorem TmC.rg {c:List eS} {t:Int} (h:TmC c t=true):0≤t∧t < 8:=by
 unfold TmC at h
 rw [Bool.and_eq_true] at h
 exact of_decide_eq_true h.1
theorem Lt {P:Int→Prop} (h:P 0∧P 1∧P 2∧P 3∧P 4∧P 5∧P 6∧P 7) {t:Int} (ht:0≤t∧t < 8):P t:=by
 obtain ⟨h0,h1,h2,h3,h4,h5,h6,h7⟩:=h
 have:t=0∨t=1∨t=2∨t=3∨t=4∨t=5∨t=6∨t=7:=by omega
 rcases this with h | h | h | h | h | h | h | h <;> (subst h;assumption)
theorem xj {t:Int} (ht:0≤t∧t < 8) {l:List Int} (h:pM t l):xH l t true=[t]:=by
 rcases h with h | h
 ·subst h;exact Lt (P:=fun t=> xH [] t true=[t]) ah ht
 subst h;exact Lt (P:=fun t=> xH [t] t true=[t]) ah ht
theorem xC {t u:Int} (ht:0≤t∧t < 8) (hu:u≠t) {l:List Int} (h:pM t l):xH l u false=l:=by
 have e:xH l u false=((List.range 8).map fun (i:Nat)=> (i:Int)).filter fun i=> decide (i∈l):=by
  unfold xH
  refine List.filter_congr fun i _=> ?_
  split
  ·rename_i hi
   subst hi
   rcases h with h | h
   ·subst h;rfl
   subst h;exact (decide_eq_false (by simpa using hu)).symm
  rfl
 rw [e]
 rcases h with h | h
 ·subst h;rfl
 subst h;exact Lt (P:=fun t=> (((List.range 8).map fun (i:Nat)=> (i:Int)).filter fun i=> decide (i∈[t]))=[t]) ah ht
theorem uz {t:Int} (ht:0≤t∧t < 8) {q:Ns×Nr} {a:Ac} (ha:wY t a) (h:pM t q.1.timers):pM t (eg q a).1.timers:=by
 unfold eg
 split
 ·exact h
 split
 ·exact h
 split
 ·rename_i h4
  show pM t (xH q.1.timers a.a true)
  rw [ha.tm h4,xj ht h]
  exact .inr rfl
 split
 ·rename_i h5
  show pM t (xH q.1.timers a.a false)
  rw [xC ht (ha.cn h5) h]
  exact h
 split
 ·exact h
 split
 ·split <;> exact h
 split <;> exact h
theorem GG {s:Ns} {l:List Int} (h:l=s.timers):{ s with timers:=l }=s:=by subst h;rfl
theorem IQ (c:Cz) (o:Ot) {t:Int} (ht:0≤t∧t < 8) (q:Ns×Nr) (a:Ac) (ha:wY t a) (hq:pM t q.1.timers) (hs:js q.1) (ho:iJ q.1.dk) (hr:q.2.sent.length≤1000) (hf:q.2.fails.length≤1000):
  nF c o q.1 q.2 a (eg q a).1 (eg q a).2:=by
 obtain ⟨s,r⟩:=q
 obtain ⟨k,x,y,z,w⟩:=a
 obtain ⟨hk,h4,h5⟩:=ha
 simp only at hk h4 h5 hq hs ho hr hf
 have:k=1∨k=2∨k=3∨k=4∨k=5∨k=6∨k=7:=by omega
 rcases this with e | e | e | e | e | e | e <;> subst e
 ·exact yc c o s r x y z w hs ho
 ·exact CD c o s r x y z w hs ho
 ·exact Dc c o s r x y z w hr
 ·obtain rfl:=h4 rfl
  have e:(eg (s,r) ⟨4,x,y,z,w⟩)=({ s with timers:=[x] },r):=by
   show ({ s with timers:=xH s.timers x true },r)=_
   rw [xj ht hq]
  rw [e]
  rcases hq with hq | hq
  ·exact vX c o s r x y z w hq
  have:=wi c o s r x y z w hq
  rwa [GG hq.symm]
 ·have hx:=h5 rfl
  have e:(eg (s,r) ⟨5,x,y,z,w⟩)=(s,r):=by
   show ({ s with timers:=xH s.timers x false },r)=_
   rw [xC ht hx hq,GG rfl]
  rw [e]
  refine wB c o s r x y z w ?_ ?_
  ·rcases hq with hq | hq <;> rw [hq]
   ·exact Nat.zero_le 1
   exact Nat.le_refl 1
  rcases hq with hq | hq <;> rw [hq]
  ·exact fun h=> absurd h.1 (Nat.lt_irrefl _)
  exact fun h=> hx h.2.symm
 ·by_cases h0:0≤s.wait
  ·by_cases h1:x=s.wait
   ·have e:(eg (s,r) ⟨6,x,y,z,w⟩)=({ s with wait:= -1 },{ r with repl:=true,value:=y }):=by
     show (if 0≤s.wait∧x=s.wait then ({ s with wait:= -1 },{ r with repl:=true,value:=y }) else (s,r))=_
     exact if_pos ⟨h0,h1⟩
    rw [e];exact yj c o s r x y z w h0 h1
   have e:(eg (s,r) ⟨6,x,y,z,w⟩)=(s,r):=by
    show (if 0≤s.wait∧x=s.wait then ({ s with wait:= -1 },{ r with repl:=true,value:=y }) else (s,r))=_
    exact if_neg fun h=> h1 h.2
   rw [e];exact wG c o s r x y z w h0 h1
  have e:(eg (s,r) ⟨6,x,y,z,w⟩)=(s,r):=by
   show (if 0≤s.wait∧x=s.wait then ({ s with wait:= -1 },{ r with repl:=true,value:=y }) else (s,r))=_
   exact if_neg fun h=> h0 h.1
  rw [e];exact wa c o s r x y z w ab
 exact BH c o s r x y z w hf
theorem pm (s:Ns) (hs:js s) (ho:iJ s.dk):Spec Tryz.prog 47 (aY [.agg (GJ s (.ref (1,9) 0 s.timers.length))] [((1,9), .row 3 1 (cw s.timers))]) (bb (.sl (s.dk.view++s.vol).length (cw (s.dk.view++s.vol))) [((1,9), .row 3 1 (cw s.timers))] [(1,9)] [(1,9)]):=by
 have hc:=hs.c
 have hp:=hs.p
 have hv:=hs.v
 have hw:=rC s.dk ab ab ho
 have hl:s.dk.view.length=s.dk.cells.length:=fU _ _
 have hl2:s.dk.cells.length+s.vol.length=(s.dk.view++s.vol).length:=by rw [List.length_append,hl]
 refine Spec.ofNI Tryz.func47 rfl Tryz.ntmps47 rfl ?_
 refine am (ai (aQ (1,0) _ rfl rfl) (ai (bq _ fG) (aj (aq (pI 6 [3,4,5,6,7,8] [(5,0),(5,0),(8,0)] ae ae rfl (rfl:_=[_,_,_,_,_,_]) (rfl:_=[_]) ?_)))))
 refine cG (_,[]) (fun τ=> aA _ aa rfl rfl rfl) ?_
 refine cF (rfl:_=[_]) ?_
 refine cG (_,[]) (fun τ=> az _ aa rfl rfl rfl rfl) ?_
 refine cF (rfl:_=[_,_]) ?_
 refine cG (_,[((5,0),_)]) (fun τ=> (bR aa [((0,8),(5,0))] ar (hw.toI) trivial tr tr rfl rfl ae ae)) ?_
 refine cF (rfl:_=[_,_,_]) ?_
 refine cG (_,[]) (fun τ=> aA _ aa rfl rfl rfl) ?_
 refine cF (rfl:_=[_,_,_,_]) ?_
 refine cG (_,[]) (fun τ=> aF _ aa rfl rfl ef) ?_
 refine cF (rfl:_=[_,_,_,_,_]) ?_
 refine cG (_,[((5,0), .gone),((8,0), .gone)]) (fun τ=> zS (8,0) _ _ aa rfl rfl (by rw [aO,hl,Nat.mul_one]) (.sl (by rw [aO,Nat.mul_one])) ab rfl rfl rfl (sZ _ _) hl2) ?_
 refine cF (rfl:_=[_,_,_,_,_,_]) ?_
 refine nj ⟨⟨rfl,by kernel_rfl,by kernel_rfl⟩,?_⟩
 exact kD rfl (aj (aG (bH (.inr rfl) rfl (.tmp nD) (Le.outI [] [] .sl rfl rfl rfl trivial ob tr rfl))))
theorem yx (l:List Int) (h:l.length≤1000000) (h0:0 < l.length):Spec Tryz.prog 92 (ba [.sl l.length (cw l)] []) (aP (.sl l.length (cw l)) []):=by
 refine Spec.ofN Tryz.func92 rfl Tryz.ntmps92 rfl ?_
 refine am (ai (bq _ fG) (aj (aq (am (eV rfl (ai (sX _ _ Tryz.underlying22 (.inl ⟨_,rfl⟩) h0 rfl) ?_))))))
 refine aj (aW rfl rfl (aS (am (ai (qk _ aa rfl) (eV rfl (ai (sW _ _ aa rfl (.sl (by rw [aO,Nat.mul_one])) ab) ?_))))))
 exact kD rfl (aj (aG (qI rfl rfl)))
theorem zu:Spec Tryz.prog 92 (ba [.sl 0 (cw [])] []) (aP (.sl 0 (cw [])) []):=by
 refine Spec.ofN Tryz.func92 rfl Tryz.ntmps92 rfl ?_
 refine am (ai (bq _ fG) (aj (aq (am (eV rfl (AQ (sM _ _ Tryz.underlying22 rfl rfl) ?_))))))
 rintro _ ⟨b4,rfl⟩
 refine aj (aR rfl (fun hc4=> ?_) (fun hc4=> ?_))
 ·skip
  exact am (ai (bq _ fG) (aj (aG (bH (.inr rfl) rfl (.tmp kL) (Le.out [] [] .nil rfl rfl rfl trivial trivial)))))
 refine aS (am (ai (qk _ aa rfl) (eV rfl (ai (sW _ _ aa rfl (.sl rfl) ab) ?_))))
 exact kD rfl (aj (aG (qI rfl rfl)))
theorem nB (l:List Int) (h:l.length≤1000000):Spec Tryz.prog 92 (ba [.sl l.length (cw l)] []) (aP (.sl l.length (cw l)) []):=by
 by_cases h0:0 < l.length
 ·exact yx l h h0
 obtain rfl:l=[]:=List.eq_nil_of_length_eq_zero ab
 exact zu

abbrev On (s:Ns) (h:Nat) (ck:Int) (vol:List Int):Ns:={ s with clock:=ck,counts:=s.counts.set h (s.counts.getD h 0+1),vol:=vol }
abbrev cT (s:Ns) (h:Nat) (ck:Int) (P:Pg) (R:Ms) (k:Nat):Ns×Nr:=(R.acts.take k).foldl eg (On s h ck (R.vars.drop P.d),{})
abbrev Hf (R:Ms):Ot:=⟨R.vars,R.acts,(R.steps:Int), !R.fin,fC (kC R.cov)⟩
abbrev DN (nm:List Int):AV:= .agg [.v (.slice none 0 0), .v (.int .i64 (nm.getD 0 0)), .v (.int .i64 (nm.getD 1 0)), .v (.int .i64 (nm.getD 2 0)), .v (.int .i64 (nm.getD 3 0)), .v (.int .i64 (nm.getD 4 0)), .v (.int .i64 (nm.getD 5 0)), .v (.int .i64 (nm.getD 6 0)), .v (.int .i64 (nm.getD 7 0)), .v (.int .i64 (nm.getD 8 0))]
abbrev MI (c:Cz) (R:Ms) (q:Ns×Nr) (t:Tl) (n:Nat) (L:List PV):List (aC×Cells):=[((1,8), .row 3 1 (cw q.1.timers)),((2,8), .row 57 5 (ri R.acts)),((3,8), .row 117 9 (Cm c q.2.sent)),((6,8), .row 3 1 (cw q.2.fails))]++oh t n L (5,8)
set_option maxHeartbeats 4000000 in
theorem KZ (s:Ns) (hs:js s) (ho:iJ s.dk) (hc:s.counts.length=41) (P:Pg) (h:Nat) (hh:h < 40) (self nodes drift tk:Int) (nm:List Int) (t:Tl) (n0:Nat) (L0:List PV) (hdr:drift≤0) (hcb: ∀ k, -1000000≤s.counts.getD k 0∧s.counts.getD k 0≤1000000) (hck: -1000000≤s.clock∧s.clock≤1000000)
  (R:Ms) (Q:List PV) (hv:Spec Tryz.prog 59 (aY [hG P, .v (.int .i64 (h:Int)), .agg [.sl (s.dk.view++s.vol).length (cw (s.dk.view++s.vol)), .v (.int .i64 self), .v (.int .i64 nodes), .v (.int .i64 (s.clock+1)), .v (.int .i64 (nm.getD 3 0)), .v (.int .i64 (nm.getD 4 0)), .v (.int .i64 (nm.getD 5 0)), .v (.int .i64 (nm.getD 6 0)), .v (.int .i64 (nm.getD 7 0)), .v (.int .i64 (nm.getD 8 0))],vQ (6,9)] (Bi t n0 (L0) (5,9)))
   (bb (.agg [.sl R.vars.length (cw R.vars), .ref (2,8) 0 R.acts.length, .v (.int .i64 (R.steps:Int)), .v (.bool (!R.fin)), .sl (fC (kC R.cov)).length (cw (fC (kC R.cov)))]) (((2,8), .row 57 5 (ri R.acts))::Bi t (n0+R.asked.length) (L0++Q) (5,8)) [(2,8),(4,9),(5,8),(6,9)] [(4,9),(6,9)]))
  (hd:P.d≤R.vars.length) (hrv:R.vars.length≤1000) (hra:R.acts.length≤500)
  (hq: ∀ i,i < R.acts.length→nF ⟨self,(h:Int),s.counts.getD h 0⟩ (Hf R) (cT s h (s.clock+1) P R i).1 (cT s h (s.clock+1) P R i).2 (lm R.acts i) (cT s h (s.clock+1) P R (i+1)).1 (cT s h (s.clock+1) P R (i+1)).2):
  Spec Tryz.prog 81 (aY [jC s,hG P, .v (.int .i64 (h:Int)), .v (.int .i64 self), .v (.int .i64 nodes), .v (.int .i64 drift),DN nm,jb] (oh t n0 L0 (5,9)))
   (bb (.tup [.agg (GJ (cT s h (s.clock+1) P R R.acts.length).1 (.ref (1,8) 0 (cT s h (s.clock+1) P R R.acts.length).1.timers.length)), .agg (Ks ⟨self,(h:Int),s.counts.getD h 0⟩ (cT s h (s.clock+1) P R R.acts.length).2 (Hf R) (3,8) (6,8) (2,8))]) (MI ⟨self,(h:Int),s.counts.getD h 0⟩ R (cT s h (s.clock+1) P R R.acts.length) t (n0+R.asked.length) (L0++Q)) [(1,8),(2,8),(3,8),(4,9),(5,8),(6,8)] [(4,9)]):=by
 have hcb2:=hcb h
 have hcb2: -1000000≤cP s h∧cP s h≤1000000:=hcb2
 have hce:=sU s h ab (s.counts.getD h 0+1)
 have hal:=fw R.acts
 have hown:=ka s hs
 have hnv:=pm { s with clock:=s.clock+1 } ⟨hs.c,hs.p,hs.v,hs.t⟩ ho
 have hcl:=nB (R.vars.drop P.d) (by rw [List.length_drop];omega)
 have hds:((cw R.vars).drop (P.d*1)).take ((R.vars.length - P.d)*1)=cw (R.vars.drop P.d):=by
  rw [Nat.mul_one,Nat.mul_one,List.take_of_length_le (by rw [List.length_drop,aO];omega)]
  simp [cw,List.map_drop]
 have hdl:R.vars.length - P.d=(R.vars.drop P.d).length:=by rw [List.length_drop]
 refine Spec.ofNI Tryz.func81 rfl Tryz.ntmps81 rfl ?_
 refine am (ai (aQ (8,0) _ rfl rfl) (ai (aQ (9,0) _ rfl rfl) (ai (aQ (14,0) _ rfl rfl) (ai (aQ (15,0) _ rfl rfl) (ai (aB (16,0) aa rfl rfl) (ai (aB (17,0) aa rfl rfl) (aj (am (ai (az _ aa rfl rfl rfl rfl) (ai (bR aa [((1,8),(22,0))] ar (hown.toI) trivial tr tr rfl rfl ae ae) ?_))))))))))
 refine bG rfl rfl rfl rfl rfl rfl (aj (am (aX rfl (aX rfl (aX rfl (bc rfl rfl rfl (ai (cY _ _ aa rfl rfl rfl h rfl ab (show 8+h*1=8+h from by omega)) ?_)))))))
 refine ai (aF _ aa rfl rfl (nf _ _ _ _ _ _ _ _ _ _ h ab)) ?_
 refine ai (aN _ aa rfl (by exact (rfl:_=some [_,_,_]))) ?_
 refine ai (aN _ aa rfl (by exact (rfl:_=some [_,_,_,_,_,_,_,_,_,_,_,_]))) ?_
 refine ai (aB (18,0) aa rfl rfl) (bG rfl rfl rfl rfl rfl rfl (aj (aq ?_)))
 refine aL (σ':=aD 93 [(2,_),(3,_),(4,_),(5,_),(8,_),(9,_),(14,_),(15,_),(16,_),(17,_),(18,_)] [((4,9),_),((5,9),_),((8,0),_),((9,0),_),((14,0),_),((15,0),_),((16,0),_),((17,0),_),((22,0),_),((18,0),_)] [(4,9),(5,9)] [(4,9)]) kp ?_
 refine an (bc rfl rfl rfl (cd rfl rfl rfl (ai (aZ _ _ rfl rfl (bE ab)) ?_)))
 refine bc rfl rfl rfl (bG rfl rfl rfl rfl rfl rfl (aj (aq (am (aX rfl (ai (gy (r:=false) _ _ rfl rfl (decide_eq_false ab)) ?_))))))
 refine aj (aW rfl rfl (aS (aU fun K7 hK7=> ?_)))
 refine an (ai (az _ aa rfl rfl rfl rfl) (ai (bR aa [((1,9),(22,0))] ar (hnv) ob tr tr rfl rfl ae ae) ?_))
 refine bc rfl rfl rfl (bG rfl rfl rfl rfl rfl rfl (aJ (hK7 _ ?_)))
 clear hK7;try clear K7
 refine aq ?_
 refine aL (σ':=aD 93 [(2,_),(3,_),(4,_),(8,_),(9,_),(14,_),(15,_),(16,_),(17,_),(18,_)] [((4,9),_),((5,9),_),((8,0),_),((9,0),_),((14,0),_),((15,0),_),((16,0),_),((17,0),_),((22,0),_),((18,0),_)] [(4,9),(5,9)] [(4,9)]) kp ?_
 refine xo (14,0) (fun c=> ∃ xs,c=Slot.obj (.box 132 xs)) 11 [48,49,50,51,52,53,54,55,56] [(14,0),(14,0)] ae ae rfl (rfl:_=[_,_,_,_,_,_,_,_,_,_,_]) (rfl:_=[_,_]) (⟨_,rfl⟩) ?_
 refine ey (_,[]) (fun τ hτ=> aI _ eh) ?_
 refine ev (rfl:_=[_]) ?_
 refine ey (_,[]) (fun τ hτ=> aI _ eh) ?_
 refine ev (rfl:_=[_,_]) ?_
 refine ey (_,[]) (fun τ hτ=> aA _ aa rfl rfl rfl) ?_
 refine ev (rfl:_=[_,_,_]) ?_
 refine ey (_,[]) (fun τ hτ=> aF _ aa rfl rfl ee) ?_
 refine ev (rfl:_=[_,_,_,_]) ?_
 refine ey (_,[]) (fun τ hτ=> aA _ aa rfl (by exact hτ.choose_spec) rfl) ?_
 refine ev (rfl:_=[_,_,_,_,_]) ?_
 refine ey (_,[]) (fun τ hτ=> cY _ _ aa rfl (by exact hτ.choose_spec) rfl 0 rfl ab rfl) ?_
 refine ev (rfl:_=[_,_,_,_,_,_]) ?_
 refine ey (_,[((14,0),_)]) (fun τ hτ=> dG _ _ aa rfl rfl rfl rfl (Nat.le_of_ble_eq_true rfl) rfl) ?_
 refine ev (rfl:_=[_,_,_,_,_,_,_]) ?_
 refine ey (_,[]) (fun τ hτ=> aA _ aa rfl (by exact hτ.choose_spec) rfl) ?_
 refine ev (rfl:_=[_,_,_,_,_,_,_,_]) ?_
 refine ey (_,[]) (fun τ hτ=> cY _ _ aa rfl rfl rfl 1 rfl ab rfl) ?_
 refine ev (rfl:_=[_,_,_,_,_,_,_,_,_]) ?_
 refine ey (_,[((14,0),_)]) (fun τ hτ=> dG _ _ aa rfl rfl rfl rfl (Nat.le_of_ble_eq_true rfl) rfl) ?_
 refine ev (rfl:_=[_,_,_,_,_,_,_,_,_,_]) ?_
 refine ey (_,[]) (fun τ hτ=> aA _ aa rfl (by exact hτ.choose_spec) rfl) ?_
 refine ev (rfl:_=[_,_,_,_,_,_,_,_,_,_,_]) ?_
 refine tY ⟨⟨⟨rfl,by kernel_rfl,by kernel_rfl⟩,(by intro r hr c hc;simp only [List.mem_cons,List.not_mem_nil,or_false] at hr;rcases hr with rfl | rfl | rfl | rfl | rfl | rfl | rfl | rfl | rfl | rfl | rfl <;> simp at hc <;> (subst hc;exact ⟨_,rfl⟩))⟩,?_⟩
 refine ai (cY _ _ aa rfl rfl rfl 2 rfl ab rfl) ?_
 refine bG rfl rfl rfl rfl rfl rfl (aj (aU fun K9 hK9=> ?_))
 refine an (ai (az _ aa rfl rfl rfl rfl) (aX rfl (ai (az _ aa rfl rfl rfl rfl) (ai (iX _ _ (rfl:_=[]) (rfl:_=[AV.ptr _ _])) ?_))))
 refine cB (Le.trans (Le.incT (62,1) rfl) (Le.incT (62,0) rfl)) ?_
 refine ai (bh aa [((6,9),(15,0)),((2,8),(62,0)),((5,8),(62,1))] ar (hv) ob tr tr rfl ae ae) ?_
 refine bc rfl rfl rfl (bG rfl rfl rfl rfl rfl rfl (aJ (hK9 _ ?_)))
 clear hK9;try clear K9
 refine aq ?_
 refine aL (σ':=aD 93 [(2,_),(8,_),(9,_),(16,_),(17,_),(18,_)] [((8,0),_),((9,0),_),((16,0),_),((17,0),_),((22,0),_),((18,0),_),((62,0),_),((4,9),_),((62,1),_)] [(4,9),(62,0),(62,1)] [(4,9)]) kp ?_
 refine an (aX rfl (bc rfl rfl rfl (ai (cY _ _ aa rfl rfl rfl h rfl ab (show 8+h*1=8+h from by omega)) ?_)))
 refine ai (aF _ aa rfl rfl (nf _ _ _ _ _ _ _ _ _ _ h ab)) ?_
 refine ai (aZ _ _ rfl rfl (bE ab)) ?_
 refine bc rfl rfl rfl (ai (cY _ _ aa rfl rfl rfl h rfl ab (show 8+h*1=8+h from by omega)) ?_)
 refine ai (dG _ _ aa rfl rfl rfl rfl (by show (8+h)+1≤52;omega) ((tH s.up s.ver s.epoch (s.clock+1) _ _ _ _ (cP s) s.wait h ab _).trans (congrArg (fun e=> IC s.up s.ver s.epoch (s.clock+1) _ _ _ _ e s.wait) hce))) ?_
 refine aj (am (bc rfl rfl rfl (bc rfl rfl rfl (eW rfl rfl rfl (bc rfl rfl rfl (cd rfl rfl rfl (ai (kE _ _ _ aa rfl P.d R.vars.length (.lit rfl rfl) .dflt hd (Nat.le_refl _) hds hdl) ?_)))))))
 refine ai (aH aa al (hcl) rfl rfl) ?_
 refine bc rfl rfl rfl (bG rfl rfl rfl rfl rfl rfl (aj (aU fun K12 hK12=> ?_)))
 refine aq ?_
 refine aL (σ':=aD 93 [(8,_),(16,_),(17,_),(18,_)] [((8,0),_),((16,0),_),((17,0),_),((22,0),_),((18,0),_),((62,0),_),((4,9),_),((62,1),_)] [(4,9),(62,0),(62,1)] [(4,9)]) kp ?_
 refine an (bc rfl rfl rfl (bc rfl rfl rfl (ai (aF _ aa rfl rfl eQ) (ai (dh _ aa rfl rfl) (aX rfl (aj (ay ?_)))))))
 refine aL (Le.incA (22,0)) ?_
 refine aL (Le.incT (63,0) rfl) ?_
 refine aL (Le.incT (64,0) rfl) ?_
 refine aL (Le.nilB (18,0) 3 (63,0) 117 9 rfl rfl rfl) ?_
 refine aL (Le.nilB (18,0) 6 (64,0) 3 1 rfl rfl rfl) ?_
 refine br (α:=Nat) (fun k=> k≤R.acts.length) 93 [(8,_),(16,_),(17,_),(18,_),(81,_),(82,_)] [((16,0),_),((17,0),_),((62,0),_),((4,9),_)] (fun k=> [(83, .v (.int .i64 (k:Int)))]) (fun k=> [((8,0), .box 83 [.v (.bool (cT s h (s.clock+1) P R k).1.up), .v (.int .i64 ((cT s h (s.clock+1) P R k).1.ver)), .v (.int .i64 ((cT s h (s.clock+1) P R k).1.epoch)), .v (.int .i64 ((cT s h (s.clock+1) P R k).1.clock)), .sl (cT s h (s.clock+1) P R k).1.dk.cells.length (cw (cT s h (s.clock+1) P R k).1.dk.cells), .sl (cT s h (s.clock+1) P R k).1.dk.pend.length (lq (cT s h (s.clock+1) P R k).1.dk.pend), .sl (cT s h (s.clock+1) P R k).1.vol.length (cw (cT s h (s.clock+1) P R k).1.vol), .ref (22,0) 0 (cT s h (s.clock+1) P R k).1.timers.length, .v (.int .i64 (cP (cT s h (s.clock+1) P R k).1 0)), .v (.int .i64 (cP (cT s h (s.clock+1) P R k).1 1)), .v (.int .i64 (cP (cT s h (s.clock+1) P R k).1 2)), .v (.int .i64 (cP (cT s h (s.clock+1) P R k).1 3)), .v (.int .i64 (cP (cT s h (s.clock+1) P R k).1 4)), .v (.int .i64 (cP (cT s h (s.clock+1) P R k).1 5)), .v (.int .i64 (cP (cT s h (s.clock+1) P R k).1 6)), .v (.int .i64 (cP (cT s h (s.clock+1) P R k).1 7)), .v (.int .i64 (cP (cT s h (s.clock+1) P R k).1 8)), .v (.int .i64 (cP (cT s h (s.clock+1) P R k).1 9)), .v (.int .i64 (cP (cT s h (s.clock+1) P R k).1 10)), .v (.int .i64 (cP (cT s h (s.clock+1) P R k).1 11)), .v (.int .i64 (cP (cT s h (s.clock+1) P R k).1 12)), .v (.int .i64 (cP (cT s h (s.clock+1) P R k).1 13)), .v (.int .i64 (cP (cT s h (s.clock+1) P R k).1 14)), .v (.int .i64 (cP (cT s h (s.clock+1) P R k).1 15)), .v (.int .i64 (cP (cT s h (s.clock+1) P R k).1 16)), .v (.int .i64 (cP (cT s h (s.clock+1) P R k).1 17)), .v (.int .i64 (cP (cT s h (s.clock+1) P R k).1 18)), .v (.int .i64 (cP (cT s h (s.clock+1) P R k).1 19)), .v (.int .i64 (cP (cT s h (s.clock+1) P R k).1 20)), .v (.int .i64 (cP (cT s h (s.clock+1) P R k).1 21)), .v (.int .i64 (cP (cT s h (s.clock+1) P R k).1 22)), .v (.int .i64 (cP (cT s h (s.clock+1) P R k).1 23)), .v (.int .i64 (cP (cT s h (s.clock+1) P R k).1 24)), .v (.int .i64 (cP (cT s h (s.clock+1) P R k).1 25)), .v (.int .i64 (cP (cT s h (s.clock+1) P R k).1 26)), .v (.int .i64 (cP (cT s h (s.clock+1) P R k).1 27)), .v (.int .i64 (cP (cT s h (s.clock+1) P R k).1 28)), .v (.int .i64 (cP (cT s h (s.clock+1) P R k).1 29)), .v (.int .i64 (cP (cT s h (s.clock+1) P R k).1 30)), .v (.int .i64 (cP (cT s h (s.clock+1) P R k).1 31)), .v (.int .i64 (cP (cT s h (s.clock+1) P R k).1 32)), .v (.int .i64 (cP (cT s h (s.clock+1) P R k).1 33)), .v (.int .i64 (cP (cT s h (s.clock+1) P R k).1 34)), .v (.int .i64 (cP (cT s h (s.clock+1) P R k).1 35)), .v (.int .i64 (cP (cT s h (s.clock+1) P R k).1 36)), .v (.int .i64 (cP (cT s h (s.clock+1) P R k).1 37)), .v (.int .i64 (cP (cT s h (s.clock+1) P R k).1 38)), .v (.int .i64 (cP (cT s h (s.clock+1) P R k).1 39)), .v (.int .i64 (cP (cT s h (s.clock+1) P R k).1 40)), .v (.int .i64 ((cT s h (s.clock+1) P R k).1.wait)), .v (.int .i64 (0)), .v (.int .i64 (0))]),((22,0), .row 3 1 (cw (cT s h (s.clock+1) P R k).1.timers)),((18,0), .box 96 [.v (.int .i64 (self)), .v (.int .i64 (h:Int)), .v (.int .i64 (s.counts.getD h 0)), .ref (63,0) 0 (cT s h (s.clock+1) P R k).2.sent.length, .v (.bool (cT s h (s.clock+1) P R k).2.repl), .v (.int .i64 ((cT s h (s.clock+1) P R k).2.value)), .ref (64,0) 0 (cT s h (s.clock+1) P R k).2.fails.length, .sl R.vars.length (cw R.vars), .ref (62,0) 0 R.acts.length, .v (.int .i64 ((R.steps:Int))), .v (.bool (!R.fin)), .sl (fC (kC R.cov)).length (cw (fC (kC R.cov)))]),((63,0), .row 117 9 (Cm ⟨self,(h:Int),s.counts.getD h 0⟩ (cT s h (s.clock+1) P R k).2.sent)),((64,0), .row 3 1 (cw (cT s h (s.clock+1) P R k).2.fails)),((62,1), .row 111 7 (L0++Q))]) [(4,9),(62,0),(62,1),(22,0),(63,0),(64,0)] [(4,9)] (fun k=> R.acts.length - k) 0 ?_ (by
  refine Le.mkJ [] [] rfl ?_ ?_ trivial tr ?_
  ·exact ⟨(iP rfl),(iP rfl),(iP rfl),(iP rfl),(iR rfl),(iV rfl),(cp ag),trivial⟩
  ·exact ⟨(bM rfl rfl rfl),(bM rfl rfl rfl),(bM rfl rfl rfl),(bM rfl rfl rfl),(fq rfl rfl rfl rfl lz),(fi rfl rfl rfl ag),(fq rfl rfl rfl rfl lz),(fi rfl rfl rfl ag),(fi rfl rfl rfl ag),(fi rfl rfl rfl ag),trivial⟩
  kernel_rfl) ?_
 ·omega
 intro k hk
 refine am (ai (bm _ _ rfl rfl rfl) (aj (aU fun K15 hK15=> ?_)))
 refine aR rfl (fun hc84=> ?_) (fun hc84=> ?_)
 ·skip
  have ha:=hq k ab
  have hga:=uh R.acts k ab
  refine bs (hK15 _ ?_)
  clear hK15;try clear K15
  refine aq (ay (am (ai (gv _ _ aa rfl rfl rfl _ rfl ab (by exact Nat.zero_add _)) ?_)))
  refine ai (xy _ aa rfl rfl (by exact hga) rfl) ?_
  refine ai (aB (20,0) aa rfl rfl) (bG rfl rfl rfl rfl rfl rfl (aj (an (ai (az _ aa rfl rfl rfl rfl) (ai (az _ aa rfl rfl rfl rfl) (cB (Le.trans (Le.incT (89,2) rfl) (Le.trans (Le.incT (89,1) rfl) (Le.incT (89,0) rfl))) ?_))))))
  refine ai (bh aa [((1,9),(22,0)),((2,9),(18,0)),((3,9),(63,0)),((4,9),(64,0)),((5,9),(62,0)),((1,8),(89,0)),((3,8),(89,1)),((4,8),(89,2))] ar (ha) ob tr tr rfl ae ae) ?_
  refine bG rfl rfl rfl rfl rfl rfl (dY (an (ai (aZ _ _ rfl rfl (bE ab)) ?_)))
  refine aX rfl (aJ (⟨k+1,?_,?_,?_⟩))
  ·omega
  ·skip
   refine Le.mkJ [((22,0),(89,0)),((63,0),(89,1)),((64,0),(89,2))] [] rfl ?_ ?_ trivial tr ?_
   ·exact ⟨(dH (id:=(8,0)) rfl),(dH (id:=(16,0)) rfl),(dH (id:=(17,0)) rfl),(dH (id:=(18,0)) rfl),(cO (id:=(62,0)) rfl rfl),(by repeat' (exact Lv.v)),(cp ag),trivial⟩
   ·exact ⟨(fq rfl rfl rfl rfl (by repeat' (first | exact Lv.v | exact bf | refine au ?_ ?_))),(fq rfl rfl rfl rfl (by repeat' (first | exact Lv.v | exact bf | refine au ?_ ?_))),(fi rfl rfl rfl rfl),(fq rfl rfl rfl rfl (by repeat' (first | exact Lv.v | exact Lv.sl | exact cO (id:=(62,1)) rfl rfl | exact bf | refine au ?_ ?_))),(fq rfl rfl rfl rfl lz),(fi rfl rfl rfl ag),(fq rfl rfl rfl rfl lz),(fi rfl rfl rfl ag),(fi rfl rfl rfl ag),(fi rfl rfl rfl ag),trivial⟩
   kernel_rfl
  omega
 obtain rfl:k=R.acts.length:=by omega
 refine bB (id (hK12 _ ?_))
 clear hK12;try clear K12
 refine aq (ia 3 [91,92] [(16,0)] [[(16,0)],[],[]] ae ae rfl (aK rfl) (rfl:_=[_,_,_]) (rfl:_=[_]) ?_)
 refine ap (_,[]) (fun τ=> az _ aa rfl rfl rfl rfl) ?_
 refine fD rfl ?_
 refine ap (_,[]) (fun τ=> az _ aa rfl rfl rfl rfl) ?_
 refine fF rfl ?_
 refine ap (_,[((16,0),_)]) (fun τ=> dG _ _ aa rfl (eE rfl (by exact dM) rfl) rfl rfl (Nat.le_of_ble_eq_true rfl) rfl) ?_
 refine fE rfl (bj ⟨⟨rfl,by kernel_rfl⟩,?_⟩)
 exact bG rfl rfl rfl rfl rfl rfl (aj (aG (jT (.inr rfl) rfl (.cellA aa rfl rfl rfl) (.cellA aa rfl rfl rfl) (Le.outI [((1,8),(22,0)),((2,8),(62,0)),((3,8),(63,0)),((6,8),(64,0)),((5,8),(62,1))] [] (.tup rfl lz) rfl rfl rfl trivial ob tr rfl))))
set_option maxHeartbeats 4000000 in
theorem Ri (s:Ns) (hs:js s) (ho:iJ s.dk) (hc:s.counts.length=41) (P:Pg) (h:Nat) (hh:h < 40) (self nodes drift tk:Int) (nm:List Int) (t:Tl) (hdr:0 < drift) (hlk:rE t 2 0 (drift+1) tk) (htk:0≤tk∧tk≤1000000) (hdr2:drift≤1000000) (hcb: ∀ k, -1000000≤s.counts.getD k 0∧s.counts.getD k 0≤1000000) (hck: -1000000≤s.clock∧s.clock≤1000000)
  (R:Ms) (Q:List PV) (hv:Spec Tryz.prog 59 (aY [hG P, .v (.int .i64 (h:Int)), .agg [.sl (s.dk.view++s.vol).length (cw (s.dk.view++s.vol)), .v (.int .i64 self), .v (.int .i64 nodes), .v (.int .i64 (s.clock+1+tk)), .v (.int .i64 (nm.getD 3 0)), .v (.int .i64 (nm.getD 4 0)), .v (.int .i64 (nm.getD 5 0)), .v (.int .i64 (nm.getD 6 0)), .v (.int .i64 (nm.getD 7 0)), .v (.int .i64 (nm.getD 8 0))],vQ (6,9)] (Bi t 1 (vI t 2 0 (drift+1) tk) (5,9)))
   (bb (.agg [.sl R.vars.length (cw R.vars), .ref (2,8) 0 R.acts.length, .v (.int .i64 (R.steps:Int)), .v (.bool (!R.fin)), .sl (fC (kC R.cov)).length (cw (fC (kC R.cov)))]) (((2,8), .row 57 5 (ri R.acts))::Bi t (1+R.asked.length) (vI t 2 0 (drift+1) tk++Q) (5,8)) [(2,8),(4,9),(5,8),(6,9)] [(4,9),(6,9)]))
  (hd:P.d≤R.vars.length) (hrv:R.vars.length≤1000) (hra:R.acts.length≤500)
  (hq: ∀ i,i < R.acts.length→nF ⟨self,(h:Int),s.counts.getD h 0⟩ (Hf R) (cT s h (s.clock+1+tk) P R i).1 (cT s h (s.clock+1+tk) P R i).2 (lm R.acts i) (cT s h (s.clock+1+tk) P R (i+1)).1 (cT s h (s.clock+1+tk) P R (i+1)).2):
  Spec Tryz.prog 81 (aY [jC s,hG P, .v (.int .i64 (h:Int)), .v (.int .i64 self), .v (.int .i64 nodes), .v (.int .i64 drift),DN nm,jb] (oh t 0 [] (5,9)))
   (bb (.tup [.agg (GJ (cT s h (s.clock+1+tk) P R R.acts.length).1 (.ref (1,8) 0 (cT s h (s.clock+1+tk) P R R.acts.length).1.timers.length)), .agg (Ks ⟨self,(h:Int),s.counts.getD h 0⟩ (cT s h (s.clock+1+tk) P R R.acts.length).2 (Hf R) (3,8) (6,8) (2,8))]) (MI ⟨self,(h:Int),s.counts.getD h 0⟩ R (cT s h (s.clock+1+tk) P R R.acts.length) t (1+R.asked.length) (vI t 2 0 (drift+1) tk++Q)) [(1,8),(2,8),(3,8),(4,9),(5,8),(6,8)] [(4,9)]):=by
 have hcb2:=hcb h
 have hcb2: -1000000≤cP s h∧cP s h≤1000000:=hcb2
 have hce:=sU s h ab (s.counts.getD h 0+1)
 have hal:=fw R.acts
 have hown:=ka s hs
 have htl:=oX t 2 0 (drift+1) tk 0 [] rfl ab ab hlk
 have hnv:=pm { s with clock:=s.clock+1+tk } ⟨hs.c,hs.p,hs.v,hs.t⟩ ho
 have hcl:=nB (R.vars.drop P.d) (by rw [List.length_drop];omega)
 have hds:((cw R.vars).drop (P.d*1)).take ((R.vars.length - P.d)*1)=cw (R.vars.drop P.d):=by
  rw [Nat.mul_one,Nat.mul_one,List.take_of_length_le (by rw [List.length_drop,aO];omega)]
  simp [cw,List.map_drop]
 have hdl:R.vars.length - P.d=(R.vars.drop P.d).length:=by rw [List.length_drop]
 refine Spec.ofNI Tryz.func81 rfl Tryz.ntmps81 rfl ?_
 refine am (ai (aQ (8,0) _ rfl rfl) (ai (aQ (9,0) _ rfl rfl) (ai (aQ (14,0) _ rfl rfl) (ai (aQ (15,0) _ rfl rfl) (ai (aB (16,0) aa rfl rfl) (ai (aB (17,0) aa rfl rfl) (aj (am (ai (az _ aa rfl rfl rfl rfl) (ai (bR aa [((1,8),(22,0))] ar (hown.toI) trivial tr tr rfl rfl ae ae) ?_))))))))))
 refine bG rfl rfl rfl rfl rfl rfl (aj (am (aX rfl (aX rfl (aX rfl (bc rfl rfl rfl (ai (cY _ _ aa rfl rfl rfl h rfl ab (show 8+h*1=8+h from by omega)) ?_)))))))
 refine ai (aF _ aa rfl rfl (nf _ _ _ _ _ _ _ _ _ _ h ab)) ?_
 refine ai (aN _ aa rfl (by exact (rfl:_=some [_,_,_]))) ?_
 refine ai (aN _ aa rfl (by exact (rfl:_=some [_,_,_,_,_,_,_,_,_,_,_,_]))) ?_
 refine ai (aB (18,0) aa rfl rfl) (bG rfl rfl rfl rfl rfl rfl (aj (aq ?_)))
 refine aL (σ':=aD 93 [(2,_),(3,_),(4,_),(5,_),(8,_),(9,_),(14,_),(15,_),(16,_),(17,_),(18,_)] [((4,9),_),((5,9),_),((8,0),_),((9,0),_),((14,0),_),((15,0),_),((16,0),_),((17,0),_),((22,0),_),((18,0),_)] [(4,9),(5,9)] [(4,9)]) kp ?_
 refine an (bc rfl rfl rfl (cd rfl rfl rfl (ai (aZ _ _ rfl rfl (bE ab)) ?_)))
 refine bc rfl rfl rfl (bG rfl rfl rfl rfl rfl rfl (aj (aU fun K5 hK5=> ?_)))
 refine am (aX rfl (ai (gy (r:=true) _ _ rfl rfl (decide_eq_true ab)) ?_))
 refine aj (bL rfl rfl ?_)
 refine aL (Le.incT (42,0) rfl) ?_
 refine bJ 7 [37,38,39,40,41,42,43] [(4,9),(42,0),(5,9)] ae ae rfl (aK rfl) (rfl:_=[_,_,_,_,_,_,_]) (rfl:_=[_,_]) ?_
 refine ap (_,[]) (fun τ=> aA _ aa rfl rfl rfl) ?_
 refine fD rfl ?_
 refine ap (_,[]) (fun τ=> aF _ aa rfl rfl ee) ?_
 refine fF rfl ?_
 refine ap (_,[]) (fun τ=> aF _ aa rfl rfl (rfl:_=some (AV.fn _ _ _))) ?_
 refine fE rfl ?_
 refine ap (_,[]) (fun τ=> aI _ eh) ?_
 refine fS rfl ?_
 refine ap (_,[]) (fun τ=> aZ _ _ rfl rfl (bE ab)) ?_
 refine gf rfl ?_
 refine ap (_,[((4,9),_),((42,0),_),((5,9), .gone)]) (fun τ=> (jy rfl aa [((5,8),(42,0))] ar (htl) ob tr tr rfl ae ae)) ?_
 refine gS rfl ?_
 refine ap (_,[]) (fun τ=> aZ _ _ rfl rfl (bE ab)) ?_
 refine ir rfl (bj ⟨rfl,?_⟩)
 refine bc rfl rfl rfl (bG rfl rfl rfl rfl rfl rfl (aJ (hK5 _ ?_)))
 clear hK5;try clear K5
 refine aU fun K7 hK7=> ?_
 refine aL (σ':=aD 93 [(2,_),(3,_),(4,_),(8,_),(9,_),(14,_),(15,_),(16,_),(17,_),(18,_)] [((4,9),_),((8,0),_),((9,0),_),((14,0),_),((15,0),_),((16,0),_),((17,0),_),((22,0),_),((18,0),_),((42,0),_)] [(4,9),(42,0)] [(4,9)]) kp ?_
 refine an (ai (az _ aa rfl rfl rfl rfl) (ai (bR aa [((1,9),(22,0))] ar (hnv) ob tr tr rfl rfl ae ae) ?_))
 refine bc rfl rfl rfl (bG rfl rfl rfl rfl rfl rfl (aJ (hK7 _ ?_)))
 clear hK7;try clear K7
 refine aq ?_
 refine aL (σ':=aD 93 [(2,_),(3,_),(4,_),(8,_),(9,_),(14,_),(15,_),(16,_),(17,_),(18,_)] [((4,9),_),((8,0),_),((9,0),_),((14,0),_),((15,0),_),((16,0),_),((17,0),_),((22,0),_),((18,0),_),((42,0),_)] [(4,9),(42,0)] [(4,9)]) kp ?_
 refine xo (14,0) (fun c=> ∃ xs,c=Slot.obj (.box 132 xs)) 11 [48,49,50,51,52,53,54,55,56] [(14,0),(14,0)] ae ae rfl (rfl:_=[_,_,_,_,_,_,_,_,_,_,_]) (rfl:_=[_,_]) (⟨_,rfl⟩) ?_
 refine ey (_,[]) (fun τ hτ=> aI _ eh) ?_
 refine ev (rfl:_=[_]) ?_
 refine ey (_,[]) (fun τ hτ=> aI _ eh) ?_
 refine ev (rfl:_=[_,_]) ?_
 refine ey (_,[]) (fun τ hτ=> aA _ aa rfl rfl rfl) ?_
 refine ev (rfl:_=[_,_,_]) ?_
 refine ey (_,[]) (fun τ hτ=> aF _ aa rfl rfl ee) ?_
 refine ev (rfl:_=[_,_,_,_]) ?_
 refine ey (_,[]) (fun τ hτ=> aA _ aa rfl (by exact hτ.choose_spec) rfl) ?_
 refine ev (rfl:_=[_,_,_,_,_]) ?_
 refine ey (_,[]) (fun τ hτ=> cY _ _ aa rfl (by exact hτ.choose_spec) rfl 0 rfl ab rfl) ?_
 refine ev (rfl:_=[_,_,_,_,_,_]) ?_
 refine ey (_,[((14,0),_)]) (fun τ hτ=> dG _ _ aa rfl rfl rfl rfl (Nat.le_of_ble_eq_true rfl) rfl) ?_
 refine ev (rfl:_=[_,_,_,_,_,_,_]) ?_
 refine ey (_,[]) (fun τ hτ=> aA _ aa rfl (by exact hτ.choose_spec) rfl) ?_
 refine ev (rfl:_=[_,_,_,_,_,_,_,_]) ?_
 refine ey (_,[]) (fun τ hτ=> cY _ _ aa rfl rfl rfl 1 rfl ab rfl) ?_
 refine ev (rfl:_=[_,_,_,_,_,_,_,_,_]) ?_
 refine ey (_,[((14,0),_)]) (fun τ hτ=> dG _ _ aa rfl rfl rfl rfl (Nat.le_of_ble_eq_true rfl) rfl) ?_
 refine ev (rfl:_=[_,_,_,_,_,_,_,_,_,_]) ?_
 refine ey (_,[]) (fun τ hτ=> aA _ aa rfl (by exact hτ.choose_spec) rfl) ?_
 refine ev (rfl:_=[_,_,_,_,_,_,_,_,_,_,_]) ?_
 refine tY ⟨⟨⟨rfl,by kernel_rfl,by kernel_rfl⟩,(by intro r hr c hc;simp only [List.mem_cons,List.not_mem_nil,or_false] at hr;rcases hr with rfl | rfl | rfl | rfl | rfl | rfl | rfl | rfl | rfl | rfl | rfl <;> simp at hc <;> (subst hc;exact ⟨_,rfl⟩))⟩,?_⟩
 refine ai (cY _ _ aa rfl rfl rfl 2 rfl ab rfl) ?_
 refine bG rfl rfl rfl rfl rfl rfl (aj (aU fun K9 hK9=> ?_))
 refine an (ai (az _ aa rfl rfl rfl rfl) (aX rfl (ai (az _ aa rfl rfl rfl rfl) (ai (iX _ _ (rfl:_=[]) (rfl:_=[AV.ptr _ _])) ?_))))
 refine cB (Le.trans (Le.incT (62,1) rfl) (Le.incT (62,0) rfl)) ?_
 refine ai (bh aa [((5,9),(42,0)),((6,9),(15,0)),((2,8),(62,0)),((5,8),(62,1))] ar (hv) ob tr tr rfl ae ae) ?_
 refine bc rfl rfl rfl (bG rfl rfl rfl rfl rfl rfl (aJ (hK9 _ ?_)))
 clear hK9;try clear K9
 refine aq ?_
 refine aL (σ':=aD 93 [(2,_),(8,_),(9,_),(16,_),(17,_),(18,_)] [((8,0),_),((9,0),_),((16,0),_),((17,0),_),((22,0),_),((18,0),_),((62,0),_),((4,9),_),((62,1),_)] [(4,9),(62,0),(62,1)] [(4,9)]) kp ?_
 refine an (aX rfl (bc rfl rfl rfl (ai (cY _ _ aa rfl rfl rfl h rfl ab (show 8+h*1=8+h from by omega)) ?_)))
 refine ai (aF _ aa rfl rfl (nf _ _ _ _ _ _ _ _ _ _ h ab)) ?_
 refine ai (aZ _ _ rfl rfl (bE ab)) ?_
 refine bc rfl rfl rfl (ai (cY _ _ aa rfl rfl rfl h rfl ab (show 8+h*1=8+h from by omega)) ?_)
 refine ai (dG _ _ aa rfl rfl rfl rfl (by show (8+h)+1≤52;omega) ((tH s.up s.ver s.epoch (s.clock+1+tk) _ _ _ _ (cP s) s.wait h ab _).trans (congrArg (fun e=> IC s.up s.ver s.epoch (s.clock+1+tk) _ _ _ _ e s.wait) hce))) ?_
 refine aj (am (bc rfl rfl rfl (bc rfl rfl rfl (eW rfl rfl rfl (bc rfl rfl rfl (cd rfl rfl rfl (ai (kE _ _ _ aa rfl P.d R.vars.length (.lit rfl rfl) .dflt hd (Nat.le_refl _) hds hdl) ?_)))))))
 refine ai (aH aa al (hcl) rfl rfl) ?_
 refine bc rfl rfl rfl (bG rfl rfl rfl rfl rfl rfl (aj (aU fun K12 hK12=> ?_)))
 refine aq ?_
 refine aL (σ':=aD 93 [(8,_),(16,_),(17,_),(18,_)] [((8,0),_),((16,0),_),((17,0),_),((22,0),_),((18,0),_),((62,0),_),((4,9),_),((62,1),_)] [(4,9),(62,0),(62,1)] [(4,9)]) kp ?_
 refine an (bc rfl rfl rfl (bc rfl rfl rfl (ai (aF _ aa rfl rfl eQ) (ai (dh _ aa rfl rfl) (aX rfl (aj (ay ?_)))))))
 refine aL (Le.incA (22,0)) ?_
 refine aL (Le.incT (63,0) rfl) ?_
 refine aL (Le.incT (64,0) rfl) ?_
 refine aL (Le.nilB (18,0) 3 (63,0) 117 9 rfl rfl rfl) ?_
 refine aL (Le.nilB (18,0) 6 (64,0) 3 1 rfl rfl rfl) ?_
 refine br (α:=Nat) (fun k=> k≤R.acts.length) 93 [(8,_),(16,_),(17,_),(18,_),(81,_),(82,_)] [((16,0),_),((17,0),_),((62,0),_),((4,9),_)] (fun k=> [(83, .v (.int .i64 (k:Int)))]) (fun k=> [((8,0), .box 83 [.v (.bool (cT s h (s.clock+1+tk) P R k).1.up), .v (.int .i64 ((cT s h (s.clock+1+tk) P R k).1.ver)), .v (.int .i64 ((cT s h (s.clock+1+tk) P R k).1.epoch)), .v (.int .i64 ((cT s h (s.clock+1+tk) P R k).1.clock)), .sl (cT s h (s.clock+1+tk) P R k).1.dk.cells.length (cw (cT s h (s.clock+1+tk) P R k).1.dk.cells), .sl (cT s h (s.clock+1+tk) P R k).1.dk.pend.length (lq (cT s h (s.clock+1+tk) P R k).1.dk.pend), .sl (cT s h (s.clock+1+tk) P R k).1.vol.length (cw (cT s h (s.clock+1+tk) P R k).1.vol), .ref (22,0) 0 (cT s h (s.clock+1+tk) P R k).1.timers.length, .v (.int .i64 (cP (cT s h (s.clock+1+tk) P R k).1 0)), .v (.int .i64 (cP (cT s h (s.clock+1+tk) P R k).1 1)), .v (.int .i64 (cP (cT s h (s.clock+1+tk) P R k).1 2)), .v (.int .i64 (cP (cT s h (s.clock+1+tk) P R k).1 3)), .v (.int .i64 (cP (cT s h (s.clock+1+tk) P R k).1 4)), .v (.int .i64 (cP (cT s h (s.clock+1+tk) P R k).1 5)), .v (.int .i64 (cP (cT s h (s.clock+1+tk) P R k).1 6)), .v (.int .i64 (cP (cT s h (s.clock+1+tk) P R k).1 7)), .v (.int .i64 (cP (cT s h (s.clock+1+tk) P R k).1 8)), .v (.int .i64 (cP (cT s h (s.clock+1+tk) P R k).1 9)), .v (.int .i64 (cP (cT s h (s.clock+1+tk) P R k).1 10)), .v (.int .i64 (cP (cT s h (s.clock+1+tk) P R k).1 11)), .v (.int .i64 (cP (cT s h (s.clock+1+tk) P R k).1 12)), .v (.int .i64 (cP (cT s h (s.clock+1+tk) P R k).1 13)), .v (.int .i64 (cP (cT s h (s.clock+1+tk) P R k).1 14)), .v (.int .i64 (cP (cT s h (s.clock+1+tk) P R k).1 15)), .v (.int .i64 (cP (cT s h (s.clock+1+tk) P R k).1 16)), .v (.int .i64 (cP (cT s h (s.clock+1+tk) P R k).1 17)), .v (.int .i64 (cP (cT s h (s.clock+1+tk) P R k).1 18)), .v (.int .i64 (cP (cT s h (s.clock+1+tk) P R k).1 19)), .v (.int .i64 (cP (cT s h (s.clock+1+tk) P R k).1 20)), .v (.int .i64 (cP (cT s h (s.clock+1+tk) P R k).1 21)), .v (.int .i64 (cP (cT s h (s.clock+1+tk) P R k).1 22)), .v (.int .i64 (cP (cT s h (s.clock+1+tk) P R k).1 23)), .v (.int .i64 (cP (cT s h (s.clock+1+tk) P R k).1 24)), .v (.int .i64 (cP (cT s h (s.clock+1+tk) P R k).1 25)), .v (.int .i64 (cP (cT s h (s.clock+1+tk) P R k).1 26)), .v (.int .i64 (cP (cT s h (s.clock+1+tk) P R k).1 27)), .v (.int .i64 (cP (cT s h (s.clock+1+tk) P R k).1 28)), .v (.int .i64 (cP (cT s h (s.clock+1+tk) P R k).1 29)), .v (.int .i64 (cP (cT s h (s.clock+1+tk) P R k).1 30)), .v (.int .i64 (cP (cT s h (s.clock+1+tk) P R k).1 31)), .v (.int .i64 (cP (cT s h (s.clock+1+tk) P R k).1 32)), .v (.int .i64 (cP (cT s h (s.clock+1+tk) P R k).1 33)), .v (.int .i64 (cP (cT s h (s.clock+1+tk) P R k).1 34)), .v (.int .i64 (cP (cT s h (s.clock+1+tk) P R k).1 35)), .v (.int .i64 (cP (cT s h (s.clock+1+tk) P R k).1 36)), .v (.int .i64 (cP (cT s h (s.clock+1+tk) P R k).1 37)), .v (.int .i64 (cP (cT s h (s.clock+1+tk) P R k).1 38)), .v (.int .i64 (cP (cT s h (s.clock+1+tk) P R k).1 39)), .v (.int .i64 (cP (cT s h (s.clock+1+tk) P R k).1 40)), .v (.int .i64 ((cT s h (s.clock+1+tk) P R k).1.wait)), .v (.int .i64 (0)), .v (.int .i64 (0))]),((22,0), .row 3 1 (cw (cT s h (s.clock+1+tk) P R k).1.timers)),((18,0), .box 96 [.v (.int .i64 (self)), .v (.int .i64 (h:Int)), .v (.int .i64 (s.counts.getD h 0)), .ref (63,0) 0 (cT s h (s.clock+1+tk) P R k).2.sent.length, .v (.bool (cT s h (s.clock+1+tk) P R k).2.repl), .v (.int .i64 ((cT s h (s.clock+1+tk) P R k).2.value)), .ref (64,0) 0 (cT s h (s.clock+1+tk) P R k).2.fails.length, .sl R.vars.length (cw R.vars), .ref (62,0) 0 R.acts.length, .v (.int .i64 ((R.steps:Int))), .v (.bool (!R.fin)), .sl (fC (kC R.cov)).length (cw (fC (kC R.cov)))]),((63,0), .row 117 9 (Cm ⟨self,(h:Int),s.counts.getD h 0⟩ (cT s h (s.clock+1+tk) P R k).2.sent)),((64,0), .row 3 1 (cw (cT s h (s.clock+1+tk) P R k).2.fails)),((62,1), .row 111 7 (vI t 2 0 (drift+1) tk++Q))]) [(4,9),(62,0),(62,1),(22,0),(63,0),(64,0)] [(4,9)] (fun k=> R.acts.length - k) 0 ?_ (by
  refine Le.mkJ [] [] rfl ?_ ?_ trivial tr ?_
  ·exact ⟨(iP rfl),(iP rfl),(iP rfl),(iP rfl),(iR rfl),(iV rfl),(cp ag),trivial⟩
  ·exact ⟨(bM rfl rfl rfl),(bM rfl rfl rfl),(bM rfl rfl rfl),(bM rfl rfl rfl),(fq rfl rfl rfl rfl lz),(fi rfl rfl rfl ag),(fq rfl rfl rfl rfl lz),(fi rfl rfl rfl ag),(fi rfl rfl rfl ag),(fi rfl rfl rfl ag),trivial⟩
  kernel_rfl) ?_
 ·omega
 intro k hk
 refine am (ai (bm _ _ rfl rfl rfl) (aj (aU fun K15 hK15=> ?_)))
 refine aR rfl (fun hc84=> ?_) (fun hc84=> ?_)
 ·skip
  have ha:=hq k ab
  have hga:=uh R.acts k ab
  refine bs (hK15 _ ?_)
  clear hK15;try clear K15
  refine aq (ay (am (ai (gv _ _ aa rfl rfl rfl _ rfl ab (by exact Nat.zero_add _)) ?_)))
  refine ai (xy _ aa rfl rfl (by exact hga) rfl) ?_
  refine ai (aB (20,0) aa rfl rfl) (bG rfl rfl rfl rfl rfl rfl (aj (an (ai (az _ aa rfl rfl rfl rfl) (ai (az _ aa rfl rfl rfl rfl) (cB (Le.trans (Le.incT (89,2) rfl) (Le.trans (Le.incT (89,1) rfl) (Le.incT (89,0) rfl))) ?_))))))
  refine ai (bh aa [((1,9),(22,0)),((2,9),(18,0)),((3,9),(63,0)),((4,9),(64,0)),((5,9),(62,0)),((1,8),(89,0)),((3,8),(89,1)),((4,8),(89,2))] ar (ha) ob tr tr rfl ae ae) ?_
  refine bG rfl rfl rfl rfl rfl rfl (dY (an (ai (aZ _ _ rfl rfl (bE ab)) ?_)))
  refine aX rfl (aJ (⟨k+1,?_,?_,?_⟩))
  ·omega
  ·skip
   refine Le.mkJ [((22,0),(89,0)),((63,0),(89,1)),((64,0),(89,2))] [] rfl ?_ ?_ trivial tr ?_
   ·exact ⟨(dH (id:=(8,0)) rfl),(dH (id:=(16,0)) rfl),(dH (id:=(17,0)) rfl),(dH (id:=(18,0)) rfl),(cO (id:=(62,0)) rfl rfl),(by repeat' (exact Lv.v)),(cp ag),trivial⟩
   ·exact ⟨(fq rfl rfl rfl rfl (by repeat' (first | exact Lv.v | exact bf | refine au ?_ ?_))),(fq rfl rfl rfl rfl (by repeat' (first | exact Lv.v | exact bf | refine au ?_ ?_))),(fi rfl rfl rfl rfl),(fq rfl rfl rfl rfl (by repeat' (first | exact Lv.v | exact Lv.sl | exact cO (id:=(62,1)) rfl rfl | exact bf | refine au ?_ ?_))),(fq rfl rfl rfl rfl lz),(fi rfl rfl rfl ag),(fq rfl rfl rfl rfl lz),(fi rfl rfl rfl ag),(fi rfl rfl rfl ag),(fi rfl rfl rfl ag),trivial⟩
   kernel_rfl
  omega
 obtain rfl:k=R.acts.length:=by omega
 refine bB (id (hK12 _ ?_))
 clear hK12;try clear K12
 refine aq (ia 3 [91,92] [(16,0)] [[(16,0)],[],[]] ae ae rfl (aK rfl) (rfl:_=[_,_,_]) (rfl:_=[_]) ?_)
 refine ap (_,[]) (fun τ=> az _ aa rfl rfl rfl rfl) ?_
 refine fD rfl ?_
 refine ap (_,[]) (fun τ=> az _ aa rfl rfl rfl rfl) ?_
 refine fF rfl ?_
 refine ap (_,[((16,0),_)]) (fun τ=> dG _ _ aa rfl (eE rfl (by exact dM) rfl) rfl rfl (Nat.le_of_ble_eq_true rfl) rfl) ?_
 refine fE rfl (bj ⟨⟨rfl,by kernel_rfl⟩,?_⟩)
 exact bG rfl rfl rfl rfl rfl rfl (aj (aG (jT (.inr rfl) rfl (.cellA aa rfl rfl rfl) (.cellA aa rfl rfl rfl) (Le.outI [((1,8),(22,0)),((2,8),(62,0)),((3,8),(63,0)),((6,8),(64,0)),((5,8),(62,1))] [] (.tup rfl lz) rfl rfl rfl trivial ob tr rfl))))

abbrev iB (c:Cz) (R:Ms) (q:Ns×Nr) (t:Tl) (n:Nat) (L:List PV):St:=bb (.tup [.agg (GJ q.1 (.ref (1,8) 0 q.1.timers.length)), .agg (Ks c q.2 (Hf R) (3,8) (6,8) (2,8))]) (MI c R q t n L) [(1,8),(2,8),(3,8),(4,9),(5,8),(6,8)] [(4,9)]
set_option maxHeartbeats 4000000 in
theorem Ru (s:Ns) (hs:js s) (ho:iJ s.dk) (P:Pg) (ver self nodes drift:Int) (t:Tl) (n0:Nat) (L0:List PV) (hd:s.dk.cells.length=P.d) (hpd:P.d≤1000) (hpv:P.v≤1000)
  (c:Cz) (R:Ms) (q:Ns×Nr) (n:Nat) (L:List PV) (hH:Spec Tryz.prog 81 (aY [jC (cA s P ver),hG P, .v (.int .i64 ((0:Nat):Int)), .v (.int .i64 self), .v (.int .i64 nodes), .v (.int .i64 drift),DN (List.replicate 9 0),jb] (oh t n0 L0 (5,9))) (iB c R q t n L)):
  Spec Tryz.prog 56 (aY [jC s,hG P, .v (.int .i64 ver), .v (.int .i64 self), .v (.int .i64 nodes), .v (.int .i64 drift),jb] (oh t n0 L0 (5,9))) (iB c R q t n L):=by
 have hown:=ka s hs
 have hcc:=hs.c
 have hpp:=hs.p
 have hb:cA s P ver={ s with ver:=ver,vol:=List.replicate P.v 0,timers:=[],wait:= -1,up:=true }:=by unfold cA;rw [if_pos hd]
 rw [hb] at hH
 refine Spec.ofNI Tryz.func56 rfl Tryz.ntmps56 rfl ?_
 refine am (ai (aQ (7,0) _ rfl rfl) (ai (aQ (8,0) _ rfl rfl) (ai (aB (14,0) aa rfl rfl) (ai (aB (15,0) aa rfl rfl) (aj (am (ai (az _ aa rfl rfl rfl rfl) (ai (bR aa [((1,8),(17,0))] ar (hown.toI) trivial tr tr rfl rfl ae ae) ?_))))))))
 refine bG rfl rfl rfl rfl rfl rfl (aj (am (aX rfl (bc rfl rfl rfl (bG rfl rfl rfl rfl rfl rfl (aj (aq (am (bc rfl rfl rfl (bc rfl rfl rfl ?_))))))))))
 refine eW rfl rfl rfl (ai (bn _ aa rfl) (bc rfl rfl rfl (cd rfl rfl rfl (ai (bU (r:=false) _ _ rfl rfl (by rw [hd];exact bne_self_eq_false _)) ?_))))
 refine aj (aW rfl rfl (aS (aq ?_)))
 refine aL (σ':=aD 50 [(3,_),(4,_),(5,_),(6,_),(7,_),(8,_),(14,_),(15,_)] [((4,9),_),((5,9),_),((7,0),_),((8,0),_),((14,0),_),((15,0),_),((17,0),_)] [(4,9),(5,9)] [(4,9)]) kp ?_
 refine an (bc rfl rfl rfl (cd rfl rfl rfl (ai (pZ (35,0) _ _ aa rfl rfl (List.replicate P.v (0:Int)).length (by rw [List.length_replicate]) (by rw [List.length_replicate]) (by rw [List.length_replicate];omega) rfl (show _=cw (List.replicate P.v 0) by rw [List.length_replicate];exact ox P.v)) ?_)))
 refine bc rfl rfl rfl (bG rfl rfl rfl rfl rfl rfl (bc rfl rfl rfl (bG rfl rfl rfl rfl rfl rfl (bc rfl rfl rfl (bG rfl rfl rfl rfl rfl rfl (bc rfl rfl rfl (bG rfl rfl rfl rfl rfl rfl (aj (aU fun K7 hK7=> ?_)))))))))
 refine aL (Le.frzB (ys:=cw (List.replicate P.v 0)) (7,0) 6 rfl rfl rfl rfl (by rw [List.drop_zero,Nat.mul_one,List.take_of_length_le (by rw [aO];exact Nat.le_refl _)]) (by rw [aO,Nat.mul_one,Nat.zero_add];exact Nat.le_refl _)) ?_
 refine an (ai (az _ aa rfl rfl rfl rfl) (ai (az _ aa rfl rfl rfl rfl) (aX rfl (aX rfl (aX rfl (ai (aN _ aa rfl (by exact Ce)) ?_))))))
 refine ai (aI _ lT) (cB (Le.trans (Le.incT (47,4) rfl) (Le.trans (Le.incT (47,3) rfl) (Le.trans (Le.incT (47,2) rfl) (Le.trans (Le.incT (47,1) rfl) (Le.incT (47,0) rfl))))) ?_)
 refine ai (bh aa [((1,8),(47,0)),((2,8),(47,1)),((3,8),(47,2)),((6,8),(47,3)),((5,8),(47,4))] ar (hH) ob tr tr rfl ae ae) ?_
 refine ai (cm _ rfl oZ) (ai (cm _ rfl oZ) (bG rfl rfl rfl rfl rfl rfl (bG rfl rfl rfl rfl rfl rfl (aJ (hK7 _ ?_)))))
 clear hK7;try clear K7
 exact aG (jT (.inr rfl) rfl (.cellA aa rfl rfl rfl) (.cellA aa rfl rfl rfl) (Le.outI [((1,8),(47,0)),((2,8),(47,1)),((3,8),(47,2)),((6,8),(47,3)),((5,8),(47,4))] [] (.tup rfl lz) rfl rfl rfl trivial ob tr rfl))
set_option maxHeartbeats 4000000 in
theorem Pv (s:Ns) (hs:js s) (ho:iJ s.dk) (P:Pg) (ver self nodes drift:Int) (t:Tl) (n0:Nat) (L0:List PV) (hd:s.dk.cells.length≠P.d) (hpd:P.d≤1000) (hpv:P.v≤1000)
  (c:Cz) (R:Ms) (q:Ns×Nr) (n:Nat) (L:List PV) (hH:Spec Tryz.prog 81 (aY [jC (cA s P ver),hG P, .v (.int .i64 ((0:Nat):Int)), .v (.int .i64 self), .v (.int .i64 nodes), .v (.int .i64 drift),DN (List.replicate 9 0),jb] (oh t n0 L0 (5,9))) (iB c R q t n L)):
  Spec Tryz.prog 56 (aY [jC s,hG P, .v (.int .i64 ver), .v (.int .i64 self), .v (.int .i64 nodes), .v (.int .i64 drift),jb] (oh t n0 L0 (5,9))) (iB c R q t n L):=by
 have hown:=ka s hs
 have hcc:=hs.c
 have hpp:=hs.p
 have hb:cA s P ver={ s with ver:=ver,dk:=s.dk.resize P.d,vol:=List.replicate P.v 0,timers:=[],wait:= -1,up:=true }:=by unfold cA;rw [if_neg hd]
 rw [hb] at hH
 have hrz:=td s.dk P.d ab ab ab ho
 refine Spec.ofNI Tryz.func56 rfl Tryz.ntmps56 rfl ?_
 refine am (ai (aQ (7,0) _ rfl rfl) (ai (aQ (8,0) _ rfl rfl) (ai (aB (14,0) aa rfl rfl) (ai (aB (15,0) aa rfl rfl) (aj (am (ai (az _ aa rfl rfl rfl rfl) (ai (bR aa [((1,8),(17,0))] ar (hown.toI) trivial tr tr rfl rfl ae ae) ?_))))))))
 refine bG rfl rfl rfl rfl rfl rfl (aj (am (aX rfl (bc rfl rfl rfl (bG rfl rfl rfl rfl rfl rfl (aj (aq (am (bc rfl rfl rfl (bc rfl rfl rfl ?_))))))))))
 refine eW rfl rfl rfl (ai (bn _ aa rfl) (bc rfl rfl rfl (cd rfl rfl rfl (ai (bU (r:=true) _ _ rfl rfl (bne_iff_ne.2 fun h=> hd (Int.ofNat_inj.1 h))) ?_))))
 refine aj (bL rfl rfl ?_)
 refine aL (σ':=aD 50 [(3,_),(4,_),(5,_),(6,_),(7,_),(8,_),(14,_),(15,_)] [((4,9),_),((5,9),_),((7,0),_),((8,0),_),((14,0),_),((15,0),_),((17,0),_)] [(4,9),(5,9)] [(4,9)]) kp ?_
 refine an (bc rfl rfl rfl (ai (az _ aa rfl rfl rfl rfl) (bc rfl rfl rfl (cd rfl rfl rfl (ai (aH aa al (hrz) rfl rfl) ?_)))))
 refine bc rfl rfl rfl (bG rfl rfl rfl rfl rfl rfl (aj (am (bc rfl rfl rfl (cd rfl rfl rfl (ai (pZ (35,0) _ _ aa rfl rfl (List.replicate P.v (0:Int)).length (by rw [List.length_replicate]) (by rw [List.length_replicate]) (by rw [List.length_replicate];omega) rfl (show _=cw (List.replicate P.v 0) by rw [List.length_replicate];exact ox P.v)) ?_))))))
 refine bc rfl rfl rfl (bG rfl rfl rfl rfl rfl rfl (bc rfl rfl rfl (bG rfl rfl rfl rfl rfl rfl (bc rfl rfl rfl (bG rfl rfl rfl rfl rfl rfl (bc rfl rfl rfl (bG rfl rfl rfl rfl rfl rfl (aj (aU fun K7 hK7=> ?_)))))))))
 refine aL (Le.frzB (ys:=cw (List.replicate P.v 0)) (7,0) 6 rfl rfl rfl rfl (by rw [List.drop_zero,Nat.mul_one,List.take_of_length_le (by rw [aO];exact Nat.le_refl _)]) (by rw [aO,Nat.mul_one,Nat.zero_add];exact Nat.le_refl _)) ?_
 refine an (ai (az _ aa rfl rfl rfl rfl) (ai (az _ aa rfl rfl rfl rfl) (aX rfl (aX rfl (aX rfl (ai (aN _ aa rfl (by exact Ce)) ?_))))))
 refine ai (aI _ lT) (cB (Le.trans (Le.incT (47,4) rfl) (Le.trans (Le.incT (47,3) rfl) (Le.trans (Le.incT (47,2) rfl) (Le.trans (Le.incT (47,1) rfl) (Le.incT (47,0) rfl))))) ?_)
 refine ai (bh aa [((1,8),(47,0)),((2,8),(47,1)),((3,8),(47,2)),((6,8),(47,3)),((5,8),(47,4))] ar (hH) ob tr tr rfl ae ae) ?_
 refine ai (cm _ rfl oZ) (ai (cm _ rfl oZ) (bG rfl rfl rfl rfl rfl rfl (bG rfl rfl rfl rfl rfl rfl (aJ (hK7 _ ?_)))))
 clear hK7;try clear K7
 exact aG (jT (.inr rfl) rfl (.cellA aa rfl rfl rfl) (.cellA aa rfl rfl rfl) (Le.outI [((1,8),(47,0)),((2,8),(47,1)),((3,8),(47,2)),((6,8),(47,3)),((5,8),(47,4))] [] (.tup rfl lz) rfl rfl rfl trivial ob tr rfl))

def pz (p:Pg) (h:Nat) (names vars ans:List Int):Ms:=if p.e h < 0 then { vars:=vars,pc:=0,fin:=true } else kM ⟨p.c,p.d,names,ans⟩ 500 (ez vars (p.e h).toNat)
theorem pN (p:Pg) (h:Nat) (names vars ans:List Int):(pz p h names vars ans).acts=(jP p h names vars ans).acts∧(pz p h names vars ans).vars=(jP p h names vars ans).vars∧(pz p h names vars ans).asked=(jP p h names vars ans).asked:=by
 unfold pz jP
 split <;> exact ⟨rfl,rfl,rfl⟩
set_option maxHeartbeats 2000000 in
theorem sN (M:Mk) (h:Nat) (hh:h < 40) (he:M.P.e h < 0) (h1:M.iv.length≤1000) (R:Ms) (hR:R={ vars:=M.iv,pc:=0,fin:=true }):
  Spec Tryz.prog 59 (aY [hG M.P, .v (.int .i64 (h:Int)), .agg [.sl M.iv.length (cw M.iv), .v (.int .i64 (M.nm 0)), .v (.int .i64 (M.nm 1)), .v (.int .i64 (M.nm 2)), .v (.int .i64 (M.nm 3)), .v (.int .i64 (M.nm 4)), .v (.int .i64 (M.nm 5)), .v (.int .i64 (M.nm 6)), .v (.int .i64 (M.nm 7)), .v (.int .i64 (M.nm 8))],vQ (6,9)] (JO M [] (5,9))) (bb (.agg [.sl R.vars.length (cw R.vars), .ref (2,8) 0 R.acts.length, .v (.int .i64 (R.steps:Int)), .v (.bool (!R.fin)), .sl (fC (kC R.cov)).length (cw (fC (kC R.cov)))]) (((2,8), .row 57 5 (ri R.acts))::JO M R.asked (5,8)) [(2,8),(4,9),(5,8),(6,9)] [(4,9),(6,9)]):=by
 subst hR
 have hsk:fC (kC [])=[]:=by simp [fC,kC]
 have hcl:=qv M.iv ab
 have hg:=sD M.P.c.length (inl M.P.c) M.P.e (M.P.d:Int) (M.P.v:Int) h hh
 refine Spec.ofNI Tryz.func59 rfl Tryz.ntmps59 rfl ?_
 refine am ?_
 refine ai (aQ (4,0) _ rfl rfl) ?_
 refine ai (aQ (6,0) _ rfl rfl) ?_
 refine ai (aB (8,0) aa rfl rfl) ?_
 refine aj ?_
 refine aq ?_
 refine bJ 11 [13,14,15,16,17,18,19,20,21,22,23] [(22,0)] ae ae rfl (aK rfl) (rfl:_=[_,_,_,_,_,_,_,_,_,_,_]) (rfl:_=[_,_,_]) ?_
 refine ap (_,[]) (fun τ=> az _ aa rfl rfl rfl rfl) ?_
 refine fD rfl ?_
 refine ap (_,[]) (fun τ=> az _ aa rfl rfl rfl rfl) ?_
 refine fF rfl ?_
 refine ap (_,[]) (fun τ=> aI _ lT) ?_
 refine fE rfl ?_
 refine ap (_,[]) (fun τ=> aI _ eh) ?_
 refine fS rfl ?_
 refine ap (_,[]) (fun τ=> aA _ aa rfl rfl rfl) ?_
 refine gf rfl ?_
 refine ap (_,[]) (fun τ=> cY _ _ aa rfl rfl rfl h rfl ab (by exact congrArg (fun z=> 0+1+z) (Nat.mul_one h))) ?_
 refine gS rfl ?_
 refine ap (_,[]) (fun τ=> aF _ aa rfl rfl (by exact (congrArg (fun z=> (EJ M.P.c.length (inl M.P.c) M.P.e (M.P.d:Int) (M.P.v:Int))[z]?) ab).trans hg)) ?_
 refine ir rfl ?_
 refine ap (_,[]) (fun τ=> aA _ aa rfl rfl rfl) ?_
 refine jE rfl ?_
 refine ap (_,[]) (fun τ=> aF _ aa rfl rfl ef) ?_
 refine jU rfl ?_
 refine ap (_,[((22,0),_)]) (fun τ=> (bR aa [((0,8),(22,0))] ar (hcl.toI) trivial tr tr rfl rfl ae ae)) ?_
 refine fy rfl ?_
 refine ap (_,[]) (fun τ=> aN _ aa rfl (by exact (rfl:_=some [AV.ref (22,0) 0 M.iv.length,AV.v (.slice none 0 0),AV.v (.int .i64 0),AV.v (.bool false),AV.v (.slice none 0 0)]))) ?_
 refine gd rfl ?_
 refine bj ⟨rfl,?_⟩
 refine ai (aN _ aa rfl (by exact (rfl:_=some [_,_,_,_,_,_,_,_,_,_,_,_,_,_,_,_,_,_,_,_,_,_,_,_,_,_,_,_,_,_,_,_,_,_,_,_,_,_,_,_,_,_,_,_,_,_,_,_,_,_,_,_,_,_,_,_,_,_,_,_,_,_,_,_]))) ?_
 refine ai (aQ (25,0) _ rfl rfl) ?_
 refine vH rfl ?_
 refine aj ?_
 refine aq ?_
 refine aq ?_
 refine aL (σ':=aD 108 [(4,_),(8,_),(9,_)] [((4,9),_),((5,9),_),((6,9),_),((4,0),_),((8,0),_),((22,0),_),((25,0),_)] [(4,9),(5,9),(6,9)] [(4,9),(6,9)]) kp ?_
 refine an ?_
 refine bS rfl ?_
 refine ai (aT _ rfl rfl) ?_
 refine bc rfl rfl rfl ?_
 refine cd rfl rfl rfl ?_
 refine ai (bm (r:=true) _ _ rfl rfl (decide_eq_true he)) ?_
 refine aj ?_
 refine bL rfl rfl ?_
 refine aq ?_
 refine aL (Le.trans (Le.nilB (25,0) 55 (61,0) 57 5 rfl rfl rfl) (Le.incT (61,0) rfl)) ?_
 refine an ?_
 refine bS rfl ?_
 refine ai (aT _ rfl rfl) ?_
 refine bc rfl rfl rfl ?_
 refine ai (az _ aa rfl rfl rfl rfl) ?_
 refine bG rfl rfl rfl rfl rfl rfl ?_
 refine aj ?_
 refine aG ?_
 exact bH (.inr rfl) rfl (.cellA aa rfl rfl rfl) (Le.outI [((5,8),(5,9)),((2,8),(61,0))] [(22,0)] (.agg rfl (au (fg rfl rfl (by simp) rfl) (au (cO rfl rfl) (au .v (au .v (au (by show Lv _ _ _ (.sl (fC (kC [])).length (cw (fC (kC [])))) _;rw [hsk];exact .nil) bf)))))) rfl rfl rfl tr ob tr rfl)

theorem uL (s:Ns) (h:Nat) (ck:Int) (P:Pg) (R:Ms) {k:Nat} (hk:k < R.acts.length):cT s h ck P R (k+1)=eg (cT s h ck P R k) (lm R.acts k):=by
 show (R.acts.take (k+1)).foldl eg _=_
 rw [List.take_add_one,List.foldl_append,List.getElem?_eq_getElem hk,show lm R.acts k=R.acts[k] by simp [lm,hk]]
 rfl
theorem Bq (q:Ns×Nr) (a:Ac):(eg q a).2.sent.length≤q.2.sent.length+1∧(eg q a).2.fails.length≤q.2.fails.length+1:=by
 unfold eg
 split
 ·exact ⟨Nat.le_succ _,Nat.le_succ _⟩
 split
 ·exact ⟨Nat.le_succ _,Nat.le_succ _⟩
 split
 ·exact ⟨Nat.le_succ _,Nat.le_succ _⟩
 split
 ·exact ⟨Nat.le_succ _,Nat.le_succ _⟩
 split
 ·exact ⟨by simp,Nat.le_succ _⟩
 split
 ·split <;> exact ⟨Nat.le_succ _,Nat.le_succ _⟩
 split
 ·exact ⟨Nat.le_succ _,by simp⟩
 exact ⟨Nat.le_succ _,Nat.le_succ _⟩
theorem xc {l:List Ac} {k:Nat} (hk:k < l.length):lm l k∈l:=by
 rw [show lm l k=l[k] by simp [lm,hk]];exact List.getElem_mem hk
structure Rs (P:Pg) (t:Int) (R:Ms) (q:Ns×Nr) (k:Nat):Prop where
 tm:pM t q.1.timers
 dk:DkOk P.d q.1.dk
 vo:q.1.vol=R.vars.drop P.d
 se:q.2.sent.length≤k
 fa:q.2.fails.length≤k
theorem xn {s:Ns} {h:Nat} {ck:Int} {P:Pg} {R:Ms} {t:Int} (ht:0≤t∧t < 8) (hac: ∀ a∈R.acts,wY t a∧Rg a.b) (htl:pM t s.timers) (hdk:DkOk P.d s.dk): ∀ k,k≤R.acts.length→Rs P t R (cT s h ck P R k) k
 | 0,_=> ⟨htl,hdk,rfl,Nat.le_refl _,Nat.le_refl _⟩
 | k+1,hk=> by
  obtain ⟨h1,h2,h3,h4,h5⟩:=xn (ck:=ck) ht hac htl hdk k ab
  obtain ⟨a1,a2⟩:=hac _ (xc (l:=R.acts) (k:=k) ab)
  rw [uL s h ck P R ab]
  obtain ⟨l1,l2⟩:=Bq (cT s h ck P R k) (lm R.acts k)
  exact ⟨uz ht a1 h1,ta h2 a2,(rB _ _).2.2.2.2.1.trans h3,by omega,by omega⟩
theorem Jp (c:Cz) {s:Ns} {h:Nat} {ck:Int} {P:Pg} {R:Ms} {t:Int} (ht:0≤t∧t < 8) (hac: ∀ a∈R.acts,wY t a∧Rg a.b) (htl:pM t s.timers) (hdk:DkOk P.d s.dk) (hd:P.d≤1000) (hv:R.vars.length≤1000) (hn:R.acts.length≤500):
  ∀ i,i < R.acts.length→nF c (Hf R) (cT s h ck P R i).1 (cT s h ck P R i).2 (lm R.acts i) (cT s h ck P R (i+1)).1 (cT s h ck P R (i+1)).2:=fun i hi=> by
 obtain ⟨h1,h2,h3,h4,h5⟩:=xn (h:=h) (ck:=ck) ht hac htl hdk i ab
 rw [uL s h ck P R hi]
 have hp:=h2.pn
 refine IQ c (Hf R) ht _ _ (hac _ (xc hi)).1 h1 ⟨by rw [h2.len];exact hd,by omega,by rw [h3,List.length_drop];omega,?_⟩ (fun w hw=> ?_) ab ab
 ·rcases h1 with h1 | h1 <;> rw [h1] <;> simp
 obtain ⟨b1,b2,_⟩:=h2.pr w hw
 exact ⟨b1,by rw [h2.len];exact b2⟩
theorem xJ (p:Pg) (h:Nat) (names vars ans:List Int):(pz p h names vars ans).acts.length≤500:=by
 unfold pz
 split
 ·exact Nat.zero_le _
 have h1:=lw (K:=⟨p.c,p.d,names,ans⟩) (I:=Sz) (fun s hs _=> xf hs) 500 (ez vars (p.e h).toNat) ⟨Nat.le_refl _,Nat.le_refl _,Nat.le_refl _⟩
 have h2:=(ol (K:=⟨p.c,p.d,names,ans⟩) 500 (ez vars (p.e h).toNat)).1
 have h3:=h1.ac
 have h4:(ez vars (p.e h).toNat).steps=0:=rfl
 omega
theorem Ka (P:Pg) (hp:pB P) (hcl:P.c.length≤1000000) (h:Nat) (hh:h < 40) (nm iv ans:List Int) (hn: ∀ i,Rg (nm.getD i 0)) (hiv:iv.length=P.d+P.v) (hir: ∀ v∈iv,Rg v) (t:Tl) (ht:yU ⟨P,iv,nm,ans,t⟩) (R:Ms) (hR:R=pz P h nm iv ans):
  Spec Tryz.prog 59 (aY [hG P, .v (.int .i64 (h:Int)), .agg [.sl iv.length (cw iv), .v (.int .i64 (nm.getD 0 0)), .v (.int .i64 (nm.getD 1 0)), .v (.int .i64 (nm.getD 2 0)), .v (.int .i64 (nm.getD 3 0)), .v (.int .i64 (nm.getD 4 0)), .v (.int .i64 (nm.getD 5 0)), .v (.int .i64 (nm.getD 6 0)), .v (.int .i64 (nm.getD 7 0)), .v (.int .i64 (nm.getD 8 0))],vQ (6,9)] (Bi t t.np t.pre (5,9)))
   (bb (.agg [.sl R.vars.length (cw R.vars), .ref (2,8) 0 R.acts.length, .v (.int .i64 (R.steps:Int)), .v (.bool (!R.fin)), .sl (fC (kC R.cov)).length (cw (fC (kC R.cov)))]) (((2,8), .row 57 5 (ri R.acts))::Bi t (t.np+R.asked.length) (t.pre++tS t ans R.asked) (5,8)) [(2,8),(4,9),(5,8),(6,9)] [(4,9),(6,9)]):=by
 have e0:JO ⟨P,iv,nm,ans,t⟩ [] (5,9)=Bi t t.np t.pre (5,9):=by
  show Bi t (t.np+0) (t.pre++tS t ans []) (5,9)=_
  rw [show tS t ans []=[] from rfl,List.append_nil];rfl
 rw [← e0]
 have hnv:=hp.nv
 by_cases he:P.e h < 0
 ·have hR2:R={ vars:=iv,pc:=0,fin:=true }:=by rw [hR];unfold pz;rw [if_pos he]
  exact sN ⟨P,iv,nm,ans,t⟩ h hh he (by show iv.length≤1000;omega) R hR2
 obtain ⟨D,hg,hE⟩:=hp.ex
 obtain ⟨e1,e2,e3⟩:=(hE h).resolve_left he
 have hR2:R=kM ⟨P.c,P.d,nm,ans⟩ 500 (ez iv (P.e h).toNat):=by rw [hR];unfold pz;rw [if_neg he]
 exact yJ ⟨P,iv,nm,ans,t⟩ Jc D (P.d+P.v) ⟨hg,hnv,hn⟩ h hh (P.e h).toNat (by show P.e h=_;omega) (by show _ < P.c.length;omega) e3 hiv hir hcl ht R hR2
end Go.Proofs.YtmjnackchaahbaaGreat
