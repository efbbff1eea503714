/- part 4 -/
import Derived.Test.YtmjnackchaahbaaGreatVhZ3
set_option linter.unusedSimpArgs false
set_option linter.unusedVariables false
namespace Go.Proofs.YtmjnackchaahbaaGreat
open Go.RowKit

def Stp (P:Program) (d:Option Tmp) (op:Op) (ty:TypeId) (σ σ':St):Prop:= ∀ o:Oper,o.dst=d→o.op=op→o.type=ty→gH P o σ σ'
section
variable {P:Program} {σ:St} {av:AV} {t e T:TypeId} {agg:Bool} {z:List Value} {size bytes:Nat} {t':TypeId} {a b:Int} {k:IntKind}
theorem br {dd:Option Tmp} {ty:TypeId} (x:Operand) (hx:σ.eval x=av):Stp P dd (.move x) ty σ ((σ.put dd av)):=
 fun o hd ho ht=> by
   subst hd ht
   exact bs fun _ _ _ a _ R=> ⟨a.eval x,by simp [execOp,ho],hx ▸ R.eval x,fun _ h=> R.evalHas x (by rw [hx];exact h)⟩
theorem bg {dd:Option Tmp} {ty:TypeId} (x:Operand) (hx:σ.eval x=av):Stp P dd (.assign x) ty σ ((σ.put dd av)):=
 fun o hd ho ht=> by
   subst hd ht
   exact bs fun _ _ _ a _ R=> ⟨a.eval x,by simp [execOp,ho],hx ▸ R.eval x,fun _ h=> R.evalHas x (by rw [hx];exact h)⟩
theorem cr {dd:Option Tmp} {ty:TypeId} {b:Bool} (c x y:Operand) (hc:σ.eval c= .v (.bool b)) (hx:σ.eval (if b then x else y)=av):Stp P dd (.pick c x y) ty σ ((σ.put dd av)):=
 fun o hd ho ht=> by
   subst hd ht
   refine bs fun _ _ _ a _ R=> ⟨a.eval (if b then x else y),?_,hx ▸ R.eval _,fun _ h=> R.evalHas _ (by rw [hx];exact h)⟩
   have h:=R.eval c
   rw [hc] at h
   have h:=h.toV
   cases b <;> simp [execOp,ho,h,asBool]
theorem EC {dd:Option Tmp} {ty:TypeId} (x:Operand) {off:Nat} {xs:List PV} (hx:σ.eval x= .fp off xs):Stp P dd (.nilCheck x) ty σ ((σ.put dd (.fp off xs))):=
 fun o hd ho ht=> by
   subst hd ht
   refine bs fun _ _ _ a _ R=> ⟨a.eval x,?_,hx ▸ R.eval x,fun _=> uT⟩
   have h:=R.eval x
   rw [hx] at h
   generalize hv:a.eval x=v at h
   cases h with
   | fp h=> cases h with
     | ptr us hS h2 h3=> simp [execOp,ho,hv]
theorem jz {dd:Option Tmp} {ty:TypeId} (x:Operand) {id:ay} {off:Nat} {oc:Cells} (hx:σ.eval x= .ptr id off) (hid:σ.ob id= .obj oc):Stp P dd (.nilCheck x) ty σ ((σ.put dd (.ptr id off))):=
 fun o hd ho ht=> by
   subst hd ht
   refine bs fun _ _ _ a _ R=> ⟨a.eval x,?_,hx ▸ R.eval x,fun _ h=> R.evalHas x (by rw [hx];exact h)⟩
   obtain ⟨B,g,h1,h2,h3⟩:=R.ptrB hid hx
   simp [execOp,ho,h3]
theorem et {dd:Option Tmp} {ty:TypeId} {T:TypeId} {f off:Nat} (x:Operand) (F:gG P T f off) {id:ay} {of0 of1:Nat} {oc:Cells} (hx:σ.eval x= .ptr id of0) (hid:σ.ob id= .obj oc) (he:of0+off=of1):Stp P dd (.fieldAddr T x f) ty σ ((σ.put dd (.ptr id of1))):=
 fun o hd ho ht=> by
   subst hd ht
   subst he
   refine bs fun _ ι S a w R=> ?_
   obtain ⟨B,g,h1,h2,h3⟩:=R.ptrB hid hx
   refine ⟨_,wK x ho h3,?_,fun i h=> R.evalHas x (by rw [hx];cases h;exact .ptr)⟩
   rw [Addr.add_lit]
   refine .ptr (fun B' hB'=> ?_) rfl
   rw [h1] at hB'
   obtain rfl:=Option.some.inj hB'
   exact ⟨g,h2,rfl⟩
theorem dI {dd:Option Tmp} {ty:TypeId} {T:TypeId} {f off:Nat} (x:Operand) (F:gG P T f off) {of0 of1:Nat} {xs:List PV} (hx:σ.eval x= .fp of0 xs) (he:of0+off=of1):Stp P dd (.fieldAddr T x f) ty σ ((σ.put dd (.fp of1 xs))):=
 fun o hd ho ht=> by
   subst hd ht
   subst he
   refine bs fun _ ι S a w R=> ?_
   have hp:=R.eval x
   rw [hx] at hp
   cases hp with
   | fp h=>
     generalize hv:a.eval x=v at h
     cases h with
     | ptr us hS h2 h3=>
       refine ⟨_,wK x ho hv,?_,fun _=> uT⟩
       rw [Addr.add_lit,Nat.add_assoc]
       exact .fp (.ptr us hS h2 h3)
theorem aL {dd:Option Tmp} {ty:TypeId} {T e:TypeId} {size bytes:Nat} {z:List Value} (x y:Operand) (E:Elem P T e size bytes z) {n:Nat} {xs:List PV} (hx:σ.eval x= .sl n xs) {k:IntKind} {I:Int} (hy:σ.eval y= .v (.int k I)) (j:Nat) (hI:I=(j:Int)) (hj:j < n) (hne:0 < xs.length) {off:Nat} (he:j*size=off):Stp P dd (.indexAddr T x y) ty σ ((σ.put dd (.fp off xs))):=
 fun o hd ho ht=> by
   subst hd ht
   subst he;subst hI
   refine bs fun _ ι S a w R=> ?_
   have hp:=R.eval x
   have hi:=R.eval y
   rw [hx] at hp
   rw [hy] at hi
   have hi:=hi.toV
   obtain ⟨inf,zv,hinf,_,hs,_⟩:=E.info
   cases hp with
   | sl h=>
     generalize hv:a.eval x=v at h
     cases h with
     | sl0=> exact absurd hne (by simp)
     | sl us h0 h1 hS h2 h3=>
       refine ⟨_,?_, .fp (.ptr us hS h2 h3),fun _=> uT⟩
       simp [execOp,ho,Instr.indexAt,hv,hi,asIntOf,run_underlying E.und,sizeOf,typeInfo,hinf,hs,hj,Addr.add_lit]
theorem fM {dd:Option Tmp} {ty:TypeId} {T e e':TypeId} {size bytes sz:Nat} {z:List Value} (x y:Operand) (E:Elem P T e size bytes z) {id:ay} {of0 n:Nat} {xs:List PV} (hx:σ.eval x= .ref id of0 n) (hid:σ.ob id= .obj (.row e' sz xs)) {k:IntKind} {I:Int} (hy:σ.eval y= .v (.int k I)) (j:Nat) (hI:I=(j:Int)) (hj:j < n) {off:Nat} (he:of0+j*size=off):Stp P dd (.indexAddr T x y) ty σ ((σ.put dd (.ptr id off))):=
 fun o hd ho ht=> by
   subst hd ht
   subst he;subst hI
   refine bs fun _ ι S a w R=> ?_
   have hi:=R.eval y
   rw [hy] at hi
   have hi:=hi.toV
   obtain ⟨inf,zv,hinf,_,hs,_⟩:=E.info
   obtain ⟨B,h1,h2,⟨c,h3,h4,h5⟩,_⟩:=R.refB hid hx
   cases hg:B.g with
   | none=> rw [hg] at h5;obtain ⟨_,rfl,_⟩:=h5;omega
   | some g=>
     rw [hg] at h5
     obtain ⟨o',h6,h7,_⟩:=h5
     obtain rfl:=h7.resolve_right ab
     refine ⟨.pointer (some ⟨g,o'+j*size,none⟩),?_, .ptr (fun B' hB'=> ?_) rfl,fun i h=> R.evalHas x (by rw [hx];cases h;exact .ref)⟩
     · simp [execOp,ho,Instr.indexAt,h6,hi,asIntOf,run_underlying E.und,sizeOf,typeInfo,hinf,hs,hj,Addr.add_lit]
     rw [h1] at hB'
     obtain rfl:=Option.some.inj hB'
     exact ⟨g,hg,rfl⟩
theorem bM {dd:Option Tmp} {ty:TypeId} (x:Operand) (T:Ty P t false z) {id:ay} {off:Nat} (hx:σ.eval x= .ptr id off) {e:TypeId} {xs:List AV} (hid:σ.ob id= .obj (.box e xs)) (hv:xs[off]? =some av):Stp P dd (.load t x) ty σ ((σ.put dd av)):=
 fun o hd ho ht=> by
   subst hd ht
   refine bs fun _ ι S a w R=> ?_
   obtain ⟨B,g,cur,h1,h2,h3,h4,h5,h6⟩:=R.boxB hid hx
   obtain ⟨u,hu,hu1,hu2⟩:=h6 off av hv
   exact ⟨u,rp x ho h3 (ee h4 hu),hu2,fun i h=> R.clo id _ i hid ⟨av,List.mem_of_getElem? hv,h⟩⟩
theorem ke {dd:Option Tmp} {ty:TypeId} (x:Operand) (T:Ty P t false z) {id:ay} {off:Nat} (hx:σ.eval x= .ptr id off) {e:TypeId} {sz:Nat} {xs:List PV} (hid:σ.ob id= .obj (.row e sz xs)) {p:PV} (hv:xs[off]? =some p) (ha:p.up=av):Stp P dd (.load t x) ty σ ((σ.put dd av)):=
 fun o hd ho ht=> by
   subst hd ht
   subst ha
   refine bs fun _ ι S a w R=> ?_
   obtain ⟨B,g,cur,h1,h2,h3,h4,_,h5,h6,h7⟩:=R.rowB hid hx
   obtain ⟨u,hu,hu1,hu2⟩:=h7 off p hv
   exact ⟨u,rp x ho h3 (ee h4 hu),hu2.up,fun i h=> absurd h (ru p)⟩
theorem bh {dd:Option Tmp} {ty:TypeId} (x:Operand) (T:Ty P t false z) {off:Nat} {xs:List PV} (hx:σ.eval x= .fp off xs) {p:PV} (hv:xs[off]? =some p) (ha:p.up=av):Stp P dd (.load t x) ty σ ((σ.put dd av)):=
 fun o hd ho ht=> by
   subst hd ht
   subst ha
   refine bs fun _ ι S a w R=> ?_
   have hp:=R.eval x
   rw [hx] at hp
   cases hp with
   | fp h=>
     generalize hve:a.eval x=v at h
     cases h with
     | ptr us hS h2 h3=> exact ⟨us off,rp x ho hve (h2 off p hv),(h3 off p hv).up,fun i h=> absurd h (ru p)⟩
theorem fB {dd:Option Tmp} {ty:TypeId} (x:Operand) (T:Ty P t true z) {id:ay} {off:Nat} (hx:σ.eval x= .ptr id off) {e:TypeId} {xs:List AV} (hid:σ.ob id= .obj (.box e xs)) {ys:List AV} (hy:(xs.drop off).take z.length=ys) (hl:ys.length=z.length):Stp P dd (.load t x) ty σ ((σ.put dd (.agg ys))):=
 fun o hd ho ht=> by
   subst hd ht
   refine pI x ho T hl fun K ι S a w R=> ?_
   obtain ⟨B,g,cur,h1,h2,h3,h4,h5,h6⟩:=R.boxB hid hx
   subst hy
   refine ⟨g,off,h3,fun j b hb=> ?_,fun i ⟨b,hb,hi⟩=> R.clo id _ i hid ⟨b,List.mem_of_mem_drop (List.mem_of_mem_take hb),hi⟩⟩
   rw [List.getElem?_take] at hb
   split at hb
   · rw [List.getElem?_drop] at hb
     obtain ⟨u,a1,a2,a3⟩:=h6 _ b hb
     exact ⟨u,ee h4 a1,a2,a3⟩
   cases hb
theorem bu {dd:Option Tmp} {ty:TypeId} (x:Operand) (T:Ty P t true z) {off:Nat} {xs:List PV} (hx:σ.eval x= .fp off xs) {ys:List AV} (hy:PV.ups ((xs.drop off).take z.length)=ys) (hl:ys.length=z.length):Stp P dd (.load t x) ty σ ((σ.put dd (.agg ys))):=
 fun o hd ho ht=> by
   subst hd ht
   refine pI x ho T hl fun K ι S a w R=> ?_
   have hp:=R.eval x
   rw [hx] at hp
   subst hy
   cases hp with
   | fp h=>
     generalize hve:a.eval x=v at h
     cases h with
     | ptr us hS h2 h3=>
       refine ⟨_,_,rfl,fun j b hb=> ?_,fun i ⟨b,hb,hi⟩=> absurd hi (oF _ b hb)⟩
       rw [oo,List.getElem?_take] at hb
       split at hb
       · rw [List.getElem?_drop] at hb
         obtain ⟨p,hp,rfl⟩:=Option.map_eq_some_iff.1 hb
         exact ⟨us (off+j),by rw [Nat.add_assoc];exact h2 _ p hp,(h3 _ p hp).one,(h3 _ p hp).up⟩
       cases hb
theorem fE {dd:Option Tmp} {ty:TypeId} {T:TypeId} {f off sz:Nat} (x:Operand) (F:Fvl P T f off false sz) {xs:List AV} (hx:σ.eval x= .agg xs) (hv:xs[off]? =some av):Stp P dd (.field T x f) ty σ ((σ.put dd av)):=
 fun o hd ho ht=> by
   subst hd ht
   refine bs fun _ ι S a w R=> ?_
   have hp:=R.eval x
   rw [hx] at hp
   generalize hve:a.eval x=v at hp
   cases hp with
   | agg h1 h2 h3=>
     rename_i us
     have hlt:off < us.size:=by rw [h1];exact (List.getElem?_eq_some_iff.1 hv).1
     refine ⟨us[off],Co x ho hve (by simp [hlt]),by have:=h3 off av hv;simpa [hlt] using this,fun i h=> R.evalHas x (by rw [hx];exact .agg (List.mem_of_getElem? hv) h)⟩
theorem Hc {dd:Option Tmp} {ty:TypeId} {T:TypeId} {f off sz:Nat} (x:Operand) (F:Fvl P T f off true sz) {xs:List AV} (hx:σ.eval x= .agg xs) {ys:List AV} (hy:(xs.drop off).take sz=ys) (hl:ys.length=sz):Stp P dd (.field T x f) ty σ ((σ.put dd (.agg ys))):=
 fun o hd ho ht=> by
   subst hd ht
   refine bs fun _ ι S a w R=> ?_
   have hp:=R.eval x
   rw [hx] at hp
   generalize hve:a.eval x=v at hp
   subst hy
   cases hp with
   | agg h1 h2 h3=>
     rename_i us
     have hle:off+sz≤us.size∨sz=0:=by simp at hl;omega
     refine ⟨_,CU x ho hve, .agg ?_ (fun u hu=> h2 u ?_) (fun j b hb=> ?_),fun i h=> ?_⟩
     · simp at hl ⊢;omega
     · simp only [Array.toList_extract,List.extract_eq_take_drop] at hu
       exact List.mem_of_mem_drop (List.mem_of_mem_take hu)
     · rw [List.getElem?_take] at hb
       split at hb
       · rename_i hj
         rw [List.getElem?_drop] at hb
         have:=h3 _ b hb
         have e:(us.extract off (off+sz)).getD j undef=us.getD (off+j) undef:=by
           simp [Array.getElem?_extract]
           rw [if_pos ab]
         rw [e];exact this
       cases hb
     cases h with
     | agg hm h=> exact R.evalHas x (by rw [hx];exact .agg (List.mem_of_mem_drop (List.mem_of_mem_take hm)) h)
theorem Eu {dd:Option Tmp} {ty:TypeId} {T e:TypeId} {size bytes:Nat} (x:Operand) (E:Elem P T e size bytes z) {n:Nat} {xs:List PV} (hx:σ.eval x= .sl n xs):Stp P dd (.call { callee:= .builtin .len,args:= #[x],argTypes:= #[T] }) ty σ ((σ.put dd (.v (.int .i64 (n:Int))))):=
 fun o hd ho ht=> by
   subst hd ht
   refine bs fun _ ι S a w R=> ?_
   have hp:=R.eval x
   rw [hx] at hp
   have: ∃ ao c,a.eval x= .slice ao n c:=by
     cases hp with
     | sl h=>
       generalize a.eval x=v at h
       cases h <;> exact ⟨_,_,rfl⟩
   obtain ⟨ao,c,hv⟩:=this
   exact ⟨_,by simp [execOp,ho,resolve,invoke,builtin,Builtin.len_,run_underlying E.und,hv,goInt], .v,fun _=> eU⟩
theorem Ea {dd:Option Tmp} {ty:TypeId} {T e:TypeId} {size bytes:Nat} (x:Operand) (E:Elem P T e size bytes z) (hx:σ.eval x= .v (.slice none 0 0)):Stp P dd (.call { callee:= .builtin .len,args:= #[x],argTypes:= #[T] }) ty σ ((σ.put dd (.v (.int .i64 0)))):=
 fun o hd ho ht=> by
   subst hd ht
   refine bs fun _ ι S a w R=> ?_
   have hp:=R.eval x
   rw [hx] at hp
   exact ⟨_,by simp [execOp,ho,resolve,invoke,builtin,Builtin.len_,run_underlying E.und,hp.toV,goInt], .v,fun _=> eU⟩
theorem Dg {dd:Option Tmp} {ty:TypeId} {T e e':TypeId} {size bytes sz:Nat} (x:Operand) (E:Elem P T e size bytes z) {id:ay} {off n:Nat} {xs:List PV} (hx:σ.eval x= .ref id off n) (hid:σ.ob id= .obj (.row e' sz xs)):Stp P dd (.call { callee:= .builtin .len,args:= #[x],argTypes:= #[T] }) ty σ ((σ.put dd (.v (.int .i64 (n:Int))))):=
 fun o hd ho ht=> by
   subst hd ht
   refine bs fun _ ι S a w R=> ?_
   obtain ⟨B,h1,h2,⟨c,h3,h4,h5⟩,_⟩:=R.refB hid hx
   have: ∃ ao c,a.eval x= .slice ao n c:=by
     cases hg:B.g with
     | none=> rw [hg] at h5;obtain ⟨h6,rfl,_⟩:=h5;exact ⟨_,_,h6⟩
     | some g=> rw [hg] at h5;obtain ⟨o',h6,_⟩:=h5;exact ⟨_,_,h6⟩
   obtain ⟨ao,c,hv⟩:=this
   exact ⟨_,by simp [execOp,ho,resolve,invoke,builtin,Builtin.len_,run_underlying E.und,hv,goInt], .v,fun _=> eU⟩
theorem eX {dd:Option Tmp} {ty:TypeId} (id:ay) (T:Ty P e agg z) (hid:σ.ob id= .free) {xs:List AV} (hx:z.map AV.v=xs):Stp P dd (.alloc e) ty σ (((σ.setOb id (.obj (.box e xs))).put dd (.ptr id 0))):=
 fun o hd ho ht=> by
   subst hd ht
   subst hx
   intro K ι S a w R
   obtain ⟨i,zv,hi,hz,hs,hc⟩:=T.info
   have hrun:(execOp a.eval o).run P w= .ok (.value (.pointer (some ⟨w.heap.size,0,none⟩))) (w.alloc (.cells z.toArray e)):=by
     simp [execOp,ho,Instr.alloc,zeroValue,typeInfo,hi,hz,newVar,newRow,hc]
   refine bZ hrun (R.newBox hid e (by simp) (by simpa using T.one) (fun j b hb=> ?_) (fun b hb i hi=> ?_) _)
   · simp only [List.getElem?_map] at hb
     obtain ⟨x,hx,rfl⟩:=Option.map_eq_some_iff.1 hb
     have:z.toArray.getD j undef=x:=by simp [hx]
     rw [this];exact .v
   simp only [List.mem_map] at hb
   obtain ⟨x,_,rfl⟩:=hb
   cases hi
theorem ed {dd:Option Tmp} {ty:TypeId} (id:ay) (x:Operand) (hid:σ.ob id= .free) {xs:List AV} (hx:(σ.eval x).cells=some xs):Stp P dd (.box e x) ty σ (((σ.setOb id (.obj (.box e xs))).put dd (.ptr id 0))):=
 fun o hd ho ht=> by
   subst hd ht
   intro K ι S a w R
   obtain ⟨h1,h2,h3⟩:=(R.eval x).cells hx
   have hrun:(execOp a.eval o).run P w= .ok (.value (.pointer (some ⟨w.heap.size,0,none⟩))) (w.alloc (.cells (a.eval x).cells e)):=by simp [execOp,ho,Instr.box,newVar,newRow]
   exact bZ hrun (R.newBox hid e h1 h2 h3 (fun b hb i hi=> R.evalHas x (nk hx hb hi)) _)
theorem fU {dd:Option Tmp} {ty:TypeId} (x y:Operand) (T:Ty P t agg z) {id:ay} {off:Nat} (hx:σ.eval x= .ptr id off) {e:TypeId} {xs:List AV} (hid:σ.ob id= .obj (.box e xs)) {vs:List AV} (hv:(σ.eval y).cells=some vs) (hl:vs.length=z.length) (hfit:off+vs.length≤xs.length) {ys:List AV} (hy:ez xs off vs=ys):Stp P dd (.store t x y) ty σ (((σ.setOb id (.obj (.box e ys))).put dd .dead)):=
 fun o hd ho ht=> by
   subst hd ht
   subst hy
   intro K ι S a w R
   obtain ⟨B,g,cur,h1,h2,h3,h4,h5,h6⟩:=R.boxB hid hx
   obtain ⟨v1,v2,v3⟩:=(R.eval y).cells hv
   have hvl:(a.eval y).cells.toList.length=vs.length:=by simpa using v1
   have hcl:off+(a.eval y).cells.toList.length≤cur.toList.length:=by have h8:cur.toList.length=cur.size:=(by simp);have h9:=h5.2;omega
   have hrun:=AG (P:=P) (ρ:=a.eval) x y ho h3 h4 (vs:=(a.eval y).cells.toList) (by simp) ab (by have h9:=h5.2;omega) v2
   rw [tk] at hrun
   have hk:Keeps (fun k=> B.g=some k) w (w.setRow g (ez cur.toList off (a.eval y).cells.toList).toArray):=mA w g _ h2
   have hwS: ∀ k,S k→(w.setRow g (ez cur.toList off (a.eval y).cells.toList).toArray).heap[k]? =w.heap[k]? :=fun k hk'=> setRow_other w g k _ fun e=> (R.sep id B g h1 h2).1 (e ▸ hk')
   have hcz:(ez cur.toList off (a.eval y).cells.toList).toArray.size=cur.size:=by rw [List.size_toArray,fb _ _ _ hcl,Array.length_toList]
   have R1:=R.upd (o':= .box e (ez xs off vs)) hid h1 hk ⟨B,g,h1,h2,by rw [fb _ _ _ hfit];omega, .inr ⟨g,_,h2,setRow_heap w g _ _ e _ h4,by rw [hcz];exact h5.1,by
       rw [fb _ _ _ hfit,hcz];exact h5.2,fun j hj=> ?_⟩⟩ (fun i ⟨b,hb,hi⟩=> ?_)
   · exact gj hrun ⟨ι,S,R1.put o.dst .dead fun i hi=> by cases hi⟩
   · rw [fb _ _ _ hfit] at hj
     by_cases hin:off≤j∧j < off+vs.length
     · have hjl:j - off < (a.eval y).cells.toList.length:=by omega
       refine ⟨(a.eval y).cells.toList[j - off],?_,v2 _ (List.getElem_mem hjl),fun b hb=> ?_⟩
       · rw [List.getElem?_toArray,fa _ _ _ hcl,if_pos ab,List.getElem?_eq_getElem hjl]
       rw [fa _ _ _ hfit,if_pos hin] at hb
       have:=v3 _ b hb
       have hj2:j - off < (a.eval y).cells.size:=by simpa using hjl
       simp [hj2] at this
       simpa using this.next hwS (fun _ h=> h) fun i B hi hB=> hB
     obtain ⟨u,hu,hu1,hu2⟩:=h6 j _ (List.getElem?_eq_getElem hj)
     refine ⟨u,?_,hu1,fun b hb=> ?_⟩
     · rw [List.getElem?_toArray,fa _ _ _ hcl,if_neg ab];simpa using hu
     rw [fa _ _ _ hfit,if_neg hin,List.getElem?_eq_getElem hj] at hb
     obtain rfl:=Option.some.inj hb
     exact hu2.next hwS (fun _ h=> h) fun i B hi hB=> hB
   rcases pZ hb with hb | hb
   · exact R.clo id _ i hid ⟨b,hb,hi⟩
   exact R.evalHas y (nk hv hb hi)
theorem nh {dd:Option Tmp} {ty:TypeId} (x y:Operand) (T:Ty P t agg z) {id:ay} {off:Nat} (hx:σ.eval x= .ptr id off) {e:TypeId} {sz:Nat} {xs:List PV} (hid:σ.ob id= .obj (.row e sz xs)) {ys0:List AV} (hv:(σ.eval y).cells=some ys0) {vs:List PV} (hd:kh ys0=some vs) (hl:vs.length=z.length) (hfit:off+vs.length≤xs.length) {ys:List PV} (hy:ez xs off vs=ys):Stp P dd (.store t x y) ty σ (((σ.setOb id (.obj (.row e sz ys))).put dd .dead)):=
 fun o hd ho ht=> by
   subst hd ht
   subst hy
   intro K ι S a w R
   obtain ⟨B,g,cur,h1,h2,h3,h4,hsz,h5,h50,h6⟩:=R.rowB hid hx
   obtain ⟨v1,v2,v3⟩:=(R.eval y).cells hv
   obtain ⟨d1,d2⟩:=fS hd
   have hvl:(a.eval y).cells.toList.length=vs.length:=by have:(a.eval y).cells.toList.length=ys0.length:=by simpa using v1
                                                         omega
   have hrun:=AG (P:=P) (ρ:=a.eval) x y ho h3 h4 (vs:=(a.eval y).cells.toList) (by simp) ab ab v2
   rw [tk] at hrun
   have hcl:off+(a.eval y).cells.toList.length≤cur.toList.length:=by rw [hvl];simp;omega
   have hk:Keeps (fun k=> B.g=some k) w (w.setRow g (ez cur.toList off (a.eval y).cells.toList).toArray):=mA w g _ h2
   have hwS: ∀ k,S k→(w.setRow g (ez cur.toList off (a.eval y).cells.toList).toArray).heap[k]? =w.heap[k]? :=fun k hk'=> setRow_other w g k _ fun e=> (R.sep id B g h1 h2).1 (e ▸ hk')
   have R1:=R.upd (o':= .row e sz (ez xs off vs)) hid h1 hk ⟨B,h1,hsz, .inr ⟨g,_,h2,setRow_heap w g _ _ e _ h4,by simp [fb _ _ _ hcl,h5],by
       rw [fb _ _ _ hfit];simp [fb _ _ _ hcl,h50],fun j hj=> ?_⟩⟩ (fun i hi=> hi.elim)
   · exact gj hrun ⟨ι,S,R1.put o.dst .dead fun i hi=> by cases hi⟩
   rw [fb _ _ _ hfit] at hj
   by_cases hin:off≤j∧j < off+vs.length
   · have hjl:j - off < (a.eval y).cells.toList.length:=by omega
     refine ⟨(a.eval y).cells.toList[j - off],?_,v2 _ (List.getElem_mem hjl),fun b hb=> ?_⟩
     · rw [List.getElem?_toArray,fa _ _ _ hcl,if_pos ab,List.getElem?_eq_getElem hjl]
     rw [fa _ _ _ hfit,if_pos hin] at hb
     obtain ⟨c,hc,hcd⟩:=d2 _ b hb
     have:=v3 _ c hc
     have hj2:j - off < (a.eval y).cells.size:=by simpa using hjl
     simp [hj2] at this
     have:=this.down hcd (v2 _ (by simp))
     simpa using this.next hwS (fun _ h=> h)
   obtain ⟨u,hu,hu1,hu2⟩:=h6 j _ (List.getElem?_eq_getElem hj)
   refine ⟨u,?_,hu1,fun b hb=> ?_⟩
   · rw [List.getElem?_toArray,fa _ _ _ hcl,if_neg ab];simpa using hu
   rw [fa _ _ _ hfit,if_neg hin,List.getElem?_eq_getElem hj] at hb
   obtain rfl:=Option.some.inj hb
   exact hu2.next hwS (fun _ h=> h)
theorem IR {dd:Option Tmp} {ty:TypeId} (id:ay) (x y:Operand) (E:Elem P T e size bytes z) {kl kc:IntKind} {N M:Int} (hx:σ.eval x= .v (.int kl N)) (hy:σ.eval y= .v (.int kc M)) (n:Nat) (hN:N=(n:Int)) (hM:M=(n:Int)) (hb:n*bytes≤140737488355328) (hid:σ.ob id= .free) {xs:List PV} (hxs:(rep n z).map PV.v=xs):Stp P dd (Op.makeSlice T x y) ty σ (((σ.setOb id (.obj (.row e size xs))).put dd (.ref id 0 n))):=
 fun o hd ho ht=> by
   subst hd ht
   subst hxs;subst hN;subst hM
   intro K ι S a w R
   obtain ⟨i,zv,hi,hz,hs,hby,hzc⟩:=E.info
   have hm:n≤maxLen:=by
     have:n*1≤n*bytes:=Nat.mul_le_mul_left _ E.bpos
     unfold maxLen;omega
   have hl:=R.eval x
   rw [hx] at hl
   have hc:=R.eval y
   rw [hy] at hc
   obtain ⟨w',hr,h1,h2⟩:=run_make_full (P:=P) w w.heap.size T e i zv size E.und hi hz hs kl kc n (by rw [hby,Nat.mul_comm];omega) hm (Nat.le_refl _)
   rw [hzc,← E.len,qn _ _ (by rw [E.len];exact E.pos),E.len] at h1
   rcases h1.2 with ⟨h,_⟩ | ⟨g,cap,cur,he,hbg,hg,hnc,hcm,hcs,htake⟩
   · cases h
   simp only [Value.slice.injEq] at he
   obtain ⟨he,_,hcap⟩:=he
   obtain rfl:=hcap
   have hgw:w.heap.size=g:=by simpa using he
   subst hgw
   have hrun:(execOp a.eval o).run P w= .ok (.value (.slice (some ⟨w.heap.size,0,none⟩) n n)) w':=by simp [execOp,ho,hl.toV,hc.toV,hr,Result.andThen]
   refine bZ hrun (R.newRow hid (iC h2) e size n hg (Nat.le_refl _) (Nat.le_refl _) hm hcs (by simp [vz,E.len]) (fun j b hb=> ?_) _)
   simp only [List.getElem?_map] at hb
   obtain ⟨u,hu,rfl⟩:=Option.map_eq_some_iff.1 hb
   have h3:cur[j]? =some u:=by
     have:=congrArg (fun l=> l[j]?) htake
     simp only [hu] at this
     rw [List.getElem?_take] at this
     split at this
     · simpa using this
     cases this
   have h4:u.oneCell'=true:=by
     have:=List.mem_of_getElem? hu
     simp only [rep,List.mem_flatten,List.mem_replicate] at this
     obtain ⟨m,⟨_,rfl⟩,hm⟩:=this
     exact E.one u hm
   exact ⟨u,h3,h4, .v h4⟩
theorem jQ {dd:Option Tmp} {ty:TypeId} (id:ay) (len:Nat) (parts:Array (Nat×Operand)) (E:Elem P T e size bytes z) {r:List (List AV)} (hp:nq σ 0 parts.toList=some r) (hlen:r.length=len) (hsz: ∀ c∈r,c.length=size) (hb:len*size≤100000) (hid:σ.ob id= .free) {xs:List PV} (hxs:kh r.flatten=some xs):Stp P dd (.buildSlice T len parts) ty σ (((σ.setOb id (.obj (.row e size xs))).put dd (.ref id 0 len))):=
 fun o hd ho ht=> by
   subst hd ht
   intro K ι S a w R
   obtain ⟨vs,h1,h2,h3,h4,h5,h6⟩:=ky R _ _ _ hp
   obtain ⟨d1,d2⟩:=fS hxs
   have hvsz: ∀ v∈vs,v.cells.size=size:=by
     intro v hv
     obtain ⟨j,hj,rfl⟩:=List.getElem_of_mem hv
     have hjr:j < r.length:=by omega
     rw [h3 j _ _ (List.getElem?_eq_getElem hj) (List.getElem?_eq_getElem hjr)]
     exact hsz _ (List.getElem_mem hjr)
   obtain ⟨v',w',hr,H',hbl,hfr,_⟩:=zU (P:=P) (ρ:=a.eval) (SH.start w) len parts ho vs h1 ab hvsz _ rfl h5 hb
   have hrow:=H'.get (i:=0) (x:= .row v' e size len (vs.flatMap fun v=> v.cells.toList)) rfl
   have hxl:xs.length=len*size:=by
     have: ∀ (r:List (List AV)),(∀ c∈r,c.length=size)→r.flatten.length=r.length*size:=by
       intro r
       induction r with
       | nil=> simp
       | cons c r ih=>
         intro h
         rw [List.flatten_cons,List.length_append,ih fun c hc=> h c (List.mem_cons_of_mem _ hc),h c List.mem_cons_self,List.length_cons,Nat.add_mul,Nat.one_mul,Nat.add_comm]
     rw [← d1,this r hsz,hlen]
   rcases hrow.1.2 with ⟨hv,hx0⟩ | ⟨g,cap,cur,hv,hbg,hg,hnc,hcm,hcs,htake⟩
   · subst hv
     obtain rfl:len=0:=hx0
     obtain rfl:xs=[]:=List.eq_nil_of_length_eq_zero (by simpa using hxl)
     exact bZ hr (R.newNil hid hbl e size _)
   subst hv
   refine bZ hr (R.newRow hid hbl e size len hg hbg hnc hcm hcs hxl (fun j b hb=> ?_) _)
   obtain ⟨c,hc,hcd⟩:=d2 j b hb
   obtain ⟨u,hu,hru⟩:=h6 j c hc
   have h1u:u.oneCell'=true:=h5 u (List.mem_of_getElem? hu)
   refine ⟨u,?_,h1u,hru.down hcd h1u⟩
   have:=congrArg (fun l=> l[j]?) htake
   simp only [hu] at this
   rw [List.getElem?_take] at this
   split at this
   · simpa using this
   cases this
theorem cG {dd:Option Tmp} {ty:TypeId} (id':ay) (s x:Operand) (E:Elem P T e size bytes z) {id:ay} {n:Nat} {xs:List PV} (hs:σ.eval s= .ref id 0 n) (hid:σ.ob id= .obj (.row e size xs)) (hl:n*size=xs.length) {m:Nat} {news:List PV} (hx:SrcAV σ (σ.eval x) size m news) (hb:(n+m)*bytes≤140737488355328) (hid':σ.ob id'= .free) {ys:List PV} (hy:xs++news=ys) {k:Nat} (hk:n+m=k):Stp P dd (.call { callee:= .builtin .append,args:= #[s,x],argTypes:= #[T,T] }) ty σ (((((σ.setOb id .gone).setOb id' (.obj (.row e size ys))).setInc id' (σ.inc id)).put dd (.ref id' 0 k))):=
 fun o hd ho ht=> by
   subst hd ht
   subst hy;subst hk
   intro K ι S a w R
   obtain ⟨B,us,h1,hown,hul,hur,hblk⟩:=R.owns hid hs hl
   obtain ⟨vs,hsl,hvl,hvr⟩:=hx.src R E.pos
   obtain ⟨v',w',hr,h4,h5,_,h7⟩:=rI (P:=P) (T:=T) o.type 0 (a.eval s) n us hown (a.eval x) m vs hsl hb (Nat.zero_le _)
   have hrun:(execOp a.eval o).run P w= .ok (.value v') w':=by
     unfold execOp
     simp only [ho,resolve,invoke,builtin,Sem.run_bind,Sem.run_pure,Result.andThen_ok,List.map_toArray,List.map_cons,List.map_nil,hr]
   have hkeep:Keeps (fun g=> B.g=some g) w w':=(Keeps.grown h5).mono fun g hg=> (hblk g).1 hg
   have hwS: ∀ k,S k→w'.heap[k]? =w.heap[k]? :=fun k hk'=> hkeep.block k (R.Slt k hk') fun hg=> (R.sep id B k h1 hg).1 hk'
   have hcells: ∀ (j:Nat) (p:PV),(xs++news)[j]? =some p→ ∃ u,(us++vs)[j]? =some u∧u.oneCell'=true∧Rd S w' p u:=by
     intro j p hp
     rw [List.getElem?_append] at hp ⊢
     rw [hul]
     split at hp
     · rename_i hj
       rw [if_pos hj]
       obtain ⟨u,a1,a2,a3⟩:=hur j p hp
       exact ⟨u,a1,a2,a3.next hwS fun _ h=> h⟩
     rename_i hj
     rw [if_neg hj]
     obtain ⟨u,a1,a2,a3⟩:=hvr _ p hp
     exact ⟨u,a1,a2,a3.next hwS fun _ h=> h⟩
   have hlen:(us++vs).length=(xs++news).length:=by simp [hul,hvl]
   rcases kY h4 with ⟨hv,hn0,hu0⟩ | ⟨g,c,cur,hv,hg,hnc,hcm,hcs,hcu⟩
   · subst hv
     have R1:=R.moved (id':=id') (o':= .row e size (xs++news)) (B':=⟨none,0,size⟩) hid hid' h1 hkeep (fun g hg=> by cases hg)
       ⟨_,cm _ _ _,rfl, .inl ⟨rfl,by rw [← hlen,hu0];rfl,rfl⟩⟩ (fun i hi=> hi.elim)
     refine bZ hrun ⟨_,S,R1.put o.dst (.ref (fun B2 hB2=> ?_) rfl) fun i hi=> ?_⟩
     · rw [cm] at hB2
       obtain rfl:=Option.some.inj hB2
       exact ⟨0,by omega,by unfold maxLen;omega,rfl,hn0,rfl⟩
     cases hi;show ((σ.setOb id .gone).setOb id' _).ob id'≠_;rw [St.setOb_same];intro h;cases h
   subst hv
   have hle:(xs++news).length≤cur.size:=by
     rw [← hlen]
     have:=h4.1
     rw [this,hcs]
     exact Nat.mul_le_mul_right _ hnc
   have R1:=R.moved (id':=id') (o':= .row e size (xs++news)) (B':=⟨some g,cur.size,size⟩) hid hid' h1 hkeep (fun g' hg'=> by
       obtain rfl:=Option.some.inj hg'
       rcases h7 with h | ⟨k,hk,hle⟩
       · exact .inl ((hblk g).1 (by rw [← h];rfl))
       right
       simp [Value.ownBlock] at hk
       omega)
     ⟨_,cm _ _ _,rfl, .inr ⟨g,cur,rfl,hg,rfl,hle,fun j hj=> by
       obtain ⟨u,a1,a2,a3⟩:=hcells j _ (List.getElem?_eq_getElem hj)
       refine ⟨u,hcu j u a1,a2,fun p hp=> ?_⟩
       rw [List.getElem?_eq_getElem hj] at hp
       obtain rfl:=Option.some.inj hp
       exact a3⟩⟩ (fun i hi=> hi.elim)
   refine bZ hrun ⟨_,S,R1.put o.dst (.ref (fun B2 hB2=> ?_) rfl) fun i hi=> ?_⟩
   · rw [cm] at hB2
     obtain rfl:=Option.some.inj hB2
     exact ⟨c,hnc,hcm,0,rfl, .inl rfl,by simp [hcs]⟩
   cases hi;show ((σ.setOb id .gone).setOb id' _).ob id'≠_;rw [St.setOb_same];intro h;cases h
theorem vy {dd:Option Tmp} {ty:TypeId} (id':ay) (s x:Operand) (E:Elem P T e size bytes z) (hs:σ.eval s= .v (.slice none 0 0)) {m:Nat} {news:List PV} (hx:SrcAV σ (σ.eval x) size m news) (hb:m*bytes≤140737488355328) (hid':σ.ob id'= .free):Stp P dd (.call { callee:= .builtin .append,args:= #[s,x],argTypes:= #[T,T] }) ty σ (((σ.setOb id' (.obj (.row e size news))).put dd (.ref id' 0 m))):=
 fun o hd ho ht=> by
   subst hd ht
   intro K ι S a w R
   have hv:=R.eval s
   rw [hs] at hv
   have hv:=hv.toV
   obtain ⟨vs,hsl,hvl,hvr⟩:=hx.src R E.pos
   obtain ⟨v',w',hr,h4,h5,_,h7⟩:=rI (P:=P) (T:=T) o.type 0 (.slice none 0 0) 0 [] (World.ownsRow_nil _ _ _ _) (a.eval x) m vs hsl (by simpa using hb) (Nat.zero_le _)
   have hrun:(execOp a.eval o).run P w= .ok (.value v') w':=by
     unfold execOp
     simp only [ho,resolve,invoke,builtin,Sem.run_bind,Sem.run_pure,Result.andThen_ok,List.map_toArray,List.map_cons,List.map_nil,hv,hr]
   simp only [List.nil_append,Nat.zero_add] at h4
   have hbl:Below w.heap.size w w':=iC (by simpa [Value.ownBlock] using h5)
   rcases kY h4 with ⟨hv',hn0,hu0⟩ | ⟨g,c,cur,hv',hg,hnc,hcm,hcs,hcu⟩
   · subst hv'
     have:news=[]:=List.eq_nil_of_length_eq_zero (by rw [← hvl,hu0];rfl)
     subst this;subst hn0
     exact bZ hrun (R.newNil hid' hbl e size _)
   subst hv'
   refine bZ hrun (R.newRow hid' hbl e size m hg ?_ hnc hcm hcs (by rw [← hvl];exact h4.1) (fun j b hb'=> ?_) _)
   · rcases h7 with h | ⟨k,hk,hle⟩
     · simp [Value.ownBlock] at h
     simp [Value.ownBlock] at hk;omega
   obtain ⟨u,a1,a2,a3⟩:=hvr j b hb'
   exact ⟨u,hcu j u a1,a2,a3⟩
theorem lI {dd:Option Tmp} {ty:TypeId} (x:Operand) (lo hi:Option Operand) (E:Elem P T e size bytes z) {n:Nat} {xs:List PV} (hx:σ.eval x= .sl n xs) (lv hv:Nat) (hl:Bnd σ 0 lo lv) (hh:Bnd σ n hi hv) (h1:lv≤hv) (h2:hv≤n) {ys:List PV} (hy:(xs.drop (lv*size)).take ((hv - lv)*size)=ys) {k:Nat} (hk:hv - lv=k):Stp P dd (.slice T x lo hi none) ty σ ((σ.put dd (.sl k ys))):=
 fun o hd ho ht=> by
   subst hd ht
   subst hy;subst hk
   refine bs fun K ι S a w R=> ?_
   have hp:=R.eval x
   rw [hx] at hp
   cases hp with
   | sl h=>
     generalize hve:a.eval x=v at h
     cases h with
     | sl0 h0 h3 h4=>
       refine ⟨_,gK w E x lo hi ho hve h0 lv hv (hl.real R) (hh.real R) h1 h2, .sl ?_,fun _=> sN⟩
       rw [show (([]:List PV).drop (lv*size)).take ((hv - lv)*size)=[] by simp]
       refine .sl0 ab ab fun hn=> ?_
       split at hn
       · have:=h4 hn;omega
       rw [Option.map_eq_none_iff] at hn
       have:=h4 hn;omega
     | sl us h0 h3 hS h4 h5=>
       refine ⟨_,gK w E x lo hi ho hve h0 lv hv (hl.real R) (hh.real R) h1 h2, .sl ?_,fun _=> sN⟩
       by_cases hc:(hv - lv)*size=0
       · rw [hc,List.take_zero]
         refine .sl0 ab ab fun hn=> ?_
         split at hn <;> cases hn
       have hpos:0 < hv - lv:=by
         rcases Nat.eq_zero_or_pos (hv - lv) with h | h
         · simp [h] at hc
         exact h
       rw [if_neg ab]
       simp only [Option.map_some,Addr.add_lit]
       refine .sl (fun j=> us (lv*size+j)) ab ab hS (fun j p hp=> ?_) fun j p hp=> ?_
       · rw [List.getElem?_take] at hp
         split at hp
         · rw [List.getElem?_drop] at hp
           rw [Nat.add_assoc];exact h4 _ p hp
         cases hp
       rw [List.getElem?_take] at hp
       split at hp
       · rw [List.getElem?_drop] at hp
         exact h5 _ p hp
       cases hp
theorem AZ {dd:Option Tmp} {ty:TypeId} (x:Operand) (lo hi:Option Operand) (E:Elem P T e size bytes z) {id:ay} {of0 n:Nat} {xs:List PV} (hx:σ.eval x= .ref id of0 n) (hid:σ.ob id= .obj (.row e size xs)) (lv hv:Nat) (hl:Bnd σ 0 lo lv) (hh:Bnd σ n hi hv) (h1:lv≤hv) (h2:hv≤n) {off:Nat} (hoff:of0+lv*size=off) {k:Nat} (hk:hv - lv=k):Stp P dd (.slice T x lo hi none) ty σ ((σ.put dd (.ref id off k))):=
 fun o hd ho ht=> by
   subst hd ht
   subst hoff;subst hk
   refine bs fun K ι S a w R=> ?_
   obtain ⟨B,h3,h4,⟨c,h5,h6,h7⟩,_⟩:=R.refB hid hx
   cases hg:B.g with
   | none=>
     rw [hg] at h7
     obtain ⟨h8,rfl,rfl⟩:=h7
     refine ⟨_,gK w E x lo hi ho h8 (Nat.le_refl _) lv hv (hl.real R) (hh.real R) h1 h2, .ref (fun B' hB'=> ?_) rfl,fun i h=> R.evalHas x (by rw [hx];cases h;exact .ref)⟩
     rw [h3] at hB'
     obtain rfl:=Option.some.inj hB'
     refine ⟨0,by omega,by unfold maxLen;omega,?_⟩
     rw [hg]
     refine ⟨?_,by omega,rfl⟩
     simp only [Option.map_none,ite_self,Value.slice.injEq,true_and]
     omega
   | some g=>
     rw [hg] at h7
     obtain ⟨o',h8,h9,h10⟩:=h7
     refine ⟨_,gK w E x lo hi ho h8 h5 lv hv (hl.real R) (hh.real R) h1 h2, .ref (fun B' hB'=> ?_) rfl,fun i h=> R.evalHas x (by rw [hx];cases h;exact .ref)⟩
     rw [h3] at hB'
     obtain rfl:=Option.some.inj hB'
     refine ⟨c - lv,by omega,by omega,?_⟩
     rw [hg]
     have hz:=E.pos
     have hsum:of0+lv*size+(c - lv)*B.sz=B.tot:=by
       rw [h4,Nat.add_assoc,← Nat.add_mul,show lv+(c - lv)=c by omega,← h4];exact h10
     by_cases hc:c=lv
     · rw [if_pos hc]
       refine ⟨o',rfl,?_,hsum⟩
       by_cases hz0:of0+lv*size=o'
       · exact .inl hz0.symm
       refine .inr ⟨by omega,?_⟩
       rcases h9 with h9 | ⟨_,h9⟩
       · have:lv≠0:=fun h=> hz0 (by rw [h,h9];simp)
         have:=Nat.mul_pos (Nat.pos_of_ne_zero this) hz
         omega
       omega
     rw [if_neg hc]
     refine ⟨o'+lv*size,by simp [Addr.add_lit],?_,hsum⟩
     left
     rcases h9 with h9 | ⟨h9,_⟩
     · rw [h9]
     omega
theorem ca {dd:Option Tmp} {ty:TypeId} {r:Bool} (x y:Operand) (hx:σ.eval x= .v (.int k a)) (hy:σ.eval y= .v (.int k b)) (hr:(a==b)=r):Stp P dd (.binOp .eql t x y t') ty σ ((σ.put dd (.v (.bool r)))):=
 fun o hd ho ht=> by
   subst hd ht
   exact fc ho hx hy fun ρ w hx hy=> by subst hr;simp [execOp,ho,hx,hy,eqGuard,go_sem]
theorem dv {dd:Option Tmp} {ty:TypeId} {r:Bool} (x y:Operand) (hx:σ.eval x= .v (.int k a)) (hy:σ.eval y= .v (.int k b)) (hr:(a !=b)=r):Stp P dd (.binOp .neq t x y t') ty σ ((σ.put dd (.v (.bool r)))):=
 fun o hd ho ht=> by
   subst hd ht
   exact fc ho hx hy fun ρ w hx hy=> by subst hr;simp [execOp,ho,hx,hy,eqGuard,go_sem]
theorem dg {dd:Option Tmp} {ty:TypeId} {r:Bool} (x y:Operand) (hx:σ.eval x= .v (.int k a)) (hy:σ.eval y= .v (.int k b)) (hr:decide (a < b)=r):Stp P dd (.binOp .lss t x y t') ty σ ((σ.put dd (.v (.bool r)))):=
 fun o hd ho ht=> by
   subst hd ht
   exact fc ho hx hy fun ρ w hx hy=> by subst hr;simp [execOp,ho,hx,hy,eqGuard,go_sem]
theorem bn {dd:Option Tmp} {ty:TypeId} {r:Bool} (x y:Operand) (hx:σ.eval x= .v (.int k a)) (hy:σ.eval y= .v (.int k b)) (hr:decide (a≤b)=r):Stp P dd (.binOp .leq t x y t') ty σ ((σ.put dd (.v (.bool r)))):=
 fun o hd ho ht=> by
   subst hd ht
   exact fc ho hx hy fun ρ w hx hy=> by subst hr;simp [execOp,ho,hx,hy,eqGuard,go_sem]
theorem du {dd:Option Tmp} {ty:TypeId} {r:Bool} (x y:Operand) (hx:σ.eval x= .v (.int k a)) (hy:σ.eval y= .v (.int k b)) (hr:decide (b < a)=r):Stp P dd (.binOp .gtr t x y t') ty σ ((σ.put dd (.v (.bool r)))):=
 fun o hd ho ht=> by
   subst hd ht
   exact fc ho hx hy fun ρ w hx hy=> by subst hr;simp [execOp,ho,hx,hy,eqGuard,go_sem]
theorem cf {dd:Option Tmp} {ty:TypeId} {r:Bool} (x y:Operand) (hx:σ.eval x= .v (.int k a)) (hy:σ.eval y= .v (.int k b)) (hr:decide (b≤a)=r):Stp P dd (.binOp .geq t x y t') ty σ ((σ.put dd (.v (.bool r)))):=
 fun o hd ho ht=> by
   subst hd ht
   exact fc ho hx hy fun ρ w hx hy=> by subst hr;simp [execOp,ho,hx,hy,eqGuard,go_sem]
theorem dL {dd:Option Tmp} {ty:TypeId} {r:Int} (x y:Operand) (hx:σ.eval x= .v (.int k a)) (hy:σ.eval y= .v (.int k b)) (hr:k.wrap (a+b)=r):Stp P dd (.binOp .add t x y t') ty σ ((σ.put dd (.v (.int k r)))):=
 fun o hd ho ht=> by
   subst hd ht
   exact fc ho hx hy fun ρ w hx hy=> by subst hr;simp [execOp,ho,hx,hy,eqGuard,go_sem]
theorem bB {dd:Option Tmp} {ty:TypeId} {r:Int} (x y:Operand) (hx:σ.eval x= .v (.int k a)) (hy:σ.eval y= .v (.int k b)) (hr:k.wrap (a - b)=r):Stp P dd (.binOp .sub t x y t') ty σ ((σ.put dd (.v (.int k r)))):=
 fun o hd ho ht=> by
   subst hd ht
   exact fc ho hx hy fun ρ w hx hy=> by subst hr;simp [execOp,ho,hx,hy,eqGuard,go_sem]
theorem ze {dd:Option Tmp} {ty:TypeId} {r:Int} (x y:Operand) (hx:σ.eval x= .v (.int k a)) (hy:σ.eval y= .v (.int k b)) (hr:k.wrap (a*b)=r):Stp P dd (.binOp .mul t x y t') ty σ ((σ.put dd (.v (.int k r)))):=
 fun o hd ho ht=> by
   subst hd ht
   exact fc ho hx hy fun ρ w hx hy=> by subst hr;simp [execOp,ho,hx,hy,eqGuard,go_sem]
theorem Gi {dd:Option Tmp} {ty:TypeId} {r:Int} (x y:Operand) (hx:σ.eval x= .v (.int k a)) (hy:σ.eval y= .v (.int k b)) (hb:b≠0) (hr:k.wrap (a.tdiv b)=r):Stp P dd (.binOp .quo t x y t') ty σ ((σ.put dd (.v (.int k r)))):=
 fun o hd ho ht=> by
   subst hd ht
   exact fc ho hx hy fun ρ w hx hy=> by subst hr;simp [execOp,ho,hx,hy,eqGuard,go_sem,hb]
theorem cA {dd:Option Tmp} {ty:TypeId} {r:Int} (x y:Operand) (hx:σ.eval x= .v (.int k a)) (hy:σ.eval y= .v (.int k b)) (hb:b≠0) (hr:a.tmod b=r):Stp P dd (.binOp .rem t x y t') ty σ ((σ.put dd (.v (.int k r)))):=
 fun o hd ho ht=> by
   subst hd ht
   exact fc ho hx hy fun ρ w hx hy=> by subst hr;simp [execOp,ho,hx,hy,eqGuard,go_sem,hb]
theorem lP {dd:Option Tmp} {ty:TypeId} {p r:Bool} (x:Operand) (hx:σ.eval x= .v (.bool p)) (hr:(!p)=r):Stp P dd (.unOp .not t x) ty σ ((σ.put dd (.v (.bool r)))):=
 fun o hd ho ht=> by
   subst hd ht
   exact Fq ho hx fun ρ w hx=> by subst hr;simp [execOp,ho,hx,go_sem]
theorem vF {dd:Option Tmp} {ty:TypeId} {r:Int} (x:Operand) (hx:σ.eval x= .v (.int k a)) (hr:k.wrap (-a)=r):Stp P dd (.unOp .neg t x) ty σ ((σ.put dd (.v (.int k r)))):=
 fun o hd ho ht=> by
   subst hd ht
   exact Fq ho hx fun ρ w hx=> by subst hr;simp [execOp,ho,hx,go_sem]

theorem ai {rb:Bool} {Q:Exit→St→Prop} {ops:Array Oper} {rest:List Oper} {σ':St} {d:Option Tmp} {op:Op} {ty:TypeId} {p:String} {af:Array Edge} (hs:Stp P d op ty σ σ') (h:DL rb P ops Q rest σ'):DL rb P ops Q (⟨d,op,ty,p,af,none⟩::rest) σ:=
 Dj rfl (hs _ rfl rfl rfl) h
theorem aZ {rb:Bool} {Q:Exit→St→Prop} {ops:Array Oper} {rest:List Oper} {σ':St} {d:Option Tmp} {op:Op} {ty:TypeId} {p:String} {af:Array Edge} {j d':Nat} {want:Bool} (hd:(ops[j]?).bind (·.dst)=some d') (hv:σ.eval (.tmp d')= .v (.bool want)) (hs:Stp P d op ty σ σ') (h:DL rb P ops Q rest σ'):DL rb P ops Q (⟨d,op,ty,p,af,some (j,want)⟩::rest) σ:=
 FK rfl hd hv (hs _ rfl rfl rfl) h
theorem Jd {rb:Bool} {Q:Exit→St→Prop} {ops:Array Oper} {rest:List Oper} {d:Option Tmp} {op:Op} {ty:TypeId} {p:String} {af:Array Edge} {j d':Nat} {want b:Bool} (hd:(ops[j]?).bind (·.dst)=some d') (hv:σ.eval (.tmp d')= .v (.bool b)) (hne:b≠want) (h:DL rb P ops Q rest (σ.put d (.v undef))):DL rb P ops Q (⟨d,op,ty,p,af,some (j,want)⟩::rest) σ:=
 Aj rfl hd hv (fun e=> hne (by cases e;rfl)) h
theorem Id {rb:Bool} {Q:Exit→St→Prop} {ops:Array Oper} {rest:List Oper} {d:Option Tmp} {op:Op} {ty:TypeId} {p:String} {af:Array Edge} {j d':Nat} {want:Bool} (hd:(ops[j]?).bind (·.dst)=some d') (hv:σ.eval (.tmp d')= .v undef) (h:DL rb P ops Q rest (σ.put d (.v undef))):DL rb P ops Q (⟨d,op,ty,p,af,some (j,want)⟩::rest) σ:=
 Aj rfl hd hv (fun e=> by cases e) h
theorem dH {rb:Bool} {Q:Exit→St→Prop} {c:Operand} {x y:Code} {t:Bool} (hc:σ.eval c= .v (.bool t)) (ht:t=true) (h:D rb P x Q σ):D rb P (.cond c x y) Q σ:=by subst ht;exact rq hc h
theorem cd {rb:Bool} {Q:Exit→St→Prop} {c:Operand} {x y:Code} {t:Bool} (hc:σ.eval c= .v (.bool t)) (ht:t=false) (h:D rb P y Q σ):D rb P (.cond c x y) Q σ:=by subst ht;exact oD hc h
theorem EW {rb:Bool} {Q:Exit→St→Prop} {c:Operand} {x y:Code} {t:Bool} (hc:σ.eval c= .v (.bool t)) (h:t=true→D rb P x Q σ) (h':t=false→D rb P y Q σ):D rb P (.cond c x y) Q σ:=by
 cases t
 ·exact oD hc (h' rfl)
 exact rq hc (h rfl)

theorem aJ {all:List Oper} {W:List Nat} {I:List ay} {AA:List (List ay)} {Kont:List Res→Prop} {os:List Oper} {rs:List Res} {d:Option Tmp} {op:Op} {ty:TypeId} {p:String} {af:List Edge} (r:Res)
  (hs: ∀ τ,Stp P d op ty (dO σ W (iK AA I rs.length) (r.2.map (·.1)) all rs (Edge.ons af) τ) (r.app d (dO σ W (iK AA I rs.length) (r.2.map (·.1)) all rs (Edge.ons af) τ))) (h:AnyOps P all W I AA σ Kont os (rs++[r])):AnyOps P all W I AA σ Kont (⟨d,op,ty,p,af.toArray,none⟩::os) rs:=
 ⟨r, .plain rfl fun τ=> hs τ _ rfl rfl rfl,h⟩
theorem eT {all:List Oper} {W:List Nat} {I:List ay} {AA:List (List ay)} {Kont:List Res→Prop} {os:List Oper} {rs:List Res} {d:Option Tmp} {op:Op} {ty:TypeId} {p:String} {af:List Edge} {j d':Nat} {want:Bool} (r:Res) (hd:(all[j]?).bind (·.dst)=some d')
  (hv: ∀ τ,(dO σ W (iK AA I rs.length) (r.2.map (·.1)) all rs (Edge.ons af) τ).eval (.tmp d')= .v (.bool want))
  (hs: ∀ τ,Stp P d op ty (dO σ W (iK AA I rs.length) (r.2.map (·.1)) all rs (Edge.ons af) τ) (r.app d (dO σ W (iK AA I rs.length) (r.2.map (·.1)) all rs (Edge.ons af) τ))) (h:AnyOps P all W I AA σ Kont os (rs++[r])):AnyOps P all W I AA σ Kont (⟨d,op,ty,p,af.toArray,some (j,want)⟩::os) rs:=
 ⟨r, .yes rfl hd hv fun τ=> hs τ _ rfl rfl rfl,h⟩
theorem Gd {all:List Oper} {W:List Nat} {I:List ay} {AA:List (List ay)} {Kont:List Res→Prop} {os:List Oper} {rs:List Res} {d:Option Tmp} {op:Op} {ty:TypeId} {p:String} {af:List Edge} {j d':Nat} {want b:Bool} (hd:(all[j]?).bind (·.dst)=some d')
  (hv: ∀ τ,(dO σ W (iK AA I rs.length) [] all rs (Edge.ons af) τ).eval (.tmp d')= .v (.bool b)) (hb:b≠want) (h:AnyOps P all W I AA σ Kont os (rs++[(.v undef,[])])):AnyOps P all W I AA σ Kont (⟨d,op,ty,p,af.toArray,some (j,want)⟩::os) rs:=
 ⟨_, .no rfl hd hv (fun e=> hb (by cases e;rfl)),h⟩
theorem Hi {all:List Oper} {W:List Nat} {I:List ay} {AA:List (List ay)} {Kont:List Res→Prop} {os:List Oper} {rs:List Res} {d:Option Tmp} {op:Op} {ty:TypeId} {p:String} {af:List Edge} {j d':Nat} {want:Bool} (hd:(all[j]?).bind (·.dst)=some d')
  (hv: ∀ τ,(dO σ W (iK AA I rs.length) [] all rs (Edge.ons af) τ).eval (.tmp d')= .v undef) (h:AnyOps P all W I AA σ Kont os (rs++[(.v undef,[])])):AnyOps P all W I AA σ Kont (⟨d,op,ty,p,af.toArray,some (j,want)⟩::os) rs:=
 ⟨_, .no rfl hd hv (fun e=> by cases e),h⟩
theorem cD {all:List Oper} {W:List Nat} {I:List ay} {AA:List (List ay)} {Kont:List Res→Prop} {rs:List Res} (h:Kont rs):AnyOps P all W I AA σ Kont [] rs:=h
end


mutual
def AV.within (ids:List ay):AV→Bool
 | .ref i _ _=> cj i ids
 | .ptr i _=> cj i ids
 | .mp i=> cj i ids
 | .agg xs=> AV.withins ids xs
 | .fn _ xs ys=> AV.withins ids xs && AV.withins ids ys
 | .ifc _ a=> a.within ids
 | .tup xs=> AV.withins ids xs
 | _=> true
def AV.withins (ids:List ay):List AV→Bool
 | []=> true
 | a::l=> a.within ids && AV.withins ids l
end
mutual
theorem eF {id:ay} {ids:List ay}: ∀ (a:AV),a.within ids=true→Has id a→id∈ids
 | .dead,_,h=> by cases h
 | .v _,_,h=> by cases h
 | .sl _ _,_,h=> by cases h
 | .fp _ _,_,h=> by cases h
 | .z,_,h=> by cases h
 | .mp _,hp,h=> by cases h;exact inO_iff.1 hp
 | .ref _ _ _,hp,h=> by cases h;exact inO_iff.1 hp
 | .ptr _ _,hp,h=> by cases h;exact inO_iff.1 hp
 | .agg xs,hp,h=> by
  simp only [AV.within] at hp
  cases h with
  | agg hm h=> exact dY xs hp _ hm h
 | .fn f xs ys,hp,h=> by
  simp only [AV.within,Bool.and_eq_true] at hp
  cases h with
  | fn1 hm h=> exact dY xs hp.1 _ hm h
  | fn2 hm h=> exact dY ys hp.2 _ hm h
 | .ifc t a,hp,h=> by
  simp only [AV.within] at hp
  cases h with
  | ifc h=> exact eF a hp h
 | .tup xs,hp,h=> by
  simp only [AV.within] at hp
  cases h with
  | tup hm h=> exact dY xs hp _ hm h
theorem dY {id:ay} {ids:List ay}: ∀ (l:List AV),AV.withins ids l=true→ ∀ a∈l,Has id a→id∈ids
 | [],_,a,h,_=> by simp at h
 | b::l,hp,a,h,hh=> by
  simp only [AV.withins,Bool.and_eq_true] at hp
  rcases List.mem_cons.1 h with h0 | h
  ·rw [h0] at hh;exact eF b hp.1 hh
  exact dY l hp.2 a h hh
end
def Cells.within (ids:List ay):Cells→Bool
 | .row _ _ _=> true
 | .box _ xs=> AV.withins ids xs
 | .rowA _ _ xs=> AV.withins ids xs
 | .mp _ _=> true
 | .it m _ _ _=> cj m ids
def aY (ids:List ay):List (ay×Cells)→Bool
 | []=> true
 | (_,o)::l=> o.within ids && aY ids l
def eA (ids:List ay):List (Nat×AV)→Bool
 | []=> true
 | (_,a)::l=> a.within ids && eA ids l
def bf:List ay→Bool
 | []=> true
 | x::l=> !cj x l && bf l
theorem bD: ∀ {l:List ay},bf l=true→l.Nodup
 | [],_=> .nil
 | x::l,h=> by
  simp only [bf,Bool.and_eq_true,Bool.not_eq_true'] at h
  refine List.nodup_cons.2 ⟨fun hm=> ?_,bD h.2⟩
  rw [inO_iff.2 hm] at h;cases h.1

def aR:List (ay×ay)→ay→ay
 | [],i=> i
 | (k,j)::l,i=> bif gh i k then j else aR l i

def pe (ρ:ay→ay) (σ:St) (F:ay→Bool):List (Nat×AV)→Prop
 | []=> True
 | (t,a)::l=> Lv ρ σ F a (σ.fr t)∧pe ρ σ F l
def lA (ρ:ay→ay) (σ:St) (F:ay→Bool):List (ay×Cells)→Prop
 | []=> True
 | (i,o)::l=> (F (ρ i)=false∧(∃ o2,σ.ob (ρ i)= .obj o2∧LvO ρ σ F o o2)∧σ.inc (ρ i)=false)∧lA ρ σ F l
def ft (σ:St):List ay→Prop
 | []=> True
 | i::l=> σ.inc i=false∧ft σ l

theorem rC {ρ:ay→ay} {σ:St} {F:ay→Bool}: ∀ {l:List (Nat×AV)},pe ρ σ F l→ ∀ t,Lv ρ σ F (tN l t) (σ.fr t)
 | [],_,t=> .dead
 | (k,a)::l,h,t=> by
  simp only [tN]
  cases hb:Nat.beq t k with
  | true=> simp only [cond_true];rw [Nat.eq_of_beq_eq_true hb];exact h.1
  | false=> simp only [cond_false];exact rC h.2 t
theorem dw: ∀ {l:List (ay×Cells)} {i:ay} {o:Cells},jn l i= .obj o→(i,o)∈l
 | [],i,o,h=> by simp [jn] at h
 | (k,c)::l,i,o,h=> by
  simp only [jn] at h
  cases hb:gh i k with
  | true=> rw [hb] at h;simp at h;subst h;rw [oeq_iff.1 hb];exact List.mem_cons_self
  | false=> rw [hb] at h;exact List.mem_cons_of_mem _ (dw (by simpa using h))
theorem gI: ∀ {l:List (ay×Cells)} {i:ay},i∈l.map (·.1)→jn l i≠ .free
 | [],i,h=> by simp at h
 | (k,c)::l,i,h=> by
  simp only [jn]
  cases hb:gh i k with
  | true=> simp
  | false=>
   simp only [cond_false]
   refine gI ?_
   simp only [List.map_cons,List.mem_cons] at h
   rcases h with h | h
   ·rw [h,dE] at hb;cases hb
   exact h
theorem jB {ρ:ay→ay} {σ:St} {F:ay→Bool}: ∀ {l:List (ay×Cells)},lA ρ σ F l→ ∀ {i o},(i,o)∈l→F (ρ i)=false∧(∃ o2,σ.ob (ρ i)= .obj o2∧LvO ρ σ F o o2)∧σ.inc (ρ i)=false
 | [],_,i,o,h=> by simp at h
 | (k,c)::l,h,i,o,hm=> by
  rcases List.mem_cons.1 hm with h0 | hm
  ·obtain ⟨rfl,rfl⟩:=Prod.mk.inj h0;exact h.1
  exact jB h.2 hm
theorem mV {ids:List ay}: ∀ {l:List (Nat×AV)},eA ids l=true→ ∀ {t id},Has id (tN l t)→id∈ids
 | [],_,t,id,h=> by simp only [tN] at h;cases h
 | (k,a)::l,hw,t,id,h=> by
  simp only [eA,Bool.and_eq_true] at hw
  simp only [tN] at h
  cases hb:Nat.beq t k with
  | true=> rw [hb] at h;exact eF a hw.1 h
  | false=> rw [hb] at h;exact mV hw.2 (by simpa using h)
theorem gd {ids:List ay}: ∀ {l:List (ay×Cells)},aY ids l=true→ ∀ {i o id},(i,o)∈l→o.Has id→id∈ids
 | [],_,i,o,id,h,_=> by simp at h
 | (k,c)::l,hw,i,o,id,h,hh=> by
  simp only [aY,Bool.and_eq_true] at hw
  rcases List.mem_cons.1 h with h0 | h
  ·obtain ⟨rfl,rfl⟩:=Prod.mk.inj h0
   cases o with
   | row _ _ _=> exact hh.elim
   | rowA e sz xs=>
    obtain ⟨a,ha,hi⟩:=hh
    exact dY xs hw.1 a ha hi
   | box e xs=>
    obtain ⟨a,ha,hi⟩:=hh
    exact dY xs hw.1 a ha hi
   | mp _ _=> exact hh.elim
   | it m _ _ _=>
    have:id=m:=hh
    subst this
    exact inO_iff.1 hw.1
  exact gd hw.2 h hh

theorem gJ {α β:Type} (f:α→β): ∀ {l:List α},(l.map f).Nodup→ ∀ {a b},a∈l→b∈l→f a=f b→a=b
 | [],_,a,b,h,_,_=> by simp at h
 | x::l,hn,a,b,ha,hb,he=> by
  simp only [List.map_cons,List.nodup_cons] at hn
  rcases List.mem_cons.1 ha with h1 | h1 <;> rcases List.mem_cons.1 hb with h2 | h2
  ·rw [h1,h2]
  ·exact absurd (by rw [← h1,he];exact List.mem_map_of_mem h2) hn.1
  ·exact absurd (by rw [← h2,← he];exact List.mem_map_of_mem h1) hn.1
  exact gJ f hn.2 h1 h2 he

theorem Le.gen {σ:St} {n:Nat} {fr:Nat→AV} {obs:List (ay×Cells)} (rn:List (ay×ay)) (Fz:List ay) (hn:σ.n=n) (hfr: ∀ t,Lv (aR rn) σ (fun i=> cj i Fz) (fr t) (σ.fr t)) (hw1: ∀ t id,Has id (fr t)→id∈obs.map (·.1)) (hw2:aY (obs.map (·.1)) obs=true)
  (hd:bf ((obs.map (·.1)).map (aR rn))=true) (hi:ft σ Fz) (ho:lA (aR rn) σ (fun i=> cj i Fz) obs):Le ⟨n,fr,jn obs,fun _=> false,fun _=> none⟩ σ:=by
 refine Le.of (aR rn) (fun i=> cj i Fz) hn.symm (fun t _=> hfr t) (fun id o h=> ?_) (fun id id' o o' h h' he=> ?_) (fun id h=> ?_) (fun id o h _=> (jB ho (dw h)).2.2) (fun t id h=> gI (hw1 t id h)) (fun id' o id h hh=> gI (gd hw2 (dw h) hh)) (fun id h o hp=> by cases hp) (fun _ _=> rfl)
 ·exact ⟨(jB ho (dw h)).1,(jB ho (dw h)).2.1⟩
 ·exact gJ (aR rn) (bD hd) (List.mem_map_of_mem (f:=(·.1)) (dw h)) (List.mem_map_of_mem (f:=(·.1)) (dw h')) he
 have: ∀ {l:List ay},ft σ l→id∈l→σ.inc id=false:=by
  intro l
  induction l with
  | nil=> intro _ h;simp at h
  | cons x l ih=>
   intro hl hm
   rcases List.mem_cons.1 hm with rfl | hm
   ·exact hl.1
   exact ih hl.2 hm
 exact this hi (inO_iff.1 h)

theorem Le.mk {σ:St} {n:Nat} {slots:List (Nat×AV)} {obs:List (ay×Cells)} (rn:List (ay×ay)) (Fz:List ay) (hn:σ.n=n) (hs:pe (aR rn) σ (fun i=> cj i Fz) slots) (hw1:eA (obs.map (·.1)) slots=true) (hw2:aY (obs.map (·.1)) obs=true)
  (hd:bf ((obs.map (·.1)).map (aR rn))=true) (hi:ft σ Fz) (ho:lA (aR rn) σ (fun i=> cj i Fz) obs):Le (Lg n slots obs) σ:=
 Le.gen rn Fz hn (rC hs) (fun _ _ h=> mV hw1 h) hw2 hd hi ho
theorem Le.out {σ:St} {r r':AV} {obs:List (ay×Cells)} (rn:List (ay×ay)) (Fz:List ay) (hr:Lv (aR rn) (eg r σ) (fun i=> cj i Fz) r' r) (hw1:r'.within (obs.map (·.1))=true) (hw2:aY (obs.map (·.1)) obs=true)
  (hd:bf ((obs.map (·.1)).map (aR rn))=true) (hi:ft σ Fz) (ho:lA (aR rn) (eg r σ) (fun i=> cj i Fz) obs):Le (aG r' obs) (eg r σ):=by
 have hi':ft (eg r σ) Fz:=by
  have: ∀ l:List ay,ft σ l→ft (eg r σ) l:=by
   intro l
   induction l with
   | nil=> intro h;exact h
   | cons x l ih=> intro h;exact ⟨h.1,ih h.2⟩
  exact this Fz hi
 refine Le.gen (n:=1) rn Fz rfl (fun t=> ?_) (fun t id h=> ?_) hw2 hd hi' ho
 ·show Lv _ _ _ _ (bif Nat.beq t 0 then r else .dead)
  cases hb:Nat.beq t 0 with
  | true=> exact hr
  | false=> exact .dead
 cases hb:Nat.beq t 0 with
 | true=> rw [hb] at h;exact eF r' hw1 h
 | false=> rw [hb] at h;cases h

theorem LvO.rowE {ρ:ay→ay} {σ:St} {F:ay→Bool} {e:TypeId} {sz:Nat} {xs ys:List PV} (h:ys=xs):LvO ρ σ F (.row e sz xs) (.row e sz ys):= .row (zs:=[]) (by simp [h])
theorem EA {rb:Bool} {P:Program} {Q:Exit→St→Prop} {σ:St} {c:Code} {α:Type} (I:α→Prop) (F:α→St) (μ:α→Nat) (x0:α) (hI:I x0) (h0:Le (F x0) σ) (round: ∀ x,I x→D rb P c (gB (fun σ'=> ∃ y,I y∧Le (F y) σ'∧μ y < μ x) Q) (F x)):D rb P (.loop c) Q σ:=
 Gt (α:={ x:α // I x }) (fun x=> F x.1) (fun x=> μ x.1) ⟨x0,hI⟩ h0 fun x=> zl (round x.1 x.2) fun e σ' q=> by
  cases e with
  | normal=> obtain ⟨y,h1,h2,h3⟩:=q;exact ⟨⟨y,h1⟩,h2,h3⟩
  | _=> exact q
theorem au {P:Program} {σ:St} {dd:Option Tmp} {ty:TypeId} {f:FuncId} {xs:Array Operand} {ats:Array TypeId} (C:ce P f) {args:List AV} {r:AV} (ha:fY σ (fun _=> false) (xs.toList.map σ.eval) args) (sp:Spec P f (aQ args []) (aG r []))
  (hp:AV.pures args=true) (hr:r.pure=true):Stp P dd (.call { callee:= .value (.func f),args:=xs,argTypes:=ats }) ty σ (σ.put dd r):=fun o hd ho ht=> by subst hd;exact wL (.fnc ho C) sp ha hp hr
theorem xr {P:Program} {σ:St} {dd:Option Tmp} {ty:TypeId} {f:FuncId} {xs:Array Operand} {ats:Array TypeId} (C:ce P f) {args:List AV} {x:Value} (ha:fY σ (fun _=> true) (xs.toList.map σ.eval) args) (sp:Spec P f (aQ args []) (aG (.v x) []))
  (hp:AV.pures args=true):Stp P dd (.call { callee:= .value (.func f),args:=xs,argTypes:=ats }) ty σ (σ.put dd (.v x)):=fun o hd ho ht=> by subst hd;exact AY (.fnc ho C) sp ha hp
theorem kN {P:Program} {σ:St} {dd:Option Tmp} {ty:TypeId} {f:FuncId} {x0:Operand} {xs:Array Operand} {ats:Array TypeId} {first caps:List AV} (hx:σ.eval x0= .fn (.func f) first caps) (C:ce P f) {args:List AV} {r:AV} (ha:fY σ (fun _=> false) (first++xs.toList.map σ.eval++caps) args) (sp:Spec P f (aQ args []) (aG r []))
  (hp:AV.pures args=true) (hr:r.pure=true):Stp P dd (.call { callee:= .value x0,args:=xs,argTypes:=ats }) ty σ (σ.put dd r):=fun o hd ho ht=> by subst hd;exact wL (.fnv ho C hx) sp ha hp hr
theorem qK {ρ:ay→ay} {σ:St} {F:ay→Bool} {a b:Bool} (h:a=b):Lv ρ σ F (.v (.bool a)) (.v (.bool b)):=h ▸ .v
theorem eN {ρ:ay→ay} {σ:St} {F:ay→Bool} {k:IntKind} {a b:Int} (h:a=b):Lv ρ σ F (.v (.int k a)) (.v (.int k b)):=h ▸ .v
theorem bT {n:Int} (h: -9223372036854775808≤n∧n≤9223372036854775807):IntKind.i64.wrap n=n:=Go.IntWalk.i64_in n h

mutual
def AV.ren (ρ:ay→ay):AV→AV
 | .ref i o n=> .ref (ρ i) o n
 | .ptr i o=> .ptr (ρ i) o
 | .agg xs=> .agg (AV.rens ρ xs)
 | .fn f xs ys=> .fn f (AV.rens ρ xs) (AV.rens ρ ys)
 | .ifc t a=> .ifc t (a.ren ρ)
 | .tup xs=> .tup (AV.rens ρ xs)
 | .dead=> .dead
 | .v x=> .v x
 | .sl n xs=> .sl n xs
 | .fp o xs=> .fp o xs
 | .z=> .z
 | .mp i=> .mp (ρ i)
def AV.rens (ρ:ay→ay):List AV→List AV
 | []=> []
 | a::l=> a.ren ρ::AV.rens ρ l
end
def Cells.ren (ρ:ay→ay):Cells→Cells
 | .row e sz xs=> .row e sz xs
 | .box e xs=> .box e (AV.rens ρ xs)
 | .rowA e sz xs=> .rowA e sz (AV.rens ρ xs)
 | .mp es c=> .mp es c
 | .it m a b c=> .it (ρ m) a b c
theorem ij {ρ:ay→ay}: ∀ (l:List AV) (j:Nat),(AV.rens ρ l)[j]? =(l[j]?).map (AV.ren ρ)
 | [],j=> by simp [AV.rens]
 | p::l,0=> by simp [AV.rens]
 | p::l,j+1=> by simp [AV.rens,ij l j]
theorem gv {ρ:ay→ay}: ∀ (l:List AV),(AV.rens ρ l).length=l.length
 | []=> rfl
 | p::l=> by simp [AV.rens,gv l]
theorem Rep.ren {ι ι':ay→Option dX} {S S':Nat→Prop} {w:World} {ρ:ay→ay} {a:AV} {x:Value} (h:Rep ι S w a x) (hS: ∀ g,S g→S' g):(∀ id B,Has id a→ι' (ρ id)=some B→ι id=some B)→Rep ι' S' w (a.ren ρ) x:=by
 induction h with
 | dead=> intro _;simp only [AV.ren];exact .dead
 | v=> intro _;simp only [AV.ren];exact .v
 | sl h=> intro _;simp only [AV.ren];exact .sl (h.next (fun _ _=> rfl) hS)
 | fp h=> intro _;simp only [AV.ren];exact .fp (h.next (fun _ _=> rfl) hS)
 | ref h h1=> intro hι;simp only [AV.ren];exact .ref (fun B hB=> h B (hι _ B .ref hB)) h1
 | ptr h h1=> intro hι;simp only [AV.ren];exact .ptr (fun B hB=> h B (hι _ B .ptr hB)) h1
 | agg h1 h2 h ih=>
  intro hι
  simp only [AV.ren]
  refine .agg (by rw [gv];exact h1) h2 fun j a ha=> ?_
  rw [ij] at ha
  obtain ⟨b,hb,rfl⟩:=Option.map_eq_some_iff.1 ha
  exact ih j b hb fun id B hi=> hι id B (.agg (List.mem_of_getElem? hb) hi)
 | fn h1 h2 h3 h4 i3 i4=>
  intro hι
  simp only [AV.ren]
  refine .fn (by rw [gv];exact h1) (by rw [gv];exact h2) (fun j a ha=> ?_) fun j a ha=> ?_
  ·rw [ij] at ha
   obtain ⟨b,hb,rfl⟩:=Option.map_eq_some_iff.1 ha
   exact i3 j b hb fun id B hi=> hι id B (.fn1 (List.mem_of_getElem? hb) hi)
  rw [ij] at ha
  obtain ⟨b,hb,rfl⟩:=Option.map_eq_some_iff.1 ha
  exact i4 j b hb fun id B hi=> hι id B (.fn2 (List.mem_of_getElem? hb) hi)
 | z=> intro _;simp only [AV.ren];exact .z
 | mp h h1=> intro hι;simp only [AV.ren];exact .mp (fun B hB=> h B (hι _ B .mp hB)) h1
 | ifc h ih=> intro hι;simp only [AV.ren];exact .ifc (ih fun id B hi=> hι id B (.ifc hi))
 | tup h1 h ih=>
  intro hι
  simp only [AV.ren]
  refine .tup (by rw [gv];exact h1) fun j a ha=> ?_
  rw [ij] at ha
  obtain ⟨b,hb,rfl⟩:=Option.map_eq_some_iff.1 ha
  exact ih j b hb fun id B hi=> hι id B (.tup (List.mem_of_getElem? hb) hi)
mutual
theorem sE {ρ:ay→ay} {i:ay}: ∀ (a:AV),Has i (a.ren ρ)→ ∃ j,Has j a∧i=ρ j
 | .dead,h=> by simp only [AV.ren] at h;cases h
 | .v _,h=> by simp only [AV.ren] at h;cases h
 | .sl _ _,h=> by simp only [AV.ren] at h;cases h
 | .fp _ _,h=> by simp only [AV.ren] at h;cases h
 | .z,h=> by simp only [AV.ren] at h;cases h
 | .mp k,h=> by simp only [AV.ren] at h;cases h;exact ⟨k, .mp,rfl⟩
 | .ref k _ _,h=> by simp only [AV.ren] at h;cases h;exact ⟨k, .ref,rfl⟩
 | .ptr k _,h=> by simp only [AV.ren] at h;cases h;exact ⟨k, .ptr,rfl⟩
 | .agg xs,h=> by
  simp only [AV.ren] at h
  cases h with
  | agg hm h=> obtain ⟨j,b,hb,h1,h2⟩:=ig xs _ hm h;exact ⟨j, .agg hb h1,h2⟩
 | .fn f xs ys,h=> by
  simp only [AV.ren] at h
  cases h with
  | fn1 hm h=> obtain ⟨j,b,hb,h1,h2⟩:=ig xs _ hm h;exact ⟨j, .fn1 hb h1,h2⟩
  | fn2 hm h=> obtain ⟨j,b,hb,h1,h2⟩:=ig ys _ hm h;exact ⟨j, .fn2 hb h1,h2⟩
 | .ifc t a,h=> by
  simp only [AV.ren] at h
  cases h with
  | ifc h=> obtain ⟨j,h1,h2⟩:=sE a h;exact ⟨j, .ifc h1,h2⟩
 | .tup xs,h=> by
  simp only [AV.ren] at h
  cases h with
  | tup hm h=> obtain ⟨j,b,hb,h1,h2⟩:=ig xs _ hm h;exact ⟨j, .tup hb h1,h2⟩
theorem ig {ρ:ay→ay} {i:ay}: ∀ (l:List AV) (a:AV),a∈AV.rens ρ l→Has i a→ ∃ j b,b∈l∧Has j b∧i=ρ j
 | [],a,h,_=> by simp [AV.rens] at h
 | b::l,a,h,hh=> by
  simp only [AV.rens,List.mem_cons] at h
  rcases h with h0 | h
  ·rw [h0] at hh
   obtain ⟨j,h1,h2⟩:=sE b hh
   exact ⟨j,b,List.mem_cons_self,h1,h2⟩
  obtain ⟨j,c,h1,h2,h3⟩:=ig l a h hh
  exact ⟨j,c,List.mem_cons_of_mem _ h1,h2,h3⟩
end

def ld (Pn:List ay) (i:ay):Option ay:=bif cj i Pn then some i else none
def ap (n:Nat) (l:List (Nat×AV)) (obs:List (ay×Cells)) (I Pn:List ay):St:=⟨n,tN l,jn obs,fun i=> cj i I,ld Pn⟩
def aE (args:List AV) (obs:List (ay×Cells)):St:=⟨args.length,fun t=> args.getD t .dead,jn obs,fun i=> cj i (obs.map (·.1)),ld (obs.map (·.1))⟩
def wY (n:Nat) (args:List AV) (obs:List (ay×Cells)):St:=⟨n,fun t=> args.getD t .dead,jn obs,fun i=> cj i (obs.map (·.1)),ld (obs.map (·.1))⟩
def aP (r:AV) (obs:List (ay×Cells)) (I Pn:List ay):St:=⟨1,fun t=> bif Nat.beq t 0 then r else .dead,jn obs,fun i=> cj i I,ld Pn⟩
theorem Spec.ofNI {P:Program} {f:FuncId} {fn:Func} {c:Code} {args:List AV} {obs:List (ay×Cells)} {σ':St} {n:Nat} (hf:P.funcs[f]? =some fn) (hb:fn.body=some c) (hn:fn.ntmps=n) (hl:Nat.ble args.length n=true)
  (h:D true P c (jh P fn σ') (wY n args obs)):Spec P f (aE args obs) σ':=by
 subst hn
 refine Spec.of hf hb (Nat.le_of_ble_eq_true hl) (fun t ht=> ?_) h
 simp only [aE] at ht ⊢
 rw [List.getD_eq_getElem?_getD,List.getElem?_eq_none ht];rfl

def cY (ρ:ay→ay) (σ:St) (F:ay→Bool) (I:List ay):List (ay×Cells)→Prop
 | []=> True
 | (i,o)::l=> (F (ρ i)=false∧(∃ o2,σ.ob (ρ i)= .obj o2∧LvO ρ σ F o o2)∧(bif cj i I then false else σ.inc (ρ i))=false)∧cY ρ σ F I l
theorem hP {ρ:ay→ay} {σ:St} {F:ay→Bool} {I:List ay}: ∀ {l:List (ay×Cells)},cY ρ σ F I l→ ∀ {i o},(i,o)∈l→F (ρ i)=false∧(∃ o2,σ.ob (ρ i)= .obj o2∧LvO ρ σ F o o2)∧(bif cj i I then false else σ.inc (ρ i))=false
 | [],_,i,o,h=> by simp at h
 | (k,c)::l,h,i,o,hm=> by
  rcases List.mem_cons.1 hm with h0 | hm
  ·obtain ⟨rfl,rfl⟩:=Prod.mk.inj h0;exact h.1
  exact hP h.2 hm
theorem pR {σ:St} {id:ay}: ∀ {l:List ay},ft σ l→id∈l→σ.inc id=false
 | [],_,h=> by simp at h
 | x::l,hl,hm=> by
  rcases List.mem_cons.1 hm with h | hm
  ·rw [h];exact hl.1
  exact pR hl.2 hm
def jG (ρ:ay→ay) (σ:St):List ay→Prop
 | []=> True
 | i::l=> σ.pin (ρ i)=some i∧jG ρ σ l
theorem pb {ρ:ay→ay} {σ:St} {i:ay}: ∀ {l:List ay},jG ρ σ l→i∈l→σ.pin (ρ i)=some i
 | [],_,h=> by simp at h
 | x::l,hl,hm=> by
  rcases List.mem_cons.1 hm with h | hm
  ·rw [h];exact hl.1
  exact pb hl.2 hm
def qh:List ay→List ay→Bool
 | [],_=> true
 | i::l,L=> cj i L && qh l L
theorem uw {L:List ay} {i:ay}: ∀ {l:List ay},qh l L=true→i∈l→i∈L
 | [],_,h=> by simp at h
 | x::l,hl,hm=> by
  simp only [qh,Bool.and_eq_true] at hl
  rcases List.mem_cons.1 hm with h | hm
  ·rw [h];exact inO_iff.1 hl.1
  exact uw hl.2 hm
theorem Le.genI {σ:St} {n:Nat} {fr:Nat→AV} {obs:List (ay×Cells)} {I Pn:List ay} (rn:List (ay×ay)) (Fz:List ay) (hn:σ.n=n) (hfr: ∀ t,Lv (aR rn) σ (fun i=> cj i Fz) (fr t) (σ.fr t)) (hw1: ∀ t id,Has id (fr t)→id∈obs.map (·.1)) (hw2:aY (obs.map (·.1)) obs=true)
  (hd:bf ((obs.map (·.1)).map (aR rn))=true) (hi:ft σ Fz) (ho:cY (aR rn) σ (fun i=> cj i Fz) I obs) (hp:jG (aR rn) σ Pn) (hs:qh Pn (obs.map (·.1))=true):Le ⟨n,fr,jn obs,fun i=> cj i I,ld Pn⟩ σ:=by
 refine Le.of (aR rn) (fun i=> cj i Fz) hn.symm (fun t _=> hfr t) (fun id o h=> ?_) (fun id id' o o' h h' he=> ?_) (fun id h=> ?_) (fun id o h hf=> ?_) (fun t id h=> gI (hw1 t id h)) (fun id' o id h hh=> gI (gd hw2 (dw h) hh)) (fun id h o hpn _=> ?_) (fun id hf=> ?_)
 ·exact ⟨(hP ho (dw h)).1,(hP ho (dw h)).2.1⟩
 ·exact gJ (aR rn) (bD hd) (List.mem_map_of_mem (f:=(·.1)) (dw h)) (List.mem_map_of_mem (f:=(·.1)) (dw h')) he
 ·exact pR hi (inO_iff.1 h)
 ·have:=(hP ho (dw h)).2.2
  simp only at hf
  rw [hf] at this
  exact this
 ·simp only [ld] at hpn
  cases hb:cj id Pn with
  | true=> rw [hb] at hpn;obtain rfl:=Option.some.inj hpn;exact pb hp (inO_iff.1 hb)
  | false=> rw [hb] at hpn;cases hpn
 simp only [ld]
 cases hb:cj id Pn with
 | true=> exact absurd hf (gI (uw hs (inO_iff.1 hb)))
 | false=> rfl
theorem Le.mkI {σ:St} {n:Nat} {slots:List (Nat×AV)} {obs:List (ay×Cells)} {I Pn:List ay} (rn:List (ay×ay)) (Fz:List ay) (hn:σ.n=n) (hs:pe (aR rn) σ (fun i=> cj i Fz) slots) (hw1:eA (obs.map (·.1)) slots=true) (hw2:aY (obs.map (·.1)) obs=true)
  (hd:bf ((obs.map (·.1)).map (aR rn))=true) (hi:ft σ Fz) (ho:cY (aR rn) σ (fun i=> cj i Fz) I obs) (hp:jG (aR rn) σ Pn) (hsb:qh Pn (obs.map (·.1))=true):Le (ap n slots obs I Pn) σ:=
 Le.genI rn Fz hn (rC hs) (fun _ _ h=> mV hw1 h) hw2 hd hi ho hp hsb
theorem Le.outI {σ:St} {r r':AV} {obs:List (ay×Cells)} {I Pn:List ay} (rn:List (ay×ay)) (Fz:List ay) (hr:Lv (aR rn) (eg r σ) (fun i=> cj i Fz) r' r) (hw1:r'.within (obs.map (·.1))=true) (hw2:aY (obs.map (·.1)) obs=true)
  (hd:bf ((obs.map (·.1)).map (aR rn))=true) (hi:ft (eg r σ) Fz) (ho:cY (aR rn) (eg r σ) (fun i=> cj i Fz) I obs) (hp:jG (aR rn) (eg r σ) Pn) (hsb:qh Pn (obs.map (·.1))=true):Le (aP r' obs I Pn) (eg r σ):=by
 refine Le.genI (n:=1) rn Fz rfl (fun t=> ?_) (fun t id h=> ?_) hw2 hd hi ho hp hsb
 ·show Lv _ _ _ _ (bif Nat.beq t 0 then r else .dead)
  cases hb:Nat.beq t 0 with
  | true=> exact hr
  | false=> exact .dead
 cases hb:Nat.beq t 0 with
 | true=> rw [hb] at h;exact eF r' hw1 h
 | false=> rw [hb] at h;cases h

def cV (ρ:ay→ay) (outs:List (ay×Cells)) (ins:List ay) (ob:ay→Slot):ay→Slot:=fun c=>
 match outs with
 | (i,o)::l=> bif gh c (ρ i) then .obj (o.ren ρ) else cV ρ l ins ob c
 | []=> bif cj c (ins.map ρ) then .gone else ob c
def gU (ρ:ay→ay) (outs:List (ay×Cells)) (I:List ay) (any:Bool) (inc:ay→Bool):ay→Bool:=fun c=>
 match outs with
 | (i,_)::l=> bif gh c (ρ i) then (bif cj i I then any else false) else gU ρ l I any inc c
 | []=> inc c
def eB (σ:St):List ay→Bool
 | []=> false
 | i::l=> σ.inc i || eB σ l
def St.after (σ:St) (ρ:ay→ay) (outs:List (ay×Cells)) (ins I:List ay):St:=
 { σ with ob:=cV ρ outs ins σ.ob,inc:=gU ρ outs I (eB σ (ins.map ρ)) σ.inc }
def dz (σ:St) (ρ:ay→ay) (ins:List ay):List (ay×Cells)→Prop
 | []=> True
 | (i,_)::l=> ((bif cj i ins then Slot.free else σ.ob (ρ i))= .free)∧dz σ ρ ins l
theorem nD {σ:St} {ρ:ay→ay} {ins:List ay}: ∀ {l:List (ay×Cells)},dz σ ρ ins l→ ∀ {i o},(i,o)∈l→i∈ins∨σ.ob (ρ i)= .free
 | [],_,i,o,h=> by simp at h
 | (k,c)::l,h,i,o,hm=> by
  rcases List.mem_cons.1 hm with h0 | hm
  ·obtain ⟨rfl,rfl⟩:=Prod.mk.inj h0
   have:=h.1
   cases hb:cj i ins with
   | true=> exact .inl (inO_iff.1 hb)
   | false=> rw [hb] at this;exact .inr this
  exact nD h.2 hm

theorem cE {ρ:ay→ay} {ins:List ay} {ob:ay→Slot}: ∀ {outs:List (ay×Cells)} {i:ay} {o:Cells},((outs.map (·.1)).map ρ).Nodup→(i,o)∈outs→cV ρ outs ins ob (ρ i)= .obj (o.ren ρ)
 | [],i,o,_,h=> by simp at h
 | (k,c)::l,i,o,hn,h=> by
  simp only [cV]
  simp only [List.map_cons,List.nodup_cons] at hn
  rcases List.mem_cons.1 h with h0 | h
  ·obtain ⟨rfl,rfl⟩:=Prod.mk.inj h0
   rw [dE];rfl
  have:ρ i≠ρ k:=fun e=> hn.1 (e ▸ List.mem_map_of_mem (List.mem_map_of_mem (f:=(·.1)) h))
  rw [ic this]
  exact cE hn.2 h
theorem dj {ρ:ay→ay} {ins:List ay} {ob:ay→Slot} {c:ay}: ∀ {outs:List (ay×Cells)},c∉(outs.map (·.1)).map ρ→cV ρ outs ins ob c=(bif cj c (ins.map ρ) then .gone else ob c)
 | [],_=> rfl
 | (k,o)::l,h=> by
  simp only [List.map_cons,List.mem_cons,not_or] at h
  simp only [cV,ic h.1,cond_false]
  exact dj h.2
theorem mJ {ρ:ay→ay} {I:List ay} {any:Bool} {inc:ay→Bool}: ∀ {outs:List (ay×Cells)} {i:ay} {o:Cells},((outs.map (·.1)).map ρ).Nodup→(i,o)∈outs→gU ρ outs I any inc (ρ i)=(bif cj i I then any else false)
 | [],i,o,_,h=> by simp at h
 | (k,c)::l,i,o,hn,h=> by
  simp only [gU]
  simp only [List.map_cons,List.nodup_cons] at hn
  rcases List.mem_cons.1 h with h0 | h
  ·obtain ⟨rfl,rfl⟩:=Prod.mk.inj h0
   rw [dE];rfl
  have:ρ i≠ρ k:=fun e=> hn.1 (e ▸ List.mem_map_of_mem (List.mem_map_of_mem (f:=(·.1)) h))
  rw [ic this]
  exact mJ hn.2 h
theorem kG {ρ:ay→ay} {I:List ay} {any:Bool} {inc:ay→Bool} {c:ay}: ∀ {outs:List (ay×Cells)},c∉(outs.map (·.1)).map ρ→gU ρ outs I any inc c=inc c
 | [],_=> rfl
 | (k,o)::l,h=> by
  simp only [List.map_cons,List.mem_cons,not_or] at h
  simp only [gU,ic h.1,cond_false]
  exact kG h.2
theorem gM {σ:St}: ∀ {l:List ay},eB σ l=false→ ∀ i∈l,σ.inc i=false
 | [],_,i,h=> by simp at h
 | x::l,h,i,hm=> by
  simp only [eB,Bool.or_eq_false_iff] at h
  rcases List.mem_cons.1 hm with h0 | hm
  ·rw [h0];exact h.1
  exact gM h.2 i hm
theorem iw: ∀ {l:List (ay×Cells)} {i:ay} {o:Cells},(l.map (·.1)).Nodup→(i,o)∈l→jn l i= .obj o
 | [],i,o,_,h=> by simp at h
 | (k,c)::l,i,o,hn,h=> by
  simp only [List.map_cons,List.nodup_cons] at hn
  simp only [jn]
  rcases List.mem_cons.1 h with h0 | h
  ·obtain ⟨rfl,rfl⟩:=Prod.mk.inj h0
   rw [dE];rfl
  have:i≠k:=fun e=> hn.1 (e ▸ List.mem_map_of_mem (f:=(·.1)) h)
  rw [ic this]
  exact iw hn.2 h

def eJ (ρ:ay→ay) (outs:List (ay×Cells)) (ins:List ay) (ι' ι:ay→Option dX):ay→Option dX:=fun c=>
 match outs with
 | (i,_)::l=> bif gh c (ρ i) then ι' i else eJ ρ l ins ι' ι c
 | []=> bif cj c (ins.map ρ) then none else ι c
theorem cQ {ρ:ay→ay} {ins:List ay} {ι' ι:ay→Option dX}: ∀ {outs:List (ay×Cells)} {i:ay},((outs.map (·.1)).map ρ).Nodup→i∈outs.map (·.1)→eJ ρ outs ins ι' ι (ρ i)=ι' i
 | [],i,_,h=> by simp at h
 | (k,c)::l,i,hn,h=> by
  simp only [eJ]
  simp only [List.map_cons,List.nodup_cons] at hn
  simp only [List.map_cons,List.mem_cons] at h
  rcases h with h0 | h
  ·subst h0;rw [dE];rfl
  have:ρ i≠ρ k:=fun e=> hn.1 (e ▸ List.mem_map_of_mem h)
  rw [ic this]
  exact cQ hn.2 h
theorem fe {ρ:ay→ay} {ins:List ay} {ι' ι:ay→Option dX} {c:ay}: ∀ {outs:List (ay×Cells)},c∉(outs.map (·.1)).map ρ→eJ ρ outs ins ι' ι c=(bif cj c (ins.map ρ) then none else ι c)
 | [],_=> rfl
 | (k,o)::l,h=> by
  simp only [List.map_cons,List.mem_cons,not_or] at h
  simp only [eJ,ic h.1,cond_false]
  exact fe h.2
def fL (ins Pn:List ay):List (ay×Cells)→Bool
 | []=> true
 | (i,_)::l=> (bif cj i ins then cj i Pn else true) && fL ins Pn l
theorem qP {ins Pn:List ay} {i:ay}: ∀ {l:List (ay×Cells)},fL ins Pn l=true→i∈l.map (·.1)→i∈ins→i∈Pn
 | [],_,h,_=> by simp at h
 | (k,o)::l,hk,h,hi=> by
  simp only [fL,Bool.and_eq_true] at hk
  simp only [List.map_cons,List.mem_cons] at h
  rcases h with h | h
  ·subst h
   rw [inO_iff.2 hi] at hk
   exact inO_iff.1 hk.1
  exact qP hk.2 h hi

section
variable {P:Program} {σ:St} {o:Oper}

def eP (σ:St) (rn:List (ay×ay)) (avs:List AV) (args:List AV):Prop:=args.length=avs.length∧ ∀ (j:Nat) (x:AV) (a:AV),avs[j]? =some x→args[j]? =some a→Lv (aR rn) σ (fun _=> false) a x
theorem cN {rn:List (ay×ay)}:eP σ rn [] []:=⟨rfl,by simp⟩
theorem cq {rn:List (ay×ay)} {x:AV} {xs:List AV} {a:AV} {args:List AV} (h:Lv (aR rn) σ (fun _=> false) a x) (hs:eP σ rn xs args):eP σ rn (x::xs) (a::args):=by
 refine ⟨by simp [hs.1],fun j y b hy hb=> ?_⟩
 cases j with
 | zero=> simp at hy hb;subst hy;subst hb;exact h
 | succ j=> exact hs.2 j y b (by simpa using hy) (by simpa using hb)

theorem oN {d:Option Tmp} {avs:List AV} (rn:List (ay×ay)) {args:List AV} {ins outs:List (ay×Cells)} {r:AV} {I Pn:List ay} (inc':ay→Bool)
  (hinc1: ∀ c,c∉(outs.map (·.1)).map (aR rn)→inc' c=σ.inc c) (hinc2: ∀ i,i∈outs.map (·.1)→inc' (aR rn i)=false→(i∈ins.map (·.1)∧σ.inc (aR rn i)=false)∨(cj i I=false)∨(i∉ins.map (·.1)∧ ∀ j,j∈ins.map (·.1)→j∉outs.map (·.1)→σ.inc (aR rn j)=false))
  (ha:eP σ rn avs args) (hw:AV.withins (ins.map (·.1)) args=true) (hwi:aY (ins.map (·.1)) ins=true) (hins:cY (aR rn) σ (fun _=> false) (ins.map (·.1)) ins)
  (hni:bf ((ins.map (·.1)).map (aR rn))=true) (hni':bf (ins.map (·.1))=true) (hno:bf ((outs.map (·.1)).map (aR rn))=true) (hno':bf (outs.map (·.1))=true) (hfr:dz σ (aR rn) (ins.map (·.1)) outs) (hPn:fL (ins.map (·.1)) Pn outs=true)
  (hwo:r.within (outs.map (·.1))=true) (hwoo:aY (outs.map (·.1)) outs=true) {K:jb} {ι:ay→Option dX} {S:Nat→Prop} {a:Act} {w:World} (R:RelI K ι S σ a w) {vs:Array Value} (hvs:vs.size=avs.length) (hrep: ∀ (j:Nat) (x:AV),avs[j]? =some x→Rep ι S w x (vs.getD j undef)):
  ∃ K1 ι1 S1,K1.w0=w∧K1.rd=none∧RelI K1 ι1 S1 (aE args ins) ⟨vs,[]⟩ w∧ ∀ v w' ι' S',RelI K1 ι' S' (aP r outs I Pn) ⟨#[v],[]⟩ w'→ ∃ ι' S',RelI K ι' S' (({ σ.after (aR rn) outs (ins.map (·.1)) I with inc:=inc' }:St).put d (r.ren (aR rn))) (a.put d v) w':=by
 generalize hρ:aR rn=ρ at*
 have hni:=bD hni
 have hni':=bD hni'
 have hno:=bD hno
 have hno':=bD hno'
 -- the callee's state
 have hino: ∀ i,i∈ins.map (·.1)→ ∃ o o2 B,(i,o)∈ins∧jn ins i= .obj o∧σ.ob (ρ i)= .obj o2∧LvO ρ σ (fun _=> false) o o2∧ι (ρ i)=some B:=by
  intro i hi
  obtain ⟨⟨i',oc⟩,hm,rfl⟩:=List.mem_map.1 hi
  obtain ⟨_,⟨o2,h2,h3⟩,_⟩:=hP hins hm
  have hO:=R.ob _ o2 h2
  have: ∃ B,ι (ρ i')=some B:=hO.ex
  obtain ⟨B,hB⟩:=this
  exact ⟨oc,o2,B,hm,iw hni' hm,h2,h3,hB⟩
 let own1:Nat→Prop:=fun g=> ∃ i B,i∈ins.map (·.1)∧ι (ρ i)=some B∧B.g=some g
 let ι1:ay→Option dX:=fun i=> bif cj i (ins.map (·.1)) then ι (ρ i) else none
 have hι1: ∀ i,i∈ins.map (·.1)→ι1 i=ι (ρ i):=fun i hi=> by simp only [ι1,inO_iff.2 hi,cond_true]
 have hι1': ∀ i B,ι1 i=some B→i∈ins.map (·.1)∧ι (ρ i)=some B:=fun i B h=> by
  simp only [ι1] at h
  cases hb:cj i (ins.map (·.1)) with
  | true=> rw [hb] at h;exact ⟨inO_iff.1 hb,h⟩
  | false=> rw [hb] at h;cases h
 have hobm: ∀ {i oc},jn ins i= .obj oc→i∈ins.map (·.1):=fun h=> List.mem_map_of_mem (f:=(·.1)) (dw h)
 have R1:RelI ⟨w,own1,S,fun i=> ι (ρ i),none⟩ ι1 S (aE args ins) ⟨vs,[]⟩ w:=by
  refine ⟨Keeps.refl _ _,fun g h=> .inl h,R.Slt,by simp [aE,ha.1,hvs], .nil,fun t ht=> ?_,fun t id hb=> ?_,fun id' oc id hoc hb=> gI (gd hwi (dw hoc) hb),fun id oc hoc=> ?_,fun id B hB=> ?_,fun id id' B B' g hB hB' hg hg'=> ?_,fun id B g hB hg=> ?_,fun id h oc hp hoc=> ?_,fun id hf=> ?_⟩
  ·simp only [aE] at ht ⊢
   have hx:t < avs.length:=by rw [← ha.1];exact ht
   have hl:=ha.2 t _ _ (List.getElem?_eq_getElem hx) (List.getElem?_eq_getElem ht)
   rw [hρ] at hl
   have:=hl.rep (ι1:=ι1) R (fun id B hB=> (hι1' id B hB).2) (S1:=S) (fun g h=> h) (fun id B g h=> by cases h) (hrep t _ (List.getElem?_eq_getElem hx))
   simpa [List.getD_eq_getElem?_getD,ht] using this
  ·simp only [aE] at hb
   by_cases ht:t < args.length
   ·rw [List.getD_eq_getElem?_getD,List.getElem?_eq_getElem ht] at hb
    exact gI (dY args hw _ (List.getElem_mem ht) hb)
   rw [List.getD_eq_getElem?_getD,List.getElem?_eq_none ab] at hb
   cases hb
  ·obtain ⟨o1,o2,B,hm,ho1,h2,h3,hB⟩:=hino id (hobm hoc)
   have:Slot.obj o1=Slot.obj oc:=ho1.symm.trans hoc
   obtain rfl:=Slot.obj.inj this
   have hO:=R.ob _ o2 h2
   cases h3 with
   | row h=>
    obtain ⟨B,b1,b2,b3⟩:=hO
    refine ⟨B,by rw [hι1 id (hobm hoc)];exact b1,b2,?_⟩
    subst h
    rcases b3 with ⟨c1,c2,c3⟩ | ⟨g,cur,c1,c2,c3,c4,c5⟩
    ·exact .inl ⟨c1,by simp at c2;simp [c2.1],c3⟩
    refine .inr ⟨g,cur,c1,c2,c3,by simp at c4;omega,fun j hj=> ?_⟩
    obtain ⟨u,d1,d2,d3⟩:=c5 j (by simp;omega)
    exact ⟨u,d1,d2,fun p hp=> (d3 p (by rw [List.getElem?_append,if_pos hj];exact hp))⟩
   | box hl h=>
    obtain ⟨B,g,b1,b2,b3,b4⟩:=hO
    refine ⟨B,g,by rw [hι1 id (hobm hoc)];exact b1,b2,by omega,?_⟩
    rw [hl]
    rcases b4 with ⟨c1,_⟩ | ⟨g',cur,c1,c2,c3,c4,c5⟩
    ·rw [b2] at c1;cases c1
    refine .inr ⟨g',cur,c1,c2,c3,c4,fun j hj=> ?_⟩
    obtain ⟨u,d1,d2,d3⟩:=c5 j hj
    refine ⟨u,d1,d2,fun p hp=> ?_⟩
    exact (h j p _ hp (List.getElem?_eq_getElem hj)).rep R (fun id B hB=> (hι1' id B hB).2) (fun _ h=> h) (fun id B g h=> by cases h) (d3 _ (List.getElem?_eq_getElem hj))
   | rowA hl h=>
    obtain ⟨B,b1,b2,b4⟩:=hO
    refine ⟨B,by rw [hι1 id (hobm hoc)];exact b1,b2,?_⟩
    rw [hl]
    rcases b4 with c | ⟨g',cur,c1,c2,c3,c4,c5⟩
    ·exact .inl c
    refine .inr ⟨g',cur,c1,c2,c3,c4,fun j hj=> ?_⟩
    obtain ⟨u,d1,d2,d3⟩:=c5 j hj
    refine ⟨u,d1,d2,fun p hp=> ?_⟩
    exact (h j p _ hp (List.getElem?_eq_getElem hj)).rep R (fun id B hB=> (hι1' id B hB).2) (fun _ h=> h) (fun id B g h=> by cases h) (d3 _ (List.getElem?_eq_getElem hj))
   | boxA h0 hl h=>
    obtain ⟨B,b1,b2,b4⟩:=hO
    rcases b4 with ⟨_,c,_⟩ | ⟨g',cur,c1,c2,c3,c4,c5⟩
    ·omega
    refine ⟨B,g',by rw [hι1 id (hobm hoc)];exact b1,c1,by omega,?_⟩
    rw [hl]
    refine .inr ⟨g',cur,c1,c2,c3,c4,fun j hj=> ?_⟩
    obtain ⟨u,d1,d2,d3⟩:=c5 j hj
    refine ⟨u,d1,d2,fun p hp=> ?_⟩
    exact (h j p _ hp (List.getElem?_eq_getElem hj)).rep R (fun id B hB=> (hι1' id B hB).2) (fun _ h=> h) (fun id B g h=> by cases h) (d3 _ (List.getElem?_eq_getElem hj))
   | mp=>
    obtain ⟨B,g,b1,b2,b3⟩:=hO
    exact ⟨B,g,by rw [hι1 id (hobm hoc)];exact b1,b2,b3⟩
   | it=>
    obtain ⟨B,g,b1,b2,mg,b3,b4⟩:=hO
    exact ⟨B,g,by rw [hι1 id (hobm hoc)];exact b1,b2,mg,b3,fun B' hB'=> b4 B' (hι1' _ B' hB').2⟩
  ·obtain ⟨h1,h2⟩:=hι1' id B hB
   obtain ⟨o1,_,_,_,h3,_⟩:=hino id h1
   exact ⟨o1,h3⟩
  ·obtain ⟨h1,h2⟩:=hι1' id B hB
   obtain ⟨h3,h4⟩:=hι1' id' B' hB'
   exact gJ ρ hni h1 h3 (R.inj _ _ B B' g h2 h4 hg hg')
  ·obtain ⟨h1,h2⟩:=hι1' id B hB
   refine ⟨(R.sep _ B g h2 hg).1, .inl ⟨id,B,h1,h2,hg⟩,fun hf=> ?_⟩
   simp only [aE] at hf
   rw [inO_iff.2 h1] at hf;cases hf
  ·simp only [aE,ld] at hp
   cases hb:cj id (ins.map (·.1)) with
   | true=> rw [hb] at hp;obtain rfl:=Option.some.inj hp;exact hι1 _ (inO_iff.1 hb)
   | false=> rw [hb] at hp;cases hp
  simp only [aE,ld]
  cases hb:cj id (ins.map (·.1)) with
  | true=> exact absurd hf (gI (inO_iff.1 hb))
  | false=> rfl
 refine ⟨_,_,_,rfl,rfl,R1,?_⟩
 intro v w' ι' S' R2
 refine ⟨eJ ρ outs (ins.map (·.1)) ι' ι,fun g=> S g∨S' g,?_⟩
 have hk2:Keeps own1 w w':=R2.keeps
 have hS2: ∀ g,S' g→S g∨w.heap.size≤g:=R2.S0
 have houtm: ∀ {i oc},(i,oc)∈outs→i∈outs.map (·.1):=fun h=> List.mem_map_of_mem (f:=(·.1)) h
 have hob2: ∀ i oc,(i,oc)∈outs→ObjOk ι' S' w' i oc:=fun i oc h=> R2.ob i oc (iw hno' h)
 have hfresh: ∀ i oc,(i,oc)∈outs→i∉ins.map (·.1)→σ.ob (ρ i)= .free:=fun i oc h hn=> (nD hfr h).resolve_left hn
 have hkeep: ∀ i oc,(i,oc)∈outs→i∈ins.map (·.1)→ι' i=ι (ρ i):=by
  intro i oc h hi
  have hp:i∈Pn:=qP hPn (houtm h) hi
  exact R2.pin i i oc (by simp only [aP,ld,inO_iff.2 hp,cond_true]) (iw hno' h)
 have hblk: ∀ i oc B g,(i,oc)∈outs→ι' i=some B→B.g=some g→own1 g∨w.heap.size≤g:=fun i oc B g _ hB hg=> (R2.sep i B g hB hg).2.1
 have houtcase: ∀ c,c∈(outs.map (·.1)).map ρ→ ∃ i oc,(i,oc)∈outs∧c=ρ i:=by
  intro c hc
  obtain ⟨i,hi,rfl⟩:=List.mem_map.1 hc
  obtain ⟨⟨i',oc⟩,h,rfl⟩:=List.mem_map.1 hi
  exact ⟨i',oc,h,rfl⟩
 have hincase: ∀ c,c∈(ins.map (·.1)).map ρ→ ∃ i,i∈ins.map (·.1)∧c=ρ i:=by
  intro c hc
  obtain ⟨i,hi,rfl⟩:=List.mem_map.1 hc
  exact ⟨i,hi,rfl⟩
 have hobA: ∀ c,c∉(outs.map (·.1)).map ρ→c∈(ins.map (·.1)).map ρ→cV ρ outs (ins.map (·.1)) σ.ob c= .gone:=fun c h h'=> by rw [dj h,inO_iff.2 h'];rfl
 have hιA: ∀ c,c∉(outs.map (·.1)).map ρ→c∈(ins.map (·.1)).map ρ→eJ ρ outs (ins.map (·.1)) ι' ι c=none:=fun c h h'=> by rw [fe h,inO_iff.2 h'];rfl
 have notin: ∀ {c} {l:List ay},c∉l→cj c l=false:=fun {c l} h=> by
  cases hb:cj c l with
  | true=> exact absurd (inO_iff.1 hb) h
  | false=> rfl
 have hrepr: ∀ {b:AV} {u:Value},(∀ i,Has i b→i∈outs.map (·.1))→Rep ι' S' w' b u→Rep (eJ ρ outs (ins.map (·.1)) ι' ι) (fun g=> S g∨S' g) w' (b.ren ρ) u:=by
  intro b u hb h
  exact h.ren (fun g h=> .inr h) fun i B hi hB=> by rw [cQ hno (hb i hi)] at hB;exact hB
 have R3:=R.gen (ι':=eJ ρ outs (ins.map (·.1)) ι' ι) (S':=fun g=> S g∨S' g) (w':=w') (ob':=(σ.after ρ outs (ins.map (·.1)) I).ob) (inc':=inc') (fun c=> c∈(outs.map (·.1)).map ρ∨c∈(ins.map (·.1)).map ρ)
  (hk2.mono fun g ⟨i,B,h1,h2,h3⟩=> ⟨ρ i,B, .inr (List.mem_map_of_mem h1),h2,h3⟩)
  (fun c hc=> by rw [fe fun h=> hc (.inl h),notin fun h=> hc (.inr h)];rfl)
  (fun c hc=> by show cV _ _ _ _ _=_;rw [dj fun h=> hc (.inl h),notin fun h=> hc (.inr h)];rfl)
  (fun c hc=> hinc1 c fun h=> hc (.inl h))
  (fun c hc=> ?_) (fun g h=> .inl h) (fun g h=> ?_) (fun g h=> ?_) (fun c B hc hB=> ?_) (fun c oc hc hoc=> ?_) (fun c B hc hB=> ?_) (fun c c' B B' g hc hB hB' hg hg'=> ?_) (fun c B g hc hB hg=> ?_) (fun c h oc hc hp hoc=> ?_)
 ·have:=R3.put d (av:=r.ren ρ) (v:=v) ?_ fun id hi=> ?_
  ·exact this
  ·have:=R2.fr 0 (by simp [aP])
   simp only [aP,Nat.beq_refl,cond_true] at this
   exact hrepr (fun i hi=> eF r hwo hi) (by simpa using this)
  obtain ⟨j,hj,rfl⟩:=sE r hi
  obtain ⟨⟨i',oc⟩,h,rfl⟩:=List.mem_map.1 (eF r hwo hj)
  show cV _ _ _ _ _≠_
  rw [cE hno h]
  intro h;cases h
 ·by_cases h1:c∈(outs.map (·.1)).map ρ
  ·obtain ⟨i,oc,h,rfl⟩:=houtcase c h1
   have:cV ρ outs (ins.map (·.1)) σ.ob (ρ i)= .free:=hc
   rw [cE hno h] at this;cases this
  by_cases h2:c∈(ins.map (·.1)).map ρ
  ·have:=(hobA c h1 h2).symm.trans hc;cases this
  have:cV ρ outs (ins.map (·.1)) σ.ob c= .free:=hc
  rwa [dj h1,notin h2] at this
 ·rcases h with h | h
  ·exact .inl h
  rcases hS2 g h with h | h
  ·exact .inl h
  exact .inr (.inl h)
 ·rcases h with h | h
  ·exact Nat.lt_of_lt_of_le (R.Slt g h) hk2.size
  exact R2.Slt g h
 ·by_cases h1:c∈(outs.map (·.1)).map ρ
  ·obtain ⟨i,oc,h,rfl⟩:=houtcase c h1
   by_cases hi:i∈ins.map (·.1)
   ·rw [cQ hno (houtm h),hkeep i oc h hi] at hB
    exact .inl hB
   exact .inr (hfresh i oc h hi)
  rcases hc with hc | hc
  ·exact absurd hc h1
  rw [hιA c h1 hc] at hB;cases hB
 ·by_cases h1:c∈(outs.map (·.1)).map ρ
  ·obtain ⟨i,oi,h,rfl⟩:=houtcase c h1
   have e:cV ρ outs (ins.map (·.1)) σ.ob (ρ i)= .obj oc:=hoc
   rw [cE hno h] at e
   obtain rfl:=Slot.obj.inj e
   have hO:=hob2 i oi h
   have hι:=cQ (ins:=ins.map (·.1)) (ι':=ι') (ι:=ι) hno (houtm h)
   refine ⟨?_,fun id' hi=> ?_⟩
   ·cases oi with
    | row e sz ys=>
     obtain ⟨B,b1,b2,b3⟩:=hO
     exact ⟨B,by rw [hι];exact b1,b2,b3.next (fun _ _=> rfl) fun j u hu p hp=> (hu p hp).next (fun _ _=> rfl) fun g h=> .inr h⟩
    | rowA e sz ys=>
     obtain ⟨B,b1,b2,b4⟩:=hO
     refine ⟨B,by rw [hι];exact b1,b2,?_⟩
     rw [gv]
     refine b4.next (fun _ _=> rfl) fun j u hu q hq=> ?_
     rw [ij] at hq
     obtain ⟨b,hb,rfl⟩:=Option.map_eq_some_iff.1 hq
     exact hrepr (fun k hk=> gd hwoo h ⟨b,List.mem_of_getElem? hb,hk⟩) (hu b hb)
    | box e ys=>
     obtain ⟨B,g,b1,b2,b3,b4⟩:=hO
     refine ⟨B,g,by rw [hι];exact b1,b2,by rw [gv];exact b3,?_⟩
     rw [gv]
     refine b4.next (fun _ _=> rfl) fun j u hu q hq=> ?_
     rw [ij] at hq
     obtain ⟨b,hb,rfl⟩:=Option.map_eq_some_iff.1 hq
     exact hrepr (fun k hk=> gd hwoo h ⟨b,List.mem_of_getElem? hb,hk⟩) (hu b hb)
    | mp es clock=>
     obtain ⟨B,g,b1,b2,b3⟩:=hO
     exact ⟨B,g,by rw [hι];exact b1,b2,b3⟩
    | it m since seen stepped=>
     obtain ⟨B,g,b1,b2,mg,b3,b4⟩:=hO
     refine ⟨B,g,by rw [hι];exact b1,b2,mg,b3,fun B' hB'=> b4 B' ?_⟩
     rw [cQ hno (gd hwoo h rfl)] at hB'
     exact hB'
   cases oi with
   | row e sz ys=> exact hi.elim
   | mp es clock=> exact hi.elim
   | it m since seen stepped=>
    have hi:id'=ρ m:=hi
    subst hi
    obtain ⟨⟨i',oc'⟩,h',rfl⟩:=List.mem_map.1 (gd hwoo h (rfl:Cells.Has m (.it m since seen stepped)))
    show cV _ _ _ _ _≠_
    rw [cE hno h']
    intro h;cases h
   | rowA e sz ys=>
    obtain ⟨q,hq,hqi⟩:=hi
    obtain ⟨j,b,hb,hj,rfl⟩:=ig ys q hq hqi
    obtain ⟨⟨i',oc'⟩,h',rfl⟩:=List.mem_map.1 (gd hwoo h ⟨b,hb,hj⟩)
    show cV _ _ _ _ _≠_
    rw [cE hno h']
    intro h;cases h
   | box e ys=>
    obtain ⟨q,hq,hqi⟩:=hi
    obtain ⟨j,b,hb,hj,rfl⟩:=ig ys q hq hqi
    obtain ⟨⟨i',oc'⟩,h',rfl⟩:=List.mem_map.1 (gd hwoo h ⟨b,hb,hj⟩)
    show cV _ _ _ _ _≠_
    rw [cE hno h']
    intro h;cases h
  rcases hc with hc | hc
  ·exact absurd hc h1
  have:=(hobA c h1 hc).symm.trans hoc;cases this
 ·by_cases h1:c∈(outs.map (·.1)).map ρ
  ·obtain ⟨i,oi,h,rfl⟩:=houtcase c h1
   exact ⟨_,cE hno h⟩
  rcases hc with hc | hc
  ·exact absurd hc h1
  rw [hιA c h1 hc] at hB;cases hB
 ·by_cases h1:c∈(outs.map (·.1)).map ρ
  ·obtain ⟨i,oi,h,rfl⟩:=houtcase c h1
   rw [cQ hno (houtm h)] at hB
   by_cases h2:c'∈(outs.map (·.1)).map ρ
   ·obtain ⟨i',oi',h',rfl⟩:=houtcase c' h2
    rw [cQ hno (houtm h')] at hB'
    rw [R2.inj i i' B B' g hB hB' hg hg']
   by_cases h3:c'∈(ins.map (·.1)).map ρ
   ·rw [hιA c' h2 h3] at hB';cases hB'
   rw [fe h2,notin h3] at hB'
   have hB':ι c'=some B':=hB'
   rcases hblk i oi B g h hB hg with ⟨i0,B0,a1,a2,a3⟩ | hge
   ·have:=R.inj _ _ B' B0 g hB' a2 hg' a3
    exact absurd (this ▸ List.mem_map_of_mem a1) h3
   have:=R.lt hB' hg'
   omega
  rcases hc with hc | hc
  ·exact absurd hc h1
  rw [hιA c h1 hc] at hB;cases hB
 ·by_cases h1:c∈(outs.map (·.1)).map ρ
  ·obtain ⟨i,oi,h,rfl⟩:=houtcase c h1
   rw [cQ hno (houtm h)] at hB
   obtain ⟨s1,s2,s3⟩:=R2.sep i B g hB hg
   refine ⟨fun hs=> ?_,?_,fun hf=> ?_⟩
   ·rcases hs with hs | hs
    ·rcases s2 with ⟨i0,B0,a1,a2,a3⟩ | hge
     ·exact (R.sep _ B0 g a2 a3).1 hs
     have:=R.Slt g hs
     have hge:w.heap.size≤g:=hge
     omega
    exact s1 hs
   ·rcases s2 with ⟨i0,B0,a1,a2,a3⟩ | hge
    ·exact (R.sep _ B0 g a2 a3).2.1
    exact .inr (Nat.le_trans R.keeps.size hge)
   rcases hinc2 i (houtm h) hf with ⟨h1,h2⟩ | hI | ⟨h1,h2⟩
   ·rw [hkeep i oi h h1] at hB
    exact (R.sep _ B g hB hg).2.2 h2
   ·exact Nat.le_trans R.keeps.size (s3 hI)
   rcases s2 with ⟨i0,B0,a1,a2,a3⟩ | hge
   ·by_cases h3:i0∈outs.map (·.1)
    ·obtain ⟨⟨i1,o1⟩,hm1,rfl⟩:=List.mem_map.1 h3
     have hk0:=hkeep i1 o1 hm1 a1
     have:=R2.inj i i1 B B0 g hB (hk0.trans a2) hg a3
     exact absurd (this ▸ a1) h1
    exact (R.sep _ B0 g a2 a3).2.2 (h2 i0 a1 h3)
   exact Nat.le_trans R.keeps.size hge
  rcases hc with hc | hc
  ·exact absurd hc h1
  rw [hιA c h1 hc] at hB;cases hB
 by_cases h1:c∈(outs.map (·.1)).map ρ
 ·obtain ⟨i,oi,hm,rfl⟩:=houtcase c h1
  by_cases hi:i∈ins.map (·.1)
  ·obtain ⟨_,o2,_,_,_,h2,_⟩:=hino i hi
   exact ⟨by rw [cQ hno (houtm hm),hkeep i oi hm hi],o2,h2⟩
  rw [R.pf _ (hfresh i oi hm hi)] at hp;cases hp
 rcases hc with hc | hc
 ·exact absurd hc h1
 have:=(hobA c h1 hc).symm.trans hoc;cases this

theorem tS {f:FuncId} {avs:List AV} (hE:EntersAt P o σ f avs) (rn:List (ay×ay)) {args:List AV} {ins outs:List (ay×Cells)} {r:AV} {I Pn:List ay} (inc':ay→Bool)
  (hinc1: ∀ c,c∉(outs.map (·.1)).map (aR rn)→inc' c=σ.inc c) (hinc2: ∀ i,i∈outs.map (·.1)→inc' (aR rn i)=false→(i∈ins.map (·.1)∧σ.inc (aR rn i)=false)∨(cj i I=false)∨(i∉ins.map (·.1)∧ ∀ j,j∈ins.map (·.1)→j∉outs.map (·.1)→σ.inc (aR rn j)=false))
  (ha:eP σ rn avs args) (hw:AV.withins (ins.map (·.1)) args=true) (hwi:aY (ins.map (·.1)) ins=true) (hins:cY (aR rn) σ (fun _=> false) (ins.map (·.1)) ins)
  (hni:bf ((ins.map (·.1)).map (aR rn))=true) (hni':bf (ins.map (·.1))=true) (hno:bf ((outs.map (·.1)).map (aR rn))=true) (hno':bf (outs.map (·.1))=true) (hfr:dz σ (aR rn) (ins.map (·.1)) outs) (hPn:fL (ins.map (·.1)) Pn outs=true)
  (hwo:r.within (outs.map (·.1))=true) (hwoo:aY (outs.map (·.1)) outs=true) (sp:Spec P f (aE args ins) (aP r outs I Pn)):
  gH P o σ (({ σ.after (aR rn) outs (ins.map (·.1)) I with inc:=inc' }:St).put o.dst (r.ren (aR rn))):=by
 intro K ι S a w R
 obtain ⟨vs,hrun,hvs,hrep⟩:=hE K ι S a w R
 obtain ⟨K1,ι1,S1,h1,h2,R1,hk⟩:=oN (d:=o.dst) rn inc' hinc1 hinc2 ha hw hwi hins hni hni' hno hno' hfr hPn hwo hwoo R hvs hrep
 refine kb hrun (sp K1 ι1 S1 _ w h1 h2 R1) ?_
 rintro e w' ⟨v,ι',S',rfl,R2⟩
 exact ⟨v,rfl,hk v w' ι' S' R2⟩
theorem BN {f:FuncId} {avs:List AV} (hE:EntersAt P o σ f avs) (rn:List (ay×ay)) {args:List AV} {ins outs:List (ay×Cells)} {r:AV} {I Pn:List ay}
  (ha:eP σ rn avs args) (hw:AV.withins (ins.map (·.1)) args=true) (hwi:aY (ins.map (·.1)) ins=true) (hins:cY (aR rn) σ (fun _=> false) (ins.map (·.1)) ins)
  (hni:bf ((ins.map (·.1)).map (aR rn))=true) (hni':bf (ins.map (·.1))=true) (hno:bf ((outs.map (·.1)).map (aR rn))=true) (hno':bf (outs.map (·.1))=true) (hfr:dz σ (aR rn) (ins.map (·.1)) outs) (hPn:fL (ins.map (·.1)) Pn outs=true)
  (hwo:r.within (outs.map (·.1))=true) (hwoo:aY (outs.map (·.1)) outs=true) (sp:Spec P f (aE args ins) (aP r outs I Pn)):
  gH P o σ ((σ.after (aR rn) outs (ins.map (·.1)) I).put o.dst (r.ren (aR rn))):=by
 refine tS hE rn (σ.after (aR rn) outs (ins.map (·.1)) I).inc (fun c hc=> kG hc) (fun i hi hf=> ?_) ha hw hwi hins hni hni' hno hno' hfr hPn hwo hwoo sp
 obtain ⟨⟨i',oi⟩,h,rfl⟩:=List.mem_map.1 hi
 have hf:gU (aR rn) outs I (eB σ ((ins.map (·.1)).map (aR rn))) σ.inc (aR rn i')=false:=hf
 rw [mJ (bD hno) h] at hf
 cases hI:cj i' I with
 | false=> exact .inr (.inl rfl)
 | true=>
  rw [hI] at hf
  simp only [cond_true] at hf
  have hall: ∀ j,j∈ins.map (·.1)→σ.inc (aR rn j)=false:=fun j hj=> gM hf _ (List.mem_map_of_mem hj)
  by_cases hin:i'∈ins.map (·.1)
  ·exact .inl ⟨hin,hall _ hin⟩
  exact .inr (.inr ⟨hin,fun j hj _=> hall j hj⟩)
def jT (ρ:ay→ay) (ins I:List ay) (any:Bool) (inc:ay→Bool):List (ay×Cells)→ay→Bool
 | [],c=> inc c
 | (i,_)::l,c=> bif gh c (ρ i) then (bif cj i ins then inc c else bif cj i I then any else false) else jT ρ ins I any inc l c
theorem jE {ρ:ay→ay} {ins I:List ay} {any:Bool} {inc:ay→Bool} {c:ay}: ∀ {outs:List (ay×Cells)},c∉(outs.map (·.1)).map ρ→jT ρ ins I any inc outs c=inc c
 | [],_=> rfl
 | (k,o)::l,h=> by
  simp only [List.map_cons,List.mem_cons,not_or] at h
  simp only [jT,ic h.1,cond_false]
  exact jE h.2
theorem mM {ρ:ay→ay} {ins I:List ay} {any:Bool} {inc:ay→Bool} {i:ay}: ∀ {outs:List (ay×Cells)},((outs.map (·.1)).map ρ).Nodup→i∈outs.map (·.1)→jT ρ ins I any inc outs (ρ i)=(bif cj i ins then inc (ρ i) else bif cj i I then any else false)
 | [],_,h=> by simp at h
 | (k,o)::l,hn,h=> by
  simp only [List.map_cons,List.nodup_cons] at hn
  simp only [List.map_cons,List.mem_cons] at h
  rcases h with rfl | h
  ·simp only [jT,dE,cond_true]
  have hne:ρ i≠ρ k:=fun e=> hn.1 (e ▸ List.mem_map_of_mem h)
  simp only [jT,ic hne,cond_false]
  exact mM hn.2 h
def fK (outs:List (ay×Cells)):List ay→List ay
 | []=> []
 | i::l=> bif cj i (outs.map (·.1)) then fK outs l else i::fK outs l
theorem gQ {outs:List (ay×Cells)} {i:ay}: ∀ {l:List ay},i∈l→i∉outs.map (·.1)→i∈fK outs l
 | [],h,_=> by cases h
 | k::l,h,hn=> by
  simp only [fK]
  cases hb:cj k (outs.map (·.1)) with
  | true=>
   simp only [cond_true]
   rcases List.mem_cons.1 h with rfl | h
   ·exact absurd (inO_iff.1 hb) hn
   exact gQ h hn
  | false=>
   simp only [cond_false]
   rcases List.mem_cons.1 h with rfl | h
   ·exact List.mem_cons_self
   exact List.mem_cons_of_mem _ (gQ h hn)
def St.afterP (σ:St) (ρ:ay→ay) (outs:List (ay×Cells)) (ins I:List ay):St:=
 { σ with ob:=cV ρ outs ins σ.ob,inc:=jT ρ ins I (eB σ ((fK outs ins).map ρ)) σ.inc outs }
theorem oV {f:FuncId} {avs:List AV} (hE:EntersAt P o σ f avs) (rn:List (ay×ay)) {args:List AV} {ins outs:List (ay×Cells)} {r:AV} {I Pn:List ay}
  (ha:eP σ rn avs args) (hw:AV.withins (ins.map (·.1)) args=true) (hwi:aY (ins.map (·.1)) ins=true) (hins:cY (aR rn) σ (fun _=> false) (ins.map (·.1)) ins)
  (hni:bf ((ins.map (·.1)).map (aR rn))=true) (hni':bf (ins.map (·.1))=true) (hno:bf ((outs.map (·.1)).map (aR rn))=true) (hno':bf (outs.map (·.1))=true) (hfr:dz σ (aR rn) (ins.map (·.1)) outs) (hPn:fL (ins.map (·.1)) Pn outs=true)
  (hwo:r.within (outs.map (·.1))=true) (hwoo:aY (outs.map (·.1)) outs=true) (sp:Spec P f (aE args ins) (aP r outs I Pn)):
  gH P o σ ((σ.afterP (aR rn) outs (ins.map (·.1)) I).put o.dst (r.ren (aR rn))):=by
 refine tS hE rn (σ.afterP (aR rn) outs (ins.map (·.1)) I).inc (fun c hc=> jE hc) (fun i hi hf=> ?_) ha hw hwi hins hni hni' hno hno' hfr hPn hwo hwoo sp
 have hf:jT (aR rn) (ins.map (·.1)) I (eB σ ((fK outs (ins.map (·.1))).map (aR rn))) σ.inc outs (aR rn i)=false:=hf
 rw [mM (bD hno) hi] at hf
 cases hb:cj i (ins.map (·.1)) with
 | true=>
  rw [hb] at hf
  exact .inl ⟨inO_iff.1 hb,hf⟩
 | false=>
  rw [hb] at hf
  simp only [cond_false] at hf
  cases hI:cj i I with
  | false=> exact .inr (.inl rfl)
  | true=>
   rw [hI] at hf
   simp only [cond_true] at hf
   refine .inr (.inr ⟨fun h=> ?_,fun j hj hn=> gM hf _ (List.mem_map_of_mem (gQ hj hn))⟩)
   rw [inO_iff.2 h] at hb;cases hb

theorem cJ {dd:Option Tmp} {ty:TypeId} {f:FuncId} {xs:Array Operand} {ats:Array TypeId} (C:ce P f) (rn:List (ay×ay)) {args:List AV} {ins outs:List (ay×Cells)} {r:AV} {I Pn:List ay}
  (ha:eP σ rn (xs.toList.map σ.eval) args) (sp:Spec P f (aE args ins) (aP r outs I Pn)) (hins:cY (aR rn) σ (fun _=> false) (ins.map (·.1)) ins) (hfr:dz σ (aR rn) (ins.map (·.1)) outs)
  (hb:(AV.withins (ins.map (·.1)) args && aY (ins.map (·.1)) ins && bf ((ins.map (·.1)).map (aR rn)) && bf (ins.map (·.1)) && bf ((outs.map (·.1)).map (aR rn)) && bf (outs.map (·.1)) && fL (ins.map (·.1)) Pn outs && r.within (outs.map (·.1)) && aY (outs.map (·.1)) outs)=true):
  Stp P dd (.call { callee:= .value (.func f),args:=xs,argTypes:=ats }) ty σ ((σ.after (aR rn) outs (ins.map (·.1)) I).put dd (r.ren (aR rn))):=by
 intro o hd ho ht
 subst hd
 simp only [Bool.and_eq_true] at hb
 obtain ⟨⟨⟨⟨⟨⟨⟨⟨h1,h2⟩,h3⟩,h4⟩,h5⟩,h6⟩,h7⟩,h8⟩,h9⟩:=hb
 exact BN (.fnc ho C) rn ha h1 h2 hins h3 h4 h5 h6 hfr h7 h8 h9 sp
end
theorem nV {x0 x1}:AV.v (.int x0 x1)=AV.v (.int x0 x1):=rfl
theorem rD {x0}:AV.v (.bool x0)=AV.v (.bool x0):=rfl
theorem qd {x0 x1}:AV.sl x0 x1=AV.sl x0 x1:=rfl
theorem qj {x0 x1 x2}:AV.ref x0 x1 x2=AV.ref x0 x1 x2:=rfl
theorem fg {x0 x1 x2}:AV.v (.slice x0 x1 x2)=AV.v (.slice x0 x1 x2):=rfl
theorem iH {x0}:AV.v x0=AV.v x0:=rfl
theorem HE {x0}:AV.v (.string x0)=AV.v (.string x0):=rfl
theorem oz {x0 x1}:AV.ptr x0 x1=AV.ptr x0 x1:=rfl
theorem Cf {x0 x1 x2}:AV.fn x0 x1 x2=AV.fn x0 x1 x2:=rfl
theorem Hj {x0}:AV.tup x0=AV.tup x0:=rfl
theorem qk {x0}:some (AV.v (.bool x0))=some (AV.v (.bool x0)):=rfl
theorem nn {x0 x1}:some (AV.sl x0 x1)=some (AV.sl x0 x1):=rfl
theorem yk {x0 x1 x2}:some (AV.ref x0 x1 x2)=some (AV.ref x0 x1 x2):=rfl
theorem uV {x0}:some (AV.agg x0)=some (AV.agg x0):=rfl
theorem eu {P:Program} {fn:Func} {σ:St} {t:Tmp} {x:Value} (hr:fn.results= #[.tmp t]) (h:σ.eval (.tmp t)= .v x):jh P fn (aG (.v x) []) .ret σ:=dm (.inr rfl) hr (.tmp h) (Le.out [] [] .v rfl rfl rfl trivial trivial)
theorem tY {P:Program} {fn:Func} {σ:St} {t:Tmp} {n:Nat} {xs:List PV} (hr:fn.results= #[.tmp t]) (h:σ.eval (.tmp t)= .sl n xs):jh P fn (aG (.sl n xs) []) .ret σ:=dm (.inr rfl) hr (.tmp h) (Le.out [] [] .sl rfl rfl rfl trivial trivial)
theorem oB {P:Program} {fn:Func} {σ:St} {t:Tmp} {k:IntKind} {n m:Int} (hr:fn.results= #[.tmp t]) (h:σ.eval (.tmp t)= .v (.int k n)) (e:m=n):jh P fn (aG (.v (.int k m)) []) .ret σ:=dm (.inr rfl) hr (.tmp h) (Le.out [] [] (eN e) rfl rfl rfl trivial trivial)
theorem kV {P:Program} {fn:Func} {σ:St} {t:Tmp} {a b:Bool} (hr:fn.results= #[.tmp t]) (h:σ.eval (.tmp t)= .v (.bool b)) (e:a=b):jh P fn (aG (.v (.bool a)) []) .ret σ:=dm (.inr rfl) hr (.tmp h) (Le.out [] [] (qK e) rfl rfl rfl trivial trivial)
theorem oC {p:Prop} (h:p:=by simp [Value.oneCell']):p:=h
end Go.Proofs.YtmjnackchaahbaaGreat
