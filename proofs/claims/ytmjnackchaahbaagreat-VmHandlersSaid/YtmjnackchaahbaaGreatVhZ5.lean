/- part 5 -/
import Derived.DataReads
import Derived.ChangeSlices
import Derived.WalkKit
import Derived.ChangeOld
import Derived.SizedLaws
import Derived.ChangeKeysEq
import Derived.RangeFuncNested
import Derived.Maps.RangeRun
import Derived.Test.YtmjnackchaahbaaGreatVhZ4
set_option linter.unusedSimpArgs false
set_option linter.unusedVariables false
namespace Go.Proofs.YtmjnackchaahbaaGreat
open Go.RowKit

def nT {α:Type} (pl:Nat→Option (Nat×Nat)):List α→List (Nat×List α)→Option (List α)
  | cs,[]=> some cs
  | cs,(i,vs)::rest=> match pl i with
    | some (off,size)=> bif Nat.beq vs.length size && Nat.ble (off+size) cs.length then nT pl (ez cs off vs) rest else none
    | none=> none

class Bld (P:Program) (t:TypeId) (z:outParam (List Value)) (pl:outParam (Nat→Option (Nat×Nat))):Prop where
  out: ∀ (parts:Array (Nat×Value)) (cs:Array Value) (w:World),Instr.fill pl z.toArray parts.toList=some cs→(Instr.build t parts).run P w= .ok (.agg cs) w
  one: ∀ u∈z,u.oneCell'=true

theorem Bld.struct {P:Program} {t:TypeId} {z:List Value} {fs:Array Field} {bytes:Nat} (zv:Value) (pl:List (Nat×Nat)) (h1:P.underlying t=some (.struct fs)) (h2:(P.info? t).map (fun i=> (i.zero,i.size,i.bytes))=some (some zv,z.length,bytes)) (h3:zv.cells=z.toArray)
    (h4: ∀ u∈z,u.oneCell'=true) (hp: ∀ w,(fs.mapM fun f=> do pure (f.offset,← sizeOf f.type):Sem (Array (Nat×Nat))).run P w= .ok pl.toArray w):Bld P t z (fun i=> pl[i]?):=by
  obtain ⟨i,hi,a,b,c⟩:=info_parts h2
  refine ⟨fun parts cs w hf=> ?_,h4⟩
  have hp':=hp w
  have hz:(zeroValue t).run P w= .ok zv w:=by simp [zeroValue,typeInfo,hi,a]
  simp only [Instr.build,Sem.run_bind,hz,run_underlying h1,Result.andThen_ok,hp',h3,Sem.run_pure,List.getElem?_toArray,hf]
theorem Bld.array {P:Program} {t e:TypeId} {z:List Value} {n size bytes:Nat} (zv:Value) (h1:P.underlying t=some (.array n e)) (h2:(P.info? t).map (fun i=> (i.zero,i.size,i.bytes))=some (some zv,z.length,bytes)) (h3:zv.cells=z.toArray)
    (h4: ∀ u∈z,u.oneCell'=true) (hs:(P.info? e).map (·.size)=some size):Bld P t z (fun i=> some (i*size,size)):=by
  obtain ⟨i,hi,a,b,c⟩:=info_parts h2
  obtain ⟨j,hj,hjs⟩:=Option.map_eq_some_iff.1 hs
  refine ⟨fun parts cs w hf=> ?_,h4⟩
  simp [Instr.build,zeroValue,typeInfo,sizeOf,hi,a,h3,run_underlying h1,hj,hjs,hf]

def qc (σ:St):List (Nat×Operand)→Option (List (Nat×List AV))
  | []=> some []
  | (i,x)::l=> match (σ.eval x).cells,qc σ l with
    | some c,some r=> some ((i,c)::r)
    | _,_=> none

theorem qZ (pl:Nat→Option (Nat×Nat)) {R:AV→Value→Prop}: ∀ (ps:List (Nat×List AV)) (vs:List (Nat×Value)) (cs:List AV) (us:Array Value) (ys:List AV),nT pl cs ps=some ys→
    vs.length=ps.length→(∀ (j:Nat) (p:Nat×List AV) (v:Nat×Value),ps[j]? =some p→vs[j]? =some v→p.1=v.1∧v.2.cells.size=p.2.length∧(∀ x∈v.2.cells.toList,x.oneCell'=true)∧ ∀ (k:Nat) (b:AV),p.2[k]? =some b→R b (v.2.cells.getD k undef))→
    us.size=cs.length→(∀ u∈us.toList,u.oneCell'=true)→(∀ (k:Nat) (b:AV),cs[k]? =some b→R b (us.getD k undef))→
    ∃ us',Instr.fill pl us vs=some us'∧us'.size=ys.length∧(∀ u∈us'.toList,u.oneCell'=true)∧ ∀ (k:Nat) (b:AV),ys[k]? =some b→R b (us'.getD k undef)
  | [],vs,cs,us,ys,h,hl,_,h1,h2,h3=> by
    obtain rfl:vs=[]:=List.eq_nil_of_length_eq_zero hl
    simp only [nT] at h
    obtain rfl:=Option.some.inj h
    exact ⟨us,rfl,h1,h2,h3⟩
  | (i,c)::ps,vs,cs,us,ys,h,hl,hp,h1,h2,h3=> by
    cases vs with
    | nil=> simp at hl
    | cons v vs=>
      obtain ⟨i',v⟩:=v
      obtain ⟨e1,e2,e3,e4⟩:=hp 0 _ _ rfl rfl
      simp only at e1 e2 e3 e4
      subst e1
      simp only [nT] at h
      split at h
      · rename_i off size hpl
        cases hc:(Nat.beq c.length size && Nat.ble (off+size) cs.length) with
        | false=> rw [hc] at h;cases h
        | true=>
          rw [hc] at h
          simp only [Bool.and_eq_true,Nat.beq_eq,Nat.ble_eq] at hc
          obtain ⟨hc1,hc2⟩:=hc
          subst hc1
          have hf:=ti v.cells.toList off 0 us (by simp [e2];omega)
          simp only [Nat.add_zero] at hf
          have hz:(v.cells.zipIdx.foldl (fun (cs:Array Value) (p:Value×Nat)=> cs.setIfInBounds (off+p.2) p.1) us)=(put us.toList off v.cells.toList).toArray:=by
            rw [← hf,← Array.foldl_toList,Array.toList_zipIdx]
          have hz':(Array.foldl (fun cs (x:Value×Nat)=> match x with | (c,j)=> cs.setIfInBounds (off+j) c) us v.cells.zipIdx)=(put us.toList off v.cells.toList).toArray:=hz
          have hvl:v.cells.toList.length=c.length:=by simpa using e2
          have hcl:off+v.cells.toList.length≤us.toList.length:=by rw [hvl];simp;omega
          have hstep:=qZ pl (R:=R) ps vs (ez cs off c) (ez us.toList off v.cells.toList).toArray ys h (by simpa using hl) (fun j p q hj hq=> hp (j+1) p q (by simpa using hj) (by simpa using hq))
            (by simp [fb _ _ _ hcl,fb _ _ _ hc2,h1]) (fun u hu=> by
              rcases pZ (by simpa using hu) with hu | hu
              · exact h2 u hu
              · exact e3 u hu) (fun k b hb=> by
              rw [fa _ _ _ hc2] at hb
              have hk:(ez us.toList off v.cells.toList).toArray.getD k undef=((ez us.toList off v.cells.toList)[k]?).getD undef:=by simp [List.getD_eq_getElem?_getD]
              rw [hk,fa _ _ _ hcl,hvl]
              split at hb
              · rename_i hin
                rw [if_pos hin]
                have:=e4 _ b hb
                simpa using this
              rename_i hin
              rw [if_neg hin]
              have:=h3 k b hb
              simpa using this)
          obtain ⟨us',r1,r2,r3,r4⟩:=hstep
          refine ⟨us',?_,r2,r3,r4⟩
          simp only [Instr.fill,hpl]
          rw [if_neg (by simp [e2];omega)]
          rw [hz']
          exact r1
      cases h

section
variable {P:Program} {σ:St} {o:Oper} {z:List Value}
theorem nO {K:jb} {ι:ay→Option dX} {S:Nat→Prop} {a:Act} {w:World} (R:RelI K ι S σ a w): ∀ (l:List (Nat×Operand)) (r:List (Nat×List AV)),qc σ l=some r→
    l.length=r.length∧(∀ (j:Nat) (p:Nat×List AV) (v:Nat×Value),r[j]? =some p→(l.map fun q=> (q.1,a.eval q.2))[j]? =some v→p.1=v.1∧v.2.cells.size=p.2.length∧(∀ x∈v.2.cells.toList,x.oneCell'=true)∧ ∀ (k:Nat) (b:AV),p.2[k]? =some b→Rep ι S w b (v.2.cells.getD k undef))∧
      ∀ p∈r,∀ b∈p.2,∀ i,Has i b→σ.ob i≠ .free
  | [],r,h=> by simp [qc] at h;subst h;simp
  | (i,x)::l,r,h=> by
    simp only [qc] at h
    split at h
    · rename_i c r' hc hr
      obtain rfl:=Option.some.inj h
      obtain ⟨h1,h2,h3⟩:=nO R l r' hr
      obtain ⟨c1,c2,c3⟩:=(R.eval x).cells hc
      refine ⟨by simp [h1],fun j p v hp hv=> ?_,fun p hp b hb k hk=> ?_⟩
      · cases j with
        | zero=>
          simp at hp hv
          subst hp;subst hv
          exact ⟨rfl,c1,c2,c3⟩
        | succ j=> exact h2 j p v (by simpa using hp) (by simpa using hv)
      rcases List.mem_cons.1 hp with rfl | hp
      · exact R.evalHas x (nk hc hb hk)
      exact h3 p hp b hb k hk
    cases h

theorem qH {pl:Nat→Option (Nat×Nat)} {Q:AV→Prop}: ∀ (ps:List (Nat×List AV)) (cs ys:List AV),nT pl cs ps=some ys→(∀ b∈cs,Q b)→(∀ p∈ps,∀ b∈p.2,Q b)→ ∀ b∈ys,Q b
  | [],cs,ys,h,h1,_=> by
    simp only [nT] at h
    obtain rfl:=Option.some.inj h
    exact h1
  | (i,c)::ps,cs,ys,h,h1,h2=> by
    simp only [nT] at h
    split at h
    · cases hc:(Nat.beq c.length _ && Nat.ble _ cs.length) with
      | false=> rw [hc] at h;cases h
      | true=>
        rw [hc] at h
        exact qH ps _ ys h (fun b hb=> by
          rcases pZ hb with hb | hb
          · exact h1 b hb
          exact h2 _ List.mem_cons_self b hb) fun p hp=> h2 p (List.mem_cons_of_mem _ hp)
    cases h

theorem gp {dd:Option Tmp} {ty t:TypeId} {pl:Nat→Option (Nat×Nat)} (parts:Array (Nat×Operand)) (B:Bld P t z pl) {r:List (Nat×List AV)} (hp:qc σ parts.toList=some r) {ys:List AV} (hf:nT pl (z.map AV.v) r=some ys):
    Stp P dd (.build t parts) ty σ (σ.put dd (.agg ys)):=by
  intro o hd ho ht
  subst hd
  refine bs fun K ι S a w R=> ?_
  obtain ⟨h1,h2,h3⟩:=nO R _ _ hp
  obtain ⟨us,u1,u2,u3,u4⟩:=qZ pl (R:=Rep ι S w) r (parts.toList.map fun q=> (q.1,a.eval q.2)) (z.map AV.v) z.toArray ys hf (by simp at h1 ⊢;omega) h2 (by simp) (by simpa using B.one) (fun k b hb=> by
    simp only [List.getElem?_map] at hb
    obtain ⟨x,hx,rfl⟩:=Option.map_eq_some_iff.1 hb
    have:z.toArray.getD k undef=x:=by simp [hx]
    rw [this];exact .v)
  refine ⟨.agg us,?_, .agg u2 u3 u4,fun i hi=> ?_⟩
  · have:=B.out (parts.map fun q=> (q.1,a.eval q.2)) us w (by simpa using u1)
    have he:(parts.map fun x=> match x with | (i,x)=> (i,a.eval x))=parts.map fun q=> (q.1,a.eval q.2):=rfl
    simp only [execOp,ho,he,Sem.run_bind,this,Result.andThen_ok,Sem.run_pure]
  cases hi with
  | agg hm hi=>
    refine qH (Q:=fun b=> ∀ i,Has i b→σ.ob i≠ .free) r _ ys hf (fun b hb i hi=> ?_) h3 _ hm i hi
    simp only [List.mem_map] at hb
    obtain ⟨x,_,rfl⟩:=hb
    cases hi

theorem cR {dd:Option Tmp} {ty:TypeId} {av:AV} (x:Operand) {j:Nat} {xs:List AV} (hx:σ.eval x= .tup xs) (hv:xs[j]? =some av):Stp P dd (.extract x j) ty σ (σ.put dd av):=by
  intro o hd ho ht
  subst hd
  refine bs fun K ι S a w R=> ?_
  have hp:=R.eval x
  rw [hx] at hp
  generalize hve:a.eval x=v at hp
  cases hp with
  | tup h1 h3=>
    rename_i us
    have hlt:j < us.size:=by rw [h1];exact (List.getElem?_eq_some_iff.1 hv).1
    refine ⟨us[j],by simp [execOp,ho,Instr.extract,hve,hlt],by have:=h3 j av hv;simpa [hlt] using this,fun i h=> R.evalHas x (by rw [hx];exact .tup (List.mem_of_getElem? hv) h)⟩
end

theorem Spec.mono {P:Program} {f:FuncId} {σ σ' σ'':St} (h:Spec P f σ σ') (hl:Le σ'' σ'):Spec P f σ σ'':=by
  intro K ι S vs w hK hr R
  refine (h K ι S vs w hK hr R).mono ?_
  rintro e w' ⟨v,ι',S',rfl,R'⟩
  obtain ⟨ι2,S2,R2⟩:=hl K ι' S' _ w' R'
  exact ⟨v,ι2,S2,rfl,R2⟩
theorem iO {ρ:ay→ay} {σ:St} {F:ay→Bool} {id:ay} {e:TypeId} {sz n:Nat} {xs ys:List PV} (hid:σ.ob id= .obj (.row e sz xs)) (hF:F id=true) (hl:n*sz=xs.length) (hy:xs=ys):Lv ρ σ F (.sl n ys) (.ref id 0 n):=
  .frz hid hF (by rw [List.drop_zero,hl,List.take_length,hy]) ab

theorem Le.outO {r r':AV} {obs obs':List (ay×Cells)} {I Pn:List ay} (rn:List (ay×ay)) (Fz:List ay) (hr:Lv (aR rn) (aP r obs' I Pn) (fun i=> cj i Fz) r' r) (hw1:r'.within (obs.map (·.1))=true) (hw2:aY (obs.map (·.1)) obs=true)
    (hd:bf ((obs.map (·.1)).map (aR rn))=true) (hi:ft (aP r obs' I Pn) Fz) (ho:lA (aR rn) (aP r obs' I Pn) (fun i=> cj i Fz) obs):Le (aG r' obs) (aP r obs' I Pn):=by
  refine Le.gen (n:=1) rn Fz rfl (fun t=> ?_) (fun t id h=> ?_) hw2 hd hi ho
  · show Lv _ _ _ _ (bif Nat.beq t 0 then r else .dead)
    cases hb:Nat.beq t 0 with
    | true=> exact hr
    | false=> exact .dead
  cases hb:Nat.beq t 0 with
  | true=> rw [hb] at h;exact eF r' hw1 h
  | false=> rw [hb] at h;cases h
section
variable {P:Program} {σ:St} {o:Oper} {z:List Value} {T e:TypeId} {size bytes:Nat}

theorem iJ {dd:Option Tmp} {ty:TypeId} (len:Nat) (parts:Array (Nat×Operand)) (E:Elem P T e size bytes z) {r:List (List AV)} (hp:nq σ 0 parts.toList=some r) (hlen:r.length=len) (hsz: ∀ c∈r,c.length=size)
    (hb:len*size≤100000) {xs:List PV} (hxs:kh r.flatten=some xs):Stp P dd (.buildSlice T len parts) ty σ (σ.put dd (.sl len xs)):=by
  intro o hd ho ht
  subst hd
  intro K ι S a w R
  obtain ⟨vs,h1,h2,h3,h4,h5,h6⟩:=ky R _ _ _ hp
  obtain ⟨d1,d2⟩:=fS hxs
  have hvsz: ∀ v∈vs,v.cells.size=size:=by
    intro v hv
    obtain ⟨j,hj,rfl⟩:=List.getElem_of_mem hv
    have hjr:j < r.length:=by omega
    rw [h3 j _ _ (List.getElem?_eq_getElem hj) (List.getElem?_eq_getElem hjr)]
    exact hsz _ (List.getElem_mem hjr)
  obtain ⟨v',w',hr,H',hbl,hfr,_⟩:=zU (P:=P) (ρ:=a.eval) (SH.start w) len parts ho vs h1 ab hvsz _ rfl h5 hb
  have hrow:=H'.get (i:=0) (x:= .row v' e size len (vs.flatMap fun v=> v.cells.toList)) rfl
  have hxl:xs.length=len*size:=by
    have: ∀ (r:List (List AV)),(∀ c∈r,c.length=size)→r.flatten.length=r.length*size:=by
      intro r
      induction r with
      | nil=> simp
      | cons c r ih=>
        intro h
        rw [List.flatten_cons,List.length_append,ih fun c hc=> h c (List.mem_cons_of_mem _ hc),h c List.mem_cons_self,List.length_cons,Nat.add_mul,Nat.one_mul,Nat.add_comm]
    rw [← d1,this r hsz,hlen]
  have fin: ∀ (S':Nat→Prop),(∀ g,S g→S' g)→(∀ g,S' g→S g∨w.heap.size≤g)→(∀ g,S' g→g < w'.heap.size)→Rd S' w' (.sl len xs) v'→fl P o a.eval w fun v w''=> ∃ ι' S',RelI K ι' S' (σ.put o.dst (.sl len xs)) (a.put o.dst v) w'':=by
    intro S' g1 g2 g3 hrd
    have R3:=R.gen (ι':=ι) (S':=S') (w':=w') (ob':=σ.ob) (inc':=σ.inc) (fun _=> False) (.of_below hbl) (fun _ _=> rfl) (fun _ _=> rfl) (fun _ _=> rfl) (fun _ h=> h) g1
      (fun g h=> by rcases g2 g h with h | h; · exact .inl h
                    exact .inr (.inl h)) g3
      (fun _ _ h=> h.elim) (fun _ _ h=> h.elim) (fun _ _ h=> h.elim) (fun _ _ _ _ _ h=> h.elim) (fun _ _ _ h=> h.elim) (fun _ _ _ h=> h.elim)
    exact bZ hr ⟨ι,S',R3.put o.dst (.sl hrd) fun i hi=> sN hi⟩
  rcases kY (w:=w') (e:=e) (sz:=size) (n:=len) (v:=v') (us:=vs.flatMap fun v=> v.cells.toList) ⟨hrow.1.1,by
    rcases hrow.1.2 with h | ⟨g,cap,cur,a1,a2,a3⟩
    · exact .inl h
    exact .inr ⟨g,cap,cur,a1,Nat.zero_le _,a3⟩⟩ with ⟨hv,rfl,hu0⟩ | ⟨g,c,cur,hv,hg,hnc,hcm,hcs,hcu⟩
  · subst hv
    have:xs=[]:=List.eq_nil_of_length_eq_zero (by simpa using hxl)
    subst this
    exact fin S (fun _ h=> h) (fun _ h=> .inl h) (fun g h=> Nat.lt_of_lt_of_le (R.Slt g h) hbl.size) (.sl0 (Nat.le_refl _) (by unfold maxLen;omega) fun _=> ⟨rfl,rfl⟩)
  subst hv
  have hgw:w.heap.size≤g:=hfr g rfl
  refine fin (fun k=> S k∨k=g) (fun _ h=> .inl h) (fun k h=> by
    rcases h with h | h
    · exact .inl h
    exact .inr (by rw [h];exact hgw)) (fun k h=> ?_) ?_
  · rcases h with h | h
    · exact Nat.lt_of_lt_of_le (R.Slt k h) hbl.size
    rw [h];exact (Array.getElem?_eq_some_iff.1 hg).1
  have key: ∀ (j:Nat) (p:PV),xs[j]? =some p→ ∃ u,cur[j]? =some u∧Rd (fun k=> S k∨k=g) w' p u:=by
    intro j p hj
    obtain ⟨b,hb',hbd⟩:=d2 j p hj
    obtain ⟨u,hu,hru⟩:=h6 j b hb'
    exact ⟨u,hcu j u hu,(hru.down hbd (h5 u (List.mem_of_getElem? hu))).next (fun k hk=> hbl.block k (R.Slt k hk)) fun _ h=> .inl h⟩
  have:=Rd.sl (S:=fun k=> S k∨k=g) (w:=w') (n:=len) (c:=c) (b:=g) (o:=0) (xs:=xs) (fun j=> cur.getD j undef) hnc hcm (.mk (.inr rfl) hg) (fun j p hj=> ?_) (fun j p hj=> ?_)
  · exact this
  · obtain ⟨u,hu,_⟩:=key j p hj
    simp only [Nat.zero_add,Array.getD_eq_getD_getElem?,hu,Option.getD_some]
    exact ee hg hu
  obtain ⟨u,hu,hru⟩:=key j p hj
  simp only [Array.getD_eq_getD_getElem?,hu,Option.getD_some]
  exact hru
end
section
variable {P:Program} {σ:St} {z:List Value} {T e:TypeId} {size bytes:Nat}

theorem gX (w:World):Below w.heap.size w w:=Below.refl _ _

theorem pN {dd:Option Tmp} {ty:TypeId} (id:ay) (x:Operand) (e:TypeId) (sz:Nat) (hx:σ.eval x= .v (.slice none 0 0)) (hid:σ.ob id= .free):Stp P dd (.assign x) ty σ ((σ.setOb id (.obj (.row e sz []))).put dd (.ref id 0 0)):=by
  intro o hd ho ht
  subst hd
  intro K ι S a w R
  have hv:=R.eval x
  rw [hx] at hv
  have hv:=hv.toV
  exact bZ (by simp [execOp,ho,hv]) (R.newNil hid (gX w) e sz _)
end

mutual
theorem Lv.same {σ:St} {F:ay→Bool}:(a:AV)→Lv (fun i=> i) σ F a a
  | .dead=> .dead
  | .v _=> .v
  | .sl _ _=> .sl
  | .fp _ _=> .fp
  | .z=> .z
  | .mp _=> .mp (ρ:=fun i=> i)
  | .ref _ _ _=> .ref (ρ:=fun i=> i)
  | .ptr _ _=> .ptr (ρ:=fun i=> i)
  | .agg xs=> .agg rfl fun j a b ha hb=> by
      rw [ha] at hb;cases hb;exact Lv.sames xs j a ha
  | .fn f xs us=> .fn rfl (fun j a b ha hb=> by
      rw [ha] at hb;cases hb;exact Lv.sames xs j a ha) rfl fun j a b ha hb=> by
      rw [ha] at hb;cases hb;exact Lv.sames us j a ha
  | .ifc t a=> .ifc (Lv.same a)
  | .tup xs=> .tup rfl fun j a b ha hb=> by
      rw [ha] at hb;cases hb;exact Lv.sames xs j a ha
theorem Lv.sames {σ:St} {F:ay→Bool}:(xs:List AV)→(j:Nat)→(a:AV)→xs[j]? =some a→Lv (fun i=> i) σ F a a
  | [],_,_,h=> by simp at h
  | x::xs,0,a,h=> by simp at h;subst h;exact Lv.same x
  | x::xs,j+1,a,h=> Lv.sames xs j a (by simpa using h)
end
theorem LvO.same {σ:St} {F:ay→Bool}:(o:Cells)→LvO (fun i=> i) σ F o o
  | .row _ _ xs=> .row (List.append_nil xs).symm
  | .box _ xs=> .box rfl fun j a b ha hb=> by
      rw [ha] at hb;cases hb;exact Lv.sames xs j a ha
  | .rowA _ _ xs=> .rowA rfl fun j a b ha hb=> by
      rw [ha] at hb;cases hb;exact Lv.sames xs j a ha
  | .mp _ _=> .mp
  | .it _ _ _ _=> .it (ρ:=fun i=> i)

theorem Le.frzS {σ:St} (t:Nat) {id:ay} {off n:Nat} {e:TypeId} {sz:Nat} {xs ys:List PV} (hr:σ.fr t= .ref id off n) (hid:σ.ob id= .obj (.row e sz xs)) (hi:σ.inc id=false) (hy:(xs.drop off).take (n*sz)=ys) (hl:off+n*sz≤xs.length):
    Le ((σ.setOb id .gone).put (some t) (.sl n ys)) σ:=by
  intro K ι S a w R
  have hob: ∀ i o,((σ.setOb id .gone).put (some t) (.sl n ys)).ob i= .obj o→gh i id=false∧σ.ob i= .obj o:=by
    intro i o h
    rw [St.put_ob] at h
    simp only [St.setOb] at h
    cases hb:gh i id with
    | true=> rw [hb] at h;cases h
    | false=> rw [hb] at h;exact ⟨rfl,h⟩
  have hnf: ∀ i,σ.ob i≠ .free→((σ.setOb id .gone).put (some t) (.sl n ys)).ob i≠ .free:=by
    intro i h h'
    rw [St.put_ob] at h'
    simp only [St.setOb] at h'
    cases hb:gh i id with
    | true=> rw [hb] at h';cases h'
    | false=> rw [hb] at h';exact h h'
  refine Le.of (fun i=> i) (fun i=> gh i id) (by rw [St.put_n];rfl) (fun u hu=> ?_) (fun i o h=> ?_) (fun _ _ _ _ _ _ h=> h) (fun i h=> ?_) (fun i o h h'=> ?_) (fun u i h=> ?_) (fun i o j h h'=> ?_) (fun i h o hp ho=> ?_) (fun i h=> ?_) K ι S a w R
  · show Lv _ _ _ (bif Nat.beq u t then _ else σ.fr u) _
    cases hb:Nat.beq u t with
    | true=> rw [Nat.eq_of_beq_eq_true hb,hr];exact .frz hid (dE id) hy hl
    | false=> exact Lv.same _
  · obtain ⟨h1,h2⟩:=hob i o h
    exact ⟨h1,o,h2,LvO.same o⟩
  · rw [oeq_iff.1 h];exact hi
  · exact h'
  · replace h:Has i (bif Nat.beq u t then _ else σ.fr u):=h
    cases hb:Nat.beq u t with
    | true=> rw [hb] at h;cases h
    | false=> rw [hb] at h;exact hnf i (R.cl u i h)
  · exact hnf j (R.clo i o j (hob i o h).2 h')
  · exact hp
  refine R.pf i ?_
  rw [St.put_ob] at h
  simp only [St.setOb] at h
  cases hb:gh i id with
  | true=> rw [hb] at h;cases h
  | false=> rw [hb] at h;exact h
theorem Le.frzB {σ:St} (ib:ay) (j:Nat) {T:TypeId} {cs:List AV} {id:ay} {off n:Nat} {e:TypeId} {sz:Nat} {xs ys:List PV} (hb:σ.ob ib= .obj (.box T cs)) (hr:cs[j]? =some (.ref id off n)) (hid:σ.ob id= .obj (.row e sz xs)) (hi:σ.inc id=false) (hy:(xs.drop off).take (n*sz)=ys) (hl:off+n*sz≤xs.length):
    Le ((σ.setOb id .gone).setOb ib (.obj (.box T (cs.set j (.sl n ys))))) σ:=by
  intro K ι S a w R
  have hne:gh ib id=false:=by
    cases h:gh ib id with
    | true=> rw [oeq_iff.1 h,hid] at hb;cases hb
    | false=> rfl
  have hob: ∀ i o,((σ.setOb id .gone).setOb ib (.obj (.box T (cs.set j (.sl n ys))))).ob i= .obj o→gh i id=false∧((gh i ib=false∧σ.ob i= .obj o)∨(i=ib∧o= .box T (cs.set j (.sl n ys)))):=by
    intro i o h
    simp only [St.setOb] at h
    cases h1:gh i ib with
    | true=>
      rw [h1] at h
      have:=oeq_iff.1 h1
      subst this
      cases h
      exact ⟨hne, .inr ⟨rfl,rfl⟩⟩
    | false=>
      rw [h1] at h
      cases h2:gh i id with
      | true=> rw [h2] at h;cases h
      | false=> rw [h2] at h;exact ⟨rfl, .inl ⟨rfl,h⟩⟩
  have hnf: ∀ i,σ.ob i≠ .free→((σ.setOb id .gone).setOb ib (.obj (.box T (cs.set j (.sl n ys))))).ob i≠ .free:=by
    intro i h h'
    simp only [St.setOb] at h'
    cases h1:gh i ib with
    | true=> rw [h1] at h';cases h'
    | false=>
      rw [h1] at h'
      cases h2:gh i id with
      | true=> rw [h2] at h';cases h'
      | false=> rw [h2] at h';exact h h'
  refine Le.of (σ1:=(σ.setOb id .gone).setOb ib (.obj (.box T (cs.set j (.sl n ys))))) (σ2:=σ) (fun i=> i) (fun i=> gh i id) rfl (fun u hu=> Lv.same _) (fun i o h=> ?_) (fun _ _ _ _ _ _ h=> h) (fun i h=> ?_) (fun i o h h'=> h') (fun u i h=> hnf i (R.cl u i h)) (fun i o k h h'=> ?_) (fun i h o hp ho=> hp) (fun i h=> ?_) K ι S a w R
  · obtain ⟨h1,⟨_,h2⟩ | ⟨rfl,rfl⟩⟩:=hob i o h
    · exact ⟨h1,o,h2,LvO.same o⟩
    refine ⟨h1,_,hb, .box (by simp) fun k a b ha hb'=> ?_⟩
    by_cases hk:j=k
    · subst hk
      rw [hr] at hb';cases hb'
      have hjl:j < cs.length:=(List.getElem?_eq_some_iff.1 hr).1
      rw [List.getElem?_set_self hjl] at ha;cases ha
      exact .frz hid (dE id) hy hl
    rw [List.getElem?_set_ne hk,hb'] at ha;cases ha;exact Lv.same _
  · rw [oeq_iff.1 h];exact hi
  · obtain ⟨h1,⟨_,h2⟩ | ⟨rfl,rfl⟩⟩:=hob i o h
    · exact hnf k (R.clo i o k h2 h')
    obtain ⟨x,hx,hk⟩:=h'
    rcases List.mem_or_eq_of_mem_set hx with hx | hx
    · exact hnf k (R.clo _ _ k hb ⟨x,hx,hk⟩)
    subst hx;cases hk
  refine R.pf i ?_
  simp only [St.setOb] at h
  cases h1:gh i ib with
  | true=> rw [h1] at h;cases h
  | false=>
    rw [h1] at h
    cases h2:gh i id with
    | true=> rw [h2] at h;cases h
    | false=> rw [h2] at h;exact h
theorem Rep.toAgg {ι:ay→Option dX} {S:Nat→Prop} {w:World} {us:List Value} {u:Value} (h:Rep ι S w (.agg (us.map AV.v)) u):u= .agg us.toArray:=by
  cases h with
  | @agg xs vs h1 h2 h3=>
    congr 1
    refine Array.ext (by simpa using h1) fun j hj hj'=> ?_
    have hjl:j < us.length:=by simpa using hj'
    have:=h3 j (.v us[j]) (by simp [hjl])
    have:=this.toV
    rw [Array.getD_eq_getD_getElem?,Array.getElem?_eq_getElem hj] at this
    simpa using this
theorem Dw {P:Program} {σ:St} {dd:Option Tmp} {ty:TypeId} {op:BinOp} {t t':TypeId} {x y:Operand} (us vs:List Value) (hx:σ.eval x= .agg (us.map AV.v)) (hy:σ.eval y= .agg (vs.map AV.v)) {r:Value}
    (h: ∀ (o:Oper) (ρ:Operand→Value) w,o.op= .binOp op t x y t'→ρ x= .agg us.toArray→ρ y= .agg vs.toArray→(execOp ρ o).run P w= .ok (.value r) w):Stp P dd (.binOp op t x y t') ty σ (σ.put dd (.v r)):=by
  intro o hd ho ht
  subst hd
  exact bs fun _ _ _ a w R=> ⟨r,h o a.eval w ho (Rep.toAgg (hx ▸ R.eval x)) (Rep.toAgg (hy ▸ R.eval y)), .v,fun _=> eU⟩

theorem Le.nilB {σ:St} (ib:ay) (j:Nat) (id:ay) (e:TypeId) (sz:Nat) {T:TypeId} {cs:List AV} (hb:σ.ob ib= .obj (.box T cs)) (hr:cs[j]? =some (.v (.slice none 0 0))) (hid:σ.ob id= .free):
    Le ((σ.setOb id (.obj (.row e sz []))).setOb ib (.obj (.box T (cs.set j (.ref id 0 0))))) σ:=by
  intro K ι S a w R
  have R1:=R.new (w':=w) (o:= .row e sz []) (B:=⟨none,0,sz⟩) hid (gX w) (fun k hk=> by cases hk) ⟨_,cm _ _ _,rfl, .inl ⟨rfl,rfl,rfl⟩⟩ (fun i hi=> hi.elim)
  have hne:ib≠id:=fun h=> by rw [h,hid] at hb;cases hb
  have hb1:(σ.setOb id (.obj (.row e sz []))).ob ib= .obj (.box T cs):=by rw [St.setOb_ne _ _ hne];exact hb
  obtain ⟨B,g,h1,h2,h3,h4⟩:=R1.ob ib _ hb1
  refine ⟨_,S,R1.upd hb1 h1 (.of_below (gX w)) ⟨B,g,h1,h2,by simpa using h3,?_⟩ ?_⟩
  · rw [List.length_set]
    refine h4.next (fun _ _=> rfl) fun k u hu x hx=> ?_
    by_cases hk:j=k
    · subst hk
      have:=(hu _ hr).toV
      subst this
      rw [List.getElem?_set_self (List.getElem?_eq_some_iff.1 hr).1] at hx
      cases hx
      refine .ref (fun B' hB=> ?_) rfl
      rw [cm] at hB
      obtain rfl:=Option.some.inj hB
      exact ⟨0,Nat.le_refl _,by unfold maxLen;omega,rfl,rfl,rfl⟩
    rw [List.getElem?_set_ne hk] at hx
    exact hu x hx
  rintro i ⟨x,hx,hi⟩
  rcases List.mem_or_eq_of_mem_set hx with hx | hx
  · exact R1.clo ib _ i hb1 ⟨x,hx,hi⟩
  subst hx;cases hi;rw [St.setOb_same];intro h;cases h
theorem Le.nil0 {σ:St} (ib:ay) (j:Nat) {T:TypeId} {cs:List AV} (hb:σ.ob ib= .obj (.box T cs)) (hr:cs[j]? =some (.v (.slice none 0 0))):Le (σ.setOb ib (.obj (.box T (cs.set j (.sl 0 []))))) σ:=by
  intro K ι S a w R
  obtain ⟨B,g,h1,h2,h3,h4⟩:=R.ob ib _ hb
  refine ⟨ι,S,R.upd hb h1 (.of_below (gX w)) ⟨B,g,h1,h2,by simpa using h3,?_⟩ ?_⟩
  · rw [List.length_set]
    refine h4.next (fun _ _=> rfl) fun k u hu x hx=> ?_
    by_cases hk:j=k
    · subst hk
      have:=(hu _ hr).toV
      subst this
      rw [List.getElem?_set_self (List.getElem?_eq_some_iff.1 hr).1] at hx
      cases hx
      exact .sl (.sl0 (Nat.le_refl _) (by unfold maxLen;omega) fun _=> ⟨rfl,rfl⟩)
    rw [List.getElem?_set_ne hk] at hx
    exact hu x hx
  rintro i ⟨x,hx,hi⟩
  rcases List.mem_or_eq_of_mem_set hx with hx | hx
  · exact R.clo ib _ i hb ⟨x,hx,hi⟩
  subst hx;cases hi
section
variable {P:Program} {σ:St} {dd:Option Tmp} {ty:TypeId} {t t':TypeId} {k k':IntKind} {a b:Int}

theorem sL {op:BinOp} {x y:Operand} {u v:Value} (hx:σ.eval x= .v u) (hy:σ.eval y= .v v) {r:Value} (h: ∀ (o:Oper) (ρ:Operand→Value) w,o.op= .binOp op t x y t'→ρ x=u→ρ y=v→(execOp ρ o).run P w= .ok (.value r) w):Stp P dd (.binOp op t x y t') ty σ (σ.put dd (.v r)):=by
  intro o hd ho ht
  subst hd
  exact fc ho hx hy fun ρ w h1 h2=> h o ρ w ho h1 h2
theorem Bx {op:Op} {x:Operand} {u:Value} (hx:σ.eval x= .v u) {r:Value} (h: ∀ (o:Oper) (ρ:Operand→Value) w,o.op=op→ρ x=u→(execOp ρ o).run P w= .ok (.value r) w):Stp P dd op ty σ (σ.put dd (.v r)):=by
  intro o hd ho ht
  subst hd
  exact bs fun _ _ _ a w R=> ⟨r,h o a.eval w ho (Rep.evV R hx), .v,fun _=> eU⟩

theorem Du (x:Operand) (hs:P.underlying t=some (.int k)) (ht:P.underlying t'=some (.int k')) (hx:σ.eval x= .v (.int k a)) {r:Int} (hr:k'.wrap a=r):Stp P dd (.convert t t' x) ty σ (σ.put dd (.v (.int k' r))):=
  Bx hx fun o ρ w ho hx=> by subst hr;simp [execOp,ho,hx,go_sem,hs,ht,run_underlying hs,run_underlying ht]
theorem FT {p q:Bool} (x y:Operand) (hx:σ.eval x= .v (.bool p)) (hy:σ.eval y= .v (.bool q)) (ht:P.underlying t=some .bool) {r:Bool} (hr:(p !=q)=r):Stp P dd (.binOp .neq t x y t') ty σ (σ.put dd (.v (.bool r))):=
  sL hx hy fun o ρ w ho hx hy=> by subst hr;simp [execOp,ho,hx,hy,eqGuard,go_sem,run_equal_bool,ht];cases p <;> cases q <;> rfl
theorem vr (x y:Operand) (hx:σ.eval x= .v (.int .i64 a)) (hy:σ.eval y= .v (.int .i64 b)) {r:Int} (hr:min a b=r):Stp P dd (.call { callee:= .builtin .min,args:= #[x,y],argTypes:= #[t,t'] }) ty σ (σ.put dd (.v (.int .i64 r))):=by
  intro o hd ho ht
  subst hd
  refine bs fun _ _ _ A w R=> ⟨_,?_, .v,fun _=> eU⟩
  have h1:=Rep.evV R hx
  have h2:=Rep.evV R hy
  generalize A.eval=ρ at h1 h2
  subst hr
  have hm:min a b=if b < a then b else a:=by omega
  simp [execOp,ho,resolve,invoke,builtin,h1,h2,go_sem,Builtin.min_,Builtin.min2,hm]
end

theorem Sl.rd {w:World} {sz n:Nat} {v:Value} {xs:List Value} (h:Sl w sz v n xs):Rd (fun g=> g < w.heap.size) w (.sl n (xs.map PV.v)) v:=by
  obtain ⟨ao,c,rfl,h1,h2,h3,h4,h5,h6,h7⟩:=h
  cases xs with
  | nil=> exact .sl0 h1 h2 h5
  | cons x xs=>
    have hn:0 < n:=by
      rcases Nat.eq_zero_or_pos n with h | h
      · subst h;simp at h3
      exact h
    obtain ⟨b,off,rfl⟩:=h6 hn
    refine .sl (fun j=> (x::xs).getD j undef) h1 h2 ?_ (fun j p hj=> ?_) (fun j p hj=> ?_)
    · have:=h7 _ rfl 0 x rfl
      refine ⟨World.block_lt_of_cell? w _ this,?_⟩
      simp only [World.cell?,Addr.add_lit] at this
      split at this
      · rename_i c e f hc
        exact ⟨c,e,f,hc⟩
      cases this
    · have hj':j < (x::xs).length:=by
        have:=(List.getElem?_eq_some_iff.1 hj).1
        simpa using this
      have:=h7 _ rfl j _ (List.getElem?_eq_getElem hj')
      simp only [List.getD_eq_getElem?_getD,List.getElem?_eq_getElem hj',Option.getD_some]
      by_cases hj0:j=0
      · subst hj0;simpa [Addr.add] using this
      simpa [Addr.add,hj0] using this
    have hj':j < (x::xs).length:=by
      have:=(List.getElem?_eq_some_iff.1 hj).1
      simpa using this
    rw [List.getElem?_map,List.getElem?_eq_getElem hj'] at hj
    cases hj
    simp only [List.getD_eq_getElem?_getD,List.getElem?_eq_getElem hj',Option.getD_some]
    exact .v (h4 _ (List.getElem_mem hj'))

theorem Spec.law {P:Program} {f:FuncId} {args:List AV} {r:Value} {vs:List Value} {w:World} (sp:Spec P f (aQ args []) (aG (.v r) [])) (hp:AV.pures args=true) (hl:vs.length=args.length)
    (h: ∀ (j:Nat) (a:AV) (v:Value),args[j]? =some a→vs[j]? =some v→Rep (fun _=> none) (fun g=> g < w.heap.size) w a v):Calls P f vs.toArray w fun e w'=> e= .returned r∧Below w.heap.size w w':=by
  have hnh: ∀ t id,¬ Has id (args.getD t .dead):=by
    intro t id hh
    by_cases ht:t < args.length
    · have:args.getD t .dead=args[t]:=by simp [ht]
      rw [this] at hh
      exact fZ _ hp _ (List.getElem_mem ht) hh
    have:args.getD t .dead= .dead:=by simp [show args.length≤t by omega]
    rw [this] at hh;cases hh
  have R:RelI ⟨w,fun _=> False,fun g=> g < w.heap.size,fun _=> none,none⟩ (fun _=> none) (fun g=> g < w.heap.size) (aQ args []) ⟨vs.toArray,[]⟩ w:=by
    have hfree: ∀ i o,(aQ args []).ob i≠ .obj o:=fun i o h=> by cases h
    refine { keeps:= .refl _ _,S0:=fun g h=> .inl h,Slt:=fun g h=> h,nt:=by simpa [aQ] using hl,df:= .nil,fr:=fun t ht=> ?_,cl:=fun t id hh=> (hnh t id hh).elim,clo:=fun i o j ho=> (hfree i o ho).elim,ob:=fun i o ho=> (hfree i o ho).elim,dom:=fun i B hB=> (by cases hB),inj:=fun i j B B' g hB=> (by cases hB),sep:=fun i B g hB=> (by cases hB),pin:=fun i hh o hp=> (by cases hp),pf:=fun _ _=> rfl }
    replace ht:t < args.length:=ht
    have ht':t < vs.length:=by omega
    have:=h t args[t] vs[t] (List.getElem?_eq_getElem ht) (List.getElem?_eq_getElem ht')
    show Rep _ _ _ (args.getD t .dead) _
    simpa [ht,ht'] using this
  refine (sp _ _ _ _ w rfl rfl R).mono ?_
  rintro e w' ⟨v,ι',S',rfl,R'⟩
  have h0:Rep ι' S' w' (.v r) v:=R'.fr 0 (by show 0 < 1;omega)
  rw [h0.toV]
  refine ⟨rfl,R'.keeps.os,R'.keeps.tape,R'.keeps.output,R'.keeps.size,fun g hg=> R'.keeps.block g hg fun h=> h⟩
def ArgsRep (w:World):List AV→List Value→Prop
  | [],[]=> True
  | a::xs,v::vs=> Rep (fun _=> none) (fun g=> g < w.heap.size) w a v∧ArgsRep w xs vs
  | _,_=> False
theorem ArgsRep.len {w:World}: ∀ {xs:List AV} {vs:List Value},ArgsRep w xs vs→vs.length=xs.length
  | [],[],_=> rfl
  | _::_,_::_,h=> by simp [h.2.len]
  | [],_::_,h=> h.elim
  | _::_,[],h=> h.elim
theorem ArgsRep.at {w:World}: ∀ {xs:List AV} {vs:List Value},ArgsRep w xs vs→ ∀ (j:Nat) (a:AV) (v:Value),xs[j]? =some a→vs[j]? =some v→Rep (fun _=> none) (fun g=> g < w.heap.size) w a v
  | [],_,_,_,_,_,ha,_=> by simp at ha
  | _::_,[],h,_,_,_,_,_=> h.elim
  | _::_,_::_,h,0,_,_,ha,hv=> by simp at ha hv;subst ha;subst hv;exact h.1
  | _::_,_::_,h,j+1,a,v,ha,hv=> h.2.at j a v (by simpa using ha) (by simpa using hv)
theorem Spec.calls {P:Program} {f:FuncId} {args:List AV} {r:Value} {w:World} (sp:Spec P f (aQ args []) (aG (.v r) [])) (hp:AV.pures args=true) {vs:List Value} (h:ArgsRep w args vs):Calls P f vs.toArray w fun e w'=> e= .returned r∧Below w.heap.size w w':=
  sp.law hp h.len h.at
end Go.Proofs.YtmjnackchaahbaaGreat

namespace Go.Proofs.YtmjnackchaahbaaGreat
open Go.RowKit Go.ChangeShapes Go.WideShapes

theorem Fv {n:Int} (h:(Lit.int .i64 n).wf=true): -9223372036854775808≤n∧n≤9223372036854775807:=by
  simp [Lit.wf,IntKind.min,IntKind.max,IntKind.signed,IntKind.bits] at h;omega
section
variable {H:Type} {enc:TypeId×Value→H} {P:Program} {w:World} {base:Nat} {spare:Nat→Bool} {held:Bool}

theorem vO {t e:TypeId} {α:Type} (f:α→Value) (d0:α) (g:Lit→Prop) {fuel:Nat} {cs:List Value} {x:DataW H×List MemPlace} (ht:P.underlying t=some (.slice e)) (hc:P.cellsOf e=1)
    (hone: ∀ (n:Nat) (c:List Value) (y:DataW H×List MemPlace),DataW.trod enc P w base spare held n e c=some y→ ∃ z:α,c=[f z]∧(f z).oneCell'=true) {ao:Option Addr} {len cap:Nat} (hcs:cs=[.slice ao len cap])
    (h:DataW.trod enc P w base spare held fuel t cs=some x): ∃ zs:List α,zs.length=len∧Sl w 1 (.slice ao len cap) len (zs.map f):=by
  rcases DataW.trod_slice ht h with ⟨h0,_⟩ | ⟨a,len',cap',elems,rest,n,_,h0,rfl,hb,hl,hm,hlen,hel,hsp,hns⟩
  · rw [hcs] at h0
    simp at h0
    obtain ⟨rfl,rfl,rfl⟩:=h0
    exact ⟨[],rfl,⟨none,0,rfl,Nat.le_refl _,by simp,rfl,by simp,fun _=> ⟨rfl,rfl⟩,fun h=> absurd h ab,by simp⟩⟩
  rw [hcs] at h0
  simp at h0
  obtain ⟨rfl,rfl,rfl⟩:=h0
  have key: ∀ i,i < len→ ∃ z:α,w.cell? (a.add i)=some (f z)∧(f z).oneCell'=true:=by
    intro i hi
    have h1:=hel i hi
    rw [hc,Nat.mul_one,List.getElem?_eq_getElem ab,Option.bind_eq_some_iff] at h1
    obtain ⟨c,h2,h3⟩:=h1
    obtain ⟨z,rfl,h4⟩:=hone _ _ _ h3
    exact ⟨z,cell_of_cells?_one h2,h4⟩
  have pick: ∀ m,m≤len→ ∃ zs:List α,zs.length=m∧ ∀ i z,zs[i]? =some z→w.cell? (a.add i)=some (f z)∧(f z).oneCell'=true:=by
    intro m
    induction m with
    | zero=> exact fun _=> ⟨[],rfl,by simp⟩
    | succ m ih=>
      intro hm
      obtain ⟨zs,h1,h2⟩:=ih ab
      obtain ⟨z,h3⟩:=key m ab
      refine ⟨zs++[z],by simp [h1],fun i y hy=> ?_⟩
      by_cases hi:i < zs.length
      · rw [List.getElem?_append_left hi] at hy;exact h2 i y hy
      have hil:=(List.getElem?_eq_some_iff.1 hy).1
      simp at hil
      have:i=m:=by omega
      subst this
      rw [List.getElem?_append_right ab,show i - zs.length=0 by omega] at hy
      simp at hy
      subst hy
      exact h3
  obtain ⟨zs,h1,h2⟩:=pick len (Nat.le_refl _)
  refine ⟨zs,h1,⟨some a,cap,rfl,hl,hm,by simp [h1],fun u hu=> ?_,by simp,fun hp=> ?_,fun ad had j u hu=> ?_⟩⟩
  · obtain ⟨z,hz,rfl⟩:=List.mem_map.1 hu
    obtain ⟨i,hi⟩:=List.getElem?_of_mem hz
    exact (h2 i z hi).2
  · obtain ⟨z,h3,_⟩:=key 0 hp
    have:=World.cell?_spot h3
    obtain ⟨b,off,s⟩:=a
    simp [Addr.add] at this
    subst this
    exact ⟨b,off,rfl⟩
  obtain rfl:=Option.some.inj had
  rw [List.getElem?_map] at hu
  obtain ⟨z,hz,rfl⟩:=Option.map_eq_some_iff.1 hu
  exact (h2 j z hz).1

theorem sy {t e:TypeId} {k:IntKind} (ht:P.underlying t=some (.slice e)) (he:P.underlying e=some (.int k)) (hc:P.cellsOf e=1) {ao:Option Addr} {len cap:Nat} {d:DataW H} {p:List MemPlace}
    (h:DataW.Trod enc P w base spare held t (.slice ao len cap) d p): ∃ zs:List { n:Int // (Lit.int k n).wf=true },zs.length=len∧Sl w 1 (.slice ao len cap) len (zs.map fun z=> Value.int k z.1):=by
  obtain ⟨fuel,hf⟩:=h
  refine vO (fun z:{ n:Int // (Lit.int k n).wf=true }=> Value.int k z.1) ⟨0,by cases k <;> rfl⟩ (fun _=> True) ht hc (fun n c y hy=> ?_) rfl hf
  obtain ⟨m,h,_,hw⟩:=DataW.trod_int he hy
  exact ⟨⟨m,hw⟩,h,rfl⟩
end
theorem ny {H:Type} {enc:TypeId×Value→H} {P:Program} {w:World} {base:Nat} {spare:Nat→Bool} {held:Bool} {ts:List TypeId} {ds:List (DataW H)} (hsz:(DataW.weightsEach P ts ds).all (· ≤reachBytes)=true) {j:Nat} {t e:TypeId} {d:DataW H} {p:List MemPlace}
    (htj:ts[j]? =some t) (hd:ds[j]? =some d) (ht:P.underlying t=some (.slice e)) (hb:0 < P.bytesOf e) {ao:Option Addr} {len cap:Nat} (h:DataW.Trod enc P w base spare held t (.slice ao len cap) d p):len≤4611686018427387904:=by
  obtain ⟨fuel,hf⟩:=h
  rcases DataW.trod_slice ht hf with ⟨h0,_⟩ | ⟨a,len',cap',elems,rest,n,_,h0,h1,hb',hl,hm,hlen,hel,hsp,hns⟩
  · replace h0:[Value.slice ao len cap]=[Value.slice none 0 0]:=h0
    simp at h0;omega
  replace h0:[Value.slice ao len cap]=[Value.slice (some a) len' cap']:=h0
  simp at h0
  obtain ⟨rfl,rfl,rfl⟩:=h0
  have e1:d= .slice (elems.map (·.1)) (rest.map (·.1)):=congrArg Prod.fst h1
  subst e1
  have h2:=sized_slice hsz htj hd ht
  rw [List.length_map,List.length_map,hlen] at h2
  have h3:=reachBytes_lt
  have h4:len*1≤(len+rest.length)*P.bytesOf e:=Nat.mul_le_mul ab hb
  omega
theorem rm (ws:List (List Char)):stripLifts liftWords ("cut".toList::ws)=([], "cut".toList::ws):=by kernel_rfl
theorem qY {P:Program} {ws:List (List Char)} (h:behindMainWord (wordsSigns P.initOrder.toList)= "cut".toList::ws):P.headLifts=[]:=by
  unfold Program.headLifts;rw [h,rm];kernel_rfl
theorem Bi {P:Program} {ws:List (List Char)} (h:behindMainWord (wordsSigns P.initOrder.toList)= "cut".toList::ws):P.make=some .cut:=by
  unfold Program.make;rw [h,qY h];kernel_rfl
theorem yt {P:Program} {ws:List (List Char)} (h:behindMainWord (wordsSigns P.initOrder.toList)= "cut".toList::ws):P.liftsFinal=false:=by
  unfold Program.liftsFinal;rw [h,qY h];kernel_rfl
theorem Ef {P:Program} {ws:List (List Char)} (h:behindMainWord (wordsSigns P.initOrder.toList)= "cut".toList::ws) (h1:P.laysLater=false) (h2:P.bearsReflect=false) (h3:P.doorFits []=true):P.mayEnter=true:=by
  unfold Program.mayEnter;rw [h];simp only [rm,h1,h2,h3];kernel_rfl
theorem fq {a b:Bool} (h:a=true) (h2:b=true):(a && b)=true:=by rw [h,h2];rfl
section
variable {P:Program} {T e:TypeId} {size bytes:Nat} {z:List Value}
theorem By [E:Elem P T e size bytes z] (w:World) (ty:TypeId) (a:Addr) (vx:Value) (m:Nat) (news:List Value) (hsl:Sl w size vx m news) (hb:m*bytes≤140737488355328):
    (m=0∧(Builtin.append_ #[T,T] ty #[.slice (some a) 0 0,vx]).run P w= .ok (.slice (some a) 0 0) w)∨
    (Builtin.append_ #[T,T] ty #[.slice (some a) 0 0,vx]).run P w=(Builtin.append_ #[T,T] ty #[.slice none 0 0,vx]).run P w:=by
  obtain ⟨i,zv,hi,hz,hs,hby,hzc⟩:=E.info
  obtain ⟨ao,c,rfl,hmc,hcm,hln,hone,hnil,hpos,hcells⟩:=hsl
  have hl0: ∀ (b:Addr) w,(loadCellsFrom b 0 0 #[]).run P w= .ok #[] w:=fun b w=> by simp [loadCellsFrom]
  rcases Nat.eq_zero_or_pos m with h0 | h0
  · subst h0
    refine .inl ⟨rfl,?_⟩
    cases ao with
    | none=> simp [Builtin.append_,run_underlying E.und,sizeOf,typeInfo,hi,Builtin.lenOf,Builtin.firstCells,storeCells]
    | some b=> simp [Builtin.append_,run_underlying E.und,sizeOf,typeInfo,hi,Builtin.lenOf,Builtin.firstCells,storeCells,loadCells,hl0]
  refine .inr ?_
  have hne: ¬ m=0:=by omega
  have h48: ¬ (2 ^ 48 < Builtin.nextslicecap m 0*i.bytes):=by
    have:=growslice_fits (need:=m) (old:=0) ab hb
    rw [hby];simp at this ⊢;omega
  have h63: ¬ (9223372036854775807 < (m:Int)):=by
    have:m*1≤m*bytes:=Nat.mul_le_mul_left _ E.bpos
    omega
  simp [Builtin.append_,run_underlying E.und,sizeOf,typeInfo,hi,hz,Builtin.lenOf,Builtin.firstCells,loadCells,hne,h48,h63,hl0]

theorem GH {σ:St} {dd:Option Tmp} {ty:TypeId} (parts:Array (Nat×Operand)) (E:Elem P T e size bytes z) (hp:parts= #[]):Stp P dd (.buildSlice T 0 parts) ty σ (σ.put dd .z):=by
  intro o hd ho ht
  subst hd;subst hp
  intro K ι S a w R
  obtain ⟨i,zv,hi,hz,hs,hby,hzc⟩:=E.info
  have hrun:(execOp a.eval o).run P w= .ok (.value (.slice (some ⟨w.heap.size,0,none⟩) 0 0)) (w.alloc (.cells #[] e)):=by
    simp [execOp,ho,Instr.buildSlice,run_underlying E.und,sizeOf,typeInfo,hi,hs,newRow,Instr.fill]
    congr 2
    exact Array.size_eq_zero_iff.1 (by simp)
  have hbl:Below w.heap.size w (w.alloc (.cells #[] e)):=(Below.refl _ _).alloc (Nat.le_refl _) _
  have R3:=R.gen (ι':=ι) (S':=S) (w':=w.alloc (.cells #[] e)) (ob':=σ.ob) (inc':=σ.inc) (fun _=> False) (.of_below hbl) (fun _ _=> rfl) (fun _ _=> rfl) (fun _ _=> rfl) (fun _ h=> h) (fun _ h=> h) (fun _ h=> .inl h) (fun g h=> Nat.lt_of_lt_of_le (R.Slt g h) hbl.size)
      (fun _ _ h=> h.elim) (fun _ _ h=> h.elim) (fun _ _ h=> h.elim) (fun _ _ _ _ _ h=> h.elim) (fun _ _ _ h=> h.elim) (fun _ _ _ h=> h.elim)
  exact bZ hrun ⟨ι,S,R3.put o.dst .z fun i hi=> by cases hi⟩
end
theorem AnyOps.imp {P:Program} {all:List Oper} {W:List Nat} {I:List ay} {AA:List (List ay)} {σ:St} {K K':List Res→Prop} (hk: ∀ rs,K rs→K' rs): ∀ {os:List Oper} {rs:List Res},AnyOps P all W I AA σ K os rs→AnyOps P all W I AA σ K' os rs
  | [],rs,h=> hk rs h
  | o::os,rs,⟨r,h1,h2⟩=> ⟨r,h1,AnyOps.imp hk h2⟩
theorem FM {rb:Bool} {P:Program} {Q:Exit→St→Prop} {σ:St} {id:Nat} {l hd tl:List Oper} (n:Nat) (W:List Nat) (I:List ay) (hm:P.follows .mixedOrders=true) (hB:kE l.toArray n=true) (hW:(l.take n).filterMap (·.dst)=W) (hI:I.Nodup)
    (e1:l.take n=hd) (e2:l.drop n=tl) (h:AnyOps P hd W I [] σ (fun rs=> fO rs=I∧DL rb P l.toArray Q tl (cT hd rs (fun _=> true) 0 σ)) hd []):D rb P (.region id l.toArray true) Q σ:=by
  subst e1;subst e2
  exact FA n W I [] hm hB hW hI (AnyOps.imp (fun rs h=> ⟨⟨h.1,rfl⟩,h.2⟩) h)
theorem yY {rb:Bool} {P:Program} {Q:Exit→St→Prop} {σ:St} {id:Nat} {l hd tl:List Oper} (n:Nat) (W:List Nat) (I:List ay) (AA:List (List ay)) (hm:P.follows .mixedOrders=true) (hB:kE l.toArray n=true) (hW:(l.take n).filterMap (·.dst)=W) (hI:I.Nodup)
    (e1:l.take n=hd) (e2:l.drop n=tl) (h:AnyOps P hd W I AA σ (fun rs=> (fO rs=I∧nf hd rs 0 AA=true)∧DL rb P l.toArray Q tl (cT hd rs (fun _=> true) 0 σ)) hd []):D rb P (.region id l.toArray true) Q σ:=by
  subst e1;subst e2
  exact FA n W I AA hm hB hW hI h
section
variable {P:Program} {w:World} {o:Oper} {ρ:Operand→Value} {e:TypeId} {z:List Value}
end
section
variable {P:Program} {σ:St} {z:List Value} {T e:TypeId} {size bytes:Nat}
end
def cB (l:List Int):List PV:=l.map fun x=> .v (.int .i64 x)
@[simp] theorem aM (l:List Int):(cB l).length=l.length:=by simp [cB]
theorem cU (l:List Int) (k:Nat) (h:k < l.length):(cB l)[k]? =some (.v (.int .i64 (l.getD k 0))):=by simp [cB,h]
theorem mC (a:List Int) (k:Nat) (x:Int) (h:k < a.length):ez (cB a) k [.v (.int .i64 x)]=cB (a.set k x):=by rw [zh _ _ _ (by simpa using h)];simp [cB,List.map_set]
theorem yo (n:Nat):(rep n [Value.int .i64 0]).map PV.v=cB (List.replicate n 0):=by rw [EH];simp [cB]
theorem rQ {α:Type} (l:List α) (k:Nat) (d:α) (h:k < l.length):l.getD k d=l[k]:=by simp [h]

def NE (l:List Bool):List PV:=l.map fun x=> .v (.bool x)
@[simp] theorem aW (l:List Bool):(NE l).length=l.length:=by simp [NE]
def Rng (l:List Int):Prop:= ∀ x∈l, -9223372036854775808≤x∧x≤9223372036854775807
theorem Rng.at {l:List Int} (h:Rng l) (k:Nat) (hk:k < l.length): -9223372036854775808≤l.getD k 0∧l.getD k 0≤9223372036854775807:=by
  rw [rQ _ _ _ hk];exact h _ (List.getElem_mem hk)
theorem vC (z:List { n:Int // (Lit.int .i64 n).wf=true }):Rng (z.map (·.1)):=by
  intro x hx
  obtain ⟨y,_,rfl⟩:=List.mem_map.1 hx
  exact Fv y.2
theorem vb {w:World} {n:Nat} {v:Value} {z:List { n:Int // (Lit.int .i64 n).wf=true }} {ι:ay→Option dX} (h:Sl w 1 v n (z.map fun y=> Value.int .i64 y.1)):Rep ι (fun g=> g < w.heap.size) w (.sl n (cB (z.map (·.1)))) v:=by
  have:=h.rd
  rw [show (z.map fun y=> Value.int .i64 y.1).map PV.v=cB (z.map (·.1)) by simp [cB]] at this
  exact .sl this

theorem eE:aR []=fun i=> i:=by funext i;rfl
theorem IH {σ:St} {F:ay→Bool} (a:AV):Lv (aR []) σ F a a:=by rw [eE];exact Lv.same a
theorem gw {σ:St} {F:ay→Bool} {a b:AV} (h:b=a):Lv (aR []) σ F a b:=by subst h;exact IH _
theorem Hs {σ:St} {F:ay→Bool} (o:Cells):LvO (aR []) σ F o o:=by rw [eE];exact LvO.same o
theorem eH {ρ:ay→ay} {σ:St} {F:ay→Bool} {id id':ay} {off n m:Nat} (hi:ρ id=id') (h:n=m):Lv ρ σ F (.ref id off n) (.ref id' off m):=by subst hi;subst h;exact .ref
theorem di {ρ:ay→ay} {σ:St} {F:ay→Bool} {id id':ay} {off:Nat} (hi:ρ id=id'):Lv ρ σ F (.ptr id off) (.ptr id' off):=by subst hi;exact .ptr
theorem iu {ρ:ay→ay} {σ:St} {F:ay→Bool} {n m:Nat} {xs ys:List PV} (h:n=m) (h':xs=ys):Lv ρ σ F (.sl n xs) (.sl m ys):=by subst h;subst h';exact .sl
theorem im {ρ:ay→ay} {Fz:List ay} {σ:St} {I:List ay} {i:ay} {e:TypeId} {sz:Nat} {xs ys:List PV} (hF:cj (ρ i) Fz=false) (h:σ.ob (ρ i)= .obj (.row e sz ys)) (hinc:(bif cj i I then false else σ.inc (ρ i))=false) (hx:xs=ys):
  cj (ρ i) Fz=false∧(∃ o2,σ.ob (ρ i)= .obj o2∧LvO (ρ) σ (fun i=> cj i Fz) (.row e sz xs) o2)∧(bif cj i I then false else σ.inc (ρ i))=false:=⟨hF,⟨_,h, .rowE hx.symm⟩,hinc⟩
theorem iq {ρ:ay→ay} {Fz:List ay} {σ:St} {I:List ay} {i:ay} {e:TypeId} {xs ys:List AV} (hF:cj (ρ i) Fz=false) (h:σ.ob (ρ i)= .obj (.box e ys)) (hinc:(bif cj i I then false else σ.inc (ρ i))=false) (hl:xs.length=ys.length)
  (hx: ∀ (j:Nat) (a b:AV),xs[j]? =some a→ys[j]? =some b→Lv (ρ) σ (fun i=> cj i Fz) a b):
  cj (ρ i) Fz=false∧(∃ o2,σ.ob (ρ i)= .obj o2∧LvO (ρ) σ (fun i=> cj i Fz) (.box e xs) o2)∧(bif cj i I then false else σ.inc (ρ i))=false:=⟨hF,⟨_,h, .box hl hx⟩,hinc⟩
theorem dc {Fz:List ay} {σ:St} {I:List ay} {i:ay} {o:Cells} (hF:cj (aR [] i) Fz=false) (h:σ.ob (aR [] i)= .obj o) (hinc:(bif cj i I then false else σ.inc (aR [] i))=false):
  cj (aR [] i) Fz=false∧(∃ o2,σ.ob (aR [] i)= .obj o2∧LvO (aR []) σ (fun i=> cj i Fz) o o2)∧(bif cj i I then false else σ.inc (aR [] i))=false:=⟨hF,⟨_,h,Hs o⟩,hinc⟩
theorem FC {ρ:ay→ay} {Fz:List ay} {σ:St} {I:List ay} {i:ay} {es fs:List MapEntry} {c d:Nat} (hF:cj (ρ i) Fz=false) (h:σ.ob (ρ i)= .obj (.mp fs d)) (hinc:(bif cj i I then false else σ.inc (ρ i))=false) (hx:es=fs) (hc:c=d):
  cj (ρ i) Fz=false∧(∃ o2,σ.ob (ρ i)= .obj o2∧LvO (ρ) σ (fun i=> cj i Fz) (.mp es c) o2)∧(bif cj i I then false else σ.inc (ρ i))=false:=⟨hF,⟨_,h,by subst hx;subst hc;exact .mp⟩,hinc⟩

theorem Spec.toI {P:Program} {f:FuncId} {args:List AV} {r:AV} {outs:List (ay×Cells)} (h:Spec P f (aQ args []) (aG r outs)):Spec P f (aE args []) (aP r outs [] []):=h
theorem Le.mkJ {σ:St} {n:Nat} {slots:List (Nat×AV)} {obs:List (ay×Cells)} {I Pn:List ay} (rn:List (ay×ay)) (Fz:List ay) (hn:σ.n=n) (hs:pe (aR rn) σ (fun i=> cj i Fz) slots) (ho:cY (aR rn) σ (fun i=> cj i Fz) I obs) (hi:ft σ Fz) (hp:jG (aR rn) σ Pn)
  (hb:(eA (obs.map (·.1)) slots && aY (obs.map (·.1)) obs && bf ((obs.map (·.1)).map (aR rn)) && qh Pn (obs.map (·.1)))=true):Le (ap n slots obs I Pn) σ:=by
 simp only [Bool.and_eq_true] at hb
 exact Le.mkI rn Fz hn hs hb.1.1.1 hb.1.1.2 hb.1.2 hi ho hp hb.2
section
variable {rb:Bool} {P:Program} {Q:Exit→St→Prop} {σ:St}
theorem aX {c:Code} {α:Type} (J:α→Prop) (n:Nat) (sl:List (Nat×AV)) (os:List (ay×Cells)) (sv:α→List (Nat×AV)) (ov:α→List (ay×Cells)) (I Pn:List ay) (μ:α→Nat) (x0:α) (hJ:J x0) (h0:Le (ap n (sl++sv x0) (os++ov x0) I Pn) σ)
  (round: ∀ x,J x→D rb P c (gB (fun σ'=> ∃ y,J y∧Le (ap n (sl++sv y) (os++ov y) I Pn) σ'∧μ y < μ x) Q) (ap n (sl++sv x) (os++ov x) I Pn)):D rb P (.loop c) Q σ:=
 EA J (fun x=> ap n (sl++sv x) (os++ov x) I Pn) μ x0 hJ h0 round
theorem Ba {ops:Array Oper} {rest:List Oper} {d:Nat} {b:Bool} (h1:b=true→DL rb P ops Q rest (σ.put (some d) (.v (.bool true)))) (h2:b=false→DL rb P ops Q rest (σ.put (some d) (.v (.bool false)))):DL rb P ops Q rest (σ.put (some d) (.v (.bool b))):=by
 cases b
 ·exact h2 rfl
 exact h1 rfl
theorem xO {all:List Oper} {W:List Nat} {I:List ay} {AA:List (List ay)} {Kont:List Res→Prop} {os:List Oper} {rs:List Res} {b:Bool} (h1:b=true→AnyOps P all W I AA σ Kont os (rs++[(.v (.bool true),[])])) (h2:b=false→AnyOps P all W I AA σ Kont os (rs++[(.v (.bool false),[])])):
  AnyOps P all W I AA σ Kont os (rs++[(.v (.bool b),[])]):=by
 cases b
 ·exact h2 rfl
 exact h1 rfl
end

class Arr (P:Program) (T:TypeId) (n:outParam Nat) (size:outParam Nat):Prop where
 out: ∃ e i,P.underlying T=some (.array n e)∧P.info? e=some i∧i.size=size
theorem Arr.of {P:Program} {T e:TypeId} {n size:Nat} (h1:P.underlying T=some (.array n e)) (h2:(P.info? e).map (fun i=> i.size)=some size):Arr P T n size:=by
 obtain ⟨i,hi,h⟩:=Option.map_eq_some_iff.1 h2
 exact ⟨e,i,h1,hi,h⟩

section
variable {P:Program} {σ:St} {dd:Option Tmp} {ty T:TypeId} {n size:Nat}
theorem dC (x y:Operand) (E:Arr P T n size) {id:ay} {of0:Nat} {oc:Cells} (hx:σ.eval x= .ptr id of0) (hid:σ.ob id= .obj oc)
  {k:IntKind} {I:Int} (hy:σ.eval y= .v (.int k I)) (j:Nat) (hI:I=(j:Int)) (hj:j < n) {off:Nat} (he:of0+j*size=off):Stp P dd (.indexAddr T x y) ty σ (σ.put dd (.ptr id off)):=by
 intro o hd ho ht
 subst hd;subst he;subst hI
 obtain ⟨e,inf,hu,hinf,hs⟩:=E.out
 refine bs fun _ ι S a w R=> ?_
 have hi:=(hy ▸ R.eval y:Rep ι S w (.v (.int k (j:Int))) (a.eval y)).toV
 obtain ⟨B,g,h1,h2,h3⟩:=R.ptrB hid hx
 refine ⟨.pointer (some ⟨g,of0+j*size,none⟩),?_, .ptr (fun B' hB'=> ?_) rfl,fun i h=> R.evalHas x (by rw [hx];cases h;exact .ptr)⟩
 ·simp [execOp,ho,Instr.indexAt,h3,hi,asIntOf,run_underlying hu,sizeOf,typeInfo,hinf,hs,hj,Addr.add_lit,Instr.sureAddr]
 rw [h1] at hB'
 obtain rfl:=Option.some.inj hB'
 exact ⟨g,h2,rfl⟩
theorem FY {t t':TypeId} {a b:Int} (x y:Operand) (hx:σ.eval x= .v (.int .i64 a)) (hy:σ.eval y= .v (.int .i64 b)) {r:Int} (hr:max a b=r):Stp P dd (.call { callee:= .builtin .max,args:= #[x,y],argTypes:= #[t,t'] }) ty σ (σ.put dd (.v (.int .i64 r))):=by
 intro o hd ho ht
 subst hd
 refine bs fun _ _ _ A w R=> ⟨_,?_, .v,fun _=> eU⟩
 have h1:=Rep.evV R hx
 have h2:=Rep.evV R hy
 generalize A.eval=ρ at h1 h2
 subst hr
 have hm:max a b=if b > a then b else a:=by omega
 simp [execOp,ho,resolve,invoke,builtin,h1,h2,go_sem,Builtin.max_,Builtin.max2,hm]

theorem HV {K:jb} {ι:ay→Option dX} {S:Nat→Prop} {a:Act} {w:World} (R:RelI K ι S σ a w) (xs:Array Operand) {avs:List AV} (h:xs.toList.map σ.eval=avs):
  (xs.map a.eval).size=avs.length∧(∀ (j:Nat) (p:AV),avs[j]? =some p→Rep ι S w p ((xs.map a.eval).getD j undef))∧ ∀ av∈avs,∀ id,Has id av→σ.ob id≠ .free:=by
 subst h
 refine ⟨by simp,fun j p hp=> ?_,fun av hav id hi=> ?_⟩
 ·rw [List.getElem?_map] at hp
  obtain ⟨y,hy,rfl⟩:=Option.map_eq_some_iff.1 hp
  have hy':xs[j]? =some y:=by simpa using hy
  have hj:=(Array.getElem?_eq_some_iff.1 hy').1
  have:(xs.map a.eval).getD j undef=a.eval y:=by
   have h2:=(Array.getElem?_eq_some_iff.1 hy').2
   simp [hj,h2]
  rw [this];exact R.eval y
 obtain ⟨y,_,rfl⟩:=List.mem_map.1 hav
 exact R.evalHas y hi
theorem gD {fn:Fn} (first caps:Array Operand) {fs cs:List AV} (hf:first.toList.map σ.eval=fs) (hc:caps.toList.map σ.eval=cs):Stp P dd (.makeFunc fn first caps) ty σ (σ.put dd (.fn fn fs cs)):=by
 intro o hd ho ht
 subst hd
 refine bs fun _ ι S a w R=> ?_
 obtain ⟨f1,f2,f3⟩:=HV R first hf
 obtain ⟨c1,c2,c3⟩:=HV R caps hc
 refine ⟨.func fn (first.map a.eval) (caps.map a.eval),by simp [execOp,ho,Instr.makeFunc], .fn f1 c1 f2 c2,fun id h=> ?_⟩
 cases h with
 | fn1 hm h=> exact f3 _ hm id h
 | fn2 hm h=> exact c3 _ hm id h

end
def LH (l:List (Int×Int)):List PV:=l.flatMap fun p=> [.v (.int .i64 p.1), .v (.int .i64 p.2)]
theorem zd (p:Int×Int) (l:List (Int×Int)):LH (p::l)=[.v (.int .i64 p.1), .v (.int .i64 p.2)]++LH l:=rfl
@[simp] theorem aV: ∀ (l:List (Int×Int)),(LH l).length=2*l.length
 | []=> rfl
 | p::l=> by rw [zd,List.length_append,aV l];simp;omega
theorem ER (l:List Int) (k:Nat):((cB l).drop (0*1)).take ((k - 0)*1)=cB (l.take k):=by simp [cB]
theorem Spec.frz {P:Program} {f:FuncId} {σ:St} {e:TypeId} {sz n:Nat} {xs:List PV} (h:Spec P f σ (aG (.ref (0,8) 0 n) [((0,8), .row e sz xs)])) (hl:n*sz=xs.length):Spec P f σ (aG (.sl n xs) []):=
 h.mono (Le.outO (I:=[]) (Pn:=[]) [] [(0,8)] (iO rfl rfl hl rfl) rfl rfl rfl ⟨rfl,trivial⟩ trivial)

section
variable {P:Program} {σ:St} {z:List Value} {T e:TypeId} {size bytes:Nat}
theorem St.setInc_same {σ:St} {id:ay} {b:Bool} (h:σ.inc id=b):σ.setInc id b=σ:=by
 refine St.eq rfl (fun _=> rfl) (fun _=> rfl) (funext fun i=> ?_) rfl
 show (bif gh i id then b else σ.inc i)=σ.inc i
 cases hb:gh i id with
 | true=> rw [oeq_iff.1 hb,h];rfl
 | false=> rfl
theorem RelI.srcB {K:jb} {ι:ay→Option dX} {S:Nat→Prop} {a:Act} {w:World} (R:RelI K ι S σ a w) {id:ay} {e:TypeId} {sz m:Nat} {news:List AV} (hid:σ.ob id= .obj (.box e news)) {x:Operand} (hx:σ.eval x= .ref id 0 m) (hl:m*sz=news.length):
  ∃ us,Sl w sz (a.eval x) m us∧us.length=news.length∧ ∀ (j:Nat) (p:AV),news[j]? =some p→ ∃ u,us[j]? =some u∧u.oneCell'=true∧Rep ι S w p u:=by
 obtain ⟨B,g,h1,hg,htot,h6⟩:=R.ob id _ hid
 have hr:=R.eval x
 rw [hx] at hr
 generalize hu:a.eval x=v at hr
 cases hr with
 | ref h _=>
  obtain ⟨c,h3,h4,h5⟩:=h B h1
  rw [hg] at h5
  obtain ⟨o',h7,h8,h9⟩:=h5
  obtain rfl:=h8.resolve_right ab
  rcases h6 with ⟨h6,_⟩ | ⟨g',cur,h10,h11,h12,h13,h14⟩
  ·rw [hg] at h6;cases h6
  rw [hg] at h10
  obtain rfl:=Option.some.inj h10
  have hget: ∀ (j:Nat) (u:Value),(cur.toList.take news.length)[j]? =some u→j < news.length∧cur[j]? =some u:=by
   intro j u h
   rw [List.getElem?_take] at h
   split at h
   ·rename_i hj;exact ⟨hj,by simpa using h⟩
   cases h
  refine ⟨cur.toList.take news.length,⟨some ⟨g,0,none⟩,c,h7,h3,h4,by simp;omega,fun u hu=> ?_,fun h=> by (cases h),fun _=> ⟨g,0,rfl⟩,fun ad had j u hj=> ?_⟩,by simp;omega,fun j p hp=> ?_⟩
  ·obtain ⟨j,hj,rfl⟩:=List.getElem_of_mem hu
   obtain ⟨hj1,hj2⟩:=hget j _ (List.getElem?_eq_getElem hj)
   obtain ⟨u,b1,b2,_⟩:=h14 j hj1
   rw [hj2] at b1
   obtain rfl:=Option.some.inj b1
   exact b2
  ·obtain rfl:=Option.some.inj had
   rw [Addr.add_lit,Nat.zero_add]
   exact ee h11 (hget j u hj).2
  have hj:j < news.length:=(List.getElem?_eq_some_iff.1 hp).1
  obtain ⟨u,hu,hu1,hu2⟩:=h14 j hj
  exact ⟨u,by rw [List.getElem?_take,if_pos hj];simpa using hu,hu1,hu2 p hp⟩
theorem Cp {dd:Option Tmp} {ty:TypeId} {T e e':TypeId} {size bytes:Nat} {z:List Value} (x:Operand) (E:Elem P T e size bytes z) {id:ay} {off n:Nat} {xs:List AV} (hx:σ.eval x= .ref id off n) (hid:σ.ob id= .obj (.box e' xs)):Stp P dd (.call { callee:= .builtin .len,args:= #[x],argTypes:= #[T] }) ty σ (σ.put dd (.v (.int .i64 (n:Int)))):=by
 intro o hd ho ht
 subst hd
 refine bs fun _ ι S a w R=> ?_
 obtain ⟨B,g,h1,hg,_,_⟩:=R.ob id _ hid
 have hr:=R.eval x
 rw [hx] at hr
 generalize hu:a.eval x=u at hr
 cases hr with
 | ref h _=>
  obtain ⟨c,_,_,h5⟩:=h B h1
  rw [hg] at h5
  obtain ⟨o',rfl,_⟩:=h5
  exact ⟨_,by simp [execOp,ho,resolve,invoke,builtin,Builtin.len_,run_underlying E.und,hu,goInt], .v,fun _=> eU⟩
end


structure Bun where
 box:ay
 gr:Bool
 E:TypeId
 e:TypeId
 fam:Nat
 rows:List (List PV)

def Bun.cell (b:Bun) (j:Nat):AV:= .ref (b.fam,j) 0 (b.rows.getD j []).length
def Bun.cells (b:Bun):List AV:=(List.range b.rows.length).map b.cell
def Bun.outer (b:Bun) (cs:List AV):Cells:=bif b.gr then .rowA b.E 1 cs else .box b.E cs
def Bun.ob (b:Bun) (id:ay):Slot:=
 bif gh id b.box then .obj (b.outer b.cells) else bif Nat.beq id.1 b.fam && Nat.blt id.2 b.rows.length then .obj (.row b.e 1 (b.rows.getD id.2 [])) else .free

section
variable {σ:St} {n:Nat} {slots:List (Nat×AV)} {obs:List (ay×Cells)} {I Pn:List ay} {bx bx0:ay} {gr:Bool} {E e:TypeId} {fam:Nat} {rows:List (List PV)}

end

theorem RowOk.imp {w:World} {B:dX} {e:TypeId} {n:Nat} {R R':Nat→Value→Prop} (h:RowOk w B e n R) (hR: ∀ j u,R j u→R' j u):RowOk w B e n R':=h.next (fun _ _=> rfl) hR
def FE:List (Nat×Value)→Act→Act
 | [],a=> a
 | (t,v)::l,a=> FE l (a.put (some t) v)
def Ft:List (Nat×Value)→St→St
 | [],σ=> σ
 | (t,v)::l,σ=> Ft l (σ.put (some t) (.v v))
theorem RelI.puts {K:jb} {ι:ay→Option dX} {S:Nat→Prop} {w:World}: ∀ (l:List (Nat×Value)) {σ:St} {a:Act},RelI K ι S σ a w→RelI K ι S (Ft l σ) (FE l a) w
 | [],_,_,R=> R
 | (t,v)::l,_,_,R=> RelI.puts l (R.put (some t) (av:= .v v) .v fun i hi=> eU hi)

theorem th {i:ay} {l:List ay}:cj i (i::l)=true:=inO_iff.2 List.mem_cons_self
theorem wH {σ τ:St} {W:List Nat} {I own:List ay} {ops:List Oper} {rs:List Res} {dp:List Nat} {i:ay} {s:Slot} (hd:nN rs dp 0 i=none) (ho:cj i own=true) (hs:σ.ob i=s):(dO σ W I own ops rs dp τ).ob i=s:=by
 simp only [dO,hd,ho,Bool.not_true,Bool.and_false,cond_false]
 exact hs

theorem Le.frzPt {σ:St} (t:Nat) {id:ay} {off:Nat} {e:TypeId} {xs:List AV} {ys:List PV} (hr:σ.fr t= .ptr id off) (hid:σ.ob id= .obj (.box e xs)) (hi:σ.inc id=false) (hy:kh xs=some ys):
  Le ((σ.setOb id .gone).put (some t) (.fp off ys)) σ:=by
 intro K ι S a w R
 have hob: ∀ i o,((σ.setOb id .gone).put (some t) (.fp off ys)).ob i= .obj o→gh i id=false∧σ.ob i= .obj o:=by
  intro i o h
  rw [St.put_ob] at h
  simp only [St.setOb] at h
  cases hb:gh i id with
  | true=> rw [hb] at h;cases h
  | false=> rw [hb] at h;exact ⟨rfl,h⟩
 have hnf: ∀ i,σ.ob i≠ .free→((σ.setOb id .gone).put (some t) (.fp off ys)).ob i≠ .free:=by
  intro i h h'
  rw [St.put_ob] at h'
  simp only [St.setOb] at h'
  cases hb:gh i id with
  | true=> rw [hb] at h';cases h'
  | false=> rw [hb] at h';exact h h'
 refine Le.of (fun i=> i) (fun i=> gh i id) (by rw [St.put_n];rfl) (fun u hu=> ?_) (fun i o h=> ?_) (fun _ _ _ _ _ _ h=> h) (fun i h=> ?_) (fun i o h h'=> ?_) (fun u i h=> ?_) (fun i o j h h'=> ?_) (fun i h o hp ho=> ?_) (fun i h=> ?_) K ι S a w R
 ·show Lv _ _ _ (bif Nat.beq u t then _ else σ.fr u) _
  cases hb:Nat.beq u t with
  | true=> rw [Nat.eq_of_beq_eq_true hb,hr];exact .frzP hid (dE id) hy
  | false=> exact Lv.same _
 ·obtain ⟨h1,h2⟩:=hob i o h
  exact ⟨h1,o,h2,LvO.same o⟩
 ·rw [oeq_iff.1 h];exact hi
 ·exact h'
 ·replace h:Has i (bif Nat.beq u t then _ else σ.fr u):=h
  cases hb:Nat.beq u t with
  | true=> rw [hb] at h;cases h
  | false=> rw [hb] at h;exact hnf i (R.cl u i h)
 ·exact hnf j (R.clo i o j (hob i o h).2 h')
 ·exact hp
 refine R.pf i ?_
 rw [St.put_ob] at h
 simp only [St.setOb] at h
 cases hb:gh i id with
 | true=> rw [hb] at h;cases h
 | false=> rw [hb] at h;exact h

theorem Stp.le {P:Program} {d:Option Tmp} {op:Op} {ty:TypeId} {σ σ1 σ2:St} (h:Stp P d op ty σ σ1) (hl:Le σ2 σ1):Stp P d op ty σ σ2:=by
 intro o h1 h2 h3 K ι S a w R
 have h4:=h o h1 h2 h3 K ι S a w R
 unfold fl at h4 ⊢
 generalize (execOp a.eval o).run P w=r at h4 ⊢
 match r,h4 with
 | .ok (.value v) w',⟨ι',S',R'⟩=> exact hl K ι' S' _ _ R'
 | .ok .skip w',⟨ι',S',R'⟩=> exact hl K ι' S' _ _ R'
 | .ok (.enter f args) w',h5=> exact h5.mono fun e w'' ⟨v,he,ι',S',R'⟩=> ⟨v,he,hl K ι' S' _ _ R'⟩

section
variable {σ:St} {F:ay→Bool} {b:AV}
theorem iV {x:Value} (h:b= .v x):Lv (aR []) σ F (.v x) b:=gw h
theorem iS {n:Nat} {xs:List PV} (h:b= .sl n xs):Lv (aR []) σ F (.sl n xs) b:=gw h
theorem iR {id:ay} {off n:Nat} (h:b= .ref id off n):Lv (aR []) σ F (.ref id off n) b:=gw h
theorem iP {id:ay} {off:Nat} (h:b= .ptr id off):Lv (aR []) σ F (.ptr id off) b:=gw h
theorem iF {off:Nat} {xs:List PV} (h:b= .fp off xs):Lv (aR []) σ F (.fp off xs) b:=gw h
theorem iA {xs:List AV} (h:b= .agg xs):Lv (aR []) σ F (.agg xs) b:=gw h
theorem iN {f:Fn} {xs ys:List AV} (h:b= .fn f xs ys):Lv (aR []) σ F (.fn f xs ys) b:=gw h
theorem iI {t:TypeId} {x:AV} (h:b= .ifc t x):Lv (aR []) σ F (.ifc t x) b:=gw h
theorem iT {xs:List AV} (h:b= .tup xs):Lv (aR []) σ F (.tup xs) b:=gw h
theorem iM {id:ay} (h:b= .mp id):Lv (aR []) σ F (.mp id) b:=gw h
theorem iZ (h:b= .z):Lv (aR []) σ F .z b:=gw h
theorem iD (h:b= .dead):Lv (aR []) σ F .dead b:=gw h
end

class iW (b:Bool) (p q:outParam Prop):Prop where
 t:b=true→p
 f:b=false→q
instance (priority:=10) boolAny (b:Bool):iW b (b=true) (b=false):=⟨id,id⟩
instance (priority:=20) boolDec (p:Prop) [Decidable p]:iW (decide p) p (¬ p):=⟨of_decide_eq_true,of_decide_eq_false⟩
instance Kz (a b:Int) [Decidable (a < b)]:iW (decide (a < b)) (a < b) (b≤a):=⟨of_decide_eq_true,fun h=> Int.not_lt.1 (of_decide_eq_false h)⟩
instance KH (a b:Int) [Decidable (a≤b)]:iW (decide (a≤b)) (a≤b) (b < a):=⟨of_decide_eq_true,fun h=> Int.not_le.1 (of_decide_eq_false h)⟩
instance KX (a b:Int):iW (a==b) (a=b) (¬ a=b):=⟨beq_iff_eq.1,beq_eq_false_iff_ne.1⟩
instance Lh (a b:Int):iW (a !=b) (¬ a=b) (a=b):=⟨bne_iff_ne.1,bne_eq_false_iff_eq.1⟩
instance JO (b:Bool) (p q:Prop) [h:iW b p q]:iW (!b) q p:=⟨fun e=> h.f (by simpa using e),fun e=> h.t (by simpa using e)⟩
theorem aD {rb:Bool} {P:Program} {Q:Exit→St→Prop} {σ:St} {x:Operand} {t e:Code} {b:Bool} {p q:Prop} [h:iW b p q] (hx:σ.eval x= .v (.bool b)) (h1:p→D rb P t Q σ) (h2:q→D rb P e Q σ):D rb P (.cond x t e) Q σ:=
 EW hx (fun e=> h1 (h.t e)) (fun e=> h2 (h.f e))
theorem dn {rb:Bool} {P:Program} {Q:Exit→St→Prop} {σ:St} {ops:Array Oper} {rest:List Oper} {d:Nat} {b:Bool} {p q:Prop} [h:iW b p q] (h1:p→DL rb P ops Q rest (σ.put (some d) (.v (.bool true)))) (h2:q→DL rb P ops Q rest (σ.put (some d) (.v (.bool false)))):DL rb P ops Q rest (σ.put (some d) (.v (.bool b))):=
 Ba (fun e=> h1 (h.t e)) (fun e=> h2 (h.f e))
theorem nz {P:Program} {σ:St} {all:List Oper} {W:List Nat} {I:List ay} {AA:List (List ay)} {Kont:List Res→Prop} {os:List Oper} {rs:List Res} {b:Bool} {p q:Prop} [h:iW b p q] (h1:p→AnyOps P all W I AA σ Kont os (rs++[(.v (.bool true),[])])) (h2:q→AnyOps P all W I AA σ Kont os (rs++[(.v (.bool false),[])])):
  AnyOps P all W I AA σ Kont os (rs++[(.v (.bool b),[])]):=xO (fun e=> h1 (h.t e)) (fun e=> h2 (h.f e))

section
variable {P:Program} {σ τ:St}
variable {o:Oper}
theorem Spec.named {f:FuncId} {σ0:St} (id:ay) {n:Nat} {e:TypeId} {sz:Nat} {xs:List PV} (h:Spec P f σ0 (aG (.ref (0,8) 0 n) [((0,8), .row e sz xs)])):Spec P f σ0 (aG (.ref id 0 n) [(id, .row e sz xs)]):=by
 have h1:aR [(id,(0,8))] id=(0,8):=by simp [aR,dE]
 have h2:cj id [id]=true:=by simp [cj,dE]
 refine h.mono (Le.outO (I:=[]) (Pn:=[]) [(id,(0,8))] [] (eH h1 rfl) ?_ rfl ?_ trivial ⟨⟨?_,⟨_,?_, .rowE rfl⟩,?_⟩,trivial⟩)
 ·simp [AV.within,h2]
 ·simp [bf,cj]
 ·rfl
 ·rw [h1];rfl
 rfl
end

def iB:List (Int×Value)→Nat→List MapEntry
 | [],_=> []
 | p::l,i=> ⟨.int .i64 p.1,p.2,i⟩::iB l (i+1)
def cM (M:List (Int×Value)):List MapEntry:=iB M 0
theorem qG: ∀ (M:List (Int×Value)) (i:Nat),(iB M i).length=M.length
 | [],_=> rfl
 | p::l,i=> by simp [iB,qG l]
@[simp] theorem AT (M:List (Int×Value)):(cM M).length=M.length:=qG M 0
theorem qR: ∀ (M:List (Int×Value)) (i j:Nat),(iB M i)[j]? =(M[j]?).map fun p=> ⟨.int .i64 p.1,p.2,i+j⟩
 | [],_,_=> by simp [iB]
 | p::l,i,0=> by simp [iB]
 | p::l,i,j+1=> by
  simp only [iB,List.getElem?_cons_succ,qR l]
  rw [show i+1+j=i+(j+1) by omega]
theorem iY (M:List (Int×Value)) (j:Nat):(cM M)[j]? =(M[j]?).map fun p=> ⟨.int .i64 p.1,p.2,j⟩:=by rw [cM,qR,Nat.zero_add]
theorem ri: ∀ (M:List (Int×Value)) (p:Int×Value) (i:Nat),iB (M++[p]) i=iB M i++[⟨.int .i64 p.1,p.2,i+M.length⟩]
 | [],p,i=> rfl
 | q::l,p,i=> by
  simp only [List.cons_append,iB,ri l,List.length_cons]
  rw [show i+1+l.length=i+(l.length+1) by omega]
theorem zu (M:List (Int×Value)) (p:Int×Value):cM (M++[p])=cM M++[⟨.int .i64 p.1,p.2,M.length⟩]:=by rw [cM,ri,Nat.zero_add];rfl
def jg (k:Int):List (Int×Value)→Nat→Option (Nat×Value)
 | [],_=> none
 | p::l,i=> if k=p.1 then some (i,p.2) else jg k l (i+1)
def fX (M:List (Int×Value)) (k:Int):Option Value:=(jg k M 0).map (·.2)
theorem qT {k:Int}: ∀ {M:List (Int×Value)} {i:Nat},(∀ p∈M,p.1≠k)→jg k M i=none
 | [],_,_=> rfl
 | p::l,i,h=> by
  rw [jg,if_neg (fun e=> h p List.mem_cons_self e.symm)]
  exact qT fun q hq=> h q (List.mem_cons_of_mem _ hq)
theorem xW {M:List (Int×Value)} {k:Int} (h: ∀ p∈M,p.1≠k):fX M k=none:=by rw [fX,qT h];rfl
theorem qD {k:Int} {v:Value}: ∀ {M:List (Int×Value)} {i:Nat},(∃ p∈M,p.1=k)→(∀ p∈M,p.1=k→p.2=v)→ ∃ j,jg k M i=some (j,v)
 | [],_,h,_=> by obtain ⟨_,h,_⟩:=h;cases h
 | p::l,i,h,hv=> by
  by_cases hk:k=p.1
  ·exact ⟨i,by rw [jg,if_pos hk,hv p List.mem_cons_self hk.symm]⟩
  rw [jg,if_neg hk]
  obtain ⟨q,hq,hqk⟩:=h
  rcases List.mem_cons.1 hq with rfl | hq
  ·exact absurd hqk.symm hk
  exact qD ⟨q,hq,hqk⟩ fun p hp=> hv p (List.mem_cons_of_mem _ hp)
theorem xY {M:List (Int×Value)} {k:Int} {v:Value} (h: ∃ p∈M,p.1=k) (hv: ∀ p∈M,p.1=k→p.2=v):fX M k=some v:=by
 obtain ⟨j,hj⟩:=qD (i:=0) h hv
 rw [fX,hj];rfl
theorem mc (k:Int): ∀ (M:List (Int×Value)) (b i:Nat),Instr.findNow (.int .i64) (.int .i64 k) (iB M b) i=some (jg k M i)
 | [],_,_=> rfl
 | p::l,b,i=> by
  simp only [iB,Instr.findNow,Instr.sameNow,if_true,jg]
  by_cases h:k=p.1
  ·simp [h]
  simp only [beq_eq_false_iff_ne.2 h,if_neg h]
  exact mc k l (b+1) (i+1)

variable {P:Program} {T k e:TypeId}
theorem rG {w:World} {b:Bool} {v:Value} (hk:P.underlying k=some (.int .i64)):(Instr.checkKey b 10000 k v).run P w= .ok () w:=by
 rw [show (10000:Nat)=9999+1 from rfl,Instr.checkKey]
 simp [run_underlying hk]
theorem mE {w:World} {M:List (Int×Value)} {x:Int} (hk:P.underlying k=some (.int .i64)):(Instr.findKey k (.int .i64 x) (cM M)).run P w= .ok (jg x M 0) w:=by
 simp [Instr.findKey,run_underlying hk,cM,mc]
theorem qB {w:World} {g:Nat} {M:List (Int×Value)} {c:Nat} {x:Int} {z:Value} (ok:Bool) (hT:P.underlying T=some (.map k e)) (hk:P.underlying k=some (.int .i64)) (hz:(zeroValue e).run P w= .ok z w) (hb:w.heap[g]? =some (.map (cM M).toArray c)):
  (Instr.lookup T (.map (some g)) (.int .i64 x) ok).run P w= .ok (if ok then .tuple #[(fX M x).getD z, .bool (fX M x).isSome] else (fX M x).getD z) w:=by
 simp only [Instr.lookup,Sem.run_bind,run_underlying hT,Result.andThen_ok,getObj,Sem.run,hb,Result.andThen,rG hk,mE hk,fX]
 cases h:jg x M 0 with
 | none=> simp [hz,mE hk,h,Sem.run_map]
 | some p=> obtain ⟨i,v⟩:=p;simp [mE hk,h]
theorem uc {w:World} {g:Nat} {M:List (Int×Value)} {x:Int} {v:Value} (hT:P.underlying T=some (.map k e)) (hk:P.underlying k=some (.int .i64)) (hb:w.heap[g]? =some (.map (cM M).toArray M.length)) (hm:fX M x=none):
  (Instr.mapUpdate T (.map (some g)) (.int .i64 x) v).run P w= .ok () (w.putObj g (.map (cM (M++[(x,v)])).toArray (M++[(x,v)]).length)):=by
 have hf:jg x M 0=none:=by
  unfold fX at hm
  cases h:jg x M 0 with
  | none=> rfl
  | some p=> rw [h] at hm;cases hm
 simp only [Instr.mapUpdate,Sem.run_bind,run_underlying hT,Result.andThen_ok,getObj,setObj,Sem.run,hb,Result.andThen,rG hk,mE hk,hf,zu]
 simp [World.putObj]

section
variable {σ:St}
theorem RelI.mapAt {K:jb} {ι:ay→Option dX} {S:Nat→Prop} {a:Act} {w:World} (R:RelI K ι S σ a w) {x:Operand} {id:ay} (hx:σ.eval x= .mp id) {es:List MapEntry} {c:Nat} (hid:σ.ob id= .obj (.mp es c)):
  ∃ B g,ι id=some B∧B.g=some g∧a.eval x= .map (some g)∧w.heap[g]? =some (.map es.toArray c):=by
 obtain ⟨B,g,h1,h2,h3⟩:=R.ob id _ hid
 have hr:=R.eval x
 rw [hx] at hr
 generalize hu:a.eval x=u at hr
 cases hr with
 | mp h _=>
  obtain ⟨g',hg',rfl⟩:=h B h1
  rw [h2] at hg'
  obtain rfl:=Option.some.inj hg'
  exact ⟨B,g,h1,h2,rfl,h3⟩
theorem fm {dd:Option Tmp} {ty:TypeId} (id:ay) (hid:σ.ob id= .free):Stp P dd (.makeMap T none) ty σ ((σ.setOb id (.obj (.mp [] 0))).put dd (.mp id)):=by
 intro o hd ho ht
 subst hd
 intro K ι S a w R
 have hrun:(execOp a.eval o).run P w= .ok (.value (.map (some w.heap.size))) (w.alloc (.map #[] 0)):=by
  simp [execOp,ho,Instr.makeMap,newObj];rfl
 have R1:=R.new (id:=id) (o:= .mp [] 0) (B:=⟨some w.heap.size,0,0⟩) hid ((Below.refl _ _).alloc (Nat.le_refl _) _) (fun g hg=> by obtain rfl:=Option.some.inj hg;exact Nat.le_refl _)
  ⟨_,_,cm _ _ _,rfl,heap_alloc_new w _⟩ (fun i hi=> hi.elim)
 refine bZ hrun ⟨_,S,R1.put o.dst (.mp (fun B hB=> ?_) rfl) fun i hi=> ?_⟩
 ·rw [cm] at hB
  obtain rfl:=Option.some.inj hB
  exact ⟨_,rfl,rfl⟩
 cases hi;rw [St.setOb_same];intro h;cases h
theorem uo {dd:Option Tmp} {ty:TypeId} (x y:Operand) (hT:P.underlying T=some (.map k e)) (hk:P.underlying k=some (.int .i64)) {z:Value} (hz: ∀ w,(zeroValue e).run P w= .ok z w) {id:ay} {M:List (Int×Value)} {c:Nat} (hx:σ.eval x= .mp id) (hid:σ.ob id= .obj (.mp (cM M) c))
  {n:Int} (hy:σ.eval y= .v (.int .i64 n)) {r:Option Value} (hr:fX M n=r):Stp P dd (.lookup T x y true) ty σ (σ.put dd (.tup [.v (r.getD z), .v (.bool r.isSome)])):=by
 intro o hd ho ht
 subst hd;subst hr
 refine bs fun K ι S a w R=> ?_
 obtain ⟨B,g,h1,h2,h3,h4⟩:=R.mapAt hx hid
 have hi:=R.eval y
 rw [hy] at hi
 have hi:=hi.toV
 refine ⟨_,by simp only [execOp,ho,h3,hi,qB true hT hk (hz w) h4,Sem.run_map,Sem.run_bind,Sem.run_pure,Result.andThen_ok,if_true];rfl, .tup rfl fun j b hb=> ?_,fun i hi=> ?_⟩
 ·match j,hb with
  | 0,hb=> cases hb;exact .v
  | 1,hb=> cases hb;exact .v
  | j+2,hb=> simp at hb
 cases hi with
 | tup hm h=> simp at hm;rcases hm with rfl | rfl <;> cases h
theorem tP {dd:Option Tmp} {ty:TypeId} (x y:Operand) (hT:P.underlying T=some (.map k e)) (hk:P.underlying k=some (.int .i64)) {z:Value} (hz: ∀ w,(zeroValue e).run P w= .ok z w) {id:ay} {M:List (Int×Value)} {c:Nat} (hx:σ.eval x= .mp id) (hid:σ.ob id= .obj (.mp (cM M) c))
  {n:Int} (hy:σ.eval y= .v (.int .i64 n)) {r:Value} (hr:(fX M n).getD z=r):Stp P dd (.lookup T x y false) ty σ (σ.put dd (.v r)):=by
 intro o hd ho ht
 subst hd;subst hr
 refine bs fun K ι S a w R=> ?_
 obtain ⟨B,g,h1,h2,h3,h4⟩:=R.mapAt hx hid
 have hi:=R.eval y
 rw [hy] at hi
 have hi:=hi.toV
 exact ⟨_,by simp only [execOp,ho,h3,hi,qB false hT hk (hz w) h4,Sem.run_map,Sem.run_bind,Sem.run_pure,Result.andThen_ok,if_false];rfl, .v,fun i hi=> by cases hi⟩
theorem DT {ty:TypeId} (x y v:Operand) (hT:P.underlying T=some (.map k e)) (hk:P.underlying k=some (.int .i64)) {id:ay} {M M':List (Int×Value)} {c c':Nat} (hc:c=M.length) (hx:σ.eval x= .mp id) (hid:σ.ob id= .obj (.mp (cM M) c))
  {n:Int} (hy:σ.eval y= .v (.int .i64 n)) {u:Value} (hv:σ.eval v= .v u) (hr:fX M n=none) (hM:M++[(n,u)]=M') (hc':M'.length=c'):Stp P none (.mapUpdate T x y v) ty σ ((σ.setOb id (.obj (.mp (cM M') c'))).put none .dead):=by
 intro o hd ho ht
 subst hc;subst hM;subst hc'
 intro K ι S a w R
 obtain ⟨B,g,h1,h2,h3,h4⟩:=R.mapAt hx hid
 have hi:=R.eval y
 rw [hy] at hi
 have hi:=hi.toV
 have hu:=R.eval v
 rw [hv] at hu
 have hu:=hu.toV
 have hrun:(execOp a.eval o).run P w= .ok .skip (w.putObj g (.map (cM (M++[(n,u)])).toArray (M++[(n,u)]).length)):=by
  simp only [execOp,ho,h3,hi,hu,uc hT hk h4 hr,Sem.run_map,Sem.run_bind,Sem.run_pure,Result.andThen_ok]
 have hot: ∀ k,k≠g→(w.putObj g (.map (cM (M++[(n,u)])).toArray (M++[(n,u)]).length)).heap[k]? =w.heap[k]? :=fun k hk=> World.putObj_heap_other hk
 have hk':Keeps (fun k=> B.g=some k) w (w.putObj g (.map (cM (M++[(n,u)])).toArray (M++[(n,u)]).length)):=⟨rfl,rfl,rfl,by simp,fun k _ hn=> hot k fun e=> hn (e ▸ h2)⟩
 have R1:=R.upd (o':= .mp (cM (M++[(n,u)])) (M++[(n,u)]).length) hid h1 hk' ⟨B,g,h1,h2,by
  have:=(Array.getElem?_eq_some_iff.1 h4).1
  simp [World.putObj,this]⟩ (fun i hi=> hi.elim)
 refine gj hrun ⟨ι,S,?_⟩
 rw [hd]
 exact R1.put none .dead fun i hi=> by cases hi
end

inductive Ln (σ:St):PV→AV→Prop where
 | v {x:Value} (h:x.oneCell'=true):Ln σ (.v x) (.v x)
 | sl {n:Nat} {xs:List PV}:Ln σ (.sl n xs) (.sl n xs)
 | nil:Ln σ (.sl 0 []) (.v (.slice none 0 0))
 | fp {off:Nat} {xs:List PV}:Ln σ (.ptr off xs) (.fp off xs)
 | ref {id:ay} {off n:Nat} {e:TypeId} {sz:Nat} {xs ys:List PV} (hid:σ.ob id= .obj (.row e sz xs)) (hy:(xs.drop off).take (n*sz)=ys) (hl:off+n*sz≤xs.length):Ln σ (.sl n ys) (.ref id off n)
 | ptr {id:ay} {off:Nat} {e:TypeId} {xs:List AV} {ys:List PV} (hid:σ.ob id= .obj (.box e xs)) (hl:ys.length≤xs.length) (h: ∀ (j:Nat) (p:PV) (a:AV),ys[j]? =some p→xs[j]? =some a→Ln σ p a):Ln σ (.ptr off ys) (.ptr id off)
 | fn {f:Fn} {xs us:List PV} {ys vs:List AV} (hl:xs.length=ys.length) (h: ∀ (j:Nat) (p:PV) (a:AV),xs[j]? =some p→ys[j]? =some a→Ln σ p a)
   (hl':us.length=vs.length) (h': ∀ (j:Nat) (p:PV) (a:AV),us[j]? =some p→vs[j]? =some a→Ln σ p a):Ln σ (.fn f xs us) (.fn f ys vs)
theorem Ln.rd {K:jb} {ι:ay→Option dX} {S S1:Nat→Prop} {σ:St} {act:Act} {w:World} (R:RelI K ι S σ act w) (hS: ∀ g,S g→S1 g) (hF: ∀ id B g,ι id=some B→B.g=some g→S1 g) {p:PV} {a:AV} (h:Ln σ p a): ∀ {v:Value},Rep ι S w a v→Rd S1 w p v:=by
 induction h with
 | v h1=> intro v hv;cases hv;exact .v h1
 | sl=> intro v hv;cases hv with
  | sl h=> exact h.next (fun _ _=> rfl) hS
 | nil=> intro v hv;cases hv;exact .sl0 (Nat.le_refl _) (by unfold maxLen;omega) fun _=> ⟨rfl,rfl⟩
 | fp=> intro v hv;cases hv with
  | fp h=> exact h.next (fun _ _=> rfl) hS
 | ref hid hy hl=>
  intro v hv
  have:=(Lv.frz (ρ:=fun i=> i) (F:=fun _=> true) hid rfl hy hl).rep (ι1:=ι) (S1:=S1) R (fun _ _ h=> h) hS (fun id B g _ a b=> hF id B g a b) hv
  cases this with
  | sl h=> exact h
 | ptr hid hl h ih=>
  intro v hv
  rename_i id off e xs ys
  obtain ⟨B,g,hB,hg,htot,hrow⟩:=R.ob id _ hid
  cases hv with
  | ptr hp _=>
   obtain ⟨g',hg',rfl⟩:=hp B hB
   rw [hg] at hg'
   obtain rfl:=Option.some.inj hg'
   rcases hrow with ⟨h6,_⟩ | ⟨g',cur,h10,h11,h12,h13,h14⟩
   ·rw [hg] at h6;cases h6
   rw [hg] at h10
   obtain rfl:=Option.some.inj h10
   have:=Rd.ptr (S:=S1) (w:=w) (off:=off) (b:=g) (o:=0) (xs:=ys) (fun j=> cur.getD j undef) (.mk (hF id B g hB hg) h11) (fun j p hp=> ?_) (fun j p hp=> ?_)
   ·simp only [Nat.zero_add] at this;exact this
   ·have hj:=(List.getElem?_eq_some_iff.1 hp).1
    obtain ⟨u,hu,_⟩:=h14 j ab
    exact ee h11 (by simp [hu])
   have hj:=(List.getElem?_eq_some_iff.1 hp).1
   have ha:=List.getElem?_eq_getElem (show j < xs.length by omega)
   obtain ⟨u,hu,hu1,hu2⟩:=h14 j ab
   simp only [Array.getD_eq_getD_getElem?,hu,Option.getD_some]
   exact ih j p _ hp ha (hu2 _ ha)
 | fn hl h hl' h' ih ih'=>
  intro v hv
  cases hv with
  | fn a1 a2 a3 a4=>
   refine .fn ab ab (fun j p hp=> ?_) fun j p hp=> ?_
   ·have hj:=(List.getElem?_eq_some_iff.1 hp).1
    exact ih j p _ hp (List.getElem?_eq_getElem (show j < _ by omega)) (a3 j _ (List.getElem?_eq_getElem (show j < _ by omega)))
   have hj:=(List.getElem?_eq_some_iff.1 hp).1
   exact ih' j p _ hp (List.getElem?_eq_getElem (show j < _ by omega)) (a4 j _ (List.getElem?_eq_getElem (show j < _ by omega)))

section
variable {P:Program} {σ τ:St} {o:Oper}
mutual
theorem rO: ∀ (a:AV),a.ren (fun i=> i)=a
 | .dead=> rfl
 | .v _=> rfl
 | .sl _ _=> rfl
 | .fp _ _=> rfl
 | .z=> rfl
 | .mp i=> rfl
 | .ref i _ _=> rfl
 | .ptr i _=> rfl
 | .agg xs=> by simp only [AV.ren,gR xs]
 | .fn f xs ys=> by simp only [AV.ren,gR xs,gR ys]
 | .ifc t a=> by simp only [AV.ren,rO a]
 | .tup xs=> by simp only [AV.ren,gR xs]
theorem gR: ∀ (l:List AV),AV.rens (fun i=> i) l=l
 | []=> rfl
 | a::l=> by simp only [AV.rens,rO a,gR l]
end
mutual
theorem ns {ρ:ay→ay} {F:ay→Bool} {ids:List ay} (h: ∀ i,cj i ids=true→ρ i=i): ∀ (a:AV),a.within ids=true→Lv ρ σ F a a
 | .dead,_=> .dead
 | .v _,_=> .v
 | .sl _ _,_=> .sl
 | .fp _ _,_=> .fp
 | .z,_=> .z
 | .mp i,hw=> by have:=Lv.mp (ρ:=ρ) (σ:=σ) (F:=F) (id:=i);rwa [h i hw] at this
 | .ref i o n,hw=> eH (h i hw) rfl
 | .ptr i o,hw=> di (h i hw)
 | .agg xs,hw=> .agg rfl fun j a b ha hb=> by rw [ha] at hb;cases hb;exact fk h xs hw j a ha
 | .fn f xs ys,hw=> by
  simp only [AV.within,Bool.and_eq_true] at hw
  exact .fn rfl (fun j a b ha hb=> by rw [ha] at hb;cases hb;exact fk h xs hw.1 j a ha) rfl fun j a b ha hb=> by rw [ha] at hb;cases hb;exact fk h ys hw.2 j a ha
 | .ifc t a,hw=> .ifc (ns h a hw)
 | .tup xs,hw=> .tup rfl fun j a b ha hb=> by rw [ha] at hb;cases hb;exact fk h xs hw j a ha
theorem fk {ρ:ay→ay} {F:ay→Bool} {ids:List ay} (h: ∀ i,cj i ids=true→ρ i=i): ∀ (l:List AV),AV.withins ids l=true→ ∀ (j:Nat) (a:AV),l[j]? =some a→Lv ρ σ F a a
 | [],_,j,a,ha=> by simp at ha
 | x::l,hw,0,a,ha=> by
  simp only [AV.withins,Bool.and_eq_true] at hw
  simp at ha;subst ha;exact ns h x hw.1
 | x::l,hw,j+1,a,ha=> by
  simp only [AV.withins,Bool.and_eq_true] at hw
  exact fk h l hw.2 j a (by simpa using ha)
end
theorem vq {ρ:ay→ay} {F:ay→Bool} {ids:List ay} (h: ∀ i,cj i ids=true→ρ i=i) (o:Cells) (hw:o.within ids=true):LvO ρ σ F o o:=by
 cases o with
 | row e sz xs=> exact .row (List.append_nil xs).symm
 | box e xs=> exact .box rfl fun j a b ha hb=> by rw [ha] at hb;cases hb;exact fk h xs hw j a ha
 | rowA e sz xs=> exact .rowA rfl fun j a b ha hb=> by rw [ha] at hb;cases hb;exact fk h xs hw j a ha
 | mp=> exact .mp
 | it m a b c=> have:=LvO.it (ρ:=ρ) (σ:=σ) (F:=F) (m:=m) (since:=a) (seen:=b) (stepped:=c);rwa [h m hw] at this
theorem ui (o:Cells):o.ren (fun i=> i)=o:=by
 cases o with
 | row=> rfl
 | box e xs=> simp only [Cells.ren,gR xs]
 | rowA e sz xs=> simp only [Cells.ren,gR xs]
 | mp=> rfl
 | it m=> rfl
theorem lh {ids:List ay}: ∀ {l:List (ay×Cells)},aY ids l=true→ ∀ {x},x∈l→x.2.within ids=true
 | [],_,x,h=> by simp at h
 | y::l,hw,x,h=> by
  simp only [aY,Bool.and_eq_true] at hw
  rcases List.mem_cons.1 h with rfl | h
  ·exact hw.1
  exact lh hw.2 h
def kQ (σ:St):List (ay×Cells)→Prop
 | []=> True
 | (i,o)::l=> σ.ob i= .obj o∧kQ σ l
theorem nQ: ∀ {l:List (ay×Cells)},kQ σ l→ ∀ {i o},(i,o)∈l→σ.ob i= .obj o
 | [],_,i,o,h=> by simp at h
 | (k,c)::l,h,i,o,hm=> by
  rcases List.mem_cons.1 hm with h0 | hm
  ·obtain ⟨rfl,rfl⟩:=Prod.mk.inj h0;exact h.1
  exact nQ h.2 hm
theorem zb {I:List ay} {SS:List (ay×Cells)} (hI:SS.map (·.1)=I) {c:ay} (h:c∈I): ∃ o,(c,o)∈SS:=by
 subst hI
 obtain ⟨⟨i,o⟩,hm,rfl⟩:=List.mem_map.1 h
 exact ⟨o,hm⟩
theorem vL {SS:List (ay×Cells)} {I:List ay} (hI:SS.map (·.1)=I) (hk:kQ σ SS) (hn:bf I=true):σ.afterP (aR []) SS I I=σ:=by
 have hid:I.map (aR [])=I:=by rw [eE];simp
 have hno:((SS.map (·.1)).map (aR [])).Nodup:=by rw [hI,hid];exact bD hn
 have hren: ∀ o:Cells,o.ren (aR [])=o:=fun o=> by rw [eE];exact ui o
 refine St.eq rfl (fun _=> rfl) (fun c=> ?_) (funext fun c=> ?_) rfl
 ·show cV _ _ _ _ c=_
  by_cases hc:c∈I
  ·obtain ⟨o,ho⟩:=zb hI hc
   have:=cE (ins:=I) (ob:=σ.ob) hno ho
   rw [hren] at this
   exact this.trans (nQ hk ho).symm
  rw [dj (by rw [hI,hid];exact hc),hid]
  have:cj c I=false:=by
   cases h:cj c I with
   | true=> exact absurd (inO_iff.1 h) hc
   | false=> rfl
  rw [this];rfl
 show jT _ _ _ _ _ _ c=_
 by_cases hc:c∈I
 ·have:=mM (ins:=I) (I:=I) (any:=eB σ ((fK SS I).map (aR []))) (inc:=σ.inc) hno (hI ▸ hc)
  rw [inO_iff.2 hc,cond_true] at this
  exact this
 exact jE (by rw [hI,hid];exact hc)
theorem tw {SS:List (ay×Cells)} {I:List ay} {rn:List (ay×ay)} (hr: ∀ i,cj i I=true→aR rn i=i) (hk:kQ σ SS) (hs: ∀ x∈SS,cj x.1 I=true∧x.2.within I=true):cY (aR rn) σ (fun _=> false) I SS:=by
 induction SS with
 | nil=> trivial
 | cons x l ih=>
  obtain ⟨i,o⟩:=x
  obtain ⟨h1,h2⟩:=hs _ List.mem_cons_self
  refine ⟨⟨rfl,⟨o,by rw [hr i h1];exact hk.1,?_⟩,by rw [h1];rfl⟩,ih hk.2 fun x hx=> hs x (List.mem_cons_of_mem _ hx)⟩
  exact vq hr o h2
theorem oW {I:List ay} {ρ:ay→ay} {l':List (ay×Cells)} (h':dz σ ρ I l'): ∀ {l:List (ay×Cells)},(∀ x∈l,cj x.1 I=true)→dz σ ρ I (l++l')
 | [],_=> h'
 | (i,o)::l,h=> ⟨by rw [h (i,o) List.mem_cons_self];rfl,oW h' fun x hx=> h x (List.mem_cons_of_mem _ hx)⟩
theorem yb {o:Oper} {f:FuncId} {avs:List AV} (hE:EntersAt P o σ f avs) (SS:List (ay×Cells)) (I:List ay) {args:List AV} {x:Value} (ha:eP σ [] avs args)
  (sp:Spec P f (aE args SS) (aP (.v x) SS I I)) (hk:kQ σ SS) (hI:SS.map (·.1)=I) (hb:(AV.withins I args && aY I SS && bf I && fL I I SS)=true) (h0:I≠[]):gH P o σ (σ.put o.dst (.v x)):=by
 subst hI
 simp only [Bool.and_eq_true] at hb
 obtain ⟨⟨⟨h1,h2⟩,h3⟩,h4⟩:=hb
 have hid:(SS.map (·.1)).map (aR [])=SS.map (·.1):=by rw [eE];simp
 have hw: ∀ x∈SS,cj x.1 (SS.map (·.1))=true∧x.2.within (SS.map (·.1))=true:=fun x hx=> ⟨inO_iff.2 (List.mem_map_of_mem hx),lh h2 hx⟩
 have h:=oV hE [] ha h1 h2 (tw (rn:=[]) (fun _ _=> rfl) hk hw) (by rw [hid];exact h3) h3 (by rw [hid];exact h3) h3 (by
  have:=oW (σ:=σ) (ρ:=aR []) (I:=SS.map (·.1)) (l':=[]) trivial (l:=SS) fun x hx=> (hw x hx).1
  rwa [List.append_nil] at this) h4 (r:= .v x) rfl h2 sp
 rw [vL rfl hk h3] at h
 exact h
theorem be {dd:Option Tmp} {ty:TypeId} {f:FuncId} {xs:Array Operand} {ats:Array TypeId} (C:ce P f) (SS:List (ay×Cells)) (I:List ay) {args:List AV} {x:Value} (ha:eP σ [] (xs.toList.map σ.eval) args)
  (sp:Spec P f (aE args SS) (aP (.v x) SS I I)) (hk:kQ σ SS) (hI:SS.map (·.1)=I) (hb:(AV.withins I args && aY I SS && bf I && fL I I SS)=true) (h0:I≠[]):Stp P dd (.call { callee:= .value (.func f),args:=xs,argTypes:=ats }) ty σ (σ.put dd (.v x)):=
 fun o hd ho ht=> by subst hd;exact yb (.fnc ho C) SS I ha sp hk hI hb h0
end
section
variable {P:Program} {σ:St} {o:Oper} {T e:TypeId} {size bytes:Nat} {z:List Value}
theorem Ce {w:World} {t e:TypeId} (a:Addr) (n c:Nat) (ht:P.underlying t=some (.slice e)):(binOp .eql t (.slice (some a) n c) (.slice none 0 0)).run P w= .ok (.bool false) w:=by
 have h1 (d:Nat):(Op.equalIn (d+1) t (.slice (some a) n c) (.slice none 0 0)).run P w= .ok false w:=by
  simp [run_underlying ht,Op.equalIn]
 have h2:=h1 9999
 simp only [binOp]
 simp [Op.equal,Op.maxDepth,h2]
theorem Fi {dd:Option Tmp} {ty:TypeId} {t t' e:TypeId} (x y:Operand) (h:P.underlying t=some (.slice e)) {n:Nat} (hx:(∃ xs,σ.eval x= .sl n xs)∨ ∃ id off e sz xs,σ.eval x= .ref id off n∧σ.ob id= .obj (.row e sz xs)) (hn:0 < n) (hy:σ.eval y= .v (.slice none 0 0)):Stp P dd (.binOp .eql t x y t') ty σ (σ.put dd (.v (.bool false))):=by
 intro o hd ho ht
 subst hd
 refine bs fun _ ι S a w R=> ⟨_,?_, .v,fun _=> eU⟩
 have hp: ∃ p m c,a.eval x= .slice (some p) m c:=by
  rcases hx with ⟨xs,hx⟩ | ⟨id,off,e,sz,xs,hx,hid⟩
  ·have hr:=R.eval x
   rw [hx] at hr
   generalize a.eval x=u at hr
   cases hr with
   | sl h=>
    cases h with
    | sl0 h0 h1 h2=>
     rename_i c ao
     cases ao with
     | none=> have:=h2 rfl;omega
     | some p=> exact ⟨_,_,_,rfl⟩
    | sl=> exact ⟨_,_,_,rfl⟩
  obtain ⟨B,h1,_,_⟩:=R.ob id _ hid
  have hr:=R.eval x
  rw [hx] at hr
  generalize a.eval x=u at hr
  cases hr with
  | ref h _=>
   obtain ⟨c,_,_,h5⟩:=h B h1
   cases hg:B.g with
   | none=> rw [hg] at h5;have:=h5.2.1;omega
   | some g=>
    rw [hg] at h5
    obtain ⟨o',rfl,_⟩:=h5
    exact ⟨_,_,_,rfl⟩
 obtain ⟨p,m,c,hp⟩:=hp
 have h2:=Rep.evV R hy
 have hq:=Ce (w:=w) p m c h
 clear h hx hy
 generalize a.eval=ρ at hp h2
 simp [execOp,ho,hp,h2,eqGuard,hq]
theorem Eo {dd:Option Tmp} {ty:TypeId} (id':ay) (s x:Operand) (E:Elem P T e size bytes z) (hs:σ.eval s= .z) {m:Nat} (hm:0 < m) {news:List PV} (hx:SrcAV σ (σ.eval x) size m news) (hb:m*bytes≤140737488355328) (hid':σ.ob id'= .free):
  Stp P dd (.call { callee:= .builtin .append,args:= #[s,x],argTypes:= #[T,T] }) ty σ ((σ.setOb id' (.obj (.row e size news))).put dd (.ref id' 0 m)):=by
 intro o hd ho ht
 subst hd
 intro K ι S a w R
 have hv:=R.eval s
 rw [hs] at hv
 obtain ⟨vs,hsl,hvl,hvr⟩:=hx.src R E.pos
 obtain ⟨v',w',hr,h4,h5,_,h7⟩:=rI (P:=P) (T:=T) o.type 0 (.slice none 0 0) 0 [] (World.ownsRow_nil _ _ _ _) (a.eval x) m vs hsl (by simpa using hb) (Nat.zero_le _)
 have hrun:(execOp a.eval o).run P w= .ok (.value v') w':=by
  generalize hu:a.eval s=u at hv
  cases hv with
  | z=>
   rename_i ao
   have h0:(Builtin.append_ #[T,T] o.type #[.slice ao 0 0,a.eval x]).run P w= .ok v' w':=by
    cases ao with
    | none=> exact hr
    | some b=> exact ((By (P:=P) (T:=T) w o.type b (a.eval x) m vs hsl hb).resolve_left fun h=> by omega).trans hr
   unfold execOp
   simp only [ho,resolve,invoke,builtin,Sem.run_bind,Sem.run_pure,Result.andThen_ok,List.map_toArray,List.map_cons,List.map_nil,hu,h0]
 simp only [List.nil_append,Nat.zero_add] at h4
 have hbl:Below w.heap.size w w':=iC (by simpa [Value.ownBlock] using h5)
 rcases kY h4 with ⟨hv',hn0,hu0⟩ | ⟨g,c,cur,hv',hg,hnc,hcm,hcs,hcu⟩
 ·omega
 subst hv'
 refine bZ hrun (R.newRow hid' hbl e size m hg ?_ hnc hcm hcs (by rw [← hvl];exact h4.1) (fun j b hb'=> ?_) _)
 ·rcases h7 with h | ⟨k,hk,hle⟩
  ·simp [Value.ownBlock] at h
  simp [Value.ownBlock] at hk;omega
 obtain ⟨u,a1,a2,a3⟩:=hvr j b hb'
 exact ⟨u,hcu j u a1,a2,a3⟩
theorem cC {dd:Option Tmp} {ty:TypeId} {f:FuncId} {xs:Array Operand} {ats:Array TypeId} (C:ce P f) (rn:List (ay×ay)) {args:List AV} {ins outs:List (ay×Cells)} {r:AV} {I Pn:List ay}
  (ha:eP σ rn (xs.toList.map σ.eval) args) (sp:Spec P f (aE args ins) (aP r outs I Pn)) (hins:cY (aR rn) σ (fun _=> false) (ins.map (·.1)) ins) (hfr:dz σ (aR rn) (ins.map (·.1)) outs)
  (hb:(AV.withins (ins.map (·.1)) args && aY (ins.map (·.1)) ins && bf ((ins.map (·.1)).map (aR rn)) && bf (ins.map (·.1)) && bf ((outs.map (·.1)).map (aR rn)) && bf (outs.map (·.1)) && fL (ins.map (·.1)) Pn outs && r.within (outs.map (·.1)) && aY (outs.map (·.1)) outs)=true):
  Stp P dd (.call { callee:= .value (.func f),args:=xs,argTypes:=ats }) ty σ ((σ.afterP (aR rn) outs (ins.map (·.1)) I).put dd (r.ren (aR rn))):=by
 intro o hd ho ht
 subst hd
 simp only [Bool.and_eq_true] at hb
 obtain ⟨⟨⟨⟨⟨⟨⟨⟨h1,h2⟩,h3⟩,h4⟩,h5⟩,h6⟩,h7⟩,h8⟩,h9⟩:=hb
 exact oV (.fnc ho C) rn ha h1 h2 hins h3 h4 h5 h6 hfr h7 h8 h9 sp
theorem xI {dd:Option Tmp} {ty:TypeId} {f:FuncId} {x0:Operand} {xs:Array Operand} {ats:Array TypeId} {first caps:List AV} (hx:σ.eval x0= .fn (.func f) first caps) (C:ce P f) (rn:List (ay×ay)) {args:List AV} {ins outs:List (ay×Cells)} {r:AV} {I Pn:List ay}
  (ha:eP σ rn (first++xs.toList.map σ.eval++caps) args) (sp:Spec P f (aE args ins) (aP r outs I Pn)) (hins:cY (aR rn) σ (fun _=> false) (ins.map (·.1)) ins) (hfr:dz σ (aR rn) (ins.map (·.1)) outs)
  (hb:(AV.withins (ins.map (·.1)) args && aY (ins.map (·.1)) ins && bf ((ins.map (·.1)).map (aR rn)) && bf (ins.map (·.1)) && bf ((outs.map (·.1)).map (aR rn)) && bf (outs.map (·.1)) && fL (ins.map (·.1)) Pn outs && r.within (outs.map (·.1)) && aY (outs.map (·.1)) outs)=true):
  Stp P dd (.call { callee:= .value x0,args:=xs,argTypes:=ats }) ty σ ((σ.afterP (aR rn) outs (ins.map (·.1)) I).put dd (r.ren (aR rn))):=by
 intro o hd ho ht
 subst hd
 simp only [Bool.and_eq_true] at hb
 obtain ⟨⟨⟨⟨⟨⟨⟨⟨h1,h2⟩,h3⟩,h4⟩,h5⟩,h6⟩,h7⟩,h8⟩,h9⟩:=hb
 exact oV (.fnv ho C hx) rn ha h1 h2 hins h3 h4 h5 h6 hfr h7 h8 h9 sp
theorem HK {ρ:ay→ay} {F:ay→Bool} {a b:AV} (ids:List ay) (hids:ids.all (fun j=> gh (ρ j) j)=true) (hb:b=a) (hw:a.within ids=true):Lv ρ σ F a b:=
 by subst hb;exact ns (fun j hj=> oeq_iff.1 (List.all_eq_true.1 hids j (inO_iff.1 hj))) _ hw
end
end Go.Proofs.YtmjnackchaahbaaGreat
