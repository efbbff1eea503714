/- part 5 -/
import Derived.DataReads
import Derived.ChangeSlices
import Derived.WalkKit
import Derived.ChangeOld
import Derived.SizedLaws
import Derived.ChangeKeysEq
import Derived.RangeFuncNested
import Derived.Maps.RangeRun
import Derived.Test.YtmjnackchaahbaaGreatNvZ4
set_option linter.unusedSimpArgs false
set_option linter.unusedVariables false
namespace Go.Proofs.YtmjnackchaahbaaGreat
open Go.RowKit

def oU {α:Type} (pl:Nat→Option (Nat×Nat)):List α→List (Nat×List α)→Option (List α)
  | cs,[]=> some cs
  | cs,(i,vs)::rest=> match pl i with
    | some (off,size)=> bif Nat.beq vs.length size && Nat.ble (off+size) cs.length then oU pl (eO cs off vs) rest else none
    | none=> none

class Bld (P:Program) (t:TypeId) (z:outParam (List Value)) (pl:outParam (Nat→Option (Nat×Nat))):Prop where
  out: ∀ (parts:Array (Nat×Value)) (cs:Array Value) (w:World),Instr.fill pl z.toArray parts.toList=some cs→(Instr.build t parts).run P w= .ok (.agg cs) w
  one: ∀ u∈z,u.oneCell'=true

theorem Bld.struct {P:Program} {t:TypeId} {z:List Value} {fs:Array Field} {bytes:Nat} (zv:Value) (pl:List (Nat×Nat)) (h1:P.underlying t=some (.struct fs)) (h2:(P.info? t).map (fun i=> (i.zero,i.size,i.bytes))=some (some zv,z.length,bytes)) (h3:zv.cells=z.toArray)
    (h4: ∀ u∈z,u.oneCell'=true) (hp: ∀ w,(fs.mapM fun f=> do pure (f.offset,← sizeOf f.type):Sem (Array (Nat×Nat))).run P w= .ok pl.toArray w):Bld P t z (fun i=> pl[i]?):=by
  obtain ⟨i,hi,a,b,c⟩:=info_parts h2
  refine ⟨fun parts cs w hf=> ?_,h4⟩
  have hp':=hp w
  have hz:(zeroValue t).run P w= .ok zv w:=by simp [zeroValue,typeInfo,hi,a]
  simp only [Instr.build,Sem.run_bind,hz,run_underlying h1,Result.andThen_ok,hp',h3,Sem.run_pure,List.getElem?_toArray,hf]
theorem Bld.array {P:Program} {t e:TypeId} {z:List Value} {n size bytes:Nat} (zv:Value) (h1:P.underlying t=some (.array n e)) (h2:(P.info? t).map (fun i=> (i.zero,i.size,i.bytes))=some (some zv,z.length,bytes)) (h3:zv.cells=z.toArray)
    (h4: ∀ u∈z,u.oneCell'=true) (hs:(P.info? e).map (·.size)=some size):Bld P t z (fun i=> some (i*size,size)):=by
  obtain ⟨i,hi,a,b,c⟩:=info_parts h2
  obtain ⟨j,hj,hjs⟩:=Option.map_eq_some_iff.1 hs
  refine ⟨fun parts cs w hf=> ?_,h4⟩
  simp [Instr.build,zeroValue,typeInfo,sizeOf,hi,a,h3,run_underlying h1,hj,hjs,hf]

def qQ (σ:St):List (Nat×Operand)→Option (List (Nat×List AV))
  | []=> some []
  | (i,x)::l=> match (σ.eval x).cells,qQ σ l with
    | some c,some r=> some ((i,c)::r)
    | _,_=> none

theorem rW (pl:Nat→Option (Nat×Nat)) {R:AV→Value→Prop}: ∀ (ps:List (Nat×List AV)) (vs:List (Nat×Value)) (cs:List AV) (us:Array Value) (ys:List AV),oU pl cs ps=some ys→
    vs.length=ps.length→(∀ (j:Nat) (p:Nat×List AV) (v:Nat×Value),ps[j]? =some p→vs[j]? =some v→p.1=v.1∧v.2.cells.size=p.2.length∧(∀ x∈v.2.cells.toList,x.oneCell'=true)∧ ∀ (k:Nat) (b:AV),p.2[k]? =some b→R b (v.2.cells.getD k undef))→
    us.size=cs.length→(∀ u∈us.toList,u.oneCell'=true)→(∀ (k:Nat) (b:AV),cs[k]? =some b→R b (us.getD k undef))→
    ∃ us',Instr.fill pl us vs=some us'∧us'.size=ys.length∧(∀ u∈us'.toList,u.oneCell'=true)∧ ∀ (k:Nat) (b:AV),ys[k]? =some b→R b (us'.getD k undef)
  | [],vs,cs,us,ys,h,hl,_,h1,h2,h3=> by
    obtain rfl:vs=[]:=List.eq_nil_of_length_eq_zero hl
    simp only [oU] at h
    obtain rfl:=Option.some.inj h
    exact ⟨us,rfl,h1,h2,h3⟩
  | (i,c)::ps,vs,cs,us,ys,h,hl,hp,h1,h2,h3=> by
    cases vs with
    | nil=> simp at hl
    | cons v vs=>
      obtain ⟨i',v⟩:=v
      obtain ⟨e1,e2,e3,e4⟩:=hp 0 _ _ rfl rfl
      simp only at e1 e2 e3 e4
      subst e1
      simp only [oU] at h
      split at h
      · rename_i off size hpl
        cases hc:(Nat.beq c.length size && Nat.ble (off+size) cs.length) with
        | false=> rw [hc] at h;cases h
        | true=>
          rw [hc] at h
          simp only [Bool.and_eq_true,Nat.beq_eq,Nat.ble_eq] at hc
          obtain ⟨hc1,hc2⟩:=hc
          subst hc1
          have hf:=uc v.cells.toList off 0 us (by simp [e2];omega)
          simp only [Nat.add_zero] at hf
          have hz:(v.cells.zipIdx.foldl (fun (cs:Array Value) (p:Value×Nat)=> cs.setIfInBounds (off+p.2) p.1) us)=(put us.toList off v.cells.toList).toArray:=by
            rw [← hf,← Array.foldl_toList,Array.toList_zipIdx]
          have hz':(Array.foldl (fun cs (x:Value×Nat)=> match x with | (c,j)=> cs.setIfInBounds (off+j) c) us v.cells.zipIdx)=(put us.toList off v.cells.toList).toArray:=hz
          have hvl:v.cells.toList.length=c.length:=by simpa using e2
          have hcl:off+v.cells.toList.length≤us.toList.length:=by rw [hvl];simp;omega
          have hstep:=rW pl (R:=R) ps vs (eO cs off c) (eO us.toList off v.cells.toList).toArray ys h (by simpa using hl) (fun j p q hj hq=> hp (j+1) p q (by simpa using hj) (by simpa using hq))
            (by simp [ff _ _ _ hcl,ff _ _ _ hc2,h1]) (fun u hu=> by
              rcases qH (by simpa using hu) with hu | hu
              · exact h2 u hu
              · exact e3 u hu) (fun k b hb=> by
              rw [fy _ _ _ hc2] at hb
              have hk:(eO us.toList off v.cells.toList).toArray.getD k undef=((eO us.toList off v.cells.toList)[k]?).getD undef:=by simp [List.getD_eq_getElem?_getD]
              rw [hk,fy _ _ _ hcl,hvl]
              split at hb
              · rename_i hin
                rw [if_pos hin]
                have:=e4 _ b hb
                simpa using this
              rename_i hin
              rw [if_neg hin]
              have:=h3 k b hb
              simpa using this)
          obtain ⟨us',r1,r2,r3,r4⟩:=hstep
          refine ⟨us',?_,r2,r3,r4⟩
          simp only [Instr.fill,hpl]
          rw [if_neg (by simp [e2];omega)]
          rw [hz']
          exact r1
      cases h

section
variable {P:Program} {σ:St} {o:Oper} {z:List Value}
theorem oX {K:lV} {ι:az→Option eC} {S:Nat→Prop} {a:Act} {w:World} (R:RelI K ι S σ a w): ∀ (l:List (Nat×Operand)) (r:List (Nat×List AV)),qQ σ l=some r→
    l.length=r.length∧(∀ (j:Nat) (p:Nat×List AV) (v:Nat×Value),r[j]? =some p→(l.map fun q=> (q.1,a.eval q.2))[j]? =some v→p.1=v.1∧v.2.cells.size=p.2.length∧(∀ x∈v.2.cells.toList,x.oneCell'=true)∧ ∀ (k:Nat) (b:AV),p.2[k]? =some b→Rep ι S w b (v.2.cells.getD k undef))∧
      ∀ p∈r,∀ b∈p.2,∀ i,Has i b→σ.ob i≠ .free
  | [],r,h=> by simp [qQ] at h;subst h;simp
  | (i,x)::l,r,h=> by
    simp only [qQ] at h
    split at h
    · rename_i c r' hc hr
      obtain rfl:=Option.some.inj h
      obtain ⟨h1,h2,h3⟩:=oX R l r' hr
      obtain ⟨c1,c2,c3⟩:=(R.eval x).cells hc
      refine ⟨by simp [h1],fun j p v hp hv=> ?_,fun p hp b hb k hk=> ?_⟩
      · cases j with
        | zero=>
          simp at hp hv
          subst hp;subst hv
          exact ⟨rfl,c1,c2,c3⟩
        | succ j=> exact h2 j p v (by simpa using hp) (by simpa using hv)
      rcases List.mem_cons.1 hp with rfl | hp
      · exact R.evalHas x (nV hc hb hk)
      exact h3 p hp b hb k hk
    cases h

theorem rC {pl:Nat→Option (Nat×Nat)} {Q:AV→Prop}: ∀ (ps:List (Nat×List AV)) (cs ys:List AV),oU pl cs ps=some ys→(∀ b∈cs,Q b)→(∀ p∈ps,∀ b∈p.2,Q b)→ ∀ b∈ys,Q b
  | [],cs,ys,h,h1,_=> by
    simp only [oU] at h
    obtain rfl:=Option.some.inj h
    exact h1
  | (i,c)::ps,cs,ys,h,h1,h2=> by
    simp only [oU] at h
    split at h
    · cases hc:(Nat.beq c.length _ && Nat.ble _ cs.length) with
      | false=> rw [hc] at h;cases h
      | true=>
        rw [hc] at h
        exact rC ps _ ys h (fun b hb=> by
          rcases qH hb with hb | hb
          · exact h1 b hb
          exact h2 _ List.mem_cons_self b hb) fun p hp=> h2 p (List.mem_cons_of_mem _ hp)
    cases h

theorem gl {dd:Option Tmp} {ty t:TypeId} {pl:Nat→Option (Nat×Nat)} (parts:Array (Nat×Operand)) (B:Bld P t z pl) {r:List (Nat×List AV)} (hp:qQ σ parts.toList=some r) {ys:List AV} (hf:oU pl (z.map AV.v) r=some ys):
    Stp P dd (.build t parts) ty σ (σ.put dd (.agg ys)):=by
  intro o hd ho ht
  subst hd
  refine bB fun K ι S a w R=> ?_
  obtain ⟨h1,h2,h3⟩:=oX R _ _ hp
  obtain ⟨us,u1,u2,u3,u4⟩:=rW pl (R:=Rep ι S w) r (parts.toList.map fun q=> (q.1,a.eval q.2)) (z.map AV.v) z.toArray ys hf (by simp at h1 ⊢;omega) h2 (by simp) (by simpa using B.one) (fun k b hb=> by
    simp only [List.getElem?_map] at hb
    obtain ⟨x,hx,rfl⟩:=Option.map_eq_some_iff.1 hb
    have:z.toArray.getD k undef=x:=by simp [hx]
    rw [this];exact .v)
  refine ⟨.agg us,?_, .agg u2 u3 u4,fun i hi=> ?_⟩
  · have:=B.out (parts.map fun q=> (q.1,a.eval q.2)) us w (by simpa using u1)
    have he:(parts.map fun x=> match x with | (i,x)=> (i,a.eval x))=parts.map fun q=> (q.1,a.eval q.2):=rfl
    simp only [execOp,ho,he,Sem.run_bind,this,Result.andThen_ok,Sem.run_pure]
  cases hi with
  | agg hm hi=>
    refine rC (Q:=fun b=> ∀ i,Has i b→σ.ob i≠ .free) r _ ys hf (fun b hb i hi=> ?_) h3 _ hm i hi
    simp only [List.mem_map] at hb
    obtain ⟨x,_,rfl⟩:=hb
    cases hi

theorem eA {dd:Option Tmp} {ty:TypeId} {av:AV} (x:Operand) {j:Nat} {xs:List AV} (hx:σ.eval x= .tup xs) (hv:xs[j]? =some av):Stp P dd (.extract x j) ty σ (σ.put dd av):=by
  intro o hd ho ht
  subst hd
  refine bB fun K ι S a w R=> ?_
  have hp:=R.eval x
  rw [hx] at hp
  generalize hve:a.eval x=v at hp
  cases hp with
  | tup h1 h3=>
    rename_i us
    have hlt:j < us.size:=by rw [h1];exact (List.getElem?_eq_some_iff.1 hv).1
    refine ⟨us[j],by simp [execOp,ho,Instr.extract,hve,hlt],by have:=h3 j av hv;simpa [hlt] using this,fun i h=> R.evalHas x (by rw [hx];exact .tup (List.mem_of_getElem? hv) h)⟩
end

theorem Spec.mono {P:Program} {f:FuncId} {σ σ' σ'':St} (h:Spec P f σ σ') (hl:Le σ'' σ'):Spec P f σ σ'':=by
  intro K ι S vs w hK hr R
  refine (h K ι S vs w hK hr R).mono ?_
  rintro e w' ⟨v,ι',S',rfl,R'⟩
  obtain ⟨ι2,S2,R2⟩:=hl K ι' S' _ w' R'
  exact ⟨v,ι2,S2,rfl,R2⟩
theorem Spec.pre {P:Program} {f:FuncId} {σ σ' σ'':St} (h:Spec P f σ σ') (hl:Le σ σ''):Spec P f σ'' σ':=by
  intro K ι S vs w hK hr R
  obtain ⟨ι2,S2,R2⟩:=hl K ι S _ w R
  exact h K ι2 S2 vs w hK hr R2

theorem dI {ρ:az→az} {σ:St} {F:az→Bool} {id:az} {e:TypeId} {sz n:Nat} {xs ys:List PV} (hid:σ.ob id= .obj (.row e sz xs)) (hF:F id=true) (hl:n*sz=xs.length) (hy:xs=ys):Lv ρ σ F (.sl n ys) (.ref id 0 n):=
  .frz hid hF (by rw [List.drop_zero,hl,List.take_length,hy]) ab

theorem Le.outO {r r':AV} {obs obs':List (az×Cells)} {I Pn:List az} (rn:List (az×az)) (Fz:List az) (hr:Lv (aU rn) (aO r obs' I Pn) (fun i=> cr i Fz) r' r) (hw1:r'.within (obs.map (·.1))=true) (hw2:be (obs.map (·.1)) obs=true)
    (hd:bh ((obs.map (·.1)).map (aU rn))=true) (hi:fK (aO r obs' I Pn) Fz) (ho:mv (aU rn) (aO r obs' I Pn) (fun i=> cr i Fz) obs):Le (aA r' obs) (aO r obs' I Pn):=by
  refine Le.gen (n:=1) rn Fz rfl (fun t=> ?_) (fun t id h=> ?_) hw2 hd hi ho
  · show Lv _ _ _ _ (bif Nat.beq t 0 then r else .dead)
    cases hb:Nat.beq t 0 with
    | true=> exact hr
    | false=> exact .dead
  cases hb:Nat.beq t 0 with
  | true=> rw [hb] at h;exact fb r' hw1 h
  | false=> rw [hb] at h;cases h
section
variable {P:Program} {σ:St} {o:Oper} {z:List Value} {T e:TypeId} {size bytes:Nat}

theorem gK {dd:Option Tmp} {ty:TypeId} (len:Nat) (parts:Array (Nat×Operand)) (E:Elem P T e size bytes z) {r:List (List AV)} (hp:oF σ 0 parts.toList=some r) (hlen:r.length=len) (hsz: ∀ c∈r,c.length=size)
    (hb:len*size≤100000) {xs:List PV} (hxs:lc r.flatten=some xs):Stp P dd (.buildSlice T len parts) ty σ (σ.put dd (.sl len xs)):=by
  intro o hd ho ht
  subst hd
  intro K ι S a w R
  obtain ⟨vs,h1,h2,h3,h4,h5,h6⟩:=lF R _ _ _ hp
  obtain ⟨d1,d2⟩:=gC hxs
  have hvsz: ∀ v∈vs,v.cells.size=size:=by
    intro v hv
    obtain ⟨j,hj,rfl⟩:=List.getElem_of_mem hv
    have hjr:j < r.length:=by omega
    rw [h3 j _ _ (List.getElem?_eq_getElem hj) (List.getElem?_eq_getElem hjr)]
    exact hsz _ (List.getElem_mem hjr)
  obtain ⟨v',w',hr,H',hbl,hfr,_⟩:=CS (P:=P) (ρ:=a.eval) (SH.start w) len parts ho vs h1 ab hvsz _ rfl h5 hb
  have hrow:=H'.get (i:=0) (x:= .row v' e size len (vs.flatMap fun v=> v.cells.toList)) rfl
  have hxl:xs.length=len*size:=by
    have: ∀ (r:List (List AV)),(∀ c∈r,c.length=size)→r.flatten.length=r.length*size:=by
      intro r
      induction r with
      | nil=> simp
      | cons c r ih=>
        intro h
        rw [List.flatten_cons,List.length_append,ih fun c hc=> h c (List.mem_cons_of_mem _ hc),h c List.mem_cons_self,List.length_cons,Nat.add_mul,Nat.one_mul,Nat.add_comm]
    rw [← d1,this r hsz,hlen]
  have fin: ∀ (S':Nat→Prop),(∀ g,S g→S' g)→(∀ g,S' g→S g∨w.heap.size≤g)→(∀ g,S' g→g < w'.heap.size)→Rd S' w' (.sl len xs) v'→eS P o a.eval w fun v w''=> ∃ ι' S',RelI K ι' S' (σ.put o.dst (.sl len xs)) (a.put o.dst v) w'':=by
    intro S' g1 g2 g3 hrd
    have R3:=R.gen (ι':=ι) (S':=S') (w':=w') (ob':=σ.ob) (inc':=σ.inc) (fun _=> False) (.of_below hbl) (fun _ _=> rfl) (fun _ _=> rfl) (fun _ _=> rfl) (fun _ h=> h) g1
      (fun g h=> by rcases g2 g h with h | h; · exact .inl h
                    exact .inr (.inl h)) g3
      (fun _ _ h=> h.elim) (fun _ _ h=> h.elim) (fun _ _ h=> h.elim) (fun _ _ _ _ _ h=> h.elim) (fun _ _ _ h=> h.elim) (fun _ _ _ h=> h.elim)
    exact bH hr ⟨ι,S',R3.put o.dst (.sl hrd) fun i hi=> nU hi⟩
  rcases gy (w:=w') (e:=e) (sz:=size) (n:=len) (v:=v') (us:=vs.flatMap fun v=> v.cells.toList) ⟨hrow.1.1,by
    rcases hrow.1.2 with h | ⟨g,cap,cur,a1,a2,a3⟩
    · exact .inl h
    exact .inr ⟨g,cap,cur,a1,Nat.zero_le _,a3⟩⟩ with ⟨hv,rfl,hu0⟩ | ⟨g,c,cur,hv,hg,hnc,hcm,hcs,hcu⟩
  · subst hv
    have:xs=[]:=List.eq_nil_of_length_eq_zero (by simpa using hxl)
    subst this
    exact fin S (fun _ h=> h) (fun _ h=> .inl h) (fun g h=> Nat.lt_of_lt_of_le (R.Slt g h) hbl.size) (.sl0 (Nat.le_refl _) (by unfold maxLen;omega) fun _=> ⟨rfl,rfl⟩)
  subst hv
  have hgw:w.heap.size≤g:=hfr g rfl
  refine fin (fun k=> S k∨k=g) (fun _ h=> .inl h) (fun k h=> by
    rcases h with h | h
    · exact .inl h
    exact .inr (by rw [h];exact hgw)) (fun k h=> ?_) ?_
  · rcases h with h | h
    · exact Nat.lt_of_lt_of_le (R.Slt k h) hbl.size
    rw [h];exact (Array.getElem?_eq_some_iff.1 hg).1
  have key: ∀ (j:Nat) (p:PV),xs[j]? =some p→ ∃ u,cur[j]? =some u∧Rd (fun k=> S k∨k=g) w' p u:=by
    intro j p hj
    obtain ⟨b,hb',hbd⟩:=d2 j p hj
    obtain ⟨u,hu,hru⟩:=h6 j b hb'
    exact ⟨u,hcu j u hu,(hru.down hbd (h5 u (List.mem_of_getElem? hu))).next (fun k hk=> hbl.block k (R.Slt k hk)) fun _ h=> .inl h⟩
  have:=Rd.sl (S:=fun k=> S k∨k=g) (w:=w') (n:=len) (c:=c) (b:=g) (o:=0) (xs:=xs) (fun j=> cur.getD j undef) hnc hcm (.mk (.inr rfl) hg) (fun j p hj=> ?_) (fun j p hj=> ?_)
  · exact this
  · obtain ⟨u,hu,_⟩:=key j p hj
    simp only [Nat.zero_add,Array.getD_eq_getD_getElem?,hu,Option.getD_some]
    exact ef hg hu
  obtain ⟨u,hu,hru⟩:=key j p hj
  simp only [Array.getD_eq_getD_getElem?,hu,Option.getD_some]
  exact hru
end
section
variable {P:Program} {σ:St} {z:List Value} {T e:TypeId} {size bytes:Nat}

theorem gN (w:World):Below w.heap.size w w:=Below.refl _ _

theorem pJ {dd:Option Tmp} {ty:TypeId} (id:az) (x:Operand) (e:TypeId) (sz:Nat) (hx:σ.eval x= .v (.slice none 0 0)) (hid:σ.ob id= .free):Stp P dd (.assign x) ty σ ((σ.setOb id (.obj (.row e sz []))).put dd (.ref id 0 0)):=by
  intro o hd ho ht
  subst hd
  intro K ι S a w R
  have hv:=R.eval x
  rw [hx] at hv
  have hv:=hv.toV
  exact bH (by simp [execOp,ho,hv]) (R.newNil hid (gN w) e sz _)
end

mutual
theorem Lv.same {σ:St} {F:az→Bool}:(a:AV)→Lv (fun i=> i) σ F a a
  | .dead=> .dead
  | .v _=> .v
  | .sl _ _=> .sl
  | .fp _ _=> .fp
  | .z=> .z
  | .mp _=> .mp (ρ:=fun i=> i)
  | .ref _ _ _=> .ref (ρ:=fun i=> i)
  | .ptr _ _=> .ptr (ρ:=fun i=> i)
  | .agg xs=> .agg rfl fun j a b ha hb=> by
      rw [ha] at hb;cases hb;exact Lv.sames xs j a ha
  | .fn f xs us=> .fn rfl (fun j a b ha hb=> by
      rw [ha] at hb;cases hb;exact Lv.sames xs j a ha) rfl fun j a b ha hb=> by
      rw [ha] at hb;cases hb;exact Lv.sames us j a ha
  | .ifc t a=> .ifc (Lv.same a)
  | .tup xs=> .tup rfl fun j a b ha hb=> by
      rw [ha] at hb;cases hb;exact Lv.sames xs j a ha
theorem Lv.sames {σ:St} {F:az→Bool}:(xs:List AV)→(j:Nat)→(a:AV)→xs[j]? =some a→Lv (fun i=> i) σ F a a
  | [],_,_,h=> by simp at h
  | x::xs,0,a,h=> by simp at h;subst h;exact Lv.same x
  | x::xs,j+1,a,h=> Lv.sames xs j a (by simpa using h)
end
theorem LvO.same {σ:St} {F:az→Bool}:(o:Cells)→LvO (fun i=> i) σ F o o
  | .row _ _ xs=> .row (List.append_nil xs).symm
  | .box _ xs=> .box rfl fun j a b ha hb=> by
      rw [ha] at hb;cases hb;exact Lv.sames xs j a ha
  | .rowA _ _ xs=> .rowA rfl fun j a b ha hb=> by
      rw [ha] at hb;cases hb;exact Lv.sames xs j a ha
  | .mp _ _=> .mp
  | .it _ _ _ _=> .it (ρ:=fun i=> i)

theorem Le.frzS {σ:St} (t:Nat) {id:az} {off n:Nat} {e:TypeId} {sz:Nat} {xs ys:List PV} (hr:σ.fr t= .ref id off n) (hid:σ.ob id= .obj (.row e sz xs)) (hi:σ.inc id=false) (hy:(xs.drop off).take (n*sz)=ys) (hl:off+n*sz≤xs.length):
    Le ((σ.setOb id .gone).put (some t) (.sl n ys)) σ:=by
  intro K ι S a w R
  have hob: ∀ i o,((σ.setOb id .gone).put (some t) (.sl n ys)).ob i= .obj o→gq i id=false∧σ.ob i= .obj o:=by
    intro i o h
    rw [St.put_ob] at h
    simp only [St.setOb] at h
    cases hb:gq i id with
    | true=> rw [hb] at h;cases h
    | false=> rw [hb] at h;exact ⟨rfl,h⟩
  have hnf: ∀ i,σ.ob i≠ .free→((σ.setOb id .gone).put (some t) (.sl n ys)).ob i≠ .free:=by
    intro i h h'
    rw [St.put_ob] at h'
    simp only [St.setOb] at h'
    cases hb:gq i id with
    | true=> rw [hb] at h';cases h'
    | false=> rw [hb] at h';exact h h'
  refine Le.of (fun i=> i) (fun i=> gq i id) (by rw [St.put_n];rfl) (fun u hu=> ?_) (fun i o h=> ?_) (fun _ _ _ _ _ _ h=> h) (fun i h=> ?_) (fun i o h h'=> ?_) (fun u i h=> ?_) (fun i o j h h'=> ?_) (fun i h o hp ho=> ?_) (fun i h=> ?_) K ι S a w R
  · show Lv _ _ _ (bif Nat.beq u t then _ else σ.fr u) _
    cases hb:Nat.beq u t with
    | true=> rw [Nat.eq_of_beq_eq_true hb,hr];exact .frz hid (dO id) hy hl
    | false=> exact Lv.same _
  · obtain ⟨h1,h2⟩:=hob i o h
    exact ⟨h1,o,h2,LvO.same o⟩
  · rw [oeq_iff.1 h];exact hi
  · exact h'
  · replace h:Has i (bif Nat.beq u t then _ else σ.fr u):=h
    cases hb:Nat.beq u t with
    | true=> rw [hb] at h;cases h
    | false=> rw [hb] at h;exact hnf i (R.cl u i h)
  · exact hnf j (R.clo i o j (hob i o h).2 h')
  · exact hp
  refine R.pf i ?_
  rw [St.put_ob] at h
  simp only [St.setOb] at h
  cases hb:gq i id with
  | true=> rw [hb] at h;cases h
  | false=> rw [hb] at h;exact h
theorem Le.frzB {σ:St} (ib:az) (j:Nat) {T:TypeId} {cs:List AV} {id:az} {off n:Nat} {e:TypeId} {sz:Nat} {xs ys:List PV} (hb:σ.ob ib= .obj (.box T cs)) (hr:cs[j]? =some (.ref id off n)) (hid:σ.ob id= .obj (.row e sz xs)) (hi:σ.inc id=false) (hy:(xs.drop off).take (n*sz)=ys) (hl:off+n*sz≤xs.length):
    Le ((σ.setOb id .gone).setOb ib (.obj (.box T (cs.set j (.sl n ys))))) σ:=by
  intro K ι S a w R
  have hne:gq ib id=false:=by
    cases h:gq ib id with
    | true=> rw [oeq_iff.1 h,hid] at hb;cases hb
    | false=> rfl
  have hob: ∀ i o,((σ.setOb id .gone).setOb ib (.obj (.box T (cs.set j (.sl n ys))))).ob i= .obj o→gq i id=false∧((gq i ib=false∧σ.ob i= .obj o)∨(i=ib∧o= .box T (cs.set j (.sl n ys)))):=by
    intro i o h
    simp only [St.setOb] at h
    cases h1:gq i ib with
    | true=>
      rw [h1] at h
      have:=oeq_iff.1 h1
      subst this
      cases h
      exact ⟨hne, .inr ⟨rfl,rfl⟩⟩
    | false=>
      rw [h1] at h
      cases h2:gq i id with
      | true=> rw [h2] at h;cases h
      | false=> rw [h2] at h;exact ⟨rfl, .inl ⟨rfl,h⟩⟩
  have hnf: ∀ i,σ.ob i≠ .free→((σ.setOb id .gone).setOb ib (.obj (.box T (cs.set j (.sl n ys))))).ob i≠ .free:=by
    intro i h h'
    simp only [St.setOb] at h'
    cases h1:gq i ib with
    | true=> rw [h1] at h';cases h'
    | false=>
      rw [h1] at h'
      cases h2:gq i id with
      | true=> rw [h2] at h';cases h'
      | false=> rw [h2] at h';exact h h'
  refine Le.of (σ1:=(σ.setOb id .gone).setOb ib (.obj (.box T (cs.set j (.sl n ys))))) (σ2:=σ) (fun i=> i) (fun i=> gq i id) rfl (fun u hu=> Lv.same _) (fun i o h=> ?_) (fun _ _ _ _ _ _ h=> h) (fun i h=> ?_) (fun i o h h'=> h') (fun u i h=> hnf i (R.cl u i h)) (fun i o k h h'=> ?_) (fun i h o hp ho=> hp) (fun i h=> ?_) K ι S a w R
  · obtain ⟨h1,⟨_,h2⟩ | ⟨rfl,rfl⟩⟩:=hob i o h
    · exact ⟨h1,o,h2,LvO.same o⟩
    refine ⟨h1,_,hb, .box (by simp) fun k a b ha hb'=> ?_⟩
    by_cases hk:j=k
    · subst hk
      rw [hr] at hb';cases hb'
      have hjl:j < cs.length:=(List.getElem?_eq_some_iff.1 hr).1
      rw [List.getElem?_set_self hjl] at ha;cases ha
      exact .frz hid (dO id) hy hl
    rw [List.getElem?_set_ne hk,hb'] at ha;cases ha;exact Lv.same _
  · rw [oeq_iff.1 h];exact hi
  · obtain ⟨h1,⟨_,h2⟩ | ⟨rfl,rfl⟩⟩:=hob i o h
    · exact hnf k (R.clo i o k h2 h')
    obtain ⟨x,hx,hk⟩:=h'
    rcases List.mem_or_eq_of_mem_set hx with hx | hx
    · exact hnf k (R.clo _ _ k hb ⟨x,hx,hk⟩)
    subst hx;cases hk
  refine R.pf i ?_
  simp only [St.setOb] at h
  cases h1:gq i ib with
  | true=> rw [h1] at h;cases h
  | false=>
    rw [h1] at h
    cases h2:gq i id with
    | true=> rw [h2] at h;cases h
    | false=> rw [h2] at h;exact h
theorem Rep.toAgg {ι:az→Option eC} {S:Nat→Prop} {w:World} {us:List Value} {u:Value} (h:Rep ι S w (.agg (us.map AV.v)) u):u= .agg us.toArray:=by
  cases h with
  | @agg xs vs h1 h2 h3=>
    congr 1
    refine Array.ext (by simpa using h1) fun j hj hj'=> ?_
    have hjl:j < us.length:=by simpa using hj'
    have:=h3 j (.v us[j]) (by simp [hjl])
    have:=this.toV
    rw [Array.getD_eq_getD_getElem?,Array.getElem?_eq_getElem hj] at this
    simpa using this
theorem tI {P:Program} {σ:St} {dd:Option Tmp} {ty:TypeId} {op:BinOp} {t t':TypeId} {x y:Operand} (us vs:List Value) (hx:σ.eval x= .agg (us.map AV.v)) (hy:σ.eval y= .agg (vs.map AV.v)) {r:Value}
    (h: ∀ (o:Oper) (ρ:Operand→Value) w,o.op= .binOp op t x y t'→ρ x= .agg us.toArray→ρ y= .agg vs.toArray→(execOp ρ o).run P w= .ok (.value r) w):Stp P dd (.binOp op t x y t') ty σ (σ.put dd (.v r)):=by
  intro o hd ho ht
  subst hd
  exact bB fun _ _ _ a w R=> ⟨r,h o a.eval w ho (Rep.toAgg (hx ▸ R.eval x)) (Rep.toAgg (hy ▸ R.eval y)), .v,fun _=> eH⟩

theorem Le.nilB {σ:St} (ib:az) (j:Nat) (id:az) (e:TypeId) (sz:Nat) {T:TypeId} {cs:List AV} (hb:σ.ob ib= .obj (.box T cs)) (hr:cs[j]? =some (.v (.slice none 0 0))) (hid:σ.ob id= .free):
    Le ((σ.setOb id (.obj (.row e sz []))).setOb ib (.obj (.box T (cs.set j (.ref id 0 0))))) σ:=by
  intro K ι S a w R
  have R1:=R.new (w':=w) (o:= .row e sz []) (B:=⟨none,0,sz⟩) hid (gN w) (fun k hk=> by cases hk) ⟨_,cd _ _ _,rfl, .inl ⟨rfl,rfl,rfl⟩⟩ (fun i hi=> hi.elim)
  have hne:ib≠id:=fun h=> by rw [h,hid] at hb;cases hb
  have hb1:(σ.setOb id (.obj (.row e sz []))).ob ib= .obj (.box T cs):=by rw [St.setOb_ne _ _ hne];exact hb
  obtain ⟨B,g,h1,h2,h3,h4⟩:=R1.ob ib _ hb1
  refine ⟨_,S,R1.upd hb1 h1 (.of_below (gN w)) ⟨B,g,h1,h2,by simpa using h3,?_⟩ ?_⟩
  · rw [List.length_set]
    refine h4.next (fun _ _=> rfl) fun k u hu x hx=> ?_
    by_cases hk:j=k
    · subst hk
      have:=(hu _ hr).toV
      subst this
      rw [List.getElem?_set_self (List.getElem?_eq_some_iff.1 hr).1] at hx
      cases hx
      refine .ref (fun B' hB=> ?_) rfl
      rw [cd] at hB
      obtain rfl:=Option.some.inj hB
      exact ⟨0,Nat.le_refl _,by unfold maxLen;omega,rfl,rfl,rfl⟩
    rw [List.getElem?_set_ne hk] at hx
    exact hu x hx
  rintro i ⟨x,hx,hi⟩
  rcases List.mem_or_eq_of_mem_set hx with hx | hx
  · exact R1.clo ib _ i hb1 ⟨x,hx,hi⟩
  subst hx;cases hi;rw [St.setOb_same];intro h;cases h
theorem Le.nilS {σ:St} (t:Nat) (id:az) (e:TypeId) (sz:Nat) (ht:σ.fr t= .v (.slice none 0 0)) (hid:σ.ob id= .free):Le ((σ.setOb id (.obj (.row e sz []))).put (some t) (.ref id 0 0)) σ:=by
  intro K ι S a w R
  have R1:=R.new (w':=w) (o:= .row e sz []) (B:=⟨none,0,sz⟩) hid (gN w) (fun k hk=> by cases hk) ⟨_,cd _ _ _,rfl, .inl ⟨rfl,rfl,rfl⟩⟩ (fun i hi=> hi.elim)
  refine ⟨_,S,⟨R1.keeps,R1.S0,R1.Slt,R1.nt,R1.df,fun u hu=> ?_,fun u i hi=> ?_,R1.clo,R1.ob,R1.dom,R1.inj,R1.sep,R1.pin,R1.pf⟩⟩
  · show Rep _ _ _ (bif Nat.beq u t then _ else σ.fr u) _
    cases hb:Nat.beq u t with
    | true=>
      have:=Nat.eq_of_beq_eq_true hb
      subst this
      have h0:=R1.fr u hu
      rw [show (σ.setOb id (.obj (.row e sz []))).fr u= .v (.slice none 0 0) from ht] at h0
      rw [h0.toV]
      refine .ref (fun B' hB=> ?_) rfl
      rw [cd] at hB
      obtain rfl:=Option.some.inj hB
      exact ⟨0,Nat.le_refl _,by unfold maxLen;omega,rfl,rfl,rfl⟩
    | false=> exact R1.fr u hu
  replace hi:Has i (bif Nat.beq u t then _ else σ.fr u):=hi
  cases hb:Nat.beq u t with
  | true=> rw [hb] at hi;cases hi;show (σ.setOb id _).ob id≠_;rw [St.setOb_same];intro h;cases h
  | false=> rw [hb] at hi;exact R1.cl u i hi
theorem Le.nil0 {σ:St} (ib:az) (j:Nat) {T:TypeId} {cs:List AV} (hb:σ.ob ib= .obj (.box T cs)) (hr:cs[j]? =some (.v (.slice none 0 0))):Le (σ.setOb ib (.obj (.box T (cs.set j (.sl 0 []))))) σ:=by
  intro K ι S a w R
  obtain ⟨B,g,h1,h2,h3,h4⟩:=R.ob ib _ hb
  refine ⟨ι,S,R.upd hb h1 (.of_below (gN w)) ⟨B,g,h1,h2,by simpa using h3,?_⟩ ?_⟩
  · rw [List.length_set]
    refine h4.next (fun _ _=> rfl) fun k u hu x hx=> ?_
    by_cases hk:j=k
    · subst hk
      have:=(hu _ hr).toV
      subst this
      rw [List.getElem?_set_self (List.getElem?_eq_some_iff.1 hr).1] at hx
      cases hx
      exact .sl (.sl0 (Nat.le_refl _) (by unfold maxLen;omega) fun _=> ⟨rfl,rfl⟩)
    rw [List.getElem?_set_ne hk] at hx
    exact hu x hx
  rintro i ⟨x,hx,hi⟩
  rcases List.mem_or_eq_of_mem_set hx with hx | hx
  · exact R.clo ib _ i hb ⟨x,hx,hi⟩
  subst hx;cases hi
section
variable {P:Program} {σ:St} {dd:Option Tmp} {ty:TypeId} {t t':TypeId} {k k':IntKind} {a b:Int}

theorem py {op:BinOp} {x y:Operand} {u v:Value} (hx:σ.eval x= .v u) (hy:σ.eval y= .v v) {r:Value} (h: ∀ (o:Oper) (ρ:Operand→Value) w,o.op= .binOp op t x y t'→ρ x=u→ρ y=v→(execOp ρ o).run P w= .ok (.value r) w):Stp P dd (.binOp op t x y t') ty σ (σ.put dd (.v r)):=by
  intro o hd ho ht
  subst hd
  exact fG ho hx hy fun ρ w h1 h2=> h o ρ w ho h1 h2
theorem DF {op:Op} {x:Operand} {u:Value} (hx:σ.eval x= .v u) {r:Value} (h: ∀ (o:Oper) (ρ:Operand→Value) w,o.op=op→ρ x=u→(execOp ρ o).run P w= .ok (.value r) w):Stp P dd op ty σ (σ.put dd (.v r)):=by
  intro o hd ho ht
  subst hd
  exact bB fun _ _ _ a w R=> ⟨r,h o a.eval w ho (Rep.evV R hx), .v,fun _=> eH⟩

theorem tu (x:Operand) (hs:P.underlying t=some (.int k)) (ht:P.underlying t'=some (.int k')) (hx:σ.eval x= .v (.int k a)) {r:Int} (hr:k'.wrap a=r):Stp P dd (.convert t t' x) ty σ (σ.put dd (.v (.int k' r))):=
  DF hx fun o ρ w ho hx=> by subst hr;simp [execOp,ho,hx,go_sem,hs,ht,run_underlying hs,run_underlying ht]
theorem HJ (x y:Operand) (hx:σ.eval x= .v (.int k a)) (hy:σ.eval y= .v (.int k' b)) (hb:0≤b) {r:Int} (hr:a.fdiv (2 ^ min b.toNat k.bits)=r):Stp P dd (.binOp .shr t x y t') ty σ (σ.put dd (.v (.int k r))):=
  py hx hy fun o ρ w ho hx hy=> by subst hr;simp [execOp,ho,hx,hy,eqGuard,go_sem,Op.shift,Int.not_lt.2 hb]
theorem HY {p q:Bool} (x y:Operand) (hx:σ.eval x= .v (.bool p)) (hy:σ.eval y= .v (.bool q)) (ht:P.underlying t=some .bool) {r:Bool} (hr:(p !=q)=r):Stp P dd (.binOp .neq t x y t') ty σ (σ.put dd (.v (.bool r))):=
  py hx hy fun o ρ w ho hx hy=> by subst hr;simp [execOp,ho,hx,hy,eqGuard,go_sem,run_equal_bool,ht];cases p <;> cases q <;> rfl
theorem qu (x y:Operand) (hx:σ.eval x= .v (.int .i64 a)) (hy:σ.eval y= .v (.int .i64 b)) {r:Int} (hr:min a b=r):Stp P dd (.call { callee:= .builtin .min,args:= #[x,y],argTypes:= #[t,t'] }) ty σ (σ.put dd (.v (.int .i64 r))):=by
  intro o hd ho ht
  subst hd
  refine bB fun _ _ _ A w R=> ⟨_,?_, .v,fun _=> eH⟩
  have h1:=Rep.evV R hx
  have h2:=Rep.evV R hy
  generalize A.eval=ρ at h1 h2
  subst hr
  have hm:min a b=if b < a then b else a:=by omega
  simp [execOp,ho,resolve,invoke,builtin,h1,h2,go_sem,Builtin.min_,Builtin.min2,hm]
theorem Mv {n:Int} (h:0≤n∧n < 18446744073709551616):IntKind.u64.wrap n=n:=by
  show IntKind.wrap .u64 n=n
  simp only [IntKind.wrap,IntKind.bits,IntKind.signed,Bool.false_and,Bool.false_eq_true,if_false]
  omega
end

theorem Sl.rd {w:World} {sz n:Nat} {v:Value} {xs:List Value} (h:Sl w sz v n xs):Rd (fun g=> g < w.heap.size) w (.sl n (xs.map PV.v)) v:=by
  obtain ⟨ao,c,rfl,h1,h2,h3,h4,h5,h6,h7⟩:=h
  cases xs with
  | nil=> exact .sl0 h1 h2 h5
  | cons x xs=>
    have hn:0 < n:=by
      rcases Nat.eq_zero_or_pos n with h | h
      · subst h;simp at h3
      exact h
    obtain ⟨b,off,rfl⟩:=h6 hn
    refine .sl (fun j=> (x::xs).getD j undef) h1 h2 ?_ (fun j p hj=> ?_) (fun j p hj=> ?_)
    · have:=h7 _ rfl 0 x rfl
      refine ⟨World.block_lt_of_cell? w _ this,?_⟩
      simp only [World.cell?,Addr.add_lit] at this
      split at this
      · rename_i c e f hc
        exact ⟨c,e,f,hc⟩
      cases this
    · have hj':j < (x::xs).length:=by
        have:=(List.getElem?_eq_some_iff.1 hj).1
        simpa using this
      have:=h7 _ rfl j _ (List.getElem?_eq_getElem hj')
      simp only [List.getD_eq_getElem?_getD,List.getElem?_eq_getElem hj',Option.getD_some]
      by_cases hj0:j=0
      · subst hj0;simpa [Addr.add] using this
      simpa [Addr.add,hj0] using this
    have hj':j < (x::xs).length:=by
      have:=(List.getElem?_eq_some_iff.1 hj).1
      simpa using this
    rw [List.getElem?_map,List.getElem?_eq_getElem hj'] at hj
    cases hj
    simp only [List.getD_eq_getElem?_getD,List.getElem?_eq_getElem hj',Option.getD_some]
    exact .v (h4 _ (List.getElem_mem hj'))

theorem Spec.law {P:Program} {f:FuncId} {args:List AV} {r:Value} {vs:List Value} {w:World} (sp:Spec P f (aI args []) (aA (.v r) [])) (hp:AV.pures args=true) (hl:vs.length=args.length)
    (h: ∀ (j:Nat) (a:AV) (v:Value),args[j]? =some a→vs[j]? =some v→Rep (fun _=> none) (fun g=> g < w.heap.size) w a v):Calls P f vs.toArray w fun e w'=> e= .returned r∧Below w.heap.size w w':=by
  have hnh: ∀ t id,¬ Has id (args.getD t .dead):=by
    intro t id hh
    by_cases ht:t < args.length
    · have:args.getD t .dead=args[t]:=by simp [ht]
      rw [this] at hh
      exact gz _ hp _ (List.getElem_mem ht) hh
    have:args.getD t .dead= .dead:=by simp [show args.length≤t by omega]
    rw [this] at hh;cases hh
  have R:RelI ⟨w,fun _=> False,fun g=> g < w.heap.size,fun _=> none,none⟩ (fun _=> none) (fun g=> g < w.heap.size) (aI args []) ⟨vs.toArray,[]⟩ w:=by
    have hfree: ∀ i o,(aI args []).ob i≠ .obj o:=fun i o h=> by cases h
    refine { keeps:= .refl _ _,S0:=fun g h=> .inl h,Slt:=fun g h=> h,nt:=by simpa [aI] using hl,df:= .nil,fr:=fun t ht=> ?_,cl:=fun t id hh=> (hnh t id hh).elim,clo:=fun i o j ho=> (hfree i o ho).elim,ob:=fun i o ho=> (hfree i o ho).elim,dom:=fun i B hB=> (by cases hB),inj:=fun i j B B' g hB=> (by cases hB),sep:=fun i B g hB=> (by cases hB),pin:=fun i hh o hp=> (by cases hp),pf:=fun _ _=> rfl }
    replace ht:t < args.length:=ht
    have ht':t < vs.length:=by omega
    have:=h t args[t] vs[t] (List.getElem?_eq_getElem ht) (List.getElem?_eq_getElem ht')
    show Rep _ _ _ (args.getD t .dead) _
    simpa [ht,ht'] using this
  refine (sp _ _ _ _ w rfl rfl R).mono ?_
  rintro e w' ⟨v,ι',S',rfl,R'⟩
  have h0:Rep ι' S' w' (.v r) v:=R'.fr 0 (by show 0 < 1;omega)
  rw [h0.toV]
  refine ⟨rfl,R'.keeps.os,R'.keeps.tape,R'.keeps.output,R'.keeps.size,fun g hg=> R'.keeps.block g hg fun h=> h⟩
def ArgsRep (w:World):List AV→List Value→Prop
  | [],[]=> True
  | a::xs,v::vs=> Rep (fun _=> none) (fun g=> g < w.heap.size) w a v∧ArgsRep w xs vs
  | _,_=> False
theorem ArgsRep.len {w:World}: ∀ {xs:List AV} {vs:List Value},ArgsRep w xs vs→vs.length=xs.length
  | [],[],_=> rfl
  | _::_,_::_,h=> by simp [h.2.len]
  | [],_::_,h=> h.elim
  | _::_,[],h=> h.elim
theorem ArgsRep.at {w:World}: ∀ {xs:List AV} {vs:List Value},ArgsRep w xs vs→ ∀ (j:Nat) (a:AV) (v:Value),xs[j]? =some a→vs[j]? =some v→Rep (fun _=> none) (fun g=> g < w.heap.size) w a v
  | [],_,_,_,_,_,ha,_=> by simp at ha
  | _::_,[],h,_,_,_,_,_=> h.elim
  | _::_,_::_,h,0,_,_,ha,hv=> by simp at ha hv;subst ha;subst hv;exact h.1
  | _::_,_::_,h,j+1,a,v,ha,hv=> h.2.at j a v (by simpa using ha) (by simpa using hv)
theorem Spec.calls {P:Program} {f:FuncId} {args:List AV} {r:Value} {w:World} (sp:Spec P f (aI args []) (aA (.v r) [])) (hp:AV.pures args=true) {vs:List Value} (h:ArgsRep w args vs):Calls P f vs.toArray w fun e w'=> e= .returned r∧Below w.heap.size w w':=
  sp.law hp h.len h.at
end Go.Proofs.YtmjnackchaahbaaGreat

namespace Go.Proofs.YtmjnackchaahbaaGreat
open Go.RowKit Go.ChangeShapes Go.WideShapes

theorem Hs {n:Int} (h:(Lit.int .i64 n).wf=true): -9223372036854775808≤n∧n≤9223372036854775807:=by
  simp [Lit.wf,IntKind.min,IntKind.max,IntKind.signed,IntKind.bits] at h;omega
section
variable {H:Type} {enc:TypeId×Value→H} {P:Program} {w:World} {base:Nat} {spare:Nat→Bool} {held:Bool}

theorem wU {t e:TypeId} {α:Type} (f:α→Value) (d0:α) (g:Lit→Prop) {fuel:Nat} {cs:List Value} {x:DataW H×List MemPlace} (ht:P.underlying t=some (.slice e)) (hc:P.cellsOf e=1)
    (hone: ∀ (n:Nat) (c:List Value) (y:DataW H×List MemPlace),DataW.trod enc P w base spare held n e c=some y→ ∃ z:α,c=[f z]∧(f z).oneCell'=true) {ao:Option Addr} {len cap:Nat} (hcs:cs=[.slice ao len cap])
    (h:DataW.trod enc P w base spare held fuel t cs=some x): ∃ zs:List α,zs.length=len∧Sl w 1 (.slice ao len cap) len (zs.map f):=by
  rcases DataW.trod_slice ht h with ⟨h0,_⟩ | ⟨a,len',cap',elems,rest,n,_,h0,rfl,hb,hl,hm,hlen,hel,hsp,hns⟩
  · rw [hcs] at h0
    simp at h0
    obtain ⟨rfl,rfl,rfl⟩:=h0
    exact ⟨[],rfl,⟨none,0,rfl,Nat.le_refl _,by simp,rfl,by simp,fun _=> ⟨rfl,rfl⟩,fun h=> absurd h ab,by simp⟩⟩
  rw [hcs] at h0
  simp at h0
  obtain ⟨rfl,rfl,rfl⟩:=h0
  have key: ∀ i,i < len→ ∃ z:α,w.cell? (a.add i)=some (f z)∧(f z).oneCell'=true:=by
    intro i hi
    have h1:=hel i hi
    rw [hc,Nat.mul_one,List.getElem?_eq_getElem ab,Option.bind_eq_some_iff] at h1
    obtain ⟨c,h2,h3⟩:=h1
    obtain ⟨z,rfl,h4⟩:=hone _ _ _ h3
    exact ⟨z,cell_of_cells?_one h2,h4⟩
  have pick: ∀ m,m≤len→ ∃ zs:List α,zs.length=m∧ ∀ i z,zs[i]? =some z→w.cell? (a.add i)=some (f z)∧(f z).oneCell'=true:=by
    intro m
    induction m with
    | zero=> exact fun _=> ⟨[],rfl,by simp⟩
    | succ m ih=>
      intro hm
      obtain ⟨zs,h1,h2⟩:=ih ab
      obtain ⟨z,h3⟩:=key m ab
      refine ⟨zs++[z],by simp [h1],fun i y hy=> ?_⟩
      by_cases hi:i < zs.length
      · rw [List.getElem?_append_left hi] at hy;exact h2 i y hy
      have hil:=(List.getElem?_eq_some_iff.1 hy).1
      simp at hil
      have:i=m:=by omega
      subst this
      rw [List.getElem?_append_right ab,show i - zs.length=0 by omega] at hy
      simp at hy
      subst hy
      exact h3
  obtain ⟨zs,h1,h2⟩:=pick len (Nat.le_refl _)
  refine ⟨zs,h1,⟨some a,cap,rfl,hl,hm,by simp [h1],fun u hu=> ?_,by simp,fun hp=> ?_,fun ad had j u hu=> ?_⟩⟩
  · obtain ⟨z,hz,rfl⟩:=List.mem_map.1 hu
    obtain ⟨i,hi⟩:=List.getElem?_of_mem hz
    exact (h2 i z hi).2
  · obtain ⟨z,h3,_⟩:=key 0 hp
    have:=World.cell?_spot h3
    obtain ⟨b,off,s⟩:=a
    simp [Addr.add] at this
    subst this
    exact ⟨b,off,rfl⟩
  obtain rfl:=Option.some.inj had
  rw [List.getElem?_map] at hu
  obtain ⟨z,hz,rfl⟩:=Option.map_eq_some_iff.1 hu
  exact (h2 j z hz).1

theorem Gh {t e:TypeId} {k:IntKind} (ht:P.underlying t=some (.slice e)) (he:P.underlying e=some (.int k)) (hc:P.cellsOf e=1) {ao:Option Addr} {len cap:Nat} {d:DataW H} {p:List MemPlace}
    (h:DataW.Trod enc P w base spare held t (.slice ao len cap) d p): ∃ zs:List { n:Int // (Lit.int k n).wf=true },zs.length=len∧Sl w 1 (.slice ao len cap) len (zs.map fun z=> Value.int k z.1):=by
  obtain ⟨fuel,hf⟩:=h
  refine wU (fun z:{ n:Int // (Lit.int k n).wf=true }=> Value.int k z.1) ⟨0,by cases k <;> rfl⟩ (fun _=> True) ht hc (fun n c y hy=> ?_) rfl hf
  obtain ⟨m,h,_,hw⟩:=DataW.trod_int he hy
  exact ⟨⟨m,hw⟩,h,rfl⟩
end
theorem yC {H:Type} {enc:TypeId×Value→H} {P:Program} {w:World} {base:Nat} {spare:Nat→Bool} {held:Bool} {ts:List TypeId} {ds:List (DataW H)} (hsz:(DataW.weightsEach P ts ds).all (· ≤reachBytes)=true) {j:Nat} {t e:TypeId} {d:DataW H} {p:List MemPlace}
    (htj:ts[j]? =some t) (hd:ds[j]? =some d) (ht:P.underlying t=some (.slice e)) (hb:0 < P.bytesOf e) {ao:Option Addr} {len cap:Nat} (h:DataW.Trod enc P w base spare held t (.slice ao len cap) d p):len≤4611686018427387904:=by
  obtain ⟨fuel,hf⟩:=h
  rcases DataW.trod_slice ht hf with ⟨h0,_⟩ | ⟨a,len',cap',elems,rest,n,_,h0,h1,hb',hl,hm,hlen,hel,hsp,hns⟩
  · replace h0:[Value.slice ao len cap]=[Value.slice none 0 0]:=h0
    simp at h0;omega
  replace h0:[Value.slice ao len cap]=[Value.slice (some a) len' cap']:=h0
  simp at h0
  obtain ⟨rfl,rfl,rfl⟩:=h0
  have e1:d= .slice (elems.map (·.1)) (rest.map (·.1)):=congrArg Prod.fst h1
  subst e1
  have h2:=sized_slice hsz htj hd ht
  rw [List.length_map,List.length_map,hlen] at h2
  have h3:=reachBytes_lt
  have h4:len*1≤(len+rest.length)*P.bytesOf e:=Nat.mul_le_mul ab hb
  omega
theorem sd (ws:List (List Char)):stripLifts liftWords ("cut".toList::ws)=([], "cut".toList::ws):=by kernel_rfl
theorem rQ {P:Program} {ws:List (List Char)} (h:behindMainWord (wordsSigns P.initOrder.toList)= "cut".toList::ws):P.headLifts=[]:=by
  unfold Program.headLifts;rw [h,sd];kernel_rfl
theorem Cu {P:Program} {ws:List (List Char)} (h:behindMainWord (wordsSigns P.initOrder.toList)= "cut".toList::ws):P.make=some .cut:=by
  unfold Program.make;rw [h,rQ h];kernel_rfl
theorem zO {P:Program} {ws:List (List Char)} (h:behindMainWord (wordsSigns P.initOrder.toList)= "cut".toList::ws):P.liftsFinal=false:=by
  unfold Program.liftsFinal;rw [h,rQ h];kernel_rfl
theorem Gw {P:Program} {ws:List (List Char)} (h:behindMainWord (wordsSigns P.initOrder.toList)= "cut".toList::ws) (h1:P.laysLater=false) (h2:P.bearsReflect=false) (h3:P.doorFits []=true):P.mayEnter=true:=by
  unfold Program.mayEnter;rw [h];simp only [sd,h1,h2,h3];kernel_rfl
theorem fP {a b:Bool} (h:a=true) (h2:b=true):(a && b)=true:=by rw [h,h2];rfl
section
variable {P:Program} {T e:TypeId} {size bytes:Nat} {z:List Value}
theorem uT [E:Elem P T e size bytes z] (w:World) (ty:TypeId) (a:Addr) (vx:Value) (m:Nat) (news:List Value) (hsl:Sl w size vx m news) (hb:m*bytes≤140737488355328):
    (m=0∧(Builtin.append_ #[T,T] ty #[.slice (some a) 0 0,vx]).run P w= .ok (.slice (some a) 0 0) w)∨
    (Builtin.append_ #[T,T] ty #[.slice (some a) 0 0,vx]).run P w=(Builtin.append_ #[T,T] ty #[.slice none 0 0,vx]).run P w:=by
  obtain ⟨i,zv,hi,hz,hs,hby,hzc⟩:=E.info
  obtain ⟨ao,c,rfl,hmc,hcm,hln,hone,hnil,hpos,hcells⟩:=hsl
  have hl0: ∀ (b:Addr) w,(loadCellsFrom b 0 0 #[]).run P w= .ok #[] w:=fun b w=> by simp [loadCellsFrom]
  rcases Nat.eq_zero_or_pos m with h0 | h0
  · subst h0
    refine .inl ⟨rfl,?_⟩
    cases ao with
    | none=> simp [Builtin.append_,run_underlying E.und,sizeOf,typeInfo,hi,Builtin.lenOf,Builtin.firstCells,storeCells]
    | some b=> simp [Builtin.append_,run_underlying E.und,sizeOf,typeInfo,hi,Builtin.lenOf,Builtin.firstCells,storeCells,loadCells,hl0]
  refine .inr ?_
  have hne: ¬ m=0:=by omega
  have h48: ¬ (2 ^ 48 < Builtin.nextslicecap m 0*i.bytes):=by
    have:=growslice_fits (need:=m) (old:=0) ab hb
    rw [hby];simp at this ⊢;omega
  have h63: ¬ (9223372036854775807 < (m:Int)):=by
    have:m*1≤m*bytes:=Nat.mul_le_mul_left _ E.bpos
    omega
  simp [Builtin.append_,run_underlying E.und,sizeOf,typeInfo,hi,hz,Builtin.lenOf,Builtin.firstCells,loadCells,hne,h48,h63,hl0]

theorem tL {σ:St} {dd:Option Tmp} {ty:TypeId} (parts:Array (Nat×Operand)) (E:Elem P T e size bytes z) (hp:parts= #[]):Stp P dd (.buildSlice T 0 parts) ty σ (σ.put dd .z):=by
  intro o hd ho ht
  subst hd;subst hp
  intro K ι S a w R
  obtain ⟨i,zv,hi,hz,hs,hby,hzc⟩:=E.info
  have hrun:(execOp a.eval o).run P w= .ok (.value (.slice (some ⟨w.heap.size,0,none⟩) 0 0)) (w.alloc (.cells #[] e)):=by
    simp [execOp,ho,Instr.buildSlice,run_underlying E.und,sizeOf,typeInfo,hi,hs,newRow,Instr.fill]
    congr 2
    exact Array.size_eq_zero_iff.1 (by simp)
  have hbl:Below w.heap.size w (w.alloc (.cells #[] e)):=(Below.refl _ _).alloc (Nat.le_refl _) _
  have R3:=R.gen (ι':=ι) (S':=S) (w':=w.alloc (.cells #[] e)) (ob':=σ.ob) (inc':=σ.inc) (fun _=> False) (.of_below hbl) (fun _ _=> rfl) (fun _ _=> rfl) (fun _ _=> rfl) (fun _ h=> h) (fun _ h=> h) (fun _ h=> .inl h) (fun g h=> Nat.lt_of_lt_of_le (R.Slt g h) hbl.size)
      (fun _ _ h=> h.elim) (fun _ _ h=> h.elim) (fun _ _ h=> h.elim) (fun _ _ _ _ _ h=> h.elim) (fun _ _ _ h=> h.elim) (fun _ _ _ h=> h.elim)
  exact bH hrun ⟨ι,S,R3.put o.dst .z fun i hi=> by cases hi⟩
theorem AP {σ:St} {dd:Option Tmp} {ty:TypeId} (s x:Operand) (E:Elem P T e size bytes z) (hs:σ.eval s= .z) {m:Nat} {news:List PV} (hx:SrcAV σ (σ.eval x) size m news) (hb:m*bytes≤140737488355328):
    Stp P dd (.call { callee:= .builtin .append,args:= #[s,x],argTypes:= #[T,T] }) ty σ (σ.put dd (.sl m news)):=by
  intro o hd ho ht
  subst hd
  intro K ι S a w R
  have hv:=R.eval s
  rw [hs] at hv
  obtain ⟨vs,hsl,hvl,hvr⟩:=hx.src R E.pos
  have stay: ∀ (v':Value),v'=a.eval s→m=0→(execOp a.eval o).run P w= .ok (.value v') w→eS P o a.eval w fun v w''=> ∃ ι' S',RelI K ι' S' (σ.put o.dst (.sl m news)) (a.put o.dst v) w'':=by
    intro v' hv' h0 hr
    have hn0:news=[]:=List.eq_nil_of_length_eq_zero (by
      have:=hsl.len
      rw [hvl,h0] at this
      simpa using this)
    subst h0;subst hn0
    refine bH hr ⟨ι,S,R.put o.dst ?_ fun i hi=> nU hi⟩
    rw [hv']
    generalize a.eval s=u at hv
    cases hv
    exact .sl (.sl0 (Nat.le_refl _) (by unfold maxLen;omega) fun _=> ⟨rfl,rfl⟩)
  obtain ⟨v',w',hr,h4,h5,_,h7⟩:=px (P:=P) (T:=T) o.type 0 (.slice none 0 0) 0 [] (World.ownsRow_nil _ _ _ _) (a.eval x) m vs hsl (by simpa using hb) (Nat.zero_le _)
  have hbl:Below w.heap.size w w':=ia (by simpa [Value.ownBlock] using h5)
  have key:(m=0∧(execOp a.eval o).run P w= .ok (.value (a.eval s)) w)∨(execOp a.eval o).run P w= .ok (.value v') w':=by
    generalize hu:a.eval s=u at hv
    cases hv with
    | z=>
      rename_i ao
      have hex: ∀ r,(Builtin.append_ #[T,T] o.type #[.slice ao 0 0,a.eval x]).run P w=r→(execOp a.eval o).run P w=r.andThen fun v w=> .ok (.value v) w:=by
        intro r h
        unfold execOp
        simp only [ho,resolve,invoke,builtin,Sem.run_bind,Sem.run_pure,Result.andThen_ok,List.map_toArray,List.map_cons,List.map_nil,hu,h]
      cases ao with
      | none=> exact .inr (hex _ hr)
      | some b=>
        rcases uT (P:=P) (T:=T) w o.type b (a.eval x) m vs hsl hb with ⟨h0,h1⟩ | h1
        · exact .inl ⟨h0,hex _ h1⟩
        exact .inr (hex _ (h1.trans hr))
  rcases key with ⟨h0,hrun⟩ | hrun
  · exact stay _ rfl h0 hrun
  have fin: ∀ (S':Nat→Prop),(∀ g,S g→S' g)→(∀ g,S' g→S g∨w.heap.size≤g)→(∀ g,S' g→g < w'.heap.size)→Rd S' w' (.sl m news) v'→eS P o a.eval w fun v w''=> ∃ ι' S',RelI K ι' S' (σ.put o.dst (.sl m news)) (a.put o.dst v) w'':=by
    intro S' g1 g2 g3 hrd
    have R3:=R.gen (ι':=ι) (S':=S') (w':=w') (ob':=σ.ob) (inc':=σ.inc) (fun _=> False) (.of_below hbl) (fun _ _=> rfl) (fun _ _=> rfl) (fun _ _=> rfl) (fun _ h=> h) g1
      (fun g h=> by rcases g2 g h with h | h; · exact .inl h
                    exact .inr (.inl h)) g3
      (fun _ _ h=> h.elim) (fun _ _ h=> h.elim) (fun _ _ h=> h.elim) (fun _ _ _ _ _ h=> h.elim) (fun _ _ _ h=> h.elim) (fun _ _ _ h=> h.elim)
    exact bH hrun ⟨ι,S',R3.put o.dst (.sl hrd) fun i hi=> nU hi⟩
  simp only [List.nil_append,Nat.zero_add] at h4
  rcases gy h4 with ⟨hv',hn0,hu0⟩ | ⟨g,c,cur,hv',hg,hnc,hcm,hcs,hcu⟩
  · subst hv'
    have:news=[]:=List.eq_nil_of_length_eq_zero (by rw [← hvl,hu0];rfl)
    subst this;subst hn0
    exact fin S (fun _ h=> h) (fun _ h=> .inl h) (fun g h=> Nat.lt_of_lt_of_le (R.Slt g h) hbl.size) (.sl0 (Nat.le_refl _) (by unfold maxLen;omega) fun _=> ⟨rfl,rfl⟩)
  subst hv'
  have hgw:w.heap.size≤g:=by
    rcases h7 with h | ⟨k,hk,hle⟩
    · simp [Value.ownBlock] at h
    simp [Value.ownBlock] at hk;omega
  refine fin (fun k=> S k∨k=g) (fun _ h=> .inl h) (fun k h=> by
    rcases h with h | h
    · exact .inl h
    exact .inr (by rw [h];exact hgw)) (fun k h=> ?_) ?_
  · rcases h with h | h
    · exact Nat.lt_of_lt_of_le (R.Slt k h) hbl.size
    rw [h];exact (Array.getElem?_eq_some_iff.1 hg).1
  have key: ∀ (j:Nat) (p:PV),news[j]? =some p→ ∃ u,cur[j]? =some u∧Rd (fun k=> S k∨k=g) w' p u:=by
    intro j p hj
    obtain ⟨u,hu,h1,hru⟩:=hvr j p hj
    exact ⟨u,hcu j u hu,hru.next (fun k hk=> hbl.block k (R.Slt k hk)) fun _ h=> .inl h⟩
  have:=Rd.sl (S:=fun k=> S k∨k=g) (w:=w') (n:=m) (c:=c) (b:=g) (o:=0) (xs:=news) (fun j=> cur.getD j undef) hnc hcm (.mk (.inr rfl) hg) (fun j p hj=> ?_) (fun j p hj=> ?_)
  · exact this
  · obtain ⟨u,hu,_⟩:=key j p hj
    simp only [Nat.zero_add,Array.getD_eq_getD_getElem?,hu,Option.getD_some]
    exact ef hg hu
  obtain ⟨u,hu,hru⟩:=key j p hj
  simp only [Array.getD_eq_getD_getElem?,hu,Option.getD_some]
  exact hru
end
theorem AnyOps.imp {P:Program} {all:List Oper} {W:List Nat} {I:List az} {AA:List (List az)} {σ:St} {K K':List Res→Prop} (hk: ∀ rs,K rs→K' rs): ∀ {os:List Oper} {rs:List Res},AnyOps P all W I AA σ K os rs→AnyOps P all W I AA σ K' os rs
  | [],rs,h=> hk rs h
  | o::os,rs,⟨r,h1,h2⟩=> ⟨r,h1,AnyOps.imp hk h2⟩
theorem HS {rb:Bool} {P:Program} {Q:Exit→St→Prop} {σ:St} {id:Nat} {l hd tl:List Oper} (n:Nat) (W:List Nat) (I:List az) (hm:P.follows .mixedOrders=true) (hB:kG l.toArray n=true) (hW:(l.take n).filterMap (·.dst)=W) (hI:I.Nodup)
    (e1:l.take n=hd) (e2:l.drop n=tl) (h:AnyOps P hd W I [] σ (fun rs=> gh rs=I∧DL rb P l.toArray Q tl (dh hd rs (fun _=> true) 0 σ)) hd []):D rb P (.region id l.toArray true) Q σ:=by
  subst e1;subst e2
  exact Hh n W I [] hm hB hW hI (AnyOps.imp (fun rs h=> ⟨⟨h.1,rfl⟩,h.2⟩) h)
theorem jD {rb:Bool} {P:Program} {Q:Exit→St→Prop} {σ:St} {id:Nat} {l hd tl:List Oper} (n:Nat) (W:List Nat) (I:List az) (AA:List (List az)) (hm:P.follows .mixedOrders=true) (hB:kG l.toArray n=true) (hW:(l.take n).filterMap (·.dst)=W) (hI:I.Nodup)
    (e1:l.take n=hd) (e2:l.drop n=tl) (h:AnyOps P hd W I AA σ (fun rs=> (gh rs=I∧oa hd rs 0 AA=true)∧DL rb P l.toArray Q tl (dh hd rs (fun _=> true) 0 σ)) hd []):D rb P (.region id l.toArray true) Q σ:=by
  subst e1;subst e2
  exact Hh n W I AA hm hB hW hI h
section
variable {P:Program} {w:World} {o:Oper} {ρ:Operand→Value} {e:TypeId} {z:List Value}
end
section
variable {P:Program} {σ:St} {z:List Value} {T e:TypeId} {size bytes:Nat}
end
def ba (l:List Int):List PV:=l.map fun x=> .v (.int .i64 x)
@[simp] theorem aq (l:List Int):(ba l).length=l.length:=by simp [ba]
theorem cw (l:List Int) (k:Nat) (h:k < l.length):(ba l)[k]? =some (.v (.int .i64 (l.getD k 0))):=by simp [ba,h]
theorem dF (a:List Int) (k:Nat) (x:Int) (h:k < a.length):eO (ba a) k [.v (.int .i64 x)]=ba (a.set k x):=by rw [BI _ _ _ (by simpa using h)];simp [ba,List.map_set]
theorem oq (n:Nat):(rep n [Value.int .i64 0]).map PV.v=ba (List.replicate n 0):=by rw [GS];simp [ba]
theorem tj {α:Type} (l:List α) (k:Nat) (d:α) (h:k < l.length):l.getD k d=l[k]:=by simp [h]

def xo (l:List Bool):List PV:=l.map fun x=> .v (.bool x)
@[simp] theorem aJ (l:List Bool):(xo l).length=l.length:=by simp [xo]
theorem xL (l:List Bool) (k:Nat) (h:k < l.length):(xo l)[k]? =some (.v (.bool (l.getD k false))):=by simp [xo,h]
def Rng (l:List Int):Prop:= ∀ x∈l, -9223372036854775808≤x∧x≤9223372036854775807
theorem Rng.at {l:List Int} (h:Rng l) (k:Nat) (hk:k < l.length): -9223372036854775808≤l.getD k 0∧l.getD k 0≤9223372036854775807:=by
  rw [tj _ _ _ hk];exact h _ (List.getElem_mem hk)
theorem HW (z:List { n:Int // (Lit.int .i64 n).wf=true }):Rng (z.map (·.1)):=by
  intro x hx
  obtain ⟨y,_,rfl⟩:=List.mem_map.1 hx
  exact Hs y.2
theorem HM {w:World} {n:Nat} {v:Value} {z:List { n:Int // (Lit.int .i64 n).wf=true }} {ι:az→Option eC} (h:Sl w 1 v n (z.map fun y=> Value.int .i64 y.1)):Rep ι (fun g=> g < w.heap.size) w (.sl n (ba (z.map (·.1)))) v:=by
  have:=h.rd
  rw [show (z.map fun y=> Value.int .i64 y.1).map PV.v=ba (z.map (·.1)) by simp [ba]] at this
  exact .sl this

theorem fk:aU []=fun i=> i:=by funext i;rfl
theorem Kw {σ:St} {F:az→Bool} (a:AV):Lv (aU []) σ F a a:=by rw [fk];exact Lv.same a
theorem il {σ:St} {F:az→Bool} {a b:AV} (h:b=a):Lv (aU []) σ F a b:=by subst h;exact Kw _
theorem Ib {σ:St} {F:az→Bool} (o:Cells):LvO (aU []) σ F o o:=by rw [fk];exact LvO.same o
theorem ca {ρ:az→az} {σ:St} {F:az→Bool} {id id':az} {off n m:Nat} (hi:ρ id=id') (h:n=m):Lv ρ σ F (.ref id off n) (.ref id' off m):=by subst hi;subst h;exact .ref
theorem bv {ρ:az→az} {σ:St} {F:az→Bool} {id id':az} {off:Nat} (hi:ρ id=id'):Lv ρ σ F (.ptr id off) (.ptr id' off):=by subst hi;exact .ptr
theorem cL {ρ:az→az} {σ:St} {F:az→Bool} {n m:Nat} {xs ys:List PV} (h:n=m) (h':xs=ys):Lv ρ σ F (.sl n xs) (.sl m ys):=by subst h;subst h';exact .sl
theorem cD {ρ:az→az} {Fz:List az} {σ:St} {I:List az} {i:az} {e:TypeId} {sz:Nat} {xs ys:List PV} (hF:cr (ρ i) Fz=false) (h:σ.ob (ρ i)= .obj (.row e sz ys)) (hinc:(bif cr i I then false else σ.inc (ρ i))=false) (hx:xs=ys):
  cr (ρ i) Fz=false∧(∃ o2,σ.ob (ρ i)= .obj o2∧LvO (ρ) σ (fun i=> cr i Fz) (.row e sz xs) o2)∧(bif cr i I then false else σ.inc (ρ i))=false:=⟨hF,⟨_,h, .rowE hx.symm⟩,hinc⟩
theorem cI {ρ:az→az} {Fz:List az} {σ:St} {I:List az} {i:az} {e:TypeId} {xs ys:List AV} (hF:cr (ρ i) Fz=false) (h:σ.ob (ρ i)= .obj (.box e ys)) (hinc:(bif cr i I then false else σ.inc (ρ i))=false) (hl:xs.length=ys.length)
  (hx: ∀ (j:Nat) (a b:AV),xs[j]? =some a→ys[j]? =some b→Lv (ρ) σ (fun i=> cr i Fz) a b):
  cr (ρ i) Fz=false∧(∃ o2,σ.ob (ρ i)= .obj o2∧LvO (ρ) σ (fun i=> cr i Fz) (.box e xs) o2)∧(bif cr i I then false else σ.inc (ρ i))=false:=⟨hF,⟨_,h, .box hl hx⟩,hinc⟩
theorem bN {Fz:List az} {σ:St} {I:List az} {i:az} {o:Cells} (hF:cr (aU [] i) Fz=false) (h:σ.ob (aU [] i)= .obj o) (hinc:(bif cr i I then false else σ.inc (aU [] i))=false):
  cr (aU [] i) Fz=false∧(∃ o2,σ.ob (aU [] i)= .obj o2∧LvO (aU []) σ (fun i=> cr i Fz) o o2)∧(bif cr i I then false else σ.inc (aU [] i))=false:=⟨hF,⟨_,h,Ib o⟩,hinc⟩
theorem Pe {ρ:az→az} {Fz:List az} {σ:St} {I:List az} {i:az} {es fs:List MapEntry} {c d:Nat} (hF:cr (ρ i) Fz=false) (h:σ.ob (ρ i)= .obj (.mp fs d)) (hinc:(bif cr i I then false else σ.inc (ρ i))=false) (hx:es=fs) (hc:c=d):
  cr (ρ i) Fz=false∧(∃ o2,σ.ob (ρ i)= .obj o2∧LvO (ρ) σ (fun i=> cr i Fz) (.mp es c) o2)∧(bif cr i I then false else σ.inc (ρ i))=false:=⟨hF,⟨_,h,by subst hx;subst hc;exact .mp⟩,hinc⟩

theorem Spec.toI {P:Program} {f:FuncId} {args:List AV} {r:AV} {outs:List (az×Cells)} (h:Spec P f (aI args []) (aA r outs)):Spec P f (aL args []) (aO r outs [] []):=h
theorem Le.mkJ {σ:St} {n:Nat} {slots:List (Nat×AV)} {obs:List (az×Cells)} {I Pn:List az} (rn:List (az×az)) (Fz:List az) (hn:σ.n=n) (hs:qC (aU rn) σ (fun i=> cr i Fz) slots) (ho:dK (aU rn) σ (fun i=> cr i Fz) I obs) (hi:fK σ Fz) (hp:kF (aU rn) σ Pn)
  (hb:(fe (obs.map (·.1)) slots && be (obs.map (·.1)) obs && bh ((obs.map (·.1)).map (aU rn)) && rl Pn (obs.map (·.1)))=true):Le (an n slots obs I Pn) σ:=by
 simp only [Bool.and_eq_true] at hb
 exact Le.mkI rn Fz hn hs hb.1.1.1 hb.1.1.2 hb.1.2 hi ho hp hb.2
section
variable {rb:Bool} {P:Program} {Q:Exit→St→Prop} {σ:St}
theorem aS {c:Code} {α:Type} (J:α→Prop) (n:Nat) (sl:List (Nat×AV)) (os:List (az×Cells)) (sv:α→List (Nat×AV)) (ov:α→List (az×Cells)) (I Pn:List az) (μ:α→Nat) (x0:α) (hJ:J x0) (h0:Le (an n (sl++sv x0) (os++ov x0) I Pn) σ)
  (round: ∀ x,J x→D rb P c (jP (fun σ'=> ∃ y,J y∧Le (an n (sl++sv y) (os++ov y) I Pn) σ'∧μ y < μ x) Q) (an n (sl++sv x) (os++ov x) I Pn)):D rb P (.loop c) Q σ:=
 Fe J (fun x=> an n (sl++sv x) (os++ov x) I Pn) μ x0 hJ h0 round
theorem DA {ops:Array Oper} {rest:List Oper} {d:Nat} {b:Bool} (h1:b=true→DL rb P ops Q rest (σ.put (some d) (.v (.bool true)))) (h2:b=false→DL rb P ops Q rest (σ.put (some d) (.v (.bool false)))):DL rb P ops Q rest (σ.put (some d) (.v (.bool b))):=by
 cases b
 ·exact h2 rfl
 exact h1 rfl
theorem yW {all:List Oper} {W:List Nat} {I:List az} {AA:List (List az)} {Kont:List Res→Prop} {os:List Oper} {rs:List Res} {b:Bool} (h1:b=true→AnyOps P all W I AA σ Kont os (rs++[(.v (.bool true),[])])) (h2:b=false→AnyOps P all W I AA σ Kont os (rs++[(.v (.bool false),[])])):
  AnyOps P all W I AA σ Kont os (rs++[(.v (.bool b),[])]):=by
 cases b
 ·exact h2 rfl
 exact h1 rfl
end

class Arr (P:Program) (T:TypeId) (n:outParam Nat) (size:outParam Nat):Prop where
 out: ∃ e i,P.underlying T=some (.array n e)∧P.info? e=some i∧i.size=size
theorem Arr.of {P:Program} {T e:TypeId} {n size:Nat} (h1:P.underlying T=some (.array n e)) (h2:(P.info? e).map (fun i=> i.size)=some size):Arr P T n size:=by
 obtain ⟨i,hi,h⟩:=Option.map_eq_some_iff.1 h2
 exact ⟨e,i,h1,hi,h⟩

section
variable {P:Program} {σ:St} {dd:Option Tmp} {ty T:TypeId} {n size:Nat}
theorem bO (x y:Operand) (E:Arr P T n size) {id:az} {of0:Nat} {oc:Cells} (hx:σ.eval x= .ptr id of0) (hid:σ.ob id= .obj oc)
  {k:IntKind} {I:Int} (hy:σ.eval y= .v (.int k I)) (j:Nat) (hI:I=(j:Int)) (hj:j < n) {off:Nat} (he:of0+j*size=off):Stp P dd (.indexAddr T x y) ty σ (σ.put dd (.ptr id off)):=by
 intro o hd ho ht
 subst hd;subst he;subst hI
 obtain ⟨e,inf,hu,hinf,hs⟩:=E.out
 refine bB fun _ ι S a w R=> ?_
 have hi:=(hy ▸ R.eval y:Rep ι S w (.v (.int k (j:Int))) (a.eval y)).toV
 obtain ⟨B,g,h1,h2,h3⟩:=R.ptrB hid hx
 refine ⟨.pointer (some ⟨g,of0+j*size,none⟩),?_, .ptr (fun B' hB'=> ?_) rfl,fun i h=> R.evalHas x (by rw [hx];cases h;exact .ptr)⟩
 ·simp [execOp,ho,Instr.indexAt,h3,hi,asIntOf,run_underlying hu,sizeOf,typeInfo,hinf,hs,hj,Addr.add_lit,Instr.sureAddr]
 rw [h1] at hB'
 obtain rfl:=Option.some.inj hB'
 exact ⟨g,h2,rfl⟩
theorem qT {t t':TypeId} {a b:Int} (x y:Operand) (hx:σ.eval x= .v (.int .i64 a)) (hy:σ.eval y= .v (.int .i64 b)) {r:Int} (hr:max a b=r):Stp P dd (.call { callee:= .builtin .max,args:= #[x,y],argTypes:= #[t,t'] }) ty σ (σ.put dd (.v (.int .i64 r))):=by
 intro o hd ho ht
 subst hd
 refine bB fun _ _ _ A w R=> ⟨_,?_, .v,fun _=> eH⟩
 have h1:=Rep.evV R hx
 have h2:=Rep.evV R hy
 generalize A.eval=ρ at h1 h2
 subst hr
 have hm:max a b=if b > a then b else a:=by omega
 simp [execOp,ho,resolve,invoke,builtin,h1,h2,go_sem,Builtin.max_,Builtin.max2,hm]

theorem Kg {K:lV} {ι:az→Option eC} {S:Nat→Prop} {a:Act} {w:World} (R:RelI K ι S σ a w) (xs:Array Operand) {avs:List AV} (h:xs.toList.map σ.eval=avs):
  (xs.map a.eval).size=avs.length∧(∀ (j:Nat) (p:AV),avs[j]? =some p→Rep ι S w p ((xs.map a.eval).getD j undef))∧ ∀ av∈avs,∀ id,Has id av→σ.ob id≠ .free:=by
 subst h
 refine ⟨by simp,fun j p hp=> ?_,fun av hav id hi=> ?_⟩
 ·rw [List.getElem?_map] at hp
  obtain ⟨y,hy,rfl⟩:=Option.map_eq_some_iff.1 hp
  have hy':xs[j]? =some y:=by simpa using hy
  have hj:=(Array.getElem?_eq_some_iff.1 hy').1
  have:(xs.map a.eval).getD j undef=a.eval y:=by
   have h2:=(Array.getElem?_eq_some_iff.1 hy').2
   simp [hj,h2]
  rw [this];exact R.eval y
 obtain ⟨y,_,rfl⟩:=List.mem_map.1 hav
 exact R.evalHas y hi
theorem lf {fn:Fn} (first caps:Array Operand) {fs cs:List AV} (hf:first.toList.map σ.eval=fs) (hc:caps.toList.map σ.eval=cs):Stp P dd (.makeFunc fn first caps) ty σ (σ.put dd (.fn fn fs cs)):=by
 intro o hd ho ht
 subst hd
 refine bB fun _ ι S a w R=> ?_
 obtain ⟨f1,f2,f3⟩:=Kg R first hf
 obtain ⟨c1,c2,c3⟩:=Kg R caps hc
 refine ⟨.func fn (first.map a.eval) (caps.map a.eval),by simp [execOp,ho,Instr.makeFunc], .fn f1 c1 f2 c2,fun id h=> ?_⟩
 cases h with
 | fn1 hm h=> exact f3 _ hm id h
 | fn2 hm h=> exact c3 _ hm id h

end
def MP (l:List (Int×Int)):List PV:=l.flatMap fun p=> [.v (.int .i64 p.1), .v (.int .i64 p.2)]
theorem Er (p:Int×Int) (l:List (Int×Int)):MP (p::l)=[.v (.int .i64 p.1), .v (.int .i64 p.2)]++MP l:=rfl
@[simp] theorem aM: ∀ (l:List (Int×Int)),(MP l).length=2*l.length
 | []=> rfl
 | p::l=> by rw [Er,List.length_append,aM l];simp;omega
theorem Ft (l:List Int) (k:Nat):((ba l).drop (0*1)).take ((k - 0)*1)=ba (l.take k):=by simp [ba]
theorem Spec.frz {P:Program} {f:FuncId} {σ:St} {e:TypeId} {sz n:Nat} {xs:List PV} (h:Spec P f σ (aA (.ref (0,8) 0 n) [((0,8), .row e sz xs)])) (hl:n*sz=xs.length):Spec P f σ (aA (.sl n xs) []):=
 h.mono (Le.outO (I:=[]) (Pn:=[]) [] [(0,8)] (dI rfl rfl hl rfl) rfl rfl rfl ⟨rfl,trivial⟩ trivial)

section
variable {P:Program} {σ:St} {z:List Value} {T e:TypeId} {size bytes:Nat}
theorem St.setInc_same {σ:St} {id:az} {b:Bool} (h:σ.inc id=b):σ.setInc id b=σ:=by
 refine St.eq rfl (fun _=> rfl) (fun _=> rfl) (funext fun i=> ?_) rfl
 show (bif gq i id then b else σ.inc i)=σ.inc i
 cases hb:gq i id with
 | true=> rw [oeq_iff.1 hb,h];rfl
 | false=> rfl
theorem qR {dd:Option Tmp} {ty:TypeId} (id':az) (s x:Operand) (E:Elem P T e size bytes z) {id:az} {n:Nat} {xs:List PV} (hs:σ.eval s= .ref id 0 n) (hid:σ.ob id= .obj (.row e size xs)) (hl:n*size=xs.length) {m:Nat} {news:List PV} (hx:SrcAV σ (σ.eval x) size m news) (hb:(n+m)*bytes≤140737488355328) (hid':σ.ob id'= .free)
  (hi:σ.inc id=false) (hi':σ.inc id'=false) {ys:List PV} (hy:xs++news=ys) {k:Nat} (hk:n+m=k):Stp P dd (.call { callee:= .builtin .append,args:= #[s,x],argTypes:= #[T,T] }) ty σ (((σ.setOb id .gone).setOb id' (.obj (.row e size ys))).put dd (.ref id' 0 k)):=by
 have h:=bG (P:=P) (dd:=dd) (ty:=ty) id' s x E hs hid hl hx hb hid' hy hk
 rwa [hi,St.setInc_same (by exact hi')] at h

theorem RelI.srcB {K:lV} {ι:az→Option eC} {S:Nat→Prop} {a:Act} {w:World} (R:RelI K ι S σ a w) {id:az} {e:TypeId} {sz m:Nat} {news:List AV} (hid:σ.ob id= .obj (.box e news)) {x:Operand} (hx:σ.eval x= .ref id 0 m) (hl:m*sz=news.length):
  ∃ us,Sl w sz (a.eval x) m us∧us.length=news.length∧ ∀ (j:Nat) (p:AV),news[j]? =some p→ ∃ u,us[j]? =some u∧u.oneCell'=true∧Rep ι S w p u:=by
 obtain ⟨B,g,h1,hg,htot,h6⟩:=R.ob id _ hid
 have hr:=R.eval x
 rw [hx] at hr
 generalize hu:a.eval x=v at hr
 cases hr with
 | ref h _=>
  obtain ⟨c,h3,h4,h5⟩:=h B h1
  rw [hg] at h5
  obtain ⟨o',h7,h8,h9⟩:=h5
  obtain rfl:=h8.resolve_right ab
  rcases h6 with ⟨h6,_⟩ | ⟨g',cur,h10,h11,h12,h13,h14⟩
  ·rw [hg] at h6;cases h6
  rw [hg] at h10
  obtain rfl:=Option.some.inj h10
  have hget: ∀ (j:Nat) (u:Value),(cur.toList.take news.length)[j]? =some u→j < news.length∧cur[j]? =some u:=by
   intro j u h
   rw [List.getElem?_take] at h
   split at h
   ·rename_i hj;exact ⟨hj,by simpa using h⟩
   cases h
  refine ⟨cur.toList.take news.length,⟨some ⟨g,0,none⟩,c,h7,h3,h4,by simp;omega,fun u hu=> ?_,fun h=> by (cases h),fun _=> ⟨g,0,rfl⟩,fun ad had j u hj=> ?_⟩,by simp;omega,fun j p hp=> ?_⟩
  ·obtain ⟨j,hj,rfl⟩:=List.getElem_of_mem hu
   obtain ⟨hj1,hj2⟩:=hget j _ (List.getElem?_eq_getElem hj)
   obtain ⟨u,b1,b2,_⟩:=h14 j hj1
   rw [hj2] at b1
   obtain rfl:=Option.some.inj b1
   exact b2
  ·obtain rfl:=Option.some.inj had
   rw [Addr.add_lit,Nat.zero_add]
   exact ef h11 (hget j u hj).2
  have hj:j < news.length:=(List.getElem?_eq_some_iff.1 hp).1
  obtain ⟨u,hu,hu1,hu2⟩:=h14 j hj
  exact ⟨u,by rw [List.getElem?_take,if_pos hj];simpa using hu,hu1,hu2 p hp⟩
theorem Gs {dd:Option Tmp} {ty:TypeId} {T e e':TypeId} {size bytes:Nat} {z:List Value} (x:Operand) (E:Elem P T e size bytes z) {id:az} {off n:Nat} {xs:List AV} (hx:σ.eval x= .ref id off n) (hid:σ.ob id= .obj (.box e' xs)):Stp P dd (.call { callee:= .builtin .len,args:= #[x],argTypes:= #[T] }) ty σ (σ.put dd (.v (.int .i64 (n:Int)))):=by
 intro o hd ho ht
 subst hd
 refine bB fun _ ι S a w R=> ?_
 obtain ⟨B,g,h1,hg,_,_⟩:=R.ob id _ hid
 have hr:=R.eval x
 rw [hx] at hr
 generalize hu:a.eval x=u at hr
 cases hr with
 | ref h _=>
  obtain ⟨c,_,_,h5⟩:=h B h1
  rw [hg] at h5
  obtain ⟨o',rfl,_⟩:=h5
  exact ⟨_,by simp [execOp,ho,resolve,invoke,builtin,Builtin.len_,run_underlying E.und,hu,goInt], .v,fun _=> eH⟩
end


structure Bun where
 box:az
 gr:Bool
 E:TypeId
 e:TypeId
 fam:Nat
 rows:List (List PV)

def Bun.cell (b:Bun) (j:Nat):AV:= .ref (b.fam,j) 0 (b.rows.getD j []).length
def Bun.cells (b:Bun):List AV:=(List.range b.rows.length).map b.cell
def Bun.outer (b:Bun) (cs:List AV):Cells:=bif b.gr then .rowA b.E 1 cs else .box b.E cs
def Bun.ob (b:Bun) (id:az):Slot:=
 bif gq id b.box then .obj (b.outer b.cells) else bif Nat.beq id.1 b.fam && Nat.blt id.2 b.rows.length then .obj (.row b.e 1 (b.rows.getD id.2 [])) else .free
def iX:Slot→Slot→Slot
 | .free,s=> s
 | s,_=> s

section
variable {σ:St} {n:Nat} {slots:List (Nat×AV)} {obs:List (az×Cells)} {I Pn:List az} {bx bx0:az} {gr:Bool} {E e:TypeId} {fam:Nat} {rows:List (List PV)}

end

def Cells.flat:Cells→Bool
 | .row _ _ _=> true
 | .box _ _=> true
 | .rowA _ _ _=> true
 | _=> false

theorem RowOk.imp {w:World} {B:eC} {e:TypeId} {n:Nat} {R R':Nat→Value→Prop} (h:RowOk w B e n R) (hR: ∀ j u,R j u→R' j u):RowOk w B e n R':=h.next (fun _ _=> rfl) hR
theorem ObjOk.flat {ι:az→Option eC} {S:Nat→Prop} {w:World} {id:az} {o:Cells} {B:eC} {g:Nat} (h:ObjOk ι S w id o) (hf:o.flat=true) (h1:ι id=some B) (h2:B.g=some g): ∃ c e f,w.heap[g]? =some (.cells c e f):=by
 have key: ∀ {e n} {R':Nat→Value→Prop},RowOk w B e n R'→ ∃ c e f,w.heap[g]? =some (.cells c e f):=by
  intro e n R' hr
  rcases hr with ⟨h,_⟩ | ⟨g',cur,h,hh,_⟩
  ·rw [h2] at h;cases h
  rw [h2] at h
  obtain rfl:=Option.some.inj h
  exact ⟨_,_,_,hh⟩
 cases o with
 | row e sz xs=>
  obtain ⟨B',h1',_,h3⟩:=h
  rw [h1] at h1'
  obtain rfl:=Option.some.inj h1'
  exact key h3
 | box e xs=>
  obtain ⟨B',g',h1',_,_,h3⟩:=h
  rw [h1] at h1'
  obtain rfl:=Option.some.inj h1'
  exact key h3
 | rowA e sz xs=>
  obtain ⟨B',h1',_,h3⟩:=h
  rw [h1] at h1'
  obtain rfl:=Option.some.inj h1'
  exact key h3
 | mp es clock=> cases hf
 | it m since seen stepped=> cases hf
def Ht:List (Nat×Value)→Act→Act
 | [],a=> a
 | (t,v)::l,a=> Ht l (a.put (some t) v)
def Hf:List (Nat×Value)→St→St
 | [],σ=> σ
 | (t,v)::l,σ=> Hf l (σ.put (some t) (.v v))
theorem RelI.puts {K:lV} {ι:az→Option eC} {S:Nat→Prop} {w:World}: ∀ (l:List (Nat×Value)) {σ:St} {a:Act},RelI K ι S σ a w→RelI K ι S (Hf l σ) (Ht l a) w
 | [],_,_,R=> R
 | (t,v)::l,_,_,R=> RelI.puts l (R.put (some t) (av:= .v v) .v fun i hi=> eH hi)

theorem eN {i:az} {l:List az}:cr i (i::l)=true:=inO_iff.2 List.mem_cons_self
theorem fE {σ τ:St} {W:List Nat} {I own:List az} {ops:List Oper} {rs:List Res} {dp:List Nat} {i:az} {s:Slot} (hd:oS rs dp 0 i=none) (ho:cr i own=true) (hs:σ.ob i=s):(ek σ W I own ops rs dp τ).ob i=s:=by
 simp only [ek,hd,ho,Bool.not_true,Bool.and_false,cond_false]
 exact hs

theorem Le.frzPt {σ:St} (t:Nat) {id:az} {off:Nat} {e:TypeId} {xs:List AV} {ys:List PV} (hr:σ.fr t= .ptr id off) (hid:σ.ob id= .obj (.box e xs)) (hi:σ.inc id=false) (hy:lc xs=some ys):
  Le ((σ.setOb id .gone).put (some t) (.fp off ys)) σ:=by
 intro K ι S a w R
 have hob: ∀ i o,((σ.setOb id .gone).put (some t) (.fp off ys)).ob i= .obj o→gq i id=false∧σ.ob i= .obj o:=by
  intro i o h
  rw [St.put_ob] at h
  simp only [St.setOb] at h
  cases hb:gq i id with
  | true=> rw [hb] at h;cases h
  | false=> rw [hb] at h;exact ⟨rfl,h⟩
 have hnf: ∀ i,σ.ob i≠ .free→((σ.setOb id .gone).put (some t) (.fp off ys)).ob i≠ .free:=by
  intro i h h'
  rw [St.put_ob] at h'
  simp only [St.setOb] at h'
  cases hb:gq i id with
  | true=> rw [hb] at h';cases h'
  | false=> rw [hb] at h';exact h h'
 refine Le.of (fun i=> i) (fun i=> gq i id) (by rw [St.put_n];rfl) (fun u hu=> ?_) (fun i o h=> ?_) (fun _ _ _ _ _ _ h=> h) (fun i h=> ?_) (fun i o h h'=> ?_) (fun u i h=> ?_) (fun i o j h h'=> ?_) (fun i h o hp ho=> ?_) (fun i h=> ?_) K ι S a w R
 ·show Lv _ _ _ (bif Nat.beq u t then _ else σ.fr u) _
  cases hb:Nat.beq u t with
  | true=> rw [Nat.eq_of_beq_eq_true hb,hr];exact .frzP hid (dO id) hy
  | false=> exact Lv.same _
 ·obtain ⟨h1,h2⟩:=hob i o h
  exact ⟨h1,o,h2,LvO.same o⟩
 ·rw [oeq_iff.1 h];exact hi
 ·exact h'
 ·replace h:Has i (bif Nat.beq u t then _ else σ.fr u):=h
  cases hb:Nat.beq u t with
  | true=> rw [hb] at h;cases h
  | false=> rw [hb] at h;exact hnf i (R.cl u i h)
 ·exact hnf j (R.clo i o j (hob i o h).2 h')
 ·exact hp
 refine R.pf i ?_
 rw [St.put_ob] at h
 simp only [St.setOb] at h
 cases hb:gq i id with
 | true=> rw [hb] at h;cases h
 | false=> rw [hb] at h;exact h

theorem Stp.le {P:Program} {d:Option Tmp} {op:Op} {ty:TypeId} {σ σ1 σ2:St} (h:Stp P d op ty σ σ1) (hl:Le σ2 σ1):Stp P d op ty σ σ2:=by
 intro o h1 h2 h3 K ι S a w R
 have h4:=h o h1 h2 h3 K ι S a w R
 unfold eS at h4 ⊢
 generalize (execOp a.eval o).run P w=r at h4 ⊢
 match r,h4 with
 | .ok (.value v) w',⟨ι',S',R'⟩=> exact hl K ι' S' _ _ R'
 | .ok .skip w',⟨ι',S',R'⟩=> exact hl K ι' S' _ _ R'
 | .ok (.enter f args) w',h5=> exact h5.mono fun e w'' ⟨v,he,ι',S',R'⟩=> ⟨v,he,hl K ι' S' _ _ R'⟩
theorem Ay {P:Program} {σ:St} {z:List Value} {T e:TypeId} {size bytes:Nat} {d:Tmp} {ty:TypeId} (id':az) (s x:Operand) (E:Elem P T e size bytes z) {id:az} {n:Nat} {xs:List PV} (hs:σ.eval s= .ref id 0 n) (hid:σ.ob id= .obj (.row e size xs)) (hl:n*size=xs.length) {m:Nat} {news:List PV} (hx:SrcAV σ (σ.eval x) size m news) (hb:(n+m)*bytes≤140737488355328) (hid':σ.ob id'= .free)
  (hi:σ.inc id=false) (hi':σ.inc id'=false) {ys:List PV} (hy:xs++news=ys) {k:Nat} (hk:n+m=k):Stp P (some d) (.call { callee:= .builtin .append,args:= #[s,x],argTypes:= #[T,T] }) ty σ (((σ.setOb id .gone).setOb id' .gone).put (some d) (.sl k ys)):=by
 have h:=qR (P:=P) (dd:=some d) (ty:=ty) id' s x E hs hid hl hx hb hid' hi hi' hy hk
 have hlen:k*size=ys.length:=by
  have h1:news.length=m*size:=by
   generalize σ.eval x=u at hx
   cases hx with
   | sl h=> exact h
   | nil=> simp
   | ref hid hn hl=> rw [← hn,List.length_take,List.length_drop];omega
  rw [← hy,← hk,List.length_append,← hl,h1,Nat.add_mul]
 have h2:=Le.frzS (σ:=(((σ.setOb id .gone).setOb id' (.obj (.row e size ys))).put (some d) (.ref id' 0 k))) d (id:=id') (off:=0) (n:=k) (e:=e) (sz:=size) (xs:=ys) (ys:=ys)
  (by simp [St.put]) (by rw [St.put_ob,St.setOb_same]) hi' (by rw [List.drop_zero];exact List.take_of_length_le ab) ab
 refine (Stp.le h h2:Stp P (some d) _ ty σ _) |> fun h=> ?_
 have e1:((((σ.setOb id .gone).setOb id' (.obj (.row e size ys))).put (some d) (.ref id' 0 k)).setOb id' .gone).put (some d) (.sl k ys)=((σ.setOb id .gone).setOb id' .gone).put (some d) (.sl k ys):=by
  refine St.eq rfl (fun t=> ?_) (fun i=> ?_) rfl rfl
  ·simp only [St.put,St.setOb]
   cases Nat.beq t d <;> rfl
  simp only [St.put,St.setOb]
  cases gq i id' <;> rfl
 rwa [e1] at h

section
variable {σ:St} {F:az→Bool} {b:AV}
theorem iV {x:Value} (h:b= .v x):Lv (aU []) σ F (.v x) b:=il h
theorem iS {n:Nat} {xs:List PV} (h:b= .sl n xs):Lv (aU []) σ F (.sl n xs) b:=il h
theorem iR {id:az} {off n:Nat} (h:b= .ref id off n):Lv (aU []) σ F (.ref id off n) b:=il h
theorem iP {id:az} {off:Nat} (h:b= .ptr id off):Lv (aU []) σ F (.ptr id off) b:=il h
theorem iF {off:Nat} {xs:List PV} (h:b= .fp off xs):Lv (aU []) σ F (.fp off xs) b:=il h
theorem iA {xs:List AV} (h:b= .agg xs):Lv (aU []) σ F (.agg xs) b:=il h
theorem iN {f:Fn} {xs ys:List AV} (h:b= .fn f xs ys):Lv (aU []) σ F (.fn f xs ys) b:=il h
theorem iI {t:TypeId} {x:AV} (h:b= .ifc t x):Lv (aU []) σ F (.ifc t x) b:=il h
theorem iT {xs:List AV} (h:b= .tup xs):Lv (aU []) σ F (.tup xs) b:=il h
theorem iM {id:az} (h:b= .mp id):Lv (aU []) σ F (.mp id) b:=il h
theorem iZ (h:b= .z):Lv (aU []) σ F .z b:=il h
theorem iD (h:b= .dead):Lv (aU []) σ F .dead b:=il h
end

class jX (b:Bool) (p q:outParam Prop):Prop where
 t:b=true→p
 f:b=false→q
instance (priority:=10) boolAny (b:Bool):jX b (b=true) (b=false):=⟨id,id⟩
instance (priority:=20) boolDec (p:Prop) [Decidable p]:jX (decide p) p (¬ p):=⟨of_decide_eq_true,of_decide_eq_false⟩
instance NN (a b:Int) [Decidable (a < b)]:jX (decide (a < b)) (a < b) (b≤a):=⟨of_decide_eq_true,fun h=> Int.not_lt.1 (of_decide_eq_false h)⟩
instance NG (a b:Int) [Decidable (a≤b)]:jX (decide (a≤b)) (a≤b) (b < a):=⟨of_decide_eq_true,fun h=> Int.not_le.1 (of_decide_eq_false h)⟩
instance Nz (a b:Int):jX (a==b) (a=b) (¬ a=b):=⟨beq_iff_eq.1,beq_eq_false_iff_ne.1⟩
instance MT (a b:Int):jX (a !=b) (¬ a=b) (a=b):=⟨bne_iff_ne.1,bne_eq_false_iff_eq.1⟩
instance KQ (b:Bool) (p q:Prop) [h:jX b p q]:jX (!b) q p:=⟨fun e=> h.f (by simpa using e),fun e=> h.t (by simpa using e)⟩
theorem ax {rb:Bool} {P:Program} {Q:Exit→St→Prop} {σ:St} {x:Operand} {t e:Code} {b:Bool} {p q:Prop} [h:jX b p q] (hx:σ.eval x= .v (.bool b)) (h1:p→D rb P t Q σ) (h2:q→D rb P e Q σ):D rb P (.cond x t e) Q σ:=
 EE hx (fun e=> h1 (h.t e)) (fun e=> h2 (h.f e))
theorem cj {rb:Bool} {P:Program} {Q:Exit→St→Prop} {σ:St} {ops:Array Oper} {rest:List Oper} {d:Nat} {b:Bool} {p q:Prop} [h:jX b p q] (h1:p→DL rb P ops Q rest (σ.put (some d) (.v (.bool true)))) (h2:q→DL rb P ops Q rest (σ.put (some d) (.v (.bool false)))):DL rb P ops Q rest (σ.put (some d) (.v (.bool b))):=
 DA (fun e=> h1 (h.t e)) (fun e=> h2 (h.f e))
theorem nX {P:Program} {σ:St} {all:List Oper} {W:List Nat} {I:List az} {AA:List (List az)} {Kont:List Res→Prop} {os:List Oper} {rs:List Res} {b:Bool} {p q:Prop} [h:jX b p q] (h1:p→AnyOps P all W I AA σ Kont os (rs++[(.v (.bool true),[])])) (h2:q→AnyOps P all W I AA σ Kont os (rs++[(.v (.bool false),[])])):
  AnyOps P all W I AA σ Kont os (rs++[(.v (.bool b),[])]):=yW (fun e=> h1 (h.t e)) (fun e=> h2 (h.f e))

mutual
def AV.flat:AV→Bool
 | .sl _ _=> false
 | .fp _ _=> false
 | .agg xs=> AV.flats xs
 | .fn _ xs ys=> AV.flats xs && AV.flats ys
 | .ifc _ a=> a.flat
 | .tup xs=> AV.flats xs
 | _=> true
def AV.flats:List AV→Bool
 | []=> true
 | a::l=> a.flat && AV.flats l
end
theorem gL: ∀ {l:List AV},AV.flats l=true→ ∀ a∈l,a.flat=true
 | [],_,a,h=> by simp at h
 | b::l,hl,a,h=> by
  simp only [AV.flats,Bool.and_eq_true] at hl
  rcases List.mem_cons.1 h with rfl | h
  ·exact hl.1
  exact gL hl.2 a h
theorem Rep.flat {ι:az→Option eC} {S T:Nat→Prop} {w:World} {a:AV} {x:Value} (h:Rep ι S w a x):a.flat=true→Rep ι T w a x:=by
 induction h with
 | dead=> intro _;exact .dead
 | v=> intro _;exact .v
 | sl h=> intro hf;simp [AV.flat] at hf
 | fp h=> intro hf;simp [AV.flat] at hf
 | ref h h1=> intro _;exact .ref h h1
 | ptr h h1=> intro _;exact .ptr h h1
 | agg h1 h2 h ih=> intro hf;simp only [AV.flat] at hf;exact .agg h1 h2 fun j a ha=> ih j a ha (gL hf a (List.mem_of_getElem? ha))
 | fn h1 h2 h3 h4 i3 i4=> intro hf;simp only [AV.flat,Bool.and_eq_true] at hf;exact .fn h1 h2 (fun j a ha=> i3 j a ha (gL hf.1 a (List.mem_of_getElem? ha))) fun j a ha=> i4 j a ha (gL hf.2 a (List.mem_of_getElem? ha))
 | ifc h ih=> intro hf;simp only [AV.flat] at hf;exact .ifc (ih hf)
 | z=> intro _;exact .z
 | mp h h1=> intro _;exact .mp h h1
 | tup h1 h ih=> intro hf;simp only [AV.flat] at hf;exact .tup h1 fun j a ha=> ih j a ha (gL hf a (List.mem_of_getElem? ha))
def Cells.Flat:Cells→Prop
 | .row _ _ xs=> ∀ p∈xs,∃ x,p=PV.v x
 | .box _ xs=> AV.flats xs=true
 | .rowA _ _ xs=> AV.flats xs=true
 | _=> True
theorem ObjOk.flatO {ι:az→Option eC} {S T:Nat→Prop} {w:World} {id:az} {o:Cells} (h:ObjOk ι S w id o) (hf:o.Flat):ObjOk ι T w id o:=by
 cases o with
 | row e sz xs=>
  obtain ⟨B,h1,h2,h3⟩:=h
  refine ⟨B,h1,h2,h3.next (fun _ _=> rfl) fun j u hu p hp=> ?_⟩
  obtain ⟨x,rfl⟩:=hf p (List.mem_of_getElem? hp)
  cases hu _ hp with
  | v h=> exact .v h
 | box e xs=>
  obtain ⟨B,g,h1,h2,h3,h4⟩:=h
  exact ⟨B,g,h1,h2,h3,h4.next (fun _ _=> rfl) fun j u hu p hp=> (hu p hp).flat (gL hf p (List.mem_of_getElem? hp))⟩
 | rowA e sz xs=>
  obtain ⟨B,h1,h2,h3⟩:=h
  exact ⟨B,h1,h2,h3.next (fun _ _=> rfl) fun j u hu p hp=> (hu p hp).flat (gL hf p (List.mem_of_getElem? hp))⟩
 | mp es clock=> exact h
 | it m since seen stepped=> exact h

section
variable {P:Program} {σ τ:St}
def St.join (σ τ:St):St:={ σ with ob:=fun id=> iX (σ.ob id) (τ.ob id) }
theorem jR {s:Slot} (h:s= .free) (t:Slot):iX s t=t:=by rw [h];rfl
theorem qG {s t:Slot} (h:t= .free):iX s t=s:=by rw [h];cases s <;> rfl
open Classical in
theorem RelI.join {K Kc:lV} {ι ι2:az→Option eC} {S S2 T:Nat→Prop} {a:Act} {w w':World} {v:Value} (R:RelI K ι S σ a w) (R2:RelI Kc ι2 S2 τ ⟨#[v],[]⟩ w') (hw:Kc.w0=w) (hown: ∀ g,¬ Kc.own g)
  (hTS: ∀ g,T g→S2 g) (hT: ∀ g,T g→S g∨w.heap.size≤g) (hob: ∀ id o,τ.ob id= .obj o→ObjOk ι2 T w' id o) (hinc: ∀ id,τ.inc id=false) (hdis: ∀ id,τ.ob id= .free∨σ.ob id= .free):
  RelI K (fun id=> if τ.ob id= .free then ι id else ι2 id) (fun g=> S g∨T g) (σ.join τ) a w':=by
 subst hw
 have hb:Below Kc.w0.heap.size Kc.w0 w':=⟨R2.keeps.os,R2.keeps.tape,R2.keeps.output,R2.keeps.size,fun g hg=> R2.keeps.block g hg (hown g)⟩
 have hfre: ∀ {id},τ.ob id≠ .free→σ.ob id= .free:=fun {id} h=> (hdis id).resolve_left h
 have hge: ∀ id B g,ι2 id=some B→B.g=some g→Kc.w0.heap.size≤g:=fun id B g h1 h2=> (R2.sep id B g h1 h2).2.2 (hinc id)
 refine R.gen (fun id=> τ.ob id≠ .free) (.of_below hb) (fun id h=> ?_) (fun id h=> ?_) (fun _ _=> rfl) (fun id h=> ?_) (fun g h=> .inl h) (fun g h=> ?_) (fun g h=> ?_) (fun id B h _=> .inr (hfre h)) (fun id o h ho=> ?_) (fun id B h hB=> ?_) (fun id id' B B' g h hB hB' hg hg'=> ?_) (fun id B g h hB hg=> ?_) (fun id x o h hp=> ?_)
 ·simp only [ne_eq,Decidable.not_not] at h;simp [h]
 ·simp only [ne_eq,Decidable.not_not] at h
  exact qG h
 ·revert h
  show iX _ _=_→_
  cases σ.ob id <;> intro h <;> first | rfl | cases h
 ·rcases h with h | h
  ·exact .inl h
  exact (hT g h).imp id .inl
 ·rcases h with h | h
  ·exact Nat.lt_of_lt_of_le (R.Slt g h) hb.size
  exact R2.Slt g (hTS g h)
 ·have e:iX (σ.ob id) (τ.ob id)= .obj o:=ho
  rw [jR (hfre h)] at e
  refine ⟨(hob id o e).next (by simp [h]) (fun _ _ _ _=> rfl) (fun _ _=> rfl) (fun g hg=> .inr hg) (fun id' B hi hB=> ?_),fun id' hi=> ?_⟩
  ·have hn:=R2.clo id o id' e hi
   simpa [hn] using hB
  have hn:=R2.clo id o id' e hi
  show iX _ _≠_
  rw [jR (hfre hn)];exact hn
 ·rw [if_neg h] at hB
  obtain ⟨o,ho⟩:=R2.dom id B hB
  exact ⟨o,by show iX _ _=_;rw [jR (hfre h)];exact ho⟩
 ·rw [if_neg h] at hB
  by_cases h':τ.ob id'= .free
  ·rw [if_pos h'] at hB'
   have:=R.lt hB' hg'
   have:=hge id B g hB hg
   omega
  rw [if_neg h'] at hB'
  exact R2.inj id id' B B' g hB hB' hg hg'
 ·rw [if_neg h] at hB
  have h1:=hge id B g hB hg
  refine ⟨fun hs=> ?_, .inr (Nat.le_trans R.keeps.size h1),fun _=> Nat.le_trans R.keeps.size h1⟩
  rcases hs with hs | hs
  ·have:=R.Slt g hs;omega
  exact (R2.sep id B g hB hg).1 (hTS g hs)
 rw [R.pf id (hfre h)] at hp;cases hp
variable {o:Oper}
theorem RelI.joinPut {K Kc:lV} {ι ι2:az→Option eC} {S S2 T:Nat→Prop} {a:Act} {w w':World} {v:Value} {d:Option Tmp} (R:RelI K ι S σ a w) (R2:RelI Kc ι2 S2 τ ⟨#[v],[]⟩ w') (hw:Kc.w0=w) (hown: ∀ g,¬ Kc.own g)
  (hTS: ∀ g,T g→S2 g) (hT: ∀ g,T g→S g∨w.heap.size≤g) (hob: ∀ id o,τ.ob id= .obj o→ObjOk ι2 T w' id o) (hr:Rep ι2 T w' (τ.fr 0) v) (hinc: ∀ id,τ.inc id=false) (hdis: ∀ id,τ.ob id= .free∨σ.ob id= .free):
  ∃ ι' S',RelI K ι' S' ((σ.join τ).put d (τ.fr 0)) (a.put d v) w':=by
 refine ⟨_,_,(R.join R2 hw hown hTS hT hob hinc hdis).put d (hr.next (fun _ _=> rfl) (fun g h=> .inr h) fun id B hi hB=> ?_) fun id hi=> ?_⟩
 ·have hn:=R2.cl 0 id hi
  simpa [hn] using hB
 have hn:=R2.cl 0 id hi
 show iX _ _≠_
 rw [jR ((hdis id).resolve_left hn)];exact hn
theorem Bl {σf:St} {f:FuncId} {avs:List AV} (hl:Le σf σ) (hE:EntersAt P o σf f avs) {args:List AV} (sp:Spec P f (aI args []) τ) (ha:ey σf (fun _=> true) avs args) (hp:AV.pures args=true) (hn:τ.n=1) (hinc: ∀ id,τ.inc id=false) (hdis: ∀ id,τ.ob id= .free∨σ.ob id= .free)
  (hf:(τ.fr 0).flat=true) (hfo: ∀ id o,τ.ob id= .obj o→o.Flat):ik P o σ ((σ.join τ).put o.dst (τ.fr 0)):=by
 intro K ι S a w R
 obtain ⟨ι1,S1,Rf⟩:=hl K ι S a w R
 obtain ⟨vs,hrun,hvs,hrep⟩:=hE K ι1 S1 a w Rf
 have R1:=Rf.args ha hp hvs hrep
 refine hU hrun (sp _ _ _ _ w rfl rfl R1) ?_
 rintro e w' ⟨v,ι',S',rfl,R2⟩
 refine ⟨v,rfl,R.joinPut (T:=fun _=> False) R2 rfl (fun _ h=> h) (fun _ h=> h.elim) (fun g hg=> hg.elim) (fun id o h=> (R2.ob id o h).flatO (hfo id o h)) ?_ hinc hdis⟩
 have:=R2.fr 0 ab
 exact (by simpa using this:Rep ι' S' w' (τ.fr 0) v).flat hf
def St.joinL (σ τ:St):St:={ σ with ob:=fun id=> iX (τ.ob id) (σ.ob id) }
theorem CN (hdis: ∀ id,τ.ob id= .free∨σ.ob id= .free):σ.joinL τ=σ.join τ:=by
 refine St.eq rfl (fun _=> rfl) (fun id=> ?_) rfl rfl
 show iX (τ.ob id) (σ.ob id)=iX (σ.ob id) (τ.ob id)
 rcases hdis id with h | h
 ·rw [jR h,qG h]
 rw [jR h,qG h]
theorem pT {dd:Option Tmp} {ty:TypeId} {σf:St} {f:FuncId} {xs:Array Operand} {ats:Array TypeId} (C:bU P f) (hl:Le σf σ) {args:List AV} (ha:ey σf (fun _=> true) (xs.toList.map σf.eval) args) (sp:Spec P f (aI args []) τ)
  (hp:AV.pures args=true) (hn:τ.n=1) (hinc: ∀ id,τ.inc id=false) (hdis: ∀ id,τ.ob id= .free∨σ.ob id= .free) (hf:(τ.fr 0).flat=true) (hfo: ∀ id o,τ.ob id= .obj o→o.Flat):Stp P dd (.call { callee:= .value (.func f),args:=xs,argTypes:=ats }) ty σ ((σ.joinL τ).put dd (τ.fr 0)):=
 fun o hd ho ht=> by subst hd;rw [CN hdis];exact Bl hl (.fnc ho C) sp ha hp hn hinc hdis hf hfo
theorem qg {r:AV}: ∀ {outs:List (az×Cells)},(∀ x∈outs,x.2.Flat)→ ∀ id o,(aA r outs).ob id= .obj o→o.Flat:=fun h id o ho=> h (id,o) (dB ho)
theorem tE {r:AV} {outs:List (az×Cells)} (h: ∀ x∈outs,σ.ob x.1= .free) (id:az):(aA r outs).ob id= .free∨σ.ob id= .free:=by
 by_cases hm:id∈outs.map (·.1)
 ·obtain ⟨x,hx,rfl⟩:=List.mem_map.1 hm
  exact .inr (h x hx)
 left
 show iO outs id= .free
 have: ∀ {l:List (az×Cells)},id∉l.map (·.1)→iO l id= .free:=by
  intro l
  induction l with
  | nil=> intro _;rfl
  | cons x l ih=>
   intro h
   simp only [List.map_cons,List.mem_cons,not_or] at h
   simp only [iO,gD h.1,cond_false]
   exact ih h.2
 exact this hm
theorem Spec.named {f:FuncId} {σ0:St} (id:az) {n:Nat} {e:TypeId} {sz:Nat} {xs:List PV} (h:Spec P f σ0 (aA (.ref (0,8) 0 n) [((0,8), .row e sz xs)])):Spec P f σ0 (aA (.ref id 0 n) [(id, .row e sz xs)]):=by
 have h1:aU [(id,(0,8))] id=(0,8):=by simp [aU,dO]
 have h2:cr id [id]=true:=by simp [cr,dO]
 refine h.mono (Le.outO (I:=[]) (Pn:=[]) [(id,(0,8))] [] (ca h1 rfl) ?_ rfl ?_ trivial ⟨⟨?_,⟨_,?_, .rowE rfl⟩,?_⟩,trivial⟩)
 ·simp [AV.within,h2]
 ·simp [bh,cr]
 ·rfl
 ·rw [h1];rfl
 rfl
end

def jQ:List (Int×Value)→Nat→List MapEntry
 | [],_=> []
 | p::l,i=> ⟨.int .i64 p.1,p.2,i⟩::jQ l (i+1)
def em (M:List (Int×Value)):List MapEntry:=jQ M 0
theorem rH: ∀ (M:List (Int×Value)) (i:Nat),(jQ M i).length=M.length
 | [],_=> rfl
 | p::l,i=> by simp [jQ,rH l]
@[simp] theorem Bp (M:List (Int×Value)):(em M).length=M.length:=rH M 0
theorem rR: ∀ (M:List (Int×Value)) (i j:Nat),(jQ M i)[j]? =(M[j]?).map fun p=> ⟨.int .i64 p.1,p.2,i+j⟩
 | [],_,_=> by simp [jQ]
 | p::l,i,0=> by simp [jQ]
 | p::l,i,j+1=> by
  simp only [jQ,List.getElem?_cons_succ,rR l]
  rw [show i+1+j=i+(j+1) by omega]
theorem jT (M:List (Int×Value)) (j:Nat):(em M)[j]? =(M[j]?).map fun p=> ⟨.int .i64 p.1,p.2,j⟩:=by rw [em,rR,Nat.zero_add]
theorem rp: ∀ (M:List (Int×Value)) (p:Int×Value) (i:Nat),jQ (M++[p]) i=jQ M i++[⟨.int .i64 p.1,p.2,i+M.length⟩]
 | [],p,i=> rfl
 | q::l,p,i=> by
  simp only [List.cons_append,jQ,rp l,List.length_cons]
  rw [show i+1+l.length=i+(l.length+1) by omega]
theorem Bv (M:List (Int×Value)) (p:Int×Value):em (M++[p])=em M++[⟨.int .i64 p.1,p.2,M.length⟩]:=by rw [em,rp,Nat.zero_add];rfl
def nw (k:Int):List (Int×Value)→Nat→Option (Nat×Value)
 | [],_=> none
 | p::l,i=> if k=p.1 then some (i,p.2) else nw k l (i+1)
def oL (M:List (Int×Value)) (k:Int):Option Value:=(nw k M 0).map (·.2)
theorem nz (k:Int): ∀ (M:List (Int×Value)) (b i:Nat),Instr.findNow (.int .i64) (.int .i64 k) (jQ M b) i=some (nw k M i)
 | [],_,_=> rfl
 | p::l,b,i=> by
  simp only [jQ,Instr.findNow,Instr.sameNow,if_true,nw]
  by_cases h:k=p.1
  ·simp [h]
  simp only [beq_eq_false_iff_ne.2 h,if_neg h]
  exact nz k l (b+1) (i+1)

variable {P:Program} {T k e:TypeId}
theorem xS {w:World} {b:Bool} {v:Value} (hk:P.underlying k=some (.int .i64)):(Instr.checkKey b 10000 k v).run P w= .ok () w:=by
 rw [show (10000:Nat)=9999+1 from rfl,Instr.checkKey]
 simp [run_underlying hk]
theorem xU {w:World} {M:List (Int×Value)} {x:Int} (hk:P.underlying k=some (.int .i64)):(Instr.findKey k (.int .i64 x) (em M)).run P w= .ok (nw x M 0) w:=by
 simp [Instr.findKey,run_underlying hk,em,nz]
theorem DH {w:World} {g:Nat} {M:List (Int×Value)} {x:Int} {v:Value} (hT:P.underlying T=some (.map k e)) (hk:P.underlying k=some (.int .i64)) (hb:w.heap[g]? =some (.map (em M).toArray M.length)) (hm:oL M x=none):
  (Instr.mapUpdate T (.map (some g)) (.int .i64 x) v).run P w= .ok () (w.putObj g (.map (em (M++[(x,v)])).toArray (M++[(x,v)]).length)):=by
 have hf:nw x M 0=none:=by
  unfold oL at hm
  cases h:nw x M 0 with
  | none=> rfl
  | some p=> rw [h] at hm;cases hm
 simp only [Instr.mapUpdate,Sem.run_bind,run_underlying hT,Result.andThen_ok,getObj,setObj,Sem.run,hb,Result.andThen,xS hk,xU hk,hf,Bv]
 simp [World.putObj]

section
variable {σ:St}
theorem RelI.mapAt {K:lV} {ι:az→Option eC} {S:Nat→Prop} {a:Act} {w:World} (R:RelI K ι S σ a w) {x:Operand} {id:az} (hx:σ.eval x= .mp id) {es:List MapEntry} {c:Nat} (hid:σ.ob id= .obj (.mp es c)):
  ∃ B g,ι id=some B∧B.g=some g∧a.eval x= .map (some g)∧w.heap[g]? =some (.map es.toArray c):=by
 obtain ⟨B,g,h1,h2,h3⟩:=R.ob id _ hid
 have hr:=R.eval x
 rw [hx] at hr
 generalize hu:a.eval x=u at hr
 cases hr with
 | mp h _=>
  obtain ⟨g',hg',rfl⟩:=h B h1
  rw [h2] at hg'
  obtain rfl:=Option.some.inj hg'
  exact ⟨B,g,h1,h2,rfl,h3⟩
theorem IT {dd:Option Tmp} {ty:TypeId} (id:az) (hid:σ.ob id= .free):Stp P dd (.makeMap T none) ty σ ((σ.setOb id (.obj (.mp [] 0))).put dd (.mp id)):=by
 intro o hd ho ht
 subst hd
 intro K ι S a w R
 have hrun:(execOp a.eval o).run P w= .ok (.value (.map (some w.heap.size))) (w.alloc (.map #[] 0)):=by
  simp [execOp,ho,Instr.makeMap,newObj];rfl
 have R1:=R.new (id:=id) (o:= .mp [] 0) (B:=⟨some w.heap.size,0,0⟩) hid ((Below.refl _ _).alloc (Nat.le_refl _) _) (fun g hg=> by obtain rfl:=Option.some.inj hg;exact Nat.le_refl _)
  ⟨_,_,cd _ _ _,rfl,heap_alloc_new w _⟩ (fun i hi=> hi.elim)
 refine bH hrun ⟨_,S,R1.put o.dst (.mp (fun B hB=> ?_) rfl) fun i hi=> ?_⟩
 ·rw [cd] at hB
  obtain rfl:=Option.some.inj hB
  exact ⟨_,rfl,rfl⟩
 cases hi;rw [St.setOb_same];intro h;cases h
def KK (P:Program) (d:Option Tmp) (op:Op) (ty:TypeId) (σ:St) (Φ:St→Prop):Prop:= ∀ o:Oper,o.dst=d→o.op=op→o.type=ty→ ∀ K ι S a w,RelI K ι S σ a w→eS P o a.eval w fun v w'=> ∃ σ',Φ σ'∧ ∃ ι' S',RelI K ι' S' σ' (a.put o.dst v) w'
theorem Ds {rb:Bool} {Q:Exit→St→Prop} {ops:Array Oper} {rest:List Oper} {Φ:St→Prop} {d:Option Tmp} {op:Op} {ty:TypeId} {p:String} {af:Array Edge} (hs:KK P d op ty σ Φ) (h: ∀ σ',Φ σ'→DL rb P ops Q rest σ'):DL rb P ops Q (⟨d,op,ty,p,af,none⟩::rest) σ:=by
 intro K a w hr ⟨ι,S,R⟩
 refine wpListIn_plain rfl fun Kx hK=> dL (hs _ rfl rfl rfl K ι S a w R) ?_
 rintro v w' ⟨σ',hΦ,ι',S',R'⟩
 exact hK _ _ (h σ' hΦ K _ _ hr ⟨ι',S',R'⟩)
end
end Go.Proofs.YtmjnackchaahbaaGreat
