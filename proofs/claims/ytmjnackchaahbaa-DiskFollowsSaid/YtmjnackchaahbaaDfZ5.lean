/- part 5 -/
import Derived.DataReads
import Derived.ChangeSlices
import Derived.WalkKit
import Derived.ChangeOld
import Derived.SizedLaws
import Derived.ChangeKeysEq
import Derived.RangeFuncNested
import Derived.Maps.RangeRun
import Derived.Test.YtmjnackchaahbaaDfZ4
set_option linter.unusedSimpArgs false
set_option linter.unusedVariables false
namespace Go.Proofs.Ytmjnackchaahbaa
open Go.RowKit

def fT {α:Type} (pl:Nat→Option (Nat×Nat)):List α→List (Nat×List α)→Option (List α)
  | cs,[]=> some cs
  | cs,(i,vs)::rest=> match pl i with
    | some (off,size)=> bif Nat.beq vs.length size && Nat.ble (off+size) cs.length then fT pl (cQ cs off vs) rest else none
    | none=> none

class Bld (P:Program) (t:TypeId) (z:outParam (List Value)) (pl:outParam (Nat→Option (Nat×Nat))):Prop where
  out: ∀ (parts:Array (Nat×Value)) (cs:Array Value) (w:World),Instr.fill pl z.toArray parts.toList=some cs→(Instr.build t parts).run P w= .ok (.agg cs) w
  one: ∀ u∈z,u.oneCell'=true

theorem Bld.struct {P:Program} {t:TypeId} {z:List Value} {fs:Array Field} {bytes:Nat} (zv:Value) (pl:List (Nat×Nat)) (h1:P.underlying t=some (.struct fs)) (h2:(P.info? t).map (fun i=> (i.zero,i.size,i.bytes))=some (some zv,z.length,bytes)) (h3:zv.cells=z.toArray)
    (h4: ∀ u∈z,u.oneCell'=true) (hp: ∀ w,(fs.mapM fun f=> do pure (f.offset,← sizeOf f.type):Sem (Array (Nat×Nat))).run P w= .ok pl.toArray w):Bld P t z (fun i=> pl[i]?):=by
  obtain ⟨i,hi,a,b,c⟩:=info_parts h2
  refine ⟨fun parts cs w hf=> ?_,h4⟩
  have hp':=hp w
  have hz:(zeroValue t).run P w= .ok zv w:=by simp [zeroValue,typeInfo,hi,a]
  simp only [Instr.build,Sem.run_bind,hz,run_underlying h1,Result.andThen_ok,hp',h3,Sem.run_pure,List.getElem?_toArray,hf]
theorem Bld.array {P:Program} {t e:TypeId} {z:List Value} {n size bytes:Nat} (zv:Value) (h1:P.underlying t=some (.array n e)) (h2:(P.info? t).map (fun i=> (i.zero,i.size,i.bytes))=some (some zv,z.length,bytes)) (h3:zv.cells=z.toArray)
    (h4: ∀ u∈z,u.oneCell'=true) (hs:(P.info? e).map (·.size)=some size):Bld P t z (fun i=> some (i*size,size)):=by
  obtain ⟨i,hi,a,b,c⟩:=info_parts h2
  obtain ⟨j,hj,hjs⟩:=Option.map_eq_some_iff.1 hs
  refine ⟨fun parts cs w hf=> ?_,h4⟩
  simp [Instr.build,zeroValue,typeInfo,sizeOf,hi,a,h3,run_underlying h1,hj,hjs,hf]

def gC (σ:St):List (Nat×Operand)→Option (List (Nat×List AV))
  | []=> some []
  | (i,x)::l=> match (σ.eval x).cells,gC σ l with
    | some c,some r=> some ((i,c)::r)
    | _,_=> none

theorem hY (pl:Nat→Option (Nat×Nat)) {R:AV→Value→Prop}: ∀ (ps:List (Nat×List AV)) (vs:List (Nat×Value)) (cs:List AV) (us:Array Value) (ys:List AV),fT pl cs ps=some ys→
    vs.length=ps.length→(∀ (j:Nat) (p:Nat×List AV) (v:Nat×Value),ps[j]? =some p→vs[j]? =some v→p.1=v.1∧v.2.cells.size=p.2.length∧(∀ x∈v.2.cells.toList,x.oneCell'=true)∧ ∀ (k:Nat) (b:AV),p.2[k]? =some b→R b (v.2.cells.getD k undef))→
    us.size=cs.length→(∀ u∈us.toList,u.oneCell'=true)→(∀ (k:Nat) (b:AV),cs[k]? =some b→R b (us.getD k undef))→
    ∃ us',Instr.fill pl us vs=some us'∧us'.size=ys.length∧(∀ u∈us'.toList,u.oneCell'=true)∧ ∀ (k:Nat) (b:AV),ys[k]? =some b→R b (us'.getD k undef)
  | [],vs,cs,us,ys,h,hl,_,h1,h2,h3=> by
    obtain rfl:vs=[]:=List.eq_nil_of_length_eq_zero hl
    simp only [fT] at h
    obtain rfl:=Option.some.inj h
    exact ⟨us,rfl,h1,h2,h3⟩
  | (i,c)::ps,vs,cs,us,ys,h,hl,hp,h1,h2,h3=> by
    cases vs with
    | nil=> simp at hl
    | cons v vs=>
      obtain ⟨i',v⟩:=v
      obtain ⟨e1,e2,e3,e4⟩:=hp 0 _ _ rfl rfl
      simp only at e1 e2 e3 e4
      subst e1
      simp only [fT] at h
      split at h
      · rename_i off size hpl
        cases hc:(Nat.beq c.length size && Nat.ble (off+size) cs.length) with
        | false=> rw [hc] at h;cases h
        | true=>
          rw [hc] at h
          simp only [Bool.and_eq_true,Nat.beq_eq,Nat.ble_eq] at hc
          obtain ⟨hc1,hc2⟩:=hc
          subst hc1
          have hf:=iW v.cells.toList off 0 us (by simp [e2];omega)
          simp only [Nat.add_zero] at hf
          have hz:(v.cells.zipIdx.foldl (fun (cs:Array Value) (p:Value×Nat)=> cs.setIfInBounds (off+p.2) p.1) us)=(put us.toList off v.cells.toList).toArray:=by
            rw [← hf,← Array.foldl_toList,Array.toList_zipIdx]
          have hz':(Array.foldl (fun cs (x:Value×Nat)=> match x with | (c,j)=> cs.setIfInBounds (off+j) c) us v.cells.zipIdx)=(put us.toList off v.cells.toList).toArray:=hz
          have hvl:v.cells.toList.length=c.length:=by simpa using e2
          have hcl:off+v.cells.toList.length≤us.toList.length:=by rw [hvl];simp;omega
          have hstep:=hY pl (R:=R) ps vs (cQ cs off c) (cQ us.toList off v.cells.toList).toArray ys h (by simpa using hl) (fun j p q hj hq=> hp (j+1) p q (by simpa using hj) (by simpa using hq))
            (by simp [cp _ _ _ hcl,cp _ _ _ hc2,h1]) (fun u hu=> by
              rcases gu (by simpa using hu) with hu | hu
              · exact h2 u hu
              · exact e3 u hu) (fun k b hb=> by
              rw [cm _ _ _ hc2] at hb
              have hk:(cQ us.toList off v.cells.toList).toArray.getD k undef=((cQ us.toList off v.cells.toList)[k]?).getD undef:=by simp [List.getD_eq_getElem?_getD]
              rw [hk,cm _ _ _ hcl,hvl]
              split at hb
              · rename_i hin
                rw [if_pos hin]
                have:=e4 _ b hb
                simpa using this
              rename_i hin
              rw [if_neg hin]
              have:=h3 k b hb
              simpa using this)
          obtain ⟨us',r1,r2,r3,r4⟩:=hstep
          refine ⟨us',?_,r2,r3,r4⟩
          simp only [Instr.fill,hpl]
          rw [if_neg (by simp [e2];omega)]
          rw [hz']
          exact r1
      cases h

section
variable {P:Program} {σ:St} {o:Oper} {z:List Value}
theorem fX {K:eO} {ι:aw→Option cc} {S:Nat→Prop} {a:Act} {w:World} (R:RelI K ι S σ a w): ∀ (l:List (Nat×Operand)) (r:List (Nat×List AV)),gC σ l=some r→
    l.length=r.length∧(∀ (j:Nat) (p:Nat×List AV) (v:Nat×Value),r[j]? =some p→(l.map fun q=> (q.1,a.eval q.2))[j]? =some v→p.1=v.1∧v.2.cells.size=p.2.length∧(∀ x∈v.2.cells.toList,x.oneCell'=true)∧ ∀ (k:Nat) (b:AV),p.2[k]? =some b→Rep ι S w b (v.2.cells.getD k undef))∧
      ∀ p∈r,∀ b∈p.2,∀ i,Has i b→σ.ob i≠ .free
  | [],r,h=> by simp [gC] at h;subst h;simp
  | (i,x)::l,r,h=> by
    simp only [gC] at h
    split at h
    · rename_i c r' hc hr
      obtain rfl:=Option.some.inj h
      obtain ⟨h1,h2,h3⟩:=fX R l r' hr
      obtain ⟨c1,c2,c3⟩:=(R.eval x).cells hc
      refine ⟨by simp [h1],fun j p v hp hv=> ?_,fun p hp b hb k hk=> ?_⟩
      · cases j with
        | zero=>
          simp at hp hv
          subst hp;subst hv
          exact ⟨rfl,c1,c2,c3⟩
        | succ j=> exact h2 j p v (by simpa using hp) (by simpa using hv)
      rcases List.mem_cons.1 hp with rfl | hp
      · exact R.evalHas x (fA hc hb hk)
      exact h3 p hp b hb k hk
    cases h

theorem gT {pl:Nat→Option (Nat×Nat)} {Q:AV→Prop}: ∀ (ps:List (Nat×List AV)) (cs ys:List AV),fT pl cs ps=some ys→(∀ b∈cs,Q b)→(∀ p∈ps,∀ b∈p.2,Q b)→ ∀ b∈ys,Q b
  | [],cs,ys,h,h1,_=> by
    simp only [fT] at h
    obtain rfl:=Option.some.inj h
    exact h1
  | (i,c)::ps,cs,ys,h,h1,h2=> by
    simp only [fT] at h
    split at h
    · cases hc:(Nat.beq c.length _ && Nat.ble _ cs.length) with
      | false=> rw [hc] at h;cases h
      | true=>
        rw [hc] at h
        exact gT ps _ ys h (fun b hb=> by
          rcases gu hb with hb | hb
          · exact h1 b hb
          exact h2 _ List.mem_cons_self b hb) fun p hp=> h2 p (List.mem_cons_of_mem _ hp)
    cases h

theorem bf {dd:Option Tmp} {ty t:TypeId} {pl:Nat→Option (Nat×Nat)} (parts:Array (Nat×Operand)) (B:Bld P t z pl) {r:List (Nat×List AV)} (hp:gC σ parts.toList=some r) {ys:List AV} (hf:fT pl (z.map AV.v) r=some ys):
    Stp P dd (.build t parts) ty σ (σ.put dd (.agg ys)):=by
  intro o hd ho ht
  subst hd
  refine aY fun K ι S a w R=> ?_
  obtain ⟨h1,h2,h3⟩:=fX R _ _ hp
  obtain ⟨us,u1,u2,u3,u4⟩:=hY pl (R:=Rep ι S w) r (parts.toList.map fun q=> (q.1,a.eval q.2)) (z.map AV.v) z.toArray ys hf (by simp at h1 ⊢;omega) h2 (by simp) (by simpa using B.one) (fun k b hb=> by
    simp only [List.getElem?_map] at hb
    obtain ⟨x,hx,rfl⟩:=Option.map_eq_some_iff.1 hb
    have:z.toArray.getD k undef=x:=by simp [hx]
    rw [this];exact .v)
  refine ⟨.agg us,?_, .agg u2 u3 u4,fun i hi=> ?_⟩
  · have:=B.out (parts.map fun q=> (q.1,a.eval q.2)) us w (by simpa using u1)
    have he:(parts.map fun x=> match x with | (i,x)=> (i,a.eval x))=parts.map fun q=> (q.1,a.eval q.2):=rfl
    simp only [execOp,ho,he,Sem.run_bind,this,Result.andThen_ok,Sem.run_pure]
  cases hi with
  | agg hm hi=>
    refine gT (Q:=fun b=> ∀ i,Has i b→σ.ob i≠ .free) r _ ys hf (fun b hb i hi=> ?_) h3 _ hm i hi
    simp only [List.mem_map] at hb
    obtain ⟨x,_,rfl⟩:=hb
    cases hi

end

theorem Spec.mono {P:Program} {f:FuncId} {σ σ' σ'':St} (h:Spec P f σ σ') (hl:Le σ'' σ'):Spec P f σ σ'':=by
  intro K ι S vs w hK hr R
  refine (h K ι S vs w hK hr R).mono ?_
  rintro e w' ⟨v,ι',S',rfl,R'⟩
  obtain ⟨ι2,S2,R2⟩:=hl K ι' S' _ w' R'
  exact ⟨v,ι2,S2,rfl,R2⟩
theorem lc {ρ:aw→aw} {σ:St} {F:aw→Bool} {id:aw} {e:TypeId} {sz n:Nat} {xs ys:List PV} (hid:σ.ob id= .obj (.row e sz xs)) (hF:F id=true) (hl:n*sz=xs.length) (hy:xs=ys):Lv ρ σ F (.sl n ys) (.ref id 0 n):=
  .frz hid hF (by rw [List.drop_zero,hl,List.take_length,hy]) ab

theorem Le.outO {r r':AV} {obs obs':List (aw×Cells)} {I Pn:List aw} (rn:List (aw×aw)) (Fz:List aw) (hr:Lv (aO rn) (aS r obs' I Pn) (fun i=> bs i Fz) r' r) (hw1:r'.within (obs.map (·.1))=true) (hw2:aU (obs.map (·.1)) obs=true)
    (hd:aV ((obs.map (·.1)).map (aO rn))=true) (hi:cK (aS r obs' I Pn) Fz) (ho:fQ (aO rn) (aS r obs' I Pn) (fun i=> bs i Fz) obs):Le (aX r' obs) (aS r obs' I Pn):=by
  refine Le.gen (n:=1) rn Fz rfl (fun t=> ?_) (fun t id h=> ?_) hw2 hd hi ho
  · show Lv _ _ _ _ (bif Nat.beq t 0 then r else .dead)
    cases hb:Nat.beq t 0 with
    | true=> exact hr
    | false=> exact .dead
  cases hb:Nat.beq t 0 with
  | true=> rw [hb] at h;exact bX r' hw1 h
  | false=> rw [hb] at h;cases h
section
variable {P:Program} {σ:St} {o:Oper} {z:List Value} {T e:TypeId} {size bytes:Nat}

theorem dG {dd:Option Tmp} {ty:TypeId} (len:Nat) (parts:Array (Nat×Operand)) (E:Elem P T e size bytes z) {r:List (List AV)} (hp:gq σ 0 parts.toList=some r) (hlen:r.length=len) (hsz: ∀ c∈r,c.length=size)
    (hb:len*size≤100000) {xs:List PV} (hxs:eo r.flatten=some xs):Stp P dd (.buildSlice T len parts) ty σ (σ.put dd (.sl len xs)):=by
  intro o hd ho ht
  subst hd
  intro K ι S a w R
  obtain ⟨vs,h1,h2,h3,h4,h5,h6⟩:=fS R _ _ _ hp
  obtain ⟨d1,d2⟩:=dv hxs
  have hvsz: ∀ v∈vs,v.cells.size=size:=by
    intro v hv
    obtain ⟨j,hj,rfl⟩:=List.getElem_of_mem hv
    have hjr:j < r.length:=by omega
    rw [h3 j _ _ (List.getElem?_eq_getElem hj) (List.getElem?_eq_getElem hjr)]
    exact hsz _ (List.getElem_mem hjr)
  obtain ⟨v',w',hr,H',hbl,hfr,_⟩:=og (P:=P) (ρ:=a.eval) (SH.start w) len parts ho vs h1 ab hvsz _ rfl h5 hb
  have hrow:=H'.get (i:=0) (x:= .row v' e size len (vs.flatMap fun v=> v.cells.toList)) rfl
  have hxl:xs.length=len*size:=by
    have: ∀ (r:List (List AV)),(∀ c∈r,c.length=size)→r.flatten.length=r.length*size:=by
      intro r
      induction r with
      | nil=> simp
      | cons c r ih=>
        intro h
        rw [List.flatten_cons,List.length_append,ih fun c hc=> h c (List.mem_cons_of_mem _ hc),h c List.mem_cons_self,List.length_cons,Nat.add_mul,Nat.one_mul,Nat.add_comm]
    rw [← d1,this r hsz,hlen]
  have fin: ∀ (S':Nat→Prop),(∀ g,S g→S' g)→(∀ g,S' g→S g∨w.heap.size≤g)→(∀ g,S' g→g < w'.heap.size)→Rd S' w' (.sl len xs) v'→cD P o a.eval w fun v w''=> ∃ ι' S',RelI K ι' S' (σ.put o.dst (.sl len xs)) (a.put o.dst v) w'':=by
    intro S' g1 g2 g3 hrd
    have R3:=R.gen (ι':=ι) (S':=S') (w':=w') (ob':=σ.ob) (inc':=σ.inc) (fun _=> False) (.of_below hbl) (fun _ _=> rfl) (fun _ _=> rfl) (fun _ _=> rfl) (fun _ h=> h) g1
      (fun g h=> by rcases g2 g h with h | h; · exact .inl h
                    exact .inr (.inl h)) g3
      (fun _ _ h=> h.elim) (fun _ _ h=> h.elim) (fun _ _ h=> h.elim) (fun _ _ _ _ _ h=> h.elim) (fun _ _ _ h=> h.elim) (fun _ _ _ h=> h.elim)
    exact bh hr ⟨ι,S',R3.put o.dst (.sl hrd) fun i hi=> ik hi⟩
  rcases du (w:=w') (e:=e) (sz:=size) (n:=len) (v:=v') (us:=vs.flatMap fun v=> v.cells.toList) ⟨hrow.1.1,by
    rcases hrow.1.2 with h | ⟨g,cap,cur,a1,a2,a3⟩
    · exact .inl h
    exact .inr ⟨g,cap,cur,a1,Nat.zero_le _,a3⟩⟩ with ⟨hv,rfl,hu0⟩ | ⟨g,c,cur,hv,hg,hnc,hcm,hcs,hcu⟩
  · subst hv
    have:xs=[]:=List.eq_nil_of_length_eq_zero (by simpa using hxl)
    subst this
    exact fin S (fun _ h=> h) (fun _ h=> .inl h) (fun g h=> Nat.lt_of_lt_of_le (R.Slt g h) hbl.size) (.sl0 (Nat.le_refl _) (by unfold maxLen;omega) fun _=> ⟨rfl,rfl⟩)
  subst hv
  have hgw:w.heap.size≤g:=hfr g rfl
  refine fin (fun k=> S k∨k=g) (fun _ h=> .inl h) (fun k h=> by
    rcases h with h | h
    · exact .inl h
    exact .inr (by rw [h];exact hgw)) (fun k h=> ?_) ?_
  · rcases h with h | h
    · exact Nat.lt_of_lt_of_le (R.Slt k h) hbl.size
    rw [h];exact (Array.getElem?_eq_some_iff.1 hg).1
  have key: ∀ (j:Nat) (p:PV),xs[j]? =some p→ ∃ u,cur[j]? =some u∧Rd (fun k=> S k∨k=g) w' p u:=by
    intro j p hj
    obtain ⟨b,hb',hbd⟩:=d2 j p hj
    obtain ⟨u,hu,hru⟩:=h6 j b hb'
    exact ⟨u,hcu j u hu,(hru.down hbd (h5 u (List.mem_of_getElem? hu))).next (fun k hk=> hbl.block k (R.Slt k hk)) fun _ h=> .inl h⟩
  have:=Rd.sl (S:=fun k=> S k∨k=g) (w:=w') (n:=len) (c:=c) (b:=g) (o:=0) (xs:=xs) (fun j=> cur.getD j undef) hnc hcm (.mk (.inr rfl) hg) (fun j p hj=> ?_) (fun j p hj=> ?_)
  · exact this
  · obtain ⟨u,hu,_⟩:=key j p hj
    simp only [Nat.zero_add,Array.getD_eq_getD_getElem?,hu,Option.getD_some]
    exact bS hg hu
  obtain ⟨u,hu,hru⟩:=key j p hj
  simp only [Array.getD_eq_getD_getElem?,hu,Option.getD_some]
  exact hru
end
section
variable {P:Program} {σ:St} {z:List Value} {T e:TypeId} {size bytes:Nat}

theorem eK (w:World):Below w.heap.size w w:=Below.refl _ _

end

mutual
theorem Lv.same {σ:St} {F:aw→Bool}:(a:AV)→Lv (fun i=> i) σ F a a
  | .dead=> .dead
  | .v _=> .v
  | .sl _ _=> .sl
  | .fp _ _=> .fp
  | .z=> .z
  | .mp _=> .mp (ρ:=fun i=> i)
  | .ref _ _ _=> .ref (ρ:=fun i=> i)
  | .ptr _ _=> .ptr (ρ:=fun i=> i)
  | .agg xs=> .agg rfl fun j a b ha hb=> by
      rw [ha] at hb;cases hb;exact Lv.sames xs j a ha
  | .fn f xs us=> .fn rfl (fun j a b ha hb=> by
      rw [ha] at hb;cases hb;exact Lv.sames xs j a ha) rfl fun j a b ha hb=> by
      rw [ha] at hb;cases hb;exact Lv.sames us j a ha
  | .ifc t a=> .ifc (Lv.same a)
  | .tup xs=> .tup rfl fun j a b ha hb=> by
      rw [ha] at hb;cases hb;exact Lv.sames xs j a ha
theorem Lv.sames {σ:St} {F:aw→Bool}:(xs:List AV)→(j:Nat)→(a:AV)→xs[j]? =some a→Lv (fun i=> i) σ F a a
  | [],_,_,h=> by simp at h
  | x::xs,0,a,h=> by simp at h;subst h;exact Lv.same x
  | x::xs,j+1,a,h=> Lv.sames xs j a (by simpa using h)
end
theorem LvO.same {σ:St} {F:aw→Bool}:(o:Cells)→LvO (fun i=> i) σ F o o
  | .row _ _ xs=> .row (List.append_nil xs).symm
  | .box _ xs=> .box rfl fun j a b ha hb=> by
      rw [ha] at hb;cases hb;exact Lv.sames xs j a ha
  | .rowA _ _ xs=> .rowA rfl fun j a b ha hb=> by
      rw [ha] at hb;cases hb;exact Lv.sames xs j a ha
  | .mp _ _=> .mp
  | .it _ _ _ _=> .it (ρ:=fun i=> i)

theorem Le.frzB {σ:St} (ib:aw) (j:Nat) {T:TypeId} {cs:List AV} {id:aw} {off n:Nat} {e:TypeId} {sz:Nat} {xs ys:List PV} (hb:σ.ob ib= .obj (.box T cs)) (hr:cs[j]? =some (.ref id off n)) (hid:σ.ob id= .obj (.row e sz xs)) (hi:σ.inc id=false) (hy:(xs.drop off).take (n*sz)=ys) (hl:off+n*sz≤xs.length):
    Le ((σ.setOb id .gone).setOb ib (.obj (.box T (cs.set j (.sl n ys))))) σ:=by
  intro K ι S a w R
  have hne:dL ib id=false:=by
    cases h:dL ib id with
    | true=> rw [oeq_iff.1 h,hid] at hb;cases hb
    | false=> rfl
  have hob: ∀ i o,((σ.setOb id .gone).setOb ib (.obj (.box T (cs.set j (.sl n ys))))).ob i= .obj o→dL i id=false∧((dL i ib=false∧σ.ob i= .obj o)∨(i=ib∧o= .box T (cs.set j (.sl n ys)))):=by
    intro i o h
    simp only [St.setOb] at h
    cases h1:dL i ib with
    | true=>
      rw [h1] at h
      have:=oeq_iff.1 h1
      subst this
      cases h
      exact ⟨hne, .inr ⟨rfl,rfl⟩⟩
    | false=>
      rw [h1] at h
      cases h2:dL i id with
      | true=> rw [h2] at h;cases h
      | false=> rw [h2] at h;exact ⟨rfl, .inl ⟨rfl,h⟩⟩
  have hnf: ∀ i,σ.ob i≠ .free→((σ.setOb id .gone).setOb ib (.obj (.box T (cs.set j (.sl n ys))))).ob i≠ .free:=by
    intro i h h'
    simp only [St.setOb] at h'
    cases h1:dL i ib with
    | true=> rw [h1] at h';cases h'
    | false=>
      rw [h1] at h'
      cases h2:dL i id with
      | true=> rw [h2] at h';cases h'
      | false=> rw [h2] at h';exact h h'
  refine Le.of (σ1:=(σ.setOb id .gone).setOb ib (.obj (.box T (cs.set j (.sl n ys))))) (σ2:=σ) (fun i=> i) (fun i=> dL i id) rfl (fun u hu=> Lv.same _) (fun i o h=> ?_) (fun _ _ _ _ _ _ h=> h) (fun i h=> ?_) (fun i o h h'=> h') (fun u i h=> hnf i (R.cl u i h)) (fun i o k h h'=> ?_) (fun i h o hp ho=> hp) (fun i h=> ?_) K ι S a w R
  · obtain ⟨h1,⟨_,h2⟩ | ⟨rfl,rfl⟩⟩:=hob i o h
    · exact ⟨h1,o,h2,LvO.same o⟩
    refine ⟨h1,_,hb, .box (by simp) fun k a b ha hb'=> ?_⟩
    by_cases hk:j=k
    · subst hk
      rw [hr] at hb';cases hb'
      have hjl:j < cs.length:=(List.getElem?_eq_some_iff.1 hr).1
      rw [List.getElem?_set_self hjl] at ha;cases ha
      exact .frz hid (bN id) hy hl
    rw [List.getElem?_set_ne hk,hb'] at ha;cases ha;exact Lv.same _
  · rw [oeq_iff.1 h];exact hi
  · obtain ⟨h1,⟨_,h2⟩ | ⟨rfl,rfl⟩⟩:=hob i o h
    · exact hnf k (R.clo i o k h2 h')
    obtain ⟨x,hx,hk⟩:=h'
    rcases List.mem_or_eq_of_mem_set hx with hx | hx
    · exact hnf k (R.clo _ _ k hb ⟨x,hx,hk⟩)
    subst hx;cases hk
  refine R.pf i ?_
  simp only [St.setOb] at h
  cases h1:dL i ib with
  | true=> rw [h1] at h;cases h
  | false=>
    rw [h1] at h
    cases h2:dL i id with
    | true=> rw [h2] at h;cases h
    | false=> rw [h2] at h;exact h

theorem Le.nilB {σ:St} (ib:aw) (j:Nat) (id:aw) (e:TypeId) (sz:Nat) {T:TypeId} {cs:List AV} (hb:σ.ob ib= .obj (.box T cs)) (hr:cs[j]? =some (.v (.slice none 0 0))) (hid:σ.ob id= .free):
    Le ((σ.setOb id (.obj (.row e sz []))).setOb ib (.obj (.box T (cs.set j (.ref id 0 0))))) σ:=by
  intro K ι S a w R
  have R1:=R.new (w':=w) (o:= .row e sz []) (B:=⟨none,0,sz⟩) hid (eK w) (fun k hk=> by cases hk) ⟨_,bi _ _ _,rfl, .inl ⟨rfl,rfl,rfl⟩⟩ (fun i hi=> hi.elim)
  have hne:ib≠id:=fun h=> by rw [h,hid] at hb;cases hb
  have hb1:(σ.setOb id (.obj (.row e sz []))).ob ib= .obj (.box T cs):=by rw [St.setOb_ne _ _ hne];exact hb
  obtain ⟨B,g,h1,h2,h3,h4⟩:=R1.ob ib _ hb1
  refine ⟨_,S,R1.upd hb1 h1 (.of_below (eK w)) ⟨B,g,h1,h2,by simpa using h3,?_⟩ ?_⟩
  · rw [List.length_set]
    refine h4.next (fun _ _=> rfl) fun k u hu x hx=> ?_
    by_cases hk:j=k
    · subst hk
      have:=(hu _ hr).toV
      subst this
      rw [List.getElem?_set_self (List.getElem?_eq_some_iff.1 hr).1] at hx
      cases hx
      refine .ref (fun B' hB=> ?_) rfl
      rw [bi] at hB
      obtain rfl:=Option.some.inj hB
      exact ⟨0,Nat.le_refl _,by unfold maxLen;omega,rfl,rfl,rfl⟩
    rw [List.getElem?_set_ne hk] at hx
    exact hu x hx
  rintro i ⟨x,hx,hi⟩
  rcases List.mem_or_eq_of_mem_set hx with hx | hx
  · exact R1.clo ib _ i hb1 ⟨x,hx,hi⟩
  subst hx;cases hi;rw [St.setOb_same];intro h;cases h
section
variable {P:Program} {σ:St} {dd:Option Tmp} {ty:TypeId} {t t':TypeId} {k k':IntKind} {a b:Int}

theorem oY (x y:Operand) (hx:σ.eval x= .v (.int .i64 a)) (hy:σ.eval y= .v (.int .i64 b)) {r:Int} (hr:min a b=r):Stp P dd (.call { callee:= .builtin .min,args:= #[x,y],argTypes:= #[t,t'] }) ty σ (σ.put dd (.v (.int .i64 r))):=by
  intro o hd ho ht
  subst hd
  refine aY fun _ _ _ A w R=> ⟨_,?_, .v,fun _=> cZ⟩
  have h1:=Rep.evV R hx
  have h2:=Rep.evV R hy
  generalize A.eval=ρ at h1 h2
  subst hr
  have hm:min a b=if b < a then b else a:=by omega
  simp [execOp,ho,resolve,invoke,builtin,h1,h2,go_sem,Builtin.min_,Builtin.min2,hm]
end

theorem Sl.rd {w:World} {sz n:Nat} {v:Value} {xs:List Value} (h:Sl w sz v n xs):Rd (fun g=> g < w.heap.size) w (.sl n (xs.map PV.v)) v:=by
  obtain ⟨ao,c,rfl,h1,h2,h3,h4,h5,h6,h7⟩:=h
  cases xs with
  | nil=> exact .sl0 h1 h2 h5
  | cons x xs=>
    have hn:0 < n:=by
      rcases Nat.eq_zero_or_pos n with h | h
      · subst h;simp at h3
      exact h
    obtain ⟨b,off,rfl⟩:=h6 hn
    refine .sl (fun j=> (x::xs).getD j undef) h1 h2 ?_ (fun j p hj=> ?_) (fun j p hj=> ?_)
    · have:=h7 _ rfl 0 x rfl
      refine ⟨World.block_lt_of_cell? w _ this,?_⟩
      simp only [World.cell?,Addr.add_lit] at this
      split at this
      · rename_i c e f hc
        exact ⟨c,e,f,hc⟩
      cases this
    · have hj':j < (x::xs).length:=by
        have:=(List.getElem?_eq_some_iff.1 hj).1
        simpa using this
      have:=h7 _ rfl j _ (List.getElem?_eq_getElem hj')
      simp only [List.getD_eq_getElem?_getD,List.getElem?_eq_getElem hj',Option.getD_some]
      by_cases hj0:j=0
      · subst hj0;simpa [Addr.add] using this
      simpa [Addr.add,hj0] using this
    have hj':j < (x::xs).length:=by
      have:=(List.getElem?_eq_some_iff.1 hj).1
      simpa using this
    rw [List.getElem?_map,List.getElem?_eq_getElem hj'] at hj
    cases hj
    simp only [List.getD_eq_getElem?_getD,List.getElem?_eq_getElem hj',Option.getD_some]
    exact .v (h4 _ (List.getElem_mem hj'))

theorem Spec.law {P:Program} {f:FuncId} {args:List AV} {r:Value} {vs:List Value} {w:World} (sp:Spec P f (bq args []) (aX (.v r) [])) (hp:AV.pures args=true) (hl:vs.length=args.length)
    (h: ∀ (j:Nat) (a:AV) (v:Value),args[j]? =some a→vs[j]? =some v→Rep (fun _=> none) (fun g=> g < w.heap.size) w a v):Calls P f vs.toArray w fun e w'=> e= .returned r∧Below w.heap.size w w':=by
  have hnh: ∀ t id,¬ Has id (args.getD t .dead):=by
    intro t id hh
    by_cases ht:t < args.length
    · have:args.getD t .dead=args[t]:=by simp [ht]
      rw [this] at hh
      exact cU _ hp _ (List.getElem_mem ht) hh
    have:args.getD t .dead= .dead:=by simp [show args.length≤t by omega]
    rw [this] at hh;cases hh
  have R:RelI ⟨w,fun _=> False,fun g=> g < w.heap.size,fun _=> none,none⟩ (fun _=> none) (fun g=> g < w.heap.size) (bq args []) ⟨vs.toArray,[]⟩ w:=by
    have hfree: ∀ i o,(bq args []).ob i≠ .obj o:=fun i o h=> by cases h
    refine { keeps:= .refl _ _,S0:=fun g h=> .inl h,Slt:=fun g h=> h,nt:=by simpa [bq] using hl,df:= .nil,fr:=fun t ht=> ?_,cl:=fun t id hh=> (hnh t id hh).elim,clo:=fun i o j ho=> (hfree i o ho).elim,ob:=fun i o ho=> (hfree i o ho).elim,dom:=fun i B hB=> (by cases hB),inj:=fun i j B B' g hB=> (by cases hB),sep:=fun i B g hB=> (by cases hB),pin:=fun i hh o hp=> (by cases hp),pf:=fun _ _=> rfl }
    replace ht:t < args.length:=ht
    have ht':t < vs.length:=by omega
    have:=h t args[t] vs[t] (List.getElem?_eq_getElem ht) (List.getElem?_eq_getElem ht')
    show Rep _ _ _ (args.getD t .dead) _
    simpa [ht,ht'] using this
  refine (sp _ _ _ _ w rfl rfl R).mono ?_
  rintro e w' ⟨v,ι',S',rfl,R'⟩
  have h0:Rep ι' S' w' (.v r) v:=R'.fr 0 (by show 0 < 1;omega)
  rw [h0.toV]
  refine ⟨rfl,R'.keeps.os,R'.keeps.tape,R'.keeps.output,R'.keeps.size,fun g hg=> R'.keeps.block g hg fun h=> h⟩
def ArgsRep (w:World):List AV→List Value→Prop
  | [],[]=> True
  | a::xs,v::vs=> Rep (fun _=> none) (fun g=> g < w.heap.size) w a v∧ArgsRep w xs vs
  | _,_=> False
theorem ArgsRep.len {w:World}: ∀ {xs:List AV} {vs:List Value},ArgsRep w xs vs→vs.length=xs.length
  | [],[],_=> rfl
  | _::_,_::_,h=> by simp [h.2.len]
  | [],_::_,h=> h.elim
  | _::_,[],h=> h.elim
theorem ArgsRep.at {w:World}: ∀ {xs:List AV} {vs:List Value},ArgsRep w xs vs→ ∀ (j:Nat) (a:AV) (v:Value),xs[j]? =some a→vs[j]? =some v→Rep (fun _=> none) (fun g=> g < w.heap.size) w a v
  | [],_,_,_,_,_,ha,_=> by simp at ha
  | _::_,[],h,_,_,_,_,_=> h.elim
  | _::_,_::_,h,0,_,_,ha,hv=> by simp at ha hv;subst ha;subst hv;exact h.1
  | _::_,_::_,h,j+1,a,v,ha,hv=> h.2.at j a v (by simpa using ha) (by simpa using hv)
theorem Spec.calls {P:Program} {f:FuncId} {args:List AV} {r:Value} {w:World} (sp:Spec P f (bq args []) (aX (.v r) [])) (hp:AV.pures args=true) {vs:List Value} (h:ArgsRep w args vs):Calls P f vs.toArray w fun e w'=> e= .returned r∧Below w.heap.size w w':=
  sp.law hp h.len h.at
end Go.Proofs.Ytmjnackchaahbaa

namespace Go.Proofs.Ytmjnackchaahbaa
open Go.RowKit Go.ChangeShapes Go.WideShapes

theorem nI {n:Int} (h:(Lit.int .i64 n).wf=true): -9223372036854775808≤n∧n≤9223372036854775807:=by
  simp [Lit.wf,IntKind.min,IntKind.max,IntKind.signed,IntKind.bits] at h;omega
section
variable {H:Type} {enc:TypeId×Value→H} {P:Program} {w:World} {base:Nat} {spare:Nat→Bool} {held:Bool}

end
theorem gP (ws:List (List Char)):stripLifts liftWords ("cut".toList::ws)=([], "cut".toList::ws):=by kernel_rfl
theorem hQ {P:Program} {ws:List (List Char)} (h:behindMainWord (wordsSigns P.initOrder.toList)= "cut".toList::ws):P.headLifts=[]:=by
  unfold Program.headLifts;rw [h,gP];kernel_rfl
theorem lO {P:Program} {ws:List (List Char)} (h:behindMainWord (wordsSigns P.initOrder.toList)= "cut".toList::ws):P.make=some .cut:=by
  unfold Program.make;rw [h,hQ h];kernel_rfl
theorem kB {P:Program} {ws:List (List Char)} (h:behindMainWord (wordsSigns P.initOrder.toList)= "cut".toList::ws):P.liftsFinal=false:=by
  unfold Program.liftsFinal;rw [h,hQ h];kernel_rfl
theorem mz {P:Program} {ws:List (List Char)} (h:behindMainWord (wordsSigns P.initOrder.toList)= "cut".toList::ws) (h1:P.laysLater=false) (h2:P.bearsReflect=false) (h3:P.doorFits []=true):P.mayEnter=true:=by
  unfold Program.mayEnter;rw [h];simp only [gP,h1,h2,h3];kernel_rfl
theorem cE {a b:Bool} (h:a=true) (h2:b=true):(a && b)=true:=by rw [h,h2];rfl
section
variable {P:Program} {T e:TypeId} {size bytes:Nat} {z:List Value}
theorem kR [E:Elem P T e size bytes z] (w:World) (ty:TypeId) (a:Addr) (vx:Value) (m:Nat) (news:List Value) (hsl:Sl w size vx m news) (hb:m*bytes≤140737488355328):
    (m=0∧(Builtin.append_ #[T,T] ty #[.slice (some a) 0 0,vx]).run P w= .ok (.slice (some a) 0 0) w)∨
    (Builtin.append_ #[T,T] ty #[.slice (some a) 0 0,vx]).run P w=(Builtin.append_ #[T,T] ty #[.slice none 0 0,vx]).run P w:=by
  obtain ⟨i,zv,hi,hz,hs,hby,hzc⟩:=E.info
  obtain ⟨ao,c,rfl,hmc,hcm,hln,hone,hnil,hpos,hcells⟩:=hsl
  have hl0: ∀ (b:Addr) w,(loadCellsFrom b 0 0 #[]).run P w= .ok #[] w:=fun b w=> by simp [loadCellsFrom]
  rcases Nat.eq_zero_or_pos m with h0 | h0
  · subst h0
    refine .inl ⟨rfl,?_⟩
    cases ao with
    | none=> simp [Builtin.append_,run_underlying E.und,sizeOf,typeInfo,hi,Builtin.lenOf,Builtin.firstCells,storeCells]
    | some b=> simp [Builtin.append_,run_underlying E.und,sizeOf,typeInfo,hi,Builtin.lenOf,Builtin.firstCells,storeCells,loadCells,hl0]
  refine .inr ?_
  have hne: ¬ m=0:=by omega
  have h48: ¬ (2 ^ 48 < Builtin.nextslicecap m 0*i.bytes):=by
    have:=growslice_fits (need:=m) (old:=0) ab hb
    rw [hby];simp at this ⊢;omega
  have h63: ¬ (9223372036854775807 < (m:Int)):=by
    have:m*1≤m*bytes:=Nat.mul_le_mul_left _ E.bpos
    omega
  simp [Builtin.append_,run_underlying E.und,sizeOf,typeInfo,hi,hz,Builtin.lenOf,Builtin.firstCells,loadCells,hne,h48,h63,hl0]

theorem oL {σ:St} {dd:Option Tmp} {ty:TypeId} (parts:Array (Nat×Operand)) (E:Elem P T e size bytes z) (hp:parts= #[]):Stp P dd (.buildSlice T 0 parts) ty σ (σ.put dd .z):=by
  intro o hd ho ht
  subst hd;subst hp
  intro K ι S a w R
  obtain ⟨i,zv,hi,hz,hs,hby,hzc⟩:=E.info
  have hrun:(execOp a.eval o).run P w= .ok (.value (.slice (some ⟨w.heap.size,0,none⟩) 0 0)) (w.alloc (.cells #[] e)):=by
    simp [execOp,ho,Instr.buildSlice,run_underlying E.und,sizeOf,typeInfo,hi,hs,newRow,Instr.fill]
    congr 2
    exact Array.size_eq_zero_iff.1 (by simp)
  have hbl:Below w.heap.size w (w.alloc (.cells #[] e)):=(Below.refl _ _).alloc (Nat.le_refl _) _
  have R3:=R.gen (ι':=ι) (S':=S) (w':=w.alloc (.cells #[] e)) (ob':=σ.ob) (inc':=σ.inc) (fun _=> False) (.of_below hbl) (fun _ _=> rfl) (fun _ _=> rfl) (fun _ _=> rfl) (fun _ h=> h) (fun _ h=> h) (fun _ h=> .inl h) (fun g h=> Nat.lt_of_lt_of_le (R.Slt g h) hbl.size)
      (fun _ _ h=> h.elim) (fun _ _ h=> h.elim) (fun _ _ h=> h.elim) (fun _ _ _ _ _ h=> h.elim) (fun _ _ _ h=> h.elim) (fun _ _ _ h=> h.elim)
  exact bh hrun ⟨ι,S,R3.put o.dst .z fun i hi=> by cases hi⟩
end
theorem AnyOps.imp {P:Program} {all:List Oper} {W:List Nat} {I:List aw} {AA:List (List aw)} {σ:St} {K K':List Res→Prop} (hk: ∀ rs,K rs→K' rs): ∀ {os:List Oper} {rs:List Res},AnyOps P all W I AA σ K os rs→AnyOps P all W I AA σ K' os rs
  | [],rs,h=> hk rs h
  | o::os,rs,⟨r,h1,h2⟩=> ⟨r,h1,AnyOps.imp hk h2⟩
theorem aE {P:Program} {all:List Oper} {W:List Nat} {I:List aw} {AA:List (List aw)} {σ:St} {Kont:List Res→Prop} {os:List Oper} {rs rs':List Res} (h:rs=rs') (hh:AnyOps P all W I AA σ Kont os rs'):AnyOps P all W I AA σ Kont os rs:=h ▸ hh
theorem de {rb:Bool} {P:Program} {Q:Exit→St→Prop} {σ:St} {id:Nat} {l hd tl:List Oper} (n:Nat) (W:List Nat) (I:List aw) (hm:P.follows .mixedOrders=true) (hB:gw l.toArray n=true) (hW:(l.take n).filterMap (·.dst)=W) (hI:I.Nodup)
    (e1:l.take n=hd) (e2:l.drop n=tl) (h:AnyOps P hd W I [] σ (fun rs=> db rs=I∧DL rb P l.toArray Q tl (bH hd rs (fun _=> true) 0 σ)) hd []):D rb P (.region id l.toArray true) Q σ:=by
  subst e1;subst e2
  exact nE n W I [] hm hB hW hI (AnyOps.imp (fun rs h=> ⟨⟨h.1,rfl⟩,h.2⟩) h)
theorem oP {rb:Bool} {P:Program} {Q:Exit→St→Prop} {σ:St} {id:Nat} {l hd tl:List Oper} (n:Nat) (W:List Nat) (I:List aw) (AA:List (List aw)) (hm:P.follows .mixedOrders=true) (hB:gw l.toArray n=true) (hW:(l.take n).filterMap (·.dst)=W) (hI:I.Nodup)
    (e1:l.take n=hd) (e2:l.drop n=tl) (h:AnyOps P hd W I AA σ (fun rs=> (db rs=I∧fC hd rs 0 AA=true)∧DL rb P l.toArray Q tl (bH hd rs (fun _=> true) 0 σ)) hd []):D rb P (.region id l.toArray true) Q σ:=by
  subst e1;subst e2
  exact nE n W I AA hm hB hW hI h
theorem iE {P:Program} {σ:St} {dd:Option Tmp} {ty:TypeId} {T e e':TypeId} {size bytes:Nat} {z:List Value} (x y:Operand) (E:Elem P T e size bytes z) {id:aw} {of0 n:Nat} {xs:List AV} (hx:σ.eval x= .ref id of0 n) (hid:σ.ob id= .obj (.box e' xs))
    {k:IntKind} {I:Int} (hy:σ.eval y= .v (.int k I)) (j:Nat) (hI:I=(j:Int)) (hj:j < n) {off:Nat} (he:of0+j*size=off):Stp P dd (.indexAddr T x y) ty σ (σ.put dd (.ptr id off)):=by
  intro o hd ho ht
  subst hd;subst he;subst hI
  refine aY fun _ ι S a w R=> ?_
  have hi:=R.eval y
  rw [hy] at hi
  have hi:=hi.toV
  obtain ⟨inf,zv,hinf,_,hs,_⟩:=E.info
  obtain ⟨B,g,h1,hg,_,_⟩:=R.ob id _ hid
  have hr:=R.eval x
  rw [hx] at hr
  generalize hu:a.eval x=u at hr
  cases hr with
  | ref h _=>
    obtain ⟨c,h3,h4,h5⟩:=h B h1
    rw [hg] at h5
    obtain ⟨o',h6,h7,_⟩:=h5
    obtain rfl:=h7.resolve_right ab
    subst h6
    refine ⟨.pointer (some ⟨g,o'+j*size,none⟩),?_, .ptr (fun B' hB'=> ?_) rfl,fun i h=> R.evalHas x (by rw [hx];cases h;exact .ref)⟩
    · simp [execOp,ho,Instr.indexAt,hu,hi,asIntOf,run_underlying E.und,sizeOf,typeInfo,hinf,hs,hj,Addr.add_lit]
    rw [h1] at hB'
    obtain rfl:=Option.some.inj hB'
    exact ⟨g,hg,rfl⟩
section
variable {P:Program} {w:World} {o:Oper} {ρ:Operand→Value} {e:TypeId} {z:List Value}
end
section
variable {P:Program} {σ:St} {z:List Value} {T e:TypeId} {size bytes:Nat}
end
def ce (l:List Int):List PV:=l.map fun x=> .v (.int .i64 x)
@[simp] theorem bk (l:List Int):(ce l).length=l.length:=by simp [ce]
theorem ax (l:List Int) (k:Nat) (h:k < l.length):(ce l)[k]? =some (.v (.int .i64 (l.getD k 0))):=by simp [ce,h]
theorem ia (a:List Int) (k:Nat) (x:Int) (h:k < a.length):cQ (ce a) k [.v (.int .i64 x)]=ce (a.set k x):=by rw [lV _ _ _ (by simpa using h)];simp [ce,List.map_set]
theorem iO {α:Type} (l:List α) (k:Nat) (d:α) (h:k < l.length):l.getD k d=l[k]:=by simp [h]

def iz (l:List Bool):List PV:=l.map fun x=> .v (.bool x)
@[simp] theorem cu (l:List Bool):(iz l).length=l.length:=by simp [iz]
theorem aG (l:List Bool) (k:Nat) (h:k < l.length):(iz l)[k]? =some (.v (.bool (l.getD k false))):=by simp [iz,h]
def Rng (l:List Int):Prop:= ∀ x∈l, -9223372036854775808≤x∧x≤9223372036854775807
theorem Rng.at {l:List Int} (h:Rng l) (k:Nat) (hk:k < l.length): -9223372036854775808≤l.getD k 0∧l.getD k 0≤9223372036854775807:=by
  rw [iO _ _ _ hk];exact h _ (List.getElem_mem hk)

theorem je:aO []=fun i=> i:=by funext i;rfl
theorem pz {σ:St} {F:aw→Bool} (a:AV):Lv (aO []) σ F a a:=by rw [je];exact Lv.same a
theorem eI {σ:St} {F:aw→Bool} {a b:AV} (h:b=a):Lv (aO []) σ F a b:=by subst h;exact pz _
theorem oZ {σ:St} {F:aw→Bool} (o:Cells):LvO (aO []) σ F o o:=by rw [je];exact LvO.same o
theorem aq {ρ:aw→aw} {σ:St} {F:aw→Bool} {id id':aw} {off n m:Nat} (hi:ρ id=id') (h:n=m):Lv ρ σ F (.ref id off n) (.ref id' off m):=by subst hi;subst h;exact .ref
theorem aP {ρ:aw→aw} {σ:St} {F:aw→Bool} {id id':aw} {off:Nat} (hi:ρ id=id'):Lv ρ σ F (.ptr id off) (.ptr id' off):=by subst hi;exact .ptr
theorem fy {ρ:aw→aw} {σ:St} {F:aw→Bool} {n m:Nat} {xs ys:List PV} (h:n=m) (h':xs=ys):Lv ρ σ F (.sl n xs) (.sl m ys):=by subst h;subst h';exact .sl
theorem kQ {ρ:aw→aw} {Fz:List aw} {σ:St} {I:List aw} {i:aw} {e:TypeId} {sz:Nat} {xs ys:List PV} (hF:bs (ρ i) Fz=false) (h:σ.ob (ρ i)= .obj (.row e sz ys)) (hinc:(bif bs i I then false else σ.inc (ρ i))=false) (hx:xs=ys):
    bs (ρ i) Fz=false∧(∃ o2,σ.ob (ρ i)= .obj o2∧LvO (ρ) σ (fun i=> bs i Fz) (.row e sz xs) o2)∧(bif bs i I then false else σ.inc (ρ i))=false:=⟨hF,⟨_,h, .rowE hx.symm⟩,hinc⟩
theorem mq {ρ:aw→aw} {Fz:List aw} {σ:St} {I:List aw} {i:aw} {e:TypeId} {xs ys:List AV} (hF:bs (ρ i) Fz=false) (h:σ.ob (ρ i)= .obj (.box e ys)) (hinc:(bif bs i I then false else σ.inc (ρ i))=false) (hl:xs.length=ys.length)
    (hx: ∀ (j:Nat) (a b:AV),xs[j]? =some a→ys[j]? =some b→Lv (ρ) σ (fun i=> bs i Fz) a b):
    bs (ρ i) Fz=false∧(∃ o2,σ.ob (ρ i)= .obj o2∧LvO (ρ) σ (fun i=> bs i Fz) (.box e xs) o2)∧(bif bs i I then false else σ.inc (ρ i))=false:=⟨hF,⟨_,h, .box hl hx⟩,hinc⟩
theorem bn {Fz:List aw} {σ:St} {I:List aw} {i:aw} {o:Cells} (hF:bs (aO [] i) Fz=false) (h:σ.ob (aO [] i)= .obj o) (hinc:(bif bs i I then false else σ.inc (aO [] i))=false):
    bs (aO [] i) Fz=false∧(∃ o2,σ.ob (aO [] i)= .obj o2∧LvO (aO []) σ (fun i=> bs i Fz) o o2)∧(bif bs i I then false else σ.inc (aO [] i))=false:=⟨hF,⟨_,h,oZ o⟩,hinc⟩
theorem rV {ρ:aw→aw} {Fz:List aw} {σ:St} {I:List aw} {i:aw} {es fs:List MapEntry} {c d:Nat} (hF:bs (ρ i) Fz=false) (h:σ.ob (ρ i)= .obj (.mp fs d)) (hinc:(bif bs i I then false else σ.inc (ρ i))=false) (hx:es=fs) (hc:c=d):
    bs (ρ i) Fz=false∧(∃ o2,σ.ob (ρ i)= .obj o2∧LvO (ρ) σ (fun i=> bs i Fz) (.mp es c) o2)∧(bif bs i I then false else σ.inc (ρ i))=false:=⟨hF,⟨_,h,by subst hx;subst hc;exact .mp⟩,hinc⟩

theorem Spec.toI {P:Program} {f:FuncId} {args:List AV} {r:AV} {outs:List (aw×Cells)} (h:Spec P f (bq args []) (aX r outs)):Spec P f (aZ args []) (aS r outs [] []):=h
theorem Le.mkJ {σ:St} {n:Nat} {slots:List (Nat×AV)} {obs:List (aw×Cells)} {I Pn:List aw} (rn:List (aw×aw)) (Fz:List aw) (hn:σ.n=n) (hs:ja (aO rn) σ (fun i=> bs i Fz) slots) (ho:cB (aO rn) σ (fun i=> bs i Fz) I obs) (hi:cK σ Fz) (hp:fP (aO rn) σ Pn)
    (hb:(cG (obs.map (·.1)) slots && aU (obs.map (·.1)) obs && aV ((obs.map (·.1)).map (aO rn)) && jH Pn (obs.map (·.1)))=true):Le (bC n slots obs I Pn) σ:=by
  simp only [Bool.and_eq_true] at hb
  exact Le.mkI rn Fz hn hs hb.1.1.1 hb.1.1.2 hb.1.2 hi ho hp hb.2
section
variable {rb:Bool} {P:Program} {Q:Exit→St→Prop} {σ:St}
theorem ez {c:Code} {α:Type} (J:α→Prop) (n:Nat) (sl:List (Nat×AV)) (os:List (aw×Cells)) (sv:α→List (Nat×AV)) (ov:α→List (aw×Cells)) (I Pn:List aw) (μ:α→Nat) (x0:α) (hJ:J x0) (h0:Le (bC n (sl++sv x0) (os++ov x0) I Pn) σ)
    (round: ∀ x,J x→D rb P c (kd (fun σ'=> ∃ y,J y∧Le (bC n (sl++sv y) (os++ov y) I Pn) σ'∧μ y < μ x) Q) (bC n (sl++sv x) (os++ov x) I Pn)):D rb P (.loop c) Q σ:=
  ns J (fun x=> bC n (sl++sv x) (os++ov x) I Pn) μ x0 hJ h0 round
theorem lq {ops:Array Oper} {rest:List Oper} {d:Nat} {b:Bool} (h1:b=true→DL rb P ops Q rest (σ.put (some d) (.v (.bool true)))) (h2:b=false→DL rb P ops Q rest (σ.put (some d) (.v (.bool false)))):DL rb P ops Q rest (σ.put (some d) (.v (.bool b))):=by
  cases b
  · exact h2 rfl
  exact h1 rfl
end

class Arr (P:Program) (T:TypeId) (n:outParam Nat) (size:outParam Nat):Prop where
  out: ∃ e i,P.underlying T=some (.array n e)∧P.info? e=some i∧i.size=size
theorem Arr.of {P:Program} {T e:TypeId} {n size:Nat} (h1:P.underlying T=some (.array n e)) (h2:(P.info? e).map (fun i=> i.size)=some size):Arr P T n size:=by
  obtain ⟨i,hi,h⟩:=Option.map_eq_some_iff.1 h2
  exact ⟨e,i,h1,hi,h⟩

section
variable {P:Program} {σ:St} {dd:Option Tmp} {ty T:TypeId} {n size:Nat}
theorem em (x y:Operand) (E:Arr P T n size) {id:aw} {of0:Nat} {oc:Cells} (hx:σ.eval x= .ptr id of0) (hid:σ.ob id= .obj oc)
    {k:IntKind} {I:Int} (hy:σ.eval y= .v (.int k I)) (j:Nat) (hI:I=(j:Int)) (hj:j < n) {off:Nat} (he:of0+j*size=off):Stp P dd (.indexAddr T x y) ty σ (σ.put dd (.ptr id off)):=by
  intro o hd ho ht
  subst hd;subst he;subst hI
  obtain ⟨e,inf,hu,hinf,hs⟩:=E.out
  refine aY fun _ ι S a w R=> ?_
  have hi:=(hy ▸ R.eval y:Rep ι S w (.v (.int k (j:Int))) (a.eval y)).toV
  obtain ⟨B,g,h1,h2,h3⟩:=R.ptrB hid hx
  refine ⟨.pointer (some ⟨g,of0+j*size,none⟩),?_, .ptr (fun B' hB'=> ?_) rfl,fun i h=> R.evalHas x (by rw [hx];cases h;exact .ptr)⟩
  · simp [execOp,ho,Instr.indexAt,h3,hi,asIntOf,run_underlying hu,sizeOf,typeInfo,hinf,hs,hj,Addr.add_lit,Instr.sureAddr]
  rw [h1] at hB'
  obtain rfl:=Option.some.inj hB'
  exact ⟨g,h2,rfl⟩
theorem ow {t t':TypeId} {a b:Int} (x y:Operand) (hx:σ.eval x= .v (.int .i64 a)) (hy:σ.eval y= .v (.int .i64 b)) {r:Int} (hr:max a b=r):Stp P dd (.call { callee:= .builtin .max,args:= #[x,y],argTypes:= #[t,t'] }) ty σ (σ.put dd (.v (.int .i64 r))):=by
  intro o hd ho ht
  subst hd
  refine aY fun _ _ _ A w R=> ⟨_,?_, .v,fun _=> cZ⟩
  have h1:=Rep.evV R hx
  have h2:=Rep.evV R hy
  generalize A.eval=ρ at h1 h2
  subst hr
  have hm:max a b=if b > a then b else a:=by omega
  simp [execOp,ho,resolve,invoke,builtin,h1,h2,go_sem,Builtin.max_,Builtin.max2,hm]

theorem pu {K:eO} {ι:aw→Option cc} {S:Nat→Prop} {a:Act} {w:World} (R:RelI K ι S σ a w) (xs:Array Operand) {avs:List AV} (h:xs.toList.map σ.eval=avs):
    (xs.map a.eval).size=avs.length∧(∀ (j:Nat) (p:AV),avs[j]? =some p→Rep ι S w p ((xs.map a.eval).getD j undef))∧ ∀ av∈avs,∀ id,Has id av→σ.ob id≠ .free:=by
  subst h
  refine ⟨by simp,fun j p hp=> ?_,fun av hav id hi=> ?_⟩
  · rw [List.getElem?_map] at hp
    obtain ⟨y,hy,rfl⟩:=Option.map_eq_some_iff.1 hp
    have hy':xs[j]? =some y:=by simpa using hy
    have hj:=(Array.getElem?_eq_some_iff.1 hy').1
    have:(xs.map a.eval).getD j undef=a.eval y:=by
      have h2:=(Array.getElem?_eq_some_iff.1 hy').2
      simp [hj,h2]
    rw [this];exact R.eval y
  obtain ⟨y,_,rfl⟩:=List.mem_map.1 hav
  exact R.evalHas y hi
theorem jY {fn:Fn} (first caps:Array Operand) {fs cs:List AV} (hf:first.toList.map σ.eval=fs) (hc:caps.toList.map σ.eval=cs):Stp P dd (.makeFunc fn first caps) ty σ (σ.put dd (.fn fn fs cs)):=by
  intro o hd ho ht
  subst hd
  refine aY fun _ ι S a w R=> ?_
  obtain ⟨f1,f2,f3⟩:=pu R first hf
  obtain ⟨c1,c2,c3⟩:=pu R caps hc
  refine ⟨.func fn (first.map a.eval) (caps.map a.eval),by simp [execOp,ho,Instr.makeFunc], .fn f1 c1 f2 c2,fun id h=> ?_⟩
  cases h with
  | fn1 hm h=> exact f3 _ hm id h
  | fn2 hm h=> exact c3 _ hm id h

end
def qr (l:List (Int×Int)):List PV:=l.flatMap fun p=> [.v (.int .i64 p.1), .v (.int .i64 p.2)]
theorem lg (p:Int×Int) (l:List (Int×Int)):qr (p::l)=[.v (.int .i64 p.1), .v (.int .i64 p.2)]++qr l:=rfl
@[simp] theorem cg: ∀ (l:List (Int×Int)),(qr l).length=2*l.length
  | []=> rfl
  | p::l=> by rw [lg,List.length_append,cg l];simp;omega
theorem Spec.frz {P:Program} {f:FuncId} {σ:St} {e:TypeId} {sz n:Nat} {xs:List PV} (h:Spec P f σ (aX (.ref (0,8) 0 n) [((0,8), .row e sz xs)])) (hl:n*sz=xs.length):Spec P f σ (aX (.sl n xs) []):=
  h.mono (Le.outO (I:=[]) (Pn:=[]) [] [(0,8)] (lc rfl rfl hl rfl) rfl rfl rfl ⟨rfl,trivial⟩ trivial)

section
variable {P:Program} {σ:St} {z:List Value} {T e:TypeId} {size bytes:Nat}
theorem St.setInc_same {σ:St} {id:aw} {b:Bool} (h:σ.inc id=b):σ.setInc id b=σ:=by
  refine St.eq rfl (fun _=> rfl) (fun _=> rfl) (funext fun i=> ?_) rfl
  show (bif dL i id then b else σ.inc i)=σ.inc i
  cases hb:dL i id with
  | true=> rw [oeq_iff.1 hb,h];rfl
  | false=> rfl
theorem dM {dd:Option Tmp} {ty:TypeId} {T e e':TypeId} {size bytes:Nat} {z:List Value} (x:Operand) (E:Elem P T e size bytes z) {id:aw} {off n:Nat} {xs:List AV} (hx:σ.eval x= .ref id off n) (hid:σ.ob id= .obj (.box e' xs)):Stp P dd (.call { callee:= .builtin .len,args:= #[x],argTypes:= #[T] }) ty σ (σ.put dd (.v (.int .i64 (n:Int)))):=by
  intro o hd ho ht
  subst hd
  refine aY fun _ ι S a w R=> ?_
  obtain ⟨B,g,h1,hg,_,_⟩:=R.ob id _ hid
  have hr:=R.eval x
  rw [hx] at hr
  generalize hu:a.eval x=u at hr
  cases hr with
  | ref h _=>
    obtain ⟨c,_,_,h5⟩:=h B h1
    rw [hg] at h5
    obtain ⟨o',rfl,_⟩:=h5
    exact ⟨_,by simp [execOp,ho,resolve,invoke,builtin,Builtin.len_,run_underlying E.und,hu,goInt], .v,fun _=> cZ⟩
end


structure Bun where
  box:aw
  gr:Bool
  E:TypeId
  e:TypeId
  fam:Nat
  rows:List (List PV)

def Bun.cell (b:Bun) (j:Nat):AV:= .ref (b.fam,j) 0 (b.rows.getD j []).length
def Bun.cells (b:Bun):List AV:=(List.range b.rows.length).map b.cell
def Bun.outer (b:Bun) (cs:List AV):Cells:=bif b.gr then .rowA b.E 1 cs else .box b.E cs
def Bun.ob (b:Bun) (id:aw):Slot:=
  bif dL id b.box then .obj (b.outer b.cells) else bif Nat.beq id.1 b.fam && Nat.blt id.2 b.rows.length then .obj (.row b.e 1 (b.rows.getD id.2 [])) else .free

section
variable {σ:St} {n:Nat} {slots:List (Nat×AV)} {obs:List (aw×Cells)} {I Pn:List aw} {bx bx0:aw} {gr:Bool} {E e:TypeId} {fam:Nat} {rows:List (List PV)}

end

theorem RowOk.imp {w:World} {B:cc} {e:TypeId} {n:Nat} {R R':Nat→Value→Prop} (h:RowOk w B e n R) (hR: ∀ j u,R j u→R' j u):RowOk w B e n R':=h.next (fun _ _=> rfl) hR
def nB:List (Nat×Value)→Act→Act
  | [],a=> a
  | (t,v)::l,a=> nB l (a.put (some t) v)
def nH:List (Nat×Value)→St→St
  | [],σ=> σ
  | (t,v)::l,σ=> nH l (σ.put (some t) (.v v))
theorem RelI.puts {K:eO} {ι:aw→Option cc} {S:Nat→Prop} {w:World}: ∀ (l:List (Nat×Value)) {σ:St} {a:Act},RelI K ι S σ a w→RelI K ι S (nH l σ) (nB l a) w
  | [],_,_,R=> R
  | (t,v)::l,_,_,R=> RelI.puts l (R.put (some t) (av:= .v v) .v fun i hi=> cZ hi)

theorem lU {i:aw} {l:List aw}:bs i (i::l)=true:=inO_iff.2 List.mem_cons_self
theorem mN {σ τ:St} {W:List Nat} {I own:List aw} {ops:List Oper} {rs:List Res} {dp:List Nat} {i:aw} {s:Slot} (hd:ft rs dp 0 i=none) (ho:bs i own=true) (hs:σ.ob i=s):(bF σ W I own ops rs dp τ).ob i=s:=by
  simp only [bF,hd,ho,Bool.not_true,Bool.and_false,cond_false]
  exact hs

theorem Le.frzPt {σ:St} (t:Nat) {id:aw} {off:Nat} {e:TypeId} {xs:List AV} {ys:List PV} (hr:σ.fr t= .ptr id off) (hid:σ.ob id= .obj (.box e xs)) (hi:σ.inc id=false) (hy:eo xs=some ys):
    Le ((σ.setOb id .gone).put (some t) (.fp off ys)) σ:=by
  intro K ι S a w R
  have hob: ∀ i o,((σ.setOb id .gone).put (some t) (.fp off ys)).ob i= .obj o→dL i id=false∧σ.ob i= .obj o:=by
    intro i o h
    rw [St.put_ob] at h
    simp only [St.setOb] at h
    cases hb:dL i id with
    | true=> rw [hb] at h;cases h
    | false=> rw [hb] at h;exact ⟨rfl,h⟩
  have hnf: ∀ i,σ.ob i≠ .free→((σ.setOb id .gone).put (some t) (.fp off ys)).ob i≠ .free:=by
    intro i h h'
    rw [St.put_ob] at h'
    simp only [St.setOb] at h'
    cases hb:dL i id with
    | true=> rw [hb] at h';cases h'
    | false=> rw [hb] at h';exact h h'
  refine Le.of (fun i=> i) (fun i=> dL i id) (by rw [St.put_n];rfl) (fun u hu=> ?_) (fun i o h=> ?_) (fun _ _ _ _ _ _ h=> h) (fun i h=> ?_) (fun i o h h'=> ?_) (fun u i h=> ?_) (fun i o j h h'=> ?_) (fun i h o hp ho=> ?_) (fun i h=> ?_) K ι S a w R
  · show Lv _ _ _ (bif Nat.beq u t then _ else σ.fr u) _
    cases hb:Nat.beq u t with
    | true=> rw [Nat.eq_of_beq_eq_true hb,hr];exact .frzP hid (bN id) hy
    | false=> exact Lv.same _
  · obtain ⟨h1,h2⟩:=hob i o h
    exact ⟨h1,o,h2,LvO.same o⟩
  · rw [oeq_iff.1 h];exact hi
  · exact h'
  · replace h:Has i (bif Nat.beq u t then _ else σ.fr u):=h
    cases hb:Nat.beq u t with
    | true=> rw [hb] at h;cases h
    | false=> rw [hb] at h;exact hnf i (R.cl u i h)
  · exact hnf j (R.clo i o j (hob i o h).2 h')
  · exact hp
  refine R.pf i ?_
  rw [St.put_ob] at h
  simp only [St.setOb] at h
  cases hb:dL i id with
  | true=> rw [hb] at h;cases h
  | false=> rw [hb] at h;exact h

theorem Stp.le {P:Program} {d:Option Tmp} {op:Op} {ty:TypeId} {σ σ1 σ2:St} (h:Stp P d op ty σ σ1) (hl:Le σ2 σ1):Stp P d op ty σ σ2:=by
  intro o h1 h2 h3 K ι S a w R
  have h4:=h o h1 h2 h3 K ι S a w R
  unfold cD at h4 ⊢
  generalize (execOp a.eval o).run P w=r at h4 ⊢
  match r,h4 with
  | .ok (.value v) w',⟨ι',S',R'⟩=> exact hl K ι' S' _ _ R'
  | .ok .skip w',⟨ι',S',R'⟩=> exact hl K ι' S' _ _ R'
  | .ok (.enter f args) w',h5=> exact h5.mono fun e w'' ⟨v,he,ι',S',R'⟩=> ⟨v,he,hl K ι' S' _ _ R'⟩

section
variable {σ:St} {F:aw→Bool} {b:AV}
theorem iV {x:Value} (h:b= .v x):Lv (aO []) σ F (.v x) b:=eI h
theorem iS {n:Nat} {xs:List PV} (h:b= .sl n xs):Lv (aO []) σ F (.sl n xs) b:=eI h
theorem iR {id:aw} {off n:Nat} (h:b= .ref id off n):Lv (aO []) σ F (.ref id off n) b:=eI h
theorem iP {id:aw} {off:Nat} (h:b= .ptr id off):Lv (aO []) σ F (.ptr id off) b:=eI h
theorem iM {id:aw} (h:b= .mp id):Lv (aO []) σ F (.mp id) b:=eI h
theorem iZ (h:b= .z):Lv (aO []) σ F .z b:=eI h
theorem iD (h:b= .dead):Lv (aO []) σ F .dead b:=eI h
end

class cT (b:Bool) (p q:outParam Prop):Prop where
  t:b=true→p
  f:b=false→q
instance (priority:=10) boolAny (b:Bool):cT b (b=true) (b=false):=⟨id,id⟩
instance (priority:=20) boolDec (p:Prop) [Decidable p]:cT (decide p) p (¬ p):=⟨of_decide_eq_true,of_decide_eq_false⟩
instance rP (a b:Int) [Decidable (a < b)]:cT (decide (a < b)) (a < b) (b≤a):=⟨of_decide_eq_true,fun h=> Int.not_lt.1 (of_decide_eq_false h)⟩
instance qx (a b:Int) [Decidable (a≤b)]:cT (decide (a≤b)) (a≤b) (b < a):=⟨of_decide_eq_true,fun h=> Int.not_le.1 (of_decide_eq_false h)⟩
instance rO (a b:Int):cT (a==b) (a=b) (¬ a=b):=⟨beq_iff_eq.1,beq_eq_false_iff_ne.1⟩
instance rQ (a b:Int):cT (a !=b) (¬ a=b) (a=b):=⟨bne_iff_ne.1,bne_eq_false_iff_eq.1⟩
instance pQ (b:Bool) (p q:Prop) [h:cT b p q]:cT (!b) q p:=⟨fun e=> h.f (by simpa using e),fun e=> h.t (by simpa using e)⟩
instance pV (a b:Bool) (p q p' q':Prop) [h:cT a p q] [h':cT b p' q']:cT (a && b) (p∧p') ((a && b)=false):=⟨fun e=> by rw [Bool.and_eq_true] at e;exact ⟨h.t e.1,h'.t e.2⟩,id⟩
instance qZ (a b:Bool) (p q p' q':Prop) [h:cT a p q] [h':cT b p' q']:cT (a || b) (p∨p') ((a || b)=false):=⟨fun e=> by rw [Bool.or_eq_true] at e;exact e.imp h.t h'.t,id⟩
theorem bZ {rb:Bool} {P:Program} {Q:Exit→St→Prop} {σ:St} {x:Operand} {t e:Code} {b:Bool} {p q:Prop} [h:cT b p q] (hx:σ.eval x= .v (.bool b)) (h1:p→D rb P t Q σ) (h2:q→D rb P e Q σ):D rb P (.cond x t e) Q σ:=
  nx hx (fun e=> h1 (h.t e)) (fun e=> h2 (h.f e))
theorem iY {rb:Bool} {P:Program} {Q:Exit→St→Prop} {σ:St} {ops:Array Oper} {rest:List Oper} {d:Nat} {b:Bool} {p q:Prop} [h:cT b p q] (h1:p→DL rb P ops Q rest (σ.put (some d) (.v (.bool true)))) (h2:q→DL rb P ops Q rest (σ.put (some d) (.v (.bool false)))):DL rb P ops Q rest (σ.put (some d) (.v (.bool b))):=
  lq (fun e=> h1 (h.t e)) (fun e=> h2 (h.f e))

section
variable {P:Program} {σ τ:St}
variable {o:Oper}
theorem Spec.named {f:FuncId} {σ0:St} (id:aw) {n:Nat} {e:TypeId} {sz:Nat} {xs:List PV} (h:Spec P f σ0 (aX (.ref (0,8) 0 n) [((0,8), .row e sz xs)])):Spec P f σ0 (aX (.ref id 0 n) [(id, .row e sz xs)]):=by
  have h1:aO [(id,(0,8))] id=(0,8):=by simp [aO,bN]
  have h2:bs id [id]=true:=by simp [bs,bN]
  refine h.mono (Le.outO (I:=[]) (Pn:=[]) [(id,(0,8))] [] (aq h1 rfl) ?_ rfl ?_ trivial ⟨⟨?_,⟨_,?_, .rowE rfl⟩,?_⟩,trivial⟩)
  · simp [AV.within,h2]
  · simp [aV,bs]
  · rfl
  · rw [h1];rfl
  rfl
end

def dY:List (Int×Value)→Nat→List MapEntry
  | [],_=> []
  | p::l,i=> ⟨.int .i64 p.1,p.2,i⟩::dY l (i+1)
def bM (M:List (Int×Value)):List MapEntry:=dY M 0
theorem hU: ∀ (M:List (Int×Value)) (i:Nat),(dY M i).length=M.length
  | [],_=> rfl
  | p::l,i=> by simp [dY,hU l]
@[simp] theorem lp (M:List (Int×Value)):(bM M).length=M.length:=hU M 0
theorem hG: ∀ (M:List (Int×Value)) (i j:Nat),(dY M i)[j]? =(M[j]?).map fun p=> ⟨.int .i64 p.1,p.2,i+j⟩
  | [],_,_=> by simp [dY]
  | p::l,i,0=> by simp [dY]
  | p::l,i,j+1=> by
    simp only [dY,List.getElem?_cons_succ,hG l]
    rw [show i+1+j=i+(j+1) by omega]
theorem dS (M:List (Int×Value)) (j:Nat):(bM M)[j]? =(M[j]?).map fun p=> ⟨.int .i64 p.1,p.2,j⟩:=by rw [bM,hG,Nat.zero_add]
theorem gQ: ∀ (M:List (Int×Value)) (p:Int×Value) (i:Nat),dY (M++[p]) i=dY M i++[⟨.int .i64 p.1,p.2,i+M.length⟩]
  | [],p,i=> rfl
  | q::l,p,i=> by
    simp only [List.cons_append,dY,gQ l,List.length_cons]
    rw [show i+1+l.length=i+(l.length+1) by omega]
theorem lA (M:List (Int×Value)) (p:Int×Value):bM (M++[p])=bM M++[⟨.int .i64 p.1,p.2,M.length⟩]:=by rw [bM,gQ,Nat.zero_add];rfl
def ff (k:Int):List (Int×Value)→Nat→Option (Nat×Value)
  | [],_=> none
  | p::l,i=> if k=p.1 then some (i,p.2) else ff k l (i+1)
def fB (M:List (Int×Value)) (k:Int):Option Value:=(ff k M 0).map (·.2)
theorem fa (k:Int): ∀ (M:List (Int×Value)) (b i:Nat),Instr.findNow (.int .i64) (.int .i64 k) (dY M b) i=some (ff k M i)
  | [],_,_=> rfl
  | p::l,b,i=> by
    simp only [dY,Instr.findNow,Instr.sameNow,if_true,ff]
    by_cases h:k=p.1
    · simp [h]
    simp only [beq_eq_false_iff_ne.2 h,if_neg h]
    exact fa k l (b+1) (i+1)

variable {P:Program} {T k e:TypeId}
theorem kg {w:World} {b:Bool} {v:Value} (hk:P.underlying k=some (.int .i64)):(Instr.checkKey b 10000 k v).run P w= .ok () w:=by
  rw [show (10000:Nat)=9999+1 from rfl,Instr.checkKey]
  simp [run_underlying hk]
theorem jX {w:World} {M:List (Int×Value)} {x:Int} (hk:P.underlying k=some (.int .i64)):(Instr.findKey k (.int .i64 x) (bM M)).run P w= .ok (ff x M 0) w:=by
  simp [Instr.findKey,run_underlying hk,bM,fa]
theorem ma {w:World} {g:Nat} {M:List (Int×Value)} {x:Int} {v:Value} (hT:P.underlying T=some (.map k e)) (hk:P.underlying k=some (.int .i64)) (hb:w.heap[g]? =some (.map (bM M).toArray M.length)) (hm:fB M x=none):
    (Instr.mapUpdate T (.map (some g)) (.int .i64 x) v).run P w= .ok () (w.putObj g (.map (bM (M++[(x,v)])).toArray (M++[(x,v)]).length)):=by
  have hf:ff x M 0=none:=by
    unfold fB at hm
    cases h:ff x M 0 with
    | none=> rfl
    | some p=> rw [h] at hm;cases hm
  simp only [Instr.mapUpdate,Sem.run_bind,run_underlying hT,Result.andThen_ok,getObj,setObj,Sem.run,hb,Result.andThen,kg hk,jX hk,hf,lA]
  simp [World.putObj]

section
variable {σ:St}
theorem RelI.mapAt {K:eO} {ι:aw→Option cc} {S:Nat→Prop} {a:Act} {w:World} (R:RelI K ι S σ a w) {x:Operand} {id:aw} (hx:σ.eval x= .mp id) {es:List MapEntry} {c:Nat} (hid:σ.ob id= .obj (.mp es c)):
    ∃ B g,ι id=some B∧B.g=some g∧a.eval x= .map (some g)∧w.heap[g]? =some (.map es.toArray c):=by
  obtain ⟨B,g,h1,h2,h3⟩:=R.ob id _ hid
  have hr:=R.eval x
  rw [hx] at hr
  generalize hu:a.eval x=u at hr
  cases hr with
  | mp h _=>
    obtain ⟨g',hg',rfl⟩:=h B h1
    rw [h2] at hg'
    obtain rfl:=Option.some.inj hg'
    exact ⟨B,g,h1,h2,rfl,h3⟩
theorem nL {dd:Option Tmp} {ty:TypeId} (id:aw) (hid:σ.ob id= .free):Stp P dd (.makeMap T none) ty σ ((σ.setOb id (.obj (.mp [] 0))).put dd (.mp id)):=by
  intro o hd ho ht
  subst hd
  intro K ι S a w R
  have hrun:(execOp a.eval o).run P w= .ok (.value (.map (some w.heap.size))) (w.alloc (.map #[] 0)):=by
    simp [execOp,ho,Instr.makeMap,newObj];rfl
  have R1:=R.new (id:=id) (o:= .mp [] 0) (B:=⟨some w.heap.size,0,0⟩) hid ((Below.refl _ _).alloc (Nat.le_refl _) _) (fun g hg=> by obtain rfl:=Option.some.inj hg;exact Nat.le_refl _)
    ⟨_,_,bi _ _ _,rfl,heap_alloc_new w _⟩ (fun i hi=> hi.elim)
  refine bh hrun ⟨_,S,R1.put o.dst (.mp (fun B hB=> ?_) rfl) fun i hi=> ?_⟩
  · rw [bi] at hB
    obtain rfl:=Option.some.inj hB
    exact ⟨_,rfl,rfl⟩
  cases hi;rw [St.setOb_same];intro h;cases h
end

inductive Ln (σ:St):PV→AV→Prop where
  | v {x:Value} (h:x.oneCell'=true):Ln σ (.v x) (.v x)
  | sl {n:Nat} {xs:List PV}:Ln σ (.sl n xs) (.sl n xs)
  | nil:Ln σ (.sl 0 []) (.v (.slice none 0 0))
  | fp {off:Nat} {xs:List PV}:Ln σ (.ptr off xs) (.fp off xs)
  | ref {id:aw} {off n:Nat} {e:TypeId} {sz:Nat} {xs ys:List PV} (hid:σ.ob id= .obj (.row e sz xs)) (hy:(xs.drop off).take (n*sz)=ys) (hl:off+n*sz≤xs.length):Ln σ (.sl n ys) (.ref id off n)
  | ptr {id:aw} {off:Nat} {e:TypeId} {xs:List AV} {ys:List PV} (hid:σ.ob id= .obj (.box e xs)) (hl:ys.length≤xs.length) (h: ∀ (j:Nat) (p:PV) (a:AV),ys[j]? =some p→xs[j]? =some a→Ln σ p a):Ln σ (.ptr off ys) (.ptr id off)
  | fn {f:Fn} {xs us:List PV} {ys vs:List AV} (hl:xs.length=ys.length) (h: ∀ (j:Nat) (p:PV) (a:AV),xs[j]? =some p→ys[j]? =some a→Ln σ p a)
      (hl':us.length=vs.length) (h': ∀ (j:Nat) (p:PV) (a:AV),us[j]? =some p→vs[j]? =some a→Ln σ p a):Ln σ (.fn f xs us) (.fn f ys vs)
theorem Ln.rd {K:eO} {ι:aw→Option cc} {S S1:Nat→Prop} {σ:St} {act:Act} {w:World} (R:RelI K ι S σ act w) (hS: ∀ g,S g→S1 g) (hF: ∀ id B g,ι id=some B→B.g=some g→S1 g) {p:PV} {a:AV} (h:Ln σ p a): ∀ {v:Value},Rep ι S w a v→Rd S1 w p v:=by
  induction h with
  | v h1=> intro v hv;cases hv;exact .v h1
  | sl=> intro v hv;cases hv with
    | sl h=> exact h.next (fun _ _=> rfl) hS
  | nil=> intro v hv;cases hv;exact .sl0 (Nat.le_refl _) (by unfold maxLen;omega) fun _=> ⟨rfl,rfl⟩
  | fp=> intro v hv;cases hv with
    | fp h=> exact h.next (fun _ _=> rfl) hS
  | ref hid hy hl=>
    intro v hv
    have:=(Lv.frz (ρ:=fun i=> i) (F:=fun _=> true) hid rfl hy hl).rep (ι1:=ι) (S1:=S1) R (fun _ _ h=> h) hS (fun id B g _ a b=> hF id B g a b) hv
    cases this with
    | sl h=> exact h
  | ptr hid hl h ih=>
    intro v hv
    rename_i id off e xs ys
    obtain ⟨B,g,hB,hg,htot,hrow⟩:=R.ob id _ hid
    cases hv with
    | ptr hp _=>
      obtain ⟨g',hg',rfl⟩:=hp B hB
      rw [hg] at hg'
      obtain rfl:=Option.some.inj hg'
      rcases hrow with ⟨h6,_⟩ | ⟨g',cur,h10,h11,h12,h13,h14⟩
      · rw [hg] at h6;cases h6
      rw [hg] at h10
      obtain rfl:=Option.some.inj h10
      have:=Rd.ptr (S:=S1) (w:=w) (off:=off) (b:=g) (o:=0) (xs:=ys) (fun j=> cur.getD j undef) (.mk (hF id B g hB hg) h11) (fun j p hp=> ?_) (fun j p hp=> ?_)
      · simp only [Nat.zero_add] at this;exact this
      · have hj:=(List.getElem?_eq_some_iff.1 hp).1
        obtain ⟨u,hu,_⟩:=h14 j ab
        exact bS h11 (by simp [hu])
      have hj:=(List.getElem?_eq_some_iff.1 hp).1
      have ha:=List.getElem?_eq_getElem (show j < xs.length by omega)
      obtain ⟨u,hu,hu1,hu2⟩:=h14 j ab
      simp only [Array.getD_eq_getD_getElem?,hu,Option.getD_some]
      exact ih j p _ hp ha (hu2 _ ha)
  | fn hl h hl' h' ih ih'=>
    intro v hv
    cases hv with
    | fn a1 a2 a3 a4=>
      refine .fn ab ab (fun j p hp=> ?_) fun j p hp=> ?_
      · have hj:=(List.getElem?_eq_some_iff.1 hp).1
        exact ih j p _ hp (List.getElem?_eq_getElem (show j < _ by omega)) (a3 j _ (List.getElem?_eq_getElem (show j < _ by omega)))
      have hj:=(List.getElem?_eq_some_iff.1 hp).1
      exact ih' j p _ hp (List.getElem?_eq_getElem (show j < _ by omega)) (a4 j _ (List.getElem?_eq_getElem (show j < _ by omega)))

section
variable {P:Program} {σ τ:St} {o:Oper}
end
section
variable {P:Program} {σ:St} {o:Oper} {T e:TypeId} {size bytes:Nat} {z:List Value}
theorem mm {w:World} {t e:TypeId} (a:Addr) (n c:Nat) (ht:P.underlying t=some (.slice e)):(binOp .eql t (.slice (some a) n c) (.slice none 0 0)).run P w= .ok (.bool false) w:=by
  have h1 (d:Nat):(Op.equalIn (d+1) t (.slice (some a) n c) (.slice none 0 0)).run P w= .ok false w:=by
    simp [run_underlying ht,Op.equalIn]
  have h2:=h1 9999
  simp only [binOp]
  simp [Op.equal,Op.maxDepth,h2]
theorem mx {dd:Option Tmp} {ty:TypeId} {t t' e:TypeId} (x y:Operand) (h:P.underlying t=some (.slice e)) {n:Nat} (hx:(∃ xs,σ.eval x= .sl n xs)∨ ∃ id off e sz xs,σ.eval x= .ref id off n∧σ.ob id= .obj (.row e sz xs)) (hn:0 < n) (hy:σ.eval y= .v (.slice none 0 0)):Stp P dd (.binOp .eql t x y t') ty σ (σ.put dd (.v (.bool false))):=by
  intro o hd ho ht
  subst hd
  refine aY fun _ ι S a w R=> ⟨_,?_, .v,fun _=> cZ⟩
  have hp: ∃ p m c,a.eval x= .slice (some p) m c:=by
    rcases hx with ⟨xs,hx⟩ | ⟨id,off,e,sz,xs,hx,hid⟩
    · have hr:=R.eval x
      rw [hx] at hr
      generalize a.eval x=u at hr
      cases hr with
      | sl h=>
        cases h with
        | sl0 h0 h1 h2=>
          rename_i c ao
          cases ao with
          | none=> have:=h2 rfl;omega
          | some p=> exact ⟨_,_,_,rfl⟩
        | sl=> exact ⟨_,_,_,rfl⟩
    obtain ⟨B,h1,_,_⟩:=R.ob id _ hid
    have hr:=R.eval x
    rw [hx] at hr
    generalize a.eval x=u at hr
    cases hr with
    | ref h _=>
      obtain ⟨c,_,_,h5⟩:=h B h1
      cases hg:B.g with
      | none=> rw [hg] at h5;have:=h5.2.1;omega
      | some g=>
        rw [hg] at h5
        obtain ⟨o',rfl,_⟩:=h5
        exact ⟨_,_,_,rfl⟩
  obtain ⟨p,m,c,hp⟩:=hp
  have h2:=Rep.evV R hy
  have hq:=mm (w:=w) p m c h
  clear h hx hy
  generalize a.eval=ρ at hp h2
  simp [execOp,ho,hp,h2,eqGuard,hq]
theorem na {dd:Option Tmp} {ty:TypeId} (id':aw) (s x:Operand) (E:Elem P T e size bytes z) (hs:σ.eval s= .z) {m:Nat} (hm:0 < m) {news:List PV} (hx:SrcAV σ (σ.eval x) size m news) (hb:m*bytes≤140737488355328) (hid':σ.ob id'= .free):
    Stp P dd (.call { callee:= .builtin .append,args:= #[s,x],argTypes:= #[T,T] }) ty σ ((σ.setOb id' (.obj (.row e size news))).put dd (.ref id' 0 m)):=by
  intro o hd ho ht
  subst hd
  intro K ι S a w R
  have hv:=R.eval s
  rw [hs] at hv
  obtain ⟨vs,hsl,hvl,hvr⟩:=hx.src R E.pos
  obtain ⟨v',w',hr,h4,h5,_,h7⟩:=ix (P:=P) (T:=T) o.type 0 (.slice none 0 0) 0 [] (World.ownsRow_nil _ _ _ _) (a.eval x) m vs hsl (by simpa using hb) (Nat.zero_le _)
  have hrun:(execOp a.eval o).run P w= .ok (.value v') w':=by
    generalize hu:a.eval s=u at hv
    cases hv with
    | z=>
      rename_i ao
      have h0:(Builtin.append_ #[T,T] o.type #[.slice ao 0 0,a.eval x]).run P w= .ok v' w':=by
        cases ao with
        | none=> exact hr
        | some b=> exact ((kR (P:=P) (T:=T) w o.type b (a.eval x) m vs hsl hb).resolve_left fun h=> by omega).trans hr
      unfold execOp
      simp only [ho,resolve,invoke,builtin,Sem.run_bind,Sem.run_pure,Result.andThen_ok,List.map_toArray,List.map_cons,List.map_nil,hu,h0]
  simp only [List.nil_append,Nat.zero_add] at h4
  have hbl:Below w.heap.size w w':=dK (by simpa [Value.ownBlock] using h5)
  rcases du h4 with ⟨hv',hn0,hu0⟩ | ⟨g,c,cur,hv',hg,hnc,hcm,hcs,hcu⟩
  · omega
  subst hv'
  refine bh hrun (R.newRow hid' hbl e size m hg ?_ hnc hcm hcs (by rw [← hvl];exact h4.1) (fun j b hb'=> ?_) _)
  · rcases h7 with h | ⟨k,hk,hle⟩
    · simp [Value.ownBlock] at h
    simp [Value.ownBlock] at hk;omega
  obtain ⟨u,a1,a2,a3⟩:=hvr j b hb'
  exact ⟨u,hcu j u a1,a2,a3⟩
theorem jn {dd:Option Tmp} {ty:TypeId} {f:FuncId} {xs:Array Operand} {ats:Array TypeId} (C:bR P f) (rn:List (aw×aw)) {args:List AV} {ins outs:List (aw×Cells)} {r:AV} {I Pn:List aw}
    (ha:dw σ rn (xs.toList.map σ.eval) args) (sp:Spec P f (aZ args ins) (aS r outs I Pn)) (hins:cB (aO rn) σ (fun _=> false) (ins.map (·.1)) ins) (hfr:cH σ (aO rn) (ins.map (·.1)) outs)
    (hb:(AV.withins (ins.map (·.1)) args && aU (ins.map (·.1)) ins && aV ((ins.map (·.1)).map (aO rn)) && aV (ins.map (·.1)) && aV ((outs.map (·.1)).map (aO rn)) && aV (outs.map (·.1)) && ei (ins.map (·.1)) Pn outs && r.within (outs.map (·.1)) && aU (outs.map (·.1)) outs)=true):
    Stp P dd (.call { callee:= .value (.func f),args:=xs,argTypes:=ats }) ty σ ((σ.afterP (aO rn) outs (ins.map (·.1)) I).put dd (r.ren (aO rn))):=by
  intro o hd ho ht
  subst hd
  simp only [Bool.and_eq_true] at hb
  obtain ⟨⟨⟨⟨⟨⟨⟨⟨h1,h2⟩,h3⟩,h4⟩,h5⟩,h6⟩,h7⟩,h8⟩,h9⟩:=hb
  exact jy (.fnc ho C) rn ha h1 h2 hins h3 h4 h5 h6 hfr h7 h8 h9 sp
theorem kE {dd:Option Tmp} {ty:TypeId} {f:FuncId} {x0:Operand} {xs:Array Operand} {ats:Array TypeId} {first caps:List AV} (hx:σ.eval x0= .fn (.func f) first caps) (C:bR P f) (rn:List (aw×aw)) {args:List AV} {ins outs:List (aw×Cells)} {r:AV} {I Pn:List aw}
    (ha:dw σ rn (first++xs.toList.map σ.eval++caps) args) (sp:Spec P f (aZ args ins) (aS r outs I Pn)) (hins:cB (aO rn) σ (fun _=> false) (ins.map (·.1)) ins) (hfr:cH σ (aO rn) (ins.map (·.1)) outs)
    (hb:(AV.withins (ins.map (·.1)) args && aU (ins.map (·.1)) ins && aV ((ins.map (·.1)).map (aO rn)) && aV (ins.map (·.1)) && aV ((outs.map (·.1)).map (aO rn)) && aV (outs.map (·.1)) && ei (ins.map (·.1)) Pn outs && r.within (outs.map (·.1)) && aU (outs.map (·.1)) outs)=true):
    Stp P dd (.call { callee:= .value x0,args:=xs,argTypes:=ats }) ty σ ((σ.afterP (aO rn) outs (ins.map (·.1)) I).put dd (r.ren (aO rn))):=by
  intro o hd ho ht
  subst hd
  simp only [Bool.and_eq_true] at hb
  obtain ⟨⟨⟨⟨⟨⟨⟨⟨h1,h2⟩,h3⟩,h4⟩,h5⟩,h6⟩,h7⟩,h8⟩,h9⟩:=hb
  exact jy (.fnv ho C hx) rn ha h1 h2 hins h3 h4 h5 h6 hfr h7 h8 h9 sp
end
def lM:List Res→List Nat→Nat→aw→Option Slot
  | r::rs,dp,k,i=> sf (lM rs dp (k+1) i) (bif ig k dp then fY r.2 i else none)
  | _,_,_,_=> none
def dc (σ:St) (W:List Nat) (I:List aw) (own:List aw) (ops:List Oper) (rs:List Res) (dp:List Nat) (τ:St):St where
  n:=σ.n
  fr t:=match fk ops rs dp 0 t with
    | some a=> a
    | none=> bif ig t W then τ.fr t else σ.fr t
  ob i:=match lM rs dp 0 i with
    | some c=> c
    | none=> bif bs i I && !(bs i own) then τ.ob i else σ.ob i
  inc:=σ.inc
  pin:=σ.pin
inductive gn (P:Program) (all:List Oper) (W:List Nat) (I:List aw) (σ:St) (rs:List Res) (o:Oper):Res→Prop where
  | plain {r:Res} (hg:o.guard=none) (h: ∀ τ,bp P o (dc σ W I (r.2.map (·.1)) all rs (Edge.ons o.after.toList) τ) (r.app o.dst (dc σ W I (r.2.map (·.1)) all rs (Edge.ons o.after.toList) τ))):gn P all W I σ rs o r
  | yes {r:Res} {j d:Nat} {want:Bool} (hg:o.guard=some (j,want)) (hd:(all[j]?).bind (·.dst)=some d) (hv: ∀ τ,(dc σ W I (r.2.map (·.1)) all rs (Edge.ons o.after.toList) τ).eval (.tmp d)= .v (.bool want))
      (h: ∀ τ,bp P o (dc σ W I (r.2.map (·.1)) all rs (Edge.ons o.after.toList) τ) (r.app o.dst (dc σ W I (r.2.map (·.1)) all rs (Edge.ons o.after.toList) τ))):gn P all W I σ rs o r
  | no {j d:Nat} {want:Bool} {y:Value} (hg:o.guard=some (j,want)) (hd:(all[j]?).bind (·.dst)=some d) (hv: ∀ τ,(dc σ W I [] all rs (Edge.ons o.after.toList) τ).eval (.tmp d)= .v y) (hb:y≠ .bool want):gn P all W I σ rs o (.v undef,[])
def AnyOpsC (P:Program) (all:List Oper) (W:List Nat) (I:List aw) (σ:St) (Kont:List Res→Prop):List Oper→List Res→Prop
  | [],rs=> Kont rs
  | o::os,rs=> ∃ r,gn P all W I σ rs o r∧AnyOpsC P all W I σ Kont os (rs++[r])
theorem AnyOpsC.get {P:Program} {all:List Oper} {W:List Nat} {I:List aw} {σ:St} {Kont:List Res→Prop}: ∀ (os:List Oper) (rs0:List Res),AnyOpsC P all W I σ Kont os rs0→
    ∃ rs,rs.length=rs0.length+os.length∧rs.take rs0.length=rs0∧Kont rs∧ ∀ (j:Nat) (o:Oper) (r:Res),os[j]? =some o→rs[rs0.length+j]? =some r→gn P all W I σ (rs.take (rs0.length+j)) o r
  | [],rs0,h=> ⟨rs0,by simp,by simp,h,by simp⟩
  | o::os,rs0,⟨r,h1,h2⟩=> by
    obtain ⟨rs,a,b,c,d⟩:=AnyOpsC.get os (rs0++[r]) h2
    simp only [List.length_append,List.length_cons,List.length_nil] at a b d
    have ht:rs.take rs0.length=rs0:=by
      have:=congrArg (fun l=> l.take rs0.length) b
      simpa [List.take_take] using this
    have hr:rs[rs0.length]? =some r:=by
      have:=congrArg (fun l=> l[rs0.length]?) b
      simp only [List.getElem?_take] at this
      rw [if_pos ab] at this
      rw [this];simp
    refine ⟨rs,by simp;omega,ht,c,fun j o' r' ho hr'=> ?_⟩
    cases j with
    | zero=>
      simp at ho;subst ho
      simp only [Nat.add_zero] at hr' ⊢
      rw [hr] at hr'
      obtain rfl:=Option.some.inj hr'
      rw [ht];exact h1
    | succ j=>
      have:=d j o' r' (by simpa using ho) (by rw [← hr'];congr 1;omega)
      rwa [show rs0.length+(0+1)+j=rs0.length+(j+1) by omega] at this
section
variable {P:Program} {σ:St} {all:List Oper} {W:List Nat} {I:List aw} {Kont:List Res→Prop} {os:List Oper} {rs:List Res} {d:Option Tmp} {op:Op} {ty:TypeId} {p:String} {af:List Edge}
end
def oh (r r':Res):Bool:=r.2.any fun p=> (fY r'.2 p.1).isSome
def chainB (ops:List Oper) (rs:List Res):Bool:=(List.range rs.length).all fun k=> (List.range k).all fun j=> match rs[j]?,rs[k]?,ops[k]? with
  | some r,some r',some o=> !(oh r r') || (ig j (Edge.ons o.after.toList) && (List.range ops.length).all fun m=> match ops[m]? with | some om=> !(ig j (Edge.ons om.after.toList)) || Nat.beq m k || ig m (Edge.ons o.after.toList) || ig k (Edge.ons om.after.toList) | none=> true)
  | _,_,_=> true
abbrev bt (l:List UInt8):Value:= .string ⟨⟨l⟩⟩
instance qB (l m:List UInt8):cT (l==m) (l=m) (l≠m):=⟨fun e=> by simpa using e,fun e=> by simpa using e⟩
instance qj (l m:List UInt8):cT (l !=m) (l≠m) (l=m):=⟨fun e=> by simpa using e,fun e=> by simpa using e⟩
section
variable {P:Program} {σ:St} {dd:Option Tmp} {ty t t':TypeId}
end

def iG (σ:St) (ρ:aw→aw) (ins:List aw):List (aw×Cells)→Prop
  | []=> True
  | x::l=> (bif bs x.1 ins then false else σ.inc (ρ x.1))=false∧iG σ ρ ins l
theorem jx {σ:St} {ρ:aw→aw} {ins I:List aw} {c:aw}: ∀ {l:List (aw×Cells)},iG σ ρ ins l→fj ρ ins I false σ.inc l c=σ.inc c
  | [],_=> rfl
  | x::l,h=> by
    have h2:=jx (I:=I) (c:=c) h.2
    have h1:=h.1
    show (bif dL c (ρ x.1) then (bif bs x.1 ins then σ.inc c else bif bs x.1 I then false else false) else fj ρ ins I false σ.inc l c)=σ.inc c
    rw [h2]
    cases hc:dL c (ρ x.1) with
    | false=> rfl
    | true=>
      cases hi:bs x.1 ins with
      | true=> rfl
      | false=>
        rw [hi] at h1
        have h1:σ.inc (ρ x.1)=false:=h1
        rw [oeq_iff.1 hc,h1]
        cases bs x.1 I <;> rfl
def dQ (ρ:aw→aw) (outs:List (aw×Cells)) (ins:List aw):List (aw×Slot):=outs.map (fun p=> (ρ p.1,Slot.obj (p.2.ren ρ)))++(dg outs ins).map fun i=> (ρ i,Slot.gone)
theorem fo {outs:List (aw×Cells)} {i:aw}: ∀ {l:List aw},i∈dg outs l→i∈l∧i∉outs.map (·.1)
  | [],h=> by cases h
  | k::l,h=> by
    simp only [dg] at h
    cases hb:bs k (outs.map (·.1)) with
    | true=>
      rw [hb] at h
      have:=fo (l:=l) h
      exact ⟨List.mem_cons_of_mem _ this.1,this.2⟩
    | false=>
      rw [hb] at h
      rcases List.mem_cons.1 h with rfl | h
      · exact ⟨List.mem_cons_self,fun hm=> by rw [inO_iff.2 hm] at hb;cases hb⟩
      have:=fo (l:=l) h
      exact ⟨List.mem_cons_of_mem _ this.1,this.2⟩
theorem gI {σ:St} {ρ:aw→aw} {outs:List (aw×Cells)} {ins I:List aw} (hn:((dQ ρ outs ins).map (·.1)).Nodup) (hno:((outs.map (·.1)).map ρ).Nodup) (hi:iG σ ρ ins outs) (ha:cP σ ((dg outs ins).map ρ)=false):σ.afterP ρ outs ins I=St.setObs (dQ ρ outs ins) σ:=by
  refine St.eq ?_ (fun t=> ?_) (fun c=> ?_) (funext fun c=> ?_) ?_
  · rw [fg];rfl
  · rw [eD];rfl
  · show bG ρ outs ins σ.ob c=_
    by_cases h:c∈(outs.map (·.1)).map ρ
    · obtain ⟨i,hi,rfl⟩:=List.mem_map.1 h
      obtain ⟨⟨i',o⟩,hm,rfl⟩:=List.mem_map.1 hi
      rw [bD hno hm]
      exact (dq _ _ hn (List.mem_append.2 (.inl (List.mem_map.2 ⟨(i',o),hm,rfl⟩)))).symm
    rw [bV h]
    cases hb:bs c (ins.map ρ) with
    | true=>
      obtain ⟨i,hi,rfl⟩:=List.mem_map.1 (inO_iff.1 hb)
      exact (dq _ _ hn (List.mem_append.2 (.inr (List.mem_map.2 ⟨i,dU hi fun hm=> h (List.mem_map_of_mem hm),rfl⟩)))).symm
    | false=>
      refine (dV _ _ fun hm=> ?_).symm
      obtain ⟨q,hq,rfl⟩:=List.mem_map.1 hm
      rcases List.mem_append.1 hq with hq | hq
      · obtain ⟨⟨i,o⟩,hx,rfl⟩:=List.mem_map.1 hq
        exact h (List.mem_map_of_mem (List.mem_map_of_mem (f:=(·.1)) hx))
      obtain ⟨i,hx,rfl⟩:=List.mem_map.1 hq
      have hr:bs (ρ i) (ins.map ρ)=true:=inO_iff.2 (List.mem_map_of_mem (fo hx).1)
      exact absurd (hr.symm.trans hb) ah
  · rw [eh]
    show fj ρ ins I (cP σ ((dg outs ins).map ρ)) σ.inc outs c=σ.inc c
    rw [ha]
    exact jx hi
  rw [ef];rfl
section
variable {P:Program} {σ:St}
theorem dW {dd:Option Tmp} {ty:TypeId} {f:FuncId} {xs:Array Operand} {ats:Array TypeId} (C:bR P f) (rn:List (aw×aw)) {args:List AV} {ins outs:List (aw×Cells)} {r:AV} {I Pn:List aw}
    (ha:dw σ rn (xs.toList.map σ.eval) args) (sp:Spec P f (aZ args ins) (aS r outs I Pn)) (hins:cB (aO rn) σ (fun _=> false) (ins.map (·.1)) ins) (hfr:cH σ (aO rn) (ins.map (·.1)) outs) (hni:iG σ (aO rn) (ins.map (·.1)) outs)
    (hai:cP σ ((dg outs (ins.map (·.1))).map (aO rn))=false) {obs:List (aw×Slot)} (ho:dQ (aO rn) outs (ins.map (·.1))=obs)
    (hb:(AV.withins (ins.map (·.1)) args && aU (ins.map (·.1)) ins && aV ((ins.map (·.1)).map (aO rn)) && aV (ins.map (·.1)) && aV ((outs.map (·.1)).map (aO rn)) && aV (outs.map (·.1)) && ei (ins.map (·.1)) Pn outs && r.within (outs.map (·.1)) && aU (outs.map (·.1)) outs)=true)
    (hb2:aV ((dQ (aO rn) outs (ins.map (·.1))).map (·.1))=true):
    Stp P dd (.call { callee:= .value (.func f),args:=xs,argTypes:=ats }) ty σ ((St.setObs obs σ).put dd (r.ren (aO rn))):=by
  subst ho
  have key:=jn (dd:=dd) (ty:=ty) (ats:=ats) C rn ha sp hins hfr hb
  simp only [Bool.and_eq_true] at hb
  rwa [gI (aQ hb2) (aQ hb.1.1.1.1.2) hni hai] at key
end
section
variable {P:Program} {σ:St}
end

theorem Le.cutR {σ:St} (id:aw) (k:Nat) {e:TypeId} {sz:Nat} {xs ys:List PV} (hid:σ.ob id= .obj (.row e sz xs)) (hy:xs.take k=ys):Le (σ.setOb id (.obj (.row e sz ys))) σ:=by
  subst hy
  intro K ι S a w R
  obtain ⟨B,h1,h2,h3⟩:=R.ob id _ hid
  refine ⟨ι,S,R.upd hid h1 (.of_below (eK w)) ⟨B,h1,h2,?_⟩ fun i hi=> hi.elim⟩
  rcases h3 with ⟨a1,a2,a3⟩ | ⟨g,cur,b1,b2,b3,b4,b5⟩
  · exact .inl ⟨a1,by rw [List.length_take];omega,a3⟩
  refine .inr ⟨g,cur,b1,b2,b3,by rw [List.length_take];omega,fun j hj=> ?_⟩
  rw [List.length_take] at hj
  obtain ⟨u,c1,c2,c3⟩:=b5 j ab
  refine ⟨u,c1,c2,fun p hp=> c3 p ?_⟩
  rw [List.getElem?_take_of_lt ab] at hp
  exact hp

def fh (σ:St) (ρ:aw→aw) (ins I:List aw) (any:Bool):List (aw×Cells)→Prop
  | []=> True
  | x::l=> (bif bs x.1 ins then true else bif bs x.1 I then (any==σ.inc (ρ x.1)) else !(σ.inc (ρ x.1)))=true∧fh σ ρ ins I any l
theorem gX {σ:St} {ρ:aw→aw} {ins I:List aw} {any:Bool} {c:aw}: ∀ {l:List (aw×Cells)},fh σ ρ ins I any l→fj ρ ins I any σ.inc l c=σ.inc c
  | [],_=> rfl
  | x::l,h=> by
    have h2:=gX (c:=c) h.2
    have h1:=h.1
    show (bif dL c (ρ x.1) then (bif bs x.1 ins then σ.inc c else bif bs x.1 I then any else false) else fj ρ ins I any σ.inc l c)=σ.inc c
    rw [h2]
    cases hc:dL c (ρ x.1) with
    | false=> rfl
    | true=>
      rw [oeq_iff.1 hc]
      cases hi:bs x.1 ins with
      | true=> rfl
      | false=>
        rw [hi] at h1
        cases hj:bs x.1 I with
        | true=>
          rw [hj] at h1
          have h1:(any==σ.inc (ρ x.1))=true:=h1
          exact beq_iff_eq.1 h1
        | false=>
          rw [hj] at h1
          have h1:(!(σ.inc (ρ x.1)))=true:=h1
          show false=σ.inc (ρ x.1)
          cases h5:σ.inc (ρ x.1) with
          | true=> rw [h5] at h1;cases h1
          | false=> rfl
theorem ev {σ:St} {ρ:aw→aw} {outs:List (aw×Cells)} {ins I:List aw} (hn:((dQ ρ outs ins).map (·.1)).Nodup) (hno:((outs.map (·.1)).map ρ).Nodup) (hi:fh σ ρ ins I (cP σ ((dg outs ins).map ρ)) outs):σ.afterP ρ outs ins I=St.setObs (dQ ρ outs ins) σ:=by
  refine St.eq ?_ (fun t=> ?_) (fun c=> ?_) (funext fun c=> ?_) ?_
  · rw [fg];rfl
  · rw [eD];rfl
  · show bG ρ outs ins σ.ob c=_
    by_cases h:c∈(outs.map (·.1)).map ρ
    · obtain ⟨i,hi,rfl⟩:=List.mem_map.1 h
      obtain ⟨⟨i',o⟩,hm,rfl⟩:=List.mem_map.1 hi
      rw [bD hno hm]
      exact (dq _ _ hn (List.mem_append.2 (.inl (List.mem_map.2 ⟨(i',o),hm,rfl⟩)))).symm
    rw [bV h]
    cases hb:bs c (ins.map ρ) with
    | true=>
      obtain ⟨i,hi,rfl⟩:=List.mem_map.1 (inO_iff.1 hb)
      exact (dq _ _ hn (List.mem_append.2 (.inr (List.mem_map.2 ⟨i,dU hi fun hm=> h (List.mem_map_of_mem hm),rfl⟩)))).symm
    | false=>
      refine (dV _ _ fun hm=> ?_).symm
      obtain ⟨q,hq,rfl⟩:=List.mem_map.1 hm
      rcases List.mem_append.1 hq with hq | hq
      · obtain ⟨⟨i,o⟩,hx,rfl⟩:=List.mem_map.1 hq
        exact h (List.mem_map_of_mem (List.mem_map_of_mem (f:=(·.1)) hx))
      obtain ⟨i,hx,rfl⟩:=List.mem_map.1 hq
      have hr:bs (ρ i) (ins.map ρ)=true:=inO_iff.2 (List.mem_map_of_mem (fo hx).1)
      exact absurd (hr.symm.trans hb) ah
  · rw [eh]
    show fj ρ ins I (cP σ ((dg outs ins).map ρ)) σ.inc outs c=σ.inc c
    exact gX hi
  rw [ef];rfl
section
variable {P:Program} {σ:St}
theorem aH {dd:Option Tmp} {ty:TypeId} {f:FuncId} {xs:Array Operand} {ats:Array TypeId} (C:bR P f) (rn:List (aw×aw)) {args:List AV} {ins outs:List (aw×Cells)} {r:AV} {I Pn:List aw}
    (ha:dw σ rn (xs.toList.map σ.eval) args) (sp:Spec P f (aZ args ins) (aS r outs I Pn)) (hins:cB (aO rn) σ (fun _=> false) (ins.map (·.1)) ins) (hfr:cH σ (aO rn) (ins.map (·.1)) outs) (hni:fh σ (aO rn) (ins.map (·.1)) I (cP σ ((dg outs (ins.map (·.1))).map (aO rn))) outs) {obs:List (aw×Slot)} (ho:dQ (aO rn) outs (ins.map (·.1))=obs)
    (hb:(AV.withins (ins.map (·.1)) args && aU (ins.map (·.1)) ins && aV ((ins.map (·.1)).map (aO rn)) && aV (ins.map (·.1)) && aV ((outs.map (·.1)).map (aO rn)) && aV (outs.map (·.1)) && ei (ins.map (·.1)) Pn outs && r.within (outs.map (·.1)) && aU (outs.map (·.1)) outs)=true)
    (hb2:aV ((dQ (aO rn) outs (ins.map (·.1))).map (·.1))=true):
    Stp P dd (.call { callee:= .value (.func f),args:=xs,argTypes:=ats }) ty σ ((St.setObs obs σ).put dd (r.ren (aO rn))):=by
  subst ho
  have key:=jn (dd:=dd) (ty:=ty) (ats:=ats) C rn ha sp hins hfr hb
  simp only [Bool.and_eq_true] at hb
  rwa [ev (aQ hb2) (aQ hb.1.1.1.1.2) hni] at key
theorem jC {dd:Option Tmp} {ty:TypeId} {f:FuncId} {x0:Operand} {xs:Array Operand} {ats:Array TypeId} {first caps:List AV} (hx:σ.eval x0= .fn (.func f) first caps) (C:bR P f) (rn:List (aw×aw)) {args:List AV} {ins outs:List (aw×Cells)} {r:AV} {I Pn:List aw}
    (ha:dw σ rn (first++xs.toList.map σ.eval++caps) args) (sp:Spec P f (aZ args ins) (aS r outs I Pn)) (hins:cB (aO rn) σ (fun _=> false) (ins.map (·.1)) ins) (hfr:cH σ (aO rn) (ins.map (·.1)) outs) (hni:fh σ (aO rn) (ins.map (·.1)) I (cP σ ((dg outs (ins.map (·.1))).map (aO rn))) outs) {obs:List (aw×Slot)} (ho:dQ (aO rn) outs (ins.map (·.1))=obs)
    (hb:(AV.withins (ins.map (·.1)) args && aU (ins.map (·.1)) ins && aV ((ins.map (·.1)).map (aO rn)) && aV (ins.map (·.1)) && aV ((outs.map (·.1)).map (aO rn)) && aV (outs.map (·.1)) && ei (ins.map (·.1)) Pn outs && r.within (outs.map (·.1)) && aU (outs.map (·.1)) outs)=true)
    (hb2:aV ((dQ (aO rn) outs (ins.map (·.1))).map (·.1))=true):
    Stp P dd (.call { callee:= .value x0,args:=xs,argTypes:=ats }) ty σ ((St.setObs obs σ).put dd (r.ren (aO rn))):=by
  subst ho
  have key:=kE (dd:=dd) (ty:=ty) (ats:=ats) hx C rn ha sp hins hfr hb
  simp only [Bool.and_eq_true] at hb
  rwa [ev (aQ hb2) (aQ hb.1.1.1.1.2) hni] at key
end
end Go.Proofs.Ytmjnackchaahbaa
