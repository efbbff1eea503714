/- part 5 -/
import Derived.DataReads
import Derived.ChangeSlices
import Derived.WalkKit
import Derived.ChangeOld
import Derived.SizedLaws
import Derived.ChangeKeysEq
import Derived.RangeFuncNested
import Derived.Maps.RangeRun
import Derived.Test.YtmjnackchaahbaaDoZ4
set_option linter.unusedSimpArgs false
set_option linter.unusedVariables false
namespace Go.Proofs.Ytmjnackchaahbaa
open Go.RowKit

def eR {α:Type} (pl:Nat→Option (Nat×Nat)):List α→List (Nat×List α)→Option (List α)
  | cs,[]=> some cs
  | cs,(i,vs)::rest=> match pl i with
    | some (off,size)=> bif Nat.beq vs.length size && Nat.ble (off+size) cs.length then eR pl (bZ cs off vs) rest else none
    | none=> none

class Bld (P:Program) (t:TypeId) (z:outParam (List Value)) (pl:outParam (Nat→Option (Nat×Nat))):Prop where
  out: ∀ (parts:Array (Nat×Value)) (cs:Array Value) (w:World),Instr.fill pl z.toArray parts.toList=some cs→(Instr.build t parts).run P w= .ok (.agg cs) w
  one: ∀ u∈z,u.oneCell'=true

theorem Bld.struct {P:Program} {t:TypeId} {z:List Value} {fs:Array Field} {bytes:Nat} (zv:Value) (pl:List (Nat×Nat)) (h1:P.underlying t=some (.struct fs)) (h2:(P.info? t).map (fun i=> (i.zero,i.size,i.bytes))=some (some zv,z.length,bytes)) (h3:zv.cells=z.toArray)
    (h4: ∀ u∈z,u.oneCell'=true) (hp: ∀ w,(fs.mapM fun f=> do pure (f.offset,← sizeOf f.type):Sem (Array (Nat×Nat))).run P w= .ok pl.toArray w):Bld P t z (fun i=> pl[i]?):=by
  obtain ⟨i,hi,a,b,c⟩:=info_parts h2
  refine ⟨fun parts cs w hf=> ?_,h4⟩
  have hp':=hp w
  have hz:(zeroValue t).run P w= .ok zv w:=by simp [zeroValue,typeInfo,hi,a]
  simp only [Instr.build,Sem.run_bind,hz,run_underlying h1,Result.andThen_ok,hp',h3,Sem.run_pure,List.getElem?_toArray,hf]
theorem Bld.array {P:Program} {t e:TypeId} {z:List Value} {n size bytes:Nat} (zv:Value) (h1:P.underlying t=some (.array n e)) (h2:(P.info? t).map (fun i=> (i.zero,i.size,i.bytes))=some (some zv,z.length,bytes)) (h3:zv.cells=z.toArray)
    (h4: ∀ u∈z,u.oneCell'=true) (hs:(P.info? e).map (·.size)=some size):Bld P t z (fun i=> some (i*size,size)):=by
  obtain ⟨i,hi,a,b,c⟩:=info_parts h2
  obtain ⟨j,hj,hjs⟩:=Option.map_eq_some_iff.1 hs
  refine ⟨fun parts cs w hf=> ?_,h4⟩
  simp [Instr.build,zeroValue,typeInfo,sizeOf,hi,a,h3,run_underlying h1,hj,hjs,hf]

def fK (σ:St):List (Nat×Operand)→Option (List (Nat×List AV))
  | []=> some []
  | (i,x)::l=> match (σ.eval x).cells,fK σ l with
    | some c,some r=> some ((i,c)::r)
    | _,_=> none

theorem fW (pl:Nat→Option (Nat×Nat)) {R:AV→Value→Prop}: ∀ (ps:List (Nat×List AV)) (vs:List (Nat×Value)) (cs:List AV) (us:Array Value) (ys:List AV),eR pl cs ps=some ys→
    vs.length=ps.length→(∀ (j:Nat) (p:Nat×List AV) (v:Nat×Value),ps[j]? =some p→vs[j]? =some v→p.1=v.1∧v.2.cells.size=p.2.length∧(∀ x∈v.2.cells.toList,x.oneCell'=true)∧ ∀ (k:Nat) (b:AV),p.2[k]? =some b→R b (v.2.cells.getD k undef))→
    us.size=cs.length→(∀ u∈us.toList,u.oneCell'=true)→(∀ (k:Nat) (b:AV),cs[k]? =some b→R b (us.getD k undef))→
    ∃ us',Instr.fill pl us vs=some us'∧us'.size=ys.length∧(∀ u∈us'.toList,u.oneCell'=true)∧ ∀ (k:Nat) (b:AV),ys[k]? =some b→R b (us'.getD k undef)
  | [],vs,cs,us,ys,h,hl,_,h1,h2,h3=> by
    obtain rfl:vs=[]:=List.eq_nil_of_length_eq_zero hl
    simp only [eR] at h
    obtain rfl:=Option.some.inj h
    exact ⟨us,rfl,h1,h2,h3⟩
  | (i,c)::ps,vs,cs,us,ys,h,hl,hp,h1,h2,h3=> by
    cases vs with
    | nil=> simp at hl
    | cons v vs=>
      obtain ⟨i',v⟩:=v
      obtain ⟨e1,e2,e3,e4⟩:=hp 0 _ _ rfl rfl
      simp only at e1 e2 e3 e4
      subst e1
      simp only [eR] at h
      split at h
      · rename_i off size hpl
        cases hc:(Nat.beq c.length size && Nat.ble (off+size) cs.length) with
        | false=> rw [hc] at h;cases h
        | true=>
          rw [hc] at h
          simp only [Bool.and_eq_true,Nat.beq_eq,Nat.ble_eq] at hc
          obtain ⟨hc1,hc2⟩:=hc
          subst hc1
          have hf:=gO v.cells.toList off 0 us (by simp [e2];omega)
          simp only [Nat.add_zero] at hf
          have hz:(v.cells.zipIdx.foldl (fun (cs:Array Value) (p:Value×Nat)=> cs.setIfInBounds (off+p.2) p.1) us)=(put us.toList off v.cells.toList).toArray:=by
            rw [← hf,← Array.foldl_toList,Array.toList_zipIdx]
          have hz':(Array.foldl (fun cs (x:Value×Nat)=> match x with | (c,j)=> cs.setIfInBounds (off+j) c) us v.cells.zipIdx)=(put us.toList off v.cells.toList).toArray:=hz
          have hvl:v.cells.toList.length=c.length:=by simpa using e2
          have hcl:off+v.cells.toList.length≤us.toList.length:=by rw [hvl];simp;omega
          have hstep:=fW pl (R:=R) ps vs (bZ cs off c) (bZ us.toList off v.cells.toList).toArray ys h (by simpa using hl) (fun j p q hj hq=> hp (j+1) p q (by simpa using hj) (by simpa using hq))
            (by simp [cg _ _ _ hcl,cg _ _ _ hc2,h1]) (fun u hu=> by
              rcases fG (by simpa using hu) with hu | hu
              · exact h2 u hu
              · exact e3 u hu) (fun k b hb=> by
              rw [co _ _ _ hc2] at hb
              have hk:(bZ us.toList off v.cells.toList).toArray.getD k undef=((bZ us.toList off v.cells.toList)[k]?).getD undef:=by simp [List.getD_eq_getElem?_getD]
              rw [hk,co _ _ _ hcl,hvl]
              split at hb
              · rename_i hin
                rw [if_pos hin]
                have:=e4 _ b hb
                simpa using this
              rename_i hin
              rw [if_neg hin]
              have:=h3 k b hb
              simpa using this)
          obtain ⟨us',r1,r2,r3,r4⟩:=hstep
          refine ⟨us',?_,r2,r3,r4⟩
          simp only [Instr.fill,hpl]
          rw [if_neg (by simp [e2];omega)]
          rw [hz']
          exact r1
      cases h

section
variable {P:Program} {σ:St} {o:Oper} {z:List Value}
theorem eU {K:eB} {ι:aq→Option ci} {S:Nat→Prop} {a:Act} {w:World} (R:RelI K ι S σ a w): ∀ (l:List (Nat×Operand)) (r:List (Nat×List AV)),fK σ l=some r→
    l.length=r.length∧(∀ (j:Nat) (p:Nat×List AV) (v:Nat×Value),r[j]? =some p→(l.map fun q=> (q.1,a.eval q.2))[j]? =some v→p.1=v.1∧v.2.cells.size=p.2.length∧(∀ x∈v.2.cells.toList,x.oneCell'=true)∧ ∀ (k:Nat) (b:AV),p.2[k]? =some b→Rep ι S w b (v.2.cells.getD k undef))∧
      ∀ p∈r,∀ b∈p.2,∀ i,Has i b→σ.ob i≠ .free
  | [],r,h=> by simp [fK] at h;subst h;simp
  | (i,x)::l,r,h=> by
    simp only [fK] at h
    split at h
    · rename_i c r' hc hr
      obtain rfl:=Option.some.inj h
      obtain ⟨h1,h2,h3⟩:=eU R l r' hr
      obtain ⟨c1,c2,c3⟩:=(R.eval x).cells hc
      refine ⟨by simp [h1],fun j p v hp hv=> ?_,fun p hp b hb k hk=> ?_⟩
      · cases j with
        | zero=>
          simp at hp hv
          subst hp;subst hv
          exact ⟨rfl,c1,c2,c3⟩
        | succ j=> exact h2 j p v (by simpa using hp) (by simpa using hv)
      rcases List.mem_cons.1 hp with rfl | hp
      · exact R.evalHas x (dT hc hb hk)
      exact h3 p hp b hb k hk
    cases h

theorem fY {pl:Nat→Option (Nat×Nat)} {Q:AV→Prop}: ∀ (ps:List (Nat×List AV)) (cs ys:List AV),eR pl cs ps=some ys→(∀ b∈cs,Q b)→(∀ p∈ps,∀ b∈p.2,Q b)→ ∀ b∈ys,Q b
  | [],cs,ys,h,h1,_=> by
    simp only [eR] at h
    obtain rfl:=Option.some.inj h
    exact h1
  | (i,c)::ps,cs,ys,h,h1,h2=> by
    simp only [eR] at h
    split at h
    · cases hc:(Nat.beq c.length _ && Nat.ble _ cs.length) with
      | false=> rw [hc] at h;cases h
      | true=>
        rw [hc] at h
        exact fY ps _ ys h (fun b hb=> by
          rcases fG hb with hb | hb
          · exact h1 b hb
          exact h2 _ List.mem_cons_self b hb) fun p hp=> h2 p (List.mem_cons_of_mem _ hp)
    cases h

theorem bE {dd:Option Tmp} {ty t:TypeId} {pl:Nat→Option (Nat×Nat)} (parts:Array (Nat×Operand)) (B:Bld P t z pl) {r:List (Nat×List AV)} (hp:fK σ parts.toList=some r) {ys:List AV} (hf:eR pl (z.map AV.v) r=some ys):
    cD P dd (.build t parts) ty σ (σ.put dd (.agg ys)):=by
  intro o hd ho ht
  subst hd
  refine bg fun K ι S a w R=> ?_
  obtain ⟨h1,h2,h3⟩:=eU R _ _ hp
  obtain ⟨us,u1,u2,u3,u4⟩:=fW pl (R:=Rep ι S w) r (parts.toList.map fun q=> (q.1,a.eval q.2)) (z.map AV.v) z.toArray ys hf (by simp at h1 ⊢;omega) h2 (by simp) (by simpa using B.one) (fun k b hb=> by
    simp only [List.getElem?_map] at hb
    obtain ⟨x,hx,rfl⟩:=Option.map_eq_some_iff.1 hb
    have:z.toArray.getD k undef=x:=by simp [hx]
    rw [this];exact .v)
  refine ⟨.agg us,?_, .agg u2 u3 u4,fun i hi=> ?_⟩
  · have:=B.out (parts.map fun q=> (q.1,a.eval q.2)) us w (by simpa using u1)
    have he:(parts.map fun x=> match x with | (i,x)=> (i,a.eval x))=parts.map fun q=> (q.1,a.eval q.2):=rfl
    simp only [execOp,ho,he,Sem.run_bind,this,Result.andThen_ok,Sem.run_pure]
  cases hi with
  | agg hm hi=>
    refine fY (Q:=fun b=> ∀ i,Has i b→σ.ob i≠ .free) r _ ys hf (fun b hb i hi=> ?_) h3 _ hm i hi
    simp only [List.mem_map] at hb
    obtain ⟨x,_,rfl⟩:=hb
    cases hi

end

theorem Spec.mono {P:Program} {f:FuncId} {σ σ' σ'':St} (h:Spec P f σ σ') (hl:Le σ'' σ'):Spec P f σ σ'':=by
  intro K ι S vs w hK hr R
  refine (h K ι S vs w hK hr R).mono ?_
  rintro e w' ⟨v,ι',S',rfl,R'⟩
  obtain ⟨ι2,S2,R2⟩:=hl K ι' S' _ w' R'
  exact ⟨v,ι2,S2,rfl,R2⟩
theorem jI {ρ:aq→aq} {σ:St} {F:aq→Bool} {id:aq} {e:TypeId} {sz n:Nat} {xs ys:List PV} (hid:σ.ob id= .obj (.row e sz xs)) (hF:F id=true) (hl:n*sz=xs.length) (hy:xs=ys):Lv ρ σ F (.sl n ys) (.ref id 0 n):=
  .frz hid hF (by rw [List.drop_zero,hl,List.take_length,hy]) ab

theorem Le.outO {r r':AV} {obs obs':List (aq×Cells)} {I Pn:List aq} (rn:List (aq×aq)) (Fz:List aq) (hr:Lv (bb rn) (bY r obs' I Pn) (fun i=> bH i Fz) r' r) (hw1:r'.within (obs.map (·.1))=true) (hw2:bf (obs.map (·.1)) obs=true)
    (hd:bj ((obs.map (·.1)).map (bb rn))=true) (hi:cB (bY r obs' I Pn) Fz) (ho:eD (bb rn) (bY r obs' I Pn) (fun i=> bH i Fz) obs):Le (bc r' obs) (bY r obs' I Pn):=by
  refine Le.gen (n:=1) rn Fz rfl (fun t=> ?_) (fun t id h=> ?_) hw2 hd hi ho
  · show Lv _ _ _ _ (bif Nat.beq t 0 then r else .dead)
    cases hb:Nat.beq t 0 with
    | true=> exact hr
    | false=> exact .dead
  cases hb:Nat.beq t 0 with
  | true=> rw [hb] at h;exact cf r' hw1 h
  | false=> rw [hb] at h;cases h
section
variable {P:Program} {σ:St} {o:Oper} {z:List Value} {T e:TypeId} {size bytes:Nat}

theorem bO {dd:Option Tmp} {ty:TypeId} (len:Nat) (parts:Array (Nat×Operand)) (E:Elem P T e size bytes z) {r:List (List AV)} (hp:cQ σ 0 parts.toList=some r) (hlen:r.length=len) (hsz: ∀ c∈r,c.length=size)
    (hb:len*size≤100000) {xs:List PV} (hxs:dG r.flatten=some xs):cD P dd (.buildSlice T len parts) ty σ (σ.put dd (.sl len xs)):=by
  intro o hd ho ht
  subst hd
  intro K ι S a w R
  obtain ⟨vs,h1,h2,h3,h4,h5,h6⟩:=di R _ _ _ hp
  obtain ⟨d1,d2⟩:=cI hxs
  have hvsz: ∀ v∈vs,v.cells.size=size:=by
    intro v hv
    obtain ⟨j,hj,rfl⟩:=List.getElem_of_mem hv
    have hjr:j < r.length:=by omega
    rw [h3 j _ _ (List.getElem?_eq_getElem hj) (List.getElem?_eq_getElem hjr)]
    exact hsz _ (List.getElem_mem hjr)
  obtain ⟨v',w',hr,H',hbl,hfr,_⟩:=hP (P:=P) (ρ:=a.eval) (SH.start w) len parts ho vs h1 ab hvsz _ rfl h5 hb
  have hrow:=H'.get (i:=0) (x:= .row v' e size len (vs.flatMap fun v=> v.cells.toList)) rfl
  have hxl:xs.length=len*size:=by
    have: ∀ (r:List (List AV)),(∀ c∈r,c.length=size)→r.flatten.length=r.length*size:=by
      intro r
      induction r with
      | nil=> simp
      | cons c r ih=>
        intro h
        rw [List.flatten_cons,List.length_append,ih fun c hc=> h c (List.mem_cons_of_mem _ hc),h c List.mem_cons_self,List.length_cons,Nat.add_mul,Nat.one_mul,Nat.add_comm]
    rw [← d1,this r hsz,hlen]
  have fin: ∀ (S':Nat→Prop),(∀ g,S g→S' g)→(∀ g,S' g→S g∨w.heap.size≤g)→(∀ g,S' g→g < w'.heap.size)→Rd S' w' (.sl len xs) v'→cH P o a.eval w fun v w''=> ∃ ι' S',RelI K ι' S' (σ.put o.dst (.sl len xs)) (a.put o.dst v) w'':=by
    intro S' g1 g2 g3 hrd
    have R3:=R.gen (ι':=ι) (S':=S') (w':=w') (ob':=σ.ob) (inc':=σ.inc) (fun _=> False) (.of_below hbl) (fun _ _=> rfl) (fun _ _=> rfl) (fun _ _=> rfl) (fun _ h=> h) g1
      (fun g h=> by rcases g2 g h with h | h; · exact .inl h
                    exact .inr (.inl h)) g3
      (fun _ _ h=> h.elim) (fun _ _ h=> h.elim) (fun _ _ h=> h.elim) (fun _ _ _ _ _ h=> h.elim) (fun _ _ _ h=> h.elim) (fun _ _ _ h=> h.elim)
    exact bk hr ⟨ι,S',R3.put o.dst (.sl hrd) fun i hi=> ig hi⟩
  rcases dx (w:=w') (e:=e) (sz:=size) (n:=len) (v:=v') (us:=vs.flatMap fun v=> v.cells.toList) ⟨hrow.1.1,by
    rcases hrow.1.2 with h | ⟨g,cap,cur,a1,a2,a3⟩
    · exact .inl h
    exact .inr ⟨g,cap,cur,a1,Nat.zero_le _,a3⟩⟩ with ⟨hv,rfl,hu0⟩ | ⟨g,c,cur,hv,hg,hnc,hcm,hcs,hcu⟩
  · subst hv
    have:xs=[]:=List.eq_nil_of_length_eq_zero (by simpa using hxl)
    subst this
    exact fin S (fun _ h=> h) (fun _ h=> .inl h) (fun g h=> Nat.lt_of_lt_of_le (R.Slt g h) hbl.size) (.sl0 (Nat.le_refl _) (by unfold maxLen;omega) fun _=> ⟨rfl,rfl⟩)
  subst hv
  have hgw:w.heap.size≤g:=hfr g rfl
  refine fin (fun k=> S k∨k=g) (fun _ h=> .inl h) (fun k h=> by
    rcases h with h | h
    · exact .inl h
    exact .inr (by rw [h];exact hgw)) (fun k h=> ?_) ?_
  · rcases h with h | h
    · exact Nat.lt_of_lt_of_le (R.Slt k h) hbl.size
    rw [h];exact (Array.getElem?_eq_some_iff.1 hg).1
  have key: ∀ (j:Nat) (p:PV),xs[j]? =some p→ ∃ u,cur[j]? =some u∧Rd (fun k=> S k∨k=g) w' p u:=by
    intro j p hj
    obtain ⟨b,hb',hbd⟩:=d2 j p hj
    obtain ⟨u,hu,hru⟩:=h6 j b hb'
    exact ⟨u,hcu j u hu,(hru.down hbd (h5 u (List.mem_of_getElem? hu))).next (fun k hk=> hbl.block k (R.Slt k hk)) fun _ h=> .inl h⟩
  have:=Rd.sl (S:=fun k=> S k∨k=g) (w:=w') (n:=len) (c:=c) (b:=g) (o:=0) (xs:=xs) (fun j=> cur.getD j undef) hnc hcm (.mk (.inr rfl) hg) (fun j p hj=> ?_) (fun j p hj=> ?_)
  · exact this
  · obtain ⟨u,hu,_⟩:=key j p hj
    simp only [Nat.zero_add,Array.getD_eq_getD_getElem?,hu,Option.getD_some]
    exact cj hg hu
  obtain ⟨u,hu,hru⟩:=key j p hj
  simp only [Array.getD_eq_getD_getElem?,hu,Option.getD_some]
  exact hru
end
section
variable {P:Program} {σ:St} {z:List Value} {T e:TypeId} {size bytes:Nat}

theorem dD (w:World):Below w.heap.size w w:=Below.refl _ _

end

mutual
theorem Lv.same {σ:St} {F:aq→Bool}:(a:AV)→Lv (fun i=> i) σ F a a
  | .dead=> .dead
  | .v _=> .v
  | .sl _ _=> .sl
  | .fp _ _=> .fp
  | .z=> .z
  | .mp _=> .mp (ρ:=fun i=> i)
  | .ref _ _ _=> .ref (ρ:=fun i=> i)
  | .ptr _ _=> .ptr (ρ:=fun i=> i)
  | .agg xs=> .agg rfl fun j a b ha hb=> by
      rw [ha] at hb;cases hb;exact Lv.sames xs j a ha
  | .fn f xs us=> .fn rfl (fun j a b ha hb=> by
      rw [ha] at hb;cases hb;exact Lv.sames xs j a ha) rfl fun j a b ha hb=> by
      rw [ha] at hb;cases hb;exact Lv.sames us j a ha
  | .ifc t a=> .ifc (Lv.same a)
  | .tup xs=> .tup rfl fun j a b ha hb=> by
      rw [ha] at hb;cases hb;exact Lv.sames xs j a ha
theorem Lv.sames {σ:St} {F:aq→Bool}:(xs:List AV)→(j:Nat)→(a:AV)→xs[j]? =some a→Lv (fun i=> i) σ F a a
  | [],_,_,h=> by simp at h
  | x::xs,0,a,h=> by simp at h;subst h;exact Lv.same x
  | x::xs,j+1,a,h=> Lv.sames xs j a (by simpa using h)
end
theorem LvO.same {σ:St} {F:aq→Bool}:(o:Cells)→LvO (fun i=> i) σ F o o
  | .row _ _ xs=> .row (List.append_nil xs).symm
  | .box _ xs=> .box rfl fun j a b ha hb=> by
      rw [ha] at hb;cases hb;exact Lv.sames xs j a ha
  | .rowA _ _ xs=> .rowA rfl fun j a b ha hb=> by
      rw [ha] at hb;cases hb;exact Lv.sames xs j a ha
  | .mp _ _=> .mp
  | .it _ _ _ _=> .it (ρ:=fun i=> i)

theorem Le.frzS {σ:St} (t:Nat) {id:aq} {off n:Nat} {e:TypeId} {sz:Nat} {xs ys:List PV} (hr:σ.fr t= .ref id off n) (hid:σ.ob id= .obj (.row e sz xs)) (hi:σ.inc id=false) (hy:(xs.drop off).take (n*sz)=ys) (hl:off+n*sz≤xs.length):
    Le ((σ.setOb id .gone).put (some t) (.sl n ys)) σ:=by
  intro K ι S a w R
  have hob: ∀ i o,((σ.setOb id .gone).put (some t) (.sl n ys)).ob i= .obj o→dI i id=false∧σ.ob i= .obj o:=by
    intro i o h
    rw [St.put_ob] at h
    simp only [St.setOb] at h
    cases hb:dI i id with
    | true=> rw [hb] at h;cases h
    | false=> rw [hb] at h;exact ⟨rfl,h⟩
  have hnf: ∀ i,σ.ob i≠ .free→((σ.setOb id .gone).put (some t) (.sl n ys)).ob i≠ .free:=by
    intro i h h'
    rw [St.put_ob] at h'
    simp only [St.setOb] at h'
    cases hb:dI i id with
    | true=> rw [hb] at h';cases h'
    | false=> rw [hb] at h';exact h h'
  refine Le.of (fun i=> i) (fun i=> dI i id) (by rw [St.put_n];rfl) (fun u hu=> ?_) (fun i o h=> ?_) (fun _ _ _ _ _ _ h=> h) (fun i h=> ?_) (fun i o h h'=> ?_) (fun u i h=> ?_) (fun i o j h h'=> ?_) (fun i h o hp ho=> ?_) (fun i h=> ?_) K ι S a w R
  · show Lv _ _ _ (bif Nat.beq u t then _ else σ.fr u) _
    cases hb:Nat.beq u t with
    | true=> rw [Nat.eq_of_beq_eq_true hb,hr];exact .frz hid (bT id) hy hl
    | false=> exact Lv.same _
  · obtain ⟨h1,h2⟩:=hob i o h
    exact ⟨h1,o,h2,LvO.same o⟩
  · rw [oeq_iff.1 h];exact hi
  · exact h'
  · replace h:Has i (bif Nat.beq u t then _ else σ.fr u):=h
    cases hb:Nat.beq u t with
    | true=> rw [hb] at h;cases h
    | false=> rw [hb] at h;exact hnf i (R.cl u i h)
  · exact hnf j (R.clo i o j (hob i o h).2 h')
  · exact hp
  refine R.pf i ?_
  rw [St.put_ob] at h
  simp only [St.setOb] at h
  cases hb:dI i id with
  | true=> rw [hb] at h;cases h
  | false=> rw [hb] at h;exact h
theorem Le.frzB {σ:St} (ib:aq) (j:Nat) {T:TypeId} {cs:List AV} {id:aq} {off n:Nat} {e:TypeId} {sz:Nat} {xs ys:List PV} (hb:σ.ob ib= .obj (.box T cs)) (hr:cs[j]? =some (.ref id off n)) (hid:σ.ob id= .obj (.row e sz xs)) (hi:σ.inc id=false) (hy:(xs.drop off).take (n*sz)=ys) (hl:off+n*sz≤xs.length):
    Le ((σ.setOb id .gone).setOb ib (.obj (.box T (cs.set j (.sl n ys))))) σ:=by
  intro K ι S a w R
  have hne:dI ib id=false:=by
    cases h:dI ib id with
    | true=> rw [oeq_iff.1 h,hid] at hb;cases hb
    | false=> rfl
  have hob: ∀ i o,((σ.setOb id .gone).setOb ib (.obj (.box T (cs.set j (.sl n ys))))).ob i= .obj o→dI i id=false∧((dI i ib=false∧σ.ob i= .obj o)∨(i=ib∧o= .box T (cs.set j (.sl n ys)))):=by
    intro i o h
    simp only [St.setOb] at h
    cases h1:dI i ib with
    | true=>
      rw [h1] at h
      have:=oeq_iff.1 h1
      subst this
      cases h
      exact ⟨hne, .inr ⟨rfl,rfl⟩⟩
    | false=>
      rw [h1] at h
      cases h2:dI i id with
      | true=> rw [h2] at h;cases h
      | false=> rw [h2] at h;exact ⟨rfl, .inl ⟨rfl,h⟩⟩
  have hnf: ∀ i,σ.ob i≠ .free→((σ.setOb id .gone).setOb ib (.obj (.box T (cs.set j (.sl n ys))))).ob i≠ .free:=by
    intro i h h'
    simp only [St.setOb] at h'
    cases h1:dI i ib with
    | true=> rw [h1] at h';cases h'
    | false=>
      rw [h1] at h'
      cases h2:dI i id with
      | true=> rw [h2] at h';cases h'
      | false=> rw [h2] at h';exact h h'
  refine Le.of (σ1:=(σ.setOb id .gone).setOb ib (.obj (.box T (cs.set j (.sl n ys))))) (σ2:=σ) (fun i=> i) (fun i=> dI i id) rfl (fun u hu=> Lv.same _) (fun i o h=> ?_) (fun _ _ _ _ _ _ h=> h) (fun i h=> ?_) (fun i o h h'=> h') (fun u i h=> hnf i (R.cl u i h)) (fun i o k h h'=> ?_) (fun i h o hp ho=> hp) (fun i h=> ?_) K ι S a w R
  · obtain ⟨h1,⟨_,h2⟩ | ⟨rfl,rfl⟩⟩:=hob i o h
    · exact ⟨h1,o,h2,LvO.same o⟩
    refine ⟨h1,_,hb, .box (by simp) fun k a b ha hb'=> ?_⟩
    by_cases hk:j=k
    · subst hk
      rw [hr] at hb';cases hb'
      have hjl:j < cs.length:=(List.getElem?_eq_some_iff.1 hr).1
      rw [List.getElem?_set_self hjl] at ha;cases ha
      exact .frz hid (bT id) hy hl
    rw [List.getElem?_set_ne hk,hb'] at ha;cases ha;exact Lv.same _
  · rw [oeq_iff.1 h];exact hi
  · obtain ⟨h1,⟨_,h2⟩ | ⟨rfl,rfl⟩⟩:=hob i o h
    · exact hnf k (R.clo i o k h2 h')
    obtain ⟨x,hx,hk⟩:=h'
    rcases List.mem_or_eq_of_mem_set hx with hx | hx
    · exact hnf k (R.clo _ _ k hb ⟨x,hx,hk⟩)
    subst hx;cases hk
  refine R.pf i ?_
  simp only [St.setOb] at h
  cases h1:dI i ib with
  | true=> rw [h1] at h;cases h
  | false=>
    rw [h1] at h
    cases h2:dI i id with
    | true=> rw [h2] at h;cases h
    | false=> rw [h2] at h;exact h
theorem Rep.toAgg {ι:aq→Option ci} {S:Nat→Prop} {w:World} {us:List Value} {u:Value} (h:Rep ι S w (.agg (us.map AV.v)) u):u= .agg us.toArray:=by
  cases h with
  | @agg xs vs h1 h2 h3=>
    congr 1
    refine Array.ext (by simpa using h1) fun j hj hj'=> ?_
    have hjl:j < us.length:=by simpa using hj'
    have:=h3 j (.v us[j]) (by simp [hjl])
    have:=this.toV
    rw [Array.getD_eq_getD_getElem?,Array.getElem?_eq_getElem hj] at this
    simpa using this
theorem jH {P:Program} {σ:St} {dd:Option Tmp} {ty:TypeId} {op:BinOp} {t t':TypeId} {x y:Operand} (us vs:List Value) (hx:σ.eval x= .agg (us.map AV.v)) (hy:σ.eval y= .agg (vs.map AV.v)) {r:Value}
    (h: ∀ (o:Oper) (ρ:Operand→Value) w,o.op= .binOp op t x y t'→ρ x= .agg us.toArray→ρ y= .agg vs.toArray→(execOp ρ o).run P w= .ok (.value r) w):cD P dd (.binOp op t x y t') ty σ (σ.put dd (.v r)):=by
  intro o hd ho ht
  subst hd
  exact bg fun _ _ _ a w R=> ⟨r,h o a.eval w ho (Rep.toAgg (hx ▸ R.eval x)) (Rep.toAgg (hy ▸ R.eval y)), .v,fun _=> dn⟩

theorem Le.nilB {σ:St} (ib:aq) (j:Nat) (id:aq) (e:TypeId) (sz:Nat) {T:TypeId} {cs:List AV} (hb:σ.ob ib= .obj (.box T cs)) (hr:cs[j]? =some (.v (.slice none 0 0))) (hid:σ.ob id= .free):
    Le ((σ.setOb id (.obj (.row e sz []))).setOb ib (.obj (.box T (cs.set j (.ref id 0 0))))) σ:=by
  intro K ι S a w R
  have R1:=R.new (w':=w) (o:= .row e sz []) (B:=⟨none,0,sz⟩) hid (dD w) (fun k hk=> by cases hk) ⟨_,bh _ _ _,rfl, .inl ⟨rfl,rfl,rfl⟩⟩ (fun i hi=> hi.elim)
  have hne:ib≠id:=fun h=> by rw [h,hid] at hb;cases hb
  have hb1:(σ.setOb id (.obj (.row e sz []))).ob ib= .obj (.box T cs):=by rw [St.setOb_ne _ _ hne];exact hb
  obtain ⟨B,g,h1,h2,h3,h4⟩:=R1.ob ib _ hb1
  refine ⟨_,S,R1.upd hb1 h1 (.of_below (dD w)) ⟨B,g,h1,h2,by simpa using h3,?_⟩ ?_⟩
  · rw [List.length_set]
    refine h4.next (fun _ _=> rfl) fun k u hu x hx=> ?_
    by_cases hk:j=k
    · subst hk
      have:=(hu _ hr).toV
      subst this
      rw [List.getElem?_set_self (List.getElem?_eq_some_iff.1 hr).1] at hx
      cases hx
      refine .ref (fun B' hB=> ?_) rfl
      rw [bh] at hB
      obtain rfl:=Option.some.inj hB
      exact ⟨0,Nat.le_refl _,by unfold maxLen;omega,rfl,rfl,rfl⟩
    rw [List.getElem?_set_ne hk] at hx
    exact hu x hx
  rintro i ⟨x,hx,hi⟩
  rcases List.mem_or_eq_of_mem_set hx with hx | hx
  · exact R1.clo ib _ i hb1 ⟨x,hx,hi⟩
  subst hx;cases hi;rw [St.setOb_same];intro h;cases h
theorem Le.nilS {σ:St} (t:Nat) (id:aq) (e:TypeId) (sz:Nat) (ht:σ.fr t= .v (.slice none 0 0)) (hid:σ.ob id= .free):Le ((σ.setOb id (.obj (.row e sz []))).put (some t) (.ref id 0 0)) σ:=by
  intro K ι S a w R
  have R1:=R.new (w':=w) (o:= .row e sz []) (B:=⟨none,0,sz⟩) hid (dD w) (fun k hk=> by cases hk) ⟨_,bh _ _ _,rfl, .inl ⟨rfl,rfl,rfl⟩⟩ (fun i hi=> hi.elim)
  refine ⟨_,S,⟨R1.keeps,R1.S0,R1.Slt,R1.nt,R1.df,fun u hu=> ?_,fun u i hi=> ?_,R1.clo,R1.ob,R1.dom,R1.inj,R1.sep,R1.pin,R1.pf⟩⟩
  · show Rep _ _ _ (bif Nat.beq u t then _ else σ.fr u) _
    cases hb:Nat.beq u t with
    | true=>
      have:=Nat.eq_of_beq_eq_true hb
      subst this
      have h0:=R1.fr u hu
      rw [show (σ.setOb id (.obj (.row e sz []))).fr u= .v (.slice none 0 0) from ht] at h0
      rw [h0.toV]
      refine .ref (fun B' hB=> ?_) rfl
      rw [bh] at hB
      obtain rfl:=Option.some.inj hB
      exact ⟨0,Nat.le_refl _,by unfold maxLen;omega,rfl,rfl,rfl⟩
    | false=> exact R1.fr u hu
  replace hi:Has i (bif Nat.beq u t then _ else σ.fr u):=hi
  cases hb:Nat.beq u t with
  | true=> rw [hb] at hi;cases hi;show (σ.setOb id _).ob id≠_;rw [St.setOb_same];intro h;cases h
  | false=> rw [hb] at hi;exact R1.cl u i hi
theorem Le.nil0 {σ:St} (ib:aq) (j:Nat) {T:TypeId} {cs:List AV} (hb:σ.ob ib= .obj (.box T cs)) (hr:cs[j]? =some (.v (.slice none 0 0))):Le (σ.setOb ib (.obj (.box T (cs.set j (.sl 0 []))))) σ:=by
  intro K ι S a w R
  obtain ⟨B,g,h1,h2,h3,h4⟩:=R.ob ib _ hb
  refine ⟨ι,S,R.upd hb h1 (.of_below (dD w)) ⟨B,g,h1,h2,by simpa using h3,?_⟩ ?_⟩
  · rw [List.length_set]
    refine h4.next (fun _ _=> rfl) fun k u hu x hx=> ?_
    by_cases hk:j=k
    · subst hk
      have:=(hu _ hr).toV
      subst this
      rw [List.getElem?_set_self (List.getElem?_eq_some_iff.1 hr).1] at hx
      cases hx
      exact .sl (.sl0 (Nat.le_refl _) (by unfold maxLen;omega) fun _=> ⟨rfl,rfl⟩)
    rw [List.getElem?_set_ne hk] at hx
    exact hu x hx
  rintro i ⟨x,hx,hi⟩
  rcases List.mem_or_eq_of_mem_set hx with hx | hx
  · exact R.clo ib _ i hb ⟨x,hx,hi⟩
  subst hx;cases hi
section
variable {P:Program} {σ:St} {dd:Option Tmp} {ty:TypeId} {t t':TypeId} {k k':IntKind} {a b:Int}

theorem jR {op:BinOp} {x y:Operand} {u v:Value} (hx:σ.eval x= .v u) (hy:σ.eval y= .v v) {r:Value} (h: ∀ (o:Oper) (ρ:Operand→Value) w,o.op= .binOp op t x y t'→ρ x=u→ρ y=v→(execOp ρ o).run P w= .ok (.value r) w):cD P dd (.binOp op t x y t') ty σ (σ.put dd (.v r)):=by
  intro o hd ho ht
  subst hd
  exact cK ho hx hy fun ρ w h1 h2=> h o ρ w ho h1 h2
theorem kI {op:Op} {x:Operand} {u:Value} (hx:σ.eval x= .v u) {r:Value} (h: ∀ (o:Oper) (ρ:Operand→Value) w,o.op=op→ρ x=u→(execOp ρ o).run P w= .ok (.value r) w):cD P dd op ty σ (σ.put dd (.v r)):=by
  intro o hd ho ht
  subst hd
  exact bg fun _ _ _ a w R=> ⟨r,h o a.eval w ho (Rep.evV R hx), .v,fun _=> dn⟩

theorem dV (x:Operand) (hs:P.underlying t=some (.int k)) (ht:P.underlying t'=some (.int k')) (hx:σ.eval x= .v (.int k a)) {r:Int} (hr:k'.wrap a=r):cD P dd (.convert t t' x) ty σ (σ.put dd (.v (.int k' r))):=
  kI hx fun o ρ w ho hx=> by subst hr;simp [execOp,ho,hx,go_sem,hs,ht,run_underlying hs,run_underlying ht]
theorem jj (x y:Operand) (hx:σ.eval x= .v (.int k a)) (hy:σ.eval y= .v (.int k' b)) (hb:0≤b) {r:Int} (hr:a.fdiv (2 ^ min b.toNat k.bits)=r):cD P dd (.binOp .shr t x y t') ty σ (σ.put dd (.v (.int k r))):=
  jR hx hy fun o ρ w ho hx hy=> by subst hr;simp [execOp,ho,hx,hy,eqGuard,go_sem,Op.shift,Int.not_lt.2 hb]
theorem lm {n:Int} (h:0≤n∧n < 18446744073709551616):IntKind.u64.wrap n=n:=by
  show IntKind.wrap .u64 n=n
  simp only [IntKind.wrap,IntKind.bits,IntKind.signed,Bool.false_and,Bool.false_eq_true,if_false]
  omega
end

theorem Sl.rd {w:World} {sz n:Nat} {v:Value} {xs:List Value} (h:Sl w sz v n xs):Rd (fun g=> g < w.heap.size) w (.sl n (xs.map PV.v)) v:=by
  obtain ⟨ao,c,rfl,h1,h2,h3,h4,h5,h6,h7⟩:=h
  cases xs with
  | nil=> exact .sl0 h1 h2 h5
  | cons x xs=>
    have hn:0 < n:=by
      rcases Nat.eq_zero_or_pos n with h | h
      · subst h;simp at h3
      exact h
    obtain ⟨b,off,rfl⟩:=h6 hn
    refine .sl (fun j=> (x::xs).getD j undef) h1 h2 ?_ (fun j p hj=> ?_) (fun j p hj=> ?_)
    · have:=h7 _ rfl 0 x rfl
      refine ⟨World.block_lt_of_cell? w _ this,?_⟩
      simp only [World.cell?,Addr.add_lit] at this
      split at this
      · rename_i c e f hc
        exact ⟨c,e,f,hc⟩
      cases this
    · have hj':j < (x::xs).length:=by
        have:=(List.getElem?_eq_some_iff.1 hj).1
        simpa using this
      have:=h7 _ rfl j _ (List.getElem?_eq_getElem hj')
      simp only [List.getD_eq_getElem?_getD,List.getElem?_eq_getElem hj',Option.getD_some]
      by_cases hj0:j=0
      · subst hj0;simpa [Addr.add] using this
      simpa [Addr.add,hj0] using this
    have hj':j < (x::xs).length:=by
      have:=(List.getElem?_eq_some_iff.1 hj).1
      simpa using this
    rw [List.getElem?_map,List.getElem?_eq_getElem hj'] at hj
    cases hj
    simp only [List.getD_eq_getElem?_getD,List.getElem?_eq_getElem hj',Option.getD_some]
    exact .v (h4 _ (List.getElem_mem hj'))

theorem Spec.law {P:Program} {f:FuncId} {args:List AV} {r:Value} {vs:List Value} {w:World} (sp:Spec P f (bq args []) (bc (.v r) [])) (hp:AV.pures args=true) (hl:vs.length=args.length)
    (h: ∀ (j:Nat) (a:AV) (v:Value),args[j]? =some a→vs[j]? =some v→Rep (fun _=> none) (fun g=> g < w.heap.size) w a v):Calls P f vs.toArray w fun e w'=> e= .returned r∧Below w.heap.size w w':=by
  have hnh: ∀ t id,¬ Has id (args.getD t .dead):=by
    intro t id hh
    by_cases ht:t < args.length
    · have:args.getD t .dead=args[t]:=by simp [ht]
      rw [this] at hh
      exact cG _ hp _ (List.getElem_mem ht) hh
    have:args.getD t .dead= .dead:=by simp [show args.length≤t by omega]
    rw [this] at hh;cases hh
  have R:RelI ⟨w,fun _=> False,fun g=> g < w.heap.size,fun _=> none,none⟩ (fun _=> none) (fun g=> g < w.heap.size) (bq args []) ⟨vs.toArray,[]⟩ w:=by
    have hfree: ∀ i o,(bq args []).ob i≠ .obj o:=fun i o h=> by cases h
    refine { keeps:= .refl _ _,S0:=fun g h=> .inl h,Slt:=fun g h=> h,nt:=by simpa [bq] using hl,df:= .nil,fr:=fun t ht=> ?_,cl:=fun t id hh=> (hnh t id hh).elim,clo:=fun i o j ho=> (hfree i o ho).elim,ob:=fun i o ho=> (hfree i o ho).elim,dom:=fun i B hB=> (by cases hB),inj:=fun i j B B' g hB=> (by cases hB),sep:=fun i B g hB=> (by cases hB),pin:=fun i hh o hp=> (by cases hp),pf:=fun _ _=> rfl }
    replace ht:t < args.length:=ht
    have ht':t < vs.length:=by omega
    have:=h t args[t] vs[t] (List.getElem?_eq_getElem ht) (List.getElem?_eq_getElem ht')
    show Rep _ _ _ (args.getD t .dead) _
    simpa [ht,ht'] using this
  refine (sp _ _ _ _ w rfl rfl R).mono ?_
  rintro e w' ⟨v,ι',S',rfl,R'⟩
  have h0:Rep ι' S' w' (.v r) v:=R'.fr 0 (by show 0 < 1;omega)
  rw [h0.toV]
  refine ⟨rfl,R'.keeps.os,R'.keeps.tape,R'.keeps.output,R'.keeps.size,fun g hg=> R'.keeps.block g hg fun h=> h⟩
def ArgsRep (w:World):List AV→List Value→Prop
  | [],[]=> True
  | a::xs,v::vs=> Rep (fun _=> none) (fun g=> g < w.heap.size) w a v∧ArgsRep w xs vs
  | _,_=> False
theorem ArgsRep.len {w:World}: ∀ {xs:List AV} {vs:List Value},ArgsRep w xs vs→vs.length=xs.length
  | [],[],_=> rfl
  | _::_,_::_,h=> by simp [h.2.len]
  | [],_::_,h=> h.elim
  | _::_,[],h=> h.elim
theorem ArgsRep.at {w:World}: ∀ {xs:List AV} {vs:List Value},ArgsRep w xs vs→ ∀ (j:Nat) (a:AV) (v:Value),xs[j]? =some a→vs[j]? =some v→Rep (fun _=> none) (fun g=> g < w.heap.size) w a v
  | [],_,_,_,_,_,ha,_=> by simp at ha
  | _::_,[],h,_,_,_,_,_=> h.elim
  | _::_,_::_,h,0,_,_,ha,hv=> by simp at ha hv;subst ha;subst hv;exact h.1
  | _::_,_::_,h,j+1,a,v,ha,hv=> h.2.at j a v (by simpa using ha) (by simpa using hv)
theorem Spec.calls {P:Program} {f:FuncId} {args:List AV} {r:Value} {w:World} (sp:Spec P f (bq args []) (bc (.v r) [])) (hp:AV.pures args=true) {vs:List Value} (h:ArgsRep w args vs):Calls P f vs.toArray w fun e w'=> e= .returned r∧Below w.heap.size w w':=
  sp.law hp h.len h.at
end Go.Proofs.Ytmjnackchaahbaa

namespace Go.Proofs.Ytmjnackchaahbaa
open Go.RowKit Go.ChangeShapes Go.WideShapes

theorem jp {n:Int} (h:(Lit.int .i64 n).wf=true): -9223372036854775808≤n∧n≤9223372036854775807:=by
  simp [Lit.wf,IntKind.min,IntKind.max,IntKind.signed,IntKind.bits] at h;omega
section
variable {H:Type} {enc:TypeId×Value→H} {P:Program} {w:World} {base:Nat} {spare:Nat→Bool} {held:Bool}

theorem il {t e:TypeId} {α:Type} (f:α→Value) (d0:α) (g:Lit→Prop) {fuel:Nat} {cs:List Value} {x:DataW H×List MemPlace} (ht:P.underlying t=some (.slice e)) (hc:P.cellsOf e=1)
    (hone: ∀ (n:Nat) (c:List Value) (y:DataW H×List MemPlace),DataW.trod enc P w base spare held n e c=some y→ ∃ z:α,c=[f z]∧(f z).oneCell'=true) {ao:Option Addr} {len cap:Nat} (hcs:cs=[.slice ao len cap])
    (h:DataW.trod enc P w base spare held fuel t cs=some x): ∃ zs:List α,zs.length=len∧Sl w 1 (.slice ao len cap) len (zs.map f):=by
  rcases DataW.trod_slice ht h with ⟨h0,_⟩ | ⟨a,len',cap',elems,rest,n,_,h0,rfl,hb,hl,hm,hlen,hel,hsp,hns⟩
  · rw [hcs] at h0
    simp at h0
    obtain ⟨rfl,rfl,rfl⟩:=h0
    exact ⟨[],rfl,⟨none,0,rfl,Nat.le_refl _,by simp,rfl,by simp,fun _=> ⟨rfl,rfl⟩,fun h=> absurd h ab,by simp⟩⟩
  rw [hcs] at h0
  simp at h0
  obtain ⟨rfl,rfl,rfl⟩:=h0
  have key: ∀ i,i < len→ ∃ z:α,w.cell? (a.add i)=some (f z)∧(f z).oneCell'=true:=by
    intro i hi
    have h1:=hel i hi
    rw [hc,Nat.mul_one,List.getElem?_eq_getElem ab,Option.bind_eq_some_iff] at h1
    obtain ⟨c,h2,h3⟩:=h1
    obtain ⟨z,rfl,h4⟩:=hone _ _ _ h3
    exact ⟨z,cell_of_cells?_one h2,h4⟩
  have pick: ∀ m,m≤len→ ∃ zs:List α,zs.length=m∧ ∀ i z,zs[i]? =some z→w.cell? (a.add i)=some (f z)∧(f z).oneCell'=true:=by
    intro m
    induction m with
    | zero=> exact fun _=> ⟨[],rfl,by simp⟩
    | succ m ih=>
      intro hm
      obtain ⟨zs,h1,h2⟩:=ih ab
      obtain ⟨z,h3⟩:=key m ab
      refine ⟨zs++[z],by simp [h1],fun i y hy=> ?_⟩
      by_cases hi:i < zs.length
      · rw [List.getElem?_append_left hi] at hy;exact h2 i y hy
      have hil:=(List.getElem?_eq_some_iff.1 hy).1
      simp at hil
      have:i=m:=by omega
      subst this
      rw [List.getElem?_append_right ab,show i - zs.length=0 by omega] at hy
      simp at hy
      subst hy
      exact h3
  obtain ⟨zs,h1,h2⟩:=pick len (Nat.le_refl _)
  refine ⟨zs,h1,⟨some a,cap,rfl,hl,hm,by simp [h1],fun u hu=> ?_,by simp,fun hp=> ?_,fun ad had j u hu=> ?_⟩⟩
  · obtain ⟨z,hz,rfl⟩:=List.mem_map.1 hu
    obtain ⟨i,hi⟩:=List.getElem?_of_mem hz
    exact (h2 i z hi).2
  · obtain ⟨z,h3,_⟩:=key 0 hp
    have:=World.cell?_spot h3
    obtain ⟨b,off,s⟩:=a
    simp [Addr.add] at this
    subst this
    exact ⟨b,off,rfl⟩
  obtain rfl:=Option.some.inj had
  rw [List.getElem?_map] at hu
  obtain ⟨z,hz,rfl⟩:=Option.map_eq_some_iff.1 hu
  exact (h2 j z hz).1

theorem jJ {t e:TypeId} {k:IntKind} (ht:P.underlying t=some (.slice e)) (he:P.underlying e=some (.int k)) (hc:P.cellsOf e=1) {ao:Option Addr} {len cap:Nat} {d:DataW H} {p:List MemPlace}
    (h:DataW.Trod enc P w base spare held t (.slice ao len cap) d p): ∃ zs:List { n:Int // (Lit.int k n).wf=true },zs.length=len∧Sl w 1 (.slice ao len cap) len (zs.map fun z=> Value.int k z.1):=by
  obtain ⟨fuel,hf⟩:=h
  refine il (fun z:{ n:Int // (Lit.int k n).wf=true }=> Value.int k z.1) ⟨0,by cases k <;> rfl⟩ (fun _=> True) ht hc (fun n c y hy=> ?_) rfl hf
  obtain ⟨m,h,_,hw⟩:=DataW.trod_int he hy
  exact ⟨⟨m,hw⟩,h,rfl⟩
end
theorem iC {H:Type} {enc:TypeId×Value→H} {P:Program} {w:World} {base:Nat} {spare:Nat→Bool} {held:Bool} {ts:List TypeId} {ds:List (DataW H)} (hsz:(DataW.weightsEach P ts ds).all (· ≤reachBytes)=true) {j:Nat} {t e:TypeId} {d:DataW H} {p:List MemPlace}
    (htj:ts[j]? =some t) (hd:ds[j]? =some d) (ht:P.underlying t=some (.slice e)) (hb:0 < P.bytesOf e) {ao:Option Addr} {len cap:Nat} (h:DataW.Trod enc P w base spare held t (.slice ao len cap) d p):len≤4611686018427387904:=by
  obtain ⟨fuel,hf⟩:=h
  rcases DataW.trod_slice ht hf with ⟨h0,_⟩ | ⟨a,len',cap',elems,rest,n,_,h0,h1,hb',hl,hm,hlen,hel,hsp,hns⟩
  · replace h0:[Value.slice ao len cap]=[Value.slice none 0 0]:=h0
    simp at h0;omega
  replace h0:[Value.slice ao len cap]=[Value.slice (some a) len' cap']:=h0
  simp at h0
  obtain ⟨rfl,rfl,rfl⟩:=h0
  have e1:d= .slice (elems.map (·.1)) (rest.map (·.1)):=congrArg Prod.fst h1
  subst e1
  have h2:=sized_slice hsz htj hd ht
  rw [List.length_map,List.length_map,hlen] at h2
  have h3:=reachBytes_lt
  have h4:len*1≤(len+rest.length)*P.bytesOf e:=Nat.mul_le_mul ab hb
  omega
theorem fV (ws:List (List Char)):stripLifts liftWords ("cut".toList::ws)=([], "cut".toList::ws):=by kernel_rfl
theorem gf {P:Program} {ws:List (List Char)} (h:behindMainWord (wordsSigns P.initOrder.toList)= "cut".toList::ws):P.headLifts=[]:=by
  unfold Program.headLifts;rw [h,fV];kernel_rfl
theorem jh {P:Program} {ws:List (List Char)} (h:behindMainWord (wordsSigns P.initOrder.toList)= "cut".toList::ws):P.make=some .cut:=by
  unfold Program.make;rw [h,gf h];kernel_rfl
theorem iE {P:Program} {ws:List (List Char)} (h:behindMainWord (wordsSigns P.initOrder.toList)= "cut".toList::ws):P.liftsFinal=false:=by
  unfold Program.liftsFinal;rw [h,gf h];kernel_rfl
theorem jP {P:Program} {ws:List (List Char)} (h:behindMainWord (wordsSigns P.initOrder.toList)= "cut".toList::ws) (h1:P.laysLater=false) (h2:P.bearsReflect=false) (h3:P.doorFits []=true):P.mayEnter=true:=by
  unfold Program.mayEnter;rw [h];simp only [fV,h1,h2,h3];kernel_rfl
theorem ct {a b:Bool} (h:a=true) (h2:b=true):(a && b)=true:=by rw [h,h2];rfl
section
variable {P:Program} {T e:TypeId} {size bytes:Nat} {z:List Value}
end
theorem AnyOps.imp {P:Program} {all:List Oper} {W:List Nat} {I:List aq} {AA:List (List aq)} {σ:St} {K K':List Res→Prop} (hk: ∀ rs,K rs→K' rs): ∀ {os:List Oper} {rs:List Res},AnyOps P all W I AA σ K os rs→AnyOps P all W I AA σ K' os rs
  | [],rs,h=> hk rs h
  | o::os,rs,⟨r,h1,h2⟩=> ⟨r,h1,AnyOps.imp hk h2⟩
theorem aO {P:Program} {all:List Oper} {W:List Nat} {I:List aq} {AA:List (List aq)} {σ:St} {Kont:List Res→Prop} {os:List Oper} {rs rs':List Res} (h:rs=rs') (hh:AnyOps P all W I AA σ Kont os rs'):AnyOps P all W I AA σ Kont os rs:=h ▸ hh
theorem dq {rb:Bool} {P:Program} {Q:Exit→St→Prop} {σ:St} {id:Nat} {l hd tl:List Oper} (n:Nat) (W:List Nat) (I:List aq) (hm:P.follows .mixedOrders=true) (hB:jx l.toArray n=true) (hW:(l.take n).filterMap (·.dst)=W) (hI:I.Nodup)
    (e1:l.take n=hd) (e2:l.drop n=tl) (h:AnyOps P hd W I [] σ (fun rs=> ed rs=I∧DL rb P l.toArray Q tl (cd hd rs (fun _=> true) 0 σ)) hd []):D rb P (.region id l.toArray true) Q σ:=by
  subst e1;subst e2
  exact lk n W I [] hm hB hW hI (AnyOps.imp (fun rs h=> ⟨⟨h.1,rfl⟩,h.2⟩) h)
theorem bN {P:Program} {σ:St} {dd:Option Tmp} {ty:TypeId} {T e e':TypeId} {size bytes:Nat} {z:List Value} (x y:Operand) (E:Elem P T e size bytes z) {id:aq} {of0 n:Nat} {xs:List AV} (hx:σ.eval x= .ref id of0 n) (hid:σ.ob id= .obj (.box e' xs))
    {k:IntKind} {I:Int} (hy:σ.eval y= .v (.int k I)) (j:Nat) (hI:I=(j:Int)) (hj:j < n) {off:Nat} (he:of0+j*size=off):cD P dd (.indexAddr T x y) ty σ (σ.put dd (.ptr id off)):=by
  intro o hd ho ht
  subst hd;subst he;subst hI
  refine bg fun _ ι S a w R=> ?_
  have hi:=R.eval y
  rw [hy] at hi
  have hi:=hi.toV
  obtain ⟨inf,zv,hinf,_,hs,_⟩:=E.info
  obtain ⟨B,g,h1,hg,_,_⟩:=R.ob id _ hid
  have hr:=R.eval x
  rw [hx] at hr
  generalize hu:a.eval x=u at hr
  cases hr with
  | ref h _=>
    obtain ⟨c,h3,h4,h5⟩:=h B h1
    rw [hg] at h5
    obtain ⟨o',h6,h7,_⟩:=h5
    obtain rfl:=h7.resolve_right ab
    subst h6
    refine ⟨.pointer (some ⟨g,o'+j*size,none⟩),?_, .ptr (fun B' hB'=> ?_) rfl,fun i h=> R.evalHas x (by rw [hx];cases h;exact .ref)⟩
    · simp [execOp,ho,Instr.indexAt,hu,hi,asIntOf,run_underlying E.und,sizeOf,typeInfo,hinf,hs,hj,Addr.add_lit]
    rw [h1] at hB'
    obtain rfl:=Option.some.inj hB'
    exact ⟨g,hg,rfl⟩
theorem RelI.newBoxR {K:eB} {ι:aq→Option ci} {S:Nat→Prop} {σ:St} {a:Act} {w w':World} (R:RelI K ι S σ a w) {id:aq} (hid:σ.ob id= .free) (hb:Below w.heap.size w w') (e:TypeId) (sz n c g:Nat) {cur:Array Value} {xs:List AV}
    (hg:w'.heap[g]? =some (.cells cur e (0,0))) (hge:w.heap.size≤g) (hn:n≤c) (hc:c≤maxLen) (hcs:cur.size=c*sz) (h1:xs.length≤cur.size) (h2: ∀ (j:Nat) (b:AV),xs[j]? =some b→ ∃ u,cur[j]? =some u∧u.oneCell'=true∧Rep ι S w b u) (h4: ∀ b∈xs,∀ i,Has i b→σ.ob i≠ .free) (d:Option Tmp):
    ∃ ι' S',RelI K ι' S' ((σ.setOb id (.obj (.box e xs))).put d (.ref id 0 n)) (a.put d (.slice (some ⟨g,0,none⟩) n c)) w':=by
  have hni: ∀ i,(∃ b∈xs,Has i b)→i≠id:=fun i ⟨b,hb,hi⟩ e=> by subst e;exact h4 b hb i hi hid
  have hw: ∀ k,S k→w'.heap[k]? =w.heap[k]? :=fun k hk=> hb.block k (R.Slt k hk)
  have R1:=R.new (w':=w') (o:= .box e xs) (B:=⟨some g,cur.size,sz⟩) hid hb (fun k hk=> by obtain rfl:=Option.some.inj hk;exact hge)
    ⟨_,g,bh _ _ _,rfl,h1, .inr ⟨g,cur,rfl,hg,rfl,by omega,fun j hj=> by
      obtain ⟨u,a1,a2,a3⟩:=h2 j _ (List.getElem?_eq_getElem hj)
      refine ⟨u,a1,a2,fun p hp=> ?_⟩
      rw [List.getElem?_eq_getElem hj] at hp
      obtain rfl:=Option.some.inj hp
      refine a3.next hw (fun _ h=> h) fun i B' hi hB'=> ?_
      rwa [dC _ _ (hni i ⟨_,List.getElem_mem hj,hi⟩)] at hB'⟩⟩ (fun i hi=> by
        obtain ⟨b,hb,hh⟩:=hi
        exact .inr (h4 b hb i hh))
  refine ⟨_,S,R1.put d (.ref (fun B hB=> ?_) rfl) fun i hi=> ?_⟩
  · rw [bh] at hB
    obtain rfl:=Option.some.inj hB
    exact ⟨c,hn,hc,0,rfl, .inl rfl,by simp [hcs]⟩
  cases hi;rw [St.setOb_same];intro h;cases h
section
variable {P:Program} {w:World} {o:Oper} {ρ:Operand→Value} {e:TypeId} {z:List Value}
theorem jD {T:TypeId} {size bytes:Nat} [E:Elem P T e size bytes z] (len:Nat) (parts:Array (Nat×Operand)) (ho:o.op= .buildSlice T len parts) (vs:List Value)
    (hp:parts.toList.map (fun p=> (p.1,ρ p.2))=dg 0 vs) (hlen:vs.length=len) (hsz: ∀ v∈vs,v.cells.size=size) (xs:List Value) (hxs:(vs.flatMap fun v=> v.cells.toList)=xs) (h1: ∀ u∈xs,u.oneCell'=true)
    (hb:len*size≤100000):
    (execOp ρ o).run P w= .ok (.value (.slice (some ⟨w.heap.size,0,none⟩) len len)) (w.alloc (.cells xs.toArray e)):=by
  obtain ⟨i,zv,hi,hz,hs,hby,hzc⟩:=E.info
  subst hlen
  have hxl:xs.length=vs.length*size:=by
    subst hxs
    have: ∀ (vs:List Value),(∀ v∈vs,v.cells.size=size)→(vs.flatMap fun v=> v.cells.toList).length=vs.length*size:=by
      intro vs
      induction vs with
      | nil=> simp
      | cons v vs ih=>
        intro h
        rw [List.flatMap_cons,List.length_append,ih (fun u hu=> h u (List.mem_cons_of_mem _ hu)),List.length_cons,Nat.add_mul]
        have:=h v List.mem_cons_self
        simp [this];omega
    exact this vs hsz
  have hfill: ∀ zz:Array Value,Instr.fill (fun i=> some (i*size,size)) ((Array.range (vs.length*size)).map (fun j=> zz[j % zz.size]!)) (dg 0 vs)=some xs.toArray:=by
    intro zz
    rw [eG size vs 0 _ hsz (by simp)]
    simp [hxs]
  have hpl:(parts.map fun p=> (p.1,ρ p.2)).toList=dg 0 vs:=by simpa using hp
  have hrun:(execOp ρ o).run P w= .ok (.value (.slice (some ⟨w.heap.size,0,none⟩) vs.length vs.length)) (w.alloc (.cells xs.toArray e)):=by
    have hnb: ¬ vs.length*size > 2 ^ 24:=by omega
    have hpl':(parts.map fun x=> match x with | (i,x)=> (i,ρ x)).toList=dg 0 vs:=hpl
    simp only [execOp,ho,Instr.buildSlice,Sem.run_bind,run_underlying E.und,Result.andThen_ok,sizeOf,typeInfo,hi,hs]
    by_cases h0:vs.length*size=0
    · have:=hfill #[]
      simp [hi,hs,hnb,h0,hpl'] at this ⊢
      simp [hs,hp,this,newRow]
    have:=hfill zv.cells
    simp [hi,hs,hnb,h0,zeroValue,typeInfo,hz,hpl'] at this ⊢
    simp [hi,hs,hz,hp,this,newRow]
  exact hrun
end
theorem fq {σ:St} {i:aq}: ∀ (l:List (Nat×Operand)) (k:Nat) (r:List (List AV)),cQ σ k l=some r→ ∀ b∈r.flatten,Has i b→ ∃ p∈l,Has i (σ.eval p.2)
  | [],k,r,h,b,hb,_=> by simp only [cQ,Option.some.injEq] at h;subst h;simp at hb
  | (j,x)::l,k,r,h,b,hb,hi=> by
    simp only [cQ] at h
    split at h
    · cases hc:(σ.eval x).cells with
      | none=> rw [hc] at h;cases h
      | some c=>
        cases hr:cQ σ (k+1) l with
        | none=> rw [hc,hr] at h;cases h
        | some r'=>
          rw [hc,hr] at h
          simp only [Option.some.injEq] at h
          subst h
          rw [List.flatten_cons] at hb
          rcases List.mem_append.1 hb with hb | hb
          · exact ⟨_,List.mem_cons_self,dT hc hb hi⟩
          obtain ⟨p,hp,hh⟩:=fq l (k+1) r' hr b hb hi
          exact ⟨p,List.mem_cons_of_mem _ hp,hh⟩
    cases h
section
variable {P:Program} {σ:St} {z:List Value} {T e:TypeId} {size bytes:Nat}
theorem kW {dd:Option Tmp} {ty:TypeId} (id:aq) (len:Nat) (parts:Array (Nat×Operand)) (E:Elem P T e size bytes z) {r:List (List AV)} (hp:cQ σ 0 parts.toList=some r) (hlen:r.length=len) (hsz: ∀ c∈r,c.length=size)
    (hb:len*size≤100000) (hpos:0 < len) (hid:σ.ob id= .free) {xs:List AV} (hxs:r.flatten=xs):cD P dd (.buildSlice T len parts) ty σ ((σ.setOb id (.obj (.box e xs))).put dd (.ref id 0 len)):=by
  intro o hd ho ht
  subst hd;subst hxs
  intro K ι S a w R
  obtain ⟨vs,h1,h2,h3,h4,h5,h6⟩:=di R _ _ _ hp
  have hvsz: ∀ v∈vs,v.cells.size=size:=by
    intro v hv
    obtain ⟨j,hj,rfl⟩:=List.getElem_of_mem hv
    have hjr:j < r.length:=by omega
    rw [h3 j _ _ (List.getElem?_eq_getElem hj) (List.getElem?_eq_getElem hjr)]
    exact hsz _ (List.getElem_mem hjr)
  obtain ⟨v',w',hr,H',hbl,hfr,_⟩:=hP (P:=P) (ρ:=a.eval) (SH.start w) len parts ho vs h1 ab hvsz _ rfl h5 hb
  have hrow:=H'.get (i:=0) (x:= .row v' e size len (vs.flatMap fun v=> v.cells.toList)) rfl
  have hxl:r.flatten.length=len*size:=by
    have: ∀ (r:List (List AV)),(∀ c∈r,c.length=size)→r.flatten.length=r.length*size:=by
      intro r
      induction r with
      | nil=> simp
      | cons c r ih=>
        intro h
        rw [List.flatten_cons,List.length_append,ih fun c hc=> h c (List.mem_cons_of_mem _ hc),h c List.mem_cons_self,List.length_cons,Nat.add_mul,Nat.one_mul,Nat.add_comm]
    rw [this r hsz,hlen]
  rcases hrow.1.2 with ⟨hv,hx0⟩ | ⟨g,cap,cur,hv,hbg,hg,hnc,hcm,hcs,htake⟩
  · omega
  subst hv
  have hlv:(vs.flatMap fun v=> v.cells.toList).length=len*size:=by rw [h4,hxl]
  by_cases hcap:cap=len
  · subst hcap
    refine bk hr (R.newBoxR hid hbl e size cap cap g hg hbg hnc hcm hcs (Nat.le_of_eq (by rw [hcs,hxl])) (fun j b hb=> ?_) (fun b hb i hi=> ?_) _)
    · obtain ⟨u,hu,hru⟩:=h6 j b hb
      refine ⟨u,?_,h5 u (List.mem_of_getElem? hu),hru⟩
      have:=congrArg (fun l=> l[j]?) htake
      simp only [hu] at this
      rw [List.getElem?_take] at this
      split at this
      · simpa using this
      cases this
    obtain ⟨p,hp',hh⟩:=fq _ _ _ hp b hb hi
    exact R.evalHas p.2 hh
  exfalso
  have h9:=jD (P:=P) (ρ:=a.eval) (w:=w) len parts ho vs h1 ab hvsz _ rfl h5 hb
  rw [hr] at h9
  injection h9 with h9 _
  injection h9 with h9
  injection h9 with _ _ h9
  exact hcap h9
end
def bG (l:List Int):List PV:=l.map fun x=> .v (.int .i64 x)
@[simp] theorem aF (l:List Int):(bG l).length=l.length:=by simp [bG]
theorem an (l:List Int) (k:Nat) (h:k < l.length):(bG l)[k]? =some (.v (.int .i64 (l.getD k 0))):=by simp [bG,h]
theorem iq (a:List Int) (k:Nat) (x:Int) (h:k < a.length):bZ (bG a) k [.v (.int .i64 x)]=bG (a.set k x):=by rw [jw _ _ _ (by simpa using h)];simp [bG,List.map_set]
theorem ea {α:Type} (l:List α) (k:Nat) (d:α) (h:k < l.length):l.getD k d=l[k]:=by simp [h]

def cA (l:List Bool):List PV:=l.map fun x=> .v (.bool x)
@[simp] theorem aV (l:List Bool):(cA l).length=l.length:=by simp [cA]
theorem ar (l:List Bool) (k:Nat) (h:k < l.length):(cA l)[k]? =some (.v (.bool (l.getD k false))):=by simp [cA,h]
def Rng (l:List Int):Prop:= ∀ x∈l, -9223372036854775808≤x∧x≤9223372036854775807
theorem Rng.at {l:List Int} (h:Rng l) (k:Nat) (hk:k < l.length): -9223372036854775808≤l.getD k 0∧l.getD k 0≤9223372036854775807:=by
  rw [ea _ _ _ hk];exact h _ (List.getElem_mem hk)
theorem kV (z:List { n:Int // (Lit.int .i64 n).wf=true }):Rng (z.map (·.1)):=by
  intro x hx
  obtain ⟨y,_,rfl⟩:=List.mem_map.1 hx
  exact jp y.2
theorem kC {w:World} {n:Nat} {v:Value} {z:List { n:Int // (Lit.int .i64 n).wf=true }} {ι:aq→Option ci} (h:Sl w 1 v n (z.map fun y=> Value.int .i64 y.1)):Rep ι (fun g=> g < w.heap.size) w (.sl n (bG (z.map (·.1)))) v:=by
  have:=h.rd
  rw [show (z.map fun y=> Value.int .i64 y.1).map PV.v=bG (z.map (·.1)) by simp [bG]] at this
  exact .sl this

theorem gR:bb []=fun i=> i:=by funext i;rfl
theorem li {σ:St} {F:aq→Bool} (a:AV):Lv (bb []) σ F a a:=by rw [gR];exact Lv.same a
theorem eE {σ:St} {F:aq→Bool} {a b:AV} (h:b=a):Lv (bb []) σ F a b:=by subst h;exact li _
theorem kn {σ:St} {F:aq→Bool} (o:Cells):LvO (bb []) σ F o o:=by rw [gR];exact LvO.same o
theorem aC {ρ:aq→aq} {σ:St} {F:aq→Bool} {id id':aq} {off n m:Nat} (hi:ρ id=id') (h:n=m):Lv ρ σ F (.ref id off n) (.ref id' off m):=by subst hi;subst h;exact .ref
theorem aZ {ρ:aq→aq} {σ:St} {F:aq→Bool} {id id':aq} {off:Nat} (hi:ρ id=id'):Lv ρ σ F (.ptr id off) (.ptr id' off):=by subst hi;exact .ptr
theorem cb {ρ:aq→aq} {σ:St} {F:aq→Bool} {n m:Nat} {xs ys:List PV} (h:n=m) (h':xs=ys):Lv ρ σ F (.sl n xs) (.sl m ys):=by subst h;subst h';exact .sl
theorem bJ {ρ:aq→aq} {Fz:List aq} {σ:St} {I:List aq} {i:aq} {e:TypeId} {sz:Nat} {xs ys:List PV} (hF:bH (ρ i) Fz=false) (h:σ.ob (ρ i)= .obj (.row e sz ys)) (hinc:(bif bH i I then false else σ.inc (ρ i))=false) (hx:xs=ys):
    bH (ρ i) Fz=false∧(∃ o2,σ.ob (ρ i)= .obj o2∧LvO (ρ) σ (fun i=> bH i Fz) (.row e sz xs) o2)∧(bif bH i I then false else σ.inc (ρ i))=false:=⟨hF,⟨_,h, .rowE hx.symm⟩,hinc⟩
theorem eA {ρ:aq→aq} {Fz:List aq} {σ:St} {I:List aq} {i:aq} {e:TypeId} {xs ys:List AV} (hF:bH (ρ i) Fz=false) (h:σ.ob (ρ i)= .obj (.box e ys)) (hinc:(bif bH i I then false else σ.inc (ρ i))=false) (hl:xs.length=ys.length)
    (hx: ∀ (j:Nat) (a b:AV),xs[j]? =some a→ys[j]? =some b→Lv (ρ) σ (fun i=> bH i Fz) a b):
    bH (ρ i) Fz=false∧(∃ o2,σ.ob (ρ i)= .obj o2∧LvO (ρ) σ (fun i=> bH i Fz) (.box e xs) o2)∧(bif bH i I then false else σ.inc (ρ i))=false:=⟨hF,⟨_,h, .box hl hx⟩,hinc⟩
theorem ay {Fz:List aq} {σ:St} {I:List aq} {i:aq} {o:Cells} (hF:bH (bb [] i) Fz=false) (h:σ.ob (bb [] i)= .obj o) (hinc:(bif bH i I then false else σ.inc (bb [] i))=false):
    bH (bb [] i) Fz=false∧(∃ o2,σ.ob (bb [] i)= .obj o2∧LvO (bb []) σ (fun i=> bH i Fz) o o2)∧(bif bH i I then false else σ.inc (bb [] i))=false:=⟨hF,⟨_,h,kn o⟩,hinc⟩
theorem Spec.toI {P:Program} {f:FuncId} {args:List AV} {r:AV} {outs:List (aq×Cells)} (h:Spec P f (bq args []) (bc r outs)):Spec P f (cv args []) (bY r outs [] []):=h
theorem Le.mkJ {σ:St} {n:Nat} {slots:List (Nat×AV)} {obs:List (aq×Cells)} {I Pn:List aq} (rn:List (aq×aq)) (Fz:List aq) (hn:σ.n=n) (hs:gB (bb rn) σ (fun i=> bH i Fz) slots) (ho:cP (bb rn) σ (fun i=> bH i Fz) I obs) (hi:cB σ Fz) (hp:eO (bb rn) σ Pn)
    (hb:(cu (obs.map (·.1)) slots && bf (obs.map (·.1)) obs && bj ((obs.map (·.1)).map (bb rn)) && ij Pn (obs.map (·.1)))=true):Le (bi n slots obs I Pn) σ:=by
  simp only [Bool.and_eq_true] at hb
  exact Le.mkI rn Fz hn hs hb.1.1.1 hb.1.1.2 hb.1.2 hi ho hp hb.2
section
variable {rb:Bool} {P:Program} {Q:Exit→St→Prop} {σ:St}
theorem bn {c:Code} {α:Type} (J:α→Prop) (n:Nat) (sl:List (Nat×AV)) (os:List (aq×Cells)) (sv:α→List (Nat×AV)) (ov:α→List (aq×Cells)) (I Pn:List aq) (μ:α→Nat) (x0:α) (hJ:J x0) (h0:Le (bi n (sl++sv x0) (os++ov x0) I Pn) σ)
    (round: ∀ x,J x→D rb P c (iy (fun σ'=> ∃ y,J y∧Le (bi n (sl++sv y) (os++ov y) I Pn) σ'∧μ y < μ x) Q) (bi n (sl++sv x) (os++ov x) I Pn)):D rb P (.loop c) Q σ:=
  jA J (fun x=> bi n (sl++sv x) (os++ov x) I Pn) μ x0 hJ h0 round
theorem js {ops:Array Oper} {rest:List Oper} {d:Nat} {b:Bool} (h1:b=true→DL rb P ops Q rest (σ.put (some d) (.v (.bool true)))) (h2:b=false→DL rb P ops Q rest (σ.put (some d) (.v (.bool false)))):DL rb P ops Q rest (σ.put (some d) (.v (.bool b))):=by
  cases b
  · exact h2 rfl
  exact h1 rfl
end

class Arr (P:Program) (T:TypeId) (n:outParam Nat) (size:outParam Nat):Prop where
  out: ∃ e i,P.underlying T=some (.array n e)∧P.info? e=some i∧i.size=size
theorem Arr.of {P:Program} {T e:TypeId} {n size:Nat} (h1:P.underlying T=some (.array n e)) (h2:(P.info? e).map (fun i=> i.size)=some size):Arr P T n size:=by
  obtain ⟨i,hi,h⟩:=Option.map_eq_some_iff.1 h2
  exact ⟨e,i,h1,hi,h⟩

section
variable {P:Program} {σ:St} {dd:Option Tmp} {ty T:TypeId} {n size:Nat}
end
def lR (l:List (Int×Int)):List PV:=l.flatMap fun p=> [.v (.int .i64 p.1), .v (.int .i64 p.2)]
theorem ji (p:Int×Int) (l:List (Int×Int)):lR (p::l)=[.v (.int .i64 p.1), .v (.int .i64 p.2)]++lR l:=rfl
@[simp] theorem bm: ∀ (l:List (Int×Int)),(lR l).length=2*l.length
  | []=> rfl
  | p::l=> by rw [ji,List.length_append,bm l];simp;omega
theorem Spec.frz {P:Program} {f:FuncId} {σ:St} {e:TypeId} {sz n:Nat} {xs:List PV} (h:Spec P f σ (bc (.ref (0,8) 0 n) [((0,8), .row e sz xs)])) (hl:n*sz=xs.length):Spec P f σ (bc (.sl n xs) []):=
  h.mono (Le.outO (I:=[]) (Pn:=[]) [] [(0,8)] (jI rfl rfl hl rfl) rfl rfl rfl ⟨rfl,trivial⟩ trivial)

section
variable {P:Program} {σ:St} {z:List Value} {T e:TypeId} {size bytes:Nat}
theorem bs {dd:Option Tmp} {ty:TypeId} {T e e':TypeId} {size bytes:Nat} {z:List Value} (x:Operand) (E:Elem P T e size bytes z) {id:aq} {off n:Nat} {xs:List AV} (hx:σ.eval x= .ref id off n) (hid:σ.ob id= .obj (.box e' xs)):cD P dd (.call { callee:= .builtin .len,args:= #[x],argTypes:= #[T] }) ty σ (σ.put dd (.v (.int .i64 (n:Int)))):=by
  intro o hd ho ht
  subst hd
  refine bg fun _ ι S a w R=> ?_
  obtain ⟨B,g,h1,hg,_,_⟩:=R.ob id _ hid
  have hr:=R.eval x
  rw [hx] at hr
  generalize hu:a.eval x=u at hr
  cases hr with
  | ref h _=>
    obtain ⟨c,_,_,h5⟩:=h B h1
    rw [hg] at h5
    obtain ⟨o',rfl,_⟩:=h5
    exact ⟨_,by simp [execOp,ho,resolve,invoke,builtin,Builtin.len_,run_underlying E.und,hu,goInt], .v,fun _=> dn⟩
end


structure Bun where
  box:aq
  gr:Bool
  E:TypeId
  e:TypeId
  fam:Nat
  rows:List (List PV)

def Bun.cell (b:Bun) (j:Nat):AV:= .ref (b.fam,j) 0 (b.rows.getD j []).length
def Bun.cells (b:Bun):List AV:=(List.range b.rows.length).map b.cell
def Bun.outer (b:Bun) (cs:List AV):Cells:=bif b.gr then .rowA b.E 1 cs else .box b.E cs
def Bun.ob (b:Bun) (id:aq):Slot:=
  bif dI id b.box then .obj (b.outer b.cells) else bif Nat.beq id.1 b.fam && Nat.blt id.2 b.rows.length then .obj (.row b.e 1 (b.rows.getD id.2 [])) else .free

section
variable {σ:St} {n:Nat} {slots:List (Nat×AV)} {obs:List (aq×Cells)} {I Pn:List aq} {bx bx0:aq} {gr:Bool} {E e:TypeId} {fam:Nat} {rows:List (List PV)}

end

theorem RowOk.imp {w:World} {B:ci} {e:TypeId} {n:Nat} {R R':Nat→Value→Prop} (h:RowOk w B e n R) (hR: ∀ j u,R j u→R' j u):RowOk w B e n R':=h.next (fun _ _=> rfl) hR


section
variable {σ:St} {F:aq→Bool} {b:AV}
theorem iV {x:Value} (h:b= .v x):Lv (bb []) σ F (.v x) b:=eE h
theorem iS {n:Nat} {xs:List PV} (h:b= .sl n xs):Lv (bb []) σ F (.sl n xs) b:=eE h
theorem iR {id:aq} {off n:Nat} (h:b= .ref id off n):Lv (bb []) σ F (.ref id off n) b:=eE h
theorem iP {id:aq} {off:Nat} (h:b= .ptr id off):Lv (bb []) σ F (.ptr id off) b:=eE h
theorem iZ (h:b= .z):Lv (bb []) σ F .z b:=eE h
theorem iD (h:b= .dead):Lv (bb []) σ F .dead b:=eE h
end

class cF (b:Bool) (p q:outParam Prop):Prop where
  t:b=true→p
  f:b=false→q
instance (priority:=10) boolAny (b:Bool):cF b (b=true) (b=false):=⟨id,id⟩
instance (priority:=20) boolDec (p:Prop) [Decidable p]:cF (decide p) p (¬ p):=⟨of_decide_eq_true,of_decide_eq_false⟩
instance mK (a b:Int) [Decidable (a < b)]:cF (decide (a < b)) (a < b) (b≤a):=⟨of_decide_eq_true,fun h=> Int.not_lt.1 (of_decide_eq_false h)⟩
instance mJ (a b:Int) [Decidable (a≤b)]:cF (decide (a≤b)) (a≤b) (b < a):=⟨of_decide_eq_true,fun h=> Int.not_le.1 (of_decide_eq_false h)⟩
instance mx (a b:Int):cF (a==b) (a=b) (¬ a=b):=⟨beq_iff_eq.1,beq_eq_false_iff_ne.1⟩
instance my (a b:Int):cF (a !=b) (¬ a=b) (a=b):=⟨bne_iff_ne.1,bne_eq_false_iff_eq.1⟩
instance lD (b:Bool) (p q:Prop) [h:cF b p q]:cF (!b) q p:=⟨fun e=> h.f (by simpa using e),fun e=> h.t (by simpa using e)⟩
instance lB (a b:Bool) (p q p' q':Prop) [h:cF a p q] [h':cF b p' q']:cF (a && b) (p∧p') ((a && b)=false):=⟨fun e=> by rw [Bool.and_eq_true] at e;exact ⟨h.t e.1,h'.t e.2⟩,id⟩
instance mQ (a b:Bool) (p q p' q':Prop) [h:cF a p q] [h':cF b p' q']:cF (a || b) (p∨p') ((a || b)=false):=⟨fun e=> by rw [Bool.or_eq_true] at e;exact e.imp h.t h'.t,id⟩
theorem aY {rb:Bool} {P:Program} {Q:Exit→St→Prop} {σ:St} {x:Operand} {t e:Code} {b:Bool} {p q:Prop} [h:cF b p q] (hx:σ.eval x= .v (.bool b)) (h1:p→D rb P t Q σ) (h2:q→D rb P e Q σ):D rb P (.cond x t e) Q σ:=
  jG hx (fun e=> h1 (h.t e)) (fun e=> h2 (h.f e))
theorem fH {rb:Bool} {P:Program} {Q:Exit→St→Prop} {σ:St} {ops:Array Oper} {rest:List Oper} {d:Nat} {b:Bool} {p q:Prop} [h:cF b p q] (h1:p→DL rb P ops Q rest (σ.put (some d) (.v (.bool true)))) (h2:q→DL rb P ops Q rest (σ.put (some d) (.v (.bool false)))):DL rb P ops Q rest (σ.put (some d) (.v (.bool b))):=
  js (fun e=> h1 (h.t e)) (fun e=> h2 (h.f e))

section
variable {P:Program} {σ τ:St}
variable {o:Oper}
theorem Spec.named {f:FuncId} {σ0:St} (id:aq) {n:Nat} {e:TypeId} {sz:Nat} {xs:List PV} (h:Spec P f σ0 (bc (.ref (0,8) 0 n) [((0,8), .row e sz xs)])):Spec P f σ0 (bc (.ref id 0 n) [(id, .row e sz xs)]):=by
  have h1:bb [(id,(0,8))] id=(0,8):=by simp [bb,bT]
  have h2:bH id [id]=true:=by simp [bH,bT]
  refine h.mono (Le.outO (I:=[]) (Pn:=[]) [(id,(0,8))] [] (aC h1 rfl) ?_ rfl ?_ trivial ⟨⟨?_,⟨_,?_, .rowE rfl⟩,?_⟩,trivial⟩)
  · simp [AV.within,h2]
  · simp [bj,bH]
  · rfl
  · rw [h1];rfl
  rfl
end

def ip:List (Int×Value)→Nat→List MapEntry
  | [],_=> []
  | p::l,i=> ⟨.int .i64 p.1,p.2,i⟩::ip l (i+1)
def mt (M:List (Int×Value)):List MapEntry:=ip M 0
theorem fX: ∀ (M:List (Int×Value)) (i:Nat),(ip M i).length=M.length
  | [],_=> rfl
  | p::l,i=> by simp [ip,fX l]
@[simp] theorem lw (M:List (Int×Value)):(mt M).length=M.length:=fX M 0
variable {P:Program} {T k e:TypeId}
section
variable {σ:St}
end

inductive Ln (σ:St):PV→AV→Prop where
  | v {x:Value} (h:x.oneCell'=true):Ln σ (.v x) (.v x)
  | sl {n:Nat} {xs:List PV}:Ln σ (.sl n xs) (.sl n xs)
  | nil:Ln σ (.sl 0 []) (.v (.slice none 0 0))
  | fp {off:Nat} {xs:List PV}:Ln σ (.ptr off xs) (.fp off xs)
  | ref {id:aq} {off n:Nat} {e:TypeId} {sz:Nat} {xs ys:List PV} (hid:σ.ob id= .obj (.row e sz xs)) (hy:(xs.drop off).take (n*sz)=ys) (hl:off+n*sz≤xs.length):Ln σ (.sl n ys) (.ref id off n)
  | ptr {id:aq} {off:Nat} {e:TypeId} {xs:List AV} {ys:List PV} (hid:σ.ob id= .obj (.box e xs)) (hl:ys.length≤xs.length) (h: ∀ (j:Nat) (p:PV) (a:AV),ys[j]? =some p→xs[j]? =some a→Ln σ p a):Ln σ (.ptr off ys) (.ptr id off)
  | fn {f:Fn} {xs us:List PV} {ys vs:List AV} (hl:xs.length=ys.length) (h: ∀ (j:Nat) (p:PV) (a:AV),xs[j]? =some p→ys[j]? =some a→Ln σ p a)
      (hl':us.length=vs.length) (h': ∀ (j:Nat) (p:PV) (a:AV),us[j]? =some p→vs[j]? =some a→Ln σ p a):Ln σ (.fn f xs us) (.fn f ys vs)
theorem Ln.rd {K:eB} {ι:aq→Option ci} {S S1:Nat→Prop} {σ:St} {act:Act} {w:World} (R:RelI K ι S σ act w) (hS: ∀ g,S g→S1 g) (hF: ∀ id B g,ι id=some B→B.g=some g→S1 g) {p:PV} {a:AV} (h:Ln σ p a): ∀ {v:Value},Rep ι S w a v→Rd S1 w p v:=by
  induction h with
  | v h1=> intro v hv;cases hv;exact .v h1
  | sl=> intro v hv;cases hv with
    | sl h=> exact h.next (fun _ _=> rfl) hS
  | nil=> intro v hv;cases hv;exact .sl0 (Nat.le_refl _) (by unfold maxLen;omega) fun _=> ⟨rfl,rfl⟩
  | fp=> intro v hv;cases hv with
    | fp h=> exact h.next (fun _ _=> rfl) hS
  | ref hid hy hl=>
    intro v hv
    have:=(Lv.frz (ρ:=fun i=> i) (F:=fun _=> true) hid rfl hy hl).rep (ι1:=ι) (S1:=S1) R (fun _ _ h=> h) hS (fun id B g _ a b=> hF id B g a b) hv
    cases this with
    | sl h=> exact h
  | ptr hid hl h ih=>
    intro v hv
    rename_i id off e xs ys
    obtain ⟨B,g,hB,hg,htot,hrow⟩:=R.ob id _ hid
    cases hv with
    | ptr hp _=>
      obtain ⟨g',hg',rfl⟩:=hp B hB
      rw [hg] at hg'
      obtain rfl:=Option.some.inj hg'
      rcases hrow with ⟨h6,_⟩ | ⟨g',cur,h10,h11,h12,h13,h14⟩
      · rw [hg] at h6;cases h6
      rw [hg] at h10
      obtain rfl:=Option.some.inj h10
      have:=Rd.ptr (S:=S1) (w:=w) (off:=off) (b:=g) (o:=0) (xs:=ys) (fun j=> cur.getD j undef) (.mk (hF id B g hB hg) h11) (fun j p hp=> ?_) (fun j p hp=> ?_)
      · simp only [Nat.zero_add] at this;exact this
      · have hj:=(List.getElem?_eq_some_iff.1 hp).1
        obtain ⟨u,hu,_⟩:=h14 j ab
        exact cj h11 (by simp [hu])
      have hj:=(List.getElem?_eq_some_iff.1 hp).1
      have ha:=List.getElem?_eq_getElem (show j < xs.length by omega)
      obtain ⟨u,hu,hu1,hu2⟩:=h14 j ab
      simp only [Array.getD_eq_getD_getElem?,hu,Option.getD_some]
      exact ih j p _ hp ha (hu2 _ ha)
  | fn hl h hl' h' ih ih'=>
    intro v hv
    cases hv with
    | fn a1 a2 a3 a4=>
      refine .fn ab ab (fun j p hp=> ?_) fun j p hp=> ?_
      · have hj:=(List.getElem?_eq_some_iff.1 hp).1
        exact ih j p _ hp (List.getElem?_eq_getElem (show j < _ by omega)) (a3 j _ (List.getElem?_eq_getElem (show j < _ by omega)))
      have hj:=(List.getElem?_eq_some_iff.1 hp).1
      exact ih' j p _ hp (List.getElem?_eq_getElem (show j < _ by omega)) (a4 j _ (List.getElem?_eq_getElem (show j < _ by omega)))

section
variable {P:Program} {σ τ:St} {o:Oper}
end
section
variable {P:Program} {σ:St} {o:Oper} {T e:TypeId} {size bytes:Nat} {z:List Value}
theorem jg {dd:Option Tmp} {ty:TypeId} {f:FuncId} {xs:Array Operand} {ats:Array TypeId} (C:cE P f) (rn:List (aq×aq)) {args:List AV} {ins outs:List (aq×Cells)} {r:AV} {I Pn:List aq}
    (ha:eo σ rn (xs.toList.map σ.eval) args) (sp:Spec P f (cv args ins) (bY r outs I Pn)) (hins:cP (bb rn) σ (fun _=> false) (ins.map (·.1)) ins) (hfr:dh σ (bb rn) (ins.map (·.1)) outs)
    (hb:(AV.withins (ins.map (·.1)) args && bf (ins.map (·.1)) ins && bj ((ins.map (·.1)).map (bb rn)) && bj (ins.map (·.1)) && bj ((outs.map (·.1)).map (bb rn)) && bj (outs.map (·.1)) && et (ins.map (·.1)) Pn outs && r.within (outs.map (·.1)) && bf (outs.map (·.1)) outs)=true):
    cD P dd (.call { callee:= .value (.func f),args:=xs,argTypes:=ats }) ty σ ((σ.afterP (bb rn) outs (ins.map (·.1)) I).put dd (r.ren (bb rn))):=by
  intro o hd ho ht
  subst hd
  simp only [Bool.and_eq_true] at hb
  obtain ⟨⟨⟨⟨⟨⟨⟨⟨h1,h2⟩,h3⟩,h4⟩,h5⟩,h6⟩,h7⟩,h8⟩,h9⟩:=hb
  exact iX (.fnc ho C) rn ha h1 h2 hins h3 h4 h5 h6 hfr h7 h8 h9 sp
end
def iY:List Res→List Nat→Nat→aq→Option Slot
  | r::rs,dp,k,i=> ne (iY rs dp (k+1) i) (bif gy k dp then eT r.2 i else none)
  | _,_,_,_=> none
def cR (σ:St) (W:List Nat) (I:List aq) (own:List aq) (ops:List Oper) (rs:List Res) (dp:List Nat) (τ:St):St where
  n:=σ.n
  fr t:=match eY ops rs dp 0 t with
    | some a=> a
    | none=> bif gy t W then τ.fr t else σ.fr t
  ob i:=match iY rs dp 0 i with
    | some c=> c
    | none=> bif bH i I && !(bH i own) then τ.ob i else σ.ob i
  inc:=σ.inc
  pin:=σ.pin
inductive fx (P:Program) (all:List Oper) (W:List Nat) (I:List aq) (σ:St) (rs:List Res) (o:Oper):Res→Prop where
  | plain {r:Res} (hg:o.guard=none) (h: ∀ τ,bw P o (cR σ W I (r.2.map (·.1)) all rs (Edge.ons o.after.toList) τ) (r.app o.dst (cR σ W I (r.2.map (·.1)) all rs (Edge.ons o.after.toList) τ))):fx P all W I σ rs o r
  | yes {r:Res} {j d:Nat} {want:Bool} (hg:o.guard=some (j,want)) (hd:(all[j]?).bind (·.dst)=some d) (hv: ∀ τ,(cR σ W I (r.2.map (·.1)) all rs (Edge.ons o.after.toList) τ).eval (.tmp d)= .v (.bool want))
      (h: ∀ τ,bw P o (cR σ W I (r.2.map (·.1)) all rs (Edge.ons o.after.toList) τ) (r.app o.dst (cR σ W I (r.2.map (·.1)) all rs (Edge.ons o.after.toList) τ))):fx P all W I σ rs o r
  | no {j d:Nat} {want:Bool} {y:Value} (hg:o.guard=some (j,want)) (hd:(all[j]?).bind (·.dst)=some d) (hv: ∀ τ,(cR σ W I [] all rs (Edge.ons o.after.toList) τ).eval (.tmp d)= .v y) (hb:y≠ .bool want):fx P all W I σ rs o (.v undef,[])
def AnyOpsC (P:Program) (all:List Oper) (W:List Nat) (I:List aq) (σ:St) (Kont:List Res→Prop):List Oper→List Res→Prop
  | [],rs=> Kont rs
  | o::os,rs=> ∃ r,fx P all W I σ rs o r∧AnyOpsC P all W I σ Kont os (rs++[r])
theorem AnyOpsC.get {P:Program} {all:List Oper} {W:List Nat} {I:List aq} {σ:St} {Kont:List Res→Prop}: ∀ (os:List Oper) (rs0:List Res),AnyOpsC P all W I σ Kont os rs0→
    ∃ rs,rs.length=rs0.length+os.length∧rs.take rs0.length=rs0∧Kont rs∧ ∀ (j:Nat) (o:Oper) (r:Res),os[j]? =some o→rs[rs0.length+j]? =some r→fx P all W I σ (rs.take (rs0.length+j)) o r
  | [],rs0,h=> ⟨rs0,by simp,by simp,h,by simp⟩
  | o::os,rs0,⟨r,h1,h2⟩=> by
    obtain ⟨rs,a,b,c,d⟩:=AnyOpsC.get os (rs0++[r]) h2
    simp only [List.length_append,List.length_cons,List.length_nil] at a b d
    have ht:rs.take rs0.length=rs0:=by
      have:=congrArg (fun l=> l.take rs0.length) b
      simpa [List.take_take] using this
    have hr:rs[rs0.length]? =some r:=by
      have:=congrArg (fun l=> l[rs0.length]?) b
      simp only [List.getElem?_take] at this
      rw [if_pos ab] at this
      rw [this];simp
    refine ⟨rs,by simp;omega,ht,c,fun j o' r' ho hr'=> ?_⟩
    cases j with
    | zero=>
      simp at ho;subst ho
      simp only [Nat.add_zero] at hr' ⊢
      rw [hr] at hr'
      obtain rfl:=Option.some.inj hr'
      rw [ht];exact h1
    | succ j=>
      have:=d j o' r' (by simpa using ho) (by rw [← hr'];congr 1;omega)
      rwa [show rs0.length+(0+1)+j=rs0.length+(j+1) by omega] at this
section
variable {P:Program} {σ:St} {all:List Oper} {W:List Nat} {I:List aq} {Kont:List Res→Prop} {os:List Oper} {rs:List Res} {d:Option Tmp} {op:Op} {ty:TypeId} {p:String} {af:List Edge}
end
def kB (r r':Res):Bool:=r.2.any fun p=> (eT r'.2 p.1).isSome
def chainB (ops:List Oper) (rs:List Res):Bool:=(List.range rs.length).all fun k=> (List.range k).all fun j=> match rs[j]?,rs[k]?,ops[k]? with
  | some r,some r',some o=> !(kB r r') || (gy j (Edge.ons o.after.toList) && (List.range ops.length).all fun m=> match ops[m]? with | some om=> !(gy j (Edge.ons om.after.toList)) || Nat.beq m k || gy m (Edge.ons o.after.toList) || gy k (Edge.ons om.after.toList) | none=> true)
  | _,_,_=> true
instance mG (l m:List UInt8):cF (l==m) (l=m) (l≠m):=⟨fun e=> by simpa using e,fun e=> by simpa using e⟩
instance mL (l m:List UInt8):cF (l !=m) (l≠m) (l=m):=⟨fun e=> by simpa using e,fun e=> by simpa using e⟩
section
variable {P:Program} {σ:St} {dd:Option Tmp} {ty t t':TypeId}
end

def gh (σ:St) (ρ:aq→aq) (ins:List aq):List (aq×Cells)→Prop
  | []=> True
  | x::l=> (bif bH x.1 ins then false else σ.inc (ρ x.1))=false∧gh σ ρ ins l
theorem gF {σ:St} {ρ:aq→aq} {ins I:List aq} {c:aq}: ∀ {l:List (aq×Cells)},gh σ ρ ins l→fA ρ ins I false σ.inc l c=σ.inc c
  | [],_=> rfl
  | x::l,h=> by
    have h2:=gF (I:=I) (c:=c) h.2
    have h1:=h.1
    show (bif dI c (ρ x.1) then (bif bH x.1 ins then σ.inc c else bif bH x.1 I then false else false) else fA ρ ins I false σ.inc l c)=σ.inc c
    rw [h2]
    cases hc:dI c (ρ x.1) with
    | false=> rfl
    | true=>
      cases hi:bH x.1 ins with
      | true=> rfl
      | false=>
        rw [hi] at h1
        have h1:σ.inc (ρ x.1)=false:=h1
        rw [oeq_iff.1 hc,h1]
        cases bH x.1 I <;> rfl
def gv (ρ:aq→aq) (outs:List (aq×Cells)) (ins:List aq):List (aq×Slot):=outs.map (fun p=> (ρ p.1,Slot.obj (p.2.ren ρ)))++(dH outs ins).map fun i=> (ρ i,Slot.gone)
theorem fu {outs:List (aq×Cells)} {i:aq}: ∀ {l:List aq},i∈dH outs l→i∈l∧i∉outs.map (·.1)
  | [],h=> by cases h
  | k::l,h=> by
    simp only [dH] at h
    cases hb:bH k (outs.map (·.1)) with
    | true=>
      rw [hb] at h
      have:=fu (l:=l) h
      exact ⟨List.mem_cons_of_mem _ this.1,this.2⟩
    | false=>
      rw [hb] at h
      rcases List.mem_cons.1 h with rfl | h
      · exact ⟨List.mem_cons_self,fun hm=> by rw [inO_iff.2 hm] at hb;cases hb⟩
      have:=fu (l:=l) h
      exact ⟨List.mem_cons_of_mem _ this.1,this.2⟩
theorem fP {σ:St} {ρ:aq→aq} {outs:List (aq×Cells)} {ins I:List aq} (hn:((gv ρ outs ins).map (·.1)).Nodup) (hno:((outs.map (·.1)).map ρ).Nodup) (hi:gh σ ρ ins outs) (ha:dm σ ((dH outs ins).map ρ)=false):σ.afterP ρ outs ins I=St.setObs (gv ρ outs ins) σ:=by
  refine St.eq ?_ (fun t=> ?_) (fun c=> ?_) (funext fun c=> ?_) ?_
  · rw [fj];rfl
  · rw [eJ];rfl
  · show bL ρ outs ins σ.ob c=_
    by_cases h:c∈(outs.map (·.1)).map ρ
    · obtain ⟨i,hi,rfl⟩:=List.mem_map.1 h
      obtain ⟨⟨i',o⟩,hm,rfl⟩:=List.mem_map.1 hi
      rw [bK hno hm]
      exact (ec _ _ hn (List.mem_append.2 (.inl (List.mem_map.2 ⟨(i',o),hm,rfl⟩)))).symm
    rw [cn h]
    cases hb:bH c (ins.map ρ) with
    | true=>
      obtain ⟨i,hi,rfl⟩:=List.mem_map.1 (inO_iff.1 hb)
      exact (ec _ _ hn (List.mem_append.2 (.inr (List.mem_map.2 ⟨i,dY hi fun hm=> h (List.mem_map_of_mem hm),rfl⟩)))).symm
    | false=>
      refine (dX _ _ fun hm=> ?_).symm
      obtain ⟨q,hq,rfl⟩:=List.mem_map.1 hm
      rcases List.mem_append.1 hq with hq | hq
      · obtain ⟨⟨i,o⟩,hx,rfl⟩:=List.mem_map.1 hq
        exact h (List.mem_map_of_mem (List.mem_map_of_mem (f:=(·.1)) hx))
      obtain ⟨i,hx,rfl⟩:=List.mem_map.1 hq
      have hr:bH (ρ i) (ins.map ρ)=true:=inO_iff.2 (List.mem_map_of_mem (fu hx).1)
      exact absurd (hr.symm.trans hb) ag
  · rw [ej]
    show fA ρ ins I (dm σ ((dH outs ins).map ρ)) σ.inc outs c=σ.inc c
    rw [ha]
    exact gF hi
  rw [eg];rfl
section
variable {P:Program} {σ:St}
theorem bA {dd:Option Tmp} {ty:TypeId} {f:FuncId} {xs:Array Operand} {ats:Array TypeId} (C:cE P f) (rn:List (aq×aq)) {args:List AV} {ins outs:List (aq×Cells)} {r:AV} {I Pn:List aq}
    (ha:eo σ rn (xs.toList.map σ.eval) args) (sp:Spec P f (cv args ins) (bY r outs I Pn)) (hins:cP (bb rn) σ (fun _=> false) (ins.map (·.1)) ins) (hfr:dh σ (bb rn) (ins.map (·.1)) outs) (hni:gh σ (bb rn) (ins.map (·.1)) outs)
    (hai:dm σ ((dH outs (ins.map (·.1))).map (bb rn))=false) {obs:List (aq×Slot)} (ho:gv (bb rn) outs (ins.map (·.1))=obs)
    (hb:(AV.withins (ins.map (·.1)) args && bf (ins.map (·.1)) ins && bj ((ins.map (·.1)).map (bb rn)) && bj (ins.map (·.1)) && bj ((outs.map (·.1)).map (bb rn)) && bj (outs.map (·.1)) && et (ins.map (·.1)) Pn outs && r.within (outs.map (·.1)) && bf (outs.map (·.1)) outs)=true)
    (hb2:bj ((gv (bb rn) outs (ins.map (·.1))).map (·.1))=true):
    cD P dd (.call { callee:= .value (.func f),args:=xs,argTypes:=ats }) ty σ ((St.setObs obs σ).put dd (r.ren (bb rn))):=by
  subst ho
  have key:=jg (dd:=dd) (ty:=ty) (ats:=ats) C rn ha sp hins hfr hb
  simp only [Bool.and_eq_true] at hb
  rwa [fP (be hb2) (be hb.1.1.1.1.2) hni hai] at key
end
section
variable {P:Program} {σ:St}
end

inductive fi (io:aq) (Φ:Slot→Prop) (P:Program) (all:List Oper) (W:List Nat) (I:List aq) (σ:St) (rs:List Res) (o:Oper):Res→Prop where
  | plain {r:Res} (hg:o.guard=none) (h: ∀ τ:St,Φ (τ.ob io)→bw P o (cC σ W I (r.2.map (·.1)) all rs (Edge.ons o.after.toList) τ) (r.app o.dst (cC σ W I (r.2.map (·.1)) all rs (Edge.ons o.after.toList) τ))):fi io Φ P all W I σ rs o r
  | yes {r:Res} {j d:Nat} {want:Bool} (hg:o.guard=some (j,want)) (hd:(all[j]?).bind (·.dst)=some d) (hv: ∀ τ:St,Φ (τ.ob io)→(cC σ W I (r.2.map (·.1)) all rs (Edge.ons o.after.toList) τ).eval (.tmp d)= .v (.bool want))
      (h: ∀ τ:St,Φ (τ.ob io)→bw P o (cC σ W I (r.2.map (·.1)) all rs (Edge.ons o.after.toList) τ) (r.app o.dst (cC σ W I (r.2.map (·.1)) all rs (Edge.ons o.after.toList) τ))):fi io Φ P all W I σ rs o r
  | no {j d:Nat} {want:Bool} {y:Value} (hg:o.guard=some (j,want)) (hd:(all[j]?).bind (·.dst)=some d) (hv: ∀ τ:St,Φ (τ.ob io)→(cC σ W I [] all rs (Edge.ons o.after.toList) τ).eval (.tmp d)= .v y) (hb:y≠ .bool want):fi io Φ P all W I σ rs o (.v undef,[])

def AnyOpsW (io:aq) (Φ:Slot→Prop) (P:Program) (all:List Oper) (W:List Nat) (I:List aq) (AA:List (List aq)) (σ:St) (Kont:List Res→Prop):List Oper→List Res→Prop
  | [],rs=> Kont rs
  | o::os,rs=> ∃ r,fi io Φ P all W (iK AA I rs.length) σ rs o r∧AnyOpsW io Φ P all W I AA σ Kont os (rs++[r])
theorem AnyOpsW.get {io:aq} {Φ:Slot→Prop} {P:Program} {all:List Oper} {W:List Nat} {I:List aq} {AA:List (List aq)} {σ:St} {Kont:List Res→Prop}: ∀ (os:List Oper) (rs0:List Res),AnyOpsW io Φ P all W I AA σ Kont os rs0→
    ∃ rs,rs.length=rs0.length+os.length∧rs.take rs0.length=rs0∧Kont rs∧ ∀ (j:Nat) (o:Oper) (r:Res),os[j]? =some o→rs[rs0.length+j]? =some r→fi io Φ P all W (iK AA I (rs0.length+j)) σ (rs.take (rs0.length+j)) o r
  | [],rs0,h=> ⟨rs0,by simp,by simp,h,by simp⟩
  | o::os,rs0,⟨r,h1,h2⟩=> by
    obtain ⟨rs,a,b,c,d⟩:=AnyOpsW.get os (rs0++[r]) h2
    simp only [List.length_append,List.length_cons,List.length_nil] at a b d
    have ht:rs.take rs0.length=rs0:=by
      have:=congrArg (fun l=> l.take rs0.length) b
      simpa [List.take_take] using this
    have hr:rs[rs0.length]? =some r:=by
      have:=congrArg (fun l=> l[rs0.length]?) b
      simp only [List.getElem?_take] at this
      rw [if_pos ab] at this
      rw [this];simp
    refine ⟨rs,by simp;omega,ht,c,fun j o' r' ho hr'=> ?_⟩
    cases j with
    | zero=>
      simp at ho;subst ho
      simp only [Nat.add_zero] at hr' ⊢
      rw [hr] at hr'
      obtain rfl:=Option.some.inj hr'
      rw [ht];exact h1
    | succ j=>
      have:=d j o' r' (by simpa using ho) (by rw [← hr'];congr 1;omega)
      rwa [show rs0.length+(0+1)+j=rs0.length+(j+1) by omega] at this

section
variable {P:Program} {σ:St} {io:aq} {Φ:Slot→Prop}
theorem AnyOpsW.imp {all:List Oper} {W:List Nat} {I:List aq} {AA:List (List aq)} {K K':List Res→Prop} (hk: ∀ rs,K rs→K' rs): ∀ {os:List Oper} {rs:List Res},AnyOpsW io Φ P all W I AA σ K os rs→AnyOpsW io Φ P all W I AA σ K' os rs
  | [],rs,h=> hk rs h
  | o::os,rs,⟨r,h1,h2⟩=> ⟨r,h1,AnyOpsW.imp hk h2⟩
end

section
variable {rb:Bool} {P:Program} {Q:Exit→St→Prop} {σ:St}
end
section
variable {rb:Bool} {P:Program} {Q:Exit→St→Prop} {σ:St} {ops:Array Oper} {rest:List Oper} {d:Option Tmp} {ty:TypeId} {p:String} {af:Array Edge}
end
theorem ob {p:Prop} (h:p:=by repeat' (first | exact trivial | exact ⟨rfl,⟨_,rfl, .rowE rfl⟩,rfl⟩ | exact ⟨rfl,⟨_,rfl, .box ae (by repeat' (first | exact ap | refine aj ?_ ?_ | exact Lv.v | exact Lv.sl | exact Lv.nil | exact aC rfl rfl | exact aZ rfl | exact Lv.fp | exact bd rfl | exact nd rfl | exact cb rfl rfl | refine Lv.fn rfl ?_ rfl ?_ | refine Lv.agg rfl ?_ | exact Lv.z))⟩,rfl⟩ | refine ⟨?_,?_⟩)):p:=h

inductive fN (io:aq) (Φ:Slot→Prop) (P:Program) (all:List Oper) (W:List Nat) (I:List aq) (σ:St) (rs:List Res) (o:Oper):Res→Prop where
  | plain {r:Res} (hg:o.guard=none) (h: ∀ τ:St,Φ (τ.ob io)→bw P o (cR σ W I (r.2.map (·.1)) all rs (Edge.ons o.after.toList) τ) (r.app o.dst (cR σ W I (r.2.map (·.1)) all rs (Edge.ons o.after.toList) τ))):fN io Φ P all W I σ rs o r
  | yes {r:Res} {j d:Nat} {want:Bool} (hg:o.guard=some (j,want)) (hd:(all[j]?).bind (·.dst)=some d) (hv: ∀ τ:St,Φ (τ.ob io)→(cR σ W I (r.2.map (·.1)) all rs (Edge.ons o.after.toList) τ).eval (.tmp d)= .v (.bool want))
      (h: ∀ τ:St,Φ (τ.ob io)→bw P o (cR σ W I (r.2.map (·.1)) all rs (Edge.ons o.after.toList) τ) (r.app o.dst (cR σ W I (r.2.map (·.1)) all rs (Edge.ons o.after.toList) τ))):fN io Φ P all W I σ rs o r
  | no {j d:Nat} {want:Bool} {y:Value} (hg:o.guard=some (j,want)) (hd:(all[j]?).bind (·.dst)=some d) (hv: ∀ τ:St,Φ (τ.ob io)→(cR σ W I [] all rs (Edge.ons o.after.toList) τ).eval (.tmp d)= .v y) (hb:y≠ .bool want):fN io Φ P all W I σ rs o (.v undef,[])
def AnyOpsX (io:aq) (Φ:Slot→Prop) (P:Program) (all:List Oper) (W:List Nat) (I:List aq) (σ:St) (Kont:List Res→Prop):List Oper→List Res→Prop
  | [],rs=> Kont rs
  | o::os,rs=> ∃ r,fN io Φ P all W I σ rs o r∧AnyOpsX io Φ P all W I σ Kont os (rs++[r])
theorem AnyOpsX.get {io:aq} {Φ:Slot→Prop} {P:Program} {all:List Oper} {W:List Nat} {I:List aq} {σ:St} {Kont:List Res→Prop}: ∀ (os:List Oper) (rs0:List Res),AnyOpsX io Φ P all W I σ Kont os rs0→
    ∃ rs,rs.length=rs0.length+os.length∧rs.take rs0.length=rs0∧Kont rs∧ ∀ (j:Nat) (o:Oper) (r:Res),os[j]? =some o→rs[rs0.length+j]? =some r→fN io Φ P all W I σ (rs.take (rs0.length+j)) o r
  | [],rs0,h=> ⟨rs0,by simp,by simp,h,by simp⟩
  | o::os,rs0,⟨r,h1,h2⟩=> by
    obtain ⟨rs,a,b,c,d⟩:=AnyOpsX.get os (rs0++[r]) h2
    simp only [List.length_append,List.length_cons,List.length_nil] at a b d
    have ht:rs.take rs0.length=rs0:=by
      have:=congrArg (fun l=> l.take rs0.length) b
      simpa [List.take_take] using this
    have hr:rs[rs0.length]? =some r:=by
      have:=congrArg (fun l=> l[rs0.length]?) b
      simp only [List.getElem?_take] at this
      rw [if_pos ab] at this
      rw [this];simp
    refine ⟨rs,by simp;omega,ht,c,fun j o' r' ho hr'=> ?_⟩
    cases j with
    | zero=>
      simp at ho;subst ho
      simp only [Nat.add_zero] at hr' ⊢
      rw [hr] at hr'
      obtain rfl:=Option.some.inj hr'
      rw [ht];exact h1
    | succ j=>
      have:=d j o' r' (by simpa using ho) (by rw [← hr'];congr 1;omega)
      rwa [show rs0.length+(0+1)+j=rs0.length+(j+1) by omega] at this
section
variable {io:aq} {Φ:Slot→Prop} {P:Program} {σ:St} {all:List Oper} {W:List Nat} {I:List aq} {Kont:List Res→Prop} {os:List Oper} {rs:List Res} {d:Option Tmp} {op:Op} {ty:TypeId} {p:String} {af:List Edge}
end
end Go.Proofs.Ytmjnackchaahbaa

namespace Go.Proofs.Ytmjnackchaahbaa
abbrev lg:List Value:=[.slice none 0 0, .int .i64 0, .int .i64 0, .int .i64 0, .int .i64 0, .int .i64 0, .int .i64 0, .int .i64 0, .int .i64 0, .int .i64 0, .int .i64 0, .int .i64 0, .int .i64 0, .int .i64 0, .int .i64 0, .int .i64 0, .int .i64 0, .int .i64 0, .int .i64 0, .int .i64 0, .int .i64 0, .int .i64 0, .int .i64 0, .int .i64 0, .int .i64 0, .int .i64 0, .int .i64 0, .int .i64 0, .int .i64 0, .int .i64 0, .int .i64 0, .int .i64 0, .int .i64 0, .int .i64 0, .int .i64 0, .int .i64 0, .int .i64 0, .int .i64 0, .int .i64 0, .int .i64 0, .int .i64 0, .int .i64 0, .int .i64 0]
abbrev ld:List Value:=[.slice none 0 0, .slice none 0 0, .int .i64 0, .bool false, .slice none 0 0]
abbrev lf:List Value:=[.slice none 0 0, .int .i64 0, .int .i64 0, .int .i64 0, .int .i64 0, .int .i64 0, .int .i64 0, .int .i64 0, .int .i64 0, .int .i64 0]
abbrev kk:List Value:=[.int .i64 0, .int .i64 0, .int .i64 0, .slice none 0 0]
abbrev lc:List Value:=[.slice none 0 0, .int .i64 0, .int .i64 0, .int .i64 0, .int .i64 0, .int .i64 0, .int .i64 0, .int .i64 0, .int .i64 0, .int .i64 0, .int .i64 0, .int .i64 0, .int .i64 0, .int .i64 0, .int .i64 0, .int .i64 0, .int .i64 0, .int .i64 0, .int .i64 0, .int .i64 0, .int .i64 0, .int .i64 0, .int .i64 0, .int .i64 0, .int .i64 0, .int .i64 0, .int .i64 0, .int .i64 0, .int .i64 0, .int .i64 0, .int .i64 0, .int .i64 0, .int .i64 0, .int .i64 0, .int .i64 0, .int .i64 0, .int .i64 0, .int .i64 0, .int .i64 0, .int .i64 0, .int .i64 0, .int .i64 0, .int .i64 0, .slice none 0 0, .int .i64 0, .int .i64 0, .int .i64 0, .int .i64 0, .int .i64 0, .int .i64 0, .int .i64 0, .int .i64 0, .int .i64 0, .nilFunc, .slice none 0 0, .slice none 0 0, .int .i64 0, .bool false, .slice none 0 0, .slice none 0 0, .int .i64 0, .int .i64 0, .int .i64 0, .bool false]
abbrev mY:List Value:=[.int .i64 0, .int .i64 0, .int .i64 0, .int .i64 0, .int .i64 0, .int .i64 0, .int .i64 0, .int .i64 0, .int .i64 0, .int .i64 0, .int .i64 0, .int .i64 0, .int .i64 0, .int .i64 0, .int .i64 0, .int .i64 0, .int .i64 0, .int .i64 0, .int .i64 0, .int .i64 0, .int .i64 0, .int .i64 0, .int .i64 0, .int .i64 0, .int .i64 0, .int .i64 0, .int .i64 0, .int .i64 0, .int .i64 0, .int .i64 0, .int .i64 0, .int .i64 0, .int .i64 0, .int .i64 0, .int .i64 0, .int .i64 0, .int .i64 0, .int .i64 0, .int .i64 0, .int .i64 0]
abbrev nh:List Value:=[.int .i64 0, .int .i64 0, .int .i64 0, .int .i64 0, .int .i64 0, .int .i64 0, .int .i64 0, .int .i64 0, .int .i64 0]
abbrev lC:List Value:=[.int .i64 0, .int .i64 0, .int .i64 0, .int .i64 0, .int .i64 0]
abbrev mZ:List Value:=[.nilFunc, .nilFunc, .nilFunc, .nilFunc, .nilFunc, .nilFunc, .nilFunc, .nilFunc, .nilFunc, .nilFunc, .nilFunc, .nilFunc, .nilFunc, .nilFunc, .nilFunc, .nilFunc, .nilFunc, .nilFunc, .nilFunc, .nilFunc, .nilFunc, .nilFunc, .nilFunc, .nilFunc]
abbrev mW:List Value:=[.int .u64 0, .int .u64 0, .int .u32 0, .int .u8 0, .int .u8 0, .int .u8 0, .int .u8 0, .nilFunc, .pointer none, .int .i32 0, .int .i32 0]

instance pr:Ty Try.prog 2 false [.int .i64 0]:=Ty.of (bytes:=8) (.int .i64 0) Try.underlying2 rfl ac rfl oC
instance jC:Ty Try.prog 3 false [.int .i64 0]:=Ty.of (bytes:=8) (.int .i64 0) Try.underlying3 rfl ac rfl oC
instance ng:Ty Try.prog 4 false [.bool false]:=Ty.of (bytes:=1) (.bool false) Try.underlying4 rfl ac rfl oC
instance pu:Ty Try.prog 9 false [.string ByteArray.empty]:=Ty.of (bytes:=16) (.string ByteArray.empty) Try.underlying9 rfl ac rfl oC
instance jW:Ty Try.prog 22 false [.slice none 0 0]:=Ty.of (bytes:=24) (.slice none 0 0) Try.underlying22 rfl ac rfl oC
instance ml:Ty Try.prog 23 false [.slice none 0 0]:=Ty.of (bytes:=24) (.slice none 0 0) Try.underlying23 rfl ac rfl oC
instance nC:Ty Try.prog 25 true [.slice none 0 0, .slice none 0 0]:=Ty.of (bytes:=48) (.agg #[.slice none 0 0, .slice none 0 0]) Try.underlying25 rfl ac rfl oC
instance lT:Ty Try.prog 28 false [.nilFunc]:=Ty.of (bytes:=8) (.nilFunc) Try.underlying28 rfl ac rfl oC
instance mU:Ty Try.prog 31 false [.slice none 0 0]:=Ty.of (bytes:=24) (.slice none 0 0) Try.underlying31 rfl ac rfl oC
instance oD:Ty Try.prog 33 false [.slice none 0 0]:=Ty.of (bytes:=24) (.slice none 0 0) Try.underlying33 rfl ac rfl oC
instance oR:Ty Try.prog 35 true [.int .i64 0, .int .i64 0]:=Ty.of (bytes:=16) (.agg #[.int .i64 0, .int .i64 0]) Try.underlying35 rfl ac rfl oC
instance lK:Ty Try.prog 43 true lg:=Ty.of (bytes:=360) (.agg (lg).toArray) Try.underlying43 rfl ac rfl oC
instance lN:Ty Try.prog 46 false [.slice none 0 0]:=Ty.of (bytes:=24) (.slice none 0 0) Try.underlying46 rfl ac rfl oC
instance lZ:Ty Try.prog 48 true ld:=Ty.of (bytes:=88) (.agg (ld).toArray) Try.underlying48 rfl ac rfl oC
instance mj:Ty Try.prog 51 true lf:=Ty.of (bytes:=96) (.agg (lf).toArray) Try.underlying51 rfl ac rfl oC
instance oz:Ty Try.prog 56 false [.nilFunc]:=Ty.of (bytes:=8) (.nilFunc) Try.underlying56 rfl ac rfl oC
instance pb:Ty Try.prog 57 false [.slice none 0 0]:=Ty.of (bytes:=24) (.slice none 0 0) Try.underlying57 rfl ac rfl oC
instance oA:Ty Try.prog 61 true kk:=Ty.of (bytes:=48) (.agg (kk).toArray) Try.underlying61 rfl ac rfl oC
instance oK:Ty Try.prog 65 false [.pointer none]:=Ty.of (bytes:=8) (.pointer none) Try.underlying65 rfl ac rfl oC
instance oQ:Ty Try.prog 68 true lc:=Ty.of (bytes:=608) (.agg (lc).toArray) Try.underlying68 rfl ac rfl oC
instance ol:Ty Try.prog 69 false [.nilFunc]:=Ty.of (bytes:=8) (.nilFunc) Try.underlying69 rfl ac rfl oC
instance pg:Ty Try.prog 76 false [.nilFunc]:=Ty.of (bytes:=8) (.nilFunc) Try.underlying76 rfl ac rfl oC
instance pm:Ty Try.prog 78 false [.int .u64 0]:=Ty.of (bytes:=8) (.int .u64 0) Try.underlying78 rfl ac rfl oC
instance nb:Ty Try.prog 100 false [.int .u32 0]:=Ty.of (bytes:=4) (.int .u32 0) Try.underlying100 rfl ac rfl oC
instance nf:Ty Try.prog 102 false [.int .u64 0]:=Ty.of (bytes:=8) (.int .u64 0) Try.underlying102 rfl ac rfl oC
instance nF:Elem Try.prog 22 3 1 8 [.int .i64 0]:=Elem.of (.int .i64 0) Try.underlying22 ac rfl rfl ag ag oC
instance oX:Elem Try.prog 23 35 2 16 [.int .i64 0, .int .i64 0]:=Elem.of (.agg #[.int .i64 0, .int .i64 0]) Try.underlying23 ac rfl rfl ag ag oC
instance oP:Elem Try.prog 31 4 1 1 [.bool false]:=Elem.of (.bool false) Try.underlying31 ac rfl rfl ag ag oC
instance nS:Elem Try.prog 33 25 2 48 [.slice none 0 0, .slice none 0 0]:=Elem.of (.agg #[.slice none 0 0, .slice none 0 0]) Try.underlying33 ac rfl rfl ag ag oC
instance ns:Elem Try.prog 57 61 4 48 kk:=Elem.of (.agg (kk).toArray) Try.underlying57 ac rfl rfl ag ag oC
instance lX:eH Try.prog 25 0 0:=⟨fun ad w=> by kernel_rfl⟩
instance mv:Fvl Try.prog 25 0 0 false 1:=Fvl.of Try.underlying25 rfl rfl jW rfl
instance lY:eH Try.prog 25 1 1:=⟨fun ad w=> by kernel_rfl⟩
instance lE:Fvl Try.prog 25 1 1 false 1:=Fvl.of Try.underlying25 rfl rfl ml rfl
instance mT:eH Try.prog 35 0 0:=⟨fun ad w=> by kernel_rfl⟩
instance mM:Fvl Try.prog 35 0 0 false 1:=Fvl.of Try.underlying35 rfl rfl jC rfl
instance mF:eH Try.prog 35 1 1:=⟨fun ad w=> by kernel_rfl⟩
instance mn:Fvl Try.prog 35 1 1 false 1:=Fvl.of Try.underlying35 rfl rfl jC rfl
instance lM:eH Try.prog 48 0 0:=⟨fun ad w=> by kernel_rfl⟩
instance mB:Fvl Try.prog 48 0 0 false 1:=Fvl.of Try.underlying48 rfl rfl jW rfl
instance mD:eH Try.prog 48 1 1:=⟨fun ad w=> by kernel_rfl⟩
instance lP:Fvl Try.prog 48 1 1 false 1:=Fvl.of Try.underlying48 rfl rfl lN rfl
instance mA:eH Try.prog 48 2 2:=⟨fun ad w=> by kernel_rfl⟩
instance me:Fvl Try.prog 48 2 2 false 1:=Fvl.of Try.underlying48 rfl rfl jC rfl
instance lL:eH Try.prog 48 3 3:=⟨fun ad w=> by kernel_rfl⟩
instance mc:Fvl Try.prog 48 3 3 false 1:=Fvl.of Try.underlying48 rfl rfl ng rfl
instance lU:eH Try.prog 48 4 4:=⟨fun ad w=> by kernel_rfl⟩
instance lW:Fvl Try.prog 48 4 4 false 1:=Fvl.of Try.underlying48 rfl rfl jW rfl
instance mo:eH Try.prog 61 0 0:=⟨fun ad w=> by kernel_rfl⟩
instance mN:Fvl Try.prog 61 0 0 false 1:=Fvl.of Try.underlying61 rfl rfl jC rfl
instance mz:eH Try.prog 61 1 1:=⟨fun ad w=> by kernel_rfl⟩
instance mb:Fvl Try.prog 61 1 1 false 1:=Fvl.of Try.underlying61 rfl rfl jC rfl
instance mw:eH Try.prog 61 2 2:=⟨fun ad w=> by kernel_rfl⟩
instance mI:Fvl Try.prog 61 2 2 false 1:=Fvl.of Try.underlying61 rfl rfl jC rfl
instance mm:eH Try.prog 61 3 3:=⟨fun ad w=> by kernel_rfl⟩
instance mq:Fvl Try.prog 61 3 3 false 1:=Fvl.of Try.underlying61 rfl rfl mU rfl
instance mS:eH Try.prog 68 0 0:=⟨fun ad w=> by kernel_rfl⟩
instance mH:Fvl Try.prog 68 0 0 true 43:=Fvl.of Try.underlying68 rfl rfl lK rfl
instance ma:eH Try.prog 68 1 43:=⟨fun ad w=> by kernel_rfl⟩
instance mE:Fvl Try.prog 68 1 43 true 10:=Fvl.of Try.underlying68 rfl rfl mj rfl
instance lH:eH Try.prog 68 2 53:=⟨fun ad w=> by kernel_rfl⟩
instance lQ:Fvl Try.prog 68 2 53 false 1:=Fvl.of Try.underlying68 rfl rfl lT rfl
instance mP:eH Try.prog 68 3 54:=⟨fun ad w=> by kernel_rfl⟩
instance mr:Fvl Try.prog 68 3 54 true 5:=Fvl.of Try.underlying68 rfl rfl lZ rfl
instance lF:eH Try.prog 68 4 59:=⟨fun ad w=> by kernel_rfl⟩
instance mh:Fvl Try.prog 68 4 59 false 1:=Fvl.of Try.underlying68 rfl rfl jW rfl
instance mu:eH Try.prog 68 5 60:=⟨fun ad w=> by kernel_rfl⟩
instance mC:Fvl Try.prog 68 5 60 false 1:=Fvl.of Try.underlying68 rfl rfl jC rfl
instance ms:eH Try.prog 68 6 61:=⟨fun ad w=> by kernel_rfl⟩
instance lS:Fvl Try.prog 68 6 61 false 1:=Fvl.of Try.underlying68 rfl rfl jC rfl
instance mf:eH Try.prog 68 7 62:=⟨fun ad w=> by kernel_rfl⟩
instance lV:Fvl Try.prog 68 7 62 false 1:=Fvl.of Try.underlying68 rfl rfl jC rfl
instance mV:eH Try.prog 68 8 63:=⟨fun ad w=> by kernel_rfl⟩
instance lI:Fvl Try.prog 68 8 63 false 1:=Fvl.of Try.underlying68 rfl rfl ng rfl
instance po:cE Try.prog 3:=⟨fun args w=> by kernel_rfl⟩
instance pv:cE Try.prog 5:=⟨fun args w=> by kernel_rfl⟩
instance pp:cE Try.prog 6:=⟨fun args w=> by kernel_rfl⟩
instance pt:cE Try.prog 7:=⟨fun args w=> by kernel_rfl⟩
instance pq:cE Try.prog 8:=⟨fun args w=> by kernel_rfl⟩
instance pn:cE Try.prog 9:=⟨fun args w=> by kernel_rfl⟩
instance nK:cE Try.prog 10:=⟨fun args w=> by kernel_rfl⟩
instance nm:cE Try.prog 11:=⟨fun args w=> by kernel_rfl⟩
instance pk:cE Try.prog 12:=⟨fun args w=> by kernel_rfl⟩
instance nr:cE Try.prog 13:=⟨fun args w=> by kernel_rfl⟩
instance nV:cE Try.prog 14:=⟨fun args w=> by kernel_rfl⟩
instance nP:cE Try.prog 18:=⟨fun args w=> by kernel_rfl⟩
instance oY:cE Try.prog 19:=⟨fun args w=> by kernel_rfl⟩
instance oq:cE Try.prog 20:=⟨fun args w=> by kernel_rfl⟩
instance nY:cE Try.prog 21:=⟨fun args w=> by kernel_rfl⟩
instance nB:cE Try.prog 22:=⟨fun args w=> by kernel_rfl⟩
instance nj:cE Try.prog 23:=⟨fun args w=> by kernel_rfl⟩
instance oI:cE Try.prog 24:=⟨fun args w=> by kernel_rfl⟩
instance oF:cE Try.prog 25:=⟨fun args w=> by kernel_rfl⟩
instance nO:cE Try.prog 30:=⟨fun args w=> by kernel_rfl⟩
instance oE:cE Try.prog 31:=⟨fun args w=> by kernel_rfl⟩
instance nk:cE Try.prog 32:=⟨fun args w=> by kernel_rfl⟩
instance nG:cE Try.prog 33:=⟨fun args w=> by kernel_rfl⟩
instance oy:cE Try.prog 34:=⟨fun args w=> by kernel_rfl⟩
instance oG:cE Try.prog 35:=⟨fun args w=> by kernel_rfl⟩
instance nn:cE Try.prog 36:=⟨fun args w=> by kernel_rfl⟩
instance oW:cE Try.prog 38:=⟨fun args w=> by kernel_rfl⟩
instance od:cE Try.prog 39:=⟨fun args w=> by kernel_rfl⟩
instance nH:cE Try.prog 41:=⟨fun args w=> by kernel_rfl⟩
instance nW:cE Try.prog 42:=⟨fun args w=> by kernel_rfl⟩
instance nZ:cE Try.prog 43:=⟨fun args w=> by kernel_rfl⟩
instance oN:cE Try.prog 45:=⟨fun args w=> by kernel_rfl⟩
instance oJ:cE Try.prog 47:=⟨fun args w=> by kernel_rfl⟩
instance oh:cE Try.prog 48:=⟨fun args w=> by kernel_rfl⟩
instance oZ:cE Try.prog 50:=⟨fun args w=> by kernel_rfl⟩
instance nv:cE Try.prog 51:=⟨fun args w=> by kernel_rfl⟩
instance nz:cE Try.prog 53:=⟨fun args w=> by kernel_rfl⟩
instance nI:cE Try.prog 54:=⟨fun args w=> by kernel_rfl⟩
instance nL:cE Try.prog 60:=⟨fun args w=> by kernel_rfl⟩
instance oU:cE Try.prog 61:=⟨fun args w=> by kernel_rfl⟩
instance oa:cE Try.prog 63:=⟨fun args w=> by kernel_rfl⟩
instance oL:cE Try.prog 64:=⟨fun args w=> by kernel_rfl⟩
instance nR:cE Try.prog 66:=⟨fun args w=> by kernel_rfl⟩
instance nD:cE Try.prog 67:=⟨fun args w=> by kernel_rfl⟩
instance oS:cE Try.prog 68:=⟨fun args w=> by kernel_rfl⟩
instance nU:cE Try.prog 69:=⟨fun args w=> by kernel_rfl⟩
instance nE:cE Try.prog 70:=⟨fun args w=> by kernel_rfl⟩
instance nx:cE Try.prog 71:=⟨fun args w=> by kernel_rfl⟩
instance oe:cE Try.prog 72:=⟨fun args w=> by kernel_rfl⟩
instance nQ:cE Try.prog 73:=⟨fun args w=> by kernel_rfl⟩
instance pd:cE Try.prog 83:=⟨fun args w=> by kernel_rfl⟩
instance ny:cE Try.prog 84:=⟨fun args w=> by kernel_rfl⟩
end Go.Proofs.Ytmjnackchaahbaa
