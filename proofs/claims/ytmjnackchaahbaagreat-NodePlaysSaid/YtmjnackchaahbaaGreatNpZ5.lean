/- part 5 -/
import Derived.DataReads
import Derived.ChangeSlices
import Derived.WalkKit
import Derived.ChangeOld
import Derived.SizedLaws
import Derived.ChangeKeysEq
import Derived.RangeFuncNested
import Derived.Maps.RangeRun
import Derived.Test.YtmjnackchaahbaaGreatNpZ4
set_option linter.unusedSimpArgs false
set_option linter.unusedVariables false
namespace Go.Proofs.YtmjnackchaahbaaGreat
open Go.RowKit

def pz {α:Type} (pl:Nat→Option (Nat×Nat)):List α→List (Nat×List α)→Option (List α)
  | cs,[]=> some cs
  | cs,(i,vs)::rest=> match pl i with
    | some (off,size)=> bif Nat.beq vs.length size && Nat.ble (off+size) cs.length then pz pl (fI cs off vs) rest else none
    | none=> none

class Bld (P:Program) (t:TypeId) (z:outParam (List Value)) (pl:outParam (Nat→Option (Nat×Nat))):Prop where
  out: ∀ (parts:Array (Nat×Value)) (cs:Array Value) (w:World),Instr.fill pl z.toArray parts.toList=some cs→(Instr.build t parts).run P w= .ok (.agg cs) w
  one: ∀ u∈z,u.oneCell'=true

theorem Bld.struct {P:Program} {t:TypeId} {z:List Value} {fs:Array Field} {bytes:Nat} (zv:Value) (pl:List (Nat×Nat)) (h1:P.underlying t=some (.struct fs)) (h2:(P.info? t).map (fun i=> (i.zero,i.size,i.bytes))=some (some zv,z.length,bytes)) (h3:zv.cells=z.toArray)
    (h4: ∀ u∈z,u.oneCell'=true) (hp: ∀ w,(fs.mapM fun f=> do pure (f.offset,← sizeOf f.type):Sem (Array (Nat×Nat))).run P w= .ok pl.toArray w):Bld P t z (fun i=> pl[i]?):=by
  obtain ⟨i,hi,a,b,c⟩:=info_parts h2
  refine ⟨fun parts cs w hf=> ?_,h4⟩
  have hp':=hp w
  have hz:(zeroValue t).run P w= .ok zv w:=by simp [zeroValue,typeInfo,hi,a]
  simp only [Instr.build,Sem.run_bind,hz,run_underlying h1,Result.andThen_ok,hp',h3,Sem.run_pure,List.getElem?_toArray,hf]
theorem Bld.array {P:Program} {t e:TypeId} {z:List Value} {n size bytes:Nat} (zv:Value) (h1:P.underlying t=some (.array n e)) (h2:(P.info? t).map (fun i=> (i.zero,i.size,i.bytes))=some (some zv,z.length,bytes)) (h3:zv.cells=z.toArray)
    (h4: ∀ u∈z,u.oneCell'=true) (hs:(P.info? e).map (·.size)=some size):Bld P t z (fun i=> some (i*size,size)):=by
  obtain ⟨i,hi,a,b,c⟩:=info_parts h2
  obtain ⟨j,hj,hjs⟩:=Option.map_eq_some_iff.1 hs
  refine ⟨fun parts cs w hf=> ?_,h4⟩
  simp [Instr.build,zeroValue,typeInfo,sizeOf,hi,a,h3,run_underlying h1,hj,hjs,hf]

def qs (σ:St):List (Nat×Operand)→Option (List (Nat×List AV))
  | []=> some []
  | (i,x)::l=> match (σ.eval x).cells,qs σ l with
    | some c,some r=> some ((i,c)::r)
    | _,_=> none

theorem rW (pl:Nat→Option (Nat×Nat)) {R:AV→Value→Prop}: ∀ (ps:List (Nat×List AV)) (vs:List (Nat×Value)) (cs:List AV) (us:Array Value) (ys:List AV),pz pl cs ps=some ys→
    vs.length=ps.length→(∀ (j:Nat) (p:Nat×List AV) (v:Nat×Value),ps[j]? =some p→vs[j]? =some v→p.1=v.1∧v.2.cells.size=p.2.length∧(∀ x∈v.2.cells.toList,x.oneCell'=true)∧ ∀ (k:Nat) (b:AV),p.2[k]? =some b→R b (v.2.cells.getD k undef))→
    us.size=cs.length→(∀ u∈us.toList,u.oneCell'=true)→(∀ (k:Nat) (b:AV),cs[k]? =some b→R b (us.getD k undef))→
    ∃ us',Instr.fill pl us vs=some us'∧us'.size=ys.length∧(∀ u∈us'.toList,u.oneCell'=true)∧ ∀ (k:Nat) (b:AV),ys[k]? =some b→R b (us'.getD k undef)
  | [],vs,cs,us,ys,h,hl,_,h1,h2,h3=> by
    obtain rfl:vs=[]:=List.eq_nil_of_length_eq_zero hl
    simp only [pz] at h
    obtain rfl:=Option.some.inj h
    exact ⟨us,rfl,h1,h2,h3⟩
  | (i,c)::ps,vs,cs,us,ys,h,hl,hp,h1,h2,h3=> by
    cases vs with
    | nil=> simp at hl
    | cons v vs=>
      obtain ⟨i',v⟩:=v
      obtain ⟨e1,e2,e3,e4⟩:=hp 0 _ _ rfl rfl
      simp only at e1 e2 e3 e4
      subst e1
      simp only [pz] at h
      split at h
      · rename_i off size hpl
        cases hc:(Nat.beq c.length size && Nat.ble (off+size) cs.length) with
        | false=> rw [hc] at h;cases h
        | true=>
          rw [hc] at h
          simp only [Bool.and_eq_true,Nat.beq_eq,Nat.ble_eq] at hc
          obtain ⟨hc1,hc2⟩:=hc
          subst hc1
          have hf:=vc v.cells.toList off 0 us (by simp [e2];omega)
          simp only [Nat.add_zero] at hf
          have hz:(v.cells.zipIdx.foldl (fun (cs:Array Value) (p:Value×Nat)=> cs.setIfInBounds (off+p.2) p.1) us)=(put us.toList off v.cells.toList).toArray:=by
            rw [← hf,← Array.foldl_toList,Array.toList_zipIdx]
          have hz':(Array.foldl (fun cs (x:Value×Nat)=> match x with | (c,j)=> cs.setIfInBounds (off+j) c) us v.cells.zipIdx)=(put us.toList off v.cells.toList).toArray:=hz
          have hvl:v.cells.toList.length=c.length:=by simpa using e2
          have hcl:off+v.cells.toList.length≤us.toList.length:=by rw [hvl];simp;omega
          have hstep:=rW pl (R:=R) ps vs (fI cs off c) (fI us.toList off v.cells.toList).toArray ys h (by simpa using hl) (fun j p q hj hq=> hp (j+1) p q (by simpa using hj) (by simpa using hq))
            (by simp [fO _ _ _ hcl,fO _ _ _ hc2,h1]) (fun u hu=> by
              rcases qj (by simpa using hu) with hu | hu
              · exact h2 u hu
              · exact e3 u hu) (fun k b hb=> by
              rw [fP _ _ _ hc2] at hb
              have hk:(fI us.toList off v.cells.toList).toArray.getD k undef=((fI us.toList off v.cells.toList)[k]?).getD undef:=by simp [List.getD_eq_getElem?_getD]
              rw [hk,fP _ _ _ hcl,hvl]
              split at hb
              · rename_i hin
                rw [if_pos hin]
                have:=e4 _ b hb
                simpa using this
              rename_i hin
              rw [if_neg hin]
              have:=h3 k b hb
              simpa using this)
          obtain ⟨us',r1,r2,r3,r4⟩:=hstep
          refine ⟨us',?_,r2,r3,r4⟩
          simp only [Instr.fill,hpl]
          rw [if_neg (by simp [e2];omega)]
          rw [hz']
          exact r1
      cases h

section
variable {P:Program} {σ:St} {o:Oper} {z:List Value}
theorem pD {K:mm} {ι:aA→Option fe} {S:Nat→Prop} {a:Act} {w:World} (R:RelI K ι S σ a w): ∀ (l:List (Nat×Operand)) (r:List (Nat×List AV)),qs σ l=some r→
    l.length=r.length∧(∀ (j:Nat) (p:Nat×List AV) (v:Nat×Value),r[j]? =some p→(l.map fun q=> (q.1,a.eval q.2))[j]? =some v→p.1=v.1∧v.2.cells.size=p.2.length∧(∀ x∈v.2.cells.toList,x.oneCell'=true)∧ ∀ (k:Nat) (b:AV),p.2[k]? =some b→Rep ι S w b (v.2.cells.getD k undef))∧
      ∀ p∈r,∀ b∈p.2,∀ i,Has i b→σ.ob i≠ .free
  | [],r,h=> by simp [qs] at h;subst h;simp
  | (i,x)::l,r,h=> by
    simp only [qs] at h
    split at h
    · rename_i c r' hc hr
      obtain rfl:=Option.some.inj h
      obtain ⟨h1,h2,h3⟩:=pD R l r' hr
      obtain ⟨c1,c2,c3⟩:=(R.eval x).cells hc
      refine ⟨by simp [h1],fun j p v hp hv=> ?_,fun p hp b hb k hk=> ?_⟩
      · cases j with
        | zero=>
          simp at hp hv
          subst hp;subst hv
          exact ⟨rfl,c1,c2,c3⟩
        | succ j=> exact h2 j p v (by simpa using hp) (by simpa using hv)
      rcases List.mem_cons.1 hp with rfl | hp
      · exact R.evalHas x (pa hc hb hk)
      exact h3 p hp b hb k hk
    cases h

theorem sS {pl:Nat→Option (Nat×Nat)} {Q:AV→Prop}: ∀ (ps:List (Nat×List AV)) (cs ys:List AV),pz pl cs ps=some ys→(∀ b∈cs,Q b)→(∀ p∈ps,∀ b∈p.2,Q b)→ ∀ b∈ys,Q b
  | [],cs,ys,h,h1,_=> by
    simp only [pz] at h
    obtain rfl:=Option.some.inj h
    exact h1
  | (i,c)::ps,cs,ys,h,h1,h2=> by
    simp only [pz] at h
    split at h
    · cases hc:(Nat.beq c.length _ && Nat.ble _ cs.length) with
      | false=> rw [hc] at h;cases h
      | true=>
        rw [hc] at h
        exact sS ps _ ys h (fun b hb=> by
          rcases qj hb with hb | hb
          · exact h1 b hb
          exact h2 _ List.mem_cons_self b hb) fun p hp=> h2 p (List.mem_cons_of_mem _ hp)
    cases h

theorem gA {dd:Option Tmp} {ty t:TypeId} {pl:Nat→Option (Nat×Nat)} (parts:Array (Nat×Operand)) (B:Bld P t z pl) {r:List (Nat×List AV)} (hp:qs σ parts.toList=some r) {ys:List AV} (hf:pz pl (z.map AV.v) r=some ys):
    Stp P dd (.build t parts) ty σ (σ.put dd (.agg ys)):=by
  intro o hd ho ht
  subst hd
  refine bD fun K ι S a w R=> ?_
  obtain ⟨h1,h2,h3⟩:=pD R _ _ hp
  obtain ⟨us,u1,u2,u3,u4⟩:=rW pl (R:=Rep ι S w) r (parts.toList.map fun q=> (q.1,a.eval q.2)) (z.map AV.v) z.toArray ys hf (by simp at h1 ⊢;omega) h2 (by simp) (by simpa using B.one) (fun k b hb=> by
    simp only [List.getElem?_map] at hb
    obtain ⟨x,hx,rfl⟩:=Option.map_eq_some_iff.1 hb
    have:z.toArray.getD k undef=x:=by simp [hx]
    rw [this];exact .v)
  refine ⟨.agg us,?_, .agg u2 u3 u4,fun i hi=> ?_⟩
  · have:=B.out (parts.map fun q=> (q.1,a.eval q.2)) us w (by simpa using u1)
    have he:(parts.map fun x=> match x with | (i,x)=> (i,a.eval x))=parts.map fun q=> (q.1,a.eval q.2):=rfl
    simp only [execOp,ho,he,Sem.run_bind,this,Result.andThen_ok,Sem.run_pure]
  cases hi with
  | agg hm hi=>
    refine sS (Q:=fun b=> ∀ i,Has i b→σ.ob i≠ .free) r _ ys hf (fun b hb i hi=> ?_) h3 _ hm i hi
    simp only [List.mem_map] at hb
    obtain ⟨x,_,rfl⟩:=hb
    cases hi

theorem ft {dd:Option Tmp} {ty:TypeId} {av:AV} (x:Operand) {j:Nat} {xs:List AV} (hx:σ.eval x= .tup xs) (hv:xs[j]? =some av):Stp P dd (.extract x j) ty σ (σ.put dd av):=by
  intro o hd ho ht
  subst hd
  refine bD fun K ι S a w R=> ?_
  have hp:=R.eval x
  rw [hx] at hp
  generalize hve:a.eval x=v at hp
  cases hp with
  | tup h1 h3=>
    rename_i us
    have hlt:j < us.size:=by rw [h1];exact (List.getElem?_eq_some_iff.1 hv).1
    refine ⟨us[j],by simp [execOp,ho,Instr.extract,hve,hlt],by have:=h3 j av hv;simpa [hlt] using this,fun i h=> R.evalHas x (by rw [hx];exact .tup (List.mem_of_getElem? hv) h)⟩
end

theorem Spec.mono {P:Program} {f:FuncId} {σ σ' σ'':St} (h:Spec P f σ σ') (hl:Le σ'' σ'):Spec P f σ σ'':=by
  intro K ι S vs w hK hr R
  refine (h K ι S vs w hK hr R).mono ?_
  rintro e w' ⟨v,ι',S',rfl,R'⟩
  obtain ⟨ι2,S2,R2⟩:=hl K ι' S' _ w' R'
  exact ⟨v,ι2,S2,rfl,R2⟩
theorem Spec.pre {P:Program} {f:FuncId} {σ σ' σ'':St} (h:Spec P f σ σ') (hl:Le σ σ''):Spec P f σ'' σ':=by
  intro K ι S vs w hK hr R
  obtain ⟨ι2,S2,R2⟩:=hl K ι S _ w R
  exact h K ι2 S2 vs w hK hr R2

theorem dH {ρ:aA→aA} {σ:St} {F:aA→Bool} {id:aA} {e:TypeId} {sz n:Nat} {xs ys:List PV} (hid:σ.ob id= .obj (.row e sz xs)) (hF:F id=true) (hl:n*sz=xs.length) (hy:xs=ys):Lv ρ σ F (.sl n ys) (.ref id 0 n):=
  .frz hid hF (by rw [List.drop_zero,hl,List.take_length,hy]) ab

theorem Le.outO {r r':AV} {obs obs':List (aA×Cells)} {I Pn:List aA} (rn:List (aA×aA)) (Fz:List aA) (hr:Lv (aS rn) (aN r obs' I Pn) (fun i=> bY i Fz) r' r) (hw1:r'.within (obs.map (·.1))=true) (hw2:aY (obs.map (·.1)) obs=true)
    (hd:bg ((obs.map (·.1)).map (aS rn))=true) (hi:fu (aN r obs' I Pn) Fz) (ho:mI (aS rn) (aN r obs' I Pn) (fun i=> bY i Fz) obs):Le (aC r' obs) (aN r obs' I Pn):=by
  refine Le.gen (n:=1) rn Fz rfl (fun t=> ?_) (fun t id h=> ?_) hw2 hd hi ho
  · show Lv _ _ _ _ (bif Nat.beq t 0 then r else .dead)
    cases hb:Nat.beq t 0 with
    | true=> exact hr
    | false=> exact .dead
  cases hb:Nat.beq t 0 with
  | true=> rw [hb] at h;exact fw r' hw1 h
  | false=> rw [hb] at h;cases h
section
variable {P:Program} {σ:St} {o:Oper} {z:List Value} {T e:TypeId} {size bytes:Nat}

theorem gX {dd:Option Tmp} {ty:TypeId} (len:Nat) (parts:Array (Nat×Operand)) (E:Elem P T e size bytes z) {r:List (List AV)} (hp:pj σ 0 parts.toList=some r) (hlen:r.length=len) (hsz: ∀ c∈r,c.length=size)
    (hb:len*size≤100000) {xs:List PV} (hxs:lF r.flatten=some xs):Stp P dd (.buildSlice T len parts) ty σ (σ.put dd (.sl len xs)):=by
  intro o hd ho ht
  subst hd
  intro K ι S a w R
  obtain ⟨vs,h1,h2,h3,h4,h5,h6⟩:=lq R _ _ _ hp
  obtain ⟨d1,d2⟩:=gU hxs
  have hvsz: ∀ v∈vs,v.cells.size=size:=by
    intro v hv
    obtain ⟨j,hj,rfl⟩:=List.getElem_of_mem hv
    have hjr:j < r.length:=by omega
    rw [h3 j _ _ (List.getElem?_eq_getElem hj) (List.getElem?_eq_getElem hjr)]
    exact hsz _ (List.getElem_mem hjr)
  obtain ⟨v',w',hr,H',hbl,hfr,_⟩:=DB (P:=P) (ρ:=a.eval) (SH.start w) len parts ho vs h1 ab hvsz _ rfl h5 hb
  have hrow:=H'.get (i:=0) (x:= .row v' e size len (vs.flatMap fun v=> v.cells.toList)) rfl
  have hxl:xs.length=len*size:=by
    have: ∀ (r:List (List AV)),(∀ c∈r,c.length=size)→r.flatten.length=r.length*size:=by
      intro r
      induction r with
      | nil=> simp
      | cons c r ih=>
        intro h
        rw [List.flatten_cons,List.length_append,ih fun c hc=> h c (List.mem_cons_of_mem _ hc),h c List.mem_cons_self,List.length_cons,Nat.add_mul,Nat.one_mul,Nat.add_comm]
    rw [← d1,this r hsz,hlen]
  have fin: ∀ (S':Nat→Prop),(∀ g,S g→S' g)→(∀ g,S' g→S g∨w.heap.size≤g)→(∀ g,S' g→g < w'.heap.size)→Rd S' w' (.sl len xs) v'→fh P o a.eval w fun v w''=> ∃ ι' S',RelI K ι' S' (σ.put o.dst (.sl len xs)) (a.put o.dst v) w'':=by
    intro S' g1 g2 g3 hrd
    have R3:=R.gen (ι':=ι) (S':=S') (w':=w') (ob':=σ.ob) (inc':=σ.inc) (fun _=> False) (.of_below hbl) (fun _ _=> rfl) (fun _ _=> rfl) (fun _ _=> rfl) (fun _ h=> h) g1
      (fun g h=> by rcases g2 g h with h | h; · exact .inl h
                    exact .inr (.inl h)) g3
      (fun _ _ h=> h.elim) (fun _ _ h=> h.elim) (fun _ _ h=> h.elim) (fun _ _ _ _ _ h=> h.elim) (fun _ _ _ h=> h.elim) (fun _ _ _ h=> h.elim)
    exact bH hr ⟨ι,S',R3.put o.dst (.sl hrd) fun i hi=> oH hi⟩
  rcases gW (w:=w') (e:=e) (sz:=size) (n:=len) (v:=v') (us:=vs.flatMap fun v=> v.cells.toList) ⟨hrow.1.1,by
    rcases hrow.1.2 with h | ⟨g,cap,cur,a1,a2,a3⟩
    · exact .inl h
    exact .inr ⟨g,cap,cur,a1,Nat.zero_le _,a3⟩⟩ with ⟨hv,rfl,hu0⟩ | ⟨g,c,cur,hv,hg,hnc,hcm,hcs,hcu⟩
  · subst hv
    have:xs=[]:=List.eq_nil_of_length_eq_zero (by simpa using hxl)
    subst this
    exact fin S (fun _ h=> h) (fun _ h=> .inl h) (fun g h=> Nat.lt_of_lt_of_le (R.Slt g h) hbl.size) (.sl0 (Nat.le_refl _) (by unfold maxLen;omega) fun _=> ⟨rfl,rfl⟩)
  subst hv
  have hgw:w.heap.size≤g:=hfr g rfl
  refine fin (fun k=> S k∨k=g) (fun _ h=> .inl h) (fun k h=> by
    rcases h with h | h
    · exact .inl h
    exact .inr (by rw [h];exact hgw)) (fun k h=> ?_) ?_
  · rcases h with h | h
    · exact Nat.lt_of_lt_of_le (R.Slt k h) hbl.size
    rw [h];exact (Array.getElem?_eq_some_iff.1 hg).1
  have key: ∀ (j:Nat) (p:PV),xs[j]? =some p→ ∃ u,cur[j]? =some u∧Rd (fun k=> S k∨k=g) w' p u:=by
    intro j p hj
    obtain ⟨b,hb',hbd⟩:=d2 j p hj
    obtain ⟨u,hu,hru⟩:=h6 j b hb'
    exact ⟨u,hcu j u hu,(hru.down hbd (h5 u (List.mem_of_getElem? hu))).next (fun k hk=> hbl.block k (R.Slt k hk)) fun _ h=> .inl h⟩
  have:=Rd.sl (S:=fun k=> S k∨k=g) (w:=w') (n:=len) (c:=c) (b:=g) (o:=0) (xs:=xs) (fun j=> cur.getD j undef) hnc hcm (.mk (.inr rfl) hg) (fun j p hj=> ?_) (fun j p hj=> ?_)
  · exact this
  · obtain ⟨u,hu,_⟩:=key j p hj
    simp only [Nat.zero_add,Array.getD_eq_getD_getElem?,hu,Option.getD_some]
    exact ei hg hu
  obtain ⟨u,hu,hru⟩:=key j p hj
  simp only [Array.getD_eq_getD_getElem?,hu,Option.getD_some]
  exact hru
end
section
variable {P:Program} {σ:St} {z:List Value} {T e:TypeId} {size bytes:Nat}

theorem gN (w:World):Below w.heap.size w w:=Below.refl _ _

theorem qn {dd:Option Tmp} {ty:TypeId} (id:aA) (x:Operand) (e:TypeId) (sz:Nat) (hx:σ.eval x= .v (.slice none 0 0)) (hid:σ.ob id= .free):Stp P dd (.assign x) ty σ ((σ.setOb id (.obj (.row e sz []))).put dd (.ref id 0 0)):=by
  intro o hd ho ht
  subst hd
  intro K ι S a w R
  have hv:=R.eval x
  rw [hx] at hv
  have hv:=hv.toV
  exact bH (by simp [execOp,ho,hv]) (R.newNil hid (gN w) e sz _)
end

mutual
theorem Lv.same {σ:St} {F:aA→Bool}:(a:AV)→Lv (fun i=> i) σ F a a
  | .dead=> .dead
  | .v _=> .v
  | .sl _ _=> .sl
  | .fp _ _=> .fp
  | .z=> .z
  | .mp _=> .mp (ρ:=fun i=> i)
  | .ref _ _ _=> .ref (ρ:=fun i=> i)
  | .ptr _ _=> .ptr (ρ:=fun i=> i)
  | .agg xs=> .agg rfl fun j a b ha hb=> by
      rw [ha] at hb;cases hb;exact Lv.sames xs j a ha
  | .fn f xs us=> .fn rfl (fun j a b ha hb=> by
      rw [ha] at hb;cases hb;exact Lv.sames xs j a ha) rfl fun j a b ha hb=> by
      rw [ha] at hb;cases hb;exact Lv.sames us j a ha
  | .ifc t a=> .ifc (Lv.same a)
  | .tup xs=> .tup rfl fun j a b ha hb=> by
      rw [ha] at hb;cases hb;exact Lv.sames xs j a ha
theorem Lv.sames {σ:St} {F:aA→Bool}:(xs:List AV)→(j:Nat)→(a:AV)→xs[j]? =some a→Lv (fun i=> i) σ F a a
  | [],_,_,h=> by simp at h
  | x::xs,0,a,h=> by simp at h;subst h;exact Lv.same x
  | x::xs,j+1,a,h=> Lv.sames xs j a (by simpa using h)
end
theorem LvO.same {σ:St} {F:aA→Bool}:(o:Cells)→LvO (fun i=> i) σ F o o
  | .row _ _ xs=> .row (List.append_nil xs).symm
  | .box _ xs=> .box rfl fun j a b ha hb=> by
      rw [ha] at hb;cases hb;exact Lv.sames xs j a ha
  | .rowA _ _ xs=> .rowA rfl fun j a b ha hb=> by
      rw [ha] at hb;cases hb;exact Lv.sames xs j a ha
  | .mp _ _=> .mp
  | .it _ _ _ _=> .it (ρ:=fun i=> i)

theorem Le.frzS {σ:St} (t:Nat) {id:aA} {off n:Nat} {e:TypeId} {sz:Nat} {xs ys:List PV} (hr:σ.fr t= .ref id off n) (hid:σ.ob id= .obj (.row e sz xs)) (hi:σ.inc id=false) (hy:(xs.drop off).take (n*sz)=ys) (hl:off+n*sz≤xs.length):
    Le ((σ.setOb id .gone).put (some t) (.sl n ys)) σ:=by
  intro K ι S a w R
  have hob: ∀ i o,((σ.setOb id .gone).put (some t) (.sl n ys)).ob i= .obj o→gu i id=false∧σ.ob i= .obj o:=by
    intro i o h
    rw [St.put_ob] at h
    simp only [St.setOb] at h
    cases hb:gu i id with
    | true=> rw [hb] at h;cases h
    | false=> rw [hb] at h;exact ⟨rfl,h⟩
  have hnf: ∀ i,σ.ob i≠ .free→((σ.setOb id .gone).put (some t) (.sl n ys)).ob i≠ .free:=by
    intro i h h'
    rw [St.put_ob] at h'
    simp only [St.setOb] at h'
    cases hb:gu i id with
    | true=> rw [hb] at h';cases h'
    | false=> rw [hb] at h';exact h h'
  refine Le.of (fun i=> i) (fun i=> gu i id) (by rw [St.put_n];rfl) (fun u hu=> ?_) (fun i o h=> ?_) (fun _ _ _ _ _ _ h=> h) (fun i h=> ?_) (fun i o h h'=> ?_) (fun u i h=> ?_) (fun i o j h h'=> ?_) (fun i h o hp ho=> ?_) (fun i h=> ?_) K ι S a w R
  · show Lv _ _ _ (bif Nat.beq u t then _ else σ.fr u) _
    cases hb:Nat.beq u t with
    | true=> rw [Nat.eq_of_beq_eq_true hb,hr];exact .frz hid (dq id) hy hl
    | false=> exact Lv.same _
  · obtain ⟨h1,h2⟩:=hob i o h
    exact ⟨h1,o,h2,LvO.same o⟩
  · rw [oeq_iff.1 h];exact hi
  · exact h'
  · replace h:Has i (bif Nat.beq u t then _ else σ.fr u):=h
    cases hb:Nat.beq u t with
    | true=> rw [hb] at h;cases h
    | false=> rw [hb] at h;exact hnf i (R.cl u i h)
  · exact hnf j (R.clo i o j (hob i o h).2 h')
  · exact hp
  refine R.pf i ?_
  rw [St.put_ob] at h
  simp only [St.setOb] at h
  cases hb:gu i id with
  | true=> rw [hb] at h;cases h
  | false=> rw [hb] at h;exact h
theorem Le.frzB {σ:St} (ib:aA) (j:Nat) {T:TypeId} {cs:List AV} {id:aA} {off n:Nat} {e:TypeId} {sz:Nat} {xs ys:List PV} (hb:σ.ob ib= .obj (.box T cs)) (hr:cs[j]? =some (.ref id off n)) (hid:σ.ob id= .obj (.row e sz xs)) (hi:σ.inc id=false) (hy:(xs.drop off).take (n*sz)=ys) (hl:off+n*sz≤xs.length):
    Le ((σ.setOb id .gone).setOb ib (.obj (.box T (cs.set j (.sl n ys))))) σ:=by
  intro K ι S a w R
  have hne:gu ib id=false:=by
    cases h:gu ib id with
    | true=> rw [oeq_iff.1 h,hid] at hb;cases hb
    | false=> rfl
  have hob: ∀ i o,((σ.setOb id .gone).setOb ib (.obj (.box T (cs.set j (.sl n ys))))).ob i= .obj o→gu i id=false∧((gu i ib=false∧σ.ob i= .obj o)∨(i=ib∧o= .box T (cs.set j (.sl n ys)))):=by
    intro i o h
    simp only [St.setOb] at h
    cases h1:gu i ib with
    | true=>
      rw [h1] at h
      have:=oeq_iff.1 h1
      subst this
      cases h
      exact ⟨hne, .inr ⟨rfl,rfl⟩⟩
    | false=>
      rw [h1] at h
      cases h2:gu i id with
      | true=> rw [h2] at h;cases h
      | false=> rw [h2] at h;exact ⟨rfl, .inl ⟨rfl,h⟩⟩
  have hnf: ∀ i,σ.ob i≠ .free→((σ.setOb id .gone).setOb ib (.obj (.box T (cs.set j (.sl n ys))))).ob i≠ .free:=by
    intro i h h'
    simp only [St.setOb] at h'
    cases h1:gu i ib with
    | true=> rw [h1] at h';cases h'
    | false=>
      rw [h1] at h'
      cases h2:gu i id with
      | true=> rw [h2] at h';cases h'
      | false=> rw [h2] at h';exact h h'
  refine Le.of (σ1:=(σ.setOb id .gone).setOb ib (.obj (.box T (cs.set j (.sl n ys))))) (σ2:=σ) (fun i=> i) (fun i=> gu i id) rfl (fun u hu=> Lv.same _) (fun i o h=> ?_) (fun _ _ _ _ _ _ h=> h) (fun i h=> ?_) (fun i o h h'=> h') (fun u i h=> hnf i (R.cl u i h)) (fun i o k h h'=> ?_) (fun i h o hp ho=> hp) (fun i h=> ?_) K ι S a w R
  · obtain ⟨h1,⟨_,h2⟩ | ⟨rfl,rfl⟩⟩:=hob i o h
    · exact ⟨h1,o,h2,LvO.same o⟩
    refine ⟨h1,_,hb, .box (by simp) fun k a b ha hb'=> ?_⟩
    by_cases hk:j=k
    · subst hk
      rw [hr] at hb';cases hb'
      have hjl:j < cs.length:=(List.getElem?_eq_some_iff.1 hr).1
      rw [List.getElem?_set_self hjl] at ha;cases ha
      exact .frz hid (dq id) hy hl
    rw [List.getElem?_set_ne hk,hb'] at ha;cases ha;exact Lv.same _
  · rw [oeq_iff.1 h];exact hi
  · obtain ⟨h1,⟨_,h2⟩ | ⟨rfl,rfl⟩⟩:=hob i o h
    · exact hnf k (R.clo i o k h2 h')
    obtain ⟨x,hx,hk⟩:=h'
    rcases List.mem_or_eq_of_mem_set hx with hx | hx
    · exact hnf k (R.clo _ _ k hb ⟨x,hx,hk⟩)
    subst hx;cases hk
  refine R.pf i ?_
  simp only [St.setOb] at h
  cases h1:gu i ib with
  | true=> rw [h1] at h;cases h
  | false=>
    rw [h1] at h
    cases h2:gu i id with
    | true=> rw [h2] at h;cases h
    | false=> rw [h2] at h;exact h
theorem Rep.toAgg {ι:aA→Option fe} {S:Nat→Prop} {w:World} {us:List Value} {u:Value} (h:Rep ι S w (.agg (us.map AV.v)) u):u= .agg us.toArray:=by
  cases h with
  | @agg xs vs h1 h2 h3=>
    congr 1
    refine Array.ext (by simpa using h1) fun j hj hj'=> ?_
    have hjl:j < us.length:=by simpa using hj'
    have:=h3 j (.v us[j]) (by simp [hjl])
    have:=this.toV
    rw [Array.getD_eq_getD_getElem?,Array.getElem?_eq_getElem hj] at this
    simpa using this
theorem ub {P:Program} {σ:St} {dd:Option Tmp} {ty:TypeId} {op:BinOp} {t t':TypeId} {x y:Operand} (us vs:List Value) (hx:σ.eval x= .agg (us.map AV.v)) (hy:σ.eval y= .agg (vs.map AV.v)) {r:Value}
    (h: ∀ (o:Oper) (ρ:Operand→Value) w,o.op= .binOp op t x y t'→ρ x= .agg us.toArray→ρ y= .agg vs.toArray→(execOp ρ o).run P w= .ok (.value r) w):Stp P dd (.binOp op t x y t') ty σ (σ.put dd (.v r)):=by
  intro o hd ho ht
  subst hd
  exact bD fun _ _ _ a w R=> ⟨r,h o a.eval w ho (Rep.toAgg (hx ▸ R.eval x)) (Rep.toAgg (hy ▸ R.eval y)), .v,fun _=> eO⟩

theorem Le.nilB {σ:St} (ib:aA) (j:Nat) (id:aA) (e:TypeId) (sz:Nat) {T:TypeId} {cs:List AV} (hb:σ.ob ib= .obj (.box T cs)) (hr:cs[j]? =some (.v (.slice none 0 0))) (hid:σ.ob id= .free):
    Le ((σ.setOb id (.obj (.row e sz []))).setOb ib (.obj (.box T (cs.set j (.ref id 0 0))))) σ:=by
  intro K ι S a w R
  have R1:=R.new (w':=w) (o:= .row e sz []) (B:=⟨none,0,sz⟩) hid (gN w) (fun k hk=> by cases hk) ⟨_,ci _ _ _,rfl, .inl ⟨rfl,rfl,rfl⟩⟩ (fun i hi=> hi.elim)
  have hne:ib≠id:=fun h=> by rw [h,hid] at hb;cases hb
  have hb1:(σ.setOb id (.obj (.row e sz []))).ob ib= .obj (.box T cs):=by rw [St.setOb_ne _ _ hne];exact hb
  obtain ⟨B,g,h1,h2,h3,h4⟩:=R1.ob ib _ hb1
  refine ⟨_,S,R1.upd hb1 h1 (.of_below (gN w)) ⟨B,g,h1,h2,by simpa using h3,?_⟩ ?_⟩
  · rw [List.length_set]
    refine h4.next (fun _ _=> rfl) fun k u hu x hx=> ?_
    by_cases hk:j=k
    · subst hk
      have:=(hu _ hr).toV
      subst this
      rw [List.getElem?_set_self (List.getElem?_eq_some_iff.1 hr).1] at hx
      cases hx
      refine .ref (fun B' hB=> ?_) rfl
      rw [ci] at hB
      obtain rfl:=Option.some.inj hB
      exact ⟨0,Nat.le_refl _,by unfold maxLen;omega,rfl,rfl,rfl⟩
    rw [List.getElem?_set_ne hk] at hx
    exact hu x hx
  rintro i ⟨x,hx,hi⟩
  rcases List.mem_or_eq_of_mem_set hx with hx | hx
  · exact R1.clo ib _ i hb1 ⟨x,hx,hi⟩
  subst hx;cases hi;rw [St.setOb_same];intro h;cases h
theorem Le.nilS {σ:St} (t:Nat) (id:aA) (e:TypeId) (sz:Nat) (ht:σ.fr t= .v (.slice none 0 0)) (hid:σ.ob id= .free):Le ((σ.setOb id (.obj (.row e sz []))).put (some t) (.ref id 0 0)) σ:=by
  intro K ι S a w R
  have R1:=R.new (w':=w) (o:= .row e sz []) (B:=⟨none,0,sz⟩) hid (gN w) (fun k hk=> by cases hk) ⟨_,ci _ _ _,rfl, .inl ⟨rfl,rfl,rfl⟩⟩ (fun i hi=> hi.elim)
  refine ⟨_,S,⟨R1.keeps,R1.S0,R1.Slt,R1.nt,R1.df,fun u hu=> ?_,fun u i hi=> ?_,R1.clo,R1.ob,R1.dom,R1.inj,R1.sep,R1.pin,R1.pf⟩⟩
  · show Rep _ _ _ (bif Nat.beq u t then _ else σ.fr u) _
    cases hb:Nat.beq u t with
    | true=>
      have:=Nat.eq_of_beq_eq_true hb
      subst this
      have h0:=R1.fr u hu
      rw [show (σ.setOb id (.obj (.row e sz []))).fr u= .v (.slice none 0 0) from ht] at h0
      rw [h0.toV]
      refine .ref (fun B' hB=> ?_) rfl
      rw [ci] at hB
      obtain rfl:=Option.some.inj hB
      exact ⟨0,Nat.le_refl _,by unfold maxLen;omega,rfl,rfl,rfl⟩
    | false=> exact R1.fr u hu
  replace hi:Has i (bif Nat.beq u t then _ else σ.fr u):=hi
  cases hb:Nat.beq u t with
  | true=> rw [hb] at hi;cases hi;show (σ.setOb id _).ob id≠_;rw [St.setOb_same];intro h;cases h
  | false=> rw [hb] at hi;exact R1.cl u i hi
theorem Le.nil0 {σ:St} (ib:aA) (j:Nat) {T:TypeId} {cs:List AV} (hb:σ.ob ib= .obj (.box T cs)) (hr:cs[j]? =some (.v (.slice none 0 0))):Le (σ.setOb ib (.obj (.box T (cs.set j (.sl 0 []))))) σ:=by
  intro K ι S a w R
  obtain ⟨B,g,h1,h2,h3,h4⟩:=R.ob ib _ hb
  refine ⟨ι,S,R.upd hb h1 (.of_below (gN w)) ⟨B,g,h1,h2,by simpa using h3,?_⟩ ?_⟩
  · rw [List.length_set]
    refine h4.next (fun _ _=> rfl) fun k u hu x hx=> ?_
    by_cases hk:j=k
    · subst hk
      have:=(hu _ hr).toV
      subst this
      rw [List.getElem?_set_self (List.getElem?_eq_some_iff.1 hr).1] at hx
      cases hx
      exact .sl (.sl0 (Nat.le_refl _) (by unfold maxLen;omega) fun _=> ⟨rfl,rfl⟩)
    rw [List.getElem?_set_ne hk] at hx
    exact hu x hx
  rintro i ⟨x,hx,hi⟩
  rcases List.mem_or_eq_of_mem_set hx with hx | hx
  · exact R.clo ib _ i hb ⟨x,hx,hi⟩
  subst hx;cases hi
section
variable {P:Program} {σ:St} {dd:Option Tmp} {ty:TypeId} {t t':TypeId} {k k':IntKind} {a b:Int}

theorem ny {op:BinOp} {x y:Operand} {u v:Value} (hx:σ.eval x= .v u) (hy:σ.eval y= .v v) {r:Value} (h: ∀ (o:Oper) (ρ:Operand→Value) w,o.op= .binOp op t x y t'→ρ x=u→ρ y=v→(execOp ρ o).run P w= .ok (.value r) w):Stp P dd (.binOp op t x y t') ty σ (σ.put dd (.v r)):=by
  intro o hd ho ht
  subst hd
  exact fT ho hx hy fun ρ w h1 h2=> h o ρ w ho h1 h2
theorem Bf {op:Op} {x:Operand} {u:Value} (hx:σ.eval x= .v u) {r:Value} (h: ∀ (o:Oper) (ρ:Operand→Value) w,o.op=op→ρ x=u→(execOp ρ o).run P w= .ok (.value r) w):Stp P dd op ty σ (σ.put dd (.v r)):=by
  intro o hd ho ht
  subst hd
  exact bD fun _ _ _ a w R=> ⟨r,h o a.eval w ho (Rep.evV R hx), .v,fun _=> eO⟩

theorem uf (x:Operand) (hs:P.underlying t=some (.int k)) (ht:P.underlying t'=some (.int k')) (hx:σ.eval x= .v (.int k a)) {r:Int} (hr:k'.wrap a=r):Stp P dd (.convert t t' x) ty σ (σ.put dd (.v (.int k' r))):=
  Bf hx fun o ρ w ho hx=> by subst hr;simp [execOp,ho,hx,go_sem,hs,ht,run_underlying hs,run_underlying ht]
theorem Jy (x y:Operand) (hx:σ.eval x= .v (.int k a)) (hy:σ.eval y= .v (.int k' b)) (hb:0≤b) {r:Int} (hr:a.fdiv (2 ^ min b.toNat k.bits)=r):Stp P dd (.binOp .shr t x y t') ty σ (σ.put dd (.v (.int k r))):=
  ny hx hy fun o ρ w ho hx hy=> by subst hr;simp [execOp,ho,hx,hy,eqGuard,go_sem,Op.shift,Int.not_lt.2 hb]
theorem IA {p q:Bool} (x y:Operand) (hx:σ.eval x= .v (.bool p)) (hy:σ.eval y= .v (.bool q)) (ht:P.underlying t=some .bool) {r:Bool} (hr:(p==q)=r):Stp P dd (.binOp .eql t x y t') ty σ (σ.put dd (.v (.bool r))):=
  ny hx hy fun o ρ w ho hx hy=> by subst hr;simp [execOp,ho,hx,hy,eqGuard,go_sem,run_equal_bool,ht]
theorem Dq {p q:Bool} (x y:Operand) (hx:σ.eval x= .v (.bool p)) (hy:σ.eval y= .v (.bool q)) (ht:P.underlying t=some .bool) {r:Bool} (hr:(p !=q)=r):Stp P dd (.binOp .neq t x y t') ty σ (σ.put dd (.v (.bool r))):=
  ny hx hy fun o ρ w ho hx hy=> by subst hr;simp [execOp,ho,hx,hy,eqGuard,go_sem,run_equal_bool,ht];cases p <;> cases q <;> rfl
theorem qt (x y:Operand) (hx:σ.eval x= .v (.int .i64 a)) (hy:σ.eval y= .v (.int .i64 b)) {r:Int} (hr:min a b=r):Stp P dd (.call { callee:= .builtin .min,args:= #[x,y],argTypes:= #[t,t'] }) ty σ (σ.put dd (.v (.int .i64 r))):=by
  intro o hd ho ht
  subst hd
  refine bD fun _ _ _ A w R=> ⟨_,?_, .v,fun _=> eO⟩
  have h1:=Rep.evV R hx
  have h2:=Rep.evV R hy
  generalize A.eval=ρ at h1 h2
  subst hr
  have hm:min a b=if b < a then b else a:=by omega
  simp [execOp,ho,resolve,invoke,builtin,h1,h2,go_sem,Builtin.min_,Builtin.min2,hm]
theorem NU {n:Int} (h:0≤n∧n < 18446744073709551616):IntKind.u64.wrap n=n:=by
  show IntKind.wrap .u64 n=n
  simp only [IntKind.wrap,IntKind.bits,IntKind.signed,Bool.false_and,Bool.false_eq_true,if_false]
  omega
end

theorem Sl.rd {w:World} {sz n:Nat} {v:Value} {xs:List Value} (h:Sl w sz v n xs):Rd (fun g=> g < w.heap.size) w (.sl n (xs.map PV.v)) v:=by
  obtain ⟨ao,c,rfl,h1,h2,h3,h4,h5,h6,h7⟩:=h
  cases xs with
  | nil=> exact .sl0 h1 h2 h5
  | cons x xs=>
    have hn:0 < n:=by
      rcases Nat.eq_zero_or_pos n with h | h
      · subst h;simp at h3
      exact h
    obtain ⟨b,off,rfl⟩:=h6 hn
    refine .sl (fun j=> (x::xs).getD j undef) h1 h2 ?_ (fun j p hj=> ?_) (fun j p hj=> ?_)
    · have:=h7 _ rfl 0 x rfl
      refine ⟨World.block_lt_of_cell? w _ this,?_⟩
      simp only [World.cell?,Addr.add_lit] at this
      split at this
      · rename_i c e f hc
        exact ⟨c,e,f,hc⟩
      cases this
    · have hj':j < (x::xs).length:=by
        have:=(List.getElem?_eq_some_iff.1 hj).1
        simpa using this
      have:=h7 _ rfl j _ (List.getElem?_eq_getElem hj')
      simp only [List.getD_eq_getElem?_getD,List.getElem?_eq_getElem hj',Option.getD_some]
      by_cases hj0:j=0
      · subst hj0;simpa [Addr.add] using this
      simpa [Addr.add,hj0] using this
    have hj':j < (x::xs).length:=by
      have:=(List.getElem?_eq_some_iff.1 hj).1
      simpa using this
    rw [List.getElem?_map,List.getElem?_eq_getElem hj'] at hj
    cases hj
    simp only [List.getD_eq_getElem?_getD,List.getElem?_eq_getElem hj',Option.getD_some]
    exact .v (h4 _ (List.getElem_mem hj'))

theorem Spec.law {P:Program} {f:FuncId} {args:List AV} {r:Value} {vs:List Value} {w:World} (sp:Spec P f (aI args []) (aC (.v r) [])) (hp:AV.pures args=true) (hl:vs.length=args.length)
    (h: ∀ (j:Nat) (a:AV) (v:Value),args[j]? =some a→vs[j]? =some v→Rep (fun _=> none) (fun g=> g < w.heap.size) w a v):Calls P f vs.toArray w fun e w'=> e= .returned r∧Below w.heap.size w w':=by
  have hnh: ∀ t id,¬ Has id (args.getD t .dead):=by
    intro t id hh
    by_cases ht:t < args.length
    · have:args.getD t .dead=args[t]:=by simp [ht]
      rw [this] at hh
      exact gT _ hp _ (List.getElem_mem ht) hh
    have:args.getD t .dead= .dead:=by simp [show args.length≤t by omega]
    rw [this] at hh;cases hh
  have R:RelI ⟨w,fun _=> False,fun g=> g < w.heap.size,fun _=> none,none⟩ (fun _=> none) (fun g=> g < w.heap.size) (aI args []) ⟨vs.toArray,[]⟩ w:=by
    have hfree: ∀ i o,(aI args []).ob i≠ .obj o:=fun i o h=> by cases h
    refine { keeps:= .refl _ _,S0:=fun g h=> .inl h,Slt:=fun g h=> h,nt:=by simpa [aI] using hl,df:= .nil,fr:=fun t ht=> ?_,cl:=fun t id hh=> (hnh t id hh).elim,clo:=fun i o j ho=> (hfree i o ho).elim,ob:=fun i o ho=> (hfree i o ho).elim,dom:=fun i B hB=> (by cases hB),inj:=fun i j B B' g hB=> (by cases hB),sep:=fun i B g hB=> (by cases hB),pin:=fun i hh o hp=> (by cases hp),pf:=fun _ _=> rfl }
    replace ht:t < args.length:=ht
    have ht':t < vs.length:=by omega
    have:=h t args[t] vs[t] (List.getElem?_eq_getElem ht) (List.getElem?_eq_getElem ht')
    show Rep _ _ _ (args.getD t .dead) _
    simpa [ht,ht'] using this
  refine (sp _ _ _ _ w rfl rfl R).mono ?_
  rintro e w' ⟨v,ι',S',rfl,R'⟩
  have h0:Rep ι' S' w' (.v r) v:=R'.fr 0 (by show 0 < 1;omega)
  rw [h0.toV]
  refine ⟨rfl,R'.keeps.os,R'.keeps.tape,R'.keeps.output,R'.keeps.size,fun g hg=> R'.keeps.block g hg fun h=> h⟩
def ArgsRep (w:World):List AV→List Value→Prop
  | [],[]=> True
  | a::xs,v::vs=> Rep (fun _=> none) (fun g=> g < w.heap.size) w a v∧ArgsRep w xs vs
  | _,_=> False
theorem ArgsRep.len {w:World}: ∀ {xs:List AV} {vs:List Value},ArgsRep w xs vs→vs.length=xs.length
  | [],[],_=> rfl
  | _::_,_::_,h=> by simp [h.2.len]
  | [],_::_,h=> h.elim
  | _::_,[],h=> h.elim
theorem ArgsRep.at {w:World}: ∀ {xs:List AV} {vs:List Value},ArgsRep w xs vs→ ∀ (j:Nat) (a:AV) (v:Value),xs[j]? =some a→vs[j]? =some v→Rep (fun _=> none) (fun g=> g < w.heap.size) w a v
  | [],_,_,_,_,_,ha,_=> by simp at ha
  | _::_,[],h,_,_,_,_,_=> h.elim
  | _::_,_::_,h,0,_,_,ha,hv=> by simp at ha hv;subst ha;subst hv;exact h.1
  | _::_,_::_,h,j+1,a,v,ha,hv=> h.2.at j a v (by simpa using ha) (by simpa using hv)
theorem Spec.calls {P:Program} {f:FuncId} {args:List AV} {r:Value} {w:World} (sp:Spec P f (aI args []) (aC (.v r) [])) (hp:AV.pures args=true) {vs:List Value} (h:ArgsRep w args vs):Calls P f vs.toArray w fun e w'=> e= .returned r∧Below w.heap.size w w':=
  sp.law hp h.len h.at
end Go.Proofs.YtmjnackchaahbaaGreat

namespace Go.Proofs.YtmjnackchaahbaaGreat
open Go.RowKit Go.ChangeShapes Go.WideShapes

theorem xP {n:Int} (h:(Lit.int .i64 n).wf=true): -9223372036854775808≤n∧n≤9223372036854775807:=by
  simp [Lit.wf,IntKind.min,IntKind.max,IntKind.signed,IntKind.bits] at h;omega
section
variable {H:Type} {enc:TypeId×Value→H} {P:Program} {w:World} {base:Nat} {spare:Nat→Bool} {held:Bool}

theorem wz {t e:TypeId} {α:Type} (f:α→Value) (d0:α) (g:Lit→Prop) {fuel:Nat} {cs:List Value} {x:DataW H×List MemPlace} (ht:P.underlying t=some (.slice e)) (hc:P.cellsOf e=1)
    (hone: ∀ (n:Nat) (c:List Value) (y:DataW H×List MemPlace),DataW.trod enc P w base spare held n e c=some y→ ∃ z:α,c=[f z]∧(f z).oneCell'=true) {ao:Option Addr} {len cap:Nat} (hcs:cs=[.slice ao len cap])
    (h:DataW.trod enc P w base spare held fuel t cs=some x): ∃ zs:List α,zs.length=len∧Sl w 1 (.slice ao len cap) len (zs.map f):=by
  rcases DataW.trod_slice ht h with ⟨h0,_⟩ | ⟨a,len',cap',elems,rest,n,_,h0,rfl,hb,hl,hm,hlen,hel,hsp,hns⟩
  · rw [hcs] at h0
    simp at h0
    obtain ⟨rfl,rfl,rfl⟩:=h0
    exact ⟨[],rfl,⟨none,0,rfl,Nat.le_refl _,by simp,rfl,by simp,fun _=> ⟨rfl,rfl⟩,fun h=> absurd h ab,by simp⟩⟩
  rw [hcs] at h0
  simp at h0
  obtain ⟨rfl,rfl,rfl⟩:=h0
  have key: ∀ i,i < len→ ∃ z:α,w.cell? (a.add i)=some (f z)∧(f z).oneCell'=true:=by
    intro i hi
    have h1:=hel i hi
    rw [hc,Nat.mul_one,List.getElem?_eq_getElem ab,Option.bind_eq_some_iff] at h1
    obtain ⟨c,h2,h3⟩:=h1
    obtain ⟨z,rfl,h4⟩:=hone _ _ _ h3
    exact ⟨z,cell_of_cells?_one h2,h4⟩
  have pick: ∀ m,m≤len→ ∃ zs:List α,zs.length=m∧ ∀ i z,zs[i]? =some z→w.cell? (a.add i)=some (f z)∧(f z).oneCell'=true:=by
    intro m
    induction m with
    | zero=> exact fun _=> ⟨[],rfl,by simp⟩
    | succ m ih=>
      intro hm
      obtain ⟨zs,h1,h2⟩:=ih ab
      obtain ⟨z,h3⟩:=key m ab
      refine ⟨zs++[z],by simp [h1],fun i y hy=> ?_⟩
      by_cases hi:i < zs.length
      · rw [List.getElem?_append_left hi] at hy;exact h2 i y hy
      have hil:=(List.getElem?_eq_some_iff.1 hy).1
      simp at hil
      have:i=m:=by omega
      subst this
      rw [List.getElem?_append_right ab,show i - zs.length=0 by omega] at hy
      simp at hy
      subst hy
      exact h3
  obtain ⟨zs,h1,h2⟩:=pick len (Nat.le_refl _)
  refine ⟨zs,h1,⟨some a,cap,rfl,hl,hm,by simp [h1],fun u hu=> ?_,by simp,fun hp=> ?_,fun ad had j u hu=> ?_⟩⟩
  · obtain ⟨z,hz,rfl⟩:=List.mem_map.1 hu
    obtain ⟨i,hi⟩:=List.getElem?_of_mem hz
    exact (h2 i z hi).2
  · obtain ⟨z,h3,_⟩:=key 0 hp
    have:=World.cell?_spot h3
    obtain ⟨b,off,s⟩:=a
    simp [Addr.add] at this
    subst this
    exact ⟨b,off,rfl⟩
  obtain rfl:=Option.some.inj had
  rw [List.getElem?_map] at hu
  obtain ⟨z,hz,rfl⟩:=Option.map_eq_some_iff.1 hu
  exact (h2 j z hz).1

theorem GC {t e:TypeId} {k:IntKind} (ht:P.underlying t=some (.slice e)) (he:P.underlying e=some (.int k)) (hc:P.cellsOf e=1) {ao:Option Addr} {len cap:Nat} {d:DataW H} {p:List MemPlace}
    (h:DataW.Trod enc P w base spare held t (.slice ao len cap) d p): ∃ zs:List { n:Int // (Lit.int k n).wf=true },zs.length=len∧Sl w 1 (.slice ao len cap) len (zs.map fun z=> Value.int k z.1):=by
  obtain ⟨fuel,hf⟩:=h
  refine wz (fun z:{ n:Int // (Lit.int k n).wf=true }=> Value.int k z.1) ⟨0,by cases k <;> rfl⟩ (fun _=> True) ht hc (fun n c y hy=> ?_) rfl hf
  obtain ⟨m,h,_,hw⟩:=DataW.trod_int he hy
  exact ⟨⟨m,hw⟩,h,rfl⟩
end
theorem AB {H:Type} {enc:TypeId×Value→H} {P:Program} {w:World} {base:Nat} {spare:Nat→Bool} {held:Bool} {ts:List TypeId} {ds:List (DataW H)} (hsz:(DataW.weightsEach P ts ds).all (· ≤reachBytes)=true) {j:Nat} {t e:TypeId} {d:DataW H} {p:List MemPlace}
    (htj:ts[j]? =some t) (hd:ds[j]? =some d) (ht:P.underlying t=some (.slice e)) (hb:0 < P.bytesOf e) {ao:Option Addr} {len cap:Nat} (h:DataW.Trod enc P w base spare held t (.slice ao len cap) d p):len≤4611686018427387904:=by
  obtain ⟨fuel,hf⟩:=h
  rcases DataW.trod_slice ht hf with ⟨h0,_⟩ | ⟨a,len',cap',elems,rest,n,_,h0,h1,hb',hl,hm,hlen,hel,hsp,hns⟩
  · replace h0:[Value.slice ao len cap]=[Value.slice none 0 0]:=h0
    simp at h0;omega
  replace h0:[Value.slice ao len cap]=[Value.slice (some a) len' cap']:=h0
  simp at h0
  obtain ⟨rfl,rfl,rfl⟩:=h0
  have e1:d= .slice (elems.map (·.1)) (rest.map (·.1)):=congrArg Prod.fst h1
  subst e1
  have h2:=sized_slice hsz htj hd ht
  rw [List.length_map,List.length_map,hlen] at h2
  have h3:=reachBytes_lt
  have h4:len*1≤(len+rest.length)*P.bytesOf e:=Nat.mul_le_mul ab hb
  omega
theorem sA (ws:List (List Char)):stripLifts liftWords ("cut".toList::ws)=([], "cut".toList::ws):=by kernel_rfl
theorem rX {P:Program} {ws:List (List Char)} (h:behindMainWord (wordsSigns P.initOrder.toList)= "cut".toList::ws):P.headLifts=[]:=by
  unfold Program.headLifts;rw [h,sA];kernel_rfl
theorem EE {P:Program} {ws:List (List Char)} (h:behindMainWord (wordsSigns P.initOrder.toList)= "cut".toList::ws):P.make=some .cut:=by
  unfold Program.make;rw [h,rX h];kernel_rfl
theorem Ax {P:Program} {ws:List (List Char)} (h:behindMainWord (wordsSigns P.initOrder.toList)= "cut".toList::ws):P.liftsFinal=false:=by
  unfold Program.liftsFinal;rw [h,rX h];kernel_rfl
theorem FX {P:Program} {ws:List (List Char)} (h:behindMainWord (wordsSigns P.initOrder.toList)= "cut".toList::ws) (h1:P.laysLater=false) (h2:P.bearsReflect=false) (h3:P.doorFits []=true):P.mayEnter=true:=by
  unfold Program.mayEnter;rw [h];simp only [sA,h1,h2,h3];kernel_rfl
theorem gd {a b:Bool} (h:a=true) (h2:b=true):(a && b)=true:=by rw [h,h2];rfl
section
variable {P:Program} {T e:TypeId} {size bytes:Nat} {z:List Value}
theorem vz [E:Elem P T e size bytes z] (w:World) (ty:TypeId) (a:Addr) (vx:Value) (m:Nat) (news:List Value) (hsl:Sl w size vx m news) (hb:m*bytes≤140737488355328):
    (m=0∧(Builtin.append_ #[T,T] ty #[.slice (some a) 0 0,vx]).run P w= .ok (.slice (some a) 0 0) w)∨
    (Builtin.append_ #[T,T] ty #[.slice (some a) 0 0,vx]).run P w=(Builtin.append_ #[T,T] ty #[.slice none 0 0,vx]).run P w:=by
  obtain ⟨i,zv,hi,hz,hs,hby,hzc⟩:=E.info
  obtain ⟨ao,c,rfl,hmc,hcm,hln,hone,hnil,hpos,hcells⟩:=hsl
  have hl0: ∀ (b:Addr) w,(loadCellsFrom b 0 0 #[]).run P w= .ok #[] w:=fun b w=> by simp [loadCellsFrom]
  rcases Nat.eq_zero_or_pos m with h0 | h0
  · subst h0
    refine .inl ⟨rfl,?_⟩
    cases ao with
    | none=> simp [Builtin.append_,run_underlying E.und,sizeOf,typeInfo,hi,Builtin.lenOf,Builtin.firstCells,storeCells]
    | some b=> simp [Builtin.append_,run_underlying E.und,sizeOf,typeInfo,hi,Builtin.lenOf,Builtin.firstCells,storeCells,loadCells,hl0]
  refine .inr ?_
  have hne: ¬ m=0:=by omega
  have h48: ¬ (2 ^ 48 < Builtin.nextslicecap m 0*i.bytes):=by
    have:=growslice_fits (need:=m) (old:=0) ab hb
    rw [hby];simp at this ⊢;omega
  have h63: ¬ (9223372036854775807 < (m:Int)):=by
    have:m*1≤m*bytes:=Nat.mul_le_mul_left _ E.bpos
    omega
  simp [Builtin.append_,run_underlying E.und,sizeOf,typeInfo,hi,hz,Builtin.lenOf,Builtin.firstCells,loadCells,hne,h48,h63,hl0]

theorem qM {σ:St} {dd:Option Tmp} {ty:TypeId} (parts:Array (Nat×Operand)) (E:Elem P T e size bytes z) (hp:parts= #[]):Stp P dd (.buildSlice T 0 parts) ty σ (σ.put dd .z):=by
  intro o hd ho ht
  subst hd;subst hp
  intro K ι S a w R
  obtain ⟨i,zv,hi,hz,hs,hby,hzc⟩:=E.info
  have hrun:(execOp a.eval o).run P w= .ok (.value (.slice (some ⟨w.heap.size,0,none⟩) 0 0)) (w.alloc (.cells #[] e)):=by
    simp [execOp,ho,Instr.buildSlice,run_underlying E.und,sizeOf,typeInfo,hi,hs,newRow,Instr.fill]
    congr 2
    exact Array.size_eq_zero_iff.1 (by simp)
  have hbl:Below w.heap.size w (w.alloc (.cells #[] e)):=(Below.refl _ _).alloc (Nat.le_refl _) _
  have R3:=R.gen (ι':=ι) (S':=S) (w':=w.alloc (.cells #[] e)) (ob':=σ.ob) (inc':=σ.inc) (fun _=> False) (.of_below hbl) (fun _ _=> rfl) (fun _ _=> rfl) (fun _ _=> rfl) (fun _ h=> h) (fun _ h=> h) (fun _ h=> .inl h) (fun g h=> Nat.lt_of_lt_of_le (R.Slt g h) hbl.size)
      (fun _ _ h=> h.elim) (fun _ _ h=> h.elim) (fun _ _ h=> h.elim) (fun _ _ _ _ _ h=> h.elim) (fun _ _ _ h=> h.elim) (fun _ _ _ h=> h.elim)
  exact bH hrun ⟨ι,S,R3.put o.dst .z fun i hi=> by cases hi⟩
theorem tg {σ:St} {dd:Option Tmp} {ty:TypeId} (s x:Operand) (E:Elem P T e size bytes z) (hs:σ.eval s= .z) {m:Nat} {news:List PV} (hx:SrcAV σ (σ.eval x) size m news) (hb:m*bytes≤140737488355328):
    Stp P dd (.call { callee:= .builtin .append,args:= #[s,x],argTypes:= #[T,T] }) ty σ (σ.put dd (.sl m news)):=by
  intro o hd ho ht
  subst hd
  intro K ι S a w R
  have hv:=R.eval s
  rw [hs] at hv
  obtain ⟨vs,hsl,hvl,hvr⟩:=hx.src R E.pos
  have stay: ∀ (v':Value),v'=a.eval s→m=0→(execOp a.eval o).run P w= .ok (.value v') w→fh P o a.eval w fun v w''=> ∃ ι' S',RelI K ι' S' (σ.put o.dst (.sl m news)) (a.put o.dst v) w'':=by
    intro v' hv' h0 hr
    have hn0:news=[]:=List.eq_nil_of_length_eq_zero (by
      have:=hsl.len
      rw [hvl,h0] at this
      simpa using this)
    subst h0;subst hn0
    refine bH hr ⟨ι,S,R.put o.dst ?_ fun i hi=> oH hi⟩
    rw [hv']
    generalize a.eval s=u at hv
    cases hv
    exact .sl (.sl0 (Nat.le_refl _) (by unfold maxLen;omega) fun _=> ⟨rfl,rfl⟩)
  obtain ⟨v',w',hr,h4,h5,_,h7⟩:=pW (P:=P) (T:=T) o.type 0 (.slice none 0 0) 0 [] (World.ownsRow_nil _ _ _ _) (a.eval x) m vs hsl (by simpa using hb) (Nat.zero_le _)
  have hbl:Below w.heap.size w w':=iy (by simpa [Value.ownBlock] using h5)
  have key:(m=0∧(execOp a.eval o).run P w= .ok (.value (a.eval s)) w)∨(execOp a.eval o).run P w= .ok (.value v') w':=by
    generalize hu:a.eval s=u at hv
    cases hv with
    | z=>
      rename_i ao
      have hex: ∀ r,(Builtin.append_ #[T,T] o.type #[.slice ao 0 0,a.eval x]).run P w=r→(execOp a.eval o).run P w=r.andThen fun v w=> .ok (.value v) w:=by
        intro r h
        unfold execOp
        simp only [ho,resolve,invoke,builtin,Sem.run_bind,Sem.run_pure,Result.andThen_ok,List.map_toArray,List.map_cons,List.map_nil,hu,h]
      cases ao with
      | none=> exact .inr (hex _ hr)
      | some b=>
        rcases vz (P:=P) (T:=T) w o.type b (a.eval x) m vs hsl hb with ⟨h0,h1⟩ | h1
        · exact .inl ⟨h0,hex _ h1⟩
        exact .inr (hex _ (h1.trans hr))
  rcases key with ⟨h0,hrun⟩ | hrun
  · exact stay _ rfl h0 hrun
  have fin: ∀ (S':Nat→Prop),(∀ g,S g→S' g)→(∀ g,S' g→S g∨w.heap.size≤g)→(∀ g,S' g→g < w'.heap.size)→Rd S' w' (.sl m news) v'→fh P o a.eval w fun v w''=> ∃ ι' S',RelI K ι' S' (σ.put o.dst (.sl m news)) (a.put o.dst v) w'':=by
    intro S' g1 g2 g3 hrd
    have R3:=R.gen (ι':=ι) (S':=S') (w':=w') (ob':=σ.ob) (inc':=σ.inc) (fun _=> False) (.of_below hbl) (fun _ _=> rfl) (fun _ _=> rfl) (fun _ _=> rfl) (fun _ h=> h) g1
      (fun g h=> by rcases g2 g h with h | h; · exact .inl h
                    exact .inr (.inl h)) g3
      (fun _ _ h=> h.elim) (fun _ _ h=> h.elim) (fun _ _ h=> h.elim) (fun _ _ _ _ _ h=> h.elim) (fun _ _ _ h=> h.elim) (fun _ _ _ h=> h.elim)
    exact bH hrun ⟨ι,S',R3.put o.dst (.sl hrd) fun i hi=> oH hi⟩
  simp only [List.nil_append,Nat.zero_add] at h4
  rcases gW h4 with ⟨hv',hn0,hu0⟩ | ⟨g,c,cur,hv',hg,hnc,hcm,hcs,hcu⟩
  · subst hv'
    have:news=[]:=List.eq_nil_of_length_eq_zero (by rw [← hvl,hu0];rfl)
    subst this;subst hn0
    exact fin S (fun _ h=> h) (fun _ h=> .inl h) (fun g h=> Nat.lt_of_lt_of_le (R.Slt g h) hbl.size) (.sl0 (Nat.le_refl _) (by unfold maxLen;omega) fun _=> ⟨rfl,rfl⟩)
  subst hv'
  have hgw:w.heap.size≤g:=by
    rcases h7 with h | ⟨k,hk,hle⟩
    · simp [Value.ownBlock] at h
    simp [Value.ownBlock] at hk;omega
  refine fin (fun k=> S k∨k=g) (fun _ h=> .inl h) (fun k h=> by
    rcases h with h | h
    · exact .inl h
    exact .inr (by rw [h];exact hgw)) (fun k h=> ?_) ?_
  · rcases h with h | h
    · exact Nat.lt_of_lt_of_le (R.Slt k h) hbl.size
    rw [h];exact (Array.getElem?_eq_some_iff.1 hg).1
  have key: ∀ (j:Nat) (p:PV),news[j]? =some p→ ∃ u,cur[j]? =some u∧Rd (fun k=> S k∨k=g) w' p u:=by
    intro j p hj
    obtain ⟨u,hu,h1,hru⟩:=hvr j p hj
    exact ⟨u,hcu j u hu,hru.next (fun k hk=> hbl.block k (R.Slt k hk)) fun _ h=> .inl h⟩
  have:=Rd.sl (S:=fun k=> S k∨k=g) (w:=w') (n:=m) (c:=c) (b:=g) (o:=0) (xs:=news) (fun j=> cur.getD j undef) hnc hcm (.mk (.inr rfl) hg) (fun j p hj=> ?_) (fun j p hj=> ?_)
  · exact this
  · obtain ⟨u,hu,_⟩:=key j p hj
    simp only [Nat.zero_add,Array.getD_eq_getD_getElem?,hu,Option.getD_some]
    exact ei hg hu
  obtain ⟨u,hu,hru⟩:=key j p hj
  simp only [Array.getD_eq_getD_getElem?,hu,Option.getD_some]
  exact hru
end
theorem AnyOps.imp {P:Program} {all:List Oper} {W:List Nat} {I:List aA} {AA:List (List aA)} {σ:St} {K K':List Res→Prop} (hk: ∀ rs,K rs→K' rs): ∀ {os:List Oper} {rs:List Res},AnyOps P all W I AA σ K os rs→AnyOps P all W I AA σ K' os rs
  | [],rs,h=> hk rs h
  | o::os,rs,⟨r,h1,h2⟩=> ⟨r,h1,AnyOps.imp hk h2⟩
theorem If {rb:Bool} {P:Program} {Q:Exit→St→Prop} {σ:St} {id:Nat} {l hd tl:List Oper} (n:Nat) (W:List Nat) (I:List aA) (hm:P.follows .mixedOrders=true) (hB:kS l.toArray n=true) (hW:(l.take n).filterMap (·.dst)=W) (hI:I.Nodup)
    (e1:l.take n=hd) (e2:l.drop n=tl) (h:AnyOps P hd W I [] σ (fun rs=> gH rs=I∧DL rb P l.toArray Q tl (dx hd rs (fun _=> true) 0 σ)) hd []):D rb P (.region id l.toArray true) Q σ:=by
  subst e1;subst e2
  exact HG n W I [] hm hB hW hI (AnyOps.imp (fun rs h=> ⟨⟨h.1,rfl⟩,h.2⟩) h)
theorem hG {rb:Bool} {P:Program} {Q:Exit→St→Prop} {σ:St} {id:Nat} {l hd tl:List Oper} (n:Nat) (W:List Nat) (I:List aA) (AA:List (List aA)) (hm:P.follows .mixedOrders=true) (hB:kS l.toArray n=true) (hW:(l.take n).filterMap (·.dst)=W) (hI:I.Nodup)
    (e1:l.take n=hd) (e2:l.drop n=tl) (h:AnyOps P hd W I AA σ (fun rs=> (gH rs=I∧oE hd rs 0 AA=true)∧DL rb P l.toArray Q tl (dx hd rs (fun _=> true) 0 σ)) hd []):D rb P (.region id l.toArray true) Q σ:=by
  subst e1;subst e2
  exact HG n W I AA hm hB hW hI h
section
variable {P:Program} {w:World} {o:Oper} {ρ:Operand→Value} {e:TypeId} {z:List Value}
end
section
variable {P:Program} {σ:St} {z:List Value} {T e:TypeId} {size bytes:Nat}
end
def be (l:List Int):List PV:=l.map fun x=> .v (.int .i64 x)
@[simp] theorem aq (l:List Int):(be l).length=l.length:=by simp [be]
theorem cI (l:List Int) (k:Nat) (h:k < l.length):(be l)[k]? =some (.v (.int .i64 (l.getD k 0))):=by simp [be,h]
theorem dN (a:List Int) (k:Nat) (x:Int) (h:k < a.length):fI (be a) k [.v (.int .i64 x)]=be (a.set k x):=by rw [Cc _ _ _ (by simpa using h)];simp [be,List.map_set]
theorem mc (n:Nat):(rep n [Value.int .i64 0]).map PV.v=be (List.replicate n 0):=by rw [Fu];simp [be]
theorem tY {α:Type} (l:List α) (k:Nat) (d:α) (h:k < l.length):l.getD k d=l[k]:=by simp [h]

def xu (l:List Bool):List PV:=l.map fun x=> .v (.bool x)
@[simp] theorem aJ (l:List Bool):(xu l).length=l.length:=by simp [xu]
theorem yc (l:List Bool) (k:Nat) (h:k < l.length):(xu l)[k]? =some (.v (.bool (l.getD k false))):=by simp [xu,h]
def Rng (l:List Int):Prop:= ∀ x∈l, -9223372036854775808≤x∧x≤9223372036854775807
theorem Rng.at {l:List Int} (h:Rng l) (k:Nat) (hk:k < l.length): -9223372036854775808≤l.getD k 0∧l.getD k 0≤9223372036854775807:=by
  rw [tY _ _ _ hk];exact h _ (List.getElem_mem hk)
theorem Ib (z:List { n:Int // (Lit.int .i64 n).wf=true }):Rng (z.map (·.1)):=by
  intro x hx
  obtain ⟨y,_,rfl⟩:=List.mem_map.1 hx
  exact xP y.2
theorem IU {w:World} {n:Nat} {v:Value} {z:List { n:Int // (Lit.int .i64 n).wf=true }} {ι:aA→Option fe} (h:Sl w 1 v n (z.map fun y=> Value.int .i64 y.1)):Rep ι (fun g=> g < w.heap.size) w (.sl n (be (z.map (·.1)))) v:=by
  have:=h.rd
  rw [show (z.map fun y=> Value.int .i64 y.1).map PV.v=be (z.map (·.1)) by simp [be]] at this
  exact .sl this

theorem fx:aS []=fun i=> i:=by funext i;rfl
theorem Ld {σ:St} {F:aA→Bool} (a:AV):Lv (aS []) σ F a a:=by rw [fx];exact Lv.same a
theorem iG {σ:St} {F:aA→Bool} {a b:AV} (h:b=a):Lv (aS []) σ F a b:=by subst h;exact Ld _
theorem IK {σ:St} {F:aA→Bool} (o:Cells):LvO (aS []) σ F o o:=by rw [fx];exact LvO.same o
theorem cf {ρ:aA→aA} {σ:St} {F:aA→Bool} {id id':aA} {off n m:Nat} (hi:ρ id=id') (h:n=m):Lv ρ σ F (.ref id off n) (.ref id' off m):=by subst hi;subst h;exact .ref
theorem bs {ρ:aA→aA} {σ:St} {F:aA→Bool} {id id':aA} {off:Nat} (hi:ρ id=id'):Lv ρ σ F (.ptr id off) (.ptr id' off):=by subst hi;exact .ptr
theorem de {ρ:aA→aA} {σ:St} {F:aA→Bool} {n m:Nat} {xs ys:List PV} (h:n=m) (h':xs=ys):Lv ρ σ F (.sl n xs) (.sl m ys):=by subst h;subst h';exact .sl
theorem cL {ρ:aA→aA} {Fz:List aA} {σ:St} {I:List aA} {i:aA} {e:TypeId} {sz:Nat} {xs ys:List PV} (hF:bY (ρ i) Fz=false) (h:σ.ob (ρ i)= .obj (.row e sz ys)) (hinc:(bif bY i I then false else σ.inc (ρ i))=false) (hx:xs=ys):
  bY (ρ i) Fz=false∧(∃ o2,σ.ob (ρ i)= .obj o2∧LvO (ρ) σ (fun i=> bY i Fz) (.row e sz xs) o2)∧(bif bY i I then false else σ.inc (ρ i))=false:=⟨hF,⟨_,h, .rowE hx.symm⟩,hinc⟩
theorem cT {ρ:aA→aA} {Fz:List aA} {σ:St} {I:List aA} {i:aA} {e:TypeId} {xs ys:List AV} (hF:bY (ρ i) Fz=false) (h:σ.ob (ρ i)= .obj (.box e ys)) (hinc:(bif bY i I then false else σ.inc (ρ i))=false) (hl:xs.length=ys.length)
  (hx: ∀ (j:Nat) (a b:AV),xs[j]? =some a→ys[j]? =some b→Lv (ρ) σ (fun i=> bY i Fz) a b):
  bY (ρ i) Fz=false∧(∃ o2,σ.ob (ρ i)= .obj o2∧LvO (ρ) σ (fun i=> bY i Fz) (.box e xs) o2)∧(bif bY i I then false else σ.inc (ρ i))=false:=⟨hF,⟨_,h, .box hl hx⟩,hinc⟩
theorem bU {Fz:List aA} {σ:St} {I:List aA} {i:aA} {o:Cells} (hF:bY (aS [] i) Fz=false) (h:σ.ob (aS [] i)= .obj o) (hinc:(bif bY i I then false else σ.inc (aS [] i))=false):
  bY (aS [] i) Fz=false∧(∃ o2,σ.ob (aS [] i)= .obj o2∧LvO (aS []) σ (fun i=> bY i Fz) o o2)∧(bif bY i I then false else σ.inc (aS [] i))=false:=⟨hF,⟨_,h,IK o⟩,hinc⟩
theorem Pu {ρ:aA→aA} {Fz:List aA} {σ:St} {I:List aA} {i:aA} {es fs:List MapEntry} {c d:Nat} (hF:bY (ρ i) Fz=false) (h:σ.ob (ρ i)= .obj (.mp fs d)) (hinc:(bif bY i I then false else σ.inc (ρ i))=false) (hx:es=fs) (hc:c=d):
  bY (ρ i) Fz=false∧(∃ o2,σ.ob (ρ i)= .obj o2∧LvO (ρ) σ (fun i=> bY i Fz) (.mp es c) o2)∧(bif bY i I then false else σ.inc (ρ i))=false:=⟨hF,⟨_,h,by subst hx;subst hc;exact .mp⟩,hinc⟩

theorem Spec.toI {P:Program} {f:FuncId} {args:List AV} {r:AV} {outs:List (aA×Cells)} (h:Spec P f (aI args []) (aC r outs)):Spec P f (aL args []) (aN r outs [] []):=h
theorem Le.mkJ {σ:St} {n:Nat} {slots:List (Nat×AV)} {obs:List (aA×Cells)} {I Pn:List aA} (rn:List (aA×aA)) (Fz:List aA) (hn:σ.n=n) (hs:nL (aS rn) σ (fun i=> bY i Fz) slots) (ho:dI (aS rn) σ (fun i=> bY i Fz) I obs) (hi:fu σ Fz) (hp:jl (aS rn) σ Pn)
  (hb:(eo (obs.map (·.1)) slots && aY (obs.map (·.1)) obs && bg ((obs.map (·.1)).map (aS rn)) && pK Pn (obs.map (·.1)))=true):Le (an n slots obs I Pn) σ:=by
 simp only [Bool.and_eq_true] at hb
 exact Le.mkI rn Fz hn hs hb.1.1.1 hb.1.1.2 hb.1.2 hi ho hp hb.2
section
variable {rb:Bool} {P:Program} {Q:Exit→St→Prop} {σ:St}
theorem aT {c:Code} {α:Type} (J:α→Prop) (n:Nat) (sl:List (Nat×AV)) (os:List (aA×Cells)) (sv:α→List (Nat×AV)) (ov:α→List (aA×Cells)) (I Pn:List aA) (μ:α→Nat) (x0:α) (hJ:J x0) (h0:Le (an n (sl++sv x0) (os++ov x0) I Pn) σ)
  (round: ∀ x,J x→D rb P c (jS (fun σ'=> ∃ y,J y∧Le (an n (sl++sv y) (os++ov y) I Pn) σ'∧μ y < μ x) Q) (an n (sl++sv x) (os++ov x) I Pn)):D rb P (.loop c) Q σ:=
 Gs J (fun x=> an n (sl++sv x) (os++ov x) I Pn) μ x0 hJ h0 round
theorem Dw {ops:Array Oper} {rest:List Oper} {d:Nat} {b:Bool} (h1:b=true→DL rb P ops Q rest (σ.put (some d) (.v (.bool true)))) (h2:b=false→DL rb P ops Q rest (σ.put (some d) (.v (.bool false)))):DL rb P ops Q rest (σ.put (some d) (.v (.bool b))):=by
 cases b
 ·exact h2 rfl
 exact h1 rfl
theorem yX {all:List Oper} {W:List Nat} {I:List aA} {AA:List (List aA)} {Kont:List Res→Prop} {os:List Oper} {rs:List Res} {b:Bool} (h1:b=true→AnyOps P all W I AA σ Kont os (rs++[(.v (.bool true),[])])) (h2:b=false→AnyOps P all W I AA σ Kont os (rs++[(.v (.bool false),[])])):
  AnyOps P all W I AA σ Kont os (rs++[(.v (.bool b),[])]):=by
 cases b
 ·exact h2 rfl
 exact h1 rfl
end

class Arr (P:Program) (T:TypeId) (n:outParam Nat) (size:outParam Nat):Prop where
 out: ∃ e i,P.underlying T=some (.array n e)∧P.info? e=some i∧i.size=size
theorem Arr.of {P:Program} {T e:TypeId} {n size:Nat} (h1:P.underlying T=some (.array n e)) (h2:(P.info? e).map (fun i=> i.size)=some size):Arr P T n size:=by
 obtain ⟨i,hi,h⟩:=Option.map_eq_some_iff.1 h2
 exact ⟨e,i,h1,hi,h⟩

section
variable {P:Program} {σ:St} {dd:Option Tmp} {ty T:TypeId} {n size:Nat}
theorem bJ (x y:Operand) (E:Arr P T n size) {id:aA} {of0:Nat} {oc:Cells} (hx:σ.eval x= .ptr id of0) (hid:σ.ob id= .obj oc)
  {k:IntKind} {I:Int} (hy:σ.eval y= .v (.int k I)) (j:Nat) (hI:I=(j:Int)) (hj:j < n) {off:Nat} (he:of0+j*size=off):Stp P dd (.indexAddr T x y) ty σ (σ.put dd (.ptr id off)):=by
 intro o hd ho ht
 subst hd;subst he;subst hI
 obtain ⟨e,inf,hu,hinf,hs⟩:=E.out
 refine bD fun _ ι S a w R=> ?_
 have hi:=(hy ▸ R.eval y:Rep ι S w (.v (.int k (j:Int))) (a.eval y)).toV
 obtain ⟨B,g,h1,h2,h3⟩:=R.ptrB hid hx
 refine ⟨.pointer (some ⟨g,of0+j*size,none⟩),?_, .ptr (fun B' hB'=> ?_) rfl,fun i h=> R.evalHas x (by rw [hx];cases h;exact .ptr)⟩
 ·simp [execOp,ho,Instr.indexAt,h3,hi,asIntOf,run_underlying hu,sizeOf,typeInfo,hinf,hs,hj,Addr.add_lit,Instr.sureAddr]
 rw [h1] at hB'
 obtain rfl:=Option.some.inj hB'
 exact ⟨g,h2,rfl⟩
theorem qv {t t':TypeId} {a b:Int} (x y:Operand) (hx:σ.eval x= .v (.int .i64 a)) (hy:σ.eval y= .v (.int .i64 b)) {r:Int} (hr:max a b=r):Stp P dd (.call { callee:= .builtin .max,args:= #[x,y],argTypes:= #[t,t'] }) ty σ (σ.put dd (.v (.int .i64 r))):=by
 intro o hd ho ht
 subst hd
 refine bD fun _ _ _ A w R=> ⟨_,?_, .v,fun _=> eO⟩
 have h1:=Rep.evV R hx
 have h2:=Rep.evV R hy
 generalize A.eval=ρ at h1 h2
 subst hr
 have hm:max a b=if b > a then b else a:=by omega
 simp [execOp,ho,resolve,invoke,builtin,h1,h2,go_sem,Builtin.max_,Builtin.max2,hm]

theorem Lg {K:mm} {ι:aA→Option fe} {S:Nat→Prop} {a:Act} {w:World} (R:RelI K ι S σ a w) (xs:Array Operand) {avs:List AV} (h:xs.toList.map σ.eval=avs):
  (xs.map a.eval).size=avs.length∧(∀ (j:Nat) (p:AV),avs[j]? =some p→Rep ι S w p ((xs.map a.eval).getD j undef))∧ ∀ av∈avs,∀ id,Has id av→σ.ob id≠ .free:=by
 subst h
 refine ⟨by simp,fun j p hp=> ?_,fun av hav id hi=> ?_⟩
 ·rw [List.getElem?_map] at hp
  obtain ⟨y,hy,rfl⟩:=Option.map_eq_some_iff.1 hp
  have hy':xs[j]? =some y:=by simpa using hy
  have hj:=(Array.getElem?_eq_some_iff.1 hy').1
  have:(xs.map a.eval).getD j undef=a.eval y:=by
   have h2:=(Array.getElem?_eq_some_iff.1 hy').2
   simp [hj,h2]
  rw [this];exact R.eval y
 obtain ⟨y,_,rfl⟩:=List.mem_map.1 hav
 exact R.evalHas y hi
theorem jJ {fn:Fn} (first caps:Array Operand) {fs cs:List AV} (hf:first.toList.map σ.eval=fs) (hc:caps.toList.map σ.eval=cs):Stp P dd (.makeFunc fn first caps) ty σ (σ.put dd (.fn fn fs cs)):=by
 intro o hd ho ht
 subst hd
 refine bD fun _ ι S a w R=> ?_
 obtain ⟨f1,f2,f3⟩:=Lg R first hf
 obtain ⟨c1,c2,c3⟩:=Lg R caps hc
 refine ⟨.func fn (first.map a.eval) (caps.map a.eval),by simp [execOp,ho,Instr.makeFunc], .fn f1 c1 f2 c2,fun id h=> ?_⟩
 cases h with
 | fn1 hm h=> exact f3 _ hm id h
 | fn2 hm h=> exact c3 _ hm id h

end
def MF (l:List (Int×Int)):List PV:=l.flatMap fun p=> [.v (.int .i64 p.1), .v (.int .i64 p.2)]
theorem Cl (p:Int×Int) (l:List (Int×Int)):MF (p::l)=[.v (.int .i64 p.1), .v (.int .i64 p.2)]++MF l:=rfl
@[simp] theorem aM: ∀ (l:List (Int×Int)),(MF l).length=2*l.length
 | []=> rfl
 | p::l=> by rw [Cl,List.length_append,aM l];simp;omega
theorem Gf (l:List Int) (k:Nat):((be l).drop (0*1)).take ((k - 0)*1)=be (l.take k):=by simp [be]
theorem Spec.frz {P:Program} {f:FuncId} {σ:St} {e:TypeId} {sz n:Nat} {xs:List PV} (h:Spec P f σ (aC (.ref (0,8) 0 n) [((0,8), .row e sz xs)])) (hl:n*sz=xs.length):Spec P f σ (aC (.sl n xs) []):=
 h.mono (Le.outO (I:=[]) (Pn:=[]) [] [(0,8)] (dH rfl rfl hl rfl) rfl rfl rfl ⟨rfl,trivial⟩ trivial)

section
variable {P:Program} {σ:St} {z:List Value} {T e:TypeId} {size bytes:Nat}
theorem St.setInc_same {σ:St} {id:aA} {b:Bool} (h:σ.inc id=b):σ.setInc id b=σ:=by
 refine St.eq rfl (fun _=> rfl) (fun _=> rfl) (funext fun i=> ?_) rfl
 show (bif gu i id then b else σ.inc i)=σ.inc i
 cases hb:gu i id with
 | true=> rw [oeq_iff.1 hb,h];rfl
 | false=> rfl
theorem tu {dd:Option Tmp} {ty:TypeId} (id':aA) (s x:Operand) (E:Elem P T e size bytes z) {id:aA} {n:Nat} {xs:List PV} (hs:σ.eval s= .ref id 0 n) (hid:σ.ob id= .obj (.row e size xs)) (hl:n*size=xs.length) {m:Nat} {news:List PV} (hx:SrcAV σ (σ.eval x) size m news) (hb:(n+m)*bytes≤140737488355328) (hid':σ.ob id'= .free)
  (hi:σ.inc id=false) (hi':σ.inc id'=false) {ys:List PV} (hy:xs++news=ys) {k:Nat} (hk:n+m=k):Stp P dd (.call { callee:= .builtin .append,args:= #[s,x],argTypes:= #[T,T] }) ty σ (((σ.setOb id .gone).setOb id' (.obj (.row e size ys))).put dd (.ref id' 0 k)):=by
 have h:=bI (P:=P) (dd:=dd) (ty:=ty) id' s x E hs hid hl hx hb hid' hy hk
 rwa [hi,St.setInc_same (by exact hi')] at h

theorem RelI.srcB {K:mm} {ι:aA→Option fe} {S:Nat→Prop} {a:Act} {w:World} (R:RelI K ι S σ a w) {id:aA} {e:TypeId} {sz m:Nat} {news:List AV} (hid:σ.ob id= .obj (.box e news)) {x:Operand} (hx:σ.eval x= .ref id 0 m) (hl:m*sz=news.length):
  ∃ us,Sl w sz (a.eval x) m us∧us.length=news.length∧ ∀ (j:Nat) (p:AV),news[j]? =some p→ ∃ u,us[j]? =some u∧u.oneCell'=true∧Rep ι S w p u:=by
 obtain ⟨B,g,h1,hg,htot,h6⟩:=R.ob id _ hid
 have hr:=R.eval x
 rw [hx] at hr
 generalize hu:a.eval x=v at hr
 cases hr with
 | ref h _=>
  obtain ⟨c,h3,h4,h5⟩:=h B h1
  rw [hg] at h5
  obtain ⟨o',h7,h8,h9⟩:=h5
  obtain rfl:=h8.resolve_right ab
  rcases h6 with ⟨h6,_⟩ | ⟨g',cur,h10,h11,h12,h13,h14⟩
  ·rw [hg] at h6;cases h6
  rw [hg] at h10
  obtain rfl:=Option.some.inj h10
  have hget: ∀ (j:Nat) (u:Value),(cur.toList.take news.length)[j]? =some u→j < news.length∧cur[j]? =some u:=by
   intro j u h
   rw [List.getElem?_take] at h
   split at h
   ·rename_i hj;exact ⟨hj,by simpa using h⟩
   cases h
  refine ⟨cur.toList.take news.length,⟨some ⟨g,0,none⟩,c,h7,h3,h4,by simp;omega,fun u hu=> ?_,fun h=> by (cases h),fun _=> ⟨g,0,rfl⟩,fun ad had j u hj=> ?_⟩,by simp;omega,fun j p hp=> ?_⟩
  ·obtain ⟨j,hj,rfl⟩:=List.getElem_of_mem hu
   obtain ⟨hj1,hj2⟩:=hget j _ (List.getElem?_eq_getElem hj)
   obtain ⟨u,b1,b2,_⟩:=h14 j hj1
   rw [hj2] at b1
   obtain rfl:=Option.some.inj b1
   exact b2
  ·obtain rfl:=Option.some.inj had
   rw [Addr.add_lit,Nat.zero_add]
   exact ei h11 (hget j u hj).2
  have hj:j < news.length:=(List.getElem?_eq_some_iff.1 hp).1
  obtain ⟨u,hu,hu1,hu2⟩:=h14 j hj
  exact ⟨u,by rw [List.getElem?_take,if_pos hj];simpa using hu,hu1,hu2 p hp⟩
theorem Gw {dd:Option Tmp} {ty:TypeId} {T e e':TypeId} {size bytes:Nat} {z:List Value} (x:Operand) (E:Elem P T e size bytes z) {id:aA} {off n:Nat} {xs:List AV} (hx:σ.eval x= .ref id off n) (hid:σ.ob id= .obj (.box e' xs)):Stp P dd (.call { callee:= .builtin .len,args:= #[x],argTypes:= #[T] }) ty σ (σ.put dd (.v (.int .i64 (n:Int)))):=by
 intro o hd ho ht
 subst hd
 refine bD fun _ ι S a w R=> ?_
 obtain ⟨B,g,h1,hg,_,_⟩:=R.ob id _ hid
 have hr:=R.eval x
 rw [hx] at hr
 generalize hu:a.eval x=u at hr
 cases hr with
 | ref h _=>
  obtain ⟨c,_,_,h5⟩:=h B h1
  rw [hg] at h5
  obtain ⟨o',rfl,_⟩:=h5
  exact ⟨_,by simp [execOp,ho,resolve,invoke,builtin,Builtin.len_,run_underlying E.und,hu,goInt], .v,fun _=> eO⟩
end


structure Bun where
 box:aA
 gr:Bool
 E:TypeId
 e:TypeId
 fam:Nat
 rows:List (List PV)

def Bun.cell (b:Bun) (j:Nat):AV:= .ref (b.fam,j) 0 (b.rows.getD j []).length
def Bun.cells (b:Bun):List AV:=(List.range b.rows.length).map b.cell
def Bun.outer (b:Bun) (cs:List AV):Cells:=bif b.gr then .rowA b.E 1 cs else .box b.E cs
def Bun.ob (b:Bun) (id:aA):Slot:=
 bif gu id b.box then .obj (b.outer b.cells) else bif Nat.beq id.1 b.fam && Nat.blt id.2 b.rows.length then .obj (.row b.e 1 (b.rows.getD id.2 [])) else .free
def JD:Slot→Slot→Slot
 | .free,s=> s
 | s,_=> s
def kZ (n:Nat) (l:List (Nat×AV)) (obs:List (aA×Cells)) (b:Bun) (I Pn:List aA):St:=⟨n,tZ l,fun id=> JD (ir obs id) (b.ob id),fun i=> bY i I,ka Pn⟩

theorem Bun.cells_len (b:Bun):b.cells.length=b.rows.length:=by simp [Bun.cells]
theorem Bun.cells_get (b:Bun) {j:Nat} (hj:j < b.rows.length):b.cells[j]? =some (b.cell j):=by simp [Bun.cells,hj]
theorem blt_iff {a b:Nat}:Nat.blt a b=true↔a < b:=by
 simp only [Nat.blt,Nat.ble_eq];omega
theorem Bun.ob_mem {b:Bun} (hb:b.box.1≠b.fam) {j:Nat} (hj:j < b.rows.length):b.ob (b.fam,j)= .obj (.row b.e 1 (b.rows.getD j [])):=by
 have h1:gu (b.fam,j) b.box=false:=fz fun e=> hb (by rw [← e])
 have h2:Nat.blt j b.rows.length=true:=blt_iff.2 hj
 simp [Bun.ob,h1,h2]
def ek (f:Nat):List aA→Bool
 | []=> true
 | i::l=> !(Nat.beq i.1 f) && ek f l
theorem gn {f:Nat} {i:aA}: ∀ {l:List aA},ek f l=true→i∈l→i.1≠f
 | [],_,h=> by simp at h
 | x::l,hl,hm=> by
  simp only [ek,Bool.and_eq_true,Bool.not_eq_true'] at hl
  rcases List.mem_cons.1 hm with h | hm
  ·subst h
   intro e
   rw [e] at hl
   simp at hl
  exact gn hl.2 hm
def rf (f i:Nat) (T:aA) (rn:List (aA×aA)):aA→aA:=fun id=> bif gu id (f,i) then T else aS rn id
theorem qf {f:Nat} {j:Nat}: ∀ {rn:List (aA×aA)},ek f (rn.map (·.1))=true→aS rn (f,j)=(f,j)
 | [],_=> rfl
 | (k,x)::l,h=> by
  simp only [List.map_cons,ek,Bool.and_eq_true,Bool.not_eq_true'] at h
  have:gu (f,j) k=false:=fz fun e=> by
   have h1:=h.1
   rw [← e] at h1
   simp at h1
  simp only [aS,this,cond_false]
  exact qf h.2

theorem Le.genB {σ:St} {n:Nat} {slots:List (Nat×AV)} {obs:List (aA×Cells)} {b:Bun} {I Pn:List aA} (i:Nat) (T:aA) (rn:List (aA×aA)) (Fz:List aA) (hn:σ.n=n)
  (hs:nL (rf b.fam i T rn) σ (fun i=> bY i Fz) slots) (ho:dI (rf b.fam i T rn) σ (fun i=> bY i Fz) I obs) (hi:fu σ Fz) (hp:jl (rf b.fam i T rn) σ Pn)
  (hT:T=(b.fam,i)∨Nat.beq T.1 b.fam=false)
  (hb:(eo (b.box::obs.map (·.1)) slots && aY (b.box::obs.map (·.1)) obs && bg (T::(b.box::obs.map (·.1)).map (aS rn)) && bg (b.box::obs.map (·.1)) && pK Pn (obs.map (·.1)) && ek b.fam (b.box::obs.map (·.1)) && ek b.fam ((b.box::obs.map (·.1)).map (aS rn)) && ek b.fam (rn.map (·.1)) && ek b.fam I && ek b.fam Fz && !(bY T Fz) && !(bY (aS rn b.box) Fz) && !(bY b.box I))=true)
  (hbx: ∃ cs,σ.ob (aS rn b.box)= .obj (b.outer cs)∧cs.length=b.rows.length∧ ∀ j a,cs[j]? =some a→Lv (rf b.fam i T rn) σ (fun i=> bY i Fz) (b.cell j) a) (hbi:σ.inc (aS rn b.box)=false)
  (hm: ∀ j,j < b.rows.length→j≠i→(∃ ys,σ.ob (b.fam,j)= .obj (.row b.e 1 (b.rows.getD j []++ys)))∧σ.inc (b.fam,j)=false)
  (hmi:i < b.rows.length→(∃ ys,σ.ob T= .obj (.row b.e 1 (b.rows.getD i []++ys)))∧σ.inc T=false):Le (kZ n slots obs b I Pn) σ:=by
 simp only [Bool.and_eq_true,Bool.not_eq_true'] at hb
 obtain ⟨⟨⟨⟨⟨⟨⟨⟨⟨⟨⟨⟨b1,b2⟩,b3⟩,b3'⟩,b4⟩,b5⟩,b6⟩,b7⟩,b8⟩,b9⟩,b10⟩,b11⟩,b12⟩:=hb
 have hbf:b.box.1≠b.fam:=gn b5 List.mem_cons_self
 have hc0: ∀ c:aA,c.1≠b.fam→rf b.fam i T rn c=aS rn c:=fun c hc=> by
  simp only [rf,fz (fun e=> hc (by rw [e]):c≠(b.fam,i)),cond_false]
 have hmi':rf b.fam i T rn (b.fam,i)=T:=by simp only [rf,dq,cond_true]
 have hmj: ∀ j,j≠i→rf b.fam i T rn (b.fam,j)=(b.fam,j):=fun j hj=> by
  simp only [rf,fz (fun e=> hj (Prod.mk.inj e).2:(b.fam,j)≠(b.fam,i)),cond_false]
  exact qf b7
 -- what stands at a name
 have hob: ∀ id o,(kZ n slots obs b I Pn).ob id= .obj o→(ir obs id= .obj o∧id∈obs.map (·.1))∨(id=b.box∧o=b.outer b.cells)∨ ∃ j,id=(b.fam,j)∧j < b.rows.length∧o= .row b.e 1 (b.rows.getD j []):=by
  intro id o h
  simp only [kZ] at h
  cases hx:ir obs id with
  | obj o'=> rw [hx] at h;exact .inl ⟨h,List.mem_map_of_mem (f:=(·.1)) (cW hx)⟩
  | gone=> rw [hx] at h;cases h
  | free=>
   rw [hx] at h
   replace h:b.ob id= .obj o:=h
   simp only [Bun.ob] at h
   cases hq:gu id b.box with
   | true=> rw [hq] at h;exact .inr (.inl ⟨oeq_iff.1 hq,(Slot.obj.inj h).symm⟩)
   | false=>
    rw [hq] at h
    cases hr:(Nat.beq id.1 b.fam && Nat.blt id.2 b.rows.length) with
    | false=> rw [hr] at h;cases h
    | true=>
     rw [hr] at h
     simp only [Bool.and_eq_true] at hr
     exact .inr (.inr ⟨id.2,by rw [← Nat.eq_of_beq_eq_true hr.1],blt_iff.1 hr.2,(Slot.obj.inj h).symm⟩)
 have hne: ∀ id,id∈b.box::obs.map (·.1)→(kZ n slots obs b I Pn).ob id≠ .free:=by
  intro id h
  simp only [kZ]
  rcases List.mem_cons.1 h with h | h
  ·subst h
   cases hx:ir obs b.box with
   | obj o'=> intro h;cases h
   | gone=> intro h;cases h
   | free=>
    show b.ob b.box≠ .free
    simp [Bun.ob,dq]
  have:=ia h
  cases hx:ir obs id with
  | obj o'=> intro h;cases h
  | gone=> intro h;cases h
  | free=> exact absurd hx this
 have hnf: ∀ j,j < b.rows.length→(kZ n slots obs b I Pn).ob (b.fam,j)≠ .free:=by
  intro j hj
  simp only [kZ]
  cases hx:ir obs (b.fam,j) with
  | obj o'=> intro h;cases h
  | gone=> intro h;cases h
  | free=> show b.ob (b.fam,j)≠ .free;rw [Bun.ob_mem hbf hj];intro h;cases h
 have hcon: ∀ id,id∈obs.map (·.1)→id.1≠b.fam:=fun id h=> gn b5 (List.mem_cons_of_mem _ h)
 have hFm: ∀ j,bY (b.fam,j) Fz=false:=fun j=> by
  cases h:bY (b.fam,j) Fz with
  | false=> rfl
  | true=> exact absurd rfl (gn b9 (inO_iff.1 h))
 have hIm: ∀ j,bY (b.fam,j) I=false:=fun j=> by
  cases h:bY (b.fam,j) I with
  | false=> rfl
  | true=> exact absurd rfl (gn b8 (inO_iff.1 h))
 have hnd:=bb b3
 rw [List.nodup_cons] at hnd
 have hTn: ∀ c,c∈b.box::obs.map (·.1)→aS rn c≠T:=fun c hc e=> hnd.1 (e ▸ List.mem_map_of_mem hc)
 have hcf: ∀ c,c∈b.box::obs.map (·.1)→(aS rn c).1≠b.fam:=fun c hc=> gn b6 (List.mem_map_of_mem hc)
 have himg: ∀ id o,(kZ n slots obs b I Pn).ob id= .obj o→(id∈b.box::obs.map (·.1)∧rf b.fam i T rn id=aS rn id)∨(id=(b.fam,i)∧rf b.fam i T rn id=T)∨ ∃ j,j≠i∧id=(b.fam,j)∧rf b.fam i T rn id=(b.fam,j):=by
  intro id o h
  rcases hob id o h with ⟨_,h⟩ | ⟨h,_⟩ | ⟨j,h,hj,_⟩
  ·exact .inl ⟨List.mem_cons_of_mem _ h,hc0 _ (hcon _ h)⟩
  ·subst h;exact .inl ⟨List.mem_cons_self,hc0 _ hbf⟩
  subst h
  by_cases hji:j=i
  ·subst hji;exact .inr (.inl ⟨rfl,hmi'⟩)
  exact .inr (.inr ⟨j,hji,rfl,hmj j hji⟩)
 have hTj: ∀ j,j≠i→T≠(b.fam,j):=by
  intro j hj e
  rcases hT with h | h
  ·rw [h] at e;exact hj (Prod.mk.inj e).2.symm
  rw [e] at h;simp at h
 refine Le.of (rf b.fam i T rn) (fun i=> bY i Fz) hn.symm (fun t _=> pP hs t) (fun id o h=> ?_) (fun id id' o o' h h' he=> ?_) (fun id h=> ?_) (fun id o h hf=> ?_) (fun t id h=> hne id (mf b1 h)) (fun id' o id h hh=> ?_) (fun id h o hpn _=> ?_) (fun id hf=> ?_)
 ·rcases hob id o h with ⟨h,_⟩ | ⟨h,h'⟩ | ⟨j,h,hj,h'⟩
  ·exact ⟨(fm ho (cW h)).1,(fm ho (cW h)).2.1⟩
  ·subst h;subst h'
   rw [hc0 _ hbf]
   obtain ⟨cs,c1,c2,c3⟩:=hbx
   refine ⟨b11,_,c1,?_⟩
   have key: ∀ (j:Nat) (a d:AV),b.cells[j]? =some a→cs[j]? =some d→Lv (rf b.fam i T rn) σ (fun i=> bY i Fz) a d:=by
    intro j a d ha hd
    have hj:j < b.rows.length:=by rw [← b.cells_len];exact (List.getElem?_eq_some_iff.1 ha).1
    rw [b.cells_get hj] at ha
    obtain rfl:=Option.some.inj ha
    exact c3 j d hd
   unfold Bun.outer
   cases b.gr
   ·exact .box (by rw [b.cells_len,c2]) key
   exact .rowA (by rw [b.cells_len,c2]) key
  subst h;subst h'
  by_cases hji:j=i
  ·subst hji
   rw [hmi']
   obtain ⟨⟨ys,h1⟩,_⟩:=hmi hj
   exact ⟨b10,_,h1, .row rfl⟩
  rw [hmj j hji]
  obtain ⟨⟨ys,h1⟩,_⟩:=hm j hj hji
  exact ⟨hFm j,_,h1, .row rfl⟩
 ·have hcc:=bb b3'
  rcases himg id o h with ⟨m1,m2⟩ | ⟨m1,m2⟩ | ⟨j,m0,m1,m2⟩ <;> rcases himg id' o' h' with ⟨n1,n2⟩ | ⟨n1,n2⟩ | ⟨j',n0,n1,n2⟩ <;> rw [m2,n2] at he
  ·exact gB (aS rn) hnd.2 m1 n1 he
  ·exact absurd he (hTn id m1)
  ·exact absurd (by rw [he]) (hcf id m1)
  ·exact absurd he.symm (hTn id' n1)
  ·rw [m1,n1]
  ·exact absurd he (hTj j' n0)
  ·exact absurd (by rw [← he]) (hcf id' n1)
  ·exact absurd he.symm (hTj j m0)
  rw [m1,n1,he]
 ·exact mH hi (inO_iff.1 h)
 ·rcases hob id o h with ⟨h,_⟩ | ⟨h,_⟩ | ⟨j,h,hj,_⟩
  ·have:=(fm ho (cW h)).2.2
   simp only [kZ] at hf
   rw [hf] at this
   exact this
  ·subst h;rw [hc0 _ hbf];exact hbi
  subst h
  by_cases hji:j=i
  ·subst hji;rw [hmi'];exact (hmi hj).2
  rw [hmj j hji];exact (hm j hj hji).2
 ·rcases hob id' o h with ⟨h,_⟩ | ⟨_,h'⟩ | ⟨j,_,hj,h'⟩
  ·exact hne id (gF b2 (cW h) hh)
  ·subst h'
   have: ∃ a∈b.cells,Has id a:=by
    unfold Bun.outer at hh
    cases hg:b.gr <;> rw [hg] at hh <;> exact hh
   obtain ⟨a,ha,hi2⟩:=this
   simp only [Bun.cells,List.mem_map,List.mem_range] at ha
   obtain ⟨j,hj,rfl⟩:=ha
   cases hi2
   exact hnf j hj
  subst h';exact hh.elim
 ·simp only [kZ,ka] at hpn
  cases hb:bY id Pn with
  | true=> rw [hb] at hpn;obtain rfl:=Option.some.inj hpn;exact mU hp (inO_iff.1 hb)
  | false=> rw [hb] at hpn;cases hpn
 simp only [kZ,ka]
 cases hb:bY id Pn with
 | true=>
  exact absurd hf (hne id (List.mem_cons_of_mem _ (qi b4 (inO_iff.1 hb))))
 | false=> rfl

def Mi (slots:List (Nat×AV)) (obs:List (aA×Cells)) (box:aA) (fam:Nat) (T:aA) (rn:List (aA×aA)) (Fz I Pn:List aA):Bool:=
 (eo (box::obs.map (·.1)) slots && aY (box::obs.map (·.1)) obs && bg (T::(box::obs.map (·.1)).map (aS rn)) && bg (box::obs.map (·.1)) && pK Pn (obs.map (·.1)) && ek fam (box::obs.map (·.1)) && ek fam ((box::obs.map (·.1)).map (aS rn)) && ek fam (rn.map (·.1)) && ek fam I && ek fam Fz && !(bY T Fz) && !(bY (aS rn box) Fz) && !(bY box I))

section
variable {σ:St} {n:Nat} {slots:List (Nat×AV)} {obs:List (aA×Cells)} {I Pn:List aA} {bx bx0:aA} {gr:Bool} {E e:TypeId} {fam:Nat} {rows:List (List PV)}

theorem Gc {i j:Nat} {T:aA} {rn:List (aA×aA)} (h:ek fam (rn.map (·.1))=true) (hj:j≠i):rf fam i T rn (fam,j)=(fam,j):=by
 simp only [rf,fz (fun e=> hj (Prod.mk.inj e).2:(fam,j)≠(fam,i)),cond_false]
 exact qf h
theorem Cr {i:Nat} {T:aA} {rn:List (aA×aA)}:rf fam i T rn (fam,i)=T:=by simp only [rf,dq,cond_true]

theorem Jw {T:aA} {rn:List (aA×aA)} {Fz:List aA} (h:Mi slots obs bx fam T rn Fz I Pn=true):ek fam (rn.map (·.1))=true:=by
 simp only [Mi,Bool.and_eq_true] at h
 exact h.1.1.1.1.1.2
theorem Le.keepB {rows':List (List PV)} (rn:List (aA×aA)) (Fz:List aA) (hn:σ.n=n)
  (hs:nL (rf fam 0 (fam,0) rn) σ (fun i=> bY i Fz) slots) (ho:dI (rf fam 0 (fam,0) rn) σ (fun i=> bY i Fz) I obs) (hi:fu σ Fz) (hp:jl (rf fam 0 (fam,0) rn) σ Pn)
  (hb:Mi slots obs bx fam (fam,0) rn Fz I Pn=true)
  (hr:rows'=rows)
  (hbx:σ.ob (aS rn bx)= .obj ((⟨bx0,gr,E,e,fam,rows⟩:Bun).outer (⟨bx0,gr,E,e,fam,rows⟩:Bun).cells)) (hbi:σ.inc (aS rn bx)=false)
  (hfam: ∀ j,σ.ob (fam,j)=(⟨bx0,gr,E,e,fam,rows⟩:Bun).ob (fam,j)) (h0:Nat.beq bx0.1 fam=false) (hinc: ∀ j,σ.inc (fam,j)=false):Le (kZ n slots obs ⟨bx,gr,E,e,fam,rows'⟩ I Pn) σ:=by
 subst hr
 have h0':bx0.1≠fam:=fun h=> by rw [h] at h0;simp at h0
 have hall: ∀ j,rf fam 0 (fam,0) rn (fam,j)=(fam,j):=fun j=> by
  by_cases h:j=0
  ·subst h;exact Cr
  exact Gc (Jw hb) h
 have hm: ∀ j,j < rows'.length→(∃ ys,σ.ob (fam,j)= .obj (.row e 1 (rows'.getD j []++ys)))∧σ.inc (fam,j)=false:=fun j hj=>
  ⟨⟨[],by rw [hfam j,List.append_nil];exact Bun.ob_mem (b:=⟨bx0,gr,E,e,fam,rows'⟩) h0' hj⟩,hinc j⟩
 refine Le.genB 0 (fam,0) rn Fz hn hs ho hi hp (.inl rfl) hb ⟨_,hbx,Bun.cells_len _,fun j a ha=> ?_⟩ hbi (fun j hj _=> hm j hj) fun h=> hm 0 h
 have hj:j < rows'.length:=by
  have:=(List.getElem?_eq_some_iff.1 ha).1
  rwa [Bun.cells_len] at this
 rw [Bun.cells_get _ hj] at ha
 obtain rfl:=Option.some.inj ha
 exact cf (hall j) rfl
end

theorem RowOk.imp {w:World} {B:fe} {e:TypeId} {n:Nat} {R R':Nat→Value→Prop} (h:RowOk w B e n R) (hR: ∀ j u,R j u→R' j u):RowOk w B e n R':=h.next (fun _ _=> rfl) hR
def HU:List (Nat×Value)→Act→Act
 | [],a=> a
 | (t,v)::l,a=> HU l (a.put (some t) v)
def HM:List (Nat×Value)→St→St
 | [],σ=> σ
 | (t,v)::l,σ=> HM l (σ.put (some t) (.v v))
theorem RelI.puts {K:mm} {ι:aA→Option fe} {S:Nat→Prop} {w:World}: ∀ (l:List (Nat×Value)) {σ:St} {a:Act},RelI K ι S σ a w→RelI K ι S (HM l σ) (HU l a) w
 | [],_,_,R=> R
 | (t,v)::l,_,_,R=> RelI.puts l (R.put (some t) (av:= .v v) .v fun i hi=> eO hi)

theorem dB {i:aA} {l:List aA}:bY i (i::l)=true:=inO_iff.2 List.mem_cons_self
theorem em {σ τ:St} {W:List Nat} {I own:List aA} {ops:List Oper} {rs:List Res} {dp:List Nat} {i:aA} {s:Slot} (hd:po rs dp 0 i=none) (ho:bY i own=true) (hs:σ.ob i=s):(eA σ W I own ops rs dp τ).ob i=s:=by
 simp only [eA,hd,ho,Bool.not_true,Bool.and_false,cond_false]
 exact hs

theorem Le.frzPt {σ:St} (t:Nat) {id:aA} {off:Nat} {e:TypeId} {xs:List AV} {ys:List PV} (hr:σ.fr t= .ptr id off) (hid:σ.ob id= .obj (.box e xs)) (hi:σ.inc id=false) (hy:lF xs=some ys):
  Le ((σ.setOb id .gone).put (some t) (.fp off ys)) σ:=by
 intro K ι S a w R
 have hob: ∀ i o,((σ.setOb id .gone).put (some t) (.fp off ys)).ob i= .obj o→gu i id=false∧σ.ob i= .obj o:=by
  intro i o h
  rw [St.put_ob] at h
  simp only [St.setOb] at h
  cases hb:gu i id with
  | true=> rw [hb] at h;cases h
  | false=> rw [hb] at h;exact ⟨rfl,h⟩
 have hnf: ∀ i,σ.ob i≠ .free→((σ.setOb id .gone).put (some t) (.fp off ys)).ob i≠ .free:=by
  intro i h h'
  rw [St.put_ob] at h'
  simp only [St.setOb] at h'
  cases hb:gu i id with
  | true=> rw [hb] at h';cases h'
  | false=> rw [hb] at h';exact h h'
 refine Le.of (fun i=> i) (fun i=> gu i id) (by rw [St.put_n];rfl) (fun u hu=> ?_) (fun i o h=> ?_) (fun _ _ _ _ _ _ h=> h) (fun i h=> ?_) (fun i o h h'=> ?_) (fun u i h=> ?_) (fun i o j h h'=> ?_) (fun i h o hp ho=> ?_) (fun i h=> ?_) K ι S a w R
 ·show Lv _ _ _ (bif Nat.beq u t then _ else σ.fr u) _
  cases hb:Nat.beq u t with
  | true=> rw [Nat.eq_of_beq_eq_true hb,hr];exact .frzP hid (dq id) hy
  | false=> exact Lv.same _
 ·obtain ⟨h1,h2⟩:=hob i o h
  exact ⟨h1,o,h2,LvO.same o⟩
 ·rw [oeq_iff.1 h];exact hi
 ·exact h'
 ·replace h:Has i (bif Nat.beq u t then _ else σ.fr u):=h
  cases hb:Nat.beq u t with
  | true=> rw [hb] at h;cases h
  | false=> rw [hb] at h;exact hnf i (R.cl u i h)
 ·exact hnf j (R.clo i o j (hob i o h).2 h')
 ·exact hp
 refine R.pf i ?_
 rw [St.put_ob] at h
 simp only [St.setOb] at h
 cases hb:gu i id with
 | true=> rw [hb] at h;cases h
 | false=> rw [hb] at h;exact h

theorem Stp.le {P:Program} {d:Option Tmp} {op:Op} {ty:TypeId} {σ σ1 σ2:St} (h:Stp P d op ty σ σ1) (hl:Le σ2 σ1):Stp P d op ty σ σ2:=by
 intro o h1 h2 h3 K ι S a w R
 have h4:=h o h1 h2 h3 K ι S a w R
 unfold fh at h4 ⊢
 generalize (execOp a.eval o).run P w=r at h4 ⊢
 match r,h4 with
 | .ok (.value v) w',⟨ι',S',R'⟩=> exact hl K ι' S' _ _ R'
 | .ok .skip w',⟨ι',S',R'⟩=> exact hl K ι' S' _ _ R'
 | .ok (.enter f args) w',h5=> exact h5.mono fun e w'' ⟨v,he,ι',S',R'⟩=> ⟨v,he,hl K ι' S' _ _ R'⟩
theorem wG {P:Program} {σ:St} {z:List Value} {T e:TypeId} {size bytes:Nat} {d:Tmp} {ty:TypeId} (id':aA) (s x:Operand) (E:Elem P T e size bytes z) {id:aA} {n:Nat} {xs:List PV} (hs:σ.eval s= .ref id 0 n) (hid:σ.ob id= .obj (.row e size xs)) (hl:n*size=xs.length) {m:Nat} {news:List PV} (hx:SrcAV σ (σ.eval x) size m news) (hb:(n+m)*bytes≤140737488355328) (hid':σ.ob id'= .free)
  (hi:σ.inc id=false) (hi':σ.inc id'=false) {ys:List PV} (hy:xs++news=ys) {k:Nat} (hk:n+m=k):Stp P (some d) (.call { callee:= .builtin .append,args:= #[s,x],argTypes:= #[T,T] }) ty σ (((σ.setOb id .gone).setOb id' .gone).put (some d) (.sl k ys)):=by
 have h:=tu (P:=P) (dd:=some d) (ty:=ty) id' s x E hs hid hl hx hb hid' hi hi' hy hk
 have hlen:k*size=ys.length:=by
  have h1:news.length=m*size:=by
   generalize σ.eval x=u at hx
   cases hx with
   | sl h=> exact h
   | nil=> simp
   | ref hid hn hl=> rw [← hn,List.length_take,List.length_drop];omega
  rw [← hy,← hk,List.length_append,← hl,h1,Nat.add_mul]
 have h2:=Le.frzS (σ:=(((σ.setOb id .gone).setOb id' (.obj (.row e size ys))).put (some d) (.ref id' 0 k))) d (id:=id') (off:=0) (n:=k) (e:=e) (sz:=size) (xs:=ys) (ys:=ys)
  (by simp [St.put]) (by rw [St.put_ob,St.setOb_same]) hi' (by rw [List.drop_zero];exact List.take_of_length_le ab) ab
 refine (Stp.le h h2:Stp P (some d) _ ty σ _) |> fun h=> ?_
 have e1:((((σ.setOb id .gone).setOb id' (.obj (.row e size ys))).put (some d) (.ref id' 0 k)).setOb id' .gone).put (some d) (.sl k ys)=((σ.setOb id .gone).setOb id' .gone).put (some d) (.sl k ys):=by
  refine St.eq rfl (fun t=> ?_) (fun i=> ?_) rfl rfl
  ·simp only [St.put,St.setOb]
   cases Nat.beq t d <;> rfl
  simp only [St.put,St.setOb]
  cases gu i id' <;> rfl
 rwa [e1] at h

section
variable {σ:St} {F:aA→Bool} {b:AV}
theorem iV {x:Value} (h:b= .v x):Lv (aS []) σ F (.v x) b:=iG h
theorem iS {n:Nat} {xs:List PV} (h:b= .sl n xs):Lv (aS []) σ F (.sl n xs) b:=iG h
theorem iR {id:aA} {off n:Nat} (h:b= .ref id off n):Lv (aS []) σ F (.ref id off n) b:=iG h
theorem iP {id:aA} {off:Nat} (h:b= .ptr id off):Lv (aS []) σ F (.ptr id off) b:=iG h
theorem iF {off:Nat} {xs:List PV} (h:b= .fp off xs):Lv (aS []) σ F (.fp off xs) b:=iG h
theorem iA {xs:List AV} (h:b= .agg xs):Lv (aS []) σ F (.agg xs) b:=iG h
theorem iN {f:Fn} {xs ys:List AV} (h:b= .fn f xs ys):Lv (aS []) σ F (.fn f xs ys) b:=iG h
theorem iI {t:TypeId} {x:AV} (h:b= .ifc t x):Lv (aS []) σ F (.ifc t x) b:=iG h
theorem iT {xs:List AV} (h:b= .tup xs):Lv (aS []) σ F (.tup xs) b:=iG h
theorem iM {id:aA} (h:b= .mp id):Lv (aS []) σ F (.mp id) b:=iG h
theorem iZ (h:b= .z):Lv (aS []) σ F .z b:=iG h
theorem iD (h:b= .dead):Lv (aS []) σ F .dead b:=iG h
end

class kb (b:Bool) (p q:outParam Prop):Prop where
 t:b=true→p
 f:b=false→q
instance (priority:=10) boolAny (b:Bool):kb b (b=true) (b=false):=⟨id,id⟩
instance (priority:=20) boolDec (p:Prop) [Decidable p]:kb (decide p) p (¬ p):=⟨of_decide_eq_true,of_decide_eq_false⟩
instance NG (a b:Int) [Decidable (a < b)]:kb (decide (a < b)) (a < b) (b≤a):=⟨of_decide_eq_true,fun h=> Int.not_lt.1 (of_decide_eq_false h)⟩
instance NX (a b:Int) [Decidable (a≤b)]:kb (decide (a≤b)) (a≤b) (b < a):=⟨of_decide_eq_true,fun h=> Int.not_le.1 (of_decide_eq_false h)⟩
instance Nx (a b:Int):kb (a==b) (a=b) (¬ a=b):=⟨beq_iff_eq.1,beq_eq_false_iff_ne.1⟩
instance Oj (a b:Int):kb (a !=b) (¬ a=b) (a=b):=⟨bne_iff_ne.1,bne_eq_false_iff_eq.1⟩
instance LB (b:Bool) (p q:Prop) [h:kb b p q]:kb (!b) q p:=⟨fun e=> h.f (by simpa using e),fun e=> h.t (by simpa using e)⟩
theorem ay {rb:Bool} {P:Program} {Q:Exit→St→Prop} {σ:St} {x:Operand} {t e:Code} {b:Bool} {p q:Prop} [h:kb b p q] (hx:σ.eval x= .v (.bool b)) (h1:p→D rb P t Q σ) (h2:q→D rb P e Q σ):D rb P (.cond x t e) Q σ:=
 Ht hx (fun e=> h1 (h.t e)) (fun e=> h2 (h.f e))
theorem cA {rb:Bool} {P:Program} {Q:Exit→St→Prop} {σ:St} {ops:Array Oper} {rest:List Oper} {d:Nat} {b:Bool} {p q:Prop} [h:kb b p q] (h1:p→DL rb P ops Q rest (σ.put (some d) (.v (.bool true)))) (h2:q→DL rb P ops Q rest (σ.put (some d) (.v (.bool false)))):DL rb P ops Q rest (σ.put (some d) (.v (.bool b))):=
 Dw (fun e=> h1 (h.t e)) (fun e=> h2 (h.f e))
theorem oR {P:Program} {σ:St} {all:List Oper} {W:List Nat} {I:List aA} {AA:List (List aA)} {Kont:List Res→Prop} {os:List Oper} {rs:List Res} {b:Bool} {p q:Prop} [h:kb b p q] (h1:p→AnyOps P all W I AA σ Kont os (rs++[(.v (.bool true),[])])) (h2:q→AnyOps P all W I AA σ Kont os (rs++[(.v (.bool false),[])])):
  AnyOps P all W I AA σ Kont os (rs++[(.v (.bool b),[])]):=yX (fun e=> h1 (h.t e)) (fun e=> h2 (h.f e))

section
variable {P:Program} {σ τ:St}
variable {o:Oper}
theorem Spec.named {f:FuncId} {σ0:St} (id:aA) {n:Nat} {e:TypeId} {sz:Nat} {xs:List PV} (h:Spec P f σ0 (aC (.ref (0,8) 0 n) [((0,8), .row e sz xs)])):Spec P f σ0 (aC (.ref id 0 n) [(id, .row e sz xs)]):=by
 have h1:aS [(id,(0,8))] id=(0,8):=by simp [aS,dq]
 have h2:bY id [id]=true:=by simp [bY,dq]
 refine h.mono (Le.outO (I:=[]) (Pn:=[]) [(id,(0,8))] [] (cf h1 rfl) ?_ rfl ?_ trivial ⟨⟨?_,⟨_,?_, .rowE rfl⟩,?_⟩,trivial⟩)
 ·simp [AV.within,h2]
 ·simp [bg,bY]
 ·rfl
 ·rw [h1];rfl
 rfl
end

def jY:List (Int×Value)→Nat→List MapEntry
 | [],_=> []
 | p::l,i=> ⟨.int .i64 p.1,p.2,i⟩::jY l (i+1)
def eC (M:List (Int×Value)):List MapEntry:=jY M 0
theorem rY: ∀ (M:List (Int×Value)) (i:Nat),(jY M i).length=M.length
 | [],_=> rfl
 | p::l,i=> by simp [jY,rY l]
@[simp] theorem DA (M:List (Int×Value)):(eC M).length=M.length:=rY M 0
theorem sg: ∀ (M:List (Int×Value)) (i j:Nat),(jY M i)[j]? =(M[j]?).map fun p=> ⟨.int .i64 p.1,p.2,i+j⟩
 | [],_,_=> by simp [jY]
 | p::l,i,0=> by simp [jY]
 | p::l,i,j+1=> by
  simp only [jY,List.getElem?_cons_succ,sg l]
  rw [show i+1+j=i+(j+1) by omega]
theorem kh (M:List (Int×Value)) (j:Nat):(eC M)[j]? =(M[j]?).map fun p=> ⟨.int .i64 p.1,p.2,j⟩:=by rw [eC,sg,Nat.zero_add]
theorem sa: ∀ (M:List (Int×Value)) (p:Int×Value) (i:Nat),jY (M++[p]) i=jY M i++[⟨.int .i64 p.1,p.2,i+M.length⟩]
 | [],p,i=> rfl
 | q::l,p,i=> by
  simp only [List.cons_append,jY,sa l,List.length_cons]
  rw [show i+1+l.length=i+(l.length+1) by omega]
theorem Dx (M:List (Int×Value)) (p:Int×Value):eC (M++[p])=eC M++[⟨.int .i64 p.1,p.2,M.length⟩]:=by rw [eC,sa,Nat.zero_add];rfl
def nD (k:Int):List (Int×Value)→Nat→Option (Nat×Value)
 | [],_=> none
 | p::l,i=> if k=p.1 then some (i,p.2) else nD k l (i+1)
def nM (M:List (Int×Value)) (k:Int):Option Value:=(nD k M 0).map (·.2)
theorem nj (k:Int): ∀ (M:List (Int×Value)) (b i:Nat),Instr.findNow (.int .i64) (.int .i64 k) (jY M b) i=some (nD k M i)
 | [],_,_=> rfl
 | p::l,b,i=> by
  simp only [jY,Instr.findNow,Instr.sameNow,if_true,nD]
  by_cases h:k=p.1
  ·simp [h]
  simp only [beq_eq_false_iff_ne.2 h,if_neg h]
  exact nj k l (b+1) (i+1)

variable {P:Program} {T k e:TypeId}
theorem yP {w:World} {b:Bool} {v:Value} (hk:P.underlying k=some (.int .i64)):(Instr.checkKey b 10000 k v).run P w= .ok () w:=by
 rw [show (10000:Nat)=9999+1 from rfl,Instr.checkKey]
 simp [run_underlying hk]
theorem yz {w:World} {M:List (Int×Value)} {x:Int} (hk:P.underlying k=some (.int .i64)):(Instr.findKey k (.int .i64 x) (eC M)).run P w= .ok (nD x M 0) w:=by
 simp [Instr.findKey,run_underlying hk,eC,nj]
theorem DT {w:World} {g:Nat} {M:List (Int×Value)} {x:Int} {v:Value} (hT:P.underlying T=some (.map k e)) (hk:P.underlying k=some (.int .i64)) (hb:w.heap[g]? =some (.map (eC M).toArray M.length)) (hm:nM M x=none):
  (Instr.mapUpdate T (.map (some g)) (.int .i64 x) v).run P w= .ok () (w.putObj g (.map (eC (M++[(x,v)])).toArray (M++[(x,v)]).length)):=by
 have hf:nD x M 0=none:=by
  unfold nM at hm
  cases h:nD x M 0 with
  | none=> rfl
  | some p=> rw [h] at hm;cases hm
 simp only [Instr.mapUpdate,Sem.run_bind,run_underlying hT,Result.andThen_ok,getObj,setObj,Sem.run,hb,Result.andThen,yP hk,yz hk,hf,Dx]
 simp [World.putObj]

section
variable {σ:St}
theorem RelI.mapAt {K:mm} {ι:aA→Option fe} {S:Nat→Prop} {a:Act} {w:World} (R:RelI K ι S σ a w) {x:Operand} {id:aA} (hx:σ.eval x= .mp id) {es:List MapEntry} {c:Nat} (hid:σ.ob id= .obj (.mp es c)):
  ∃ B g,ι id=some B∧B.g=some g∧a.eval x= .map (some g)∧w.heap[g]? =some (.map es.toArray c):=by
 obtain ⟨B,g,h1,h2,h3⟩:=R.ob id _ hid
 have hr:=R.eval x
 rw [hx] at hr
 generalize hu:a.eval x=u at hr
 cases hr with
 | mp h _=>
  obtain ⟨g',hg',rfl⟩:=h B h1
  rw [h2] at hg'
  obtain rfl:=Option.some.inj hg'
  exact ⟨B,g,h1,h2,rfl,h3⟩
theorem Ju {dd:Option Tmp} {ty:TypeId} (id:aA) (hid:σ.ob id= .free):Stp P dd (.makeMap T none) ty σ ((σ.setOb id (.obj (.mp [] 0))).put dd (.mp id)):=by
 intro o hd ho ht
 subst hd
 intro K ι S a w R
 have hrun:(execOp a.eval o).run P w= .ok (.value (.map (some w.heap.size))) (w.alloc (.map #[] 0)):=by
  simp [execOp,ho,Instr.makeMap,newObj];rfl
 have R1:=R.new (id:=id) (o:= .mp [] 0) (B:=⟨some w.heap.size,0,0⟩) hid ((Below.refl _ _).alloc (Nat.le_refl _) _) (fun g hg=> by obtain rfl:=Option.some.inj hg;exact Nat.le_refl _)
  ⟨_,_,ci _ _ _,rfl,heap_alloc_new w _⟩ (fun i hi=> hi.elim)
 refine bH hrun ⟨_,S,R1.put o.dst (.mp (fun B hB=> ?_) rfl) fun i hi=> ?_⟩
 ·rw [ci] at hB
  obtain rfl:=Option.some.inj hB
  exact ⟨_,rfl,rfl⟩
 cases hi;rw [St.setOb_same];intro h;cases h
def Kv (P:Program) (d:Option Tmp) (op:Op) (ty:TypeId) (σ:St) (Φ:St→Prop):Prop:= ∀ o:Oper,o.dst=d→o.op=op→o.type=ty→ ∀ K ι S a w,RelI K ι S σ a w→fh P o a.eval w fun v w'=> ∃ σ',Φ σ'∧ ∃ ι' S',RelI K ι' S' σ' (a.put o.dst v) w'
theorem EC {rb:Bool} {Q:Exit→St→Prop} {ops:Array Oper} {rest:List Oper} {Φ:St→Prop} {d:Option Tmp} {op:Op} {ty:TypeId} {p:String} {af:Array Edge} (hs:Kv P d op ty σ Φ) (h: ∀ σ',Φ σ'→DL rb P ops Q rest σ'):DL rb P ops Q (⟨d,op,ty,p,af,none⟩::rest) σ:=by
 intro K a w hr ⟨ι,S,R⟩
 refine wpListIn_plain rfl fun Kx hK=> dT (hs _ rfl rfl rfl K ι S a w R) ?_
 rintro v w' ⟨σ',hΦ,ι',S',R'⟩
 exact hK _ _ (h σ' hΦ K _ _ hr ⟨ι',S',R'⟩)
end
end Go.Proofs.YtmjnackchaahbaaGreat
