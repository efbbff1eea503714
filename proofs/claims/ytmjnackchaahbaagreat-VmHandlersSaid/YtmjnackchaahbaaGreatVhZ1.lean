/- part 1 -/
import Derived.Test.YtmjnackchaahbaaGreatRows
import Derived.WalkKit
import Derived.OrdersIn
import Derived.RangeFuncNested
import Derived.RangeFuncLeaves
import Derived.RangeFuncBox
import Derived.Laws.CopyOwn
import Derived.Laws.AppendOwnNone
import Derived.Lib.Hide
import Derived.WalkSpells
import Derived.Deep.DeepMust
import Derived.Deep.QuietTactic
import Derived.BigQuiet
import Derived.StillTailTactics
import Derived.Deep.RegionHeld3
import Derived.WalkLawsBesides
set_option linter.unusedSimpArgs false
set_option linter.unusedVariables false
namespace Go.Proofs.YtmjnackchaahbaaGreat
open Go.RowKit
abbrev aa := @inferInstance.{0}
theorem ab {p:Prop} (h:p:=by omega):p:=h
theorem ae {p:Prop} (h:p:=by kernel_rfl):p:=h
theorem ag {p:Prop} (h:p:=by rfl):p:=h
theorem ah {p:Prop} (h:p:=by decide):p:=h

class Elem (P:Program) (T:TypeId) (e:outParam TypeId) (size bytes:outParam Nat) (z:outParam (List Value)):Prop where
  und:P.underlying T=some (.slice e)
  info: ∃ i zv,P.info? e=some i∧i.zero=some zv∧i.size=size∧i.bytes=bytes∧zv.cells=z.toArray
  len:z.length=size
  pos:0 < size
  bpos:0 < bytes
  one: ∀ u∈z,u.oneCell'=true

theorem Elem.of {P:Program} {T e:TypeId} {size bytes:Nat} {z:List Value} (zv:Value) (h1:P.underlying T=some (.slice e))
    (h2:(P.info? e).map (fun i=> (i.zero,i.size,i.bytes))=some (some zv,size,bytes)) (h3:zv.cells=z.toArray) (h4:z.length=size) (h5:0 < size) (h6:0 < bytes)
    (h7: ∀ u∈z,u.oneCell'=true):Elem P T e size bytes z:=by
  obtain ⟨i,hi,a,b,c⟩:=info_parts h2
  exact ⟨h1,⟨i,zv,hi,a,b,c,h3⟩,h4,h5,h6,h7⟩

def rep (n:Nat) (z:List Value):List Value:=(List.replicate n z).flatten
theorem vz (n:Nat) (z:List Value):(rep n z).length=n*z.length:=by simp [rep]
theorem EH (n:Nat) (u:Value):rep n [u]=List.replicate n u:=by
  simp only [rep,List.flatten_replicate_singleton]

theorem getElem?_rep (n:Nat) (z:List Value) (hz:0 < z.length): ∀ j,(rep n z)[j]? =if j < n*z.length then z[j % z.length]? else none:=by
  induction n with
  | zero=> intro j;simp [rep]
  | succ n ih=>
    intro j
    have e:rep (n+1) z=z++rep n z:=by simp [rep,List.replicate_succ]
    rw [e,List.getElem?_append]
    by_cases h:j < z.length
    · rw [if_pos h,if_pos (by rw [Nat.add_mul];omega),Nat.mod_eq_of_lt h]
    rw [if_neg h,ih]
    have e2:(j - z.length) % z.length=j % z.length:=by
      conv=> rhs;rw [show j=(j - z.length)+z.length by omega,Nat.add_mod_right]
    rw [e2]
    by_cases h3:j < (n+1)*z.length
    · rw [if_pos h3,if_pos (by rw [Nat.add_mul] at h3;omega)]
    rw [if_neg h3,if_neg (by rw [Nat.add_mul] at h3;omega)]

theorem qn (z:List Value) (n:Nat) (hz:0 < z.length):(madeCells z.toArray (n*z.length)).toList=rep n z:=by
  apply List.ext_getElem?
  intro j
  rw [getElem?_rep n z hz]
  by_cases hj:j < n*z.length
  · rw [if_pos hj]
    simp [madeCells,hj,Nat.mod_lt _ hz]
  simp [madeCells,hj]

def Sl (w:World) (sz:Nat) (v:Value) (n:Nat) (xs:List Value):Prop:=
  ∃ ao c,v= .slice ao n c∧n≤c∧c≤maxLen∧xs.length=n*sz∧(∀ u∈xs,u.oneCell'=true)∧(ao=none→n=0∧c=0)∧
    (0 < n→ ∃ b off,ao=some ⟨b,off,none⟩)∧ ∀ ad,ao=some ad→ ∀ j u,xs[j]? =some u→w.cell? (ad.add j)=some u

theorem Sl.below {w w':World} {sz:Nat} {v:Value} {n:Nat} {xs:List Value} (h:Sl w sz v n xs) (hb:Below w.heap.size w w'):Sl w' sz v n xs:=by
  obtain ⟨ao,c,h1,h2,h3,h4,h5,h6,h7,h8⟩:=h
  refine ⟨ao,c,h1,h2,h3,h4,h5,h6,h7,fun ad had j u hu=> ?_⟩
  have:=h8 ad had j u hu
  rw [hb.cell (World.block_lt_of_cell? w _ this)];exact this

theorem Sl.grown {w w':World} {sz:Nat} {v:Value} {n:Nat} {xs:List Value} {row:Option Nat} (h:Sl w sz v n xs) (hb:w.grownBy w' row) (hne:v.ownBlock=none∨v.ownBlock≠row):Sl w' sz v n xs:=by
  obtain ⟨ao,c,rfl,h2,h3,h4,h5,h6,h7,h8⟩:=h
  refine ⟨ao,c,rfl,h2,h3,h4,h5,h6,h7,fun ad had j u hu=> ?_⟩
  have:=h8 ad had j u hu
  subst had
  refine hb.cell this ?_
  rcases hne with h | h
  · simp [Value.ownBlock] at h
  have e:(ad.add j).block=ad.block:=by unfold Addr.add;split <;> rfl
  rw [e];simpa [Value.ownBlock] using h

theorem Sl.len {w:World} {sz:Nat} {v:Value} {n:Nat} {xs:List Value} (h:Sl w sz v n xs):xs.length=n*sz:=by obtain ⟨_,_,_,_,_,h,_⟩:=h;exact h

theorem Jf {w:World} {base:Nat} {e:TypeId} {size:Nat} {v:Value} {n:Nat} {xs:List Value} (h:w.ownsRow base e size v n xs) (h1: ∀ u∈xs,u.oneCell'=true):Sl w size v n xs:=by
  rcases h.2 with ⟨rfl,rfl⟩ | ⟨g,cap,cur,rfl,hb,hg,hnc,hcm,hcs,htake⟩
  · exact ⟨none,0,rfl,Nat.le_refl _,by simp,h.1,h1,fun _=> ⟨rfl,rfl⟩,fun h=> absurd h ab,by simp⟩
  refine ⟨some ⟨g,0,none⟩,cap,rfl,hnc,hcm,h.1,h1,by simp,fun _=> ⟨g,0,rfl⟩,fun ad had j u hu=> ?_⟩
  obtain rfl:=Option.some.inj had
  exact h.cells (g:=g) rfl j u hu

theorem pG {w:World} {base base':Nat} {e:TypeId} {size:Nat} {v:Value} {n:Nat} {xs:List Value} (h:w.ownsRow base e size v n xs) (hb:base'≤base):w.ownsRow base' e size v n xs:=by
  refine ⟨h.1,?_⟩
  rcases h.2 with h2 | ⟨g,cap,cur,a,b,r⟩
  · exact .inl h2
  exact .inr ⟨g,cap,cur,a,by omega,r⟩

theorem xi {w w':World} {B base:Nat} {e:TypeId} {size:Nat} {v:Value} {n:Nat} {xs:List Value} (h:w.ownsRow base e size v n xs) (hb:Below B w w') (hB:w.heap.size≤B):w'.ownsRow base e size v n xs:=by
  refine ⟨h.1,?_⟩
  rcases h.2 with h2 | ⟨g,cap,cur,a,b,c,r⟩
  · exact .inl h2
  exact .inr ⟨g,cap,cur,a,b,by rw [hb.block g (Nat.lt_of_lt_of_le (Array.getElem?_eq_some_iff.1 c).1 hB)];exact c,r⟩

section
variable {P:Program} {w:World} {ops:Array Oper} {rest:List Oper} {o:Oper} {a:Act} {Q:Exit→Act→World→Prop}
  {T e:TypeId} {size bytes:Nat} {z:List Value}

def IP (w:World) (v v':Value):Prop:=v'.ownBlock=v.ownBlock∨ ∃ k,v'.ownBlock=some k∧w.heap.size≤k

theorem rI [E:Elem P T e size bytes z] (ty:TypeId) (base:Nat) (v:Value) (n:Nat) (xs:List Value) (hown:w.ownsRow base e size v n xs)
    (vx:Value) (m:Nat) (news:List Value) (hsl:Sl w size vx m news) (hb:(n+m)*bytes≤140737488355328) (hbase:base≤w.heap.size):
    ∃ v' w',(Builtin.append_ #[T,T] ty #[v,vx]).run P w= .ok v' w'∧w'.ownsRow base e size v' (n+m) (xs++news)∧w.grownBy w' v.ownBlock∧
      (v'= .slice none 0 0↔v= .slice none 0 0∧m=0)∧IP w v v':=by
  obtain ⟨i,zv,hi,hz,hs,hby,hzc⟩:=E.info
  have hm:n+m≤maxLen:=by
    have:(n+m)*1≤(n+m)*bytes:=Nat.mul_le_mul_left _ E.bpos
    unfold maxLen;omega
  obtain ⟨ao,c,rfl,hmc,hcm,hln,hone,hnil,hpos,hcells⟩:=hsl
  cases ao with
  | none=>
    obtain ⟨rfl,rfl⟩:=hnil rfl
    obtain rfl:news=[]:=List.eq_nil_of_length_eq_zero (by simpa using hln)
    refine ⟨v,w,run_append_owned_none w base T ty e i size E.und hi v n xs hown,by simpa using hown,World.grownBy.refl _ _,by simp, .inl rfl⟩
  | some ad=>
    by_cases hroom: ∃ g cap,v= .slice (some ⟨g,0,none⟩) n cap∧n+m≤cap
    · obtain ⟨g,cap,rfl,hr⟩:=hroom
      obtain ⟨w',h1,h2,h3⟩:=run_append_fits w base T ty e i size E.und hi hs g n cap xs hown ad m c news hln (hcells ad rfl) hone hr
      exact ⟨_,w',h1,h2,h3,by simp, .inl rfl⟩
    rcases hown.2 with ⟨rfl,rfl⟩ | ⟨g,cap,cur,rfl,hbg,hg,hnc,hcm',hcs,htake⟩
    · obtain ⟨v',w',h1,h2,h3,h4⟩:=run_append_own (P:=P) w w.heap.size T ty e i zv size bytes E.und hi hz hs hby (by rw [hzc];simpa using E.len) E.pos _ 0 xs
        ⟨hown.1, .inl ⟨rfl,rfl⟩⟩ ad m c news hln (hcells ad rfl) hone hm hb (Nat.le_refl _)
      refine ⟨v',w',h1,pG h2 hbase,h3,h4,?_⟩
      cases hv:v'.ownBlock with
      | none=> exact .inl hv
      | some k=> exact .inr ⟨k,hv,(h2.lt k hv).1⟩
    have hgr:cap < n+m:=by
      rcases Nat.lt_or_ge cap (n+m) with h | h
      · exact h
      exact absurd ⟨g,cap,rfl,h⟩ hroom
    obtain ⟨v',w',h1,h2,h3,h4⟩:=run_append_own (P:=P) w base T ty e i zv size bytes E.und hi hz hs hby (by rw [hzc];simpa using E.len) E.pos _ n xs hown ad m c news hln (hcells ad rfl) hone hm hb hbase
    refine ⟨v',w',h1,h2,h3,h4, .inr ?_⟩
    have holds: ∀ j u,xs[j]? =some u→w.cell? ((⟨g,0,none⟩:Addr).add j)=some u:=hown.cells (g:=g) rfl
    have hr:=run_append_grow (P:=P) w T ty e i zv E.und hi hz ⟨g,0,none⟩ n cap xs (by rw [hs];exact hown.1) holds ad m c news (by rw [hs];exact hln) (hcells ad rfl) hgr (by unfold maxLen at hm;omega) (by rw [hby];exact growslice_fits hgr hb)
    rw [hr] at h1
    obtain ⟨rfl,_⟩:=Result.ok.inj h1
    exact ⟨_,rfl,Nat.le_refl _⟩

end


inductive Ent where
  | box (g:Nat) (cs:List Value) (e:TypeId)
  | row (v:Value) (e:TypeId) (sz n:Nat) (xs:List Value)
  | sl (v:Value) (sz n:Nat) (xs:List Value)

def Ent.block:Ent→Option Nat
  | .box g _ _=> some g
  | .row v _ _ _ _=> v.ownBlock
  | .sl v _ _ xs=> if xs=[] then none else v.ownBlock

def Ent.ok (B:Nat) (w:World):Ent→Prop
  | .box g cs e=> B≤g∧w.heap[g]? =some (.cells cs.toArray e (0,0))∧ ∀ u∈cs,u.oneCell'=true
  | .row v e sz n xs=> w.ownsRow B e sz v n xs∧ ∀ u∈xs,u.oneCell'=true
  | .sl v sz n xs=> Sl w sz v n xs

def Ent.read:Ent→Prop
  | .sl _ _ _ _=> True
  | _=> False

def Ent.apart (x y:Ent):Prop:=(x.read∧y.read)∨x.block=none∨x.block≠y.block

theorem Ent.apart_symm {x y:Ent} (h:x.apart y):y.apart x:=by
  rcases h with h | h | h
  · exact .inl ⟨h.2,h.1⟩
  · cases hy:y.block with
    | none=> exact .inr (.inl hy)
    | some k=> exact .inr (.inr (by rw [h,hy];simp))
  exact .inr (.inr (Ne.symm h))

structure SH (w0 w:World) (l:List Ent):Prop where
  below:Below w0.heap.size w0 w
  ok: ∀ x∈l,x.ok w0.heap.size w
  apart:l.Pairwise Ent.apart

theorem Sl.lt {w:World} {sz:Nat} {v:Value} {n:Nat} {xs:List Value} (h:Sl w sz v n xs) (hpos:0 < xs.length): ∀ k,v.ownBlock=some k→k < w.heap.size:=by
  obtain ⟨ao,c,rfl,h2,h3,h4,h5,h6,h7,h8⟩:=h
  intro k hk
  cases ao with
  | none=> simp [Value.ownBlock] at hk
  | some ad=>
    simp [Value.ownBlock] at hk
    subst hk
    have:=World.block_lt_of_cell? w _ (h8 ad rfl 0 _ (List.getElem?_eq_getElem hpos))
    have e:(ad.add 0).block=ad.block:=rfl
    rwa [e] at this

theorem Sl.empty {w w':World} {sz:Nat} {v:Value} {n:Nat} {xs:List Value} (h:Sl w sz v n xs) (h0:xs=[]):Sl w' sz v n xs:=by
  obtain ⟨ao,c,h1,h2,h3,h4,h5,h6,h7,h8⟩:=h
  exact ⟨ao,c,h1,h2,h3,h4,h5,h6,h7,fun ad _ j u hu=> by rw [h0] at hu;simp at hu⟩

theorem Ent.ok_grown {B:Nat} {w w':World} {row:Option Nat} {x:Ent} (h:x.ok B w) (hg:w.grownBy w' row) (hne:x.block=none∨x.block≠row):x.ok B w':=by
  cases x with
  | box g cs e=>
    obtain ⟨h1,h2,h3⟩:=h
    refine ⟨h1,?_,h3⟩
    rw [hg.block g (Array.getElem?_eq_some_iff.1 h2).1 (by rcases hne with h | h <;> simp [Ent.block] at h;simpa using h)]
    exact h2
  | row v e sz n xs=> exact ⟨h.1.kept hg hne,h.2⟩
  | sl v sz n xs=>
    by_cases h0:xs=[]
    · exact Sl.empty h h0
    exact Sl.grown h hg (by simpa [Ent.block,h0] using hne)

theorem Ent.ok_below {B B':Nat} {w w':World} {x:Ent} (h:x.ok B w) (hb:Below w.heap.size w w'):x.ok B w':=by
  cases x with
  | box g cs e=>
    obtain ⟨h1,h2,h3⟩:=h
    refine ⟨h1,?_,h3⟩
    rw [hb.block g (Array.getElem?_eq_some_iff.1 h2).1]
    exact h2
  | row v e sz n xs=> exact ⟨xi h.1 hb (Nat.le_refl _),h.2⟩
  | sl v sz n xs=> exact Sl.below h hb

theorem Ent.lt {B:Nat} {w:World} {x:Ent} (h:x.ok B w): ∀ k,x.block=some k→k < w.heap.size∧(x.read∨B≤k):=by
  cases x with
  | box g cs e=>
    intro k hk
    obtain rfl:=Option.some.inj hk
    exact ⟨(Array.getElem?_eq_some_iff.1 h.2.1).1, .inr h.1⟩
  | row v e sz n xs=> exact fun k hk=> ⟨(h.1.lt k hk).2, .inr (h.1.lt k hk).1⟩
  | sl v sz n xs=>
    intro k hk
    by_cases h0:xs=[]
    · simp [Ent.block,h0] at hk
    simp [Ent.block,h0] at hk
    exact ⟨Sl.lt h (List.length_pos_iff.2 h0) k hk, .inl trivial⟩

theorem SH.start (w:World):SH w w []:=⟨Below.refl _ _,by simp,by simp⟩

theorem SH.take {w0 w:World} {l:List Ent} (h:SH w0 w l) {sz:Nat} {v:Value} {n:Nat} {xs:List Value} (hs:Sl w sz v n xs) (hl: ∀ x∈l,x.read):SH w0 w (.sl v sz n xs::l):=
  ⟨h.below,by simpa using ⟨hs,h.ok⟩,List.pairwise_cons.2 ⟨fun y hy=> .inl ⟨trivial,hl y hy⟩,h.apart⟩⟩

theorem SH.below_of {w0 w w':World} {l:List Ent} (h:SH w0 w l) (hb:Below w.heap.size w w'):SH w0 w' l:=
  ⟨h.below.trans (hb.mono h.below.size),fun x hx=> Ent.ok_below (B':=0) (h.ok x hx) hb,h.apart⟩

theorem iC {w w':World} (h:w.grownBy w' none):Below w.heap.size w w':=⟨h.os,h.tape,h.output,h.size,fun k hk=> h.block k hk (by simp)⟩
theorem SH.get {w0 w:World} {l:List Ent} (h:SH w0 w l) {i:Nat} {x:Ent} (hi:l[i]? =some x):x.ok w0.heap.size w:=h.ok x (List.mem_of_getElem? hi)

theorem SH.apartAt {w0 w:World} {l:List Ent} (h:SH w0 w l) {i j:Nat} {x y:Ent} (hi:l[i]? =some x) (hj:l[j]? =some y) (hne:i≠j):x.apart y:=by
  obtain ⟨hi',rfl⟩:=List.getElem?_eq_some_iff.1 hi
  obtain ⟨hj',rfl⟩:=List.getElem?_eq_some_iff.1 hj
  rcases Nat.lt_or_gt_of_ne hne with hlt | hlt
  · exact List.pairwise_iff_getElem.1 h.apart i j hi' hj' hlt
  exact Ent.apart_symm (List.pairwise_iff_getElem.1 h.apart j i hj' hi' hlt)

theorem SH.pick {w0 w:World} {l:List Ent} (h:SH w0 w l) (is:List Nat) (l':List Ent) (hl:is.map (l[·]?)=l'.map some) (hd:is.Nodup):SH w0 w l':=by
  have hlen:is.length=l'.length:=by have:=congrArg List.length hl;simpa using this
  have at_: ∀ k (hk:k < l'.length),l[is[k]'ab]? =some l'[k]:=by
    intro k hk
    have:=congrArg (fun m=> m[k]?) hl
    simpa [List.getElem?_map,hk,show k < is.length by omega] using this
  refine ⟨h.below,fun x hx=> ?_,?_⟩
  · obtain ⟨k,hk,rfl⟩:=List.getElem_of_mem hx
    exact h.get (at_ k hk)
  refine List.pairwise_iff_getElem.2 fun i j hi hj hij=> h.apartAt (at_ i hi) (at_ j hj) fun e=> ?_
  have:=(List.pairwise_iff_getElem.1 hd) i j ab ab hij
  exact this e

theorem SH.add {w0 w w':World} {l:List Ent} (h:SH w0 w l) (hg:w.grownBy w' none) {y:Ent} (hy:y.ok w0.heap.size w') (hf: ∀ k,y.block=some k→w.heap.size≤k) (hr: ¬ y.read):SH w0 w' (y::l):=by
  have hb:=iC hg
  refine ⟨h.below.trans (hb.mono h.below.size),?_,List.pairwise_cons.2 ⟨fun x hx=> ?_,h.apart⟩⟩
  · intro x hx
    rcases List.mem_cons.1 hx with rfl | hx
    · exact hy
    exact Ent.ok_below (B':=0) (h.ok x hx) hb
  cases hyb:y.block with
  | none=> exact .inr (.inl hyb)
  | some k=>
    right;right
    intro he
    have hk:=hf k hyb
    have hx':=h.ok x hx
    have:=(Ent.lt hx' k (by rw [← he];exact hyb)).1
    omega

theorem SH.upd {w0 w w':World} {l:List Ent} (h:SH w0 w l) {i:Nat} {x y:Ent} (hi:l[i]? =some x) (hx: ¬ x.read) (hg:w.grownBy w' x.block) (hy:y.ok w0.heap.size w')
    (hf:y.block=x.block∨ ∀ k,y.block=some k→w.heap.size≤k):SH w0 w' (l.set i y):=by
  obtain ⟨hlt,rfl⟩:=List.getElem?_eq_some_iff.1 hi
  have hxo:=h.get hi
  have hkeep: ∀ j (hj:j < l.length),j≠i→(l[j]).ok w0.heap.size w'∧(l[j]).apart y:=by
    intro j hj hne
    have hz:=h.get (List.getElem?_eq_getElem hj)
    have hap:=h.apartAt (List.getElem?_eq_getElem hj) hi hne
    rcases hap with hap | hap
    · exact absurd hap.2 hx
    refine ⟨Ent.ok_grown hz hg hap,?_⟩
    rcases hf with hf | hf
    · rw [← hf] at hap
      exact .inr hap
    cases hzb:(l[j]).block with
    | none=> exact .inr (.inl hzb)
    | some k=>
      right;right
      intro he
      have:=hf k (by rw [← he];exact hzb)
      have:=(Ent.lt hz k hzb).1
      omega
  refine ⟨h.below.grown hg h.below.size (fun k hk=> ?_),?_,?_⟩
  · rcases (Ent.lt hxo k hk).2 with h | h
    · exact absurd h hx
    exact h
  · intro z hz
    obtain ⟨j,hj,rfl⟩:=List.getElem_of_mem hz
    rw [List.length_set] at hj
    rw [List.getElem_set]
    split
    · exact hy
    exact (hkeep j hj ab).1
  refine List.pairwise_iff_getElem.2 fun j k hj hk hjk=> ?_
  rw [List.length_set] at hj hk
  rw [List.getElem_set,List.getElem_set]
  by_cases h1:i=j
  · rw [if_pos h1,if_neg ab]
    exact Ent.apart_symm (hkeep k hk ab).2
  rw [if_neg h1]
  by_cases h2:i=k
  · rw [if_pos h2]
    exact (hkeep j hj ab).2
  rw [if_neg h2]
  exact List.pairwise_iff_getElem.1 h.apart j k hj hk hjk

theorem SH.call {w0 w w':World} {l l':List Ent} (h:SH w0 w l) (h':SH w w' l') (hr: ∀ x∈l',∀ k,x.block=some k→w.heap.size≤k):SH w0 w' (l'++l):=by
  have hb:=h.below_of h'.below
  refine ⟨hb.below,?_,List.pairwise_append.2 ⟨h'.apart,h.apart,fun x hx z hz=> ?_⟩⟩
  · intro x hx
    rcases List.mem_append.1 hx with hx | hx
    · have:=h'.ok x hx
      cases x with
      | box g cs e=> exact ⟨Nat.le_trans h.below.size this.1,this.2⟩
      | row v e sz n xs=> exact ⟨pG this.1 h.below.size,this.2⟩
      | sl v sz n xs=> exact this
    exact hb.ok x hx
  cases hxb:x.block with
  | none=> exact .inr (.inl hxb)
  | some k=>
    right;right
    intro he
    have:=hr x hx k hxb
    have:=(Ent.lt (h.ok z hz) k (by rw [← he];exact hxb)).1
    omega

theorem Ent.ok_sl {B:Nat} {w:World} {v:Value} {e:TypeId} {sz n:Nat} {xs:List Value} (h:(Ent.row v e sz n xs).ok B w):Sl w sz v n xs:=Jf h.1 h.2

theorem SH.sl {w0 w:World} {l:List Ent} (h:SH w0 w l) {i:Nat} {v:Value} {sz n:Nat} {xs:List Value} (hi:l[i]? =some (.sl v sz n xs)):Sl w sz v n xs:=h.get hi
theorem Sl.one {w:World} {sz:Nat} {v:Value} {n:Nat} {xs:List Value} (h:Sl w sz v n xs):v.oneCell'=true:=by obtain ⟨_,_,rfl,_⟩:=h;rfl

class Ty (P:Program) (t:TypeId) (agg:outParam Bool) (z:outParam (List Value)):Prop where
  isagg: ∀ w,(isAgg t).run P w= .ok agg w
  info: ∃ i zv,P.info? t=some i∧i.zero=some zv∧i.size=z.length∧zv.cells=z.toArray
  one: ∀ u∈z,u.oneCell'=true

theorem Ty.of {P:Program} {t:TypeId} {agg:Bool} {z:List Value} {bytes:Nat} (zv:Value) {d:TypeDesc} (h1:P.underlying t=some d) (hd:(match d with | .struct _ | .array _ _=> true | _=> false)=agg)
    (h2:(P.info? t).map (fun i=> (i.zero,i.size,i.bytes))=some (some zv,z.length,bytes)) (h3:zv.cells=z.toArray) (h4: ∀ u∈z,u.oneCell'=true):Ty P t agg z:=by
  obtain ⟨i,hi,a,b,c⟩:=info_parts h2
  refine ⟨fun w=> ?_,⟨i,zv,hi,a,b,h3⟩,h4⟩
  subst hd
  cases d <;> simp [isAgg,run_underlying h1]

section
variable {P:Program} {w0 w:World} {l:List Ent} {ops:Array Oper} {rest:List Oper} {o:Oper} {a:Act} {Q:Exit→Act→World→Prop}
  {t e:TypeId} {agg:Bool} {z:List Value}

end


abbrev qo:=Value→World→Prop
def fl (P:Program) (o:Oper) (ρ:Operand→Value) (w:World) (Post:Value→World→Prop):Prop:=
  match (execOp ρ o).run P w with
  | .ok (.value v) w'=> Post v w'
  | .ok .skip w'=> Post undef w'
  | .ok (.enter f args) w'=> Calls P f args w' fun e w''=> ∃ v,e= .returned v∧Post v w''
  | _=> False

def Deps (fs:List qo) (ω:Nat→Value) (w:World):List Edge→Prop
  | []=> True
  | e::es=> (match fs[e.on]? with | some f=> f (ω e.on) w | none=> True)∧Deps fs ω w es

def LU (P:Program) (ops:Array Oper) (fr:(Nat→Value)→Act) (fs:List qo) (ws:World) (o:Oper) (f:qo):Prop:=
  ∀ (ω:Nat→Value) (w:World),Below ws.heap.size ws w→Deps fs ω w o.after.toList→
    if Region.wanted o (yielded ops (fr ω).tmps) then fl P o (fr ω).eval w (fun v w'=> Below w.heap.size w w'∧f v w') else f undef w

def Obls (P:Program) (ops:Array Oper) (fr:(Nat→Value)→Act) (fs:List qo) (ws:World):List Oper→List qo→Prop
  | o::l,f::gs=> LU P ops fr fs ws o f∧Obls P ops fr fs ws l gs
  | [],[]=> True
  | _,_=> False

theorem Obls.get {P:Program} {ops:Array Oper} {fr:(Nat→Value)→Act} {fs:List qo} {ws:World}: ∀ {l:List Oper} {gs:List qo},Obls P ops fr fs ws l gs→
    l.length=gs.length∧ ∀ (j:Nat) (o:Oper) (f:qo),l[j]? =some o→gs[j]? =some f→LU P ops fr fs ws o f
  | [],[],_=> ⟨rfl,by simp⟩
  | [],_::_,h=> h.elim
  | _::_,[],h=> h.elim
  | o::l,f::gs,h=> by
    have ih:=Obls.get h.2
    refine ⟨by simp [ih.1],fun j o' f' ho hf=> ?_⟩
    cases j with
    | zero=> simp at ho hf;subst ho;subst hf;exact h.1
    | succ j=> exact ih.2 j o' f' (by simpa using ho) (by simpa using hf)


def sj (w:World) (ad:Addr) (us:List Value):Prop:= ∀ i u,us[i]? =some u→w.cell? (ad.add i)=some u

section
variable {P:Program} {w:World} {o:Oper} {ρ:Operand→Value} {t e:TypeId} {z:List Value}

theorem bZ {Post:Value→World→Prop} {v:Value} {w':World} (hrun:(execOp ρ o).run P w= .ok (.value v) w') (h:Post v w'):fl P o ρ w Post:=by
  unfold fl;rw [hrun];exact h
theorem gj {Post:Value→World→Prop} {w':World} (hrun:(execOp ρ o).run P w= .ok .skip w') (h:Post undef w'):fl P o ρ w Post:=by
  unfold fl;rw [hrun];exact h
theorem kb {Post:Value→World→Prop} {f:FuncId} {args:Array Value} {R:Ending→World→Prop} (hrun:(execOp ρ o).run P w= .ok (.enter f args) w) (hc:Calls P f args w R)
    (h: ∀ e w',R e w'→ ∃ v,e= .returned v∧Post v w'):fl P o ρ w Post:=by
  unfold fl;rw [hrun];exact hc.mono h
class ce (P:Program) (f:FuncId):Prop where
  out: ∀ args w,(callFunc f args).run P w= .ok (.enter f args) w
class gG (P:Program) (S:TypeId) (f:Nat) (off:outParam Nat):Prop where
  out: ∀ ad w,(Instr.fieldAt S (.pointer (some ad)) f).run P w= .ok (.pointer (some (ad.add off))) w

theorem zD {f:FuncId} [C:ce P f] {xs:Array Operand} {ats:Array TypeId} (ho:o.op= .call { callee:= .value (.func f),args:=xs,argTypes:=ats }) (hf:ρ (.func f)= .func (.func f) #[] #[]):
    (execOp ρ o).run P w= .ok (.enter f (xs.map ρ)) w:=by
  have hC:=C.out (xs.map ρ) w
  simp only [execOp,ho,resolve,hf,Deferred.ofValue,Sem.run_bind,Sem.run_pure,Result.andThen_ok,invoke,Array.append_empty,Array.empty_append]
  exact hC

theorem mK [T:Ty P t false z] {ad:Addr} {u:Value} (hc:w.cell? ad=some u):(loadVar t ad).run P w= .ok u w:=by
  simp only [loadVar,Sem.run_bind,T.isagg,Result.andThen_ok]
  simp [load,Sem.run,hc]

theorem lY [T:Ty P t true z] {ad:Addr} {us:List Value} (hc:sj w ad us) (hl:us.length=z.length):(loadVar t ad).run P w= .ok (.agg us.toArray) w:=by
  obtain ⟨i,zv,hi,hz,hs,hzc⟩:=T.info
  have h:=run_loadCells_list (P:=P) w ad us hc
  simp only [loadVar,Sem.run_bind,T.isagg,Result.andThen_ok]
  simp [sizeOf,typeInfo,hi,hs,← hl,h]

theorem rp [T:Ty P t false z] (x:Operand) (ho:o.op= .load t x) {ad:Addr} (hx:ρ x= .pointer (some ad)) {u:Value} (hc:w.cell? ad=some u):(execOp ρ o).run P w= .ok (.value u) w:=by
  simp [execOp,ho,Instr.loadAt,Instr.sureAddr,hx,mK hc]
theorem CQ [T:Ty P t true z] (x:Operand) (ho:o.op= .load t x) {ad:Addr} (hx:ρ x= .pointer (some ad)) {us:List Value} (hc:sj w ad us) (hl:us.length=z.length):
    (execOp ρ o).run P w= .ok (.value (.agg us.toArray)) w:=by
  simp [execOp,ho,Instr.loadAt,Instr.sureAddr,hx,lY hc hl]


theorem wK {S:TypeId} {f off:Nat} [F:gG P S f off] (x:Operand) (ho:o.op= .fieldAddr S x f) {ad:Addr} (hx:ρ x= .pointer (some ad)):
    (execOp ρ o).run P w= .ok (.value (.pointer (some (ad.add off)))) w:=by
  simp [execOp,ho,hx,F.out ad w]

end


def put (cs:List Value) (off:Nat) (vs:List Value):List Value:=cs.take off++vs++cs.drop (off+vs.length)
theorem vf (cs vs:List Value) (off:Nat) (h:off+vs.length≤cs.length):(put cs off vs).length=cs.length:=by
  simp [put];omega
section
variable {P:Program} {w0 w:World} {l:List Ent} {o:Oper} {ρ:Operand→Value} {t e:TypeId} {agg:Bool} {z:List Value}

theorem nX [T:Ty P t agg z] {g off:Nat} {cur:Array Value} {e:TypeId} (hg:w.heap[g]? =some (.cells cur e (0,0))) {v:Value} {vs:List Value} (hv:v.cells=vs.toArray) (hl:vs.length=z.length)
    (hfit:off+vs.length≤cur.size) (h1: ∀ u∈vs,u.oneCell'=true):(storeVar t ⟨g,off,none⟩ v).run P w= .ok () (w.setRow g (put cur.toList off vs).toArray):=by
  obtain ⟨i,zv,hi,hz,hs,hzc⟩:=T.info
  have h:=run_storeCells_at P g off e vs 0 cur w hg (by simpa using hfit) h1
  simp only [Nat.add_zero] at h
  simp [storeVar,sizeOf,typeInfo,hi,hs,hv,hl,h,put]

theorem AG [T:Ty P t agg z] (x y:Operand) (ho:o.op= .store t x y) {g off:Nat} (hx:ρ x= .pointer (some ⟨g,off,none⟩)) {cur:Array Value} {e:TypeId} (hg:w.heap[g]? =some (.cells cur e (0,0)))
    {vs:List Value} (hv:(ρ y).cells=vs.toArray) (hl:vs.length=z.length) (hfit:off+vs.length≤cur.size) (h1: ∀ u∈vs,u.oneCell'=true):
    (execOp ρ o).run P w= .ok .skip (w.setRow g (put cur.toList off vs).toArray):=by
  simp [execOp,ho,Instr.storeAt,Instr.sureAddr,hx,nX hg hv hl hfit h1]


def kd:Nat→List Value→List (Nat×Value)
  | _,[]=> []
  | k,v::vs=> (k,v)::kd (k+1) vs

theorem ti (us:List Value): ∀ (off k:Nat) (c:Array Value),off+k+us.length≤c.size→
    (us.zipIdx k).foldl (fun (cs:Array Value) (p:Value×Nat)=> cs.setIfInBounds (off+p.2) p.1) c=(put c.toList (off+k) us).toArray:=by
  induction us with
  | nil=> intro off k c _;simp [put]
  | cons u us ih=>
    intro off k c h
    simp only [List.length_cons] at h
    rw [List.zipIdx_cons,List.foldl_cons,ih off (k+1) _ (by simp;omega)]
    apply Array.ext'
    simp only [put,Array.toList_setIfInBounds]
    apply List.ext_getElem?
    intro i
    simp only [List.getElem?_append,List.length_append,List.length_take,List.length_set,List.length_cons,List.getElem?_take,List.getElem?_drop,List.getElem?_set,Array.length_toList]
    rcases Nat.lt_trichotomy i (off+k) with hi | hi | hi
    · simp [show i < off+k by omega,show i < min (off+k) c.size by omega,show i < off+(k+1) by omega,show i < min (off+(k+1)) c.size by omega,show i < min (off+(k+1)) c.size+us.length by omega,show ¬ off+k=i by omega,show i < min (off+k) c.size+(us.length+1) by omega]
    · subst hi
      simp [show off+k < off+(k+1) by omega,show off+k < min (off+(k+1)) c.size by omega,show ¬ off+k < min (off+k) c.size by omega,show off+k < c.size by omega,show off+k - min (off+k) c.size=0 by omega,show off+k < min (off+(k+1)) c.size+us.length by omega,show off+k < min (off+k) c.size+(us.length+1) by omega]
    have e1:min (off+(k+1)) c.size=off+k+1:=by omega
    have e2:min (off+k) c.size=off+k:=by omega
    rw [e1,e2]
    by_cases h2:i < off+k+1+us.length
    · rw [if_pos h2,if_neg ab,if_pos ab,if_neg ab]
      rw [show i - (off+k)=(i - (off+k+1))+1 by omega]
      simp
    rw [if_neg h2,if_neg ab]
    rw [show off+k+(us.length+1)+(i - (off+k+(us.length+1)))=off+(k+1)+us.length+(i - (off+k+1+us.length)) by omega]
    rw [if_neg ab]

theorem qv (size:Nat): ∀ (vs:List Value) (k:Nat) (c:Array Value),(∀ v∈vs,v.cells.size=size)→(k+vs.length)*size≤c.size→
    Instr.fill (fun i=> some (i*size,size)) c (kd k vs)=some (c.toList.take (k*size)++(vs.flatMap fun v=> v.cells.toList)++c.toList.drop ((k+vs.length)*size)).toArray
  | [],k,c,_,_=> by simp [kd,Instr.fill]
  | v::vs,k,c,hv,hc=> by
    have h0:=hv v List.mem_cons_self
    simp only [List.length_cons] at hc
    have hc1:(k+1)*size≤c.size:=Nat.le_trans (Nat.mul_le_mul_right _ ab) hc
    rw [Nat.add_mul,Nat.one_mul] at hc1
    simp only [kd,Instr.fill,h0]
    rw [if_neg (by simp;omega)]
    have hf:=ti v.cells.toList (k*size) 0 c (by simp [h0];omega)
    simp only [Nat.add_zero] at hf
    have hz:(v.cells.zipIdx.foldl (fun (cs:Array Value) (p:Value×Nat)=> cs.setIfInBounds (k*size+p.2) p.1) c)=(put c.toList (k*size) v.cells.toList).toArray:=by
      rw [← hf,← Array.foldl_toList,Array.toList_zipIdx]
    have hz':(Array.foldl (fun cs (x:Value×Nat)=> match x with | (c,j)=> cs.setIfInBounds (k*size+j) c) c v.cells.zipIdx)=(put c.toList (k*size) v.cells.toList).toArray:=hz
    rw [hz',qv size vs (k+1) _ (fun u hu=> hv u (List.mem_cons_of_mem _ hu)) (by
      simp only [List.size_toArray];rw [vf _ _ _ (by simp [h0];omega)];simp;rw [show k+1+vs.length=k+(vs.length+1) by omega];exact hc)]
    congr 2
    have hl:(v.cells.toList).length=size:=by simpa using h0
    simp only [put,List.flatMap_cons,List.length_cons]
    have e1:(c.toList.take (k*size)++v.cells.toList).length=(k+1)*size:=by rw [List.length_append,List.length_take,hl,Nat.add_mul,Nat.one_mul];simp;omega
    have e2:k*size+(v.cells.toList).length=(k+1)*size:=by rw [hl,Nat.add_mul,Nat.one_mul]
    rw [List.take_append_of_le_length (by rw [e1];exact Nat.le_refl _),List.take_of_length_le (by rw [e1];exact Nat.le_refl _)]
    rw [List.drop_append,List.drop_of_length_le (by rw [e1];exact Nat.mul_le_mul_right _ ab),List.nil_append,e1,e2,List.drop_drop]
    rw [show (k+1)*size+((k+1+vs.length)*size - (k+1)*size)=(k+(vs.length+1))*size by
      have:(k+1)*size≤(k+1+vs.length)*size:=Nat.mul_le_mul_right _ ab
      rw [show k+(vs.length+1)=k+1+vs.length by omega];omega]
    simp [List.append_assoc]

theorem zU {T:TypeId} {size bytes:Nat} [E:Elem P T e size bytes z] (H:SH w0 w l) (len:Nat) (parts:Array (Nat×Operand)) (ho:o.op= .buildSlice T len parts) (vs:List Value)
    (hp:parts.toList.map (fun p=> (p.1,ρ p.2))=kd 0 vs) (hlen:vs.length=len) (hsz: ∀ v∈vs,v.cells.size=size) (xs:List Value) (hxs:(vs.flatMap fun v=> v.cells.toList)=xs) (h1: ∀ u∈xs,u.oneCell'=true)
    (hb:len*size≤100000):
    ∃ v' w',(execOp ρ o).run P w= .ok (.value v') w'∧SH w0 w' (.row v' e size len xs::l)∧Below w.heap.size w w'∧(∀ k,v'.ownBlock=some k→w.heap.size≤k)∧v'.oneCell'=true:=by
  obtain ⟨i,zv,hi,hz,hs,hby,hzc⟩:=E.info
  subst hlen
  have hxl:xs.length=vs.length*size:=by
    subst hxs
    have: ∀ (vs:List Value),(∀ v∈vs,v.cells.size=size)→(vs.flatMap fun v=> v.cells.toList).length=vs.length*size:=by
      intro vs
      induction vs with
      | nil=> simp
      | cons v vs ih=>
        intro h
        rw [List.flatMap_cons,List.length_append,ih (fun u hu=> h u (List.mem_cons_of_mem _ hu)),List.length_cons,Nat.add_mul]
        have:=h v List.mem_cons_self
        simp [this];omega
    exact this vs hsz
  have hfill: ∀ zz:Array Value,Instr.fill (fun i=> some (i*size,size)) ((Array.range (vs.length*size)).map (fun j=> zz[j % zz.size]!)) (kd 0 vs)=some xs.toArray:=by
    intro zz
    rw [qv size vs 0 _ hsz (by simp)]
    simp [hxs]
  have hpl:(parts.map fun p=> (p.1,ρ p.2)).toList=kd 0 vs:=by simpa using hp
  have hrun:(execOp ρ o).run P w= .ok (.value (.slice (some ⟨w.heap.size,0,none⟩) vs.length vs.length)) (w.alloc (.cells xs.toArray e)):=by
    have hnb: ¬ vs.length*size > 2 ^ 24:=by omega
    have hpl':(parts.map fun x=> match x with | (i,x)=> (i,ρ x)).toList=kd 0 vs:=hpl
    simp only [execOp,ho,Instr.buildSlice,Sem.run_bind,run_underlying E.und,Result.andThen_ok,sizeOf,typeInfo,hi,hs]
    by_cases h0:vs.length*size=0
    · have:=hfill #[]
      simp [hi,hs,hnb,h0,hpl'] at this ⊢
      simp [hs,hp,this,newRow]
    have:=hfill zv.cells
    simp [hi,hs,hnb,h0,zeroValue,typeInfo,hz,hpl'] at this ⊢
    simp [hi,hs,hz,hp,this,newRow]
  have hm:vs.length≤maxLen:=by
    have:=Nat.mul_le_mul_left vs.length E.pos
    unfold maxLen;omega
  have hown:=World.ownsRow_lit (size:=size) (base:=w0.heap.size) (e:=e) w xs.toArray vs.length H.below.size hm (by simpa using hxl)
  refine ⟨_,_,hrun,H.add (World.grownBy_alloc w _ none) ⟨by simpa using hown,h1⟩ ?_ id,(Below.refl _ _).alloc (Nat.le_refl _) _,?_,rfl⟩
  · intro k hk;simp [Ent.block,Value.ownBlock] at hk;omega
  intro k hk;simp [Value.ownBlock] at hk;omega
end

section
variable {P:Program} {w0 w:World} {l:List Ent} {o:Oper} {ρ:Operand→Value} {t e:TypeId} {agg:Bool} {z:List Value} {T:TypeId} {size bytes:Nat}

end


section
variable {P:Program} {w0 w:World} {l:List Ent} {ops:Array Oper} {rest:List Oper} {o:Oper} {a:Act} {Q:Exit→Act→World→Prop}
  {t e:TypeId} {agg:Bool} {z:List Value} {T:TypeId} {size bytes:Nat}


def Ent.slOf:Ent→Option (Value×Nat×Nat×List Value)
  | .row v _ sz n xs=> some (v,sz,n,xs)
  | .sl v sz n xs=> some (v,sz,n,xs)
  | .box _ _ _=> none

theorem SH.rd (H:SH w0 w l) (i:Nat) {v:Value} {sz n:Nat} {xs:List Value} (hi:(l[i]?).bind Ent.slOf=some (v,sz,n,xs)):Sl w sz v n xs:=by
  cases hx:l[i]? with
  | none=> rw [hx] at hi;cases hi
  | some x=>
    rw [hx] at hi
    have:=H.get hx
    cases x with
    | box g cs e=> cases hi
    | row v' e' sz' n' xs'=>
      simp [Ent.slOf] at hi
      obtain ⟨rfl,rfl,rfl,rfl⟩:=hi
      exact Ent.ok_sl this
    | sl v' sz' n' xs'=>
      simp [Ent.slOf] at hi
      obtain ⟨rfl,rfl,rfl,rfl⟩:=hi
      exact this

end

theorem xK {u:Value} (h:u.oneCell'=true):u.cells=[u].toArray:=by cases u <;> first | rfl | simp [Value.oneCell'] at h

section
variable {P:Program} {w:World} {ops:Array Oper} {rest:List Oper} {a:Act} {Q:Exit→Act→World→Prop}
end
theorem SH.tail {w0 w:World} {l:List Ent} {x:Ent} (h:SH w0 w (x::l)):SH w0 w l:=
  ⟨h.below,fun y hy=> h.ok y (List.mem_cons_of_mem _ hy),(List.pairwise_cons.1 h.apart).2⟩

def NewH (w w':World) (l:List Ent):Prop:=SH w w' l∧ ∀ x∈l,∀ k,x.block=some k→w.heap.size≤k
theorem NewH.below {w w':World} {l:List Ent} (h:NewH w w' l):Below w.heap.size w w':=h.1.below
theorem NewH.rows {w w':World} {l:List Ent} (h:SH w w' l) (hr: ∀ x∈l,¬ x.read):NewH w w' l:=⟨h,fun x hx k hk=> by
  rcases (Ent.lt (h.ok x hx) k hk).2 with h | h
  · exact absurd h (hr x hx)
  exact h⟩
theorem NewH.pick {w w':World} {l:List Ent} (h:NewH w w' l) (is:List Nat) (l':List Ent) (hl:is.map (l[·]?)=l'.map some) (hd:is.Nodup):NewH w w' l':=by
  refine ⟨h.1.pick is l' hl hd,fun x hx=> h.2 x ?_⟩
  obtain ⟨k,hk,rfl⟩:=List.getElem_of_mem hx
  have hlen:is.length=l'.length:=by have:=congrArg List.length hl;simpa using this
  have:=congrArg (fun m=> m[k]?) hl
  simp [List.getElem?_map,hk,show k < is.length by omega] at this
  exact List.mem_of_getElem? this

class Fvl (P:Program) (S:TypeId) (f:Nat) (off:outParam Nat) (agg:outParam Bool) (sz:outParam Nat):Prop where
  out: ∃ fs fd,P.underlying S=some (.struct fs)∧fs[f]? =some fd∧fd.offset=off∧(∀ w,(isAgg fd.type).run P w= .ok agg w)∧(P.info? fd.type).map (·.size)=some sz
theorem Fvl.of {P:Program} {S:TypeId} {f off sz:Nat} {agg:Bool} {z:List Value} {fs:Array Field} {fd:Field} (h1:P.underlying S=some (.struct fs)) (h2:fs[f]? =some fd) (h3:fd.offset=off) (T:Ty P fd.type agg z) (hz:z.length=sz):Fvl P S f off agg sz:=by
  subst hz
  obtain ⟨i,zv,hi,_,hs,_⟩:=T.info
  exact ⟨fs,fd,h1,h2,h3,T.isagg,by rw [hi];simp [hs]⟩

section
variable {P:Program} {w w0:World} {l:List Ent} {ops:Array Oper} {rest:List Oper} {o:Oper} {a:Act} {Q:Exit→Act→World→Prop} {ρ:Operand→Value}
theorem Co {S:TypeId} {f off sz:Nat} [F:Fvl P S f off false sz] (x:Operand) (ho:o.op= .field S x f) {cs:Array Value} (hx:ρ x= .agg cs) {v:Value} (hv:cs[off]? =some v):
    (execOp ρ o).run P w= .ok (.value v) w:=by
  obtain ⟨fs,fd,h1,h2,rfl,h4,h5⟩:=F.out
  simp [execOp,ho,Instr.field,run_underlying h1,h2,hx,asAgg,part,h4,hv]
theorem CU {S:TypeId} {f off sz:Nat} [F:Fvl P S f off true sz] (x:Operand) (ho:o.op= .field S x f) {cs:Array Value} (hx:ρ x= .agg cs):
    (execOp ρ o).run P w= .ok (.value (.agg (cs.extract off (off+sz)))) w:=by
  obtain ⟨fs,fd,h1,h2,rfl,h4,h5⟩:=F.out
  obtain ⟨i,hi,hs⟩:=Option.map_eq_some_iff.1 h5
  simp [execOp,ho,Instr.field,run_underlying h1,h2,hx,asAgg,part,h4,sizeOf,typeInfo,hi,hs]
end


theorem NewH.after {ws w w':World} {l:List Ent} (hb:Below ws.heap.size ws w) (h:NewH w w' l):NewH ws w' l:=by
  refine ⟨⟨hb.trans (h.below.mono hb.size),fun x hx=> ?_,h.1.apart⟩,fun x hx k hk=> Nat.le_trans hb.size (h.2 x hx k hk)⟩
  have:=h.1.ok x hx
  cases x with
  | box g cs e=> exact ⟨Nat.le_trans hb.size this.1,this.2⟩
  | row v e sz n xs=> exact ⟨pG this.1 hb.size,this.2⟩
  | sl v sz n xs=> exact this
theorem NewH.grow {ws w w':World} {l:List Ent} (h:NewH ws w l) (hb:Below w.heap.size w w'):NewH ws w' l:=⟨h.1.below_of hb,h.2⟩
section
variable {P:Program} {w w0:World} {l:List Ent} {o:Oper} {ρ:Operand→Value} {T e:TypeId} {size bytes:Nat} {z:List Value}
end

theorem Deps.at {fs:List qo} {ω:Nat→Value} {w:World}: ∀ {es:List Edge},Deps fs ω w es→ ∀ (i:Nat) {f:qo},(es.any fun e=> e.on==i)=true→fs[i]? =some f→f (ω i) w
  | [],_,_,_,h,_=> by simp at h
  | e::es,hd,i,f,h,hf=> by
    by_cases he:e.on=i
    · have:=hd.1
      rw [he,hf] at this
      exact this
    have h':(es.any fun e=> e.on==i)=true:=by simpa [he] using h
    exact Deps.at hd.2 i h' hf
theorem SH.drew {w0 w:World} {l:List Ent} (h:SH w0 w l):SH w0 w.drew l:=h.below_of ((Below.refl _ _).drew)

section
variable {P:Program} {w w0:World} {l:List Ent} {o:Oper} {ρ:Operand→Value} {t e T:TypeId} {size bytes:Nat} {z:List Value}
end
section
variable {P:Program} {w w0:World} {l:List Ent} {o:Oper} {ρ:Operand→Value} {t e T:TypeId} {size bytes:Nat} {z:List Value}
end

section
variable {P:Program} {w w0:World} {l:List Ent} {o:Oper} {ρ:Operand→Value} {t t':TypeId}
end
end Go.Proofs.YtmjnackchaahbaaGreat
