/- part 6 -/
import Derived.Test.YtmjnackchaahbaaDfZ5
set_option linter.unusedSimpArgs false
set_option linter.unusedVariables false
namespace Go.Proofs.Ytmjnackchaahbaa
open Go.RowKit

inductive gz (io:aw) (Φ:Slot→Prop) (P:Program) (all:List Oper) (W:List Nat) (I:List aw) (σ:St) (rs:List Res) (o:Oper):Res→Prop where
  | plain {r:Res} (hg:o.guard=none) (h: ∀ τ:St,Φ (τ.ob io)→bp P o (bF σ W I (r.2.map (·.1)) all rs (Edge.ons o.after.toList) τ) (r.app o.dst (bF σ W I (r.2.map (·.1)) all rs (Edge.ons o.after.toList) τ))):gz io Φ P all W I σ rs o r
  | yes {r:Res} {j d:Nat} {want:Bool} (hg:o.guard=some (j,want)) (hd:(all[j]?).bind (·.dst)=some d) (hv: ∀ τ:St,Φ (τ.ob io)→(bF σ W I (r.2.map (·.1)) all rs (Edge.ons o.after.toList) τ).eval (.tmp d)= .v (.bool want))
      (h: ∀ τ:St,Φ (τ.ob io)→bp P o (bF σ W I (r.2.map (·.1)) all rs (Edge.ons o.after.toList) τ) (r.app o.dst (bF σ W I (r.2.map (·.1)) all rs (Edge.ons o.after.toList) τ))):gz io Φ P all W I σ rs o r
  | no {j d:Nat} {want:Bool} {y:Value} (hg:o.guard=some (j,want)) (hd:(all[j]?).bind (·.dst)=some d) (hv: ∀ τ:St,Φ (τ.ob io)→(bF σ W I [] all rs (Edge.ons o.after.toList) τ).eval (.tmp d)= .v y) (hb:y≠ .bool want):gz io Φ P all W I σ rs o (.v undef,[])

def AnyOpsW (io:aw) (Φ:Slot→Prop) (P:Program) (all:List Oper) (W:List Nat) (I:List aw) (AA:List (List aw)) (σ:St) (Kont:List Res→Prop):List Oper→List Res→Prop
  | [],rs=> Kont rs
  | o::os,rs=> ∃ r,gz io Φ P all W (iK AA I rs.length) σ rs o r∧AnyOpsW io Φ P all W I AA σ Kont os (rs++[r])
theorem AnyOpsW.get {io:aw} {Φ:Slot→Prop} {P:Program} {all:List Oper} {W:List Nat} {I:List aw} {AA:List (List aw)} {σ:St} {Kont:List Res→Prop}: ∀ (os:List Oper) (rs0:List Res),AnyOpsW io Φ P all W I AA σ Kont os rs0→
    ∃ rs,rs.length=rs0.length+os.length∧rs.take rs0.length=rs0∧Kont rs∧ ∀ (j:Nat) (o:Oper) (r:Res),os[j]? =some o→rs[rs0.length+j]? =some r→gz io Φ P all W (iK AA I (rs0.length+j)) σ (rs.take (rs0.length+j)) o r
  | [],rs0,h=> ⟨rs0,by simp,by simp,h,by simp⟩
  | o::os,rs0,⟨r,h1,h2⟩=> by
    obtain ⟨rs,a,b,c,d⟩:=AnyOpsW.get os (rs0++[r]) h2
    simp only [List.length_append,List.length_cons,List.length_nil] at a b d
    have ht:rs.take rs0.length=rs0:=by
      have:=congrArg (fun l=> l.take rs0.length) b
      simpa [List.take_take] using this
    have hr:rs[rs0.length]? =some r:=by
      have:=congrArg (fun l=> l[rs0.length]?) b
      simp only [List.getElem?_take] at this
      rw [if_pos ab] at this
      rw [this];simp
    refine ⟨rs,by simp;omega,ht,c,fun j o' r' ho hr'=> ?_⟩
    cases j with
    | zero=>
      simp at ho;subst ho
      simp only [Nat.add_zero] at hr' ⊢
      rw [hr] at hr'
      obtain rfl:=Option.some.inj hr'
      rw [ht];exact h1
    | succ j=>
      have:=d j o' r' (by simpa using ho) (by rw [← hr'];congr 1;omega)
      rwa [show rs0.length+(0+1)+j=rs0.length+(j+1) by omega] at this

theorem pi (io:aw) (Φ:Slot→Prop) {rb:Bool} {P:Program} {Q:Exit→St→Prop} {σ:St} {id:Nat} {l:List Oper} (n:Nat) (W:List Nat) (I:List aw) (AA:List (List aw)) (hm:P.follows .mixedOrders=true) (hB:gw l.toArray n=true) (hW:(l.take n).filterMap (·.dst)=W) (hI:I.Nodup)
    (h0:Φ (σ.ob io)) (h:AnyOpsW io Φ P (l.take n) W I AA σ (fun rs=> ((db rs=I∧fC (l.take n) rs 0 AA=true)∧ ∀ r∈rs,∀ c,(io,c)∈r.2→Φ c)∧DL rb P l.toArray Q (l.drop n) (bH (l.take n) rs (fun _=> true) 0 σ)) (l.take n) []):D rb P (.region id l.toArray true) Q σ:=by
  obtain ⟨rs,hrl,_,⟨⟨⟨hmd,hah⟩,hΦ⟩,hend⟩,hops⟩:=AnyOpsW.get _ _ h
  simp only [List.length_nil,Nat.zero_add] at hrl hops
  subst hmd;subst hW
  intro K a0 w0 hrd ⟨ι0,S0,R0⟩
  simp only [gw,Bool.and_eq_true,decide_eq_true_eq,Bool.or_eq_true,List.all_eq_true,List.mem_range] at hB
  obtain ⟨⟨⟨⟨hn,hsc⟩,hseq⟩,hedge⟩,hdst⟩:=hB
  have hsz:l.toArray.size=l.length:=by simp
  have htk:(l.take n).length=n:=by rw [List.length_take];omega
  rw [htk] at hrl
  have hgetT: ∀ (j:Nat) (o:Oper),j < n→l.toArray[j]? =some o→(l.take n)[j]? =some o:=by
    intro j o hj ho
    rw [List.getElem?_take,if_pos hj]
    simpa using ho
  have hd: ∀ (j:Nat) (oj:Oper),(l.take n)[j]? =some oj→ ∀ (i:Nat) (oi:Oper),(l.take n)[i]? =some oi→i≠j→ ∀ x,oj.dst=some x→oi.dst≠some x:=by
    intro j oj hj i oi hi hne x hx hx'
    have hjn:=(List.getElem?_eq_some_iff.1 hj).1
    have hin:=(List.getElem?_eq_some_iff.1 hi).1
    rw [htk] at hjn hin
    have h:=hdst i hin j hjn
    rw [List.getElem?_take,if_pos hjn] at hj
    rw [List.getElem?_take,if_pos hin] at hi
    have hi':l.toArray[i]? =some oi:=by simpa using hi
    have hj':l.toArray[j]? =some oj:=by simpa using hj
    rw [hi',hj'] at h
    simp [hne,hx,hx'] at h
  let stL:Array Bool→St:=fun listed=> bH (l.take n) rs (fun k=> listed.getD k false) 0 σ
  have halt: ∀ listed:Array Bool,Φ ((stL listed).ob io):=by
    intro listed
    by_cases hex: ∃ k r c,rs[k]? =some r∧listed.getD k false=true∧(io,c)∈r.2
    · obtain ⟨k,r,c,h2,h3,h4⟩:=hex
      have hkn:k < (l.take n).length:=by have:=(List.getElem?_eq_some_iff.1 h2).1;omega
      rw [show (stL listed).ob io=c from co _ _ 0 σ k _ r (List.getElem?_eq_getElem hkn) h2 (by simpa using h3) (ct hI h2) h4 fun m r' hr' hne c' hc'=> hne (bJ hI hr' h2 hc' h4)]
      exact hΦ r (List.mem_of_getElem? h2) c h4
    rw [show (stL listed).ob io=σ.ob io from cb _ _ 0 σ fun k o r h1 h2 h3 c hc=> hex ⟨k,r,c,h2,by simpa using h3,hc⟩]
    exact h0
  -- the state as the operation j may count on it
  have hmix: ∀ (listed:Array Bool) (j:Nat) (oj:Oper) (rj:Res),HeadInv .any l.toArray n listed→(l.take n)[j]? =some oj→rs[j]? =some rj→listed.getD j false=false→(∀ k∈Edge.ons oj.after.toList,listed.getD k false=true)→
      ∀ own:List aw,(∀ i,i∈own→ ∃ c,(i,c)∈rj.2)→
      bF σ ((l.take n).filterMap (·.dst)) (iK AA (db rs) j) own (l.take n) (rs.take j) (Edge.ons oj.after.toList) (stL listed)=stL listed:=by
    intro listed j oj rj inv hoj hrj hun hdl own hown2
    refine St.eq (Eq.trans (b:=σ.n) rfl (eb _ _ _ _).symm) (fun t=> ?_) (fun i=> ?_) (Eq.trans (b:=σ.inc) rfl (cM _ _ _ _).symm) (Eq.trans (b:=σ.pin) rfl (cI _ _ _ _).symm)
    · simp only [bF]
      cases hdf:fk (l.take n) (rs.take j) (Edge.ons oj.after.toList) 0 t with
      | some a=>
        obtain ⟨k,o,r,h1,h2,h3,h4,h5⟩:=eU hdf
        rw [List.getElem?_take] at h2
        split at h2
        · simp only [Nat.zero_add] at h3
          rw [h5]
          exact (cN _ _ 0 σ k o r h1 h2 (by simpa using hdl k h3) h4 fun i o' ho' hne=> hd k o h1 i o' ho' hne t h4).symm
        cases h2
      | none=>
        simp only
        cases hin:ig t ((l.take n).filterMap (·.dst)) with
        | true=> rfl
        | false=>
          simp only [cond_false]
          refine (cq _ _ 0 σ fun k o r ho hr hl hdo=> ?_).symm
          have:t∈(l.take n).filterMap (·.dst):=List.mem_filterMap.2 ⟨o,List.mem_of_getElem? ho,hdo⟩
          rw [inL_iff.2 this] at hin
          cases hin
    simp only [bF]
    cases hdo:ft (rs.take j) (Edge.ons oj.after.toList) 0 i with
    | some c=>
      obtain ⟨k,r,h2,h3,h4⟩:=eN hdo
      rw [List.getElem?_take] at h2
      split at h2
      · rename_i hkj
        simp only [Nat.zero_add] at h3
        have hkn:k < (l.take n).length:=by have:=(List.getElem?_eq_some_iff.1 hoj).1;omega
        exact (co _ _ 0 σ k _ r (List.getElem?_eq_getElem hkn) h2 (by simpa using hdl k h3) (ct hI h2) h4 fun m r' hr' hne c' hc'=> hne (bJ hI hr' h2 hc' h4)).symm
      cases h2
    | none=>
      simp only
      cases hc:(bs i (iK AA (db rs) j) && !(bs i own)) with
      | true=> rfl
      | false=>
        simp only [cond_false]
        refine (cb _ _ 0 σ fun k o r ho hr hl c hc'=> ?_).symm
        have hmem:i∈db rs:=ek hr hc'
        by_cases hik:i∈iK AA (db rs) j
        case neg=>
          obtain ⟨s,os',r',c',a1,a2,a3,a4⟩:=eT hah (lr hmem hik)
          have hks:=bJ hI hr a2 hc' a3
          subst hks
          rw [ho] at a1
          obtain rfl:=Option.some.inj a1
          have hlook: ∀ (k:Nat) (o:Oper),(l.take n)[k]? =some o→l.toArray[k]? =some o:=fun k o ho=> by
            rw [List.getElem?_take] at ho
            split at ho
            · simpa using ho
            cases ho
          have step: ∀ (k m:Nat) (o:Oper),(l.take n)[k]? =some o→listed.getD k false=true→m∈Edge.ons o.after.toList→listed.getD m false=true:=fun k m o ho hl hm=> by
            obtain ⟨e,he,heb,hee⟩:=eA hm
            have h9:=inv.closed k o (hlook k o ho) hl e (by simpa using he) heb
            rwa [hee] at h9
          have hkl:listed.getD k false=true:=by simpa using hl
          simp only [il,Nat.zero_add,Bool.or_eq_true,List.any_eq_true] at a4
          rcases a4 with a4 | ⟨m,a4,a5⟩
          · have h9:=step k j o ho hkl (inL_iff.1 a4)
            rw [h9] at hun
            cases hun
          have h8:=step k m o ho hkl a4
          cases ho2:(l.take n)[m]? with
          | none=> rw [ho2] at a5;cases a5
          | some o2=>
            rw [ho2] at a5
            have h9:=step m j o2 ho2 h8 (inL_iff.1 a5)
            rw [h9] at hun
            cases hun
        rw [inO_iff.2 hik] at hc
        simp only [Bool.true_and,Bool.not_eq_false'] at hc
        obtain ⟨c2,hc2⟩:=hown2 i (inO_iff.1 hc)
        have:=bJ hI hr hrj hc' hc2
        subst this
        simp only [Nat.zero_add] at hl
        rw [hl] at hun
        cases hun
  have hset: ∀ (listed:Array Bool) (j:Nat) (oj:Oper) (rj:Res),j < listed.size→(l.take n)[j]? =some oj→rs[j]? =some rj→listed.getD j false=false→stL (listed.setIfInBounds j true)=rj.app oj.dst (stL listed):=by
    intro listed j oj rj hjs hoj hrj hun
    have hL: ∀ k,(listed.setIfInBounds j true).getD k false=if k=j then true else listed.getD k false:=by
      intro k
      by_cases h:k=j
      · subst h;simp [hjs]
      rw [if_neg h,getD_set_ne false (Ne.symm h)]
    refine St.eq ((eb _ _ _ _).trans ((mh _ _ _).trans (eb _ _ _ _)).symm) (fun t=> ?_) (fun i=> ?_) ((cM _ _ _ _).trans ((iu _ _ _).trans (cM _ _ _ _)).symm) ((cI _ _ _ _).trans ((iT _ _ _).trans (cI _ _ _ _)).symm)
    · by_cases ht:oj.dst=some t
      · rw [ht,fL]
        exact cN _ _ 0 σ j oj rj hoj hrj (by simp only [Nat.zero_add,hL,if_true]) ht fun i o' ho' hne=> hd j oj hoj i o' ho' hne t ht
      rw [fD _ _ _ ht]
      by_cases hex: ∃ k o r,(l.take n)[k]? =some o∧rs[k]? =some r∧listed.getD k false=true∧o.dst=some t
      · obtain ⟨k,o,r,h1,h2,h3,h4⟩:=hex
        have hkj:k≠j:=fun e=> by subst e;rw [h3] at hun;cases hun
        rw [show (stL (listed.setIfInBounds j true)).fr t=r.1 from cN _ _ 0 σ k o r h1 h2 (by simp only [Nat.zero_add,hL,if_neg hkj];exact h3) h4 fun i o' ho' hne=> hd k o h1 i o' ho' hne t h4]
        exact (cN _ _ 0 σ k o r h1 h2 (by simpa using h3) h4 fun i o' ho' hne=> hd k o h1 i o' ho' hne t h4).symm
      have hno: ∀ (k:Nat) (o:Oper) (r:Res),(l.take n)[k]? =some o→rs[k]? =some r→listed.getD k false=true→o.dst≠some t:=fun k o r h1 h2 h3 h4=> hex ⟨k,o,r,h1,h2,h3,h4⟩
      rw [show (stL (listed.setIfInBounds j true)).fr t=σ.fr t from cq _ _ 0 σ fun k o r h1 h2 h3 h4=> by
        simp only [Nat.zero_add,hL] at h3
        by_cases hkj:k=j
        · subst hkj;rw [hoj] at h1;obtain rfl:=Option.some.inj h1;exact ht h4
        rw [if_neg hkj] at h3;exact hno k o r h1 h2 h3 h4]
      exact (cq _ _ 0 σ fun k o r h1 h2 h3=> hno k o r h1 h2 (by simpa using h3)).symm
    by_cases ht: ∃ c,(i,c)∈rj.2
    · obtain ⟨c,hc⟩:=ht
      rw [fz _ _ _ (ct hI hrj) hc]
      exact co _ _ 0 σ j oj rj hoj hrj (by simp only [Nat.zero_add,hL,if_true]) (ct hI hrj) hc fun m r' hr' hne c' hc'=> hne (bJ hI hr' hrj hc' hc)
    rw [fG _ _ _ fun c hc=> ht ⟨c,hc⟩]
    by_cases hex: ∃ k r c,rs[k]? =some r∧listed.getD k false=true∧(i,c)∈r.2
    · obtain ⟨k,r,c,h2,h3,h4⟩:=hex
      have hkj:k≠j:=fun e=> by subst e;rw [h3] at hun;cases hun
      have hkn:k < (l.take n).length:=by have:=(List.getElem?_eq_some_iff.1 h2).1;omega
      rw [show (stL (listed.setIfInBounds j true)).ob i=c from co _ _ 0 σ k _ r (List.getElem?_eq_getElem hkn) h2 (by simp only [Nat.zero_add,hL,if_neg hkj];exact h3) (ct hI h2) h4 fun m r' hr' hne c' hc'=> hne (bJ hI hr' h2 hc' h4)]
      exact (co _ _ 0 σ k _ r (List.getElem?_eq_getElem hkn) h2 (by simpa using h3) (ct hI h2) h4 fun m r' hr' hne c' hc'=> hne (bJ hI hr' h2 hc' h4)).symm
    rw [show (stL (listed.setIfInBounds j true)).ob i=σ.ob i from cb _ _ 0 σ fun k o r h1 h2 h3 c hc=> by
      simp only [Nat.zero_add,hL] at h3
      by_cases hkj:k=j
      · subst hkj;rw [hrj] at h2;obtain rfl:=Option.some.inj h2;exact ht ⟨c,hc⟩
      rw [if_neg hkj] at h3;exact hex ⟨k,r,c,h2,h3,hc⟩]
    exact (cb _ _ 0 σ fun k o r h1 h2 h3 c hc=> hex ⟨k,r,c,h2,by simpa using h3,hc⟩).symm
  refine wpIn_region_any hm ?_
  have key: ∀ (f:Nat) (listed:Array Bool) (a':Act) (w':World),HeadInv .any l.toArray n listed→(((List.range n).filter fun i=> !listed.getD i true).length=f)→
      lw K (stL listed) a' w'→wpAnyIn (WF K.rd) 0 P .any l.toArray (Qr K Q) (f+(l.toArray.size - n)) listed a' w':=by
    intro f
    induction f with
    | zero=>
      intro listed a' w' inv hc hR
      have hall: ∀ i,i < n→listed.getD i true=true:=by
        intro i hi
        have h0:=List.eq_nil_of_length_eq_zero hc
        have:=List.filter_eq_nil_iff.1 h0 i (List.mem_range.2 hi)
        simpa using this
      have hcanon:listed=Array.ofFn (n:=l.toArray.size) fun i=> decide (i.1 < n):=by
        apply Array.ext
        · simp [inv.size]
        intro i h1 h2
        simp only [Array.getElem_ofFn]
        by_cases hi:i < n
        · have:=hall i hi
          simp [h1] at this
          simp [this,hi]
        have:=inv.tail i ab (by rw [inv.size] at h1;exact h1)
        simp [h1] at this
        simp [this,hi]
      rw [Nat.zero_add]
      have hfull:stL listed=bH (l.take n) rs (fun _=> true) 0 σ:=by
        have: ∀ (ops:List Oper) (rs:List Res) (k:Nat) (σ:St),k+ops.length≤n→bH ops rs (fun k=> listed.getD k false) k σ=bH ops rs (fun _=> true) k σ:=by
          intro ops
          induction ops with
          | nil=> intros;simp [bH]
          | cons o ops ih=>
            intro rs k σ hk
            cases rs with
            | nil=> simp [bH]
            | cons r rs=>
              simp only [bH]
              have h1:=hall k (by simp at hk;omega)
              have h2:listed.getD k false=true:=by
                have hks:k < listed.size:=by rw [inv.size];simp at hk;omega
                simp [hks] at h1 ⊢;exact h1
              rw [h2]
              exact ih rs (k+1) _ (by simp at hk;omega)
        exact this _ _ 0 _ ab
      rw [hfull] at hR
      have hw:=hend K a' w' hrd hR
      have hdl:(l.drop n).length=l.toArray.size - n:=by simp
      have:=dC (md:= .any) (Q':=Qr K Q) (l.drop n) n listed a' w' (fun j=> by simp [List.getElem?_drop]) (by rw [hdl,hcanon];exact hseq) hw
      rwa [hdl] at this
    | succ f ih=>
      intro listed a' w' inv hc hR
      have hex: ∃ i,i < n∧listed.getD i true=false:=by
        cases hL:(List.range n).filter fun i=> !listed.getD i true with
        | nil=> rw [hL] at hc;simp at hc
        | cons i r=>
          have:i∈(List.range n).filter fun i=> !listed.getD i true:=by rw [hL];exact List.mem_cons_self
          rw [List.mem_filter] at this
          exact ⟨i,List.mem_range.1 this.1,by simpa using this.2⟩
      have hnotail: ∀ t,n≤t→t∉Region.ready .any l.toArray listed:=by
        intro t ht
        rcases hsc with he | ⟨hsk,hch⟩
        · intro hr
          obtain ⟨_,ot,hot,_⟩:=mem_ready.1 hr
          have:=(Array.getElem?_eq_some_iff.1 hot).1
          omega
        by_cases hlt:n < l.toArray.size
        · obtain ⟨i,hi,hun⟩:=hex
          exact tail_waits hsk hch hlt inv _ i rfl hi hun t ht
        intro hr
        obtain ⟨_,ot,hot,_⟩:=mem_ready.1 hr
        have:=(Array.getElem?_eq_some_iff.1 hot).1
        omega
      have hfirst: ∀ i,i < n→listed.getD i true=false→ ∃ k,k∈Region.ready .any l.toArray listed:=by
        intro i
        induction i using Nat.strongRecOn with
        | _ i ihi=>
          intro hi hun
          by_cases hp: ∃ k,k < i∧listed.getD k true=false
          · obtain ⟨k,hk,hku⟩:=hp
            exact ihi k hk ab hku
          have hlt:i < l.toArray.size:=by omega
          refine ⟨i,mem_ready.2 ⟨hun,l.toArray[i],Array.getElem?_eq_getElem hlt,fun e he heb=> ?_⟩⟩
          have h1:=hedge i hi
          rw [Array.getElem?_eq_getElem hlt] at h1
          have h2:=(List.all_eq_true.1 h1) e (by simpa using he)
          rw [heb] at h2
          simp only [Bool.not_true,Bool.false_or,decide_eq_true_eq] at h2
          have h3:listed.getD e.on true=true:=by
            cases hx:listed.getD e.on true with
            | true=> rfl
            | false=> exact absurd ⟨e.on,h2,hx⟩ hp
          have h4:e.on < listed.size:=by rw [inv.size];omega
          simp [h4] at h3 ⊢
          exact h3
      rw [show f+1+(l.toArray.size - n)=(f+(l.toArray.size - n))+1 by omega]
      refine ⟨fun h0=> ?_,fun j hj=> ?_⟩
      · obtain ⟨i,hi,hun⟩:=hex
        obtain ⟨k,hk⟩:=hfirst i hi hun
        rw [h0] at hk
        cases hk
      have hjn:j < n:=by
        rcases Nat.lt_or_ge j n with h | h
        · exact h
        exact absurd hj (hnotail j h)
      obtain ⟨hjun,oj,hoj,hall⟩:=mem_ready.1 hj
      have hojT:=hgetT j oj hjn hoj
      have hjs:j < listed.size:=by rw [inv.size];omega
      have hjr:j < rs.length:=by omega
      have hrj:rs[j]? =some rs[j]:=List.getElem?_eq_getElem hjr
      have hunf:listed.getD j false=false:=getD_both hjun
      have hO:=hops j oj rs[j] hojT hrj
      have hons: ∀ k∈Edge.ons oj.after.toList,listed.getD k false=true:=by
        intro k hk
        obtain ⟨e,he,heb,rfl⟩:=eA hk
        exact hall e (by simpa using he) heb
      have hcnt:((List.range n).filter fun i=> !(listed.setIfInBounds j true).getD i true).length=f:=by
        have e1:((List.range n).filter fun i=> !(listed.setIfInBounds j true).getD i true)=((List.range n).filter fun i=> !listed.getD i true).filter fun i=> i !=j:=by
          rw [List.filter_filter]
          apply List.filter_congr
          intro i _
          by_cases hij:j=i
          · subst hij;simp [hjs]
          rw [getD_set_ne true hij];simp [Ne.symm hij]
        rw [e1]
        have hnd:((List.range n).filter fun i=> !listed.getD i true).Nodup:=List.Pairwise.filter _ List.nodup_range
        have hmem:j∈(List.range n).filter fun i=> !listed.getD i true:=by rw [List.mem_filter];exact ⟨List.mem_range.2 hjn,by simpa using hjun⟩
        have:=List.length_erase_of_mem hmem
        rw [hnd.erase_eq_filter] at this
        rw [this,hc]
        rfl
      have hnext: ∀ (v:Value) (w'':World),lw K (rs[j].app oj.dst (stL listed)) (a'.put oj.dst v) w''→
          wpAnyIn (WF K.rd) 0 P .any l.toArray (Qr K Q) (f+(l.toArray.size - n)) (listed.setIfInBounds j true) (a'.put oj.dst v) w'':=by
        intro v w'' hr
        refine ih _ _ w'' (inv.set hj hjn) hcnt ?_
        rw [hset listed j oj rs[j] hjs hojT hrj hunf];exact hr
      have hyl: ∀ (g d:Nat),((l.take n)[g]?).bind (·.dst)=some d→(l.toArray[g]?).bind (·.dst)=some d:=by
        intro g d hgd
        rw [List.getElem?_take] at hgd
        split at hgd
        · simpa using hgd
        cases hgd
      obtain ⟨ι',S',R'⟩:=hR
      have own2: ∀ i,i∈(rs[j]).2.map (·.1)→ ∃ c,(i,c)∈(rs[j]).2:=fun i h=> by
        obtain ⟨⟨i',c⟩,h1,rfl⟩:=List.mem_map.1 h
        exact ⟨c,h1⟩
      have stepR:(∀ τ:St,Φ (τ.ob io)→bp P oj (bF σ ((l.take n).filterMap (·.dst)) (iK AA (db rs) j) ((rs[j]).2.map (·.1)) (l.take n) (rs.take j) (Edge.ons oj.after.toList) τ) ((rs[j]).app oj.dst (bF σ ((l.take n).filterMap (·.dst)) (iK AA (db rs) j) ((rs[j]).2.map (·.1)) (l.take n) (rs.take j) (Edge.ons oj.after.toList) τ)))→
          cD P oj a'.eval w' fun v w''=> lw K (rs[j].app oj.dst (stL listed)) (a'.put oj.dst v) w'':=by
        intro hst
        have:=hst (stL listed) (halt listed)
        rw [hmix listed j oj rs[j] inv hojT hrj hunf hons _ own2] at this
        exact this K ι' S' a' w' R'
      unfold wpOpIn
      simp only [hoj]
      generalize hrs:rs[j]=rj at hO
      cases hO with
      | plain hg hst=>
        rw [if_pos (by simp [Region.wanted,hg])]
        subst hrs
        exact bO (stepR hst) fun v w'' hp=> hnext v w'' hp
      | yes hg hgd hv hst=>
        subst hrs
        have hv':=hv (stL listed) (halt listed)
        rw [hmix listed j oj rs[j] inv hojT hrj hunf hons _ own2] at hv'
        rw [if_pos (by simp [Region.wanted,hg,eM R' (hyl _ _ hgd) hv'])]
        exact bO (stepR hst) fun v w'' hp=> hnext v w'' hp
      | no hg hgd hv hb=>
        have hv':=hv (stL listed) (halt listed)
        rw [hmix listed j oj rs[j] inv hojT hrj hunf hons [] (fun i h=> by cases h)] at hv'
        rw [if_neg (by simp [Region.wanted,hg,er R' (hyl _ _ hgd) hv' hb])]
        refine ⟨fun _ _=> trivial,hnext _ _ ?_⟩
        rw [hrs]
        exact ⟨ι',S',R'.put oj.dst (av:= .v undef) .v fun i hi=> by cases hi⟩
  have inv0:HeadInv .any l.toArray n (Array.replicate l.toArray.size false):=
    ⟨by simp,fun j oj _ hl=> (by rw [getD_replicate_false] at hl;cases hl),fun t _ ht=> getD_in (by simpa using ht) (getD_replicate_false _ _)⟩
  have hcnt0:((List.range n).filter fun i=> !(Array.replicate l.toArray.size false).getD i true).length=n:=by
    have:((List.range n).filter fun i=> !(Array.replicate l.toArray.size false).getD i true)=List.range n:=by
      apply List.filter_eq_self.2
      intro i hi
      have:i < l.toArray.size:=by have:=List.mem_range.1 hi;omega
      simp only [getD_in (listed:=Array.replicate l.toArray.size false) (i:=i) (by simpa using this) (getD_replicate_false _ _)];rfl
    rw [this];simp
  have hst0:stL (Array.replicate l.toArray.size false)=σ:=by
    refine St.eq (eb _ _ _ _) (fun t=> cq _ _ _ _ fun j o r _ _ hl=> ?_) (fun i=> cb _ _ _ _ fun j o r _ _ hl=> ?_) (cM _ _ _ _) (cI _ _ _ _)
    · simp only [getD_replicate_false] at hl;cases hl
    simp only [getD_replicate_false] at hl;cases hl
  have:=key n _ a0 w0.drew inv0 hcnt0 (by rw [hst0];exact ⟨ι0,S0,R0.drew⟩)
  rw [show n+(l.toArray.size - n)=l.toArray.size by omega] at this
  exact this

section
variable {P:Program} {σ:St} {io:aw} {Φ:Slot→Prop}
theorem cj {all:List Oper} {W:List Nat} {I:List aw} {AA:List (List aw)} {Kont:List Res→Prop} {os:List Oper} {rs:List Res} {d:Option Tmp} {op:Op} {ty:TypeId} {p:String} {af:List Edge} (r:Res)
    (hs: ∀ τ:St,Φ (τ.ob io)→Stp P d op ty (bF σ W (iK AA I rs.length) (r.2.map (·.1)) all rs (Edge.ons af) τ) (r.app d (bF σ W (iK AA I rs.length) (r.2.map (·.1)) all rs (Edge.ons af) τ))) (h:AnyOpsW io Φ P all W I AA σ Kont os (rs++[r])):AnyOpsW io Φ P all W I AA σ Kont (⟨d,op,ty,p,af.toArray,none⟩::os) rs:=
  ⟨r, .plain rfl fun τ hτ=> hs τ hτ _ rfl rfl rfl,h⟩
theorem jp {all:List Oper} {W:List Nat} {I:List aw} {AA:List (List aw)} {Kont:List Res→Prop} {rs:List Res} (h:Kont rs):AnyOpsW io Φ P all W I AA σ Kont [] rs:=h
theorem ck {all:List Oper} {W:List Nat} {I:List aw} {AA:List (List aw)} {Kont:List Res→Prop} {os:List Oper} {rs rs':List Res} (h:rs=rs') (hh:AnyOpsW io Φ P all W I AA σ Kont os rs'):AnyOpsW io Φ P all W I AA σ Kont os rs:=h ▸ hh
theorem AnyOpsW.imp {all:List Oper} {W:List Nat} {I:List aw} {AA:List (List aw)} {K K':List Res→Prop} (hk: ∀ rs,K rs→K' rs): ∀ {os:List Oper} {rs:List Res},AnyOpsW io Φ P all W I AA σ K os rs→AnyOpsW io Φ P all W I AA σ K' os rs
  | [],rs,h=> hk rs h
  | o::os,rs,⟨r,h1,h2⟩=> ⟨r,h1,AnyOpsW.imp hk h2⟩
theorem ku (io:aw) (Φ:Slot→Prop) {rb:Bool} {Q:Exit→St→Prop} {id:Nat} {l hd tl:List Oper} (n:Nat) (W:List Nat) (I:List aw) (hm:P.follows .mixedOrders=true) (hB:gw l.toArray n=true) (hW:(l.take n).filterMap (·.dst)=W) (hI:I.Nodup)
    (e1:l.take n=hd) (e2:l.drop n=tl) (h0:Φ (σ.ob io)) (h:AnyOpsW io Φ P hd W I [] σ (fun rs=> (db rs=I∧ ∀ r∈rs,∀ c,(io,c)∈r.2→Φ c)∧DL rb P l.toArray Q tl (bH hd rs (fun _=> true) 0 σ)) hd []):D rb P (.region id l.toArray true) Q σ:=by
  subst e1;subst e2
  exact pi io Φ n W I [] hm hB hW hI h0 (AnyOpsW.imp (fun rs h=> ⟨⟨⟨h.1.1,rfl⟩,h.1.2⟩,h.2⟩) h)
end

def dI (M:List (Int×Value)) (n:Int) (u:Value):List (Int×Value):=if (fB M n).isSome then M else M++[(n,u)]
theorem ij {k:Int}: ∀ {M:List (Int×Value)} {i j:Nat} {v:Value},ff k M i=some (j,v)→ ∃ q,j=i+q∧M[q]? =some (k,v)
  | [],_,_,_,h=> by cases h
  | p::l,i,j,v,h=> by
    unfold ff at h
    by_cases hk:k=p.1
    · rw [if_pos hk] at h
      cases h
      exact ⟨0,rfl,by rw [hk];rfl⟩
    rw [if_neg hk] at h
    obtain ⟨q,h1,h2⟩:=ij h
    exact ⟨q+1,by omega,by simpa using h2⟩
variable {P:Program} {T k e:TypeId}
theorem mj {w:World} {g:Nat} {M:List (Int×Value)} {x:Int} {v:Value} (hT:P.underlying T=some (.map k e)) (hk:P.underlying k=some (.int .i64)) (hb:w.heap[g]? =some (.map (bM M).toArray M.length)) (hm: ∀ u,fB M x=some u→u=v):
    (Instr.mapUpdate T (.map (some g)) (.int .i64 x) v).run P w= .ok () (w.putObj g (.map (bM (dI M x v)).toArray (dI M x v).length)):=by
  cases hg:fB M x with
  | none=>
    have:dI M x v=M++[(x,v)]:=by unfold dI;rw [hg];rfl
    rw [this]
    exact ma hT hk hb hg
  | some u=>
    have hu:=hm u hg
    subst hu
    have:dI M x u=M:=by unfold dI;rw [hg];rfl
    rw [this]
    unfold fB at hg
    cases hf:ff x M 0 with
    | none=> rw [hf] at hg;cases hg
    | some p=>
      obtain ⟨i,v'⟩:=p
      rw [hf] at hg
      obtain rfl:v'=u:=Option.some.inj hg
      obtain ⟨q,hq,hM⟩:=ij hf
      have hq:i=q:=by omega
      subst hq
      have hes:(bM M)[i]? =some ⟨.int .i64 x,v',i⟩:=by rw [dS,hM];rfl
      have hsame:((bM M).modify i fun e=> { e with key:= .int .i64 x,val:=v' })=bM M:=by
        apply List.ext_getElem?
        intro j
        rw [List.getElem?_modify]
        by_cases hj:i=j
        · subst hj
          rw [hes];simp
        simp [hj]
      have hsb:Instr.sameBits 10000 (.int .i64 x) (.int .i64 x)=true:=by
        rw [show (10000:Nat)=9999+1 from rfl,Instr.sameBits];simp
      simp only [Instr.mapUpdate,Sem.run_bind,run_underlying hT,Result.andThen_ok,getObj,setObj,Sem.run,hb,Result.andThen,kg hk,jX hk,hf]
      simp [Instr.keyThatStays,hes,hsame,hsb,hb,World.putObj,Sem.run,Result.andThen]
section
variable {σ:St}
theorem mA {ty:TypeId} (x y v:Operand) (hT:P.underlying T=some (.map k e)) (hk:P.underlying k=some (.int .i64)) {id:aw} {M M':List (Int×Value)} {c c':Nat} (hc:c=M.length) (hx:σ.eval x= .mp id) (hid:σ.ob id= .obj (.mp (bM M) c))
    {n:Int} (hy:σ.eval y= .v (.int .i64 n)) (hv:σ.eval v= .agg []) (hr: ∀ u,fB M n=some u→u= .agg #[]) (hM:dI M n (.agg #[])=M') (hc':M'.length=c'):Stp P none (.mapUpdate T x y v) ty σ ((σ.setOb id (.obj (.mp (bM M') c'))).put none .dead):=by
  intro o hd ho ht
  subst hc;subst hM;subst hc'
  intro K ι S a w R
  obtain ⟨B,g,h1,h2,h3,h4⟩:=R.mapAt hx hid
  have hi:=R.eval y
  rw [hy] at hi
  have hi:=hi.toV
  have hu:=R.eval v
  rw [hv] at hu
  generalize hav:a.eval v=uu at hu
  cases hu with
  | agg a1 a2 a3=>
  rename_i us
  obtain rfl:us= #[]:=Array.size_eq_zero_iff.1 (by simpa using a1)
  obtain ⟨M',hM'⟩: ∃ M',dI M n (.agg #[])=M':=⟨_,rfl⟩
  have hrun:(execOp a.eval o).run P w= .ok .skip (w.putObj g (.map (bM M').toArray M'.length)):=by
    have:=mj hT hk h4 hr
    rw [hM'] at this
    simp only [execOp,ho,h3,hi,hav,this,Sem.run_map,Sem.run_bind,Sem.run_pure,Result.andThen_ok]
  rw [hM']
  have hot: ∀ k,k≠g→(w.putObj g (.map (bM M').toArray M'.length)).heap[k]? =w.heap[k]? :=fun k hk=> World.putObj_heap_other hk
  have hk':Keeps (fun k=> B.g=some k) w (w.putObj g (.map (bM M').toArray M'.length)):=⟨rfl,rfl,rfl,by simp,fun k _ hn=> hot k fun e=> hn (e ▸ h2)⟩
  have R1:=R.upd (o':= .mp (bM M') M'.length) hid h1 hk' ⟨B,g,h1,h2,by
    have:=(Array.getElem?_eq_some_iff.1 h4).1
    simp [World.putObj,this]⟩ (fun i hi=> hi.elim)
  refine ey hrun ⟨ι,S,?_⟩
  rw [hd]
  exact R1.put none .dead fun i hi=> by cases hi
end

section
variable {rb:Bool} {P:Program} {Q:Exit→St→Prop} {σ:St}
end
section
variable {rb:Bool} {P:Program} {Q:Exit→St→Prop} {σ:St} {ops:Array Oper} {rest:List Oper} {d:Option Tmp} {ty:TypeId} {p:String} {af:Array Edge}
end
theorem ar {σ:St} {rn:List (aw×aw)} {xs ys:List AV} (h:dw σ rn xs ys:=by repeat' (first | exact aD | refine aB ?_ ?_ | exact Lv.v | exact aF (by assumption) | exact aF ab | exact Lv.sl | exact Lv.fp | exact Lv.nil | exact aq rfl rfl | exact aP rfl | refine Lv.agg rfl ?_ | refine Lv.fn rfl ?_ rfl ?_ | refine Lv.ifc ?_ | exact am | refine ai ?_ ?_)):dw σ rn xs ys:=h
theorem al {σ:St} {F:aw→Bool} {xs ys:List AV} (h:ec σ F xs ys:=by repeat' (first | exact aJ | refine aI ?_ ?_ | exact Lv.v | exact aF ab | exact Lv.sl | exact Lv.fp | exact Lv.nil | refine Lv.agg rfl ?_ | refine Lv.fn rfl ?_ rfl ?_ | exact am | refine ai ?_ ?_ | exact Lv.z0)):ec σ F xs ys:=h
theorem tr {p:Prop} (h:p:=by repeat' (first | exact trivial | refine ⟨rfl,?_⟩)):p:=h
theorem ob {p:Prop} (h:p:=by repeat' (first | exact trivial | exact ⟨rfl,⟨_,rfl, .rowE rfl⟩,rfl⟩ | exact ⟨rfl,⟨_,rfl, .box ag (by repeat' (first | exact am | refine ai ?_ ?_ | exact Lv.v | exact Lv.sl | exact Lv.nil | exact aq rfl rfl | exact aP rfl | exact Lv.fp | exact aF rfl | exact po rfl | exact fy rfl rfl | refine Lv.fn rfl ?_ rfl ?_ | refine Lv.agg rfl ?_ | exact Lv.z))⟩,rfl⟩ | refine ⟨?_,?_⟩)):p:=h
end Go.Proofs.Ytmjnackchaahbaa

namespace Go.Proofs.Ytmjnackchaahbaa

inductive Opc where
  | push | var | setVar | name | draw | add | sub | mul | div | neg | lt | le | eq | not | jump | unl | send | timer | cancel | sync | reply | fail | stop
  deriving DecidableEq
def Opc.num:Opc→Nat
  | .push=> 1 | .var=> 2 | .setVar=> 3 | .name=> 4 | .draw=> 5 | .add=> 6 | .sub=> 7 | .mul=> 8 | .div=> 9 | .neg=> 10 | .lt=> 11 | .le=> 12 | .eq=> 13 | .not=> 14
  | .jump=> 15 | .unl=> 16 | .send=> 17 | .timer=> 18 | .cancel=> 19 | .sync=> 20 | .reply=> 21 | .fail=> 22 | .stop=> 23
def Opc.pops:Opc→Nat
  | .push=> 0 | .var=> 0 | .setVar=> 1 | .name=> 0 | .draw=> 1 | .add=> 2 | .sub=> 2 | .mul=> 2 | .div=> 2 | .neg=> 1 | .lt=> 2 | .le=> 2 | .eq=> 2 | .not=> 1
  | .jump=> 0 | .unl=> 1 | .send=> 3 | .timer=> 0 | .cancel=> 0 | .sync=> 0 | .reply=> 2 | .fail=> 1 | .stop=> 0
def Opc.puts:Opc→Nat
  | .push=> 1 | .var=> 1 | .setVar=> 0 | .name=> 1 | .draw=> 1 | .add=> 1 | .sub=> 1 | .mul=> 1 | .div=> 1 | .neg=> 1 | .lt=> 1 | .le=> 1 | .eq=> 1 | .not=> 1
  | .jump=> 0 | .unl=> 0 | .send=> 0 | .timer=> 0 | .cancel=> 0 | .sync=> 0 | .reply=> 0 | .fail=> 0 | .stop=> 0
structure eY where
  op:Opc
  n:Int:=0
inductive Bo where
  | add | sub | mul | div | lt | le | eq | gt | ge | ne
  deriving DecidableEq
def Bo.text:Bo→String
  | .add=> "+" | .sub=> "-" | .mul=> "*" | .div=> "/" | .lt=> "<" | .le=> "<=" | .eq=> "==" | .gt=> ">" | .ge=> ">=" | .ne=> "!="
def Bo.code:Bo→List eY
  | .add=> [{ op:= .add }] | .sub=> [{ op:= .sub }] | .mul=> [{ op:= .mul }] | .div=> [{ op:= .div }] | .lt=> [{ op:= .lt }] | .le=> [{ op:= .le }] | .eq=> [{ op:= .eq }]
  | .gt=> [{ op:= .le },{ op:= .not }] | .ge=> [{ op:= .lt },{ op:= .not }] | .ne=> [{ op:= .eq },{ op:= .not }]
inductive Ex where
  | int (n:Int) | bool (b:Bool) | var (i:Nat) | name (k:Nat) | draw (e:Ex) | neg (e:Ex) | not (e:Ex) | bin (o:Bo) (a b:Ex) | and (a b:Ex) | or (a b:Ex)
mutual
inductive Sm where
  | assign (i:Nat) (e:Ex) | send (to:Ex) (k:Nat) (a b:Ex) | timer (k:Nat) | cancel (k:Nat) | sync | stop | reply (a b:Ex) | fail (e:Ex) | loop (c:Ex) (b:Bk) | ite (c:Ex) (a b:Bk)
inductive Bk where
  | nil | cons (s:Sm) (b:Bk)
end

def cF:Ex→Nat→List eY
  | .int n,_=> [{ op:= .push,n:=n }]
  | .bool b,_=> [{ op:= .push,n:=if b then 1 else 0 }]
  | .var i,_=> [{ op:= .var,n:=i }]
  | .name k,_=> [{ op:= .name,n:=k }]
  | .draw e,at_=> cF e at_++[{ op:= .draw }]
  | .neg e,at_=> cF e at_++[{ op:= .neg }]
  | .not e,at_=> cF e at_++[{ op:= .not }]
  | .bin o a b,at_=> cF a at_++cF b (at_+(cF a at_).length)++o.code
  | .and a b,at_=>
    let c:=cF a at_
    let x:=cF b (at_+c.length+1)
    let f:=at_+c.length+1+x.length+1
    c++[{ op:= .unl,n:=(f:Nat) }]++x++[{ op:= .jump,n:=((f+1:Nat):Int) }]++[{ op:= .push,n:=0 }]
  | .or a b,at_=>
    let c:=cF a at_
    let f:=at_+c.length+1+1+1
    let x:=cF b f
    c++[{ op:= .unl,n:=(f:Nat) }]++[{ op:= .push,n:=1 }]++[{ op:= .jump,n:=((f+x.length:Nat):Int) }]++x
mutual
def nD:Sm→Nat→List eY
  | .assign i e,at_=> cF e at_++[{ op:= .setVar,n:=i }]
  | .send t k a b,at_=>
    let c:=cF t at_
    let d:=cF a (at_+c.length)
    c++d++cF b (at_+(c.length+d.length))++[{ op:= .send,n:=k }]
  | .timer k,_=> [{ op:= .timer,n:=k }]
  | .cancel k,_=> [{ op:= .cancel,n:=k }]
  | .sync,_=> [{ op:= .sync }]
  | .stop,_=> [{ op:= .stop }]
  | .reply a b,at_=> cF a at_++cF b (at_+(cF a at_).length)++[{ op:= .reply }]
  | .fail e,at_=> cF e at_++[{ op:= .fail }]
  | .loop c b,at_=>
    let x:=cF c at_
    let y:=gR b (at_+x.length+1)
    x++[{ op:= .unl,n:=((at_+x.length+y.length+2:Nat):Int) }]++y++[{ op:= .jump,n:=(at_:Nat) }]
  | .ite c a b,at_=>
    let x:=cF c at_
    let y:=gR a (at_+x.length+1)
    let f:=at_+x.length+1+y.length+1
    let z:=gR b f
    x++[{ op:= .unl,n:=(f:Nat) }]++y++[{ op:= .jump,n:=((f+z.length:Nat):Int) }]++z
def gR:Bk→Nat→List eY
  | .nil,_=> []
  | .cons s b,at_=> nD s at_++gR b (at_+(nD s at_).length)
end

def gE (i:Nat) (x:eY):List Nat:=match x.op with
  | .stop=> []
  | .jump=> [x.n.toNat]
  | .unl=> [i+1,x.n.toNat]
  | _=> [i+1]
def fW (nv:Nat) (x:eY):Prop:=match x.op with
  | .push=> -2147483647≤x.n∧x.n≤2147483647
  | .var=> 0≤x.n∧x.n < nv
  | .setVar=> 0≤x.n∧x.n < nv
  | .name=> 0≤x.n∧x.n < 9
  | .send=> 0≤x.n∧x.n < 30
  | .timer=> 0≤x.n∧x.n < 8
  | .cancel=> 0≤x.n∧x.n < 8
  | _=> 0≤x.n
def Good (D:Nat→Nat) (nv lo hi at_:Nat) (c:List eY):Prop:= ∀ k x,c[k]? =some x→fW nv x∧x.op.pops≤D (at_+k)∧ ∀ j∈gE (at_+k) x,lo≤j∧j≤hi∧D j=D (at_+k) - x.op.pops+x.op.puts
theorem Good.app {D:Nat→Nat} {nv lo hi a p:Nat} {c c':List eY} (h:Good D nv lo hi a c) (h':Good D nv lo hi p c') (hp:p=a+c.length):Good D nv lo hi a (c++c'):=by
  subst hp
  intro k x hx
  by_cases hk:k < c.length
  · rw [List.getElem?_append_left hk] at hx
    exact h k x hx
  rw [List.getElem?_append_right ab] at hx
  have:=h' _ x hx
  rwa [show a+c.length+(k - c.length)=a+k by omega] at this
theorem Good.one {D:Nat→Nat} {nv lo hi a:Nat} {x:eY} (h1:fW nv x) (h2:x.op.pops≤D a) (h3: ∀ j∈gE a x,lo≤j∧j≤hi∧D j=D a - x.op.pops+x.op.puts):Good D nv lo hi a [x]:=by
  intro k y hy
  cases k with
  | zero=> simp at hy;subst hy;exact ⟨h1,h2,h3⟩
  | succ k=> simp at hy
theorem Good.nil {D:Nat→Nat} {nv lo hi a:Nat}:Good D nv lo hi a []:=fun k x hx=> by simp at hx
theorem Good.mono {D:Nat→Nat} {nv lo hi lo' hi' a:Nat} {c:List eY} (h:Good D nv lo hi a c) (h1:lo'≤lo) (h2:hi≤hi'):Good D nv lo' hi' a c:=fun k x hx=> by
  obtain ⟨a1,a2,a3⟩:=h k x hx
  exact ⟨a1,a2,fun j hj=> by obtain ⟨b1,b2,b3⟩:=a3 j hj;exact ⟨by omega,by omega,b3⟩⟩
def Fit (D:Nat→Nat) (a:Nat) (ds:List Nat):Prop:= ∀ k d,ds[k]? =some d→D (a+k)=d
theorem Fit.left {D:Nat→Nat} {a:Nat} {l m:List Nat} (h:Fit D a (l++m)):Fit D a l:=fun k d hd=> h k d (by
  rw [List.getElem?_append_left (List.getElem?_eq_some_iff.1 hd).1];exact hd)
theorem Fit.right {D:Nat→Nat} {a:Nat} {l m:List Nat} (h:Fit D a (l++m)):Fit D (a+l.length) m:=fun k d hd=> by
  have:=h (l.length+k) d (by rw [List.getElem?_append_right ab,Nat.add_sub_cancel_left];exact hd)
  rwa [← Nat.add_assoc] at this
theorem Fit.hd {D:Nat→Nat} {a d:Nat} {l:List Nat} (h:Fit D a (d::l)):D a=d:=h 0 d rfl
def cY:Ex→Nat→List Nat
  | .int _,d=> [d] | .bool _,d=> [d] | .var _,d=> [d] | .name _,d=> [d]
  | .draw e,d=> cY e d++[d+1] | .neg e,d=> cY e d++[d+1] | .not e,d=> cY e d++[d+1]
  | .bin o a b,d=> cY a d++cY b (d+1)++(match o with | .gt=> [d+2,d+1] | .ge=> [d+2,d+1] | .ne=> [d+2,d+1] | _=> [d+2])
  | .and a b,d=> cY a d++[d+1]++cY b d++[d+1]++[d]
  | .or a b,d=> cY a d++[d+1]++[d]++[d+1]++cY b d
mutual
def fH:Sm→List Nat
  | .assign _ e=> cY e 0++[1]
  | .send t _ a b=> cY t 0++cY a 1++cY b 2++[3]
  | .timer _=> [0] | .cancel _=> [0] | .sync=> [0] | .stop=> [0]
  | .reply a b=> cY a 0++cY b 1++[2]
  | .fail e=> cY e 0++[1]
  | .loop c b=> cY c 0++[1]++kD b++[0]
  | .ite c a b=> cY c 0++[1]++kD a++[0]++kD b
def kD:Bk→List Nat
  | .nil=> []
  | .cons s b=> fH s++kD b
end
theorem ci: ∀ (e:Ex) (d:Nat),∃ l,cY e d=d::l
  | .int _,_=> ⟨_,rfl⟩ | .bool _,_=> ⟨_,rfl⟩ | .var _,_=> ⟨_,rfl⟩ | .name _,_=> ⟨_,rfl⟩
  | .draw e,d=> by obtain ⟨l,h⟩:=ci e d;exact ⟨l++[d+1],by simp [cY,h]⟩
  | .neg e,d=> by obtain ⟨l,h⟩:=ci e d;exact ⟨l++[d+1],by simp [cY,h]⟩
  | .not e,d=> by obtain ⟨l,h⟩:=ci e d;exact ⟨l++[d+1],by simp [cY,h]⟩
  | .bin o x y,d=> by obtain ⟨l,h⟩:=ci x d;cases o <;> exact ⟨_,by simp only [cY,h,List.cons_append];rfl⟩
  | .and x y,d=> by obtain ⟨l,h⟩:=ci x d;exact ⟨_,by rw [cY,h];rfl⟩
  | .or x y,d=> by obtain ⟨l,h⟩:=ci x d;exact ⟨_,by rw [cY,h];rfl⟩
theorem Fit.e {D:Nat→Nat} {a d:Nat} {e:Ex} (h:Fit D a (cY e d)):D a=d:=by
  obtain ⟨l,hl⟩:=ci e d
  rw [hl] at h
  exact h.hd
theorem mw: ∀ (s:Sm),∃ l,fH s=0::l
  | .assign _ e=> by obtain ⟨l,h⟩:=ci e 0;exact ⟨_,by simp only [fH,h,List.cons_append];rfl⟩
  | .send t _ a b=> by obtain ⟨l,h⟩:=ci t 0;exact ⟨_,by simp only [fH,h,List.cons_append];rfl⟩
  | .timer _=> ⟨_,by simp only [fH];rfl⟩ | .cancel _=> ⟨_,by simp only [fH];rfl⟩ | .sync=> ⟨_,by simp only [fH];rfl⟩ | .stop=> ⟨_,by simp only [fH];rfl⟩
  | .reply a b=> by obtain ⟨l,h⟩:=ci a 0;exact ⟨_,by simp only [fH,h,List.cons_append];rfl⟩
  | .fail e=> by obtain ⟨l,h⟩:=ci e 0;exact ⟨_,by simp only [fH,h,List.cons_append];rfl⟩
  | .loop c b=> by obtain ⟨l,h⟩:=ci c 0;exact ⟨_,by simp only [fH,h,List.cons_append];rfl⟩
  | .ite c a b=> by obtain ⟨l,h⟩:=ci c 0;exact ⟨_,by simp only [fH,h,List.cons_append];rfl⟩
theorem Fit.s {D:Nat→Nat} {a:Nat} {s:Sm} (h:Fit D a (fH s)):D a=0:=by
  obtain ⟨l,hl⟩:=mw s
  rw [hl] at h
  exact h.hd
theorem Fit.b {D:Nat→Nat} {a:Nat} {b:Bk} (h:Fit D a (kD b)) (hx:D (a+(gR b a).length)=0):D a=0:=by
  cases b with
  | nil=> simpa [gR] using hx
  | cons s b=> simp only [kD] at h;exact h.left.s
end Go.Proofs.Ytmjnackchaahbaa

namespace Go.Proofs.Ytmjnackchaahbaa

def fF (n:Int):Int:=max (-2147483647) (min n 2147483647)
def Rg (v:Int):Prop:= -2147483647≤v∧v≤2147483647
theorem fI (n:Int):Rg (fF n):=by unfold Rg fF;omega
structure Ac where
  k:Int
  a:Int:=0
  b:Int:=0
  c:Int:=0
  d:Int:=0
  deriving DecidableEq
structure Cx where
  code:List eY
  dur:Nat
  names:List Int
  ans:List Int
structure Ms where
  vars:List Int
  acts:List Ac:=[]
  steps:Nat:=0
  stack:List Int:=[]
  pc:Nat
  asked:List Int:=[]
  fin:Bool:=false
  cov:List Nat:=[]
def Ms.top (s:Ms) (k:Nat):Int:=s.stack.getD (s.stack.length - 1 - k) 0
def Ms.pop (s:Ms) (k:Nat):List Int:=s.stack.take (s.stack.length - k)
def fK (l:List Int) (i:Nat) (k:Int):Int:=l.getD i 0 % k
def be (l:List Ac):Nat:=l.countP fun a=> decide (a.k=3)
def iy (b:Bool):Int:=if b then 1 else 0
def oS:Opc→Int→Int→Int
  | .add,y,x=> fF (y+x)
  | .sub,y,x=> fF (y - x)
  | .mul,y,x=> fF (y*x)
  | .div,y,x=> if x=0 then 0 else fF (y.tdiv x)
  | .lt,y,x=> iy (decide (y < x))
  | .le,y,x=> iy (decide (y≤x))
  | _,y,x=> iy (decide (y=x))
def bv (K:Cx) (x:eY) (s:Ms):Ms:=match x.op with
  | .push=> { s with stack:=s.stack++[fF x.n] }
  | .var=> { s with stack:=s.stack++[fF (s.vars.getD x.n.toNat 0)] }
  | .setVar=> { s with vars:=s.vars.set x.n.toNat (s.top 0),stack:=s.pop 1,acts:=if x.n < K.dur then s.acts++[{ k:=1,a:=x.n,b:=s.top 0 }] else s.acts }
  | .name=> { s with stack:=s.stack++[fF (K.names.getD x.n.toNat 0)] }
  | .draw=>
    if max 1 (min (s.top 0) 4)=1 then { s with stack:=s.pop 1++[0] }
    else { s with stack:=s.pop 1++[fK K.ans s.asked.length (max 1 (min (s.top 0) 4))],asked:=s.asked++[max 1 (min (s.top 0) 4)] }
  | .neg=> { s with stack:=s.pop 1++[fF (-(s.top 0))] }
  | .not=> { s with stack:=s.pop 1++[iy (decide (s.top 0=0))] }
  | .jump=> { s with pc:=x.n.toNat }
  | .unl=> { s with stack:=s.pop 1,pc:=if s.top 0=0 then x.n.toNat else s.pc }
  | .send=> { s with stack:=s.pop 3,acts:=if 0≤s.top 2∧s.top 2 < K.names.getD 1 0∧be s.acts < 20 then s.acts++[{ k:=3,a:=s.top 2,b:=x.n,c:=s.top 1,d:=s.top 0 }] else s.acts }
  | .timer=> { s with acts:=s.acts++[{ k:=4,a:=x.n }] }
  | .cancel=> { s with acts:=s.acts++[{ k:=5,a:=x.n }] }
  | .sync=> { s with acts:=s.acts++[{ k:=2 }] }
  | .reply=> { s with stack:=s.pop 2,acts:=s.acts++[{ k:=6,a:=s.top 1,b:=s.top 0 }] }
  | .fail=> { s with stack:=s.pop 1,acts:=s.acts++[{ k:=7,a:=s.top 0 }] }
  | .stop=> { s with fin:=true }
  | o=> { s with stack:=s.pop 2++[oS o (s.top 1) (s.top 0)] }
def di (K:Cx) (s:Ms):Ms:=bv K (K.code.getD s.pc { op:= .stop }) { s with pc:=s.pc+1,steps:=s.steps+1,cov:=s.cov++[s.pc] }
def dX (K:Cx):Nat→Ms→Ms
  | 0,s=> s
  | k+1,s=> if s.fin=true then s else dX K k (di K s)
theorem fq {K:Cx} {I:Ms→Prop} (h: ∀ s,I s→s.fin=false→I (di K s)): ∀ k s,I s→I (dX K k s)
  | 0,_,hs=> hs
  | k+1,s,hs=> by
    unfold dX
    split
    · exact hs
    rename_i hf;exact fq h k _ (h s hs (by simpa using hf))
theorem jT {K:Cx} {x:eY} {s:Ms}:(bv K x s).steps=s.steps∧(bv K x s).cov=s.cov:=by
  unfold bv
  cases x.op <;> first | exact ⟨rfl,rfl⟩ | (simp only;split <;> exact ⟨rfl,rfl⟩)
theorem stepM_steps {K:Cx} {s:Ms}:(di K s).steps=s.steps+1∧(di K s).cov=s.cov++[s.pc]:=by
  unfold di
  obtain ⟨h1,h2⟩:=jT (K:=K) (x:=K.code.getD s.pc { op:= .stop }) (s:={ s with pc:=s.pc+1,steps:=s.steps+1,cov:=s.cov++[s.pc] })
  exact ⟨h1,h2⟩
theorem bd (s:Ms) (k:Nat):(s.pop k).length=s.stack.length - k:=by simp [Ms.pop]
theorem ly {K:Cx} {x:eY} {s:Ms} (h:x.op.pops≤s.stack.length):(bv K x s).stack.length=s.stack.length - x.op.pops+x.op.puts:=by
  unfold bv
  generalize x.op=o at h ⊢
  cases o <;> simp only [Opc.pops,Opc.puts] at h ⊢ <;> (try split) <;> first | rfl | (simp only [List.length_append,bd,List.length_cons,List.length_nil];done) | (simp only [List.length_append,bd,List.length_cons,List.length_nil];omega) | omega
theorem nb {K:Cx} {x:eY} {s:Ms} {i:Nat} (hp:s.pc=i+1) (hf:(bv K x s).fin=false):(bv K x s).pc∈gE i x:=by
  unfold bv at hf ⊢
  unfold gE
  cases ho:x.op <;> simp only [ho] at hf ⊢ <;> first | (simp at hf;done) | (rw [hp];exact List.mem_cons_self) | exact List.mem_cons_self | (split <;> simp [hp])
end Go.Proofs.Ytmjnackchaahbaa

namespace Go.Proofs.Ytmjnackchaahbaa

structure PG (K:Cx) (D:Nat→Nat) (nv:Nat):Prop where
  good:Good D nv 0 (K.code.length - 1) 0 K.code
  nv:nv≤16
  nm: ∀ i,Rg (K.names.getD i 0)
theorem gN:Rg 0:=by unfold Rg;omega
theorem ie {n:Int} (h:0≤n∧n < 1000):Rg n:=by unfold Rg;omega
def my (K:Cx) (nv:Nat) (a:Ac):Prop:=(Rg a.a∧Rg a.b∧Rg a.c∧Rg a.d)∧(a.k=3→0≤a.a∧a.a < K.names.getD 1 0)∧(a.k=1→0≤a.a∧a.a < K.dur∧a.a < nv)
structure IV (K:Cx) (nv:Nat) (s:Ms):Prop where
  vl:s.vars.length=nv
  rv: ∀ v∈s.vars,Rg v
  rs: ∀ v∈s.stack,Rg v
  ac: ∀ a∈s.acts,my K nv a
  sn:be s.acts≤20
  ar: ∀ k∈s.asked,2≤k∧k≤4
theorem kb {l:List Int} (h: ∀ v∈l,Rg v) (i:Nat):Rg (l.getD i 0):=by
  by_cases hi:i < l.length
  · rw [List.getD_eq_getElem?_getD,List.getElem?_eq_getElem hi];exact h _ (List.getElem_mem hi)
  rw [List.getD_eq_getElem?_getD,List.getElem?_eq_none ab];exact gN
theorem jG {s:Ms} (h: ∀ v∈s.stack,Rg v) (k:Nat):Rg (s.top k):=kb h _
theorem ol {s:Ms} (h: ∀ v∈s.stack,Rg v) (k:Nat): ∀ v∈s.pop k,Rg v:=fun v hv=> h v (List.mem_of_mem_take hv)
theorem ep {l:List Int} {n:Int} (h: ∀ v∈l,Rg v) (hn:Rg n): ∀ v∈l++[n],Rg v:=fun v hv=> by
  rcases List.mem_append.1 hv with hv | hv
  · exact h v hv
  simp at hv;subst hv;exact hn
theorem kf (b:Bool):Rg (iy b):=by unfold iy Rg;split <;> omega
theorem mU (o:Opc) (y x:Int):Rg (oS o y x):=by
  unfold oS
  split <;> first | exact fI _ | exact kf _ | (split <;> first | exact gN | exact fI _)
theorem np {l:List Int} {i:Nat} {k:Int} (h:2≤k∧k≤4):Rg (fK l i k)∧0≤fK l i k∧fK l i k < k:=by
  unfold fK
  have h1:=Int.emod_nonneg (l.getD i 0) (show k≠0 by omega)
  have h2:=Int.emod_lt_of_pos (l.getD i 0) (show 0 < k by omega)
  exact ⟨by unfold Rg;omega,h1,h2⟩
theorem dx {K:Cx} {nv:Nat} {l:List Ac} {a:Ac} (h: ∀ a∈l,my K nv a) (ha:my K nv a): ∀ b∈l++[a],my K nv b:=fun b hb=> by
  rcases List.mem_append.1 hb with hb | hb
  · exact h b hb
  simp at hb;subst hb;exact ha
theorem dT {l:List Ac} {a:Ac} (h:a.k≠3):be (l++[a])=be l:=by
  unfold be
  rw [List.countP_append]
  simp [h]
theorem kN {l:List Ac} {a:Ac} (h:a.k=3):be (l++[a])=be l+1:=by
  unfold be
  rw [List.countP_append]
  simp [h]
theorem pa {l:List Int} {i:Nat} {n:Int} (h: ∀ v∈l,Rg v) (hn:Rg n): ∀ v∈l.set i n,Rg v:=fun v hv=> by
  rcases List.mem_or_eq_of_mem_set hv with hv | rfl
  · exact h v hv
  exact hn
theorem mu {K:Cx} {D:Nat→Nat} {nv:Nat} (hK:PG K D nv) {x:eY} (hx:fW nv x) {s:Ms} (h:IV K nv s):IV K nv (bv K x s):=by
  have hnv:=hK.nv
  have ht:=jG h.rs
  have hp:=ol h.rs
  unfold bv
  unfold fW at hx
  cases ho:x.op <;> simp only [ho] at hx ⊢
  case push=> exact ⟨h.vl,h.rv,ep h.rs (fI _),h.ac,h.sn,h.ar⟩
  case var=> exact ⟨h.vl,h.rv,ep h.rs (fI _),h.ac,h.sn,h.ar⟩
  case name=> exact ⟨h.vl,h.rv,ep h.rs (fI _),h.ac,h.sn,h.ar⟩
  case setVar=>
    refine ⟨by rw [List.length_set];exact h.vl,pa h.rv (ht 0),hp 1,?_,?_,h.ar⟩
    · split
      · rename_i hd
        exact dx h.ac ⟨⟨ie (n:=x.n) ⟨hx.1,by omega⟩,ht 0,gN,gN⟩,fun e=> by simp at e,fun _=> ⟨hx.1,hd,hx.2⟩⟩
      exact h.ac
    split
    · rw [dT (by simp)];exact h.sn
    exact h.sn
  case draw=>
    split
    · exact ⟨h.vl,h.rv,ep (hp 1) gN,h.ac,h.sn,h.ar⟩
    rename_i hk
    have hk2:2≤max 1 (min (s.top 0) 4)∧max 1 (min (s.top 0) 4)≤4:=by omega
    refine ⟨h.vl,h.rv,ep (hp 1) (np hk2).1,h.ac,h.sn,fun k hk=> ?_⟩
    rcases List.mem_append.1 hk with hk | hk
    · exact h.ar k hk
    simp only [List.mem_singleton] at hk;subst hk;exact hk2
  case neg=> exact ⟨h.vl,h.rv,ep (hp 1) (fI _),h.ac,h.sn,h.ar⟩
  case not=> exact ⟨h.vl,h.rv,ep (hp 1) (kf _),h.ac,h.sn,h.ar⟩
  case jump=> exact ⟨h.vl,h.rv,h.rs,h.ac,h.sn,h.ar⟩
  case unl=> exact ⟨h.vl,h.rv,hp 1,h.ac,h.sn,h.ar⟩
  case send=>
    refine ⟨h.vl,h.rv,hp 3,?_,?_,h.ar⟩
    · split
      · rename_i hc
        exact dx h.ac ⟨⟨ht 2,ie (n:=x.n) ⟨hx.1,by omega⟩,ht 1,ht 0⟩,fun _=> ⟨hc.1,hc.2.1⟩,fun e=> by simp at e⟩
      exact h.ac
    split
    · rename_i hc
      rw [kN rfl];omega
    exact h.sn
  case timer=> exact ⟨h.vl,h.rv,h.rs,dx h.ac ⟨⟨ie (n:=x.n) ⟨hx.1,by omega⟩,gN,gN,gN⟩,fun e=> by simp at e,fun e=> by simp at e⟩,by rw [dT (by simp)];exact h.sn,h.ar⟩
  case cancel=> exact ⟨h.vl,h.rv,h.rs,dx h.ac ⟨⟨ie (n:=x.n) ⟨hx.1,by omega⟩,gN,gN,gN⟩,fun e=> by simp at e,fun e=> by simp at e⟩,by rw [dT (by simp)];exact h.sn,h.ar⟩
  case sync=> exact ⟨h.vl,h.rv,h.rs,dx h.ac ⟨⟨gN,gN,gN,gN⟩,fun e=> by simp at e,fun e=> by simp at e⟩,by rw [dT (by simp)];exact h.sn,h.ar⟩
  case reply=> exact ⟨h.vl,h.rv,hp 2,dx h.ac ⟨⟨ht 1,ht 0,gN,gN⟩,fun e=> by simp at e,fun e=> by simp at e⟩,by rw [dT (by simp)];exact h.sn,h.ar⟩
  case fail=> exact ⟨h.vl,h.rv,hp 1,dx h.ac ⟨⟨ht 0,gN,gN,gN⟩,fun e=> by simp at e,fun e=> by simp at e⟩,by rw [dT (by simp)];exact h.sn,h.ar⟩
  case stop=> exact ⟨h.vl,h.rv,h.rs,h.ac,h.sn,h.ar⟩
  all_goals exact ⟨h.vl,h.rv,ep (hp 2) (mU _ _ _),h.ac,h.sn,h.ar⟩
structure At (K:Cx) (D:Nat→Nat) (nv:Nat) (s:Ms):Prop where
  iv:IV K nv s
  go:s.fin=false→s.pc < K.code.length∧s.stack.length=D s.pc
  cl: ∀ i∈s.cov,i < K.code.length
  cn:s.cov.length=s.steps
  fn:s.fin=true→ ∃ i∈s.cov,∃ x,K.code[i]? =some x∧x.op= .stop
theorem lj {K:Cx} {x:eY} {s:Ms} (hs:s.fin=false) (h:(bv K x s).fin=true):x.op= .stop:=by
  unfold bv at h
  cases ho:x.op <;> simp only [ho] at h <;> first | rfl | (rw [hs] at h;cases h) | (split at h <;> (rw [hs] at h;cases h))
theorem iQ {K:Cx} {D:Nat→Nat} {nv:Nat} (hK:PG K D nv) {s:Ms} (h:At K D nv s) (hf:s.fin=false):At K D nv (di K s):=by
  obtain ⟨hp,hd⟩:=h.go hf
  obtain ⟨x,hx⟩: ∃ x,K.code[s.pc]? =some x:=⟨_,List.getElem?_eq_getElem hp⟩
  have hg:K.code.getD s.pc { op:= .stop }=x:=by rw [List.getD_eq_getElem?_getD,hx];rfl
  obtain ⟨g1,g2,g3⟩:=hK.good s.pc x hx
  rw [Nat.zero_add] at g2 g3
  obtain ⟨e1,e2⟩:=stepM_steps (K:=K) (s:=s)
  have hdef:di K s=bv K x { s with pc:=s.pc+1,steps:=s.steps+1,cov:=s.cov++[s.pc] }:=by unfold di;rw [hg]
  refine ⟨?_,fun hn=> ?_,?_,?_,fun hn=> ?_⟩
  · rw [hdef]
    exact mu hK g1 ⟨h.iv.vl,h.iv.rv,h.iv.rs,h.iv.ac,h.iv.sn,h.iv.ar⟩
  · rw [hdef] at hn ⊢
    have hpc:=nb (K:=K) (x:=x) (s:={ s with pc:=s.pc+1,steps:=s.steps+1,cov:=s.cov++[s.pc] }) (i:=s.pc) rfl hn
    obtain ⟨_,j2,j3⟩:=g3 _ hpc
    refine ⟨by omega,?_⟩
    rw [ly (by simp only;rw [hd];exact g2),j3]
    simp only
    rw [hd]
  · rw [e2]
    intro i hi
    rcases List.mem_append.1 hi with hi | hi
    · exact h.cl i hi
    simp at hi;subst hi;exact hp
  · rw [e2,e1,List.length_append,h.cn];rfl
  rw [hdef] at hn
  have hs:=lj (s:={ s with pc:=s.pc+1,steps:=s.steps+1,cov:=s.cov++[s.pc] }) hf hn
  rw [e2]
  exact ⟨s.pc,by simp,x,hx,hs⟩
theorem oo {K:Cx} {D:Nat→Nat} {nv:Nat} (hK:PG K D nv) {s:Ms} (h:At K D nv s) (k:Nat):At K D nv (dX K k s):=fq (fun s hs hf=> iQ hK hs hf) k s h
theorem gS {K:Cx}: ∀ (k:Nat) (s:Ms),(dX K k s).steps≤s.steps+k∧((dX K k s).fin=false→(dX K k s).steps=s.steps+k)
  | 0,s=> ⟨Nat.le_refl _,fun _=> rfl⟩
  | k+1,s=> by
    unfold dX
    split
    · rename_i hf;exact ⟨by omega,fun h=> by rw [hf] at h;cases h⟩
    obtain ⟨h1,h2⟩:=gS (K:=K) k (di K s)
    rw [stepM_steps.1] at h1 h2
    exact ⟨by omega,fun h=> by have:=h2 h;omega⟩
def bT (vars:List Int) (e:Nat):Ms:={ vars:=vars,pc:=e }
theorem jm {K:Cx} {D:Nat→Nat} {nv:Nat} {vars:List Int} {e:Nat} (hl:vars.length=nv) (hr: ∀ v∈vars,Rg v) (he:e < K.code.length) (hd:D e=0):At K D nv (bT vars e):=
  ⟨⟨hl,hr,fun v hv=> by simp [bT] at hv,fun a ha=> by simp [bT] at ha,by simp [bT,be],fun k hk=> by simp [bT] at hk⟩,fun _=> ⟨he,hd.symm⟩,fun i hi=> by simp [bT] at hi,rfl,fun h=> by simp [bT] at h⟩
def jB (l:List Int) (al:List Ac):List Int:=al.foldl (fun m a=> if a.k=1 then m.set a.a.toNat a.b else m) l
theorem kk (l:List Int) (al:List Ac) (a:Ac):jB l (al++[a])=if a.k=1 then (jB l al).set a.a.toNat a.b else jB l al:=by simp [jB,List.foldl_append]
theorem ke {l:List Int} {al:List Ac} {a:Ac} (h:a.k≠1):jB l (al++[a])=jB l al:=by rw [kk,if_neg h]
theorem lZ {K:Cx} {nv:Nat} {x:eY} (hx:fW nv x) {v0:List Int} {s:Ms} (h:s.vars.take K.dur=jB v0 s.acts):(bv K x s).vars.take K.dur=jB v0 (bv K x s).acts:=by
  unfold bv
  unfold fW at hx
  cases ho:x.op <;> simp only [ho] at hx ⊢ <;> try first | exact h | (rw [ke (by simp)];exact h)
  · split
    · rename_i hd
      rw [kk,if_pos rfl,← h,List.take_set]
    rename_i hd
    rw [← h,List.take_set_of_le ab]
  · split <;> exact h
  split
  · rw [ke (by simp)];exact h
  exact h
theorem mP {K:Cx} {D:Nat→Nat} {nv:Nat} (hK:PG K D nv) {vars:List Int} {e:Nat} (hs:At K D nv (bT vars e)) (k:Nat):(dX K k (bT vars e)).vars.take K.dur=jB (vars.take K.dur) (dX K k (bT vars e)).acts:=by
  have:=fq (K:=K) (I:=fun s=> At K D nv s∧s.vars.take K.dur=jB (vars.take K.dur) s.acts) (fun s hI hf=> ?_) k (bT vars e) ⟨hs,rfl⟩
  · exact this.2
  refine ⟨iQ hK hI.1 hf,?_⟩
  obtain ⟨hp,_⟩:=hI.1.go hf
  have hx:K.code[s.pc]? =some K.code[s.pc]:=List.getElem?_eq_getElem hp
  have hg:K.code.getD s.pc { op:= .stop }=K.code[s.pc]:=by rw [List.getD_eq_getElem?_getD,hx];rfl
  obtain ⟨g1,_,_⟩:=hK.good s.pc _ hx
  unfold di
  rw [hg]
  exact lZ g1 hI.2

abbrev Tx:=List UInt8
structure Tk where
  k:Nat
  a:Nat
  t:Tx
  n:Nat:=0
structure Nd where
  k:Nat
  n:Nat:=0
  s:Tx:=[]
  kn:Nat:=0
  kids:List PV:=[]
def Nd.row (d:Nd):List PV:=[.v (.int .i64 (d.k:Int)), .v (.int .i64 (d.n:Int)), .v (bt d.s), .sl d.kn d.kids]
section
variable (T:List Tk)
end

def gW (n k:Int):List eY:=[{ op:= .var },{ op:= .push,n:=n },{ op:= .lt },{ op:= .unl,n:=13 },{ op:= .push,n:=k },{ op:= .var },{ op:= .push,n:=5 },{ op:= .send,n:=7 },
  { op:= .var },{ op:= .push,n:=1 },{ op:= .add },{ op:= .setVar },{ op:= .jump },{ op:= .stop }]
def gy (i:Nat):Nat:=[0,1,2,1,0,1,2,3,0,1,2,1,0,0].getD i 0
theorem mJ {n k:Int} (hn:Rg n) (hk:Rg k) {names ans:List Int} (hm: ∀ i,Rg (names.getD i 0)):PG ⟨gW n k,1,names,ans⟩ gy 1:=by
  refine ⟨fun i x hx=> ?_,by omega,hm⟩
  unfold gW at hx ⊢
  rw [Nat.zero_add]
  rcases i with _ | _ | _ | _ | _ | _ | _ | _ | _ | _ | _ | _ | _ | _ | i
  all_goals first | (simp at hx;done) | (simp only [List.getElem?_cons_zero,List.getElem?_cons_succ,Option.some.injEq] at hx;subst hx)
  all_goals refine ⟨?_,?_,fun j hj=> ?_⟩
  all_goals first | exact hn | exact hk | (simp [fW];done) | (simp [Opc.pops,gy];done) | (simp [gE] at hj;done) | (simp [gE] at hj;subst hj;simp [gy,Opc.pops,Opc.puts];done) | (simp [gE] at hj;rcases hj with rfl | rfl <;> simp [gy,Opc.pops,Opc.puts];done)

def kS (C:List eY) (i:Nat):eY:=C.getD i { op:= .stop }
def neg (l:List Int):Nat:=l.countP fun x=> decide (x < 0)
section
variable {D:Nat→Nat} {nv:Nat} {C:List eY} (hC:Good D nv 0 (C.length - 1) 0 C)
include hC
end

theorem iB {α β:Type} (f:α→List β) (c:Nat) (hf: ∀ a,(f a).length=c): ∀ l:List α,(l.flatMap f).length=l.length*c
  | []=> by simp
  | a::l=> by rw [List.flatMap_cons,List.length_append,hf,iB f c hf l,List.length_cons,Nat.succ_mul];omega
theorem ko {α β:Type} (f:α→List β) (c:Nat) (hf: ∀ a,(f a).length=c): ∀ (l:List α) (k:Nat),(l.flatMap f).drop (k*c)=(l.drop k).flatMap f
  | l,0=> by simp
  | [],k+1=> by simp
  | a::l,k+1=> by
    rw [List.flatMap_cons,List.drop_succ_cons,← ko f c hf l k,List.drop_append,List.drop_eq_nil_of_le (by rw [hf,Nat.succ_mul];omega),List.nil_append,hf]
    congr 1;rw [Nat.succ_mul];omega
theorem lT {α β:Type} (f:α→List β) (c:Nat) (hf: ∀ a,(f a).length=c) (l:List α) (k:Nat) (h:k < l.length):((l.flatMap f).drop (k*c)).take c=f l[k]:=by
  rw [ko f c hf,List.drop_eq_getElem_cons h,List.flatMap_cons,List.take_append_of_le_length (by rw [hf];exact Nat.le_refl _),List.take_of_length_le (by rw [hf];exact Nat.le_refl _)]
theorem jE {α β:Type} (f:α→List β) (c:Nat) (hf: ∀ a,(f a).length=c) (l:List α) (k j:Nat) (h:k < l.length) (hj:j < c):(l.flatMap f)[k*c+j]? =(f l[k])[j]? :=by
  rw [← lT f c hf l k h,List.getElem?_take_of_lt hj,List.getElem?_drop]
theorem kt {α β:Type} (f:α→List β) (l:List α) (a:α):l.flatMap f++f a=(l++[a]).flatMap f:=by simp
def rW (l:List Tx):List PV:=l.map fun t=> .v (bt t)
@[simp] theorem pW (l:List Tx):(rW l).length=l.length:=by simp [rW]
def inr (x:eY):List PV:=[.v (.int .i64 (x.op.num:Int)), .v (.int .i64 x.n)]
def inl (l:List eY):List PV:=l.flatMap inr
theorem kp (l:List eY):(inl l).length=l.length*2:=iB inr 2 (fun _=> rfl) l
theorem mf (l:List eY) (k:Nat) (h:k < l.length):PV.ups (((inl l).drop (k*2)).take 2)=[.v (.int .i64 ((kS l k).op.num:Int)), .v (.int .i64 (kS l k).n)]:=by
  rw [show kS l k=l[k] by simp [kS,h],show ((inl l).drop (k*2)).take 2=inr l[k] from lT inr 2 (fun _=> rfl) l k h];rfl
def nK (x:Ac):List PV:=[.v (.int .i64 x.k), .v (.int .i64 x.a), .v (.int .i64 x.b), .v (.int .i64 x.c), .v (.int .i64 x.d)]
def mr (l:List Ac):List PV:=l.flatMap nK
def jv (l:List Ac) (k:Nat):Ac:=l.getD k { k:=0 }
theorem iF (l:List Ac):(mr l).length=l.length*5:=iB nK 5 (fun _=> rfl) l
theorem dz (l:List Ac) (k:Nat) (h:k < l.length):(mr l)[k*5]? =some (.v (.int .i64 (jv l k).k)):=by
  rw [show jv l k=l[k] by simp [jv,h]];exact jE nK 5 (fun _=> rfl) l k 0 h ab
theorem dA (l:List Ac) (k:Nat) (h:k < l.length):(mr l)[k*5+1]? =some (.v (.int .i64 (jv l k).a)):=by
  rw [show jv l k=l[k] by simp [jv,h]];exact jE nK 5 (fun _=> rfl) l k 1 h ab
theorem lm (l:List Ac) (k:Nat) (h:k < l.length):(mr l)[k*5+2]? =some (.v (.int .i64 (jv l k).b)):=by
  rw [show jv l k=l[k] by simp [jv,h]];exact jE nK 5 (fun _=> rfl) l k 2 h ab
theorem lS (l:List Ac) (x:Ac):mr l++nK x=mr (l++[x]):=kt nK l x

inductive gl (io:aw) (Φ:Slot→Prop) (P:Program) (all:List Oper) (W:List Nat) (I:List aw) (σ:St) (rs:List Res) (o:Oper):Res→Prop where
  | plain {r:Res} (hg:o.guard=none) (h: ∀ τ:St,Φ (τ.ob io)→bp P o (dc σ W I (r.2.map (·.1)) all rs (Edge.ons o.after.toList) τ) (r.app o.dst (dc σ W I (r.2.map (·.1)) all rs (Edge.ons o.after.toList) τ))):gl io Φ P all W I σ rs o r
  | yes {r:Res} {j d:Nat} {want:Bool} (hg:o.guard=some (j,want)) (hd:(all[j]?).bind (·.dst)=some d) (hv: ∀ τ:St,Φ (τ.ob io)→(dc σ W I (r.2.map (·.1)) all rs (Edge.ons o.after.toList) τ).eval (.tmp d)= .v (.bool want))
      (h: ∀ τ:St,Φ (τ.ob io)→bp P o (dc σ W I (r.2.map (·.1)) all rs (Edge.ons o.after.toList) τ) (r.app o.dst (dc σ W I (r.2.map (·.1)) all rs (Edge.ons o.after.toList) τ))):gl io Φ P all W I σ rs o r
  | no {j d:Nat} {want:Bool} {y:Value} (hg:o.guard=some (j,want)) (hd:(all[j]?).bind (·.dst)=some d) (hv: ∀ τ:St,Φ (τ.ob io)→(dc σ W I [] all rs (Edge.ons o.after.toList) τ).eval (.tmp d)= .v y) (hb:y≠ .bool want):gl io Φ P all W I σ rs o (.v undef,[])
def AnyOpsX (io:aw) (Φ:Slot→Prop) (P:Program) (all:List Oper) (W:List Nat) (I:List aw) (σ:St) (Kont:List Res→Prop):List Oper→List Res→Prop
  | [],rs=> Kont rs
  | o::os,rs=> ∃ r,gl io Φ P all W I σ rs o r∧AnyOpsX io Φ P all W I σ Kont os (rs++[r])
theorem AnyOpsX.get {io:aw} {Φ:Slot→Prop} {P:Program} {all:List Oper} {W:List Nat} {I:List aw} {σ:St} {Kont:List Res→Prop}: ∀ (os:List Oper) (rs0:List Res),AnyOpsX io Φ P all W I σ Kont os rs0→
    ∃ rs,rs.length=rs0.length+os.length∧rs.take rs0.length=rs0∧Kont rs∧ ∀ (j:Nat) (o:Oper) (r:Res),os[j]? =some o→rs[rs0.length+j]? =some r→gl io Φ P all W I σ (rs.take (rs0.length+j)) o r
  | [],rs0,h=> ⟨rs0,by simp,by simp,h,by simp⟩
  | o::os,rs0,⟨r,h1,h2⟩=> by
    obtain ⟨rs,a,b,c,d⟩:=AnyOpsX.get os (rs0++[r]) h2
    simp only [List.length_append,List.length_cons,List.length_nil] at a b d
    have ht:rs.take rs0.length=rs0:=by
      have:=congrArg (fun l=> l.take rs0.length) b
      simpa [List.take_take] using this
    have hr:rs[rs0.length]? =some r:=by
      have:=congrArg (fun l=> l[rs0.length]?) b
      simp only [List.getElem?_take] at this
      rw [if_pos ab] at this
      rw [this];simp
    refine ⟨rs,by simp;omega,ht,c,fun j o' r' ho hr'=> ?_⟩
    cases j with
    | zero=>
      simp at ho;subst ho
      simp only [Nat.add_zero] at hr' ⊢
      rw [hr] at hr'
      obtain rfl:=Option.some.inj hr'
      rw [ht];exact h1
    | succ j=>
      have:=d j o' r' (by simpa using ho) (by rw [← hr'];congr 1;omega)
      rwa [show rs0.length+(0+1)+j=rs0.length+(j+1) by omega] at this
section
variable {io:aw} {Φ:Slot→Prop} {P:Program} {σ:St} {all:List Oper} {W:List Nat} {I:List aw} {Kont:List Res→Prop} {os:List Oper} {rs:List Res} {d:Option Tmp} {op:Op} {ty:TypeId} {p:String} {af:List Edge}
end
end Go.Proofs.Ytmjnackchaahbaa

namespace Go.Proofs.Ytmjnackchaahbaa
abbrev pY:List Value:=[.int .i64 0, .int .i64 0, .int .i64 0, .int .i64 0, .int .i64 0, .int .i64 0, .int .i64 0, .int .i64 0, .int .i64 0, .int .i64 0, .int .i64 0, .int .i64 0, .int .i64 0, .int .i64 0, .int .i64 0, .int .i64 0, .int .i64 0, .int .i64 0, .int .i64 0, .int .i64 0, .int .i64 0, .int .i64 0, .int .i64 0, .int .i64 0, .int .i64 0, .int .i64 0, .int .i64 0, .int .i64 0, .int .i64 0, .int .i64 0, .int .i64 0, .int .i64 0, .int .i64 0, .int .i64 0, .int .i64 0, .int .i64 0, .int .i64 0, .int .i64 0, .int .i64 0, .int .i64 0]
abbrev pn:List Value:=[.slice none 0 0, .int .i64 0, .int .i64 0, .int .i64 0, .int .i64 0, .int .i64 0, .int .i64 0, .int .i64 0, .int .i64 0, .int .i64 0, .int .i64 0, .int .i64 0, .int .i64 0, .int .i64 0, .int .i64 0, .int .i64 0, .int .i64 0, .int .i64 0, .int .i64 0, .int .i64 0, .int .i64 0, .int .i64 0, .int .i64 0, .int .i64 0, .int .i64 0, .int .i64 0, .int .i64 0, .int .i64 0, .int .i64 0, .int .i64 0, .int .i64 0, .int .i64 0, .int .i64 0, .int .i64 0, .int .i64 0, .int .i64 0, .int .i64 0, .int .i64 0, .int .i64 0, .int .i64 0, .int .i64 0, .int .i64 0, .int .i64 0]
abbrev pR:List Value:=[.int .i64 0, .int .i64 0, .int .i64 0, .int .i64 0, .int .i64 0, .int .i64 0, .int .i64 0, .int .i64 0, .int .i64 0]
abbrev pt:List Value:=[.slice none 0 0, .slice none 0 0, .int .i64 0, .bool false, .slice none 0 0]
abbrev pr:List Value:=[.slice none 0 0, .int .i64 0, .int .i64 0, .int .i64 0, .int .i64 0, .int .i64 0, .int .i64 0, .int .i64 0, .int .i64 0, .int .i64 0]
abbrev nz:List Value:=[.int .i64 0, .int .i64 0, .int .i64 0, .int .i64 0, .int .i64 0]
abbrev pp:List Value:=[.slice none 0 0, .int .i64 0, .int .i64 0, .int .i64 0, .int .i64 0, .int .i64 0, .int .i64 0, .int .i64 0, .int .i64 0, .int .i64 0, .int .i64 0, .int .i64 0, .int .i64 0, .int .i64 0, .int .i64 0, .int .i64 0, .int .i64 0, .int .i64 0, .int .i64 0, .int .i64 0, .int .i64 0, .int .i64 0, .int .i64 0, .int .i64 0, .int .i64 0, .int .i64 0, .int .i64 0, .int .i64 0, .int .i64 0, .int .i64 0, .int .i64 0, .int .i64 0, .int .i64 0, .int .i64 0, .int .i64 0, .int .i64 0, .int .i64 0, .int .i64 0, .int .i64 0, .int .i64 0, .int .i64 0, .int .i64 0, .int .i64 0, .slice none 0 0, .int .i64 0, .int .i64 0, .int .i64 0, .int .i64 0, .int .i64 0, .int .i64 0, .int .i64 0, .int .i64 0, .int .i64 0, .nilFunc, .slice none 0 0, .slice none 0 0, .int .i64 0, .bool false, .slice none 0 0, .slice none 0 0, .int .i64 0, .int .i64 0, .int .i64 0, .bool false]
abbrev pZ:List Value:=[.nilFunc, .nilFunc, .nilFunc, .nilFunc, .nilFunc, .nilFunc, .nilFunc, .nilFunc, .nilFunc, .nilFunc, .nilFunc, .nilFunc, .nilFunc, .nilFunc, .nilFunc, .nilFunc, .nilFunc, .nilFunc, .nilFunc, .nilFunc, .nilFunc, .nilFunc, .nilFunc, .nilFunc]
abbrev qa:List Value:=[.int .i64 0, .int .i64 0, .int .i64 0, .slice none 0 0]
abbrev rX:List Value:=[.int .u64 0, .int .u64 0, .int .u32 0, .int .u8 0, .int .u8 0, .int .u8 0, .int .u8 0, .nilFunc, .pointer none, .int .i32 0, .int .i32 0]

instance uL:Ty Try.prog 2 false [.int .i64 0]:=Ty.of (bytes:=8) (.int .i64 0) Try.underlying2 rfl ae rfl oC
instance jA:Ty Try.prog 3 false [.int .i64 0]:=Ty.of (bytes:=8) (.int .i64 0) Try.underlying3 rfl ae rfl oC
instance rY:Ty Try.prog 4 false [.bool false]:=Ty.of (bytes:=1) (.bool false) Try.underlying4 rfl ae rfl oC
instance uJ:Ty Try.prog 9 false [.string ByteArray.empty]:=Ty.of (bytes:=16) (.string ByteArray.empty) Try.underlying9 rfl ae rfl oC
instance lu:Ty Try.prog 22 false [.slice none 0 0]:=Ty.of (bytes:=24) (.slice none 0 0) Try.underlying22 rfl ae rfl oC
instance qv:Ty Try.prog 23 false [.slice none 0 0]:=Ty.of (bytes:=24) (.slice none 0 0) Try.underlying23 rfl ae rfl oC
instance sI:Ty Try.prog 25 true [.slice none 0 0, .slice none 0 0]:=Ty.of (bytes:=48) (.agg #[.slice none 0 0, .slice none 0 0]) Try.underlying25 rfl ae rfl oC
instance rL:Ty Try.prog 28 false [.nilFunc]:=Ty.of (bytes:=8) (.nilFunc) Try.underlying28 rfl ae rfl oC
instance ug:Ty Try.prog 31 false [.slice none 0 0]:=Ty.of (bytes:=24) (.slice none 0 0) Try.underlying31 rfl ae rfl oC
instance sP:Ty Try.prog 33 false [.slice none 0 0]:=Ty.of (bytes:=24) (.slice none 0 0) Try.underlying33 rfl ae rfl oC
instance sO:Ty Try.prog 35 true [.int .i64 0, .int .i64 0]:=Ty.of (bytes:=16) (.agg #[.int .i64 0, .int .i64 0]) Try.underlying35 rfl ae rfl oC
instance rq:Ty Try.prog 40 false [.slice none 0 0]:=Ty.of (bytes:=24) (.slice none 0 0) Try.underlying40 rfl ae rfl oC
instance qU:Ty Try.prog 41 true pY:=Ty.of (bytes:=320) (.agg (pY).toArray) Try.underlying41 rfl ae rfl oC
instance qD:Ty Try.prog 43 true pn:=Ty.of (bytes:=360) (.agg (pn).toArray) Try.underlying43 rfl ae rfl oC
instance rI:Ty Try.prog 45 true pR:=Ty.of (bytes:=72) (.agg (pR).toArray) Try.underlying45 rfl ae rfl oC
instance rz:Ty Try.prog 46 false [.slice none 0 0]:=Ty.of (bytes:=24) (.slice none 0 0) Try.underlying46 rfl ae rfl oC
instance qE:Ty Try.prog 48 true pt:=Ty.of (bytes:=88) (.agg (pt).toArray) Try.underlying48 rfl ae rfl oC
instance ru:Ty Try.prog 51 true pr:=Ty.of (bytes:=96) (.agg (pr).toArray) Try.underlying51 rfl ae rfl oC
instance ud:Ty Try.prog 54 true nz:=Ty.of (bytes:=40) (.agg (nz).toArray) Try.underlying54 rfl ae rfl oC
instance uD:Ty Try.prog 56 false [.nilFunc]:=Ty.of (bytes:=8) (.nilFunc) Try.underlying56 rfl ae rfl oC
instance sr:Ty Try.prog 64 true [.int .i64 0, .int .i64 0]:=Ty.of (bytes:=16) (.agg #[.int .i64 0, .int .i64 0]) Try.underlying64 rfl ae rfl oC
instance so:Ty Try.prog 65 false [.pointer none]:=Ty.of (bytes:=8) (.pointer none) Try.underlying65 rfl ae rfl oC
instance tK:Ty Try.prog 68 true pp:=Ty.of (bytes:=608) (.agg (pp).toArray) Try.underlying68 rfl ae rfl oC
instance tx:Ty Try.prog 69 false [.nilFunc]:=Ty.of (bytes:=8) (.nilFunc) Try.underlying69 rfl ae rfl oC
instance uy:Ty Try.prog 70 true pZ:=Ty.of (bytes:=192) (.agg (pZ).toArray) Try.underlying70 rfl ae rfl oC
instance tG:Ty Try.prog 72 false [.map none]:=Ty.of (bytes:=8) (.map none) Try.underlying72 rfl ae rfl oC
instance tY:Ty Try.prog 73 true []:=Ty.of (bytes:=0) (.agg #[]) Try.underlying73 rfl ae rfl oC
instance tE:Ty Try.prog 75 false [.nilFunc]:=Ty.of (bytes:=8) (.nilFunc) Try.underlying75 rfl ae rfl oC
instance ua:Ty Try.prog 76 false [.nilFunc]:=Ty.of (bytes:=8) (.nilFunc) Try.underlying76 rfl ae rfl oC
instance tB:Ty Try.prog 78 false [.int .u64 0]:=Ty.of (bytes:=8) (.int .u64 0) Try.underlying78 rfl ae rfl oC
instance tS:Ty Try.prog 85 false [.nilFunc]:=Ty.of (bytes:=8) (.nilFunc) Try.underlying85 rfl ae rfl oC
instance sd:Ty Try.prog 100 false [.int .u32 0]:=Ty.of (bytes:=4) (.int .u32 0) Try.underlying100 rfl ae rfl oC
instance rZ:Ty Try.prog 102 false [.int .u64 0]:=Ty.of (bytes:=8) (.int .u64 0) Try.underlying102 rfl ae rfl oC
instance uo:Elem Try.prog 22 3 1 8 [.int .i64 0]:=Elem.of (.int .i64 0) Try.underlying22 ae rfl rfl ah ah oC
instance tQ:Elem Try.prog 23 35 2 16 [.int .i64 0, .int .i64 0]:=Elem.of (.agg #[.int .i64 0, .int .i64 0]) Try.underlying23 ae rfl rfl ah ah oC
instance ui:Elem Try.prog 31 4 1 1 [.bool false]:=Elem.of (.bool false) Try.underlying31 ae rfl rfl ah ah oC
instance sD:Elem Try.prog 33 25 2 48 [.slice none 0 0, .slice none 0 0]:=Elem.of (.agg #[.slice none 0 0, .slice none 0 0]) Try.underlying33 ae rfl rfl ah ah oC
instance sC:Elem Try.prog 40 64 2 16 [.int .i64 0, .int .i64 0]:=Elem.of (.agg #[.int .i64 0, .int .i64 0]) Try.underlying40 ae rfl rfl ah ah oC
instance tZ:Elem Try.prog 46 54 5 40 nz:=Elem.of (.agg (nz).toArray) Try.underlying46 ae rfl rfl ah ah oC
instance rA:ej Try.prog 25 0 0:=⟨fun ad w=> by kernel_rfl⟩
instance rc:Fvl Try.prog 25 0 0 false 1:=Fvl.of Try.underlying25 rfl rfl lu rfl
instance qP:ej Try.prog 25 1 1:=⟨fun ad w=> by kernel_rfl⟩
instance qz:Fvl Try.prog 25 1 1 false 1:=Fvl.of Try.underlying25 rfl rfl qv rfl
instance qH:ej Try.prog 35 0 0:=⟨fun ad w=> by kernel_rfl⟩
instance qe:Fvl Try.prog 35 0 0 false 1:=Fvl.of Try.underlying35 rfl rfl jA rfl
instance qT:ej Try.prog 35 1 1:=⟨fun ad w=> by kernel_rfl⟩
instance rJ:Fvl Try.prog 35 1 1 false 1:=Fvl.of Try.underlying35 rfl rfl jA rfl
instance qN:ej Try.prog 43 0 0:=⟨fun ad w=> by kernel_rfl⟩
instance qu:Fvl Try.prog 43 0 0 false 1:=Fvl.of Try.underlying43 rfl rfl rq rfl
instance rN:ej Try.prog 43 1 1:=⟨fun ad w=> by kernel_rfl⟩
instance qV:Fvl Try.prog 43 1 1 true 40:=Fvl.of Try.underlying43 rfl rfl qU rfl
instance qO:ej Try.prog 43 2 41:=⟨fun ad w=> by kernel_rfl⟩
instance rD:Fvl Try.prog 43 2 41 false 1:=Fvl.of Try.underlying43 rfl rfl jA rfl
instance rx:ej Try.prog 43 3 42:=⟨fun ad w=> by kernel_rfl⟩
instance qb:Fvl Try.prog 43 3 42 false 1:=Fvl.of Try.underlying43 rfl rfl jA rfl
instance qf:ej Try.prog 48 0 0:=⟨fun ad w=> by kernel_rfl⟩
instance rR:Fvl Try.prog 48 0 0 false 1:=Fvl.of Try.underlying48 rfl rfl lu rfl
instance qY:ej Try.prog 48 1 1:=⟨fun ad w=> by kernel_rfl⟩
instance ra:Fvl Try.prog 48 1 1 false 1:=Fvl.of Try.underlying48 rfl rfl rz rfl
instance qd:ej Try.prog 48 2 2:=⟨fun ad w=> by kernel_rfl⟩
instance qw:Fvl Try.prog 48 2 2 false 1:=Fvl.of Try.underlying48 rfl rfl jA rfl
instance rS:ej Try.prog 48 3 3:=⟨fun ad w=> by kernel_rfl⟩
instance rt:Fvl Try.prog 48 3 3 false 1:=Fvl.of Try.underlying48 rfl rfl rY rfl
instance qW:ej Try.prog 48 4 4:=⟨fun ad w=> by kernel_rfl⟩
instance qJ:Fvl Try.prog 48 4 4 false 1:=Fvl.of Try.underlying48 rfl rfl lu rfl
instance qo:ej Try.prog 51 0 0:=⟨fun ad w=> by kernel_rfl⟩
instance rK:Fvl Try.prog 51 0 0 false 1:=Fvl.of Try.underlying51 rfl rfl lu rfl
instance qR:ej Try.prog 51 1 1:=⟨fun ad w=> by kernel_rfl⟩
instance rm:Fvl Try.prog 51 1 1 true 9:=Fvl.of Try.underlying51 rfl rfl rI rfl
instance qg:ej Try.prog 54 0 0:=⟨fun ad w=> by kernel_rfl⟩
instance ri:Fvl Try.prog 54 0 0 false 1:=Fvl.of Try.underlying54 rfl rfl jA rfl
instance qF:ej Try.prog 54 1 1:=⟨fun ad w=> by kernel_rfl⟩
instance re:Fvl Try.prog 54 1 1 false 1:=Fvl.of Try.underlying54 rfl rfl jA rfl
instance qK:ej Try.prog 54 2 2:=⟨fun ad w=> by kernel_rfl⟩
instance rl:Fvl Try.prog 54 2 2 false 1:=Fvl.of Try.underlying54 rfl rfl jA rfl
instance qI:ej Try.prog 54 3 3:=⟨fun ad w=> by kernel_rfl⟩
instance rC:Fvl Try.prog 54 3 3 false 1:=Fvl.of Try.underlying54 rfl rfl jA rfl
instance rf:ej Try.prog 54 4 4:=⟨fun ad w=> by kernel_rfl⟩
instance rH:Fvl Try.prog 54 4 4 false 1:=Fvl.of Try.underlying54 rfl rfl jA rfl
instance ry:ej Try.prog 64 0 0:=⟨fun ad w=> by kernel_rfl⟩
instance qk:Fvl Try.prog 64 0 0 false 1:=Fvl.of Try.underlying64 rfl rfl jA rfl
instance rF:ej Try.prog 64 1 1:=⟨fun ad w=> by kernel_rfl⟩
instance qC:Fvl Try.prog 64 1 1 false 1:=Fvl.of Try.underlying64 rfl rfl jA rfl
instance qm:ej Try.prog 68 0 0:=⟨fun ad w=> by kernel_rfl⟩
instance qG:Fvl Try.prog 68 0 0 true 43:=Fvl.of Try.underlying68 rfl rfl qD rfl
instance rE:ej Try.prog 68 1 43:=⟨fun ad w=> by kernel_rfl⟩
instance qs:Fvl Try.prog 68 1 43 true 10:=Fvl.of Try.underlying68 rfl rfl ru rfl
instance qA:ej Try.prog 68 2 53:=⟨fun ad w=> by kernel_rfl⟩
instance qh:Fvl Try.prog 68 2 53 false 1:=Fvl.of Try.underlying68 rfl rfl rL rfl
instance qX:ej Try.prog 68 3 54:=⟨fun ad w=> by kernel_rfl⟩
instance rp:Fvl Try.prog 68 3 54 true 5:=Fvl.of Try.underlying68 rfl rfl qE rfl
instance rM:ej Try.prog 68 4 59:=⟨fun ad w=> by kernel_rfl⟩
instance ro:Fvl Try.prog 68 4 59 false 1:=Fvl.of Try.underlying68 rfl rfl lu rfl
instance qq:ej Try.prog 68 5 60:=⟨fun ad w=> by kernel_rfl⟩
instance rT:Fvl Try.prog 68 5 60 false 1:=Fvl.of Try.underlying68 rfl rfl jA rfl
instance rU:ej Try.prog 68 6 61:=⟨fun ad w=> by kernel_rfl⟩
instance qM:Fvl Try.prog 68 6 61 false 1:=Fvl.of Try.underlying68 rfl rfl jA rfl
instance qS:ej Try.prog 68 7 62:=⟨fun ad w=> by kernel_rfl⟩
instance rk:Fvl Try.prog 68 7 62 false 1:=Fvl.of Try.underlying68 rfl rfl jA rfl
instance qQ:ej Try.prog 68 8 63:=⟨fun ad w=> by kernel_rfl⟩
instance qL:Fvl Try.prog 68 8 63 false 1:=Fvl.of Try.underlying68 rfl rfl rY rfl
instance uK:bR Try.prog 3:=⟨fun args w=> by kernel_rfl⟩
instance uG:bR Try.prog 4:=⟨fun args w=> by kernel_rfl⟩
instance uM:bR Try.prog 5:=⟨fun args w=> by kernel_rfl⟩
instance uH:bR Try.prog 6:=⟨fun args w=> by kernel_rfl⟩
instance uE:bR Try.prog 7:=⟨fun args w=> by kernel_rfl⟩
instance uI:bR Try.prog 8:=⟨fun args w=> by kernel_rfl⟩
instance uF:bR Try.prog 9:=⟨fun args w=> by kernel_rfl⟩
instance sY:bR Try.prog 10:=⟨fun args w=> by kernel_rfl⟩
instance sR:bR Try.prog 11:=⟨fun args w=> by kernel_rfl⟩
instance tW:bR Try.prog 12:=⟨fun args w=> by kernel_rfl⟩
instance sQ:bR Try.prog 13:=⟨fun args w=> by kernel_rfl⟩
instance tc:bR Try.prog 14:=⟨fun args w=> by kernel_rfl⟩
instance uw:bR Try.prog 15:=⟨fun args w=> by kernel_rfl⟩
instance uj:bR Try.prog 16:=⟨fun args w=> by kernel_rfl⟩
instance sH:bR Try.prog 17:=⟨fun args w=> by kernel_rfl⟩
instance ur:bR Try.prog 18:=⟨fun args w=> by kernel_rfl⟩
instance sL:bR Try.prog 19:=⟨fun args w=> by kernel_rfl⟩
instance tH:bR Try.prog 24:=⟨fun args w=> by kernel_rfl⟩
instance sX:bR Try.prog 25:=⟨fun args w=> by kernel_rfl⟩
instance sK:bR Try.prog 26:=⟨fun args w=> by kernel_rfl⟩
instance sA:bR Try.prog 27:=⟨fun args w=> by kernel_rfl⟩
instance uz:bR Try.prog 28:=⟨fun args w=> by kernel_rfl⟩
instance sU:bR Try.prog 29:=⟨fun args w=> by kernel_rfl⟩
instance uh:bR Try.prog 34:=⟨fun args w=> by kernel_rfl⟩
instance uc:bR Try.prog 35:=⟨fun args w=> by kernel_rfl⟩
instance tN:bR Try.prog 36:=⟨fun args w=> by kernel_rfl⟩
instance ut:bR Try.prog 37:=⟨fun args w=> by kernel_rfl⟩
instance th:bR Try.prog 38:=⟨fun args w=> by kernel_rfl⟩
instance su:bR Try.prog 39:=⟨fun args w=> by kernel_rfl⟩
instance tJ:bR Try.prog 40:=⟨fun args w=> by kernel_rfl⟩
instance sq:bR Try.prog 41:=⟨fun args w=> by kernel_rfl⟩
instance uA:bR Try.prog 42:=⟨fun args w=> by kernel_rfl⟩
instance sm:bR Try.prog 43:=⟨fun args w=> by kernel_rfl⟩
instance tn:bR Try.prog 44:=⟨fun args w=> by kernel_rfl⟩
instance tO:bR Try.prog 45:=⟨fun args w=> by kernel_rfl⟩
instance td:bR Try.prog 46:=⟨fun args w=> by kernel_rfl⟩
instance sV:bR Try.prog 47:=⟨fun args w=> by kernel_rfl⟩
instance sZ:bR Try.prog 48:=⟨fun args w=> by kernel_rfl⟩
instance sB:bR Try.prog 49:=⟨fun args w=> by kernel_rfl⟩
instance sG:bR Try.prog 50:=⟨fun args w=> by kernel_rfl⟩
instance te:bR Try.prog 51:=⟨fun args w=> by kernel_rfl⟩
instance tv:bR Try.prog 52:=⟨fun args w=> by kernel_rfl⟩
instance si:bR Try.prog 53:=⟨fun args w=> by kernel_rfl⟩
instance ti:bR Try.prog 54:=⟨fun args w=> by kernel_rfl⟩
instance tM:bR Try.prog 55:=⟨fun args w=> by kernel_rfl⟩
instance sM:bR Try.prog 56:=⟨fun args w=> by kernel_rfl⟩
instance uq:bR Try.prog 57:=⟨fun args w=> by kernel_rfl⟩
instance un:bR Try.prog 58:=⟨fun args w=> by kernel_rfl⟩
instance tU:bR Try.prog 59:=⟨fun args w=> by kernel_rfl⟩
instance sj:bR Try.prog 60:=⟨fun args w=> by kernel_rfl⟩
instance uv:bR Try.prog 61:=⟨fun args w=> by kernel_rfl⟩
instance tP:bR Try.prog 62:=⟨fun args w=> by kernel_rfl⟩
instance uC:bR Try.prog 63:=⟨fun args w=> by kernel_rfl⟩
instance ux:bR Try.prog 64:=⟨fun args w=> by kernel_rfl⟩
instance sW:bR Try.prog 65:=⟨fun args w=> by kernel_rfl⟩
instance tR:bR Try.prog 67:=⟨fun args w=> by kernel_rfl⟩
instance ub:bR Try.prog 68:=⟨fun args w=> by kernel_rfl⟩
instance uk:bR Try.prog 69:=⟨fun args w=> by kernel_rfl⟩
instance uB:bR Try.prog 70:=⟨fun args w=> by kernel_rfl⟩
instance uf:bR Try.prog 71:=⟨fun args w=> by kernel_rfl⟩
instance tz:bR Try.prog 72:=⟨fun args w=> by kernel_rfl⟩
instance ts:bR Try.prog 73:=⟨fun args w=> by kernel_rfl⟩
instance tu:bR Try.prog 83:=⟨fun args w=> by kernel_rfl⟩
instance tw:bR Try.prog 84:=⟨fun args w=> by kernel_rfl⟩
end Go.Proofs.Ytmjnackchaahbaa

namespace Go.Proofs.Ytmjnackchaahbaa

instance ul:Bld Try.prog 24 [.slice none 0 0, .slice none 0 0] (fun i=> ([(0,1),(1,1)]:List (Nat×Nat))[i]?):=Bld.struct (bytes:=48) (.agg #[.slice none 0 0, .slice none 0 0]) [(0,1),(1,1)] Try.underlying24 ae rfl oC (fun w=> by kernel_rfl)
instance sw:Bld Try.prog 25 [.slice none 0 0, .slice none 0 0] (fun i=> ([(0,1),(1,1)]:List (Nat×Nat))[i]?):=Bld.struct (bytes:=48) (.agg #[.slice none 0 0, .slice none 0 0]) [(0,1),(1,1)] Try.underlying25 ae rfl oC (fun w=> by kernel_rfl)
instance sy:Bld Try.prog 34 [.int .i64 0, .int .i64 0] (fun i=> ([(0,1),(1,1)]:List (Nat×Nat))[i]?):=Bld.struct (bytes:=16) (.agg #[.int .i64 0, .int .i64 0]) [(0,1),(1,1)] Try.underlying34 ae rfl oC (fun w=> by kernel_rfl)
instance sx:Bld Try.prog 35 [.int .i64 0, .int .i64 0] (fun i=> ([(0,1),(1,1)]:List (Nat×Nat))[i]?):=Bld.struct (bytes:=16) (.agg #[.int .i64 0, .int .i64 0]) [(0,1),(1,1)] Try.underlying35 ae rfl oC (fun w=> by kernel_rfl)
instance um:Bld Try.prog 41 pY (fun i=> some (i*1,1)):=Bld.array (bytes:=320) (.agg (pY).toArray) Try.underlying41 ae rfl oC ae
instance tD:Bld Try.prog 42 pn (fun i=> ([(0,1),(1,40),(41,1),(42,1)]:List (Nat×Nat))[i]?):=Bld.struct (bytes:=360) (.agg (pn).toArray) [(0,1),(1,40),(41,1),(42,1)] Try.underlying42 ae rfl oC (fun w=> by kernel_rfl)
instance tq:Bld Try.prog 43 pn (fun i=> ([(0,1),(1,40),(41,1),(42,1)]:List (Nat×Nat))[i]?):=Bld.struct (bytes:=360) (.agg (pn).toArray) [(0,1),(1,40),(41,1),(42,1)] Try.underlying43 ae rfl oC (fun w=> by kernel_rfl)
instance tp:Bld Try.prog 45 pR (fun i=> some (i*1,1)):=Bld.array (bytes:=72) (.agg (pR).toArray) Try.underlying45 ae rfl oC ae
instance tV:Bld Try.prog 47 pt (fun i=> ([(0,1),(1,1),(2,1),(3,1),(4,1)]:List (Nat×Nat))[i]?):=Bld.struct (bytes:=88) (.agg (pt).toArray) [(0,1),(1,1),(2,1),(3,1),(4,1)] Try.underlying47 ae rfl oC (fun w=> by kernel_rfl)
instance ue:Bld Try.prog 48 pt (fun i=> ([(0,1),(1,1),(2,1),(3,1),(4,1)]:List (Nat×Nat))[i]?):=Bld.struct (bytes:=88) (.agg (pt).toArray) [(0,1),(1,1),(2,1),(3,1),(4,1)] Try.underlying48 ae rfl oC (fun w=> by kernel_rfl)
instance tT:Bld Try.prog 50 pr (fun i=> ([(0,1),(1,9)]:List (Nat×Nat))[i]?):=Bld.struct (bytes:=96) (.agg (pr).toArray) [(0,1),(1,9)] Try.underlying50 ae rfl oC (fun w=> by kernel_rfl)
instance tg:Bld Try.prog 51 pr (fun i=> ([(0,1),(1,9)]:List (Nat×Nat))[i]?):=Bld.struct (bytes:=96) (.agg (pr).toArray) [(0,1),(1,9)] Try.underlying51 ae rfl oC (fun w=> by kernel_rfl)
instance sJ:Bld Try.prog 53 nz (fun i=> ([(0,1),(1,1),(2,1),(3,1),(4,1)]:List (Nat×Nat))[i]?):=Bld.struct (bytes:=40) (.agg (nz).toArray) [(0,1),(1,1),(2,1),(3,1),(4,1)] Try.underlying53 ae rfl oC (fun w=> by kernel_rfl)
instance sF:Bld Try.prog 54 nz (fun i=> ([(0,1),(1,1),(2,1),(3,1),(4,1)]:List (Nat×Nat))[i]?):=Bld.struct (bytes:=40) (.agg (nz).toArray) [(0,1),(1,1),(2,1),(3,1),(4,1)] Try.underlying54 ae rfl oC (fun w=> by kernel_rfl)
instance tA:Bld Try.prog 60 qa (fun i=> ([(0,1),(1,1),(2,1),(3,1)]:List (Nat×Nat))[i]?):=Bld.struct (bytes:=48) (.agg (qa).toArray) [(0,1),(1,1),(2,1),(3,1)] Try.underlying60 ae rfl oC (fun w=> by kernel_rfl)
instance tF:Bld Try.prog 61 qa (fun i=> ([(0,1),(1,1),(2,1),(3,1)]:List (Nat×Nat))[i]?):=Bld.struct (bytes:=48) (.agg (qa).toArray) [(0,1),(1,1),(2,1),(3,1)] Try.underlying61 ae rfl oC (fun w=> by kernel_rfl)
instance tk:Bld Try.prog 63 [.int .i64 0, .int .i64 0] (fun i=> ([(0,1),(1,1)]:List (Nat×Nat))[i]?):=Bld.struct (bytes:=16) (.agg #[.int .i64 0, .int .i64 0]) [(0,1),(1,1)] Try.underlying63 ae rfl oC (fun w=> by kernel_rfl)
instance sS:Bld Try.prog 64 [.int .i64 0, .int .i64 0] (fun i=> ([(0,1),(1,1)]:List (Nat×Nat))[i]?):=Bld.struct (bytes:=16) (.agg #[.int .i64 0, .int .i64 0]) [(0,1),(1,1)] Try.underlying64 ae rfl oC (fun w=> by kernel_rfl)
instance tf:Bld Try.prog 67 pp (fun i=> ([(0,43),(43,10),(53,1),(54,5),(59,1),(60,1),(61,1),(62,1),(63,1)]:List (Nat×Nat))[i]?):=Bld.struct (bytes:=608) (.agg (pp).toArray) [(0,43),(43,10),(53,1),(54,5),(59,1),(60,1),(61,1),(62,1),(63,1)] Try.underlying67 ae rfl oC (fun w=> by kernel_rfl)
instance tC:Bld Try.prog 68 pp (fun i=> ([(0,43),(43,10),(53,1),(54,5),(59,1),(60,1),(61,1),(62,1),(63,1)]:List (Nat×Nat))[i]?):=Bld.struct (bytes:=608) (.agg (pp).toArray) [(0,43),(43,10),(53,1),(54,5),(59,1),(60,1),(61,1),(62,1),(63,1)] Try.underlying68 ae rfl oC (fun w=> by kernel_rfl)
instance tL:Bld Try.prog 70 pZ (fun i=> some (i*1,1)):=Bld.array (bytes:=192) (.agg (pZ).toArray) Try.underlying70 ae rfl oC ae
instance ta:Bld Try.prog 73 [] (fun i=> ([]:List (Nat×Nat))[i]?):=Bld.struct (bytes:=0) (.agg #[]) [] Try.underlying73 ae rfl oC (fun w=> by kernel_rfl)
instance sg:Bld Try.prog 124 rX (fun i=> ([(0,1),(1,1),(2,1),(3,1),(4,1),(5,1),(6,1),(7,1),(8,1),(9,1),(10,1)]:List (Nat×Nat))[i]?):=Bld.struct (bytes:=48) (.agg (rX).toArray) [(0,1),(1,1),(2,1),(3,1),(4,1),(5,1),(6,1),(7,1),(8,1),(9,1),(10,1)] Try.underlying124 ae rfl oC (fun w=> by kernel_rfl)
instance sN:Arr Try.prog 41 40 1:=Arr.of Try.underlying41 ae
instance tb:Arr Try.prog 45 9 1:=Arr.of Try.underlying45 ae
instance tj:Arr Try.prog 70 24 1:=Arr.of Try.underlying70 ae
instance sc:Arr Try.prog 115 0 1:=Arr.of Try.underlying115 ae
structure Dk where
  cells:List Int
  pend:List (Int×Int):=[]
def gh (c:List Int) (l:List (Int×Int)):List Int:=l.foldl (fun c w=> c.set w.1.toNat w.2) c
@[simp] theorem dn (l:List (Int×Int)): ∀ (c:List Int),(gh c l).length=c.length:=by
  induction l with
  | nil=> intro c;rfl
  | cons w l ih=> intro c;show (gh (c.set _ _) l).length=_;rw [ih,List.length_set]
theorem fv (c:List Int) (l m:List (Int×Int)):gh c (l++m)=gh (gh c l) m:=by simp [gh,List.foldl_append]
def Dk.view (d:Dk):List Int:=gh d.cells d.pend
def Dk.write (d:Dk) (c v:Int):Dk:=
  if c < 0∨(d.cells.length:Int)≤c then d
  else if 4 < d.pend.length+1 then ⟨gh d.cells ((d.pend++[(c,v)]).take 1),(d.pend++[(c,v)]).drop 1⟩
  else ⟨d.cells,d.pend++[(c,v)]⟩
def Dk.sync (d:Dk):Dk:=⟨d.view,[]⟩
def kept:List (Int×Int)→List Bool→List (Int×Int)
  | w::l,true::k=> w::kept l k
  | _::l,false::k=> kept l k
  | _,_=> []
def Dk.crash (d:Dk) (k:List Bool):Dk:=⟨gh d.cells (kept d.pend k),[]⟩
structure DkG (d:Dk):Prop where
  n:d.cells.length≤16
  m:d.pend.length≤4
  ok: ∀ w∈d.pend,0≤w.1∧w.1 < (d.cells.length:Int)
def eS (n m:Int):Int:=(if n < 0 then -(n+1) else n) % m
theorem gV (n m:Int) (h:0 < m):0≤eS n m:=Int.emod_nonneg _ ab
theorem gO (n m:Int) (h:0 < m):eS n m < m:=Int.emod_lt_of_pos _ h
theorem ga (n m:Int) (hm:1≤m) (h1:m≤4611686018427387904) (h2: -9223372036854775808≤n) (h3:n≤9223372036854775807):
    Spec Try.prog 8 (bq [.v (.int .i64 n), .v (.int .i64 m)] []) (aX (.v (.int .i64 (eS n m))) []):=by
  refine Spec.ofN Try.func8 rfl Try.ntmps8 rfl ?_
  refine ay fun K1 hK1=> ?_
  refine an ?_
  refine aj (aM _ bc) ?_
  refine ap (hK1 _ ?_)
  clear hK1;try clear K1
  refine ay fun K2 hK2=> ?_
  refine ay fun K3 hK3=> ?_
  refine an ?_
  refine aj (au _ bc) ?_
  first
    | refine aj (bo _ _ rfl rfl (by assumption)) ?_
    | refine aj (bo _ _ rfl rfl rfl) ?_
  refine ap (hK3 _ ?_)
  clear hK3;try clear K3
  refine bZ rfl (fun hc6=> ?_) (fun hc6=> ?_)
  · skip
    refine an ?_
    refine aj (au _ bc) ?_
    first
      | refine aj (bA _ _ rfl rfl (dH ab)) ?_
      | refine aj (bA _ _ rfl rfl rfl) ?_
    first
      | refine aj (jP _ rfl (dH ab)) ?_
      | refine aj (jP _ rfl rfl) ?_
    refine aj (aM _ bc) ?_
    refine ap (hK2 _ ?_)
    clear hK2;try clear K2
    refine ay fun K4 hK4=> ?_
    refine an ?_
    refine aj (au _ bc) ?_
    refine aj (au _ bc) ?_
    first
      | refine aj (fE _ _ rfl rfl ab (Int.tmod_eq_emod_of_nonneg ab)) ?_
      | refine aj (fE _ _ rfl rfl ab rfl) ?_
    refine aj (aM _ bc) ?_
    refine ap (hK4 _ ?_)
    clear hK4;try clear K4
    refine br ?_
    refine sa rfl rfl ?_
    unfold eS
    first | rw [if_pos hc6] | rw [if_neg ab]
  refine bw (hK2 _ ?_)
  clear hK2;try clear K2
  refine ay fun K5 hK5=> ?_
  refine an ?_
  refine aj (au _ bc) ?_
  refine aj (au _ bc) ?_
  first
    | refine aj (fE _ _ rfl rfl ab (Int.tmod_eq_emod_of_nonneg ab)) ?_
    | refine aj (fE _ _ rfl rfl ab rfl) ?_
  refine aj (aM _ bc) ?_
  refine ap (hK5 _ ?_)
  clear hK5;try clear K5
  refine br ?_
  refine sa rfl rfl ?_
  unfold eS
  first | rw [if_pos hc6] | rw [if_neg ab]

theorem kv (n m:Nat) (xs ys:List Int) (hn:xs.length=n) (hm:ys.length=m) (h1:n≤4611686018427387904) (h2:m≤4611686018427387904):
    Spec Try.prog 19 (bq [.sl n (ce xs), .sl m (ce ys)] []) (aX (.v (.bool (decide (xs=ys)))) []):=by
  subst hn;subst hm
  refine Spec.ofN Try.func19 rfl Try.ntmps19 rfl ?_
  refine ay fun K1 hK1=> ?_
  refine an ?_
  refine aj (aM _ dh) ?_
  refine ap (hK1 _ ?_)
  clear hK1;try clear K1
  refine ay fun K2 hK2=> ?_
  refine ay fun K3 hK3=> ?_
  refine an ?_
  first
    | refine aj (au _ kw) ?_
    | refine aj (au _ mo) ?_
    | refine aj (au _ nP) ?_
    | refine aj (au _ (rfl:_=AV.z)) ?_
  first
    | refine aj (cL _ aa rfl) ?_
    | refine aj (dO _ aa rfl rfl) ?_
    | refine aj (ip _ aa rfl) ?_
    | refine aj (dM _ aa rfl rfl) ?_
    | refine aj (op_lenZ _ aa rfl) ?_
  first
    | refine aj (au _ kw) ?_
    | refine aj (au _ mo) ?_
    | refine aj (au _ nP) ?_
    | refine aj (au _ (rfl:_=AV.z)) ?_
  first
    | refine aj (cL _ aa rfl) ?_
    | refine aj (dO _ aa rfl rfl) ?_
    | refine aj (ip _ aa rfl) ?_
    | refine aj (dM _ aa rfl rfl) ?_
    | refine aj (op_lenZ _ aa rfl) ?_
  first
    | refine aj (iN _ _ rfl rfl (by assumption)) ?_
    | refine aj (iN _ _ rfl rfl rfl) ?_
  refine ap (hK3 _ ?_)
  clear hK3;try clear K3
  refine bZ rfl (fun hc10=> ?_) (fun hc10=> ?_)
  · skip
    refine ay fun K4 hK4=> ?_
    refine an ?_
    refine aj (aM _ dh) ?_
    refine ap (hK4 _ ?_)
    clear hK4;try clear K4
    refine br ?_
    refine qt rfl rfl ?_
    exact decide_eq_false fun h=> by subst h;omega
  refine bw (hK2 _ ?_)
  clear hK2;try clear K2
  refine ay fun K5 hK5=> ?_
  refine ay fun K6 hK6=> ?_
  refine an ?_
  refine aj (aM _ bc) ?_
  refine ap (hK6 _ ?_)
  clear hK6;try clear K6
  refine cw ?_
  refine ez (α:=Nat) (fun k=> k≤xs.length∧xs.length=ys.length∧xs.take k=ys.take k) 26 [(0,_),(1,_)] [] (fun k=> [(5, .v (.int .i64 (k:Int)))]) (fun k=> []) [] [] (fun k=> xs.length - k) 0 ?_ (by
    refine Le.mkJ [] [] rfl ?_ ?_ trivial trivial ?_
    · exact ⟨(by first | exact iS rfl | exact iR rfl | exact iV rfl | exact iZ rfl | exact iD rfl),(by first | exact iS rfl | exact iR rfl | exact iV rfl | exact iZ rfl | exact iD rfl),(aF (by first | rfl | omega | (simp;done) | (simp;omega) | assumption)),trivial⟩
    · exact trivial
    kernel_rfl) ?_
  · exact ⟨by omega,by omega,rfl⟩
  intro k hk
  obtain ⟨hk,hl,ht⟩:=hk
  refine ay fun K7 hK7=> ?_
  refine ay fun K8 hK8=> ?_
  refine an ?_
  refine aj (au _ bc) ?_
  first
    | refine aj (au _ kw) ?_
    | refine aj (au _ mo) ?_
    | refine aj (au _ nP) ?_
    | refine aj (au _ (rfl:_=AV.z)) ?_
  first
    | refine aj (cL _ aa rfl) ?_
    | refine aj (dO _ aa rfl rfl) ?_
    | refine aj (ip _ aa rfl) ?_
    | refine aj (dM _ aa rfl rfl) ?_
    | refine aj (op_lenZ _ aa rfl) ?_
  first
    | refine aj (bo _ _ rfl rfl (by assumption)) ?_
    | refine aj (bo _ _ rfl rfl rfl) ?_
  refine ap (hK8 _ ?_)
  clear hK8;try clear K8
  refine bZ rfl (fun hc14=> ?_) (fun hc14=> ?_)
  · skip
    have hkx:k < xs.length:=by omega
    have hky:k < ys.length:=by omega
    refine bw (hK7 _ ?_)
    clear hK7;try clear K7
    refine ay fun K9 hK9=> ?_
    refine cw ?_
    refine ay fun K10 hK10=> ?_
    refine bP (σ':=bC 26 [(0,_),(1,_),(5,_)] [] [] []) (by
      refine Le.mkJ [] [] rfl ?_ ?_ trivial trivial ?_
      · exact ⟨(by first | exact iS rfl | exact iR rfl | exact iV rfl | exact iZ rfl | exact iD rfl),(by first | exact iS rfl | exact iR rfl | exact iV rfl | exact iZ rfl | exact iD rfl),(iV rfl),trivial⟩
      · exact trivial
      kernel_rfl) ?_
    refine de 9 [17,18,19,20,21,22,23,24,25] [] ae ae rfl (aQ rfl) (rfl:_=[_,_,_,_,_,_,_,_,_]) (rfl:_=[]) ?_
    first
      | refine az (_,[]) (fun τ=> au _ kw) ?_
      | refine az (_,[]) (fun τ=> au _ mo) ?_
      | refine az (_,[]) (fun τ=> au _ nP) ?_
      | refine az (_,[]) (fun τ=> au _ (rfl:_=AV.z)) ?_
    refine aE (rfl:_=[_]) ?_
    refine az (_,[]) (fun τ=> au _ bc) ?_
    refine aE (rfl:_=[_,_]) ?_
    first
      | refine az (_,[]) (fun τ=> cV _ _ aa rfl rfl _ rfl ab (by first | assumption | decide | (simp only [bk,cu,cg];omega) | (simp;done) | (simp;omega) | (simp [ce,iz];omega)) (by first | exact Nat.mul_one _ | rfl | omega)) ?_
      | refine az (_,[]) (fun τ=> cV _ _ aa rfl rfl (Int.toNat _) (Int.toNat_of_nonneg ab).symm ab (by first | assumption | decide | (simp only [bk,cu,cg];omega) | (simp;done) | (simp;omega) | (simp [ce,iz];omega)) (by first | exact Nat.mul_one _ | rfl | omega)) ?_
      | refine az (_,[]) (fun τ=> bL _ _ aa rfl rfl rfl _ rfl ab (by first | exact (Nat.zero_add _).trans (Nat.mul_one _) | exact Nat.zero_add _ | rfl | omega)) ?_
      | refine az (_,[]) (fun τ=> bL _ _ aa rfl rfl rfl (Int.toNat _) (Int.toNat_of_nonneg ab).symm ab (by first | exact (Nat.zero_add _).trans (Nat.mul_one _) | exact Nat.zero_add _ | rfl | omega)) ?_
      | refine az (_,[]) (fun τ=> iE _ _ aa rfl rfl rfl _ rfl ab (by first | exact (Nat.zero_add _).trans (Nat.mul_one _) | exact Nat.zero_add _ | rfl | omega)) ?_
      | refine az (_,[]) (fun τ=> iE _ _ aa rfl rfl rfl (Int.toNat _) (Int.toNat_of_nonneg ab).symm ab (by first | exact (Nat.zero_add _).trans (Nat.mul_one _) | exact Nat.zero_add _ | rfl | omega)) ?_
    refine aE (rfl:_=[_,_,_]) ?_
    first
      | refine az (_,[]) (fun τ=> aK _ aa rfl rfl gg) ?_
      | refine az (_,[]) (fun τ=> aN _ aa rfl rfl (by first | rfl | exact ax _ _ ab | exact aG _ _ ab | assumption) rfl) ?_
      | refine az (_,[]) (fun τ=> eX _ aa rfl (by first | rfl | exact ax _ _ ab | exact aG _ _ ab | assumption) rfl) ?_
    refine aE (rfl:_=[_,_,_,_]) ?_
    first
      | refine az (_,[]) (fun τ=> au _ kw) ?_
      | refine az (_,[]) (fun τ=> au _ mo) ?_
      | refine az (_,[]) (fun τ=> au _ nP) ?_
      | refine az (_,[]) (fun τ=> au _ (rfl:_=AV.z)) ?_
    refine aE (rfl:_=[_,_,_,_,_]) ?_
    refine az (_,[]) (fun τ=> au _ bc) ?_
    refine aE (rfl:_=[_,_,_,_,_,_]) ?_
    first
      | refine az (_,[]) (fun τ=> cV _ _ aa rfl rfl _ rfl ab (by first | assumption | decide | (simp only [bk,cu,cg];omega) | (simp;done) | (simp;omega) | (simp [ce,iz];omega)) (by first | exact Nat.mul_one _ | rfl | omega)) ?_
      | refine az (_,[]) (fun τ=> cV _ _ aa rfl rfl (Int.toNat _) (Int.toNat_of_nonneg ab).symm ab (by first | assumption | decide | (simp only [bk,cu,cg];omega) | (simp;done) | (simp;omega) | (simp [ce,iz];omega)) (by first | exact Nat.mul_one _ | rfl | omega)) ?_
      | refine az (_,[]) (fun τ=> bL _ _ aa rfl rfl rfl _ rfl ab (by first | exact (Nat.zero_add _).trans (Nat.mul_one _) | exact Nat.zero_add _ | rfl | omega)) ?_
      | refine az (_,[]) (fun τ=> bL _ _ aa rfl rfl rfl (Int.toNat _) (Int.toNat_of_nonneg ab).symm ab (by first | exact (Nat.zero_add _).trans (Nat.mul_one _) | exact Nat.zero_add _ | rfl | omega)) ?_
      | refine az (_,[]) (fun τ=> iE _ _ aa rfl rfl rfl _ rfl ab (by first | exact (Nat.zero_add _).trans (Nat.mul_one _) | exact Nat.zero_add _ | rfl | omega)) ?_
      | refine az (_,[]) (fun τ=> iE _ _ aa rfl rfl rfl (Int.toNat _) (Int.toNat_of_nonneg ab).symm ab (by first | exact (Nat.zero_add _).trans (Nat.mul_one _) | exact Nat.zero_add _ | rfl | omega)) ?_
    refine aE (rfl:_=[_,_,_,_,_,_,_]) ?_
    first
      | refine az (_,[]) (fun τ=> aK _ aa rfl rfl gg) ?_
      | refine az (_,[]) (fun τ=> aN _ aa rfl rfl (by first | rfl | exact ax _ _ ab | exact aG _ _ ab | assumption) rfl) ?_
      | refine az (_,[]) (fun τ=> eX _ aa rfl (by first | rfl | exact ax _ _ ab | exact aG _ _ ab | assumption) rfl) ?_
    refine aE (rfl:_=[_,_,_,_,_,_,_,_]) ?_
    first
      | refine az (_,[]) (fun τ=> iN _ _ rfl rfl (by assumption)) ?_
      | refine az (_,[]) (fun τ=> iN _ _ rfl rfl rfl) ?_
    refine aE (rfl:_=[_,_,_,_,_,_,_,_,_]) ?_
    refine cf ⟨rfl,?_⟩
    refine ap (hK10 _ ?_)
    clear hK10;try clear K10
    refine bZ rfl (fun hc25=> ?_) (fun hc25=> ?_)
    · skip
      refine ay fun K11 hK11=> ?_
      refine an ?_
      refine aj (aM _ dh) ?_
      refine ap (hK11 _ ?_)
      clear hK11;try clear K11
      refine br ?_
      refine qt rfl rfl ?_
      exact decide_eq_false fun h=> by subst h;exact hc25 rfl
    refine bw (hK9 _ ?_)
    clear hK9;try clear K9
    refine an ?_
    refine aj (au _ bc) ?_
    first
      | refine aj (bA _ _ rfl rfl (dH ab)) ?_
      | refine aj (bA _ _ rfl rfl rfl) ?_
    refine aj (aM _ bc) ?_
    refine ap ?_
    refine ⟨k+1,?_,?_,?_⟩
    · refine ⟨by omega,hl,?_⟩
      rw [iO _ _ _ hkx,iO _ _ _ hky] at hc25
      rw [List.take_succ_eq_append_getElem hkx,List.take_succ_eq_append_getElem hky,ht,hc25]
    · skip
      refine Le.mkJ [] [] rfl ?_ ?_ trivial trivial ?_
      · exact ⟨(by first | exact iS rfl | exact iR rfl | exact iV rfl | exact iZ rfl | exact iD rfl),(by first | exact iS rfl | exact iR rfl | exact iV rfl | exact iZ rfl | exact iD rfl),(aF (by first | rfl | omega | (simp;done) | (simp;omega) | assumption)),trivial⟩
      · exact trivial
      kernel_rfl
    omega
  refine eP ?_
  refine id (hK5 _ ?_)
  clear hK5;try clear K5
  refine ay fun K12 hK12=> ?_
  refine an ?_
  refine aj (aM _ dh) ?_
  refine ap (hK12 _ ?_)
  clear hK12;try clear K12
  refine br ?_
  refine qt rfl rfl ?_
  rw [List.take_of_length_le ab,List.take_of_length_le ab] at ht
  exact decide_eq_true ht
end Go.Proofs.Ytmjnackchaahbaa
