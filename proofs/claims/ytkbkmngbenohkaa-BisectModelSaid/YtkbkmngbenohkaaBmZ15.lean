/- Part 15 of the texts that the walk leans on: the machine, the walks, the plain laws. -/
import Derived.Test.YtkbkmngbenohkaaBmZ14
set_option linter.unusedSimpArgs false
set_option linter.unusedVariables false
namespace Go.Proofs.Ytkbkmngbenohkaa
open Go.RowKit
def lastOb : List Res → (Nat → Bool) → Nat → Oid → Option Slot
 | [], _, _, _ => none
 | r :: rs, L, k, i => match lastOb rs L (k + 1) i with
  | some c => some c
  | none => bif L k then lookO r.2 i else none
theorem lastOb_some {L : Nat → Bool} {i : Oid} {c : Slot} : ∀ {rs : List Res} {k0 k : Nat} {r : Res}, rs[k]? = some r → L (k0 + k) = true → lookO r.2 i = some c → (∀ m r', k < m → rs[m]? = some r' → L (k0 + m) = true → lookO r'.2 i = none) → lastOb rs L k0 i = some c
 | [], _, _, _, h, _, _, _ => by simp at h
 | r0 :: rs, k0, k, r, h, hl, hc, hn => by
  simp only [lastOb]
  cases k with
  | zero =>
   simp only [List.getElem?_cons_zero, Option.some.injEq] at h
   subst h
   have : lastOb rs L (k0 + 1) i = none := by
    have key : ∀ {rs : List Res} {k1 : Nat}, (∀ m r', rs[m]? = some r' → L (k1 + m) = true → lookO r'.2 i = none) → lastOb rs L k1 i = none := by
     intro rs
     induction rs with
     | nil => intros; rfl
     | cons r rs ih =>
      intro k1 h
      simp only [lastOb]
      rw [ih (k1 := k1 + 1) fun m r' hr' hl' => h (m + 1) r' (by simpa using hr') (by rw [show k1 + (m + 1) = k1 + 1 + m by omega]; exact hl')]
      cases hl : L k1 with
      | true => exact h 0 r rfl hl
      | false => rfl
    exact key fun m r' hr' hl' => hn (m + 1) r' (by omega) (by simpa using hr') (by rw [show k0 + (m + 1) = k0 + 1 + m by omega]; exact hl')
   rw [this, show L k0 = true from hl]
   exact hc
  | succ k =>
   rw [lastOb_some (k0 := k0 + 1) (k := k) (r := r) (by simpa using h) (by rw [show k0 + 1 + k = k0 + (k + 1) by omega]; exact hl) hc fun m r' hm hr' hl' => hn (m + 1) r' (by omega) (by simpa using hr') (by rw [show k0 + (m + 1) = k0 + 1 + m by omega]; exact hl')]
theorem lastOb_none {L : Nat → Bool} {i : Oid} : ∀ {rs : List Res} {k0 : Nat}, (∀ m r', rs[m]? = some r' → L (k0 + m) = true → lookO r'.2 i = none) → lastOb rs L k0 i = none
 | [], _, _ => rfl
 | r :: rs, k0, h => by
  simp only [lastOb]
  rw [lastOb_none (k0 := k0 + 1) fun m r' hr' hl' => h (m + 1) r' (by simpa using hr') (by rw [show k0 + (m + 1) = k0 + 1 + m by omega]; exact hl')]
  cases hl : L k0 with
  | true => exact h 0 r rfl hl
  | false => rfl
theorem lastOb_congr {L L' : Nat → Bool} {i : Oid} : ∀ {rs : List Res} {k0 : Nat}, (∀ m r', rs[m]? = some r' → L (k0 + m) = L' (k0 + m) ∨ lookO r'.2 i = none) → lastOb rs L k0 i = lastOb rs L' k0 i
 | [], _, _ => rfl
 | r :: rs, k0, h => by
  simp only [lastOb]
  rw [lastOb_congr (L := L) (L' := L') (k0 := k0 + 1) fun m r' hr' => by
   have := h (m + 1) r' (by simpa using hr')
   rwa [show k0 + (m + 1) = k0 + 1 + m by omega] at this]
  rcases h 0 r rfl with h0 | h0
  ·rw [show L k0 = L' k0 from h0]
  ·rw [h0]; cases L k0 <;> cases L' k0 <;> rfl
theorem lookO_mem : ∀ {l : List (Oid × Slot)} {i : Oid} {c : Slot}, (i, c) ∈ l → ∃ c', lookO l i = some c'
 | (k, x) :: l, i, c, h => by
  simp only [lookO]
  cases hb : oeq i k with
  | true => exact ⟨x, rfl⟩
  | false =>
   rcases List.mem_cons.1 h with h0 | h
   ·obtain ⟨rfl, rfl⟩ := Prod.mk.inj h0
    rw [oeq_self] at hb; cases hb
   ·exact lookO_mem h
theorem app_obL (r : Res) (d : Option Tmp) (σ : St) (i : Oid) (hn : (r.2.map (·.1)).Nodup) : (r.app d σ).ob i = (lookO r.2 i).getD (σ.ob i) := by
 cases h : lookO r.2 i with
 | some c => exact app_ob_eq r d σ hn (lookO_some h)
 | none => exact app_ob_ne r d σ fun c hc => by obtain ⟨c', h'⟩ := lookO_mem hc; rw [h] at h'; cases h'
theorem stOf_obL {L : Nat → Bool} : ∀ (ops : List Oper) (rs : List Res) (k : Nat) (σ : St) (i : Oid), ops.length = rs.length → (∀ (k : Nat) (r : Res), rs[k]? = some r → (r.2.map (·.1)).Nodup) → (stOf ops rs L k σ).ob i = (lastOb rs L k i).getD (σ.ob i)
 | [], [], _, _, _, _, _ => rfl
 | [], _ :: _, _, _, _, h, _ => by simp at h
 | _ :: _, [], _, _, _, h, _ => by simp at h
 | o :: ops, r :: rs, k, σ, i, h, hn => by
  simp only [stOf, lastOb]
  rw [stOf_obL ops rs (k + 1) _ i (by simpa using h) fun m r' hr' => hn (m + 1) r' (by simpa using hr')]
  cases hb : lastOb rs L (k + 1) i with
  | some c => rfl
  | none =>
   cases hl : L k with
   | true => exact app_obL r o.dst σ i (hn 0 r rfl)
   | false => rfl
def depObC : List Res → List Nat → Nat → Oid → Option Slot
 | r :: rs, dp, k, i => orO (depObC rs dp (k + 1) i) (bif inL k dp then lookO r.2 i else none)
 | _, _, _, _ => none
theorem depObC_none : ∀ {rs : List Res} {dp : List Nat} {k0 : Nat} {i : Oid}, depObC rs dp k0 i = none → ∀ {k : Nat} {r : Res}, rs[k]? = some r → k0 + k ∈ dp → lookO r.2 i = none
 | [], _, _, _, _, _, _, h, _ => by simp at h
 | r0 :: rs, dp, k0, i, h, k, r, hr, hk => by
  simp only [depObC] at h
  cases hx : depObC rs dp (k0 + 1) i with
  | some x => rw [hx] at h; cases h
  | none =>
   rw [hx] at h
   cases k with
   | zero =>
    simp only [List.getElem?_cons_zero, Option.some.injEq] at hr
    subst hr
    rw [inL_iff.2 (by simpa using hk)] at h
    exact h
   | succ k => exact depObC_none hx (k := k) (by simpa using hr) (by rw [show k0 + 1 + k = k0 + (k + 1) by omega]; exact hk)
theorem depObC_look : ∀ {rs : List Res} {dp : List Nat} {k : Nat} {i : Oid} {c : Slot}, depObC rs dp k i = some c → ∃ j r, rs[j]? = some r ∧ k + j ∈ dp ∧ lookO r.2 i = some c ∧ ∀ m r', j < m → rs[m]? = some r' → k + m ∈ dp → lookO r'.2 i = none
 | [], _, _, _, _, h => by simp [depObC] at h
 | r :: rs, dp, k, i, c, h => by
  simp only [depObC] at h
  cases hx : depObC rs dp (k + 1) i with
  | some x =>
   rw [hx] at h
   obtain rfl := Option.some.inj (show some x = some c from h)
   obtain ⟨j, r', h1, h2, h3, h4⟩ := depObC_look hx
   refine ⟨j + 1, r', by simpa using h1, by rw [show k + (j + 1) = k + 1 + j by omega]; exact h2, h3, fun m r2 hm hr2 hk2 => ?_⟩
   obtain ⟨m, rfl⟩ : ∃ m', m = m' + 1 := ⟨m - 1, by omega⟩
   exact h4 m r2 (by omega) (by simpa using hr2) (by rw [show k + 1 + m = k + (m + 1) by omega]; exact hk2)
  | none =>
   rw [hx] at h
   cases hb : inL k dp with
   | false => rw [hb] at h; cases h
   | true =>
    rw [hb] at h
    refine ⟨0, r, rfl, by simpa using inL_iff.1 hb, h, fun m r2 hm hr2 hk2 => ?_⟩
    obtain ⟨m, rfl⟩ : ∃ m', m = m' + 1 := ⟨m - 1, by omega⟩
    exact depObC_none hx (k := m) (by simpa using hr2) (by rw [show k + 1 + m = k + (m + 1) by omega]; exact hk2)
def mixStC (σ : St) (W : List Nat) (I : List Oid) (own : List Oid) (ops : List Oper) (rs : List Res) (dp : List Nat) (τ : St) : St where
 n := σ.n
 fr t := match depFr ops rs dp 0 t with
  | some a => a
  | none => bif inL t W then τ.fr t else σ.fr t
 ob i := match depObC rs dp 0 i with
  | some c => c
  | none => bif inO i I && !(inO i own) then τ.ob i else σ.ob i
 inc := σ.inc
 pin := σ.pin
inductive AnyOpC (P : Program) (all : List Oper) (W : List Nat) (I : List Oid) (σ : St) (rs : List Res) (o : Oper) : Res → Prop where
 | plain {r : Res} (hg : o.guard = none) (h : ∀ τ, Step P o (mixStC σ W I (r.2.map (·.1)) all rs (Edge.ons o.after.toList) τ) (r.app o.dst (mixStC σ W I (r.2.map (·.1)) all rs (Edge.ons o.after.toList) τ))) : AnyOpC P all W I σ rs o r
 | yes {r : Res} {j d : Nat} {want : Bool} (hg : o.guard = some (j, want)) (hd : (all[j]?).bind (·.dst) = some d) (hv : ∀ τ, (mixStC σ W I (r.2.map (·.1)) all rs (Edge.ons o.after.toList) τ).eval (.tmp d) = .v (.bool want))
   (h : ∀ τ, Step P o (mixStC σ W I (r.2.map (·.1)) all rs (Edge.ons o.after.toList) τ) (r.app o.dst (mixStC σ W I (r.2.map (·.1)) all rs (Edge.ons o.after.toList) τ))) : AnyOpC P all W I σ rs o r
 | no {j d : Nat} {want : Bool} {y : Value} (hg : o.guard = some (j, want)) (hd : (all[j]?).bind (·.dst) = some d) (hv : ∀ τ, (mixStC σ W I [] all rs (Edge.ons o.after.toList) τ).eval (.tmp d) = .v y) (hb : y ≠ .bool want) : AnyOpC P all W I σ rs o (.v undef, [])
def AnyOpsC (P : Program) (all : List Oper) (W : List Nat) (I : List Oid) (σ : St) (Kont : List Res → Prop) : List Oper → List Res → Prop
 | [], rs => Kont rs
 | o :: os, rs => ∃ r, AnyOpC P all W I σ rs o r ∧ AnyOpsC P all W I σ Kont os (rs ++ [r])
theorem AnyOpsC.get {P : Program} {all : List Oper} {W : List Nat} {I : List Oid} {σ : St} {Kont : List Res → Prop} : ∀ (os : List Oper) (rs0 : List Res), AnyOpsC P all W I σ Kont os rs0 →
  ∃ rs, rs.length = rs0.length + os.length ∧ rs.take rs0.length = rs0 ∧ Kont rs ∧ ∀ (j : Nat) (o : Oper) (r : Res), os[j]? = some o → rs[rs0.length + j]? = some r → AnyOpC P all W I σ (rs.take (rs0.length + j)) o r
 | [], rs0, h => ⟨rs0, by simp, by simp, h, by simp⟩
 | o :: os, rs0, ⟨r, h1, h2⟩ => by
  obtain ⟨rs, a, b, c, d⟩ := AnyOpsC.get os (rs0 ++ [r]) h2
  simp only [List.length_append, List.length_cons, List.length_nil] at a b d
  have ht : rs.take rs0.length = rs0 := by
   have := congrArg (fun l => l.take rs0.length) b
   simpa [List.take_take] using this
  have hr : rs[rs0.length]? = some r := by
   have := congrArg (fun l => l[rs0.length]?) b
   simp only [List.getElem?_take] at this
   rw [if_pos (by omega)] at this
   rw [this]; simp
  refine ⟨rs, by simp; omega, ht, c, fun j o' r' ho hr' => ?_⟩
  cases j with
  | zero =>
   simp at ho; subst ho
   simp only [Nat.add_zero] at hr' ⊢
   rw [hr] at hr'
   obtain rfl := Option.some.inj hr'
   rw [ht]; exact h1
  | succ j =>
   have := d j o' r' (by simpa using ho) (by rw [← hr']; congr 1; omega)
   rwa [show rs0.length + (0 + 1) + j = rs0.length + (j + 1) by omega] at this
section
variable {P : Program} {σ : St} {all : List Oper} {W : List Nat} {I : List Oid} {Kont : List Res → Prop} {os : List Oper} {rs : List Res} {d : Option Tmp} {op : Op} {ty : TypeId} {p : String} {af : List Edge}
theorem anyC_c (r : Res)
  (hs : ∀ τ, Stp P d op ty (mixStC σ W I (r.2.map (·.1)) all rs (Edge.ons af) τ) (r.app d (mixStC σ W I (r.2.map (·.1)) all rs (Edge.ons af) τ))) (h : AnyOpsC P all W I σ Kont os (rs ++ [r])) : AnyOpsC P all W I σ Kont (⟨d, op, ty, p, af.toArray, none⟩ :: os) rs :=
 ⟨r, .plain rfl fun τ => hs τ _ rfl rfl rfl, h⟩
theorem anyC_end (h : Kont rs) : AnyOpsC P all W I σ Kont [] rs := h
theorem anyC_n {rs' : List Res} (h : rs = rs') (hh : AnyOpsC P all W I σ Kont os rs') : AnyOpsC P all W I σ Kont os rs := h ▸ hh
end
def shareB (r r' : Res) : Bool := r.2.any fun p => (lookO r'.2 p.1).isSome
def chainB (ops : List Oper) (rs : List Res) : Bool := (List.range rs.length).all fun k => (List.range k).all fun j => match rs[j]?, rs[k]?, ops[k]? with
 | some r, some r', some o => !(shareB r r') || (inL j (Edge.ons o.after.toList) && (List.range ops.length).all fun m => match ops[m]? with | some om => !(inL j (Edge.ons om.after.toList)) || Nat.beq m k || inL m (Edge.ons o.after.toList) || inL k (Edge.ons om.after.toList) | none => true)
 | _, _, _ => true
theorem chainB_get {ops : List Oper} {rs : List Res} (h : chainB ops rs = true) {j k : Nat} (hjk : j < k) {r r' : Res} (hr : rs[j]? = some r) (hr' : rs[k]? = some r') {i : Oid} {c c' : Slot} (hc : lookO r.2 i = some c) (hc' : lookO r'.2 i = some c') {o : Oper} (ho : ops[k]? = some o) :
  j ∈ Edge.ons o.after.toList ∧ ∀ m om, ops[m]? = some om → j ∈ Edge.ons om.after.toList → m = k ∨ m ∈ Edge.ons o.after.toList ∨ k ∈ Edge.ons om.after.toList := by
 unfold chainB at h
 have hk := (List.getElem?_eq_some_iff.1 hr').1
 have h1 := List.all_eq_true.1 (List.all_eq_true.1 h k (List.mem_range.2 hk)) j (List.mem_range.2 hjk)
 rw [hr, hr', ho] at h1
 have hs : shareB r r' = true := List.any_eq_true.2 ⟨(i, c), lookO_some hc, by rw [hc']; rfl⟩
 simp only [hs, Bool.not_true, Bool.false_or, Bool.and_eq_true, List.all_eq_true] at h1
 refine ⟨inL_iff.1 h1.1, fun m om hm hj => ?_⟩
 have h2 := h1.2 m (List.mem_range.2 (List.getElem?_eq_some_iff.1 hm).1)
 rw [hm] at h2
 simp only [inL_iff.2 hj, Bool.not_true, Bool.false_or, Bool.or_eq_true] at h2
 rcases h2 with (h2 | h2) | h2
 ·exact .inl (Nat.eq_of_beq_eq_true h2)
 ·exact .inr (.inl (inL_iff.1 h2))
 ·exact .inr (.inr (inL_iff.1 h2))
def ndAll (rs : List Res) : Bool := rs.all fun r => nodupO (r.2.map (·.1))
theorem ndAll_get {rs : List Res} (h : ndAll rs = true) {k : Nat} {r : Res} (hr : rs[k]? = some r) : (r.2.map (·.1)).Nodup := nodupO_iff (List.all_eq_true.1 h r (List.mem_of_getElem? hr))
theorem D_anyC {rb : Bool} {P : Program} {Q : Exit → St → Prop} {σ : St} {id : Nat} {l : List Oper} (n : Nat) (W : List Nat) (I : List Oid) (hm : P.follows .mixedOrders = true) (hB : headC l.toArray n = true) (hW : (l.take n).filterMap (·.dst) = W)
  (h : AnyOpsC P (l.take n) W I σ (fun rs => (made rs = I ∧ chainB (l.take n) rs = true ∧ ndAll rs = true) ∧ DL rb P l.toArray Q (l.drop n) (stOf (l.take n) rs (fun _ => true) 0 σ)) (l.take n) []) : D rb P (.region id l.toArray true) Q σ := by
 obtain ⟨rs, hrl, _, ⟨⟨hmd, hch, hnd⟩, hend⟩, hops⟩ := AnyOpsC.get _ _ h
 simp only [List.length_nil, Nat.zero_add] at hrl hops
 subst hmd; subst hW
 intro K a0 w0 hrd ⟨ι0, S0, R0⟩
 simp only [headC, Bool.and_eq_true, decide_eq_true_eq, Bool.or_eq_true, List.all_eq_true, List.mem_range] at hB
 obtain ⟨⟨⟨⟨hn, hsc⟩, hseq⟩, hedge⟩, hdst⟩ := hB
 have hsz : l.toArray.size = l.length := by simp
 have htk : (l.take n).length = n := by rw [List.length_take]; omega
 rw [htk] at hrl
 have hgetT : ∀ (j : Nat) (o : Oper), j < n → l.toArray[j]? = some o → (l.take n)[j]? = some o := by
  intro j o hj ho
  rw [List.getElem?_take, if_pos hj]
  simpa using ho
 have hd : ∀ (j : Nat) (oj : Oper), (l.take n)[j]? = some oj → ∀ (i : Nat) (oi : Oper), (l.take n)[i]? = some oi → i ≠ j → ∀ x, oj.dst = some x → oi.dst ≠ some x := by
  intro j oj hj i oi hi hne x hx hx'
  have hjn := (List.getElem?_eq_some_iff.1 hj).1
  have hin := (List.getElem?_eq_some_iff.1 hi).1
  rw [htk] at hjn hin
  have h := hdst i hin j hjn
  rw [List.getElem?_take, if_pos hjn] at hj
  rw [List.getElem?_take, if_pos hin] at hi
  have hi' : l.toArray[i]? = some oi := by simpa using hi
  have hj' : l.toArray[j]? = some oj := by simpa using hj
  rw [hi', hj'] at h
  simp [hne, hx, hx'] at h
 have hlow : ∀ (j : Nat) (oj : Oper), (l.take n)[j]? = some oj → ∀ m ∈ Edge.ons oj.after.toList, m < j := by
  intro j oj hoj m hm'
  have hjn := (List.getElem?_eq_some_iff.1 hoj).1
  rw [htk] at hjn
  obtain ⟨e, he, heb, rfl⟩ := ons_mem hm'
  have h := hedge j hjn
  rw [List.getElem?_take, if_pos hjn] at hoj
  rw [show l.toArray[j]? = some oj by simpa using hoj] at h
  have := List.all_eq_true.1 h e he
  rw [heb] at this
  simpa using this
 have hrt : rs.length = (l.take n).length := by omega
 have hndr : ∀ {k : Nat} {r : Res}, rs[k]? = some r → (r.2.map (·.1)).Nodup := fun h => ndAll_get hnd h
 have hobs : ∀ (L : Nat → Bool) (i : Oid), (stOf (l.take n) rs L 0 σ).ob i = (lastOb rs L 0 i).getD (σ.ob i) := fun L i => stOf_obL (l.take n) rs 0 σ i hrt.symm fun k r hr => hndr hr
 let stL : Array Bool → St := fun listed => stOf (l.take n) rs (fun k => listed.getD k false) 0 σ
 -- the state as the operation j may count on it
 have hmix : ∀ (listed : Array Bool) (j : Nat) (oj : Oper) (rj : Res), HeadInv .any l.toArray n listed → (l.take n)[j]? = some oj → rs[j]? = some rj → listed.getD j false = false → (∀ k ∈ Edge.ons oj.after.toList, listed.getD k false = true) →
   ∀ own : List Oid, (∀ i, i ∈ own → ∃ c, (i, c) ∈ rj.2) →
   mixStC σ ((l.take n).filterMap (·.dst)) (made rs) own (l.take n) (rs.take j) (Edge.ons oj.after.toList) (stL listed) = stL listed := by
  intro listed j oj rj inv hoj hrj hun hdl own hown2
  refine St.eq (Eq.trans (b := σ.n) rfl (stOf_n _ _ _ _).symm) (fun t => ?_) (fun i => ?_) (Eq.trans (b := σ.inc) rfl (stOf_inc _ _ _ _).symm) (Eq.trans (b := σ.pin) rfl (stOf_pin _ _ _ _).symm)
  ·simp only [mixStC]
   cases hdf : depFr (l.take n) (rs.take j) (Edge.ons oj.after.toList) 0 t with
   | some a =>
    obtain ⟨k, o, r, h1, h2, h3, h4, h5⟩ := depFr_some hdf
    rw [List.getElem?_take] at h2
    split at h2
    ·simp only [Nat.zero_add] at h3
     rw [h5]
     exact (stOf_frB _ _ 0 σ k o r h1 h2 (by simpa using hdl k h3) h4 fun i o' ho' hne => hd k o h1 i o' ho' hne t h4).symm
    ·cases h2
   | none =>
    simp only
    cases hin : inL t ((l.take n).filterMap (·.dst)) with
    | true => rfl
    | false =>
     simp only [cond_false]
     refine (stOf_frA _ _ 0 σ fun k o r ho hr hl hdo => ?_).symm
     have : t ∈ (l.take n).filterMap (·.dst) := List.mem_filterMap.2 ⟨o, List.mem_of_getElem? ho, hdo⟩
     rw [inL_iff.2 this] at hin
     cases hin
  ·have hcl : ∀ (k m : Nat) (o : Oper), (l.take n)[k]? = some o → listed.getD k false = true → m ∈ Edge.ons o.after.toList → listed.getD m false = true := fun k m o ho hl hm => by
    obtain ⟨e, he, heb, hee⟩ := ons_mem hm
    have ho' : l.toArray[k]? = some o := by
     rw [List.getElem?_take] at ho
     split at ho
     ·simpa using ho
     ·cases ho
    have h9 := inv.closed k o ho' hl e (by simpa using he) heb
    rwa [hee] at h9
   have hop : ∀ {k : Nat} {r : Res}, rs[k]? = some r → ∃ o, (l.take n)[k]? = some o := fun hr => by
    have := (List.getElem?_eq_some_iff.1 hr).1
    exact ⟨_, List.getElem?_eq_getElem (by omega)⟩
   rw [show (stL listed).ob i = (lastOb rs (fun k => listed.getD k false) 0 i).getD (σ.ob i) from hobs _ i]
   simp only [mixStC]
   cases hdo : depObC (rs.take j) (Edge.ons oj.after.toList) 0 i with
   | some c =>
    obtain ⟨k, r, h2, h3, h4, h5⟩ := depObC_look hdo
    rw [List.getElem?_take] at h2
    split at h2
    ·rename_i hkj
     simp only [Nat.zero_add] at h3
     have hkl := hdl k h3
     rw [lastOb_some (k := k) (r := r) h2 (by simpa using hkl) h4 fun m r' hm' hr' hl' => ?_]
     ·rfl
     cases hlk : lookO r'.2 i with
     | none => rfl
     | some c' =>
      obtain ⟨om, hom⟩ := hop hr'
      obtain ⟨c1, c2⟩ := chainB_get hch hm' h2 hr' h4 hlk hom
      simp only [Nat.zero_add] at hl'
      rcases c2 j oj hoj h3 with rfl | c2 | c2
      ·rw [hl'] at hun; cases hun
      ·have := hcl m j om hom hl' c2
       rw [this] at hun; cases hun
      ·have hmj : m < j := hlow j oj hoj m c2
       have := h5 m r' hm' (by rw [List.getElem?_take, if_pos hmj]; exact hr') (by simpa using c2)
       rw [hlk] at this; cases this
    ·cases h2
   | none =>
    simp only
    cases hc : (inO i (made rs) && !(inO i own)) with
    | true => rw [show (stL listed).ob i = (lastOb rs (fun k => listed.getD k false) 0 i).getD (σ.ob i) from hobs _ i]; rfl
    | false =>
     simp only [cond_false]
     rw [lastOb_none fun m r' hr' hl' => ?_]
     ·rfl
     cases hlk : lookO r'.2 i with
     | none => rfl
     | some c' =>
      simp only [Nat.zero_add] at hl'
      have hmem : i ∈ made rs := made_mem hr' (lookO_some hlk)
      rw [inO_iff.2 hmem] at hc
      simp only [Bool.true_and, Bool.not_eq_false'] at hc
      obtain ⟨c2, hc2⟩ := hown2 i (inO_iff.1 hc)
      obtain ⟨c3, hc3⟩ := lookO_mem hc2
      rcases Nat.lt_trichotomy m j with hmj | rfl | hmj
      ·obtain ⟨c1, _⟩ := chainB_get hch hmj hr' hrj hlk hc3 hoj
       have := depObC_none hdo (k := m) (r := r') (by rw [List.getElem?_take, if_pos hmj]; exact hr') (by simpa using c1)
       rw [hlk] at this; cases this
      ·rw [hl'] at hun; cases hun
      ·obtain ⟨om, hom⟩ := hop hr'
       obtain ⟨c1, _⟩ := chainB_get hch hmj hrj hr' hc3 hlk hom
       have := hcl m j om hom hl' c1
       rw [this] at hun; cases hun
 have hset : ∀ (listed : Array Bool) (j : Nat) (oj : Oper) (rj : Res), HeadInv .any l.toArray n listed → j < listed.size → (l.take n)[j]? = some oj → rs[j]? = some rj → listed.getD j false = false → stL (listed.setIfInBounds j true) = rj.app oj.dst (stL listed) := by
  intro listed j oj rj inv hjs hoj hrj hun
  have hL : ∀ k, (listed.setIfInBounds j true).getD k false = if k = j then true else listed.getD k false := by
   intro k
   by_cases h : k = j
   ·subst h; simp [hjs]
   ·rw [if_neg h, getD_set_ne false (Ne.symm h)]
  refine St.eq ((stOf_n _ _ _ _).trans ((app_n _ _ _).trans (stOf_n _ _ _ _)).symm) (fun t => ?_) (fun i => ?_) ((stOf_inc _ _ _ _).trans ((app_inc _ _ _).trans (stOf_inc _ _ _ _)).symm) ((stOf_pin _ _ _ _).trans ((app_pin _ _ _).trans (stOf_pin _ _ _ _)).symm)
  ·by_cases ht : oj.dst = some t
   ·rw [ht, app_fr_eq]
    exact stOf_frB _ _ 0 σ j oj rj hoj hrj (by simp only [Nat.zero_add, hL, if_true]) ht fun i o' ho' hne => hd j oj hoj i o' ho' hne t ht
   ·rw [app_fr_ne _ _ _ ht]
    by_cases hex : ∃ k o r, (l.take n)[k]? = some o ∧ rs[k]? = some r ∧ listed.getD k false = true ∧ o.dst = some t
    ·obtain ⟨k, o, r, h1, h2, h3, h4⟩ := hex
     have hkj : k ≠ j := fun e => by subst e; rw [h3] at hun; cases hun
     rw [show (stL (listed.setIfInBounds j true)).fr t = r.1 from stOf_frB _ _ 0 σ k o r h1 h2 (by simp only [Nat.zero_add, hL, if_neg hkj]; exact h3) h4 fun i o' ho' hne => hd k o h1 i o' ho' hne t h4]
     exact (stOf_frB _ _ 0 σ k o r h1 h2 (by simpa using h3) h4 fun i o' ho' hne => hd k o h1 i o' ho' hne t h4).symm
    ·have hno : ∀ (k : Nat) (o : Oper) (r : Res), (l.take n)[k]? = some o → rs[k]? = some r → listed.getD k false = true → o.dst ≠ some t := fun k o r h1 h2 h3 h4 => hex ⟨k, o, r, h1, h2, h3, h4⟩
     rw [show (stL (listed.setIfInBounds j true)).fr t = σ.fr t from stOf_frA _ _ 0 σ fun k o r h1 h2 h3 h4 => by
      simp only [Nat.zero_add, hL] at h3
      by_cases hkj : k = j
      ·subst hkj; rw [hoj] at h1; obtain rfl := Option.some.inj h1; exact ht h4
      ·rw [if_neg hkj] at h3; exact hno k o r h1 h2 h3 h4]
     exact (stOf_frA _ _ 0 σ fun k o r h1 h2 h3 => hno k o r h1 h2 (by simpa using h3)).symm
  ·have hcl : ∀ (k m : Nat) (o : Oper), (l.take n)[k]? = some o → listed.getD k false = true → m ∈ Edge.ons o.after.toList → listed.getD m false = true := fun k m o ho hl hm => by
    obtain ⟨e, he, heb, hee⟩ := ons_mem hm
    have ho' : l.toArray[k]? = some o := by
     rw [List.getElem?_take] at ho
     split at ho
     ·simpa using ho
     ·cases ho
    have h9 := inv.closed k o ho' hl e (by simpa using he) heb
    rwa [hee] at h9
   rw [app_obL _ _ _ _ (hndr hrj), show (stL listed).ob i = (lastOb rs (fun k => listed.getD k false) 0 i).getD (σ.ob i) from hobs _ i, show (stL (listed.setIfInBounds j true)).ob i = (lastOb rs (fun k => (listed.setIfInBounds j true).getD k false) 0 i).getD (σ.ob i) from hobs _ i]
   cases hlj : lookO rj.2 i with
   | some c =>
    rw [lastOb_some (k := j) (r := rj) hrj (by simp only [Nat.zero_add, hL, if_true]) hlj fun m r' hm' hr' hl' => ?_]
    ·rfl
    cases hlk : lookO r'.2 i with
    | none => rfl
    | some c' =>
     simp only [Nat.zero_add, hL, if_neg (show ¬ m = j by omega)] at hl'
     have hmn := (List.getElem?_eq_some_iff.1 hr').1
     have hom : (l.take n)[m]? = some ((l.take n)[m]'(by omega)) := List.getElem?_eq_getElem (by omega)
     obtain ⟨c1, _⟩ := chainB_get hch hm' hrj hr' hlj hlk hom
     have := hcl m j _ hom hl' c1
     rw [this] at hun; cases hun
   | none =>
    rw [lastOb_congr fun m r' hr' => ?_]
    ·rfl
    by_cases hmj : m = j
    ·subst hmj
     rw [hrj] at hr'
     obtain rfl := Option.some.inj hr'
     exact .inr hlj
    ·left; simp only [Nat.zero_add, hL, if_neg hmj]
 refine wpIn_region_any hm ?_
 have key : ∀ (f : Nat) (listed : Array Bool) (a' : Act) (w' : World), HeadInv .any l.toArray n listed → (((List.range n).filter fun i => !listed.getD i true).length = f) →
   Rel K (stL listed) a' w' → wpAnyIn (WF K.rd) 0 P .any l.toArray (Qr K Q) (f + (l.toArray.size - n)) listed a' w' := by
  intro f
  induction f with
  | zero =>
   intro listed a' w' inv hc hR
   have hall : ∀ i, i < n → listed.getD i true = true := by
    intro i hi
    have h0 := List.eq_nil_of_length_eq_zero hc
    have := List.filter_eq_nil_iff.1 h0 i (List.mem_range.2 hi)
    simpa using this
   have hcanon : listed = Array.ofFn (n := l.toArray.size) fun i => decide (i.1 < n) := by
    apply Array.ext
    ·simp [inv.size]
    ·intro i h1 h2
     simp only [Array.getElem_ofFn]
     by_cases hi : i < n
     ·have := hall i hi
      simp [h1] at this
      simp [this, hi]
     ·have := inv.tail i (by omega) (by rw [inv.size] at h1; exact h1)
      simp [h1] at this
      simp [this, hi]
   rw [Nat.zero_add]
   have hfull : stL listed = stOf (l.take n) rs (fun _ => true) 0 σ := by
    have : ∀ (ops : List Oper) (rs : List Res) (k : Nat) (σ : St), k + ops.length ≤ n → stOf ops rs (fun k => listed.getD k false) k σ = stOf ops rs (fun _ => true) k σ := by
     intro ops
     induction ops with
     | nil => intros; simp [stOf]
     | cons o ops ih =>
      intro rs k σ hk
      cases rs with
      | nil => simp [stOf]
      | cons r rs =>
       simp only [stOf]
       have h1 := hall k (by simp at hk; omega)
       have h2 : listed.getD k false = true := by
        have hks : k < listed.size := by rw [inv.size]; simp at hk; omega
        simp [hks] at h1 ⊢; exact h1
       rw [h2]
       exact ih rs (k + 1) _ (by simp at hk; omega)
    exact this _ _ 0 _ (by omega)
   rw [hfull] at hR
   have hw := hend K a' w' hrd hR
   have hdl : (l.drop n).length = l.toArray.size - n := by simp
   have := wpAnyIn_of_seq (md := .any) (Q' := Qr K Q) (l.drop n) n listed a' w' (fun j => by simp [List.getElem?_drop]) (by rw [hdl, hcanon]; exact hseq) hw
   rwa [hdl] at this
  | succ f ih =>
   intro listed a' w' inv hc hR
   have hex : ∃ i, i < n ∧ listed.getD i true = false := by
    cases hL : (List.range n).filter fun i => !listed.getD i true with
    | nil => rw [hL] at hc; simp at hc
    | cons i r =>
     have : i ∈ (List.range n).filter fun i => !listed.getD i true := by rw [hL]; exact List.mem_cons_self
     rw [List.mem_filter] at this
     exact ⟨i, List.mem_range.1 this.1, by simpa using this.2⟩
   have hnotail : ∀ t, n ≤ t → t ∉ Region.ready .any l.toArray listed := by
    intro t ht
    rcases hsc with he | ⟨hsk, hch⟩
    ·intro hr
     obtain ⟨_, ot, hot, _⟩ := mem_ready.1 hr
     have := (Array.getElem?_eq_some_iff.1 hot).1
     omega
    ·by_cases hlt : n < l.toArray.size
     ·obtain ⟨i, hi, hun⟩ := hex
      exact tail_waits hsk hch hlt inv _ i rfl hi hun t ht
     ·intro hr
      obtain ⟨_, ot, hot, _⟩ := mem_ready.1 hr
      have := (Array.getElem?_eq_some_iff.1 hot).1
      omega
   have hfirst : ∀ i, i < n → listed.getD i true = false → ∃ k, k ∈ Region.ready .any l.toArray listed := by
    intro i
    induction i using Nat.strongRecOn with
    | _ i ihi =>
     intro hi hun
     by_cases hp : ∃ k, k < i ∧ listed.getD k true = false
     ·obtain ⟨k, hk, hku⟩ := hp
      exact ihi k hk (by omega) hku
     ·have hlt : i < l.toArray.size := by omega
      refine ⟨i, mem_ready.2 ⟨hun, l.toArray[i], Array.getElem?_eq_getElem hlt, fun e he heb => ?_⟩⟩
      have h1 := hedge i hi
      rw [Array.getElem?_eq_getElem hlt] at h1
      have h2 := (List.all_eq_true.1 h1) e (by simpa using he)
      rw [heb] at h2
      simp only [Bool.not_true, Bool.false_or, decide_eq_true_eq] at h2
      have h3 : listed.getD e.on true = true := by
       cases hx : listed.getD e.on true with
       | true => rfl
       | false => exact absurd ⟨e.on, h2, hx⟩ hp
      have h4 : e.on < listed.size := by rw [inv.size]; omega
      simp [h4] at h3 ⊢
      exact h3
   rw [show f + 1 + (l.toArray.size - n) = (f + (l.toArray.size - n)) + 1 by omega]
   refine ⟨fun h0 => ?_, fun j hj => ?_⟩
   ·obtain ⟨i, hi, hun⟩ := hex
    obtain ⟨k, hk⟩ := hfirst i hi hun
    rw [h0] at hk
    cases hk
   ·have hjn : j < n := by
     rcases Nat.lt_or_ge j n with h | h
     ·exact h
     ·exact absurd hj (hnotail j h)
    obtain ⟨hjun, oj, hoj, hall⟩ := mem_ready.1 hj
    have hojT := hgetT j oj hjn hoj
    have hjs : j < listed.size := by rw [inv.size]; omega
    have hjr : j < rs.length := by omega
    have hrj : rs[j]? = some rs[j] := List.getElem?_eq_getElem hjr
    have hunf : listed.getD j false = false := getD_both hjun
    have hO := hops j oj rs[j] hojT hrj
    have hons : ∀ k ∈ Edge.ons oj.after.toList, listed.getD k false = true := by
     intro k hk
     obtain ⟨e, he, heb, rfl⟩ := ons_mem hk
     exact hall e (by simpa using he) heb
    have hcnt : ((List.range n).filter fun i => !(listed.setIfInBounds j true).getD i true).length = f := by
     have e1 : ((List.range n).filter fun i => !(listed.setIfInBounds j true).getD i true) = ((List.range n).filter fun i => !listed.getD i true).filter fun i => i != j := by
      rw [List.filter_filter]
      apply List.filter_congr
      intro i _
      by_cases hij : j = i
      ·subst hij; simp [hjs]
      ·rw [getD_set_ne true hij]; simp [Ne.symm hij]
     rw [e1]
     have hnd : ((List.range n).filter fun i => !listed.getD i true).Nodup := List.Pairwise.filter _ List.nodup_range
     have hmem : j ∈ (List.range n).filter fun i => !listed.getD i true := by rw [List.mem_filter]; exact ⟨List.mem_range.2 hjn, by simpa using hjun⟩
     have := List.length_erase_of_mem hmem
     rw [hnd.erase_eq_filter] at this
     rw [this, hc]
     rfl
    have hnext : ∀ (v : Value) (w'' : World), Rel K (rs[j].app oj.dst (stL listed)) (a'.put oj.dst v) w'' →
      wpAnyIn (WF K.rd) 0 P .any l.toArray (Qr K Q) (f + (l.toArray.size - n)) (listed.setIfInBounds j true) (a'.put oj.dst v) w'' := by
     intro v w'' hr
     refine ih _ _ w'' (inv.set hj hjn) hcnt ?_
     rw [hset listed j oj rs[j] inv hjs hojT hrj hunf]; exact hr
    have hyl : ∀ (g d : Nat), ((l.take n)[g]?).bind (·.dst) = some d → (l.toArray[g]?).bind (·.dst) = some d := by
     intro g d hgd
     rw [List.getElem?_take] at hgd
     split at hgd
     ·simpa using hgd
     ·cases hgd
    obtain ⟨ι', S', R'⟩ := hR
    have own2 : ∀ i, i ∈ (rs[j]).2.map (·.1) → ∃ c, (i, c) ∈ (rs[j]).2 := fun i h => by
     obtain ⟨⟨i', c⟩, h1, rfl⟩ := List.mem_map.1 h
     exact ⟨c, h1⟩
    have stepR : (∀ τ, Step P oj (mixStC σ ((l.take n).filterMap (·.dst)) (made rs) ((rs[j]).2.map (·.1)) (l.take n) (rs.take j) (Edge.ons oj.after.toList) τ) ((rs[j]).app oj.dst (mixStC σ ((l.take n).filterMap (·.dst)) (made rs) ((rs[j]).2.map (·.1)) (l.take n) (rs.take j) (Edge.ons oj.after.toList) τ))) →
      Yields P oj a'.eval w' fun v w'' => Rel K (rs[j].app oj.dst (stL listed)) (a'.put oj.dst v) w'' := by
     intro hst
     have := hst (stL listed)
     rw [hmix listed j oj rs[j] inv hojT hrj hunf hons _ own2] at this
     exact this K ι' S' a' w' R'
    unfold wpOpIn
    simp only [hoj]
    generalize hrs : rs[j] = rj at hO
    cases hO with
    | plain hg hst =>
     rw [if_pos (by simp [Region.wanted, hg])]
     subst hrs
     exact wpIn_of_yields (stepR hst) fun v w'' hp => hnext v w'' hp
    | yes hg hgd hv hst =>
     subst hrs
     have hv' := hv (stL listed)
     rw [hmix listed j oj rs[j] inv hojT hrj hunf hons _ own2] at hv'
     rw [if_pos (by simp [Region.wanted, hg, yielded_of R' (hyl _ _ hgd) hv'])]
     exact wpIn_of_yields (stepR hst) fun v w'' hp => hnext v w'' hp
    | no hg hgd hv hb =>
     have hv' := hv (stL listed)
     rw [hmix listed j oj rs[j] inv hojT hrj hunf hons [] (fun i h => by cases h)] at hv'
     rw [if_neg (by simp [Region.wanted, hg, yielded_not R' (hyl _ _ hgd) hv' hb])]
     refine ⟨fun _ _ => trivial, hnext _ _ ?_⟩
     rw [hrs]
     exact ⟨ι', S', R'.put oj.dst (av := .v undef) .v fun i hi => by cases hi⟩
 have inv0 : HeadInv .any l.toArray n (Array.replicate l.toArray.size false) :=
  ⟨by simp, fun j oj _ hl => (by rw [getD_replicate_false] at hl; cases hl), fun t _ ht => getD_in (by simpa using ht) (getD_replicate_false _ _)⟩
 have hcnt0 : ((List.range n).filter fun i => !(Array.replicate l.toArray.size false).getD i true).length = n := by
  have : ((List.range n).filter fun i => !(Array.replicate l.toArray.size false).getD i true) = List.range n := by
   apply List.filter_eq_self.2
   intro i hi
   have : i < l.toArray.size := by have := List.mem_range.1 hi; omega
   simp only [getD_in (listed := Array.replicate l.toArray.size false) (i := i) (by simpa using this) (getD_replicate_false _ _)]; rfl
  rw [this]; simp
 have hst0 : stL (Array.replicate l.toArray.size false) = σ := by
  refine St.eq (stOf_n _ _ _ _) (fun t => stOf_frA _ _ _ _ fun j o r _ _ hl => ?_) (fun i => stOf_obA _ _ _ _ fun j o r _ _ hl => ?_) (stOf_inc _ _ _ _) (stOf_pin _ _ _ _)
  ·simp only [getD_replicate_false] at hl; cases hl
  ·simp only [getD_replicate_false] at hl; cases hl
 have := key n _ a0 w0.drew inv0 hcnt0 (by rw [hst0]; exact ⟨ι0, S0, R0.drew⟩)
 rw [show n + (l.toArray.size - n) = l.toArray.size by omega] at this
 exact this

theorem D_anyCL {rb : Bool} {P : Program} {Q : Exit → St → Prop} {σ : St} {id : Nat} {l hd tl : List Oper} (n : Nat) (W : List Nat) (I : List Oid) (hm : P.follows .mixedOrders = true) (hB : headC l.toArray n = true) (hW : (l.take n).filterMap (·.dst) = W)
  (e1 : l.take n = hd) (e2 : l.drop n = tl) (h : AnyOpsC P hd W I σ (fun rs => (made rs = I ∧ chainB hd rs = true ∧ ndAll rs = true) ∧ DL rb P l.toArray Q tl (stOf hd rs (fun _ => true) 0 σ)) hd []) : D rb P (.region id l.toArray true) Q σ := by
 subst e1; subst e2
 exact D_anyC n W I hm hB hW h
end Go.Proofs.Ytkbkmngbenohkaa

namespace Go.Proofs.Ytkbkmngbenohkaa
open Go.RowKit

theorem par_sort {n : Nat} {Q : List (List Int)} (hG : GG n Q) {v : Nat} (hv : v < n) : ((wat n (parW Q) (v : Int)).map fun (x : Nat) => (x : Int)) = ssrt (Q.getD v []) := by
 have hPs := hG.len
 have h1 : wat n (parW Q) (v : Int) = els (pw (Q.getD v [])) := by
  unfold wat
  rw [if_pos (by omega), Int.toNat_natCast, parW_get (by omega)]
 have hok := hG.V v (by omega)
 rw [hPs] at hok
 rw [h1, ssrt_srt, srt_set hok (fun x => decide ((x : Int) ∈ Q.getD v [])) fun x _ => by simp]
 congr 1
 unfold els
 have h64 := hG.n64
 obtain ⟨d, hd⟩ : ∃ d, 64 = n + d := ⟨64 - n, by omega⟩
 have hb : ∀ c, (pw (Q.getD v [])).testBit c = decide ((c : Int) ∈ Q.getD v []) := fun c => pw_bit c _ fun p hp => (hok.2 p hp).1
 rw [hd, List.range_add, List.filter_append]
 have e2 : List.filter (fun b => (pw (Q.getD v [])).testBit b) ((List.range d).map (n + ·)) = [] := by
  rw [List.filter_eq_nil_iff]
  intro b hbm
  obtain ⟨k, _, rfl⟩ := List.mem_map.1 hbm
  rw [hb, decide_eq_true_eq]
  intro hm
  have := hok.2 _ hm
  omega
 rw [e2, List.append_nil]
 exact List.filter_congr fun b _ => hb b
theorem wat_parlt {n : Nat} {Ps : List (List Int)} (hG : GG n Ps) {v p : Nat} (hp : p ∈ wat n (parW Ps) (v : Int)) : p < n := by
 have h := ((wat_par hG.len hG.n64 hG.V).1 hp).2
 have hl := hG.len
 subst hl
 obtain ⟨u, hu, h1, h2⟩ := edg_mem.1 h
 have := (hG.V u hu).2 _ h2
 simp only at this
 omega
theorem vis_flag {cf : List Nat → Bool} {un : Nat → Bool} {par : Nat → List Nat} : ∀ k v (q : VS), cf q.1 = false → (vis cf un par k v q).2 = !cf (vis cf un par k v q).1.1
 | 0, v, q, h => by simp [vis, h]
 | k + 1, v, q, h => by
  show (vlist _ (par v) q).2 = !cf (vlist _ (par v) q).1.1
  have step : ∀ p (q : VS), (vstep cf un (vis cf un par k) p q).2 = !cf (vstep cf un (vis cf un par k) p q).1.1 := by
   intro p q
   unfold vstep
   split
   ·rename_i hc
    simp [hc]
   ·rename_i hc
    split
    ·exact vis_flag k p _ (by simpa using hc)
    ·simp [hc]
  generalize vstep cf un (vis cf un par k) = stp at step
  have key : ∀ (l : List Nat) (q : VS), cf q.1 = false → (vlist stp l q).2 = !cf (vlist stp l q).1.1 := by
   intro l
   induction l with
   | nil => intro q h; simp [vlist, h]
   | cons p l ih =>
    intro q h
    simp only [vlist]
    split
    ·rename_i ht
     have := step p q
     rw [ht] at this
     exact ih _ (by simpa using this.symm)
    ·exact step p q
  exact key _ q h
section
variable {n : Nat} {Ps : List (List Int)} (hG : GG n Ps) (h : Nat) (st : List Int) (hst : st.length = n) (h012 : ∀ v, v < n → st.getD v 0 = 0 ∨ st.getD v 0 = 1 ∨ st.getD v 0 = 2)
include hG hst h012
set_option maxHeartbeats 4000000 in
theorem rvisit_spec : ∀ (k v : Nat) (ord out : List Nat), v < n → ok1 n ord → ok1 n out → n + 1 ≤ out.length + k → con (Rn n Ps) n ord st = false →
  Spec Try.prog 118 (inSt [rS n Ps h st ord, .v (.int .i64 (v : Int)), .sl out.length (nsl out)] [])
   (outSt (.tup [rS n Ps h st (vis (fun o => con (Rn n Ps) n o st) (unN st) (fun v => wat n (parW Ps) (v : Int)) k v (ord, out)).1.1, .sl (vis (fun o => con (Rn n Ps) n o st) (unN st) (fun v => wat n (parW Ps) (v : Int)) k v (ord, out)).1.2.length (nsl (vis (fun o => con (Rn n Ps) n o st) (unN st) (fun v => wat n (parW Ps) (v : Int)) k v (ord, out)).1.2)]) []) := by
 intro k
 induction k with
 | zero => intro v ord out _ _ h2 hk; have := h2.len; omega
 | succ k ih =>
  intro v ord out hv ho1 ho2 hk hc0
  have hn := hG.n64
  have hPl := hG.len
  have hS0 := sorted_spec (Ps.getD v []).length (Ps.getD v []) rfl (by have := hG.m v; omega)
  have hLs := par_sort hG hv
  rw [← hLs] at hS0
  have hLe : (Ps.getD v []).length = (wat n (parW Ps) (v : Int)).length := by
   have := congrArg List.length hLs
   rw [List.length_map, ssrt_len] at this
   exact this.symm
  have hS : Spec Try.prog 67 (inSt [.sl (Ps.getD v []).length (isl (Ps.getD v []))] []) (outSt (.sl (wat n (parW Ps) (v : Int)).length (nsl (wat n (parW Ps) (v : Int)))) []) := by
   rw [← hLe]
   exact hS0
  clear hS0
  have hpar : ∀ v p : Nat, p ∈ wat n (parW Ps) (v : Int) → p < n := fun v p hp => wat_parlt hG hp
  have hLn : ∀ p ∈ wat n (parW Ps) (v : Int), p < n := fun p hp => hpar v p hp
  have hLl := wat_len (n := n) (parW Ps) (v : Int)
  have hns : ∀ v, v < n → nst st v = st.getD v 0 := fun v hv => nst_eq h012 hst hv
  have hT := fun ord ho p => rtest_spec (n := n) (Ps := Ps) h st ord ho p
  have hC := fun ord ho => rcon_spec hG h st hst h012 ord ho
  obtain ⟨cf, hcf⟩ : ∃ c : List Nat → Bool, c = fun o => con (Rn n Ps) n o st := ⟨_, rfl⟩
  have hcfe : ∀ o, con (Rn n Ps) n o st = cf o := fun o => by rw [hcf]
  simp only [hcfe] at hC hc0
  simp only [← hcf] at ih ⊢
  simp only [hcfe] at ih
  obtain ⟨res, hres⟩ : ∃ r, r = vis cf (unN st) (fun v => wat n (parW Ps) (v : Int)) (k + 1) v (ord, out) := ⟨_, rfl⟩
  rw [← hres]
  have hun : vis cf (unN st) (fun v => wat n (parW Ps) (v : Int)) (k + 1) v (ord, out) = vlist (vstep cf (unN st) (vis cf (unN st) (fun v => wat n (parW Ps) (v : Int)) k)) (wat n (parW Ps) (v : Int)) (ord, out) := rfl
  rw [hun] at hres
  clear hun
  obtain ⟨stp, hstp⟩ : ∃ s, s = vstep cf (unN st) (vis cf (unN st) (fun v => wat n (parW Ps) (v : Int)) k) := ⟨_, rfl⟩
  have hvl := fun i => vlist_ok (cf := cf) (un := unN st) (par := fun v => wat n (parW Ps) (v : Int)) (n := n) (k := k) (fun v _ p hp => hpar v p hp) (l := (wat n (parW Ps) (v : Int)).take i) (q := (ord, out)) (fun p hp => hLn p (List.mem_of_mem_take hp)) ho1 ho2
  have hvo := fun {p q} => vis_ok (cf := cf) (un := unN st) (par := fun v => wat n (parW Ps) (v : Int)) (n := n) (fun v _ p hp => hpar v p hp) (k := k) (v := p) (q := q)
  have hfl := fun p q => vis_flag (cf := cf) (un := unN st) (par := fun v => wat n (parW Ps) (v : Int)) k p q
  rw [← hstp] at hres hvl
  clear hLs hLe
  generalize wat n (parW Ps) (v : Int) = L at *
  obtain ⟨Q, hQ⟩ : ∃ Q : Nat → VS, Q = fun i => (vlist stp (L.take i) (ord, out)).1 := ⟨_, rfl⟩
  have hQi : ∀ i, (vlist stp (L.take i) (ord, out)).1 = Q i := fun i => by rw [hQ]
  have hQ0 : Q 0 = (ord, out) := by rw [hQ]; rfl
  simp only [hQi] at hvl
  have hsuc : ∀ i, i < L.length → (vlist stp (L.take i) (ord, out)).2 = true → vlist stp (L.take (i + 1)) (ord, out) = stp (L.getD i 0) (Q i) := fun i hi ht => by rw [vlist_succ hi ht, hQi]
  have hret : ∀ i, i < L.length → (vlist stp (L.take i) (ord, out)).2 = true → (stp (L.getD i 0) (Q i)).2 = false → res = stp (L.getD i 0) (Q i) := fun i hi ht hf => by
   have e := hsuc i hi ht
   rw [hres, vlist_stop (i := i + 1) (by rw [e]; exact hf), e]
  have hnext : ∀ i, i < L.length → (vlist stp (L.take i) (ord, out)).2 = true → (stp (L.getD i 0) (Q i)).2 = true → (vlist stp (L.take (i + 1)) (ord, out)).2 = true ∧ Q (i + 1) = (stp (L.getD i 0) (Q i)).1 := fun i hi ht hf => by
   have e := hsuc i hi ht
   refine ⟨by rw [e]; exact hf, ?_⟩
   rw [← hQi, e]
  have hend : (vlist stp (L.take L.length) (ord, out)).2 = true → res = (Q L.length, true) := fun ht => by
   rw [hres, ← hQi]
   rw [List.take_length] at ht ⊢
   exact Prod.ext rfl ht
  refine Spec.ofN Try.func118 rfl Try.ntmps118 rfl ?_
  refine D_seq fun K1 hK1 => ?_
  refine D_region ?_
  refine DL_c (op_box (3, 0) _ rfl rfl) ?_
  refine DL_c (op_alloc (6, 0) inferInstance rfl rfl) ?_
  refine DL_c (op_as _ (rfl : _ = AV.v (.slice _ _ _))) ?_
  refine DL_nil (hK1 _ ?_)
  clear hK1; try clear K1
  refine D_seq fun K2 hK2 => ?_
  refine D_region ?_
  refine DL_c (op_fldP _ inferInstance rfl rfl rfl) ?_
  refine DL_c (op_ldB _ inferInstance rfl rfl (rfl : _ = some (AV.sl _ _))) ?_
  refine DL_c (mvI rfl) ?_
  refine DL_c (op_ixS _ _ inferInstance rfl rfl _ rfl (by omega) (by (simp only [isl_len, bsl_len, psl_len, mrows_len, nsl_len, ws_len, List.length_map, ul_len, psl_len, isl_len, nrows_len, mmap_len, smap_len, dcl_len, blR_len, prL_len, stK_len, inh1_len, st0_len, status32_len]; omega)) (by exact Nat.mul_one _)) ?_
  refine DL_c (op_ldF _ inferInstance rfl (by exact nrows_get _ _ (by omega)) rfl) ?_
  refine DL_c (op_callH inferInstance (by repeat' (first | exact argsLv_nil | refine argsLv_cons ?_ ?_ | exact Lv.sl)) (hS) rfl rfl) ?_
  refine DL_c (asS rfl) ?_
  refine DL_nil (hK2 _ ?_)
  clear hK2; try clear K2
  refine D_seq fun K3 hK3 => ?_
  refine D_seq fun K4 hK4 => ?_
  refine D_region ?_
  refine DL_c (asI rfl) ?_
  refine DL_nil (hK4 _ ?_)
  clear hK4; try clear K4
  refine D_block ?_
  refine D_loopL (α := Nat) (fun i => i ≤ L.length ∧ (vlist stp (L.take i) (ord, out)).2 = true) 78 [(3, _), (6, _), (8, _)] [((6, 0), _)] (fun i => [(9, .v (.int .i64 (i : Int))), (2, .sl (Q i).2.length (nsl (Q i).2))]) (fun i => [((3, 0), .box 140 [.sl n (nrows Ps), .v (.int .i64 (h : Int)), .sl n (isl st), .sl (Q i).1.length (nsl (Q i).1)])]) [] [] (fun i => L.length - i) 0 ?_ (by
   refine Le.mkJ [] [] rfl ?_ ?_ trivial trivial ?_
   ·exact ⟨(iP rfl), (iP rfl), (iS rfl), (lvI (by rfl)), (lvSr (by (rw [hQ0])) (by (rw [hQ0]))), trivial⟩
   ·exact ⟨(obE rfl rfl rfl), (obB rfl rfl rfl rfl (lv_cons (lvSr (by rfl) (by rfl)) (lv_cons (lvI (by rfl)) (lv_cons (lvSr (by rfl) (by rfl)) (lv_cons (lvSr (by (rw [hQ0])) (by (rw [hQ0]))) lv_nil))))), trivial⟩
   ·kernel_rfl) ?_
  ·exact ⟨Nat.zero_le _, rfl⟩
  intro i hi
  obtain ⟨hi, ht⟩ := hi
  obtain ⟨hk1, hk2, _, hpre⟩ := hvl i
  have hle := pre_len hpre
  have hk1l := hk1.len
  have hk2l := hk2.len
  have hQs := hret i
  have hQn := hnext i
  obtain ⟨o, hoq⟩ : ∃ o, o = (Q i).1 := ⟨_, rfl⟩
  obtain ⟨u, huq⟩ : ∃ u, u = (Q i).2 := ⟨_, rfl⟩
  have hou : Q i = (o, u) := Prod.ext hoq.symm huq.symm
  rw [hou] at hQs hQn
  rw [← hoq] at hk1 hk1l
  rw [← huq] at hk2 hpre hle hk2l
  rw [← hoq, ← huq]
  have hH := fun p => hasNN_spec u.length u p rfl (by omega)
  refine D_seq fun K5 hK5 => ?_
  refine D_seq fun K6 hK6 => ?_
  refine D_region ?_
  refine DL_c (mvI rfl) ?_
  refine DL_c (mvS rfl) ?_
  refine DL_c (op_lenS _ inferInstance rfl) ?_
  refine DL_c (op_lss _ _ rfl rfl rfl) ?_
  refine DL_nil (hK6 _ ?_)
  clear hK6; try clear K6
  refine D_splitC rfl (fun hc22 => ?_) (fun hc22 => ?_)
  ·skip
   obtain ⟨p, hp⟩ : ∃ p, p = L.getD i 0 := ⟨_, rfl⟩
   have hpn : p < n := hp ▸ hLn _ (getD_mem (by omega))
   have hQs := hQs (by omega) ht
   have hQn := hQn (by omega) ht
   rw [← hp] at hQs hQn
   have hko := adN_ok hk1 hpn
   have hkol := hko.len
   have hTp := hT o (by omega) p
   have hCp := hC _ hko
   have hHp := hH p
   have hnp := hns p hpn
   refine D_skip (hK5 _ ?_)
   clear hK5; try clear K5
   refine D_seq fun K7 hK7 => ?_
   refine D_block ?_
   refine D_seq fun K8 hK8 => ?_
   refine D_le (σ' := mkStI 78 [(2, _), (3, _), (6, _), (8, _), (9, _)] [((6, 0), _), ((3, 0), _)] [] []) (by
    refine Le.mkJ [] [] rfl ?_ ?_ trivial trivial ?_
    ·exact ⟨(iS rfl), (iP rfl), (iP rfl), (iS rfl), (iV rfl), trivial⟩
    ·exact ⟨(obE rfl rfl rfl), (obE rfl rfl rfl), trivial⟩
    ·kernel_rfl) ?_
   refine D_anyL 6 [25, 26, 27, 28, 29, 30] [] (by kernel_rfl) (by kernel_rfl) rfl (nodupO_iff rfl) (rfl : _ = [_, _, _, _, _, _]) (rfl : _ = [_]) ?_
   refine any_c (_, []) (fun τ => op_ldBA _ inferInstance rfl rfl rfl rfl) ?_
   refine any_n (rfl : _ = [_]) ?_
   refine any_c (_, []) (fun τ => op_mv _ (rfl : _ = AV.sl _ _)) ?_
   refine any_n (rfl : _ = [_, _]) ?_
   refine any_c (_, []) (fun τ => op_mv _ (rfl : _ = AV.v (.int _ _))) ?_
   refine any_n (rfl : _ = [_, _, _]) ?_
   refine any_c (_, []) (fun τ => op_ixS _ _ inferInstance rfl rfl _ rfl (by omega) (by (simp only [isl_len, bsl_len, psl_len, mrows_len, nsl_len, ws_len, List.length_map, ul_len, psl_len, isl_len, nrows_len, mmap_len, smap_len, dcl_len, blR_len, prL_len, stK_len, inh1_len, st0_len, status32_len]; omega)) (by exact Nat.mul_one _)) ?_
   refine any_n (rfl : _ = [_, _, _, _]) ?_
   refine any_c (_, []) (fun τ => op_ldF _ inferInstance rfl (by exact (nsl_get _ _ (by omega)).trans (by rw [← hp])) rfl) ?_
   refine any_n (rfl : _ = [_, _, _, _, _]) ?_
   refine any_c (_, []) (fun τ => (op_callH inferInstance (by repeat' (first | exact argsLv_nil | refine argsLv_cons ?_ ?_ | exact Lv.v | exact Lv.sl | refine Lv.agg rfl ?_ | exact lv_nil | refine lv_cons ?_ ?_)) (hTp) rfl rfl)) ?_
   refine any_n (rfl : _ = [_, _, _, _, _, _]) ?_
   refine any_end ⟨rfl, ?_⟩
   refine DL_c (op_stB _ _ inferInstance rfl rfl rfl rfl (Nat.le_of_ble_eq_true rfl) rfl) ?_
   refine DL_nil (hK8 _ ?_)
   clear hK8; try clear K8
   refine D_seq fun K9 hK9 => ?_
   refine D_seq fun K10 hK10 => ?_
   refine D_region ?_
   refine DL_c (op_ldBA _ inferInstance rfl rfl rfl rfl) ?_
   refine DL_c (op_callH inferInstance (by repeat' (first | exact argsLv_nil | refine argsLv_cons ?_ ?_ | exact Lv.v | exact Lv.sl | refine Lv.agg rfl ?_ | exact lv_nil | refine lv_cons ?_ ?_)) (hCp) rfl rfl) ?_
   refine DL_nil (hK10 _ ?_)
   clear hK10; try clear K10
   refine D_splitC rfl (fun hc32 => ?_) (fun hc32 => ?_)
   ·skip
    have e : stp p (o, u) = ((adN o p, u), false) := by rw [hstp, vstep]; rw [if_pos hc32]
    rw [e] at hQs
    have hr := hQs rfl
    subst hr
    refine D_seq fun K11 hK11 => ?_
    refine D_region ?_
    refine DL_c (op_ldBA _ inferInstance rfl rfl rfl rfl) ?_
    refine DL_c (mvS rfl) ?_
    refine DL_c (op_stB _ _ inferInstance rfl rfl rfl rfl (Nat.le_of_ble_eq_true rfl) rfl) ?_
    refine DL_c (asS rfl) ?_
    refine DL_nil (hK11 _ ?_)
    clear hK11; try clear K11
    refine D_ret ?_
    exact ret2 (.inr rfl) rfl (.cellA inferInstance rfl rfl rfl) (.tmp (rfl : _ = AV.sl _ _)) (Le.out [] [] (.tup rfl (lv_cons (.agg rfl (lv_cons .sl (lv_cons .v (lv_cons .sl (lv_cons .sl lv_nil))))) (lv_cons .sl lv_nil))) rfl rfl rfl trivial trivial)
   ·skip
    refine D_skip (hK9 _ ?_)
    clear hK9; try clear K9
    refine D_seq fun K12 hK12 => ?_
    refine D_seq fun K13 hK13 => ?_
    refine D_le (σ' := mkStI 78 [(2, _), (3, _), (6, _), (8, _), (9, _)] [((6, 0), _), ((3, 0), _)] [] []) (by
     refine Le.mkJ [] [] rfl ?_ ?_ trivial trivial ?_
     ·exact ⟨(iS rfl), (iP rfl), (iP rfl), (iS rfl), (iV rfl), trivial⟩
     ·exact ⟨(obE rfl rfl rfl), (obE rfl rfl rfl), trivial⟩
     ·kernel_rfl) ?_
    refine D_anyL 17 [35, 36, 37, 38, 39, 40, 41, 42, 43, 44, 45, 46, 47, 48, 49, 50, 51] [] (by kernel_rfl) (by kernel_rfl) rfl (nodupO_iff rfl) (rfl : _ = [_, _, _, _, _, _, _, _, _, _, _, _, _, _, _, _, _]) (rfl : _ = []) ?_
    refine any_c (_, []) (fun τ => op_fldP _ inferInstance rfl rfl rfl) ?_
    refine any_n (rfl : _ = [_]) ?_
    refine any_c (_, []) (fun τ => op_ldB _ inferInstance rfl rfl (rfl : _ = some (AV.sl _ _))) ?_
    refine any_n (rfl : _ = [_, _]) ?_
    refine any_c (_, []) (fun τ => op_mv _ (rfl : _ = AV.sl _ _)) ?_
    refine any_n (rfl : _ = [_, _, _]) ?_
    refine any_c (_, []) (fun τ => op_mv _ (rfl : _ = AV.v (.int _ _))) ?_
    refine any_n (rfl : _ = [_, _, _, _]) ?_
    refine any_c (_, []) (fun τ => op_ixS _ _ inferInstance rfl rfl _ rfl (by omega) (by (simp only [isl_len, bsl_len, psl_len, mrows_len, nsl_len, ws_len, List.length_map, ul_len, psl_len, isl_len, nrows_len, mmap_len, smap_len, dcl_len, blR_len, prL_len, stK_len, inh1_len, st0_len, status32_len]; omega)) (by exact Nat.mul_one _)) ?_
    refine any_n (rfl : _ = [_, _, _, _, _]) ?_
    refine any_c (_, []) (fun τ => op_ldF _ inferInstance rfl (by exact (nsl_get _ _ (by omega)).trans (by rw [← hp])) rfl) ?_
    refine any_n (rfl : _ = [_, _, _, _, _, _]) ?_
    refine any_c (_, []) (fun τ => op_ixS _ _ inferInstance rfl rfl p rfl (by omega) (by rw [isl_len]; omega) (Nat.mul_one _)) ?_
    refine any_n (rfl : _ = [_, _, _, _, _, _, _]) ?_
    refine any_c (_, []) (fun τ => op_ldF _ inferInstance rfl (by exact isl_get _ _ (by omega)) rfl) ?_
    refine any_n (rfl : _ = [_, _, _, _, _, _, _, _]) ?_
    refine any_c (_, []) (fun τ => op_neq _ _ rfl rfl rfl) ?_
    refine any_n (rfl : _ = [_, _, _, _, _, _, _, _, _]) ?_
    refine any_c (_, []) (fun τ => op_mv _ (rfl : _ = AV.v (.bool _))) ?_
    refine any_caseC (fun hg44 => ?_) (fun hg44 => ?_)
    ·skip
     have hu : unN st p = false := decide_eq_false (by rw [hnp]; exact hg44)
     have e : stp p (o, u) = ((adN o p, u), true) := by rw [hstp, vstep, if_neg (by simp [hc32]), if_neg (by simp [hu])]
     rw [e] at hQn
     have hq := hQn rfl
     refine any_n (rfl : _ = [_, _, _, _, _, _, _, _, _, _]) ?_
     refine any_cn rfl (fun τ => rfl) (by decide) ?_
     refine any_n (rfl : _ = [_, _, _, _, _, _, _, _, _, _, _]) ?_
     refine any_cn rfl (fun τ => rfl) (by decide) ?_
     refine any_n (rfl : _ = [_, _, _, _, _, _, _, _, _, _, _, _]) ?_
     refine any_cn rfl (fun τ => rfl) (by decide) ?_
     refine any_n (rfl : _ = [_, _, _, _, _, _, _, _, _, _, _, _, _]) ?_
     refine any_cn rfl (fun τ => rfl) (by decide) ?_
     refine any_n (rfl : _ = [_, _, _, _, _, _, _, _, _, _, _, _, _, _]) ?_
     refine any_cn rfl (fun τ => rfl) (by decide) ?_
     refine any_n (rfl : _ = [_, _, _, _, _, _, _, _, _, _, _, _, _, _, _]) ?_
     refine any_cn rfl (fun τ => rfl) (by decide) ?_
     refine any_n (rfl : _ = [_, _, _, _, _, _, _, _, _, _, _, _, _, _, _, _]) ?_
     refine any_c (_, []) (fun τ => op_pick _ _ _ rfl (rfl : _ = AV.v (.bool _))) ?_
     refine any_n (rfl : _ = [_, _, _, _, _, _, _, _, _, _, _, _, _, _, _, _, _]) ?_
     refine any_end ⟨rfl, ?_⟩
     refine DL_nil (hK13 _ ?_)
     clear hK13; try clear K13
     refine D_cT rfl rfl ?_
     refine D_exit ?_
     refine id (hK7 _ ?_)
     clear hK7; try clear K7
     refine D_le (σ' := mkStI 78 [(2, _), (3, _), (6, _), (8, _), (9, _)] [((6, 0), _), ((3, 0), _)] [] []) (by
      refine Le.mkJ [] [] rfl ?_ ?_ trivial trivial ?_
      ·exact ⟨(iS rfl), (iP rfl), (iP rfl), (iS rfl), (iV rfl), trivial⟩
      ·exact ⟨(obE rfl rfl rfl), (obE rfl rfl rfl), trivial⟩
      ·kernel_rfl) ?_
     refine D_region ?_
     refine DL_c (mvI rfl) ?_
     refine DL_c (op_add _ _ rfl rfl (i64w (by omega))) ?_
     refine DL_c (asI rfl) ?_
     refine DL_nil ?_
     refine ⟨i + 1, ?_, ?_, ?_⟩
     ·exact ⟨by omega, hq.1⟩
     ·skip
      refine Le.mkJ [] [] rfl ?_ ?_ trivial trivial ?_
      ·exact ⟨(iP rfl), (iP rfl), (iS rfl), (lvI (by rfl)), (lvSr (by (rw [hq.2])) (by (rw [hq.2]))), trivial⟩
      ·exact ⟨(obE rfl rfl rfl), (obB rfl rfl rfl rfl (lv_cons (lvSr (by rfl) (by rfl)) (lv_cons (lvI (by rfl)) (lv_cons (lvSr (by rfl) (by rfl)) (lv_cons (lvSr (by (rw [hq.2])) (by (rw [hq.2]))) lv_nil))))), trivial⟩
      ·kernel_rfl
     ·omega
    ·skip
     have hu : unN st p = true := decide_eq_true (by rw [hnp]; omega)
     refine any_n (rfl : _ = [_, _, _, _, _, _, _, _, _, _]) ?_
     refine any_cy (_, []) rfl (fun τ => rfl) (fun τ => op_mv _ (rfl : _ = AV.sl _ _)) ?_
     refine any_n (rfl : _ = [_, _, _, _, _, _, _, _, _, _, _]) ?_
     refine any_cy (_, []) rfl (fun τ => rfl) (fun τ => op_mv _ (rfl : _ = AV.sl _ _)) ?_
     refine any_n (rfl : _ = [_, _, _, _, _, _, _, _, _, _, _, _]) ?_
     refine any_cy (_, []) rfl (fun τ => rfl) (fun τ => op_mv _ (rfl : _ = AV.v (.int _ _))) ?_
     refine any_n (rfl : _ = [_, _, _, _, _, _, _, _, _, _, _, _, _]) ?_
     refine any_cy (_, []) rfl (fun τ => rfl) (fun τ => op_ixS _ _ inferInstance rfl rfl _ rfl (by omega) (by (simp only [isl_len, bsl_len, psl_len, mrows_len, nsl_len, ws_len, List.length_map, ul_len, psl_len, isl_len, nrows_len, mmap_len, smap_len, dcl_len, blR_len, prL_len, stK_len, inh1_len, st0_len, status32_len]; omega)) (by exact Nat.mul_one _)) ?_
     refine any_n (rfl : _ = [_, _, _, _, _, _, _, _, _, _, _, _, _, _]) ?_
     refine any_cy (_, []) rfl (fun τ => rfl) (fun τ => op_ldF _ inferInstance rfl (by exact (nsl_get _ _ (by omega)).trans (by rw [← hp])) rfl) ?_
     refine any_n (rfl : _ = [_, _, _, _, _, _, _, _, _, _, _, _, _, _, _]) ?_
     refine any_cy (_, []) rfl (fun τ => rfl) (fun τ => (op_callH inferInstance (by repeat' (first | exact argsLv_nil | refine argsLv_cons ?_ ?_ | exact Lv.v | exact Lv.sl)) (hHp) rfl rfl)) ?_
     refine any_n (rfl : _ = [_, _, _, _, _, _, _, _, _, _, _, _, _, _, _, _]) ?_
     refine any_c (_, []) (fun τ => op_pick _ _ _ rfl (rfl : _ = AV.v (.bool _))) ?_
     refine any_n (rfl : _ = [_, _, _, _, _, _, _, _, _, _, _, _, _, _, _, _, _]) ?_
     refine any_end ⟨rfl, ?_⟩
     refine DL_nil (hK13 _ ?_)
     clear hK13; try clear K13
     refine D_splitC rfl (fun hc51 => ?_) (fun hc51 => ?_)
     ·skip
      have e : stp p (o, u) = ((adN o p, u), true) := by rw [hstp, vstep, if_neg (by simp [hc32]), if_neg (fun h => h.2 hc51)]
      rw [e] at hQn
      have hq := hQn rfl
      refine D_exit ?_
      refine id (hK7 _ ?_)
      clear hK7; try clear K7
      refine D_le (σ' := mkStI 78 [(2, _), (3, _), (6, _), (8, _), (9, _)] [((6, 0), _), ((3, 0), _)] [] []) (by
       refine Le.mkJ [] [] rfl ?_ ?_ trivial trivial ?_
       ·exact ⟨(iS rfl), (iP rfl), (iP rfl), (iS rfl), (iV rfl), trivial⟩
       ·exact ⟨(obE rfl rfl rfl), (obE rfl rfl rfl), trivial⟩
       ·kernel_rfl) ?_
      refine D_region ?_
      refine DL_c (mvI rfl) ?_
      refine DL_c (op_add _ _ rfl rfl (i64w (by omega))) ?_
      refine DL_c (asI rfl) ?_
      refine DL_nil ?_
      refine ⟨i + 1, ?_, ?_, ?_⟩
      ·exact ⟨by omega, hq.1⟩
      ·skip
       refine Le.mkJ [] [] rfl ?_ ?_ trivial trivial ?_
       ·exact ⟨(iP rfl), (iP rfl), (iS rfl), (lvI (by rfl)), (lvSr (by (rw [hq.2])) (by (rw [hq.2]))), trivial⟩
       ·exact ⟨(obE rfl rfl rfl), (obB rfl rfl rfl rfl (lv_cons (lvSr (by rfl) (by rfl)) (lv_cons (lvI (by rfl)) (lv_cons (lvSr (by rfl) (by rfl)) (lv_cons (lvSr (by (rw [hq.2])) (by (rw [hq.2]))) lv_nil))))), trivial⟩
       ·kernel_rfl
      ·omega
     ·skip
      have hnpu : p ∉ u := hc51
      have hko2 := hk2.add hpn hnpu
      have hih := ih p (adN o p) (u ++ [p]) hpn hko hko2 (by rw [List.length_append]; simp only [List.length_cons, List.length_nil]; omega) hc32
      have e : stp p (o, u) = vis cf (unN st) (fun v => wat n (parW Ps) (v : Int)) k p (adN o p, u ++ [p]) := by rw [hstp, vstep, if_neg (by simp [hc32]), if_pos ⟨hu, hnpu⟩]
      have hfp := hfl p (adN o p, u ++ [p]) hc32
      obtain ⟨hro, hru, _, _⟩ := hvo hpn hko hko2 (q := (adN o p, u ++ [p]))
      rw [← e] at hih hfp hro hru
      generalize stp p (o, u) = rr at hih e hQs hQn hfp hro hru
      have hCr := hC _ hro
      have hrol := hro.len
      have hrul := hru.len
      refine D_skip (hK12 _ ?_)
      clear hK12; try clear K12
      refine D_seq fun K14 hK14 => ?_
      refine D_le (σ' := mkStI 78 [(2, _), (3, _), (6, _), (8, _), (9, _)] [((6, 0), _), ((3, 0), _)] [] []) (by
       refine Le.mkJ [] [] rfl ?_ ?_ trivial trivial ?_
       ·exact ⟨(iS rfl), (iP rfl), (iP rfl), (iS rfl), (iV rfl), trivial⟩
       ·exact ⟨(obE rfl rfl rfl), (obE rfl rfl rfl), trivial⟩
       ·kernel_rfl) ?_
      refine D_region ?_
      refine DL_c (op_as _ (rfl : _ = AV.v (.slice _ _ _))) ?_
      refine DL_nil (hK14 _ ?_)
      clear hK14; try clear K14
      refine D_seq fun K15 hK15 => ?_
      refine D_anyCL 20 [53, 54, 55, 56, 57, 58, 59, 60, 61, 62, 63, 64, 65, 66, 67, 52, 68, 69, 11] [(60, 0), (60, 0), (66, 0), (11, 0), (11, 0)] (by kernel_rfl) (by kernel_rfl) rfl (rfl : _ = [_, _, _, _, _, _, _, _, _, _, _, _, _, _, _, _, _, _, _, _]) (rfl : _ = [_]) ?_
      refine anyC_c (_, []) (fun τ => op_ldBA _ inferInstance rfl rfl rfl rfl) ?_
      refine anyC_n (rfl : _ = [_]) ?_
      refine anyC_c (_, []) (fun τ => op_mv _ (rfl : _ = AV.sl _ _)) ?_
      refine anyC_n (rfl : _ = [_, _]) ?_
      refine anyC_c (_, []) (fun τ => op_mv _ (rfl : _ = AV.v (.int _ _))) ?_
      refine anyC_n (rfl : _ = [_, _, _]) ?_
      refine anyC_c (_, []) (fun τ => op_ixS _ _ inferInstance rfl rfl _ rfl (by omega) (by (simp only [isl_len, bsl_len, psl_len, mrows_len, nsl_len, ws_len, List.length_map, ul_len, psl_len, isl_len, nrows_len, mmap_len, smap_len, dcl_len, blR_len, prL_len, stK_len, inh1_len, st0_len, status32_len]; omega)) (by exact Nat.mul_one _)) ?_
      refine anyC_n (rfl : _ = [_, _, _, _]) ?_
      refine anyC_c (_, []) (fun τ => op_ldF _ inferInstance rfl (by exact (nsl_get _ _ (by omega)).trans (by rw [← hp])) rfl) ?_
      refine anyC_n (rfl : _ = [_, _, _, _, _]) ?_
      refine anyC_c (_, []) (fun τ => op_mv _ (rfl : _ = AV.v (.slice _ _ _))) ?_
      refine anyC_n (rfl : _ = [_, _, _, _, _, _]) ?_
      refine anyC_c (_, []) (fun τ => op_mv _ (rfl : _ = AV.sl _ _)) ?_
      refine anyC_n (rfl : _ = [_, _, _, _, _, _, _]) ?_
      refine anyC_c (_, [((60, 0), _)]) (fun τ => op_ap0 (60, 0) _ _ inferInstance rfl (by (refine .sl ?_; (simp [isl]; done))) (by omega) rfl) ?_
      refine anyC_n (rfl : _ = [_, _, _, _, _, _, _, _]) ?_
      refine anyC_c (_, []) (fun τ => op_mv _ (rfl : _ = AV.sl _ _)) ?_
      refine anyC_n (rfl : _ = [_, _, _, _, _, _, _, _, _]) ?_
      refine anyC_c (_, []) (fun τ => op_mv _ (rfl : _ = AV.v (.int _ _))) ?_
      refine anyC_n (rfl : _ = [_, _, _, _, _, _, _, _, _, _]) ?_
      refine anyC_c (_, []) (fun τ => op_ixS _ _ inferInstance rfl rfl _ rfl (by omega) (by (simp only [isl_len, bsl_len, psl_len, mrows_len, nsl_len, ws_len, List.length_map, ul_len, psl_len, isl_len, nrows_len, mmap_len, smap_len, dcl_len, blR_len, prL_len, stK_len, inh1_len, st0_len, status32_len]; omega)) (by exact Nat.mul_one _)) ?_
      refine anyC_n (rfl : _ = [_, _, _, _, _, _, _, _, _, _, _]) ?_
      refine anyC_c (_, []) (fun τ => op_ldF _ inferInstance rfl (by exact (nsl_get _ _ (by omega)).trans (by rw [← hp])) rfl) ?_
      refine anyC_n (rfl : _ = [_, _, _, _, _, _, _, _, _, _, _, _]) ?_
      refine anyC_c (_, []) (fun τ => op_bsF _ _ inferInstance rfl (by rfl) (by simp <;> rfl) (by decide) rfl) ?_
      refine anyC_n (rfl : _ = [_, _, _, _, _, _, _, _, _, _, _, _, _]) ?_
      refine anyC_c (_, [((60, 0), .gone), ((66, 0), .gone)]) (fun τ => op_apF (66, 0) _ _ inferInstance rfl rfl (by rw [nsl_len, Nat.mul_one]) (.sl rfl) (by omega) rfl rfl rfl (nsl_snoc u p) (show u.length + 1 = (u ++ [p]).length by simp)) ?_
      refine anyC_n (rfl : _ = [_, _, _, _, _, _, _, _, _, _, _, _, _, _]) ?_
      refine anyC_c (_, []) (fun τ => (op_callH inferInstance (by repeat' (first | exact argsLv_nil | refine argsLv_cons ?_ ?_ | exact Lv.v | exact Lv.sl | refine Lv.agg rfl ?_ | exact lv_nil | refine lv_cons ?_ ?_)) (hih) rfl rfl)) ?_
      refine anyC_n (rfl : _ = [_, _, _, _, _, _, _, _, _, _, _, _, _, _, _]) ?_
      refine anyC_c (_, []) (fun τ => op_mv _ (rfl : _ = AV.tup _)) ?_
      refine anyC_n (rfl : _ = [_, _, _, _, _, _, _, _, _, _, _, _, _, _, _, _]) ?_
      refine anyC_c (_, []) (fun τ => op_ext _ rfl (rfl : _ = some (AV.agg _))) ?_
      refine anyC_n (rfl : _ = [_, _, _, _, _, _, _, _, _, _, _, _, _, _, _, _, _]) ?_
      refine anyC_c (_, []) (fun τ => op_ext _ rfl (rfl : _ = some (AV.sl _ _))) ?_
      refine anyC_n (rfl : _ = [_, _, _, _, _, _, _, _, _, _, _, _, _, _, _, _, _, _]) ?_
      refine anyC_c (_, [((11, 0), _)]) (fun τ => op_alloc (11, 0) inferInstance rfl rfl) ?_
      refine anyC_n (rfl : _ = [_, _, _, _, _, _, _, _, _, _, _, _, _, _, _, _, _, _, _]) ?_
      refine anyC_c (_, [((11, 0), _)]) (fun τ => op_stB _ _ inferInstance rfl rfl rfl rfl (Nat.le_of_ble_eq_true rfl) rfl) ?_
      refine anyC_n (rfl : _ = [_, _, _, _, _, _, _, _, _, _, _, _, _, _, _, _, _, _, _, _]) ?_
      refine anyC_end ⟨⟨rfl, by kernel_rfl, by kernel_rfl⟩, ?_⟩
      refine DL_c (asS rfl) ?_
      refine DL_nil (hK15 _ ?_)
      clear hK15; try clear K15
      refine D_seq fun K16 hK16 => ?_
      refine D_le (σ' := mkStI 78 [(3, _), (6, _), (8, _), (9, _), (11, _), (12, _)] [((6, 0), _), ((3, 0), _), ((11, 0), _)] [] []) (by
       refine Le.mkJ [] [] rfl ?_ ?_ trivial trivial ?_
       ·exact ⟨(iP rfl), (iP rfl), (iS rfl), (iV rfl), (iP rfl), (iS rfl), trivial⟩
       ·exact ⟨(obE rfl rfl rfl), (obE rfl rfl rfl), (obE rfl rfl rfl), trivial⟩
       ·kernel_rfl) ?_
      refine D_region ?_
      refine DL_c (op_ldBA _ inferInstance rfl rfl rfl rfl) ?_
      refine DL_c (op_stB _ _ inferInstance rfl rfl rfl rfl (Nat.le_of_ble_eq_true rfl) rfl) ?_
      refine DL_nil (hK16 _ ?_)
      clear hK16; try clear K16
      refine D_seq fun K17 hK17 => ?_
      refine D_region ?_
      refine DL_c (mvS rfl) ?_
      refine DL_c (asS rfl) ?_
      refine DL_nil (hK17 _ ?_)
      clear hK17; try clear K17
      refine D_seq fun K18 hK18 => ?_
      refine D_region ?_
      refine DL_c (op_ldBA _ inferInstance rfl rfl rfl rfl) ?_
      refine DL_c (op_callH inferInstance (by repeat' (first | exact argsLv_nil | refine argsLv_cons ?_ ?_ | exact Lv.v | exact Lv.sl | refine Lv.agg rfl ?_ | exact lv_nil | refine lv_cons ?_ ?_)) (hCr) rfl rfl) ?_
      refine DL_nil (hK18 _ ?_)
      clear hK18; try clear K18
      refine D_splitC rfl (fun hc73 => ?_) (fun hc73 => ?_)
      ·skip
       have hr := hQs (by rw [hfp, hc73]; rfl)
       subst hr
       refine D_seq fun K19 hK19 => ?_
       refine D_region ?_
       refine DL_c (op_ldBA _ inferInstance rfl rfl rfl rfl) ?_
       refine DL_c (mvS rfl) ?_
       refine DL_c (op_stB _ _ inferInstance rfl rfl rfl rfl (Nat.le_of_ble_eq_true rfl) rfl) ?_
       refine DL_c (asS rfl) ?_
       refine DL_nil (hK19 _ ?_)
       clear hK19; try clear K19
       refine D_ret ?_
       exact ret2 (.inr rfl) rfl (.cellA inferInstance rfl rfl rfl) (.tmp (rfl : _ = AV.sl _ _)) (Le.out [] [] (.tup rfl (lv_cons (.agg rfl (lv_cons .sl (lv_cons .v (lv_cons .sl (lv_cons .sl lv_nil))))) (lv_cons .sl lv_nil))) rfl rfl rfl trivial trivial)
      ·skip
       have hq := hQn (by rw [hfp, hc73]; rfl)
       refine D_skip (hK7 _ ?_)
       clear hK7; try clear K7
       refine D_region ?_
       refine DL_c (mvI rfl) ?_
       refine DL_c (op_add _ _ rfl rfl (i64w (by omega))) ?_
       refine DL_c (asI rfl) ?_
       refine DL_nil ?_
       refine ⟨i + 1, ?_, ?_, ?_⟩
       ·exact ⟨by omega, hq.1⟩
       ·skip
        refine Le.mkJ [] [] rfl ?_ ?_ trivial trivial ?_
        ·exact ⟨(iP rfl), (iP rfl), (iS rfl), (lvI (by rfl)), (lvSr (by (rw [hq.2])) (by (rw [hq.2]))), trivial⟩
        ·exact ⟨(obE rfl rfl rfl), (obB rfl rfl rfl rfl (lv_cons (lvSr (by rfl) (by rfl)) (lv_cons (lvI (by rfl)) (lv_cons (lvSr (by rfl) (by rfl)) (lv_cons (lvSr (by (rw [hq.2])) (by (rw [hq.2]))) lv_nil))))), trivial⟩
        ·kernel_rfl
       ·omega
  ·skip
   obtain rfl : i = L.length := by omega
   have hr := hend ht
   rw [hou] at hr
   subst hr
   refine D_exit ?_
   refine id (hK3 _ ?_)
   clear hK3; try clear K3
   refine D_seq fun K20 hK20 => ?_
   refine D_region ?_
   refine DL_c (op_ldBA _ inferInstance rfl rfl rfl rfl) ?_
   refine DL_c (mvS rfl) ?_
   refine DL_c (op_stB _ _ inferInstance rfl rfl rfl rfl (Nat.le_of_ble_eq_true rfl) rfl) ?_
   refine DL_c (asS rfl) ?_
   refine DL_nil (hK20 _ ?_)
   clear hK20; try clear K20
   refine D_ret ?_
   exact ret2 (.inr rfl) rfl (.cellA inferInstance rfl rfl rfl) (.tmp (rfl : _ = AV.sl _ _)) (Le.out [] [] (.tup rfl (lv_cons (.agg rfl (lv_cons .sl (lv_cons .v (lv_cons .sl (lv_cons .sl lv_nil))))) (lv_cons .sl lv_nil))) rfl rfl rfl trivial trivial)
end
end Go.Proofs.Ytkbkmngbenohkaa

namespace Go.Proofs.Ytkbkmngbenohkaa
open Go.RowKit

theorem rfind_arg (n : Nat) (Ps : List (List Int)) (hPl : Ps.length = n) (st : List Int) (h : Int) (hh : h < 0 ∨ (n : Int) ≤ h) :
  Spec Try.prog 74 (inSt [.sl n (nrows Ps), .v (.int .i64 h), .sl n (isl st)] []) (outSt (.tup [.sl 0 [], .sl 0 [], .v (.int .i64 1)]) []) := by
 refine Spec.ofN Try.func74 rfl Try.ntmps74 rfl ?_
 refine D_seq fun K1 hK1 => ?_
 refine D_region ?_
 refine DL_c (op_as _ (rfl : _ = AV.v (.slice _ _ _))) ?_
 refine DL_c (op_as _ (rfl : _ = AV.v (.slice _ _ _))) ?_
 refine DL_c (asI rfl) ?_
 refine DL_nil (hK1 _ ?_)
 clear hK1; try clear K1
 refine D_seq fun K2 hK2 => ?_
 refine D_seq fun K3 hK3 => ?_
 refine D_region ?_
 refine DL_c (mvI rfl) ?_
 refine DL_c (op_lss _ _ rfl rfl rfl) ?_
 refine DL_c (mvB rfl) ?_
 refine DL_caseC (fun hg18 => ?_) (fun hg18 => ?_)
 ·skip
  refine DL_cn rfl rfl (by decide) ?_
  refine DL_cn rfl rfl (by decide) ?_
  refine DL_cn rfl rfl (by decide) ?_
  refine DL_cn rfl rfl (by decide) ?_
  refine DL_c (op_pick _ _ _ rfl (rfl : _ = AV.v (.bool _))) ?_
  refine DL_nil (hK3 _ ?_)
  clear hK3; try clear K3
  refine D_cT rfl rfl ?_
  refine D_seq fun K4 hK4 => ?_
  refine D_region ?_
  refine DL_c (op_as _ (rfl : _ = AV.v (.slice _ _ _))) ?_
  refine DL_c (op_as _ (rfl : _ = AV.v (.slice _ _ _))) ?_
  refine DL_c (asI rfl) ?_
  refine DL_nil (hK4 _ ?_)
  clear hK4; try clear K4
  refine D_ret ?_
  exact ret3 (.inr rfl) rfl (.tmp (rfl : _ = AV.v _)) (.tmp (rfl : _ = AV.v _)) (.tmp (rfl : _ = AV.v _)) (Le.out [] [] (.tup rfl (lv_cons .nil (lv_cons .nil (lv_cons .v lv_nil)))) rfl rfl rfl trivial trivial)
 ·skip
  skip
  refine DL_cy rfl rfl (mvI rfl) ?_
  refine DL_cy rfl rfl (mvS rfl) ?_
  refine DL_cy rfl rfl (op_lenS _ inferInstance rfl) ?_
  refine DL_cy rfl rfl (op_geq _ _ rfl rfl rfl) ?_
  refine DL_c (op_pick _ _ _ rfl (rfl : _ = AV.v (.bool _))) ?_
  refine DL_nil (hK3 _ ?_)
  clear hK3; try clear K3
  refine D_splitC rfl (fun hc23 => ?_) (fun hc23 => ?_)
  ·skip
   refine D_seq fun K5 hK5 => ?_
   refine D_region ?_
   refine DL_c (op_as _ (rfl : _ = AV.v (.slice _ _ _))) ?_
   refine DL_c (op_as _ (rfl : _ = AV.v (.slice _ _ _))) ?_
   refine DL_c (asI rfl) ?_
   refine DL_nil (hK5 _ ?_)
   clear hK5; try clear K5
   refine D_ret ?_
   exact ret3 (.inr rfl) rfl (.tmp (rfl : _ = AV.v _)) (.tmp (rfl : _ = AV.v _)) (.tmp (rfl : _ = AV.v _)) (Le.out [] [] (.tup rfl (lv_cons .nil (lv_cons .nil (lv_cons .v lv_nil)))) rfl rfl rfl trivial trivial)
  ·skip
   exact absurd  hc23 (by omega)
theorem con_one {R : Rl} {n : Nat} {st : List Int} {h : Nat} (hh : h < n) (hs : nst st h = 1) : con R n [h] st = false := by
 rw [Bool.eq_false_iff]
 intro hc
 obtain ⟨b, hb, g, hg, _, h0, _⟩ := (con_iff (ord := [h]) ⟨by simp, fun v hv => by simp at hv; omega⟩).1 hc
 simp at hg
 subst hg
 rw [hs] at h0
 cases h0
section
variable {n : Nat} {Ps : List (List Int)} (hG : GG n Ps) (st : List Int) (hst : st.length = n) (h012 : ∀ v, v < n → st.getD v 0 = 0 ∨ st.getD v 0 = 1 ∨ st.getD v 0 = 2)
include hG hst h012
theorem rfind_ver (h : Nat) (hh : h < n) (hs : nst st h ≠ 1) :
  Spec Try.prog 74 (inSt [.sl n (nrows Ps), .v (.int .i64 (h : Int)), .sl n (isl st)] []) (outSt (.tup [.sl 0 [], .sl 0 [], .v (.int .i64 41)]) []) := by
 have hn := hG.n64
 have hPl := hG.len
 have hns := nst_eq h012 hst hh
 refine Spec.ofN Try.func74 rfl Try.ntmps74 rfl ?_
 refine D_seq fun K1 hK1 => ?_
 refine D_region ?_
 refine DL_c (op_as _ (rfl : _ = AV.v (.slice _ _ _))) ?_
 refine DL_c (op_as _ (rfl : _ = AV.v (.slice _ _ _))) ?_
 refine DL_c (asI rfl) ?_
 refine DL_nil (hK1 _ ?_)
 clear hK1; try clear K1
 refine D_seq fun K2 hK2 => ?_
 refine D_seq fun K3 hK3 => ?_
 refine D_region ?_
 refine DL_c (mvI rfl) ?_
 refine DL_c (op_lss _ _ rfl rfl rfl) ?_
 refine DL_c (mvB rfl) ?_
 refine DL_caseC (fun hg18 => ?_) (fun hg18 => ?_)
 ·skip
  exact absurd  hg18 (by omega)
 ·skip
  refine DL_cy rfl rfl (mvI rfl) ?_
  refine DL_cy rfl rfl (mvS rfl) ?_
  refine DL_cy rfl rfl (op_lenS _ inferInstance rfl) ?_
  refine DL_cy rfl rfl (op_geq _ _ rfl rfl rfl) ?_
  refine DL_c (op_pick _ _ _ rfl (rfl : _ = AV.v (.bool _))) ?_
  refine DL_nil (hK3 _ ?_)
  clear hK3; try clear K3
  refine D_splitC rfl (fun hc23 => ?_) (fun hc23 => ?_)
  ·skip
   exact absurd  hc23 (by omega)
  ·skip
   refine D_skip (hK2 _ ?_)
   clear hK2; try clear K2
   refine D_seq fun K4 hK4 => ?_
   refine D_seq fun K5 hK5 => ?_
   refine D_region ?_
   refine DL_c (mvS rfl) ?_
   refine DL_c (mvI rfl) ?_
   refine DL_c (op_ixS _ _ inferInstance rfl rfl _ rfl (by omega) (by (simp only [isl_len, bsl_len, psl_len, mrows_len, nsl_len, ws_len, List.length_map, ul_len, psl_len, isl_len, nrows_len, mmap_len, smap_len, dcl_len, blR_len, prL_len, stK_len, inh1_len, st0_len, status32_len]; omega)) (by exact Nat.mul_one _)) ?_
   refine DL_c (op_ldF _ inferInstance rfl (by exact isl_get _ _ (by omega)) rfl) ?_
   refine DL_c (op_neq _ _ rfl rfl rfl) ?_
   refine DL_nil (hK5 _ ?_)
   clear hK5; try clear K5
   refine D_splitC rfl (fun hc28 => ?_) (fun hc28 => ?_)
   ·skip
    refine D_seq fun K6 hK6 => ?_
    refine D_le (σ' := mkStI 82 [] [] [] []) (by
     refine Le.mkJ [] [] rfl ?_ ?_ trivial trivial ?_
     ·exact trivial
     ·exact trivial
     ·kernel_rfl) ?_
    refine D_region ?_
    refine DL_c (op_as _ (rfl : _ = AV.v (.slice _ _ _))) ?_
    refine DL_c (op_as _ (rfl : _ = AV.v (.slice _ _ _))) ?_
    refine DL_c (asI rfl) ?_
    refine DL_nil (hK6 _ ?_)
    clear hK6; try clear K6
    refine D_ret ?_
    exact ret3 (.inr rfl) rfl (.tmp (rfl : _ = AV.v _)) (.tmp (rfl : _ = AV.v _)) (.tmp (rfl : _ = AV.v _)) (Le.out [] [] (.tup rfl (lv_cons .nil (lv_cons .nil (lv_cons .v lv_nil)))) rfl rfl rfl trivial trivial)
   ·skip
    exact absurd  hc28 (by omega)
set_option maxHeartbeats 8000000 in
theorem rfind_ok (hscp : ∀ h, h < n → scp (Rn n Ps) n h = upE Ps h) (h : Nat) (hh : h < n) (hs : nst st h = 1) (res : BS × Bool) (hres : res = fnd (Rn n Ps) n (fun v => wat n (parW Ps) (v : Int)) st h (upE Ps h)) :
  Spec Try.prog 74 (inSt [.sl n (nrows Ps), .v (.int .i64 (h : Int)), .sl n (isl st)] [])
   (outSt (if res.2 = true then .tup [.sl res.1.2.length (blR res.1.2), .sl res.1.1.length (nsl res.1.1), .v (.int .i64 0)] else .tup [.sl 0 [], .sl 0 [], .v (.int .i64 42)]) []) := by
 have hn := hG.n64
 have hPl := hG.len
 have hns := nst_eq h012 hst hh
 have hstn : st.getD h 0 = 1 := by rw [← hns]; exact hs
 have htry := rtest_spec (n := n) (Ps := Ps) h st [] (by simp) h
 rw [adN_new (by simp), List.nil_append] at htry
 have hop := fun ord ho => ropen_spec hG h st hst h012 ord ho
 have hscl := upE_len Ps h
 have hscn : ∀ v ∈ upE Ps h, v < n := fun v hv => upE_lt hG hv
 rw [hscp h hh] at hop
 have hpar : ∀ v p : Nat, p ∈ wat n (parW Ps) (v : Int) → p < n := fun v p hp => wat_parlt hG hp
 have hcon := fun ord ho => rcon_spec hG h st hst h012 ord ho
 have hvis := fun v ord => rvisit_spec hG h st hst h012 (n + 1) v ord []
 have hT := fun ord ho p => rtest_spec (n := n) (Ps := Ps) h st ord ho p
 have hch0 := fun ord m l e h1 => rchoose_spec hG h st ord m l e h1
 have hcand := fun ord ho => rcand_spec hG h st hst h012 ord ho
 have hfl := fun v q => vis_flag (cf := fun o => con (Rn n Ps) n o st) (un := unN st) (par := fun v => wat n (parW Ps) (v : Int)) (n + 1) v q
 have hvo := fun {v q} => vis_ok (cf := fun o => con (Rn n Ps) n o st) (un := unN st) (par := fun v => wat n (parW Ps) (v : Int)) (n := n) (fun v _ p hp => hpar v p hp) (k := n + 1) (v := v) (q := q)
 have hc1 := con_one (R := Rn n Ps) hh hs
 generalize upE Ps h = sc at *
 generalize Rn n Ps = R at *
 have hok0 : ok1 n [h] := ⟨by simp, fun v hv => by simp at hv; omega⟩
 unfold fnd at hres
 refine Spec.ofN Try.func74 rfl Try.ntmps74 rfl ?_
 refine D_seq fun K1 hK1 => ?_
 refine D_region ?_
 refine DL_c (op_as _ (rfl : _ = AV.v (.slice _ _ _))) ?_
 refine DL_c (op_as _ (rfl : _ = AV.v (.slice _ _ _))) ?_
 refine DL_c (asI rfl) ?_
 refine DL_nil (hK1 _ ?_)
 clear hK1; try clear K1
 refine D_seq fun K2 hK2 => ?_
 refine D_seq fun K3 hK3 => ?_
 refine D_region ?_
 refine DL_c (mvI rfl) ?_
 refine DL_c (op_lss _ _ rfl rfl rfl) ?_
 refine DL_c (mvB rfl) ?_
 refine DL_caseC (fun hg18 => ?_) (fun hg18 => ?_)
 ·skip
  exact absurd  hg18 (by omega)
 ·skip
  refine DL_cy rfl rfl (mvI rfl) ?_
  refine DL_cy rfl rfl (mvS rfl) ?_
  refine DL_cy rfl rfl (op_lenS _ inferInstance rfl) ?_
  refine DL_cy rfl rfl (op_geq _ _ rfl rfl rfl) ?_
  refine DL_c (op_pick _ _ _ rfl (rfl : _ = AV.v (.bool _))) ?_
  refine DL_nil (hK3 _ ?_)
  clear hK3; try clear K3
  refine D_splitC rfl (fun hc23 => ?_) (fun hc23 => ?_)
  ·skip
   exact absurd  hc23 (by omega)
  ·skip
   refine D_skip (hK2 _ ?_)
   clear hK2; try clear K2
   refine D_seq fun K4 hK4 => ?_
   refine D_seq fun K5 hK5 => ?_
   refine D_region ?_
   refine DL_c (mvS rfl) ?_
   refine DL_c (mvI rfl) ?_
   refine DL_c (op_ixS _ _ inferInstance rfl rfl _ rfl (by omega) (by (simp only [isl_len, bsl_len, psl_len, mrows_len, nsl_len, ws_len, List.length_map, ul_len, psl_len, isl_len, nrows_len, mmap_len, smap_len, dcl_len, blR_len, prL_len, stK_len, inh1_len, st0_len, status32_len]; omega)) (by exact Nat.mul_one _)) ?_
   refine DL_c (op_ldF _ inferInstance rfl (by exact isl_get _ _ (by omega)) rfl) ?_
   refine DL_c (op_neq _ _ rfl rfl rfl) ?_
   refine DL_nil (hK5 _ ?_)
   clear hK5; try clear K5
   refine D_splitC rfl (fun hc28 => ?_) (fun hc28 => ?_)
   ·skip
    exact absurd  hc28 (by omega)
   ·skip
    refine D_skip (hK4 _ ?_)
    clear hK4; try clear K4
    refine D_seq fun K6 hK6 => ?_
    refine D_le (σ' := mkStI 82 [(0, _), (1, _), (2, _)] [] [] []) (by
     refine Le.mkJ [] [] rfl ?_ ?_ trivial trivial ?_
     ·exact ⟨(iS rfl), (iV rfl), (iS rfl), trivial⟩
     ·exact trivial
     ·kernel_rfl) ?_
    refine D_region ?_
    refine DL_c (mvS rfl) ?_
    refine DL_c (mvI rfl) ?_
    refine DL_c (mvS rfl) ?_
    refine DL_c (op_build _ inferInstance rfl (by exact (rfl : _ = some [_, _, _, _]))) ?_
    refine DL_c (mvI rfl) ?_
    refine DL_c (op_callH inferInstance (by repeat' (first | exact argsLv_nil | refine argsLv_cons ?_ ?_ | exact Lv.v | exact Lv.sl | exact Lv.nil | refine Lv.agg rfl ?_ | exact lv_nil | refine lv_cons ?_ ?_)) (htry) rfl rfl) ?_
    refine DL_c (op_alloc (9, 0) inferInstance rfl rfl) ?_
    refine DL_c (op_stB _ _ inferInstance rfl rfl rfl rfl (Nat.le_of_ble_eq_true rfl) rfl) ?_
    refine DL_nil (hK6 _ ?_)
    clear hK6; try clear K6
    refine D_seq fun K7 hK7 => ?_
    refine D_region ?_
    refine DL_c (op_ldBA _ inferInstance rfl rfl rfl rfl) ?_
    refine DL_c (op_callH inferInstance (by repeat' (first | exact argsLv_nil | refine argsLv_cons ?_ ?_ | exact Lv.v | exact Lv.sl | refine Lv.agg rfl ?_ | exact lv_nil | refine lv_cons ?_ ?_)) (hop [h] hok0) rfl rfl) ?_
    refine DL_c (asS rfl) ?_
    refine DL_nil (hK7 _ ?_)
    clear hK7; try clear K7
    refine D_seq fun K8 hK8 => ?_
    refine D_block ?_
    refine D_loopL (α := Nat × List Nat) (fun q => ok1 n q.2 ∧ lop R n st h sc n [h] = lop R n st h sc q.1 q.2 ∧ n ≤ q.2.length + q.1 ∧ con R n q.2 st = false) 82 [(9, _)] [] (fun q => [(10, .sl (opn R n q.2 st h sc).length (nsl (opn R n q.2 st h sc)))]) (fun q => [((9, 0), .box 140 [.sl n (nrows Ps), .v (.int .i64 (h : Int)), .sl n (isl st), .sl q.2.length (nsl q.2)])]) [] [] (fun q => q.1) (n, [h]) ?_ (by
     refine Le.mkJ [] [] rfl ?_ ?_ trivial trivial ?_
     ·exact ⟨(iP rfl), (lvSr (by rfl) (by rfl)), trivial⟩
     ·exact ⟨(obB rfl rfl rfl rfl (lv_cons (lvSr (by rfl) (by rfl)) (lv_cons (lvI (by rfl)) (lv_cons (lvSr (by rfl) (by rfl)) (lv_cons (lvSr (by rfl) (by rfl)) lv_nil))))), trivial⟩
     ·kernel_rfl) ?_
    ·exact ⟨hok0, rfl, by simp, hc1⟩
    intro q hq
    obtain ⟨k, ord⟩ := q
    obtain ⟨hok, hlop, hfu, hcf⟩ := hq
    simp only at hok hlop hfu hcf ⊢
    have hol := hok.len
    obtain ⟨O, hO⟩ : ∃ O, O = opn R n ord st h sc := ⟨_, rfl⟩
    have hOl : O.length ≤ sc.length := by rw [hO]; exact List.length_filter_le _ _
    rw [← hO]
    refine D_seq fun K9 hK9 => ?_
    refine D_seq fun K10 hK10 => ?_
    refine D_region ?_
    refine DL_c (mvS rfl) ?_
    refine DL_c (op_lenS _ inferInstance rfl) ?_
    refine DL_c (op_gtr _ _ rfl rfl rfl) ?_
    refine DL_nil (hK10 _ ?_)
    clear hK10; try clear K10
    refine D_splitC rfl (fun hc39 => ?_) (fun hc39 => ?_)
    ·skip
     have hne : O ≠ [] := by intro e; rw [e] at hc39; simp at hc39
     obtain ⟨hm1, hm2⟩ := chsN_mem (R := R) hne
     have hfew := opn_few (R := R) (st := st) (h := h) hok hscn (hO ▸ hne)
     have hmem := opn_mem (R := R) (n := n) (ord := ord) (st := st) (h := h) (sc := sc) (v := chsN R O) (by rw [← hO]; exact hm1)
     obtain ⟨j, rfl⟩ : ∃ j, k = j + 1 := ⟨k - 1, by omega⟩
     obtain ⟨v, hv⟩ : ∃ v, v = chsN R O := ⟨_, rfl⟩
     rw [← hv] at hm1 hm2 hmem
     have hch := hch0 ord O.length O rfl (by omega)
     rw [hm2] at hch
     have hvn := hscn v hmem.1
     have hok2 := hok.add hvn hmem.2
     have htr2 := hT ord (by omega) v
     rw [adN_new hmem.2] at htr2
     have hcn2 := hcon (ord ++ [v]) hok2
     have hop2 := hop (ord ++ [v]) hok2
     have hstop := lop_stop (R := R) (n := n) (st := st) (h := h) (sc := sc) (k := j) (ord := ord) (hO ▸ hne)
     have hnext := lop_next (R := R) (n := n) (st := st) (h := h) (sc := sc) (k := j) (ord := ord) (hO ▸ hne)
     rw [← hO, ← hv] at hstop hnext
     refine D_skip (hK9 _ ?_)
     clear hK9; try clear K9
     refine D_block ?_
     refine D_seq fun K11 hK11 => ?_
     refine D_anyL 5 [40, 41, 42, 43, 44] [] (by kernel_rfl) (by kernel_rfl) rfl (nodupO_iff rfl) (rfl : _ = [_, _, _, _, _]) (rfl : _ = [_]) ?_
     refine any_c (_, []) (fun τ => op_ldBA _ inferInstance rfl rfl rfl rfl) ?_
     refine any_n (rfl : _ = [_]) ?_
     refine any_c (_, []) (fun τ => op_ldBA _ inferInstance rfl rfl rfl rfl) ?_
     refine any_n (rfl : _ = [_, _]) ?_
     refine any_c (_, []) (fun τ => op_mv _ (rfl : _ = AV.sl _ _)) ?_
     refine any_n (rfl : _ = [_, _, _]) ?_
     refine any_c (_, []) (fun τ => (op_callH inferInstance (by repeat' (first | exact argsLv_nil | refine argsLv_cons ?_ ?_ | exact Lv.v | exact Lv.sl | refine Lv.agg rfl ?_ | exact lv_nil | refine lv_cons ?_ ?_)) (hch) rfl rfl)) ?_
     refine any_n (rfl : _ = [_, _, _, _]) ?_
     refine any_c (_, []) (fun τ => (op_callH inferInstance (by repeat' (first | exact argsLv_nil | refine argsLv_cons ?_ ?_ | exact Lv.v | exact Lv.sl | refine Lv.agg rfl ?_ | exact lv_nil | refine lv_cons ?_ ?_)) (htr2) rfl rfl)) ?_
     refine any_n (rfl : _ = [_, _, _, _, _]) ?_
     refine any_end ⟨rfl, ?_⟩
     refine DL_c (op_stB _ _ inferInstance rfl rfl rfl rfl (Nat.le_of_ble_eq_true rfl) rfl) ?_
     refine DL_nil (hK11 _ ?_)
     clear hK11; try clear K11
     refine D_seq fun K12 hK12 => ?_
     refine D_seq fun K13 hK13 => ?_
     refine D_region ?_
     refine DL_c (op_ldBA _ inferInstance rfl rfl rfl rfl) ?_
     refine DL_c (op_callH inferInstance (by repeat' (first | exact argsLv_nil | refine argsLv_cons ?_ ?_ | exact Lv.v | exact Lv.sl | refine Lv.agg rfl ?_ | exact lv_nil | refine lv_cons ?_ ?_)) (hcn2) rfl rfl) ?_
     refine DL_nil (hK13 _ ?_)
     clear hK13; try clear K13
     refine D_splitC rfl (fun hc46 => ?_) (fun hc46 => ?_)
     ·skip
      refine D_seq fun K14 hK14 => ?_
      refine D_region ?_
      refine DL_c (op_as _ (rfl : _ = AV.v (.slice _ _ _))) ?_
      refine DL_c (op_as _ (rfl : _ = AV.v (.slice _ _ _))) ?_
      refine DL_c (asI rfl) ?_
      refine DL_nil (hK14 _ ?_)
      clear hK14; try clear K14
      refine D_ret ?_
      have e := hlop.trans (hstop hc46)
      rw [e, if_neg (by simp)] at hres
      subst hres
      exact ret3 (.inr rfl) rfl (.tmp (rfl : _ = AV.v _)) (.tmp (rfl : _ = AV.v _)) (.tmp (rfl : _ = AV.v _)) (Le.out [] [] (.tup rfl (lv_cons .nil (lv_cons .nil (lv_cons .v lv_nil)))) rfl rfl rfl trivial trivial)
     ·skip
      have e := hlop.trans (hnext hc46)
      refine D_skip (hK12 _ ?_)
      clear hK12; try clear K12
      refine D_region ?_
      refine DL_c (op_ldBA _ inferInstance rfl rfl rfl rfl) ?_
      refine DL_c (op_callH inferInstance (by repeat' (first | exact argsLv_nil | refine argsLv_cons ?_ ?_ | exact Lv.v | exact Lv.sl | refine Lv.agg rfl ?_ | exact lv_nil | refine lv_cons ?_ ?_)) (hop2) rfl rfl) ?_
      refine DL_c (asS rfl) ?_
      refine DL_nil ?_
      refine ⟨(j, ord ++ [v]), ?_, ?_, ?_⟩
      ·exact ⟨hok2, e, by simp; omega, hc46⟩
      ·skip
       refine Le.mkJ [] [] rfl ?_ ?_ trivial trivial ?_
       ·exact ⟨(iP rfl), (lvSr (by rfl) (by rfl)), trivial⟩
       ·exact ⟨(obB rfl rfl rfl rfl (lv_cons (lvSr (by rfl) (by rfl)) (lv_cons (lvI (by rfl)) (lv_cons (lvSr (by rfl) (by rfl)) (lv_cons (lvSr (by rfl) (by rfl)) lv_nil))))), trivial⟩
       ·kernel_rfl
      ·exact Nat.lt_succ_self j
    ·skip
     have hO0 : O = [] := List.eq_nil_of_length_eq_zero (by omega)
     have e := hlop.trans (lop_done k (hO ▸ hO0))
     rw [e, if_pos rfl] at hres
     simp only at hres
     clear hO hO0 hlop e htry hop
     have hcnd := hcand ord hok
     have hcl : ∀ v ∈ cnd R n ord st, v < n := fun v hv => (cnd_lt hv).1
     have hcn : (cnd R n ord st).length ≤ n := Nat.le_trans (List.length_filter_le _ _) (tst_len n ord st 1)
     have hvl := fun (C : List Nat) (hC : ∀ v ∈ C, v < n) i => bls_inv (R := R) (par := fun v => wat n (parW Ps) (v : Int)) (n := n) (st := st) (fun v _ p hp => hpar v p hp) (T := fun _ => True) (fun _ _ _ _ => trivial) (l := C.take i) (q := (ord, [])) (fun v hv => ⟨hC v (List.mem_of_mem_take hv), trivial⟩) hok (fun _ _ => trivial)
     generalize cnd R n ord st = C at *
     have hvl := hvl C hcl
     obtain ⟨bst, hbst⟩ : ∃ s, s = bstep (vsF R n (fun v => wat n (parW Ps) (v : Int)) st) n := ⟨_, rfl⟩
     have hbl := fun i => bls_len (vs := vsF R n (fun v => wat n (parW Ps) (v : Int)) st) (n := n) (C.take i) (ord, [])
     rw [← hbst] at hres hvl hbl
     obtain ⟨Q, hQ⟩ : ∃ Q : Nat → BS, Q = fun i => (vlist bst (C.take i) (ord, [])).1 := ⟨_, rfl⟩
     have hQi : ∀ i, (vlist bst (C.take i) (ord, [])).1 = Q i := fun i => by rw [hQ]
     have hQ0 : Q 0 = (ord, []) := by rw [hQ]; rfl
     simp only [hQi] at hvl hbl
     have hsuc : ∀ i, i < C.length → (vlist bst (C.take i) (ord, [])).2 = true → vlist bst (C.take (i + 1)) (ord, []) = bst (C.getD i 0) (Q i) := fun i hi ht => by rw [vlist_succ hi ht, hQi]
     have hret : ∀ i, i < C.length → (vlist bst (C.take i) (ord, [])).2 = true → (bst (C.getD i 0) (Q i)).2 = false → res = bst (C.getD i 0) (Q i) := fun i hi ht hf => by
      have e := hsuc i hi ht
      rw [hres, vlist_stop (i := i + 1) (by rw [e]; exact hf), e]
     have hnx : ∀ i, i < C.length → (vlist bst (C.take i) (ord, [])).2 = true → (bst (C.getD i 0) (Q i)).2 = true → (vlist bst (C.take (i + 1)) (ord, [])).2 = true ∧ Q (i + 1) = (bst (C.getD i 0) (Q i)).1 := fun i hi ht hf => by
      have e := hsuc i hi ht
      refine ⟨by rw [e]; exact hf, ?_⟩
      rw [← hQi, e]
     have hend : (vlist bst (C.take C.length) (ord, [])).2 = true → res = (Q C.length, true) := fun ht => by
      rw [hres, ← hQi]
      rw [List.take_length] at ht ⊢
      exact Prod.ext rfl ht
     refine D_exit ?_
     refine id (hK8 _ ?_)
     clear hK8; try clear K8
     refine D_seq fun K15 hK15 => ?_
     refine D_region ?_
     refine DL_c (op_asN (11, 0) _ 77 2 rfl rfl) ?_
     refine DL_nil (hK15 _ ?_)
     clear hK15; try clear K15
     refine D_seq fun K16 hK16 => ?_
     refine D_region ?_
     refine DL_c (op_ldBA _ inferInstance rfl rfl rfl rfl) ?_
     refine DL_c (op_callH inferInstance (by repeat' (first | exact argsLv_nil | refine argsLv_cons ?_ ?_ | exact Lv.v | exact Lv.sl | refine Lv.agg rfl ?_ | exact lv_nil | refine lv_cons ?_ ?_)) (hcnd) rfl rfl) ?_
     refine DL_c (asS rfl) ?_
     refine DL_nil (hK16 _ ?_)
     clear hK16; try clear K16
     refine D_seq fun K17 hK17 => ?_
     refine D_seq fun K18 hK18 => ?_
     refine D_region ?_
     refine DL_c (asI rfl) ?_
     refine DL_nil (hK18 _ ?_)
     clear hK18; try clear K18
     refine D_block ?_
     refine D_loopL (α := Nat) (fun i => i ≤ C.length ∧ (vlist bst (C.take i) (ord, [])).2 = true ∧ con R n (Q i).1 st = false) 82 [(9, _), (12, _)] [] (fun i => [(13, .v (.int .i64 (i : Int))), (11, .ref (11, 0) 0 (Q i).2.length)]) (fun i => [((9, 0), .box 140 [.sl n (nrows Ps), .v (.int .i64 (h : Int)), .sl n (isl st), .sl (Q i).1.length (nsl (Q i).1)]), ((11, 0), .row 77 2 (blR (Q i).2))]) [] [] (fun i => C.length - i) 0 ?_ (by
      refine Le.mkJ [] [] rfl ?_ ?_ trivial trivial ?_
      ·exact ⟨(iP rfl), (iS rfl), (lvI (by rfl)), (lvRr rfl (by (rw [hQ0] <;> rfl))), trivial⟩
      ·exact ⟨(obB rfl rfl rfl rfl (lv_cons (lvSr (by rfl) (by rfl)) (lv_cons (lvI (by rfl)) (lv_cons (lvSr (by rfl) (by rfl)) (lv_cons (lvSr (by (rw [hQ0] <;> rfl)) (by (rw [hQ0] <;> rfl))) lv_nil))))), (obR rfl rfl rfl (by (rw [hQ0] <;> rfl))), trivial⟩
      ·kernel_rfl) ?_
     ·exact ⟨Nat.zero_le _, rfl, by rw [hQ0]; exact hcf⟩
     intro i hi
     obtain ⟨hi, ht, hcf⟩ := hi
     obtain ⟨hk1, _, _⟩ := hvl i
     have hk1l := hk1.len
     have hQl := hbl i ht
     rw [List.length_take, Nat.min_eq_left hi] at hQl
     have hQs := hret i
     have hQn := hnx i
     obtain ⟨o, hoq⟩ : ∃ o, o = (Q i).1 := ⟨_, rfl⟩
     obtain ⟨u, huq⟩ : ∃ u, u = (Q i).2 := ⟨_, rfl⟩
     have hou : Q i = (o, u) := Prod.ext hoq.symm huq.symm
     rw [hou] at hQs hQn
     rw [← hoq] at hk1 hk1l hcf
     rw [← huq] at hQl
     simp only [List.length_nil, Nat.zero_add] at hQl
     rw [← hoq, ← huq]
     refine D_seq fun K19 hK19 => ?_
     refine D_seq fun K20 hK20 => ?_
     refine D_region ?_
     refine DL_c (mvI rfl) ?_
     refine DL_c (mvS rfl) ?_
     refine DL_c (op_lenS _ inferInstance rfl) ?_
     refine DL_c (op_lss _ _ rfl rfl rfl) ?_
     refine DL_nil (hK20 _ ?_)
     clear hK20; try clear K20
     refine D_splitC rfl (fun hc54 => ?_) (fun hc54 => ?_)
     ·skip
      obtain ⟨v, hv⟩ : ∃ v, v = C.getD i 0 := ⟨_, rfl⟩
      have hvn : v < n := hv ▸ hcl _ (getD_mem (by omega))
      have hQs := hQs (by omega) ht
      have hQn := hQn (by omega) ht
      rw [← hv] at hQs hQn
      have hsu := hvis v o hvn hk1 ⟨List.nodup_nil, fun v hv => by simp at hv⟩ (by simp) hcf
      have hbs : bst v (o, u) = if (vis (fun o => con R n o st) (unN st) (fun v => wat n (parW Ps) (v : Int)) (n + 1) v (o, [])).2 = true then (((vis (fun o => con R n o st) (unN st) (fun v => wat n (parW Ps) (v : Int)) (n + 1) v (o, [])).1.1, u ++ [(v, fil n (vis (fun o => con R n o st) (unN st) (fun v => wat n (parW Ps) (v : Int)) (n + 1) v (o, [])).1.2)]), true) else (((vis (fun o => con R n o st) (unN st) (fun v => wat n (parW Ps) (v : Int)) (n + 1) v (o, [])).1.1, u), false) := by rw [hbst]; rfl
      have hfv := hfl v (o, []) hcf
      obtain ⟨hro, hru, _, _⟩ := hvo hvn (q := (o, [])) hk1 ⟨List.nodup_nil, fun v hv => by simp at hv⟩
      generalize vis (fun o => con R n o st) (unN st) (fun v => wat n (parW Ps) (v : Int)) (n + 1) v (o, []) = r at hsu hbs hfv hro hru
      obtain ⟨⟨ro, ru⟩, rb⟩ := r
      simp only at hsu hbs hfv hro hru
      have hrul := hru.len
      have hcr := hcon ro hro
      have hso0 := sorted_spec ru.length (ru.map fun (x : Nat) => (x : Int)) (by simp) (by omega)
      have hfs := fil_srt hru
      rw [ssrt_srt, hfs] at hso0
      have hfl2 : (fil n ru).length = ru.length := by
       have := congrArg List.length hfs
       rw [isl_len, (srt_perm _).length_eq, List.length_map, nsl_len] at this
       exact this.symm
      have hso : Spec Try.prog 67 (inSt [.sl ru.length (nsl ru)] []) (outSt (.sl (fil n ru).length (nsl (fil n ru))) []) := by
       rw [hfl2]
       exact hso0
      generalize fil n ru = fu at hso hbs hfs
      clear hfl2 hfs hso0
      refine D_skip (hK19 _ ?_)
      clear hK19; try clear K19
      refine D_seq fun K21 hK21 => ?_
      refine D_block ?_
      refine D_seq fun K22 hK22 => ?_
      refine D_le (σ' := mkStI 82 [(9, _), (11, _), (12, _), (13, _)] [((9, 0), _), ((11, 0), _)] [] []) (by
       refine Le.mkJ [] [] rfl ?_ ?_ trivial trivial ?_
       ·exact ⟨(iP rfl), (iR rfl), (iS rfl), (iV rfl), trivial⟩
       ·exact ⟨(obE rfl rfl rfl), (obE rfl rfl rfl), trivial⟩
       ·kernel_rfl) ?_
      refine D_anyCL 11 [58, 59, 60, 61, 62, 63, 57, 64, 65, 14] [(14, 0), (14, 0)] (by kernel_rfl) (by kernel_rfl) rfl (rfl : _ = [_, _, _, _, _, _, _, _, _, _, _]) (rfl : _ = [_]) ?_
      refine anyC_c (_, []) (fun τ => op_ldBA _ inferInstance rfl rfl rfl rfl) ?_
      refine anyC_n (rfl : _ = [_]) ?_
      refine anyC_c (_, []) (fun τ => op_mv _ (rfl : _ = AV.sl _ _)) ?_
      refine anyC_n (rfl : _ = [_, _]) ?_
      refine anyC_c (_, []) (fun τ => op_mv _ (rfl : _ = AV.v (.int _ _))) ?_
      refine anyC_n (rfl : _ = [_, _, _]) ?_
      refine anyC_c (_, []) (fun τ => op_ixS _ _ inferInstance rfl rfl _ rfl (by omega) (by (simp only [isl_len, bsl_len, psl_len, mrows_len, nsl_len, ws_len, List.length_map, ul_len, psl_len, isl_len, nrows_len, mmap_len, smap_len, dcl_len, blR_len, prL_len, stK_len, inh1_len, st0_len, status32_len]; omega)) (by exact Nat.mul_one _)) ?_
      refine anyC_n (rfl : _ = [_, _, _, _]) ?_
      refine anyC_c (_, []) (fun τ => op_ldF _ inferInstance rfl (by exact (nsl_get _ _ (by omega)).trans (by rw [← hv])) rfl) ?_
      refine anyC_n (rfl : _ = [_, _, _, _, _]) ?_
      refine anyC_c (_, []) (fun τ => (op_callH inferInstance (by repeat' (first | exact argsLv_nil | refine argsLv_cons ?_ ?_ | exact Lv.v | exact Lv.sl | exact Lv.nil | refine Lv.agg rfl ?_ | exact lv_nil | refine lv_cons ?_ ?_)) (hsu) rfl rfl)) ?_
      refine anyC_n (rfl : _ = [_, _, _, _, _, _]) ?_
      refine anyC_c (_, []) (fun τ => op_mv _ (rfl : _ = AV.tup _)) ?_
      refine anyC_n (rfl : _ = [_, _, _, _, _, _, _]) ?_
      refine anyC_c (_, []) (fun τ => op_ext _ rfl (rfl : _ = some (AV.agg _))) ?_
      refine anyC_n (rfl : _ = [_, _, _, _, _, _, _, _]) ?_
      refine anyC_c (_, []) (fun τ => op_ext _ rfl (rfl : _ = some (AV.sl _ _))) ?_
      refine anyC_n (rfl : _ = [_, _, _, _, _, _, _, _, _]) ?_
      refine anyC_c (_, [((14, 0), _)]) (fun τ => op_alloc (14, 0) inferInstance rfl rfl) ?_
      refine anyC_n (rfl : _ = [_, _, _, _, _, _, _, _, _, _]) ?_
      refine anyC_c (_, [((14, 0), _)]) (fun τ => op_stB _ _ inferInstance rfl rfl rfl rfl (Nat.le_of_ble_eq_true rfl) rfl) ?_
      refine anyC_n (rfl : _ = [_, _, _, _, _, _, _, _, _, _, _]) ?_
      refine anyC_end ⟨⟨rfl, by kernel_rfl, by kernel_rfl⟩, ?_⟩
      refine DL_c (asS rfl) ?_
      refine DL_nil (hK22 _ ?_)
      clear hK22; try clear K22
      refine D_seq fun K23 hK23 => ?_
      refine D_region ?_
      refine DL_c (op_ldBA _ inferInstance rfl rfl rfl rfl) ?_
      refine DL_c (op_stB _ _ inferInstance rfl rfl rfl rfl (Nat.le_of_ble_eq_true rfl) rfl) ?_
      refine DL_nil (hK23 _ ?_)
      clear hK23; try clear K23
      refine D_seq fun K24 hK24 => ?_
      refine D_seq fun K25 hK25 => ?_
      refine D_region ?_
      refine DL_c (op_ldBA _ inferInstance rfl rfl rfl rfl) ?_
      refine DL_c (op_callH inferInstance (by repeat' (first | exact argsLv_nil | refine argsLv_cons ?_ ?_ | exact Lv.v | exact Lv.sl | refine Lv.agg rfl ?_ | exact lv_nil | refine lv_cons ?_ ?_)) (hcr) rfl rfl) ?_
      refine DL_nil (hK25 _ ?_)
      clear hK25; try clear K25
      refine D_splitC rfl (fun hc68 => ?_) (fun hc68 => ?_)
      ·skip
       refine D_seq fun K26 hK26 => ?_
       refine D_le (σ' := mkStI 82 [] [] [] []) (by
        refine Le.mkJ [] [] rfl ?_ ?_ trivial trivial ?_
        ·exact trivial
        ·exact trivial
        ·kernel_rfl) ?_
       refine D_region ?_
       refine DL_c (op_as _ (rfl : _ = AV.v (.slice _ _ _))) ?_
       refine DL_c (op_as _ (rfl : _ = AV.v (.slice _ _ _))) ?_
       refine DL_c (asI rfl) ?_
       refine DL_nil (hK26 _ ?_)
       clear hK26; try clear K26
       refine D_ret ?_
       have hrb : rb = false := by rw [hfv, hc68]; rfl
       rw [hrb, if_neg (by simp)] at hbs
       rw [hbs] at hQs
       have hr := hQs rfl
       subst hr
       exact ret3 (.inr rfl) rfl (.tmp (rfl : _ = AV.v _)) (.tmp (rfl : _ = AV.v _)) (.tmp (rfl : _ = AV.v _)) (Le.out [] [] (.tup rfl (lv_cons .nil (lv_cons .nil (lv_cons .v lv_nil)))) rfl rfl rfl trivial trivial)
      ·skip
       have hrb : rb = true := by rw [hfv, hc68]; rfl
       rw [hrb, if_pos rfl] at hbs
       rw [hbs] at hQn
       have hq := hQn rfl
       refine D_skip (hK24 _ ?_)
       clear hK24; try clear K24
       refine D_le (σ' := mkStI 82 [(9, _), (11, _), (12, _), (13, _), (15, _)] [((9, 0), _), ((11, 0), _)] [] []) (by
        refine Le.mkJ [] [] rfl ?_ ?_ trivial trivial ?_
        ·exact ⟨(iP rfl), (iR rfl), (iS rfl), (iV rfl), (iS rfl), trivial⟩
        ·exact ⟨(obE rfl rfl rfl), (obE rfl rfl rfl), trivial⟩
        ·kernel_rfl) ?_
       refine D_anyL 10 [69, 70, 71, 72, 73, 74, 75, 76, 77, 78] [(11, 0), (78, 0)] (by kernel_rfl) (by kernel_rfl) rfl (nodupO_iff rfl) (rfl : _ = [_, _, _, _, _, _, _, _, _, _]) (rfl : _ = [_]) ?_
       refine any_c (_, []) (fun τ => op_mv _ (rfl : _ = AV.ref _ _ _)) ?_
       refine any_n (rfl : _ = [_]) ?_
       refine any_c (_, []) (fun τ => op_mv _ (rfl : _ = AV.sl _ _)) ?_
       refine any_n (rfl : _ = [_, _]) ?_
       refine any_c (_, []) (fun τ => op_mv _ (rfl : _ = AV.v (.int _ _))) ?_
       refine any_n (rfl : _ = [_, _, _]) ?_
       refine any_c (_, []) (fun τ => op_ixS _ _ inferInstance rfl rfl _ rfl (by omega) (by (simp only [isl_len, bsl_len, psl_len, mrows_len, nsl_len, ws_len, List.length_map, ul_len, psl_len, isl_len, nrows_len, mmap_len, smap_len, dcl_len, blR_len, prL_len, stK_len, inh1_len, st0_len, status32_len]; omega)) (by exact Nat.mul_one _)) ?_
       refine any_n (rfl : _ = [_, _, _, _]) ?_
       refine any_c (_, []) (fun τ => op_ldF _ inferInstance rfl (by exact (nsl_get _ _ (by omega)).trans (by rw [← hv])) rfl) ?_
       refine any_n (rfl : _ = [_, _, _, _, _]) ?_
       refine any_c (_, []) (fun τ => op_mv _ (rfl : _ = AV.sl _ _)) ?_
       refine any_n (rfl : _ = [_, _, _, _, _, _]) ?_
       refine any_c (_, []) (fun τ => (op_callH inferInstance (by repeat' (first | exact argsLv_nil | refine argsLv_cons ?_ ?_ | exact Lv.sl)) (hso) rfl rfl)) ?_
       refine any_n (rfl : _ = [_, _, _, _, _, _, _]) ?_
       refine any_c (_, []) (fun τ => op_build _ inferInstance rfl (by exact (rfl : _ = some [AV.v _, AV.sl _ _]))) ?_
       refine any_n (rfl : _ = [_, _, _, _, _, _, _, _]) ?_
       refine any_c (_, []) (fun τ => op_bsF _ _ inferInstance rfl (by rfl) (by simp <;> rfl) (by decide) rfl) ?_
       refine any_n (rfl : _ = [_, _, _, _, _, _, _, _, _]) ?_
       refine any_c (_, [((11, 0), .gone), ((78, 0), _)]) (fun τ => op_apN (78, 0) _ _ inferInstance rfl (mix_own rfl (by exact inO_head) rfl) (by rw [blR_len]) (.sl rfl) (by omega) rfl rfl rfl (blR_app _ _ _) (show u.length + 1 = (u ++ [(v, fu)]).length by simp)) ?_
       refine any_n (rfl : _ = [_, _, _, _, _, _, _, _, _, _]) ?_
       refine any_end ⟨rfl, ?_⟩
       refine DL_c (asR rfl) ?_
       refine DL_nil (hK21 _ ?_)
       clear hK21; try clear K21
       refine D_region ?_
       refine DL_c (mvI rfl) ?_
       refine DL_c (op_add _ _ rfl rfl (i64w (by omega))) ?_
       refine DL_c (asI rfl) ?_
       refine DL_nil ?_
       refine ⟨i + 1, ?_, ?_, ?_⟩
       ·exact ⟨by omega, hq.1, by rw [hq.2]; exact hc68⟩
       ·skip
        refine Le.mkJ [((11, 0), (78, 0))] [] rfl ?_ ?_ trivial trivial ?_
        ·exact ⟨(lvPr (id := (9, 0)) rfl), (by repeat' (exact Lv.sl)), (lvI (by rfl)), (lvRr rfl (by (rw [hq.2]))), trivial⟩
        ·exact ⟨(obB rfl rfl rfl rfl (lv_cons (lvSr (by rfl) (by rfl)) (lv_cons (lvI (by rfl)) (lv_cons (lvSr (by rfl) (by rfl)) (lv_cons (lvSr (by (rw [hq.2])) (by (rw [hq.2]))) lv_nil))))), (obR rfl rfl rfl (by (rw [hq.2]))), trivial⟩
        ·kernel_rfl
       ·omega
     ·skip
      obtain rfl : i = C.length := by omega
      have hr := hend ht
      rw [hou] at hr
      subst hr
      refine D_exit ?_
      refine id (hK17 _ ?_)
      clear hK17; try clear K17
      refine D_seq fun K27 hK27 => ?_
      refine D_le (σ' := mkStI 82 [(9, _), (11, _)] [((9, 0), _), ((11, 0), _)] [] []) (by
       refine Le.mkJ [] [] rfl ?_ ?_ trivial trivial ?_
       ·exact ⟨(iP rfl), (iR rfl), trivial⟩
       ·exact ⟨(obE rfl rfl rfl), (obE rfl rfl rfl), trivial⟩
       ·kernel_rfl) ?_
      refine D_anyL 6 [79, 80, 81, 6, 7, 8] [] (by kernel_rfl) (by kernel_rfl) rfl (nodupO_iff rfl) (rfl : _ = [_, _, _, _, _, _]) (rfl : _ = []) ?_
      refine any_c (_, []) (fun τ => op_mv _ (rfl : _ = AV.ref _ _ _)) ?_
      refine any_n (rfl : _ = [_]) ?_
      refine any_c (_, []) (fun τ => op_fldP _ inferInstance rfl rfl rfl) ?_
      refine any_n (rfl : _ = [_, _]) ?_
      refine any_c (_, []) (fun τ => op_ldB _ inferInstance rfl rfl (rfl : _ = some (AV.sl _ _))) ?_
      refine any_n (rfl : _ = [_, _, _]) ?_
      refine any_c (_, []) (fun τ => op_as _ (rfl : _ = AV.ref _ _ _)) ?_
      refine any_n (rfl : _ = [_, _, _, _]) ?_
      refine any_c (_, []) (fun τ => op_as _ (rfl : _ = AV.sl _ _)) ?_
      refine any_n (rfl : _ = [_, _, _, _, _]) ?_
      refine any_c (_, []) (fun τ => op_as _ (rfl : _ = AV.v (.int _ _))) ?_
      refine any_n (rfl : _ = [_, _, _, _, _, _]) ?_
      refine any_end ⟨rfl, ?_⟩
      refine DL_nil (hK27 _ ?_)
      clear hK27; try clear K27
      refine D_ret ?_
      exact ret3 (.inr rfl) rfl (.tmp (rfl : _ = AV.ref _ _ _)) (.tmp (rfl : _ = AV.sl _ _)) (.tmp (rfl : _ = AV.v _)) (Le.out [] [(11, 0)] (.tup rfl (lv_cons (frz0 rfl rfl (by rw [blR_len]) rfl) (lv_cons .sl (lv_cons .v lv_nil)))) rfl rfl rfl ⟨rfl, trivial⟩ trivial)
end
end Go.Proofs.Ytkbkmngbenohkaa
