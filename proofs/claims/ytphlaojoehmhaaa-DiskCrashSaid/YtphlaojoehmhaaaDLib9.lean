/- The machine's rule for a region that draws its order: the proof. No program text. -/
import Derived.Test.YtphlaojoehmhaaaDLib8
set_option linter.unusedSimpArgs false
set_option linter.unusedVariables false
namespace Go.Proofs.Ytphlaojoehmhaaa
open Go.RowKit

theorem made_mem : ∀ {rs : List Res} {j : Nat} {r : Res} {i : Oid} {c : Cells}, rs[j]? = some r → r.2 = some (i, c) → i ∈ made rs
  | [], j, r, i, c, h, _ => by simp at h
  | (a, x) :: l, 0, r, i, c, h, h2 => by
    simp at h; subst h
    simp only at h2; subst h2
    simp [made]
  | (a, x) :: l, j + 1, r, i, c, h, h2 => by
    have := made_mem (rs := l) (j := j) (by simpa using h) h2
    obtain _ | ⟨k, d⟩ := x <;> simp [made, this]
theorem made_inj : ∀ {rs : List Res}, (made rs).Nodup → ∀ {j k : Nat} {r s : Res} {i : Oid} {c d : Cells}, rs[j]? = some r → rs[k]? = some s → r.2 = some (i, c) → s.2 = some (i, d) → j = k
  | [], _, j, k, r, s, i, c, d, h, _, _, _ => by simp at h
  | (a, x) :: l, hn, j, k, r, s, i, c, d, hj, hk, h1, h2 => by
    have hn' : (made l).Nodup := by
      obtain _ | ⟨m, q⟩ := x
      · exact hn
      · exact (List.nodup_cons.1 hn).2
    match j, k with
    | 0, 0 => rfl
    | 0, k + 1 =>
      exfalso
      simp at hj; subst hj
      simp only at h1; subst h1
      exact (List.nodup_cons.1 hn).1 (made_mem (by simpa using hk) h2)
    | j + 1, 0 =>
      exfalso
      simp at hk; subst hk
      simp only at h2; subst h2
      exact (List.nodup_cons.1 hn).1 (made_mem (by simpa using hj) h1)
    | j + 1, k + 1 => exact congrArg (· + 1) (made_inj (rs := l) (j := j) (k := k) (r := r) (s := s) hn' (by simpa using hj) (by simpa using hk) h1 h2)

theorem AnyOps.get {P : Program} {all : List Oper} {W : List Nat} {I : List Oid} {σ : St} {Kont : List Res → Prop} : ∀ (os : List Oper) (rs0 : List Res), AnyOps P all W I σ Kont os rs0 →
    ∃ rs, rs.length = rs0.length + os.length ∧ rs.take rs0.length = rs0 ∧ Kont rs ∧ ∀ (j : Nat) (o : Oper) (r : Res), os[j]? = some o → rs[rs0.length + j]? = some r → AnyOp P all W I σ (rs.take (rs0.length + j)) o r
  | [], rs0, h => ⟨rs0, by simp, by simp, h, by simp⟩
  | o :: os, rs0, ⟨r, h1, h2⟩ => by
    obtain ⟨rs, a, b, c, d⟩ := AnyOps.get os (rs0 ++ [r]) h2
    simp only [List.length_append, List.length_cons, List.length_nil] at a b d
    have ht : rs.take rs0.length = rs0 := by
      have := congrArg (fun l => l.take rs0.length) b
      simpa [List.take_take] using this
    have hr : rs[rs0.length]? = some r := by
      have := congrArg (fun l => l[rs0.length]?) b
      simp only [List.getElem?_take] at this
      rw [if_pos (by omega)] at this
      rw [this]; simp
    refine ⟨rs, by simp; omega, ht, c, fun j o' r' ho hr' => ?_⟩
    cases j with
    | zero =>
      simp at ho; subst ho
      simp only [Nat.add_zero] at hr' ⊢
      rw [hr] at hr'
      obtain rfl := Option.some.inj hr'
      rw [ht]; exact h1
    | succ j =>
      have := d j o' r' (by simpa using ho) (by rw [← hr']; congr 1; omega)
      rwa [show rs0.length + (0 + 1) + j = rs0.length + (j + 1) by omega] at this

theorem ons_all : ∀ {l : List Edge}, (∀ e ∈ l, Region.binds .any e = true) → Edge.ons l = l.map (·.on)
  | [], _ => rfl
  | e :: l, h => by
    simp only [Edge.ons, h e List.mem_cons_self, cond_true, List.map_cons]
    rw [ons_all fun e he => h e (List.mem_cons_of_mem _ he)]

theorem D_any {P : Program} {Q : Exit → St → Prop} {σ : St} {id : Nat} {l : List Oper} (n : Nat) (W : List Nat) (I : List Oid) (hm : P.follows .mixedOrders = true) (hB : headB l.toArray n = true) (hW : (l.take n).filterMap (·.dst) = W) (hI : I.Nodup)
    (h : AnyOps P (l.take n) W I σ (fun rs => made rs = I ∧ DL P l.toArray Q (l.drop n) (stOf (l.take n) rs (fun _ => true) 0 σ)) (l.take n) []) : D P (.region id l.toArray true) Q σ := by
  obtain ⟨rs, hrl, _, ⟨hmd, hend⟩, hops⟩ := AnyOps.get _ _ h
  simp only [List.length_nil, Nat.zero_add] at hrl hops
  subst hmd; subst hW
  intro K a0 w0 ⟨ι0, S0, R0⟩
  simp only [headB, Bool.and_eq_true, decide_eq_true_eq, Bool.or_eq_true, List.all_eq_true, List.mem_range] at hB
  obtain ⟨⟨⟨⟨hn, hsc⟩, hseq⟩, hedge⟩, hdst⟩ := hB
  have hsz : l.toArray.size = l.length := by simp
  have htk : (l.take n).length = n := by rw [List.length_take]; omega
  rw [htk] at hrl
  have hgetT : ∀ (j : Nat) (o : Oper), j < n → l.toArray[j]? = some o → (l.take n)[j]? = some o := by
    intro j o hj ho
    rw [List.getElem?_take, if_pos hj]
    simpa using ho
  have hd : ∀ (j : Nat) (oj : Oper), (l.take n)[j]? = some oj → ∀ (i : Nat) (oi : Oper), (l.take n)[i]? = some oi → i ≠ j → ∀ x, oj.dst = some x → oi.dst ≠ some x := by
    intro j oj hj i oi hi hne x hx hx'
    have hjn := (List.getElem?_eq_some_iff.1 hj).1
    have hin := (List.getElem?_eq_some_iff.1 hi).1
    rw [htk] at hjn hin
    have h := hdst i hin j hjn
    rw [List.getElem?_take, if_pos hjn] at hj
    rw [List.getElem?_take, if_pos hin] at hi
    have hi' : l.toArray[i]? = some oi := by simpa using hi
    have hj' : l.toArray[j]? = some oj := by simpa using hj
    rw [hi', hj'] at h
    simp [hne, hx, hx'] at h
  let stL : Array Bool → St := fun listed => stOf (l.take n) rs (fun k => listed.getD k false) 0 σ
  -- the state as the operation j may count on it
  have hmix : ∀ (listed : Array Bool) (j : Nat) (oj : Oper) (rj : Res), (l.take n)[j]? = some oj → rs[j]? = some rj → listed.getD j false = false → (∀ k ∈ Edge.ons oj.after.toList, listed.getD k false = true) →
      ∀ own : Option Oid, (own = none → rj.2 = none) → (∀ i, own = some i → ∃ c, rj.2 = some (i, c)) →
      mixSt σ ((l.take n).filterMap (·.dst)) (made rs) own (l.take n) (rs.take j) (Edge.ons oj.after.toList) (stL listed) = stL listed := by
    intro listed j oj rj hoj hrj hun hdl own hown1 hown2
    refine St.eq (Eq.trans (b := σ.n) rfl (stOf_n _ _ _ _).symm) (fun t => ?_) (fun i => ?_) (Eq.trans (b := σ.inc) rfl (stOf_inc _ _ _ _).symm) (Eq.trans (b := σ.pin) rfl (stOf_pin _ _ _ _).symm)
    · simp only [mixSt]
      cases hdf : depFr (l.take n) (rs.take j) (Edge.ons oj.after.toList) 0 t with
      | some a =>
        obtain ⟨k, o, r, h1, h2, h3, h4, h5⟩ := depFr_some hdf
        rw [List.getElem?_take] at h2
        split at h2
        · simp only [Nat.zero_add] at h3
          rw [h5]
          exact (stOf_frB _ _ 0 σ k o r h1 h2 (by simpa using hdl k h3) h4 fun i o' ho' hne => hd k o h1 i o' ho' hne t h4).symm
        · cases h2
      | none =>
        simp only
        cases hin : inL t ((l.take n).filterMap (·.dst)) with
        | true => rfl
        | false =>
          simp only [cond_false]
          refine (stOf_frA _ _ 0 σ fun k o r ho hr hl hdo => ?_).symm
          have : t ∈ (l.take n).filterMap (·.dst) := List.mem_filterMap.2 ⟨o, List.mem_of_getElem? ho, hdo⟩
          rw [inL_iff.2 this] at hin
          cases hin
    · simp only [mixSt]
      cases hdo : depOb (rs.take j) (Edge.ons oj.after.toList) 0 i with
      | some c =>
        obtain ⟨k, r, h2, h3, h4⟩ := depOb_some hdo
        rw [List.getElem?_take] at h2
        split at h2
        · rename_i hkj
          simp only [Nat.zero_add] at h3
          have hkn : k < (l.take n).length := by have := (List.getElem?_eq_some_iff.1 hoj).1; omega
          exact (stOf_obB _ _ 0 σ k _ r (List.getElem?_eq_getElem hkn) h2 (by simpa using hdl k h3) h4 fun m r' hr' hne c' hc' => hne (made_inj hI hr' h2 hc' h4)).symm
        · cases h2
      | none =>
        simp only
        cases hc : (inO i (made rs) && !(ownB own i)) with
        | true => rfl
        | false =>
          simp only [cond_false]
          refine (stOf_obA _ _ 0 σ fun k o r ho hr hl c hc' => ?_).symm
          have hmem : i ∈ made rs := made_mem hr hc'
          rw [inO_iff.2 hmem] at hc
          simp only [Bool.true_and, Bool.not_eq_false'] at hc
          cases own with
          | none => simp [ownB] at hc
          | some i' =>
            simp only [ownB] at hc
            obtain rfl := oeq_iff.1 hc
            obtain ⟨c2, hc2⟩ := hown2 i rfl
            have := made_inj hI hr hrj hc' hc2
            subst this
            simp only [Nat.zero_add] at hl
            rw [hl] at hun
            cases hun
  have hset : ∀ (listed : Array Bool) (j : Nat) (oj : Oper) (rj : Res), j < listed.size → (l.take n)[j]? = some oj → rs[j]? = some rj → listed.getD j false = false → stL (listed.setIfInBounds j true) = rj.app oj.dst (stL listed) := by
    intro listed j oj rj hjs hoj hrj hun
    have hL : ∀ k, (listed.setIfInBounds j true).getD k false = if k = j then true else listed.getD k false := by
      intro k
      by_cases h : k = j
      · subst h; simp [hjs]
      · rw [if_neg h, getD_set_ne false (Ne.symm h)]
    refine St.eq ((stOf_n _ _ _ _).trans ((app_n _ _ _).trans (stOf_n _ _ _ _)).symm) (fun t => ?_) (fun i => ?_) ((stOf_inc _ _ _ _).trans ((app_inc _ _ _).trans (stOf_inc _ _ _ _)).symm) ((stOf_pin _ _ _ _).trans ((app_pin _ _ _).trans (stOf_pin _ _ _ _)).symm)
    · by_cases ht : oj.dst = some t
      · rw [ht, app_fr_eq]
        exact stOf_frB _ _ 0 σ j oj rj hoj hrj (by simp only [Nat.zero_add, hL, if_true]) ht fun i o' ho' hne => hd j oj hoj i o' ho' hne t ht
      · rw [app_fr_ne _ _ _ ht]
        by_cases hex : ∃ k o r, (l.take n)[k]? = some o ∧ rs[k]? = some r ∧ listed.getD k false = true ∧ o.dst = some t
        · obtain ⟨k, o, r, h1, h2, h3, h4⟩ := hex
          have hkj : k ≠ j := fun e => by subst e; rw [h3] at hun; cases hun
          rw [show (stL (listed.setIfInBounds j true)).fr t = r.1 from stOf_frB _ _ 0 σ k o r h1 h2 (by simp only [Nat.zero_add, hL, if_neg hkj]; exact h3) h4 fun i o' ho' hne => hd k o h1 i o' ho' hne t h4]
          exact (stOf_frB _ _ 0 σ k o r h1 h2 (by simpa using h3) h4 fun i o' ho' hne => hd k o h1 i o' ho' hne t h4).symm
        · have hno : ∀ (k : Nat) (o : Oper) (r : Res), (l.take n)[k]? = some o → rs[k]? = some r → listed.getD k false = true → o.dst ≠ some t := fun k o r h1 h2 h3 h4 => hex ⟨k, o, r, h1, h2, h3, h4⟩
          rw [show (stL (listed.setIfInBounds j true)).fr t = σ.fr t from stOf_frA _ _ 0 σ fun k o r h1 h2 h3 h4 => by
            simp only [Nat.zero_add, hL] at h3
            by_cases hkj : k = j
            · subst hkj; rw [hoj] at h1; obtain rfl := Option.some.inj h1; exact ht h4
            · rw [if_neg hkj] at h3; exact hno k o r h1 h2 h3 h4]
          exact (stOf_frA _ _ 0 σ fun k o r h1 h2 h3 => hno k o r h1 h2 (by simpa using h3)).symm
    · by_cases ht : ∃ c, rj.2 = some (i, c)
      · obtain ⟨c, hc⟩ := ht
        rw [app_ob_eq _ _ _ hc]
        exact stOf_obB _ _ 0 σ j oj rj hoj hrj (by simp only [Nat.zero_add, hL, if_true]) hc fun m r' hr' hne c' hc' => hne (made_inj hI hr' hrj hc' hc)
      · rw [app_ob_ne _ _ _ fun c hc => ht ⟨c, hc⟩]
        by_cases hex : ∃ k r c, rs[k]? = some r ∧ listed.getD k false = true ∧ r.2 = some (i, c)
        · obtain ⟨k, r, c, h2, h3, h4⟩ := hex
          have hkj : k ≠ j := fun e => by subst e; rw [h3] at hun; cases hun
          have hkn : k < (l.take n).length := by have := (List.getElem?_eq_some_iff.1 h2).1; omega
          rw [show (stL (listed.setIfInBounds j true)).ob i = .obj c from stOf_obB _ _ 0 σ k _ r (List.getElem?_eq_getElem hkn) h2 (by simp only [Nat.zero_add, hL, if_neg hkj]; exact h3) h4 fun m r' hr' hne c' hc' => hne (made_inj hI hr' h2 hc' h4)]
          exact (stOf_obB _ _ 0 σ k _ r (List.getElem?_eq_getElem hkn) h2 (by simpa using h3) h4 fun m r' hr' hne c' hc' => hne (made_inj hI hr' h2 hc' h4)).symm
        · rw [show (stL (listed.setIfInBounds j true)).ob i = σ.ob i from stOf_obA _ _ 0 σ fun k o r h1 h2 h3 c hc => by
            simp only [Nat.zero_add, hL] at h3
            by_cases hkj : k = j
            · subst hkj; rw [hrj] at h2; obtain rfl := Option.some.inj h2; exact ht ⟨c, hc⟩
            · rw [if_neg hkj] at h3; exact hex ⟨k, r, c, h2, h3, hc⟩]
          exact (stOf_obA _ _ 0 σ fun k o r h1 h2 h3 c hc => hex ⟨k, r, c, h2, by simpa using h3, hc⟩).symm
  refine wp_region_any hm ?_
  have key : ∀ (f : Nat) (listed : Array Bool) (a' : Act) (w' : World), HeadInv .any l.toArray n listed → (((List.range n).filter fun i => !listed.getD i true).length = f) →
      Rel K (stL listed) a' w' → wpAny P .any l.toArray (Qr K Q) (f + (l.toArray.size - n)) listed a' w' := by
    intro f
    induction f with
    | zero =>
      intro listed a' w' inv hc hR
      have hall : ∀ i, i < n → listed.getD i true = true := by
        intro i hi
        have h0 := List.eq_nil_of_length_eq_zero hc
        have := List.filter_eq_nil_iff.1 h0 i (List.mem_range.2 hi)
        simpa using this
      have hcanon : listed = Array.ofFn (n := l.toArray.size) fun i => decide (i.1 < n) := by
        apply Array.ext
        · simp [inv.size]
        · intro i h1 h2
          simp only [Array.getElem_ofFn]
          by_cases hi : i < n
          · have := hall i hi
            simp [h1] at this
            simp [this, hi]
          · have := inv.tail i (by omega) (by rw [inv.size] at h1; exact h1)
            simp [h1] at this
            simp [this, hi]
      rw [Nat.zero_add]
      have hfull : stL listed = stOf (l.take n) rs (fun _ => true) 0 σ := by
        have : ∀ (ops : List Oper) (rs : List Res) (k : Nat) (σ : St), k + ops.length ≤ n → stOf ops rs (fun k => listed.getD k false) k σ = stOf ops rs (fun _ => true) k σ := by
          intro ops
          induction ops with
          | nil => intros; simp [stOf]
          | cons o ops ih =>
            intro rs k σ hk
            cases rs with
            | nil => simp [stOf]
            | cons r rs =>
              simp only [stOf]
              have h1 := hall k (by simp at hk; omega)
              have h2 : listed.getD k false = true := by
                have hks : k < listed.size := by rw [inv.size]; simp at hk; omega
                simp [hks] at h1 ⊢; exact h1
              rw [h2]
              exact ih rs (k + 1) _ (by simp at hk; omega)
        exact this _ _ 0 _ (by omega)
      rw [hfull] at hR
      have hw := hend K a' w' hR
      have hdl : (l.drop n).length = l.toArray.size - n := by simp
      have := wpAny_of_seq (md := .any) (Q' := Qr K Q) (l.drop n) n listed a' w' (fun j => by simp [List.getElem?_drop]) (by rw [hdl, hcanon]; exact hseq) hw
      rwa [hdl] at this
    | succ f ih =>
      intro listed a' w' inv hc hR
      have hex : ∃ i, i < n ∧ listed.getD i true = false := by
        cases hL : (List.range n).filter fun i => !listed.getD i true with
        | nil => rw [hL] at hc; simp at hc
        | cons i r =>
          have : i ∈ (List.range n).filter fun i => !listed.getD i true := by rw [hL]; exact List.mem_cons_self
          rw [List.mem_filter] at this
          exact ⟨i, List.mem_range.1 this.1, by simpa using this.2⟩
      have hnotail : ∀ t, n ≤ t → t ∉ Region.ready .any l.toArray listed := by
        intro t ht
        rcases hsc with he | ⟨hsk, hch⟩
        · intro hr
          obtain ⟨_, ot, hot, _⟩ := mem_ready.1 hr
          have := (Array.getElem?_eq_some_iff.1 hot).1
          omega
        · by_cases hlt : n < l.toArray.size
          · obtain ⟨i, hi, hun⟩ := hex
            exact tail_waits hsk hch hlt inv _ i rfl hi hun t ht
          · intro hr
            obtain ⟨_, ot, hot, _⟩ := mem_ready.1 hr
            have := (Array.getElem?_eq_some_iff.1 hot).1
            omega
      have hfirst : ∀ i, i < n → listed.getD i true = false → ∃ k, k ∈ Region.ready .any l.toArray listed := by
        intro i
        induction i using Nat.strongRecOn with
        | _ i ihi =>
          intro hi hun
          by_cases hp : ∃ k, k < i ∧ listed.getD k true = false
          · obtain ⟨k, hk, hku⟩ := hp
            exact ihi k hk (by omega) hku
          · have hlt : i < l.toArray.size := by omega
            refine ⟨i, mem_ready.2 ⟨hun, l.toArray[i], Array.getElem?_eq_getElem hlt, fun e he _ => ?_⟩⟩
            have h1 := hedge i hi
            rw [Array.getElem?_eq_getElem hlt] at h1
            have h2 := (List.all_eq_true.1 h1) e (by simpa using he)
            simp only [Bool.and_eq_true, decide_eq_true_eq] at h2
            have h3 : listed.getD e.on true = true := by
              cases hx : listed.getD e.on true with
              | true => rfl
              | false => exact absurd ⟨e.on, h2.2, hx⟩ hp
            have h4 : e.on < listed.size := by rw [inv.size]; omega
            simp [h4] at h3 ⊢
            exact h3
      rw [show f + 1 + (l.toArray.size - n) = (f + (l.toArray.size - n)) + 1 by omega]
      refine ⟨fun h0 => ?_, fun j hj => ?_⟩
      · obtain ⟨i, hi, hun⟩ := hex
        obtain ⟨k, hk⟩ := hfirst i hi hun
        rw [h0] at hk
        cases hk
      · have hjn : j < n := by
          rcases Nat.lt_or_ge j n with h | h
          · exact h
          · exact absurd hj (hnotail j h)
        obtain ⟨hjun, oj, hoj, hall⟩ := mem_ready.1 hj
        have hojT := hgetT j oj hjn hoj
        have hjs : j < listed.size := by rw [inv.size]; omega
        have hjr : j < rs.length := by omega
        have hrj : rs[j]? = some rs[j] := List.getElem?_eq_getElem hjr
        have hunf : listed.getD j false = false := getD_both hjun
        have hO := hops j oj rs[j] hojT hrj
        have hons : ∀ k ∈ Edge.ons oj.after.toList, listed.getD k false = true := by
          have h1 := hedge j hjn
          rw [hoj] at h1
          have hbind : ∀ e ∈ oj.after.toList, Region.binds .any e = true := fun e he => by
            have h2 := (List.all_eq_true.1 h1) e he
            simp only [Bool.and_eq_true] at h2
            exact h2.1
          rw [ons_all hbind]
          intro k hk
          obtain ⟨e, he, rfl⟩ := List.mem_map.1 hk
          exact hall e (by simpa using he) (hbind e he)
        have hcnt : ((List.range n).filter fun i => !(listed.setIfInBounds j true).getD i true).length = f := by
          have e1 : ((List.range n).filter fun i => !(listed.setIfInBounds j true).getD i true) = ((List.range n).filter fun i => !listed.getD i true).filter fun i => i != j := by
            rw [List.filter_filter]
            apply List.filter_congr
            intro i _
            by_cases hij : j = i
            · subst hij; simp [hjs]
            · rw [getD_set_ne true hij]; simp [Ne.symm hij]
          rw [e1]
          have hnd : ((List.range n).filter fun i => !listed.getD i true).Nodup := List.Pairwise.filter _ List.nodup_range
          have hmem : j ∈ (List.range n).filter fun i => !listed.getD i true := by rw [List.mem_filter]; exact ⟨List.mem_range.2 hjn, by simpa using hjun⟩
          have := List.length_erase_of_mem hmem
          rw [hnd.erase_eq_filter] at this
          rw [this, hc]
          rfl
        have hnext : ∀ (v : Value) (w'' : World), Rel K (rs[j].app oj.dst (stL listed)) (a'.put oj.dst v) w'' →
            wpAny P .any l.toArray (Qr K Q) (f + (l.toArray.size - n)) (listed.setIfInBounds j true) (a'.put oj.dst v) w'' := by
          intro v w'' hr
          refine ih _ _ w'' (inv.set hj hjn) hcnt ?_
          rw [hset listed j oj rs[j] hjs hojT hrj hunf]; exact hr
        have hyl : ∀ (g d : Nat), ((l.take n)[g]?).bind (·.dst) = some d → (l.toArray[g]?).bind (·.dst) = some d := by
          intro g d hgd
          rw [List.getElem?_take] at hgd
          split at hgd
          · simpa using hgd
          · cases hgd
        obtain ⟨ι', S', R'⟩ := hR
        have own1 : (rs[j]).2.map (·.1) = none → (rs[j]).2 = none := fun h => by simpa using h
        have own2 : ∀ i, (rs[j]).2.map (·.1) = some i → ∃ c, (rs[j]).2 = some (i, c) := fun i h => by
          obtain ⟨⟨i', c⟩, h1, rfl⟩ := Option.map_eq_some_iff.1 h
          exact ⟨c, h1⟩
        have stepR : (∀ τ, Step P oj (mixSt σ ((l.take n).filterMap (·.dst)) (made rs) ((rs[j]).2.map (·.1)) (l.take n) (rs.take j) (Edge.ons oj.after.toList) τ) ((rs[j]).app oj.dst (mixSt σ ((l.take n).filterMap (·.dst)) (made rs) ((rs[j]).2.map (·.1)) (l.take n) (rs.take j) (Edge.ons oj.after.toList) τ))) →
            Yields P oj a'.eval w' fun v w'' => Rel K (rs[j].app oj.dst (stL listed)) (a'.put oj.dst v) w'' := by
          intro hst
          have := hst (stL listed)
          rw [hmix listed j oj rs[j] hojT hrj hunf hons _ own1 own2] at this
          exact this K ι' S' a' w' R'
        unfold wpOp
        simp only [hoj]
        generalize hrs : rs[j] = rj at hO
        cases hO with
        | plain hg hst =>
          rw [if_pos (by simp [Region.wanted, hg])]
          subst hrs
          exact .inl (wp_of_yields (stepR hst) fun v w'' hp => hnext v w'' hp)
        | yes hg hgd hv hst =>
          subst hrs
          have hv' := hv (stL listed)
          rw [hmix listed j oj rs[j] hojT hrj hunf hons _ own1 own2] at hv'
          rw [if_pos (by simp [Region.wanted, hg, yielded_of R' (hyl _ _ hgd) hv'])]
          exact .inl (wp_of_yields (stepR hst) fun v w'' hp => hnext v w'' hp)
        | no hg hgd hv hb =>
          have hv' := hv (stL listed)
          rw [hmix listed j oj rs[j] hojT hrj hunf hons none (fun _ => by rw [hrs]) (fun i h => by cases h)] at hv'
          rw [if_neg (by simp [Region.wanted, hg, yielded_not R' (hyl _ _ hgd) hv' hb])]
          refine hnext _ _ ?_
          rw [hrs]
          exact ⟨ι', S', R'.put oj.dst (av := .v undef) .v fun i hi => by cases hi⟩
  have inv0 : HeadInv .any l.toArray n (Array.replicate l.toArray.size false) :=
    ⟨by simp, fun j oj _ hl => (by rw [getD_replicate_false] at hl; cases hl), fun t _ ht => getD_in (by simpa using ht) (getD_replicate_false _ _)⟩
  have hcnt0 : ((List.range n).filter fun i => !(Array.replicate l.toArray.size false).getD i true).length = n := by
    have : ((List.range n).filter fun i => !(Array.replicate l.toArray.size false).getD i true) = List.range n := by
      apply List.filter_eq_self.2
      intro i hi
      have : i < l.toArray.size := by have := List.mem_range.1 hi; omega
      simp only [getD_in (listed := Array.replicate l.toArray.size false) (i := i) (by simpa using this) (getD_replicate_false _ _)]; rfl
    rw [this]; simp
  have hst0 : stL (Array.replicate l.toArray.size false) = σ := by
    refine St.eq (stOf_n _ _ _ _) (fun t => stOf_frA _ _ _ _ fun j o r _ _ hl => ?_) (fun i => stOf_obA _ _ _ _ fun j o r _ _ hl => ?_) (stOf_inc _ _ _ _) (stOf_pin _ _ _ _)
    · simp only [getD_replicate_false] at hl; cases hl
    · simp only [getD_replicate_false] at hl; cases hl
  have := key n _ a0 w0.drew inv0 hcnt0 (by rw [hst0]; exact ⟨ι0, S0, R0.drew⟩)
  rw [show n + (l.toArray.size - n) = l.toArray.size by omega] at this
  exact this

def enSt (n : Nat) (args : List AV) (obs : List (Oid × Cells)) : St := ⟨n, fun t => args.getD t .dead, obOf obs, fun _ => false, fun _ => none⟩
theorem Spec.ofN {P : Program} {f : FuncId} {fn : Func} {c : Code} {args : List AV} {obs : List (Oid × Cells)} {σ' : St} {n : Nat} (hf : P.funcs[f]? = some fn) (hb : fn.body = some c) (hn : fn.ntmps = n) (hl : Nat.ble args.length n = true)
    (h : D P c (RetQ P fn σ') (enSt n args obs)) : Spec P f (inSt args obs) σ' := by
  subst hn
  refine Spec.of hf hb (Nat.le_of_ble_eq_true hl) (fun t ht => ?_) h
  simp only [inSt] at ht ⊢
  rw [List.getD_eq_getElem?_getD, List.getElem?_eq_none ht]; rfl
theorem D_end {K : St → Prop} {Q : Exit → St → Prop} {σ : St} {P : Program} {ops : Array Oper} (h : K σ) : DL P ops (thenQ K Q) [] σ := DL_nil h
theorem D_skipK {K : St → Prop} {Q : Exit → St → Prop} {σ : St} {P : Program} (h : K σ) : D P .skip (thenQ K Q) σ := D_skip h
end Go.Proofs.Ytphlaojoehmhaaa
