/- Kahn's order of what the pairs lead to; the words of what leads to each; lists of parents. Plain Lean; no program. -/
import Derived.Test.YtkbkmngbenohkaaVoB5
import Derived.Test.YtkbkmngbenohkaaVoH3
set_option linter.unusedSimpArgs false
set_option linter.unusedVariables false
namespace Go.Proofs.Ytkbkmngbenohkaa
open Go.RowKit

theorem getD_memI {l : List Int} {k : Nat} (h : k < l.length) : l.getD k 0 ∈ l := by
  rw [List.getD_eq_getElem?_getD, List.getElem?_eq_getElem h]; exact List.getElem_mem h
theorem ind_zero {n : Nat} {S : List (List Int)} {out : List Nat} {b : Nat} : ind n S out b = 0 ↔ ∀ a, a < n → a ∉ out → (b : Int) ∉ S.getD a [] := by
  unfold ind
  rw [List.countP_eq_zero]
  constructor
  · intro h a ha hao hm
    refine h a (List.mem_range.2 ha) ?_
    rw [Bool.and_eq_true]
    exact ⟨by simpa using hao, List.contains_iff_mem.2 hm⟩
  · intro h a ha hh
    rw [Bool.and_eq_true] at hh
    exact h a (List.mem_range.1 ha) (by simpa using hh.1) (List.contains_iff_mem.1 hh.2)
theorem nextV_some {n : Nat} {S : List (List Int)} {out : List Nat} {v : Nat} (h : nextV n S out = some v) : v < n ∧ v ∉ out ∧ ∀ a, a < n → a ∉ out → (v : Int) ∉ S.getD a [] := by
  unfold nextV at h
  have h1 := List.find?_some h
  have h2 := List.mem_of_find?_eq_some h
  rw [Bool.and_eq_true, beq_iff_eq] at h1
  exact ⟨List.mem_range.1 h2, by simpa using h1.1, ind_zero.1 h1.2⟩
theorem nextV_none {n : Nat} {S : List (List Int)} {out : List Nat} (h : nextV n S out = none) {v : Nat} (hv : v < n) (ho : v ∉ out) : ∃ a, a < n ∧ a ∉ out ∧ (v : Int) ∈ S.getD a [] := by
  unfold nextV at h
  rw [List.find?_eq_none] at h
  have h1 := h v (List.mem_range.2 hv)
  apply Classical.byContradiction
  intro hne
  apply h1
  rw [Bool.and_eq_true, beq_iff_eq]
  exact ⟨by simpa using ho, ind_zero.2 fun a ha hao hm => hne ⟨a, ha, hao, hm⟩⟩
/-- Each stands behind all that lead to it. -/
structure KO (n : Nat) (S : List (List Int)) (out : List Nat) : Prop where
  nd : out.Nodup
  lt : ∀ x ∈ out, x < n
  top : ∀ (j b : Nat), out[j]? = some b → ∀ a : Nat, a < n → (b : Int) ∈ S.getD a [] → ∃ i : Nat, i < j ∧ out[i]? = some a
theorem KO.nil (n : Nat) (S : List (List Int)) : KO n S [] := ⟨List.nodup_nil, fun _ h => absurd h List.not_mem_nil, fun j b h => by simp at h⟩
theorem idx_of {row : List Nat} {b : Nat} (hb : b ∈ row) : ∃ j : Nat, j < row.length ∧ row[j]? = some b := by
  obtain ⟨j, hj, rfl⟩ := List.getElem_of_mem hb
  exact ⟨j, hj, List.getElem?_eq_getElem hj⟩
theorem KO.step {n : Nat} {S : List (List Int)} {out : List Nat} {v : Nat} (h : KO n S out) (hv : nextV n S out = some v) : KO n S (out ++ [v]) := by
  obtain ⟨h1, h2, h3⟩ := nextV_some hv
  refine ⟨?_, fun x hx => ?_, fun j b hj a ha hm => ?_⟩
  · rw [List.nodup_append]
    exact ⟨h.nd, by simp, fun x hx y hy => by simp at hy; subst hy; exact fun e => h2 (e ▸ hx)⟩
  · rcases List.mem_append.1 hx with hx | hx
    · exact h.lt x hx
    · simp at hx; omega
  · by_cases hjl : j < out.length
    · rw [List.getElem?_append_left hjl] at hj
      obtain ⟨i, hi, he⟩ := h.top j b hj a ha hm
      exact ⟨i, hi, by rw [List.getElem?_append_left (by omega)]; exact he⟩
    · have hj2 : j = out.length := by
        have := (List.getElem?_eq_some_iff.1 hj).1
        simp at this; omega
      subst hj2
      rw [List.getElem?_append_right (Nat.le_refl _), Nat.sub_self] at hj
      simp at hj
      subst hj
      have hao : a ∈ out := Classical.byContradiction fun hne => h3 a ha hne hm
      obtain ⟨i, hi, he⟩ := idx_of hao
      exact ⟨i, hi, by rw [List.getElem?_append_left hi]; exact he⟩
theorem kahn_ko {n : Nat} {S : List (List Int)} : ∀ (k : Nat) (out : List Nat), KO n S out → KO n S (kahn n S k out)
  | 0, out, h => by rw [kahn]; exact h
  | k + 1, out, h => by
    rw [kahn]
    cases e : nextV n S out with
    | none => exact h
    | some v => exact kahn_ko k _ (h.step e)
theorem kahn_end {n : Nat} {S : List (List Int)} : ∀ (k : Nat) (out : List Nat), (kahn n S k out).length = k + out.length ∨ nextV n S (kahn n S k out) = none
  | 0, out => by rw [kahn]; exact .inl (Nat.zero_add _).symm
  | k + 1, out => by
    rw [kahn]
    cases e : nextV n S out with
    | none => exact .inr e
    | some v =>
      rcases kahn_end k (out ++ [v]) with h | h
      · exact .inl (by simp only at h ⊢; rw [h, List.length_append, List.length_singleton]; omega)
      · exact .inr h
/-- S are the successors that the pairs give. -/
structure SE (n : Nat) (E : Prs) (S : List (List Int)) : Prop where
  e : inE n E = true
  m : ∀ a, a < n → ∀ x, x ∈ S.getD a [] ↔ ((a : Int), x) ∈ E
theorem KO.ahead {n : Nat} {E : Prs} {S : List (List Int)} {out : List Nat} (hs : SE n E S) (h : KO n S out) {a b : Nat} (hc : Clo E a b) : ∀ j : Nat, out[j]? = some b → ∃ i : Nat, i < j ∧ out[i]? = some a := by
  induction hc with
  | one he => exact fun j hj => h.top j _ hj _ (Clo.lt hs.e (.one he)).1 ((hs.m _ (Clo.lt hs.e (.one he)).1 _).2 he)
  | more he _ ih =>
    intro j hj
    obtain ⟨i, h1, h2⟩ := ih j hj
    have hl := (Clo.lt hs.e (.one he)).1
    obtain ⟨k, h3, h4⟩ := h.top i _ h2 _ hl ((hs.m _ hl _).2 he)
    exact ⟨k, by omega, h4⟩
theorem topo_cyc {n : Nat} {E : Prs} {S : List (List Int)} (hs : SE n E S) (hl : (kahn n S n []).length < n) : ∃ a, a < n ∧ Clo E a a := by
  apply Classical.byContradiction
  intro hno
  obtain ⟨a, ha, hf⟩ := free_ex (spo_cl hno) _ hl
  simp only [isfree, Bool.and_eq_true, Bool.not_eq_true', List.all_eq_true, List.mem_range, Bool.or_eq_true] at hf
  obtain ⟨h1, h2⟩ := hf
  have hna : a ∉ kahn n S n [] := by simpa using h1
  rcases kahn_end (n := n) (S := S) n [] with h3 | h3
  · simp at h3; omega
  · obtain ⟨b, hb, hbo, hm⟩ := nextV_none h3 ha hna
    have hcl : cl E b a = true := cl_iff.2 (.one ((hs.m b hb _).1 hm))
    rcases h2 b hb with h4 | h4
    · rw [hcl] at h4; cases h4
    · exact hbo (by simpa using h4)
theorem full_mem {n : Nat} {out : List Nat} (hn : out.Nodup) (hlt : ∀ x ∈ out, x < n) (hl : ¬ out.length < n) {a : Nat} (ha : a < n) : a ∈ out := by
  apply Classical.byContradiction
  intro hna
  have := nodup_le n (a :: out) (List.nodup_cons.2 ⟨hna, hn⟩) fun x hx => by
    rcases List.mem_cons.1 hx with rfl | hx
    · exact ha
    · exact hlt x hx
  simp at this
  omega
theorem topo_ok {n : Nat} {E : Prs} {S : List (List Int)} (hs : SE n E S) (hl : ¬ (kahn n S n []).length < n) : ¬ ∃ a, a < n ∧ Clo E a a := by
  rintro ⟨a, ha, hc⟩
  have hk := kahn_ko (n := n) (S := S) n [] (KO.nil n S)
  obtain ⟨j, _, hj⟩ := idx_of (full_mem hk.nd hk.lt hl ha)
  obtain ⟨i, h1, h2⟩ := hk.ahead hs hc j hj
  have := nodup_idx hk.nd h2 hj
  omega
theorem Clo.last {E : Prs} {a b : Nat} (h : Clo E a b) : ∃ p : Nat, ((p : Int), (b : Int)) ∈ E ∧ (a = p ∨ Clo E a p) := by
  induction h with
  | one h => exact ⟨_, h, .inl rfl⟩
  | more h _ ih =>
    obtain ⟨p, h1, h2⟩ := ih
    refine ⟨p, h1, .inr ?_⟩
    rcases h2 with rfl | h2
    · exact .one h
    · exact .more h h2
theorem Clo.snoc {E : Prs} {a p b : Nat} (h : a = p ∨ Clo E a p) (he : ((p : Int), (b : Int)) ∈ E) : Clo E a b := by
  rcases h with rfl | h
  · exact .one he
  · exact h.trans (.one he)
/-- A word's elements. -/
def els (w : Nat) : List Nat := (List.range 64).filter fun b => w.testBit b
theorem els_mem {w b : Nat} : b ∈ els w ↔ b < 64 ∧ w.testBit b = true := by simp [els]
theorem els_len (w : Nat) : (els w).length ≤ 64 := by
  have := List.length_filter_le (fun b => w.testBit b) (List.range 64)
  simpa [els] using this
/-- The word of what leads to v and of v. -/
noncomputable def aw1 (n : Nat) (E : Prs) (v : Nat) : Nat := cw n fun u => decide (u = v) || cl E u v
noncomputable def ancW (n : Nat) (E : Prs) : List Nat := (List.range n).map (aw1 n E)
@[simp] theorem ancW_len (n : Nat) (E : Prs) : (ancW n E).length = n := by simp [ancW]
def aw (s : List Nat) (v : Nat) (l : List Nat) (j : Nat) : Nat := (l.take j).foldl (fun w p => w ||| s.getD p 0) (2 ^ v)
theorem aw_zero (s : List Nat) (v : Nat) (l : List Nat) : aw s v l 0 = 2 ^ v := by simp [aw]
theorem aw_succ {s : List Nat} {v : Nat} {l : List Nat} {j : Nat} (hj : j < l.length) : aw s v l (j + 1) = aw s v l j ||| s.getD (l.getD j 0) 0 := by
  unfold aw
  rw [take1 0 hj]
  simp [List.foldl_append]
theorem aw_bit (s : List Nat) (v : Nat) (l : List Nat) (c : Nat) : (aw s v l l.length).testBit c = (decide (v = c) || l.any fun p => (s.getD p 0).testBit c) := by
  unfold aw
  rw [List.take_length]
  have h : ∀ (l : List Nat) (w : Nat), (l.foldl (fun w p => w ||| s.getD p 0) w).testBit c = (w.testBit c || l.any fun p => (s.getD p 0).testBit c) := by
    intro l
    induction l with
    | nil => intro w; simp
    | cons x l ih => intro w; rw [List.foldl_cons, ih, Nat.testBit_or, List.any_cons, Bool.or_assoc]
  rw [h, Nat.testBit_two_pow]
theorem aw_lt {s : List Nat} (hs : ∀ p, s.getD p 0 < 18446744073709551616) {v : Nat} (hv : v < 64) (l : List Nat) (j : Nat) : aw s v l j < 18446744073709551616 := by
  unfold aw
  have h : ∀ (l : List Nat) (w : Nat), w < 18446744073709551616 → l.foldl (fun w p => w ||| s.getD p 0) w < 18446744073709551616 := by
    intro l
    induction l with
    | nil => intro w h; exact h
    | cons x l ih => intro w h; exact ih _ (Nat.or_lt_two_pow (n := 64) h (hs x))
  exact h _ _ (bit_lt v hv)
def astp (P : Nat → List Nat) (s : List Nat) (v : Nat) : List Nat := s.set v (aw s v (P v) (P v).length)
def asts (n : Nat) (P : Nat → List Nat) (pre : List Nat) : List Nat := pre.foldl (astp P) (List.replicate n 0)
theorem asts_nil (n : Nat) (P : Nat → List Nat) : asts n P [] = List.replicate n 0 := rfl
theorem asts_snoc (n : Nat) (P : Nat → List Nat) (pre : List Nat) (v : Nat) : asts n P (pre ++ [v]) = astp P (asts n P pre) v := by simp [asts, List.foldl_append]
@[simp] theorem asts_len (n : Nat) (P : Nat → List Nat) (pre : List Nat) : (asts n P pre).length = n := by
  have h : ∀ (l s : List Nat), (l.foldl (astp P) s).length = s.length := by
    intro l
    induction l with
    | nil => intro s; rfl
    | cons x l ih => intro s; rw [List.foldl_cons, ih, astp, List.length_set]
  simp [asts, h]
theorem asts_lt (n : Nat) (P : Nat → List Nat) (pre : List Nat) (hp : ∀ v ∈ pre, v < 64) : ∀ p, (asts n P pre).getD p 0 < 18446744073709551616 := by
  have h : ∀ (l s : List Nat), (∀ v ∈ l, v < 64) → (∀ p, s.getD p 0 < 18446744073709551616) → ∀ p, (l.foldl (astp P) s).getD p 0 < 18446744073709551616 := by
    intro l
    induction l with
    | nil => intro s _ h; exact h
    | cons x l ih =>
      intro s hl h
      rw [List.foldl_cons]
      refine ih _ (fun v hv => hl v (List.mem_cons_of_mem _ hv)) fun p => ?_
      rw [astp, getD_set]
      split
      · exact aw_lt h (hl x List.mem_cons_self) _ _
      · exact h p
  refine h pre _ hp fun p => ?_
  rw [List.getD_eq_getElem?_getD, List.getElem?_replicate]
  split <;> simp
theorem asts_get {n : Nat} {E : Prs} {S : List (List Int)} (hs : SE n E S) {out : List Nat} (h : KO n S out) {P : Nat → List Nat} (hP : ∀ v, v < n → ∀ p, p ∈ P v ↔ ((p : Int), (v : Int)) ∈ E) :
    ∀ k, k ≤ out.length → ∀ v, v < n → (asts n P (out.take k)).getD v 0 = if v ∈ out.take k then aw1 n E v else 0
  | 0, _, v, hv => by rw [List.take_zero, if_neg List.not_mem_nil, asts_nil, List.getD_eq_getElem?_getD, List.getElem?_replicate, if_pos hv]; rfl
  | k + 1, hk, v, hv => by
    have ih := asts_get hs h hP k (by omega)
    have ht : out.take (k + 1) = out.take k ++ [out[k]] := by rw [take1 0 (by omega), List.getD_eq_getElem?_getD, List.getElem?_eq_getElem (by omega)]; rfl
    have hx : out[k] < n := h.lt _ (List.getElem_mem _)
    rw [ht, asts_snoc, astp, getD_set, asts_len]
    by_cases hvx : v = out[k]
    · subst hvx
      rw [if_pos ⟨rfl, hx⟩, if_pos (List.mem_append_right _ List.mem_cons_self)]
      apply Nat.eq_of_testBit_eq
      intro c
      rw [aw_bit, aw1, cw_bit, Bool.eq_iff_iff]
      simp only [Bool.or_eq_true, decide_eq_true_eq, List.any_eq_true, Bool.and_eq_true, cl_iff]
      have hpar : ∀ p : Nat, ((p : Int), ((out[k] : Nat) : Int)) ∈ E → p < n ∧ (asts n P (out.take k)).getD p 0 = aw1 n E p := by
        intro p hp
        have hpn := (Clo.lt hs.e (.one hp)).1
        obtain ⟨i, h1, h2⟩ := h.ahead hs (.one hp) k (List.getElem?_eq_getElem (by omega))
        refine ⟨hpn, ?_⟩
        rw [ih p hpn, if_pos]
        rw [List.mem_take_iff_getElem]
        obtain ⟨h3, h4⟩ := List.getElem?_eq_some_iff.1 h2
        exact ⟨i, by omega, h4⟩
      constructor
      · rintro (hc | ⟨p, hp, hb⟩)
        · subst hc; exact ⟨hx, .inl rfl⟩
        · have hpe := (hP _ hx p).1 hp
          rw [(hpar p hpe).2, aw1, cw_bit] at hb
          simp only [Bool.or_eq_true, decide_eq_true_eq, Bool.and_eq_true, cl_iff] at hb
          exact ⟨hb.1, .inr (Clo.snoc hb.2 hpe)⟩
      · rintro ⟨hcn, hc | hc⟩
        · exact .inl hc.symm
        · obtain ⟨p, hp, hq⟩ := hc.last
          refine .inr ⟨p, (hP _ hx p).2 hp, ?_⟩
          rw [(hpar p hp).2, aw1, cw_bit]
          simp only [Bool.or_eq_true, decide_eq_true_eq, Bool.and_eq_true, cl_iff]
          exact ⟨hcn, hq⟩
    · rw [if_neg (by simp [hvx]), ih v hv]
      have : (v ∈ out.take k ++ [out[k]]) ↔ v ∈ out.take k := ⟨fun h => (List.mem_append.1 h).resolve_right fun h' => hvx (List.mem_singleton.1 h'), List.mem_append_left _⟩
      simp only [this]
theorem asts_all {n : Nat} {E : Prs} {S : List (List Int)} (hs : SE n E S) (hl : ¬ (kahn n S n []).length < n) {P : Nat → List Nat} (hP : ∀ v, v < n → ∀ p, p ∈ P v ↔ ((p : Int), (v : Int)) ∈ E) :
    asts n P (kahn n S n []) = ancW n E := by
  have hk := kahn_ko (n := n) (S := S) n [] (KO.nil n S)
  apply List.ext_getElem
  · simp
  · intro v h1 h2
    have hv : v < n := by simpa using h1
    have := asts_get hs hk hP _ (Nat.le_refl _) v hv
    rw [List.take_length, if_pos (full_mem hk.nd hk.lt hl hv)] at this
    rw [List.getD_eq_getElem?_getD, List.getElem?_eq_getElem h1] at this
    simp only [Option.getD_some] at this
    rw [this]
    simp [ancW]
-- lists of parents
def pw (l : List Int) : Nat := l.foldl (fun w p => w ||| 2 ^ p.toNat) 0
theorem pw_snoc (l : List Int) (p : Int) : pw (l ++ [p]) = pw l ||| 2 ^ p.toNat := by simp [pw, List.foldl_append]
theorem pw_bit (c : Nat) (l : List Int) : (∀ p ∈ l, 0 ≤ p) → (pw l).testBit c = decide ((c : Int) ∈ l) := by
  have h : ∀ (l : List Int) (w : Nat), (∀ p ∈ l, 0 ≤ p) → (l.foldl (fun w p => w ||| 2 ^ p.toNat) w).testBit c = (w.testBit c || decide ((c : Int) ∈ l)) := by
    intro l
    induction l with
    | nil => intro w _; simp
    | cons x l ih =>
      intro w h
      have hx := h x List.mem_cons_self
      rw [List.foldl_cons, ih _ fun p hp => h p (List.mem_cons_of_mem _ hp), Nat.testBit_or, Nat.testBit_two_pow, Bool.or_assoc]
      congr 1
      rw [Bool.eq_iff_iff]
      simp only [Bool.or_eq_true, decide_eq_true_eq, List.mem_cons]
      constructor
      · rintro (h | h)
        · exact .inl (by omega)
        · exact .inr h
      · rintro (h | h)
        · exact .inl (by omega)
        · exact .inr h
  intro h0
  rw [pw, h l 0 h0]
  simp
theorem pw_lt (l : List Int) (h : ∀ p ∈ l, 0 ≤ p ∧ p < 64) : pw l < 18446744073709551616 := by
  rw [show (18446744073709551616 : Nat) = 2 ^ 64 from rfl]
  refine Nat.lt_pow_two_of_testBit _ fun i hi => ?_
  rw [pw_bit i l fun p hp => (h p hp).1]
  exact decide_eq_false fun hm => by have := h _ hm; omega
/-- The pairs of a parent and its child, up to the j-th parent of v. -/
def edg (Ps : List (List Int)) (v j : Nat) : Prs := ((List.range v).flatMap fun u => (Ps.getD u []).map fun p => (p, (u : Int))) ++ ((Ps.getD v []).take j).map fun p => (p, (v : Int))
theorem edg_next (Ps : List (List Int)) (v : Nat) : edg Ps v (Ps.getD v []).length = edg Ps (v + 1) 0 := by
  simp [edg, List.range_succ, List.flatMap_append]
theorem edg_succ {Ps : List (List Int)} {v j : Nat} (hj : j < (Ps.getD v []).length) : edg Ps v (j + 1) = edg Ps v j ++ [((Ps.getD v []).getD j 0, (v : Int))] := by
  unfold edg
  rw [take1 0 hj]
  simp
theorem edg_mem {Ps : List (List Int)} {n : Nat} {x : Int × Int} : x ∈ edg Ps n 0 ↔ ∃ v, v < n ∧ x.2 = (v : Int) ∧ x.1 ∈ Ps.getD v [] := by
  simp only [edg, List.take_zero, List.map_nil, List.append_nil, List.mem_flatMap, List.mem_range, List.mem_map]
  constructor
  · rintro ⟨v, hv, p, hp, rfl⟩; exact ⟨v, hv, rfl, hp⟩
  · rintro ⟨v, hv, h1, h2⟩; exact ⟨v, hv, x.1, h2, Prod.ext rfl h1.symm⟩
theorem edg_len {Ps : List (List Int)} {m : Nat} (h : ∀ v, (Ps.getD v []).length ≤ m) (v j : Nat) : (edg Ps v j).length ≤ v * m + m := by
  have h1 : ∀ v, (edg Ps v 0).length ≤ v * m := by
    intro v
    induction v with
    | zero => simp [edg]
    | succ v ih =>
      rw [← edg_next]
      have := h v
      simp only [edg, List.take_zero, List.map_nil, List.append_nil, List.length_append, List.length_map, List.take_length] at ih ⊢
      rw [Nat.succ_mul]; omega
  have h2 := h1 v
  have h3 := h v
  simp only [edg, List.take_zero, List.map_nil, List.append_nil, List.length_append, List.length_map, List.length_take] at h2 ⊢
  omega
/-- Each parent of the first versions is a version, and named once. -/
def OkP (n : Nat) (l : List Int) : Prop := l.Nodup ∧ ∀ p ∈ l, 0 ≤ p ∧ p < (n : Int)
def Valid (Ps : List (List Int)) : Prop := ∀ v, v < Ps.length → OkP Ps.length (Ps.getD v [])
theorem nxt_append (E F : Prs) (a : Nat) : nxt (E ++ F) a = nxt E a ++ nxt F a := by simp [nxt]
theorem nxt_par {l : List Int} (h : l.Nodup) (v a : Nat) : nxt (l.map fun p => (p, (v : Int))) a = if (a : Int) ∈ l then [(v : Int)] else [] := by
  induction l with
  | nil => simp [nxt]
  | cons x l ih =>
    rw [List.nodup_cons] at h
    have e : (x :: l).map (fun p => (p, (v : Int))) = [(x, (v : Int))] ++ l.map fun p => (p, (v : Int)) := rfl
    rw [e, nxt_append, ih h.2]
    by_cases hx : x = (a : Int)
    · subst hx; rw [if_neg h.1, if_pos List.mem_cons_self]; simp [nxt]
    · have : ((a : Int) ∈ x :: l) ↔ (a : Int) ∈ l := by simp [Ne.symm hx]
      simp only [this]
      simp [nxt, hx]
theorem nxt_edg {Ps : List (List Int)} (a : Nat) : ∀ n, (∀ v, v < n → (Ps.getD v []).Nodup) → nxt (edg Ps n 0) a = ((List.range n).filter fun v => decide ((a : Int) ∈ Ps.getD v [])).map fun (v : Nat) => (v : Int)
  | 0, _ => by simp [edg, nxt]
  | n + 1, h => by
    have ih := nxt_edg a n fun v hv => h v (by omega)
    have e : edg Ps (n + 1) 0 = edg Ps n 0 ++ (Ps.getD n []).map fun p => (p, (n : Int)) := by
      rw [← edg_next]; simp [edg]
    rw [e, nxt_append, ih, nxt_par (h n (by omega)), List.range_succ, List.filter_append, List.map_append]
    congr 1
    by_cases hm : (a : Int) ∈ Ps.getD n []
    · rw [if_pos hm, List.filter_cons, if_pos (decide_eq_true hm)]; rfl
    · rw [if_neg hm, List.filter_cons, if_neg (by simpa using hm)]; rfl
theorem nxt_edg_nodup {Ps : List (List Int)} {n : Nat} (h : ∀ v, v < n → (Ps.getD v []).Nodup) (a : Nat) : (nxt (edg Ps n 0) a).Nodup := by
  rw [nxt_edg a n h, List.nodup_iff_pairwise_ne, List.pairwise_map]
  refine List.Pairwise.imp ?_ ((List.nodup_iff_pairwise_ne.1 List.nodup_range).filter _)
  intro x y hne he
  omega
theorem edg_in {Ps : List (List Int)} (h : Valid Ps) : inE Ps.length (edg Ps Ps.length 0) = true := by
  refine List.all_eq_true.2 fun x hx => ?_
  obtain ⟨v, hv, h1, h2⟩ := edg_mem.1 hx
  have := (h v hv).2 _ h2
  simp only [Bool.and_eq_true, decide_eq_true_eq]
  omega
end Go.Proofs.Ytkbkmngbenohkaa
