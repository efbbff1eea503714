/- The laws on orders. Plain Lean; no program. -/
import Derived.Test.YtkbkmngbenohkaaB5
import Derived.Test.YtkbkmngbenohkaaA8
import Derived.Test.YtkbkmngbenohkaaA12
set_option linter.unusedSimpArgs false
set_option linter.unusedVariables false
namespace Go.Proofs.Ytkbkmngbenohkaa
open Go.RowKit

theorem wlt_clo {n : Nat} {E : Prs} (hE : inE n E = true) : wlt (cloW n E) = cl E := by
  funext a b
  by_cases h : a < n ∧ b < n
  · exact cloW_lt h.1 h.2
  · have h2 : cl E a b = false := by
      cases hc : cl E a b with
      | false => rfl
      | true => exact absurd ((cl_iff.1 hc).lt hE) h
    rw [h2]
    by_cases ha : a < n
    · simp [wlt, cloW, List.getD_eq_getElem?_getD, ha, cw_bit]
      intro hb; exact absurd ⟨ha, hb⟩ h
    · simp [wlt, cloW, List.getD_eq_getElem?_getD, ha]
theorem mlt_clo {n : Nat} {E : Prs} (hE : inE n E = true) : mlt (cloM n E) = cl E := by
  funext a b
  by_cases h : a < n ∧ b < n
  · exact cloM_lt h.1 h.2
  · have h2 : cl E a b = false := by
      cases hc : cl E a b with
      | false => rfl
      | true => exact absurd ((cl_iff.1 hc).lt hE) h
    rw [h2]
    by_cases ha : a < n
    · have hb : ¬ b < n := fun hb => h ⟨ha, hb⟩
      simp [mlt, cloM, List.getD_eq_getElem?_getD, ha, hb]
    · simp [mlt, cloM, List.getD_eq_getElem?_getD, ha]
abbrev Cyc (n : Nat) (E : Prs) : Prop := ∃ a, a < n ∧ Clo E a a
theorem cloW_words {n : Nat} {E : Prs} (hn : n ≤ 64) : Words n (cloW n E) := ⟨by simp [cloW], hn, fun w hw => by
  simp only [cloW, List.mem_map] at hw
  obtain ⟨a, _, rfl⟩ := hw
  exact cw_lt n _ hn⟩
theorem cloM_mat {n : Nat} {E : Prs} (hn : n ≤ 64) : Mat n (cloM n E) := ⟨(cloM_mt n E).len, hn, (cloM_mt n E).row⟩

/-! what the reference's Pairs makes -/
theorem prs1_in {n : Nat} (hn : 1 ≤ n) {x : Int} {p : Int × Int} (h : prs1 (n : Int) x = some p) : 0 ≤ p.1 ∧ p.1 < (n : Int) ∧ 0 ≤ p.2 ∧ p.2 < (n : Int) := by
  unfold prs1 at h
  have ha0 := Int.emod_nonneg (around x 1000000) (show (n : Int) ≠ 0 by omega)
  have ha1 := Int.emod_lt_of_pos (around x 1000000) (show 0 < (n : Int) by omega)
  have hb0 := Int.emod_nonneg (around x 1000000 / n) (show (n : Int) ≠ 0 by omega)
  have hb1 := Int.emod_lt_of_pos (around x 1000000 / n) (show 0 < (n : Int) by omega)
  simp only at h
  split at h
  · split at h
    · cases h
    · split at h
      · cases h; exact ⟨hb0, hb1, ha0, ha1⟩
      · cases h; exact ⟨ha0, ha1, hb0, hb1⟩
  · cases h; exact ⟨ha0, ha1, hb0, hb1⟩
theorem pairs_in (n : Nat) (l : List Int) : inE n (pairs (n : Int) l) = true := by
  refine List.all_eq_true.2 fun p hp => ?_
  unfold pairs at hp
  split at hp
  · cases hp
  · unfold prs at hp
    rw [List.mem_filterMap] at hp
    obtain ⟨x, _, hx⟩ := hp
    have := prs1_in (by omega) hx
    simp only [Bool.and_eq_true, decide_eq_true_eq]; omega
theorem pairs_len (n : Int) (l : List Int) : (pairs n l).length ≤ 12 := by
  unfold pairs
  split
  · simp
  · exact prs_len n l 12

/-! covers -/
theorem covB_mem {n : Nat} {lt : Lt} {a k : Nat} {p : Int × Int} : p ∈ covB n lt a k ↔ ∃ b, b < k ∧ cov n lt a b = true ∧ p = ((a : Int), (b : Int)) := by
  simp only [covB, List.mem_map, List.mem_filter, List.mem_range]
  constructor
  · rintro ⟨b, ⟨h1, h2⟩, rfl⟩; exact ⟨b, h1, h2, rfl⟩
  · rintro ⟨b, h1, h2, rfl⟩; exact ⟨b, ⟨h1, h2⟩, rfl⟩
theorem covA_mem {n : Nat} {lt : Lt} {p : Int × Int} : ∀ {m : Nat}, p ∈ covA n lt m ↔ ∃ a b, a < m ∧ b < n ∧ cov n lt a b = true ∧ p = ((a : Int), (b : Int))
  | 0 => by simp [covA]
  | m + 1 => by
    rw [covA, List.mem_append, covA_mem (m := m), covB_mem]
    constructor
    · rintro (⟨a, b, h1, h2, h3, h4⟩ | ⟨b, h1, h2, h3⟩)
      · exact ⟨a, b, by omega, h2, h3, h4⟩
      · exact ⟨m, b, by omega, h1, h2, h3⟩
    · rintro ⟨a, b, h1, h2, h3, h4⟩
      by_cases h : a < m
      · exact .inl ⟨a, b, h, h2, h3, h4⟩
      · obtain rfl : a = m := by omega
        exact .inr ⟨b, h2, h3, h4⟩
theorem covA_nodup (n : Nat) (lt : Lt) : ∀ m, (covA n lt m).Nodup
  | 0 => by simp [covA]
  | m + 1 => by
    rw [covA, List.nodup_append]
    refine ⟨covA_nodup n lt m, ?_, ?_⟩
    · unfold covB
      refine (List.nodup_range.filter _).map _ fun x y hne h => hne ?_
      have := congrArg Prod.snd h
      simp only at this; omega
    · intro p hp q hq he
      subst he
      obtain ⟨a, b, h1, _, _, rfl⟩ := covA_mem.1 hp
      obtain ⟨c, _, _, h4⟩ := covB_mem.1 hq
      have := congrArg Prod.fst h4
      simp only at this; omega
theorem covA_in (n : Nat) (lt : Lt) : inE n (covA n lt n) = true := by
  refine List.all_eq_true.2 fun p hp => ?_
  obtain ⟨a, b, h1, h2, _, rfl⟩ := covA_mem.1 hp
  simp only [Bool.and_eq_true, decide_eq_true_eq]; omega
theorem cov_lt {n : Nat} {lt : Lt} {a b : Nat} (h : cov n lt a b = true) : lt a b = true := by
  rw [cov, Bool.and_eq_true] at h; exact h.1
theorem cov_no {n : Nat} {lt : Lt} {a b c : Nat} (h : cov n lt a b = true) (hc : c < n) (h1 : lt a c = true) : lt c b = false := by
  rw [cov, Bool.and_eq_true] at h
  have := h.2
  rw [Bool.not_eq_true', List.any_eq_false] at this
  have := this c (List.mem_range.2 hc)
  cases hx : lt c b with
  | false => rfl
  | true => rw [h1, hx] at this; exact absurd rfl this
theorem clo_of_cov {n : Nat} {E : Prs} {m : Nat} {a b : Nat} (h : Clo (covA n (cl E) m) a b) : Clo E a b := by
  have key : ∀ {a b : Nat}, ((a : Int), (b : Int)) ∈ covA n (cl E) m → Clo E a b := by
    intro a b h
    obtain ⟨x, y, _, _, h3, h4⟩ := covA_mem.1 h
    have e1 := congrArg Prod.fst h4
    have e2 := congrArg Prod.snd h4
    simp only at e1 e2
    obtain rfl : a = x := by omega
    obtain rfl : b = y := by omega
    exact cl_iff.1 (cov_lt h3)
  induction h with
  | one h => exact key h
  | more h _ ih => exact (key h).trans ih
theorem cov_of_clo {n : Nat} {E : Prs} (hE : inE n E = true) (hC : ¬ Cyc n E) {a b : Nat} (h : Clo E a b) : Clo (covA n (cl E) n) a b := by
  have hS := spo_cl hC
  generalize hm : ((List.range n).filter fun c => cl E a c && cl E c b).length = m
  induction m using Nat.strongRecOn generalizing a b with
  | _ m ih =>
    obtain ⟨ha, hb⟩ := h.lt hE
    by_cases hx : ∃ c, c < n ∧ cl E a c = true ∧ cl E c b = true
    · obtain ⟨c, hc, h1, h2⟩ := hx
      have k1 : ((List.range n).filter fun x => cl E a x && cl E x c).length < m := by
        rw [← hm]
        refine filter_lt (p := fun x => cl E a x && cl E x c) (q := fun x => cl E a x && cl E x b) c (by simp [hS.irr c hc]) (by simp [h1, h2]) (fun x hx hh => ?_) (List.mem_range.2 hc)
        simp only [Bool.and_eq_true] at hh ⊢
        exact ⟨hh.1, hS.tr x c b (List.mem_range.1 hx) hc hb hh.2 h2⟩
      have k2 : ((List.range n).filter fun x => cl E c x && cl E x b).length < m := by
        rw [← hm]
        refine filter_lt (p := fun x => cl E c x && cl E x b) (q := fun x => cl E a x && cl E x b) c (by simp [hS.irr c hc]) (by simp [h1, h2]) (fun x hx hh => ?_) (List.mem_range.2 hc)
        simp only [Bool.and_eq_true] at hh ⊢
        exact ⟨hS.tr a c x ha hc (List.mem_range.1 hx) h1 hh.1, hh.2⟩
      exact (ih _ k1 (cl_iff.1 h1) rfl).trans (ih _ k2 (cl_iff.1 h2) rfl)
    · refine .one (covA_mem.2 ⟨a, b, ha, hb, ?_, rfl⟩)
      rw [cov, cl_iff.2 h, Bool.true_and, Bool.not_eq_true', List.any_eq_false]
      intro c hc hh
      rw [Bool.and_eq_true] at hh
      exact hx ⟨c, List.mem_range.1 hc, hh⟩
theorem cl_cov {n : Nat} {E : Prs} (hE : inE n E = true) (hC : ¬ Cyc n E) : cl (covA n (cl E) n) = cl E := by
  funext a b
  rw [Bool.eq_iff_iff, cl_iff, cl_iff]
  exact ⟨clo_of_cov, cov_of_clo hE hC⟩
theorem Clo.mono {E E' : Prs} (h : ∀ p ∈ E, p ∈ E') {a b : Nat} (hc : Clo E a b) : Clo E' a b := by
  induction hc with
  | one h1 => exact .one (h _ h1)
  | more h1 _ ih => exact .more (h _ h1) ih
theorem cov_cyc {n : Nat} {E : Prs} (hC : ¬ Cyc n E) : ¬ Cyc n (covA n (cl E) n) := fun ⟨a, ha, h⟩ => hC ⟨a, ha, clo_of_cov h⟩
/-- Without the k-th cover. -/
def less1 (S : Prs) (k : Nat) : Prs := S.take k ++ S.drop (k + 1)
theorem less1_mem {S : Prs} {k : Nat} {p : Int × Int} (h : p ∈ less1 S k) : p ∈ S := by
  rcases List.mem_append.1 h with h | h
  · exact List.mem_of_mem_take h
  · exact List.mem_of_mem_drop h
theorem less1_in {n : Nat} {S : Prs} (h : inE n S = true) (k : Nat) : inE n (less1 S k) = true := List.all_eq_true.2 fun p hp => List.all_eq_true.1 h p (less1_mem hp)
theorem less1_cyc {n : Nat} {S : Prs} (h : ¬ Cyc n S) (k : Nat) : ¬ Cyc n (less1 S k) := fun ⟨a, ha, hc⟩ => h ⟨a, ha, hc.mono fun _ => less1_mem⟩
theorem less1_not {S : Prs} (hn : S.Nodup) {k : Nat} (hk : k < S.length) : S[k] ∉ less1 S k := by
  have e : S = S.take k ++ S[k] :: S.drop (k + 1) := by rw [List.getElem_cons_drop, List.take_append_drop]
  rw [e] at hn
  intro h
  rw [List.nodup_append] at hn
  obtain ⟨_, h2, h3⟩ := hn
  rcases List.mem_append.1 h with h | h
  · exact h3 _ h _ List.mem_cons_self rfl
  · exact (List.nodup_cons.1 h2).1 h
theorem less1_no {n : Nat} {E : Prs} (hE : inE n E = true) (hC : ¬ Cyc n E) {k : Nat} (hk : k < (covA n (cl E) n).length) {a b : Nat} (hab : (covA n (cl E) n)[k] = ((a : Int), (b : Int))) : cl (less1 (covA n (cl E) n) k) a b = false := by
  cases hc : cl (less1 (covA n (cl E) n) k) a b with
  | false => rfl
  | true =>
    have hno := less1_not (covA_nodup n (cl E) n) hk
    rw [hab] at hno
    have hcov : cov n (cl E) a b = true := by
      have := List.getElem_mem hk
      rw [hab] at this
      obtain ⟨x, y, _, _, h3, h4⟩ := covA_mem.1 this
      have e1 := congrArg Prod.fst h4
      have e2 := congrArg Prod.snd h4
      simp only at e1 e2
      obtain rfl : a = x := by omega
      obtain rfl : b = y := by omega
      exact h3
    have hlift : ∀ {x y : Nat}, Clo (less1 (covA n (cl E) n) k) x y → Clo E x y := fun h => clo_of_cov (h.mono fun _ => less1_mem)
    cases cl_iff.1 hc with
    | one h => exact absurd h hno
    | more h h2 =>
      rename_i c
      have h3 := hlift (.one h)
      have h4 := hlift h2
      have := cov_no hcov (h3.lt hE).2 (cl_iff.2 h3)
      rw [cl_iff.2 h4] at this; cases this

/-! down -/
theorem rless_iff {n : Nat} {lt : Lt} {a : Nat} {x : Int} : rless n lt (a : Int) x = true ↔ a < n ∧ ∃ b : Nat, x = (b : Int) ∧ b < n ∧ lt a b = true := by
  unfold rless
  rw [Bool.and_eq_true, Bool.and_eq_true, inn_iff, inn_iff, Int.toNat_natCast]
  constructor
  · rintro ⟨⟨h1, h2⟩, h3⟩
    exact ⟨by omega, x.toNat, by omega, by omega, h3⟩
  · rintro ⟨h1, b, rfl, h2, h3⟩
    exact ⟨⟨by omega, by omega⟩, by simpa using h3⟩
theorem downB_iff {n : Nat} {lt : Lt} {l : List Int} {a : Nat} : downB n lt l a = true ↔ ∃ x ∈ l, (a : Int) = x ∨ rless n lt (a : Int) x = true := by
  simp [downB, List.any_eq_true]
theorem downA_mem {n : Nat} {lt : Lt} {l : List Int} {k a : Nat} : a ∈ downA n lt l k ↔ a < k ∧ downB n lt l a = true := by simp [downA]
theorem down_idem {n : Nat} {lt : Lt} (hS : Spo n lt) (l : List Int) : downA n lt ((downA n lt l n).map fun (x : Nat) => (x : Int)) n = downA n lt l n := by
  unfold downA
  apply List.filter_congr
  intro a ha
  have ha := List.mem_range.1 ha
  rw [Bool.eq_iff_iff, downB_iff]
  constructor
  · rintro ⟨x, hx, h⟩
    obtain ⟨b, hb, rfl⟩ := List.mem_map.1 hx
    obtain ⟨hbn, hbd⟩ := downA_mem.1 hb
    rcases h with h | h
    · obtain rfl : a = b := by omega
      exact hbd
    · obtain ⟨_, c, hc, hcn, hlt⟩ := rless_iff.1 h
      obtain rfl : b = c := by omega
      rw [downB_iff] at hbd ⊢
      obtain ⟨y, hy, h2⟩ := hbd
      refine ⟨y, hy, .inr (rless_iff.2 ⟨ha, ?_⟩)⟩
      rcases h2 with rfl | h2
      · exact ⟨b, rfl, hbn, hlt⟩
      · obtain ⟨_, d, rfl, hdn, h3⟩ := rless_iff.1 h2
        exact ⟨d, rfl, hdn, hS.tr a b d ha hbn hdn hlt h3⟩
  · intro h
    exact ⟨(a : Int), List.mem_map.2 ⟨a, downA_mem.2 ⟨ha, h⟩, rfl⟩, .inl rfl⟩
theorem down_app {n : Nat} {lt : Lt} {x y : List Int} {i : Nat} : i ∈ downA n lt (x ++ y) n ↔ i ∈ downA n lt x n ∨ i ∈ downA n lt y n := by
  rw [downA_mem, downA_mem, downA_mem, downB_iff, downB_iff, downB_iff]
  constructor
  · rintro ⟨h, z, hz, h2⟩
    rcases List.mem_append.1 hz with hz | hz
    · exact .inl ⟨h, z, hz, h2⟩
    · exact .inr ⟨h, z, hz, h2⟩
  · rintro (⟨h, z, hz, h2⟩ | ⟨h, z, hz, h2⟩)
    · exact ⟨h, z, List.mem_append_left _ hz, h2⟩
    · exact ⟨h, z, List.mem_append_right _ hz, h2⟩

/-! linear extensions -/
def nl (l : List Nat) : List Int := l.map fun (x : Nat) => (x : Int)
structure LinN (n : Nat) (lt : Lt) (l : List Nat) : Prop where
  len : l.length = n
  bd : ∀ x ∈ l, x < n
  pw : l.Pairwise fun x y => x ≠ y ∧ lt y x = false
theorem islin_iff {n : Nat} {lt : Lt} {l : List Int} : islin n lt l = true ↔ l.length = n ∧ (∀ x ∈ l, 0 ≤ x ∧ x < (n : Int)) ∧ l.Pairwise fun x y => x ≠ y ∧ lt y.toNat x.toNat = false := by
  simp only [islin, okAt, Bool.and_eq_true, decide_eq_true_eq, List.all_eq_true, List.mem_range, inn_iff, bne_iff_ne, Bool.not_eq_true', ne_eq]
  constructor
  · rintro ⟨h1, h2⟩
    refine ⟨h1, fun x hx => ?_, List.pairwise_iff_getElem.2 fun i j hi hj hij => ?_⟩
    · obtain ⟨i, hi, rfl⟩ := List.getElem_of_mem hx
      have := (h2 i hi).1
      rwa [List.getD_eq_getElem?_getD, List.getElem?_eq_getElem hi] at this
    · have := (h2 j hj).2 i hij
      rwa [List.getD_eq_getElem?_getD, List.getElem?_eq_getElem hi, List.getD_eq_getElem?_getD, List.getElem?_eq_getElem hj] at this
  · rintro ⟨h1, h2, h3⟩
    refine ⟨h1, fun i hi => ⟨?_, fun j hj => ?_⟩⟩
    · rw [List.getD_eq_getElem?_getD, List.getElem?_eq_getElem hi]; exact h2 _ (List.getElem_mem hi)
    · rw [getD_at l i 0 hi, getD_at l j 0 (by omega)]
      exact List.pairwise_iff_getElem.1 h3 j i (by omega) hi hj
theorem islin_nl {n : Nat} {lt : Lt} {l : List Nat} : islin n lt (nl l) = true ↔ LinN n lt l := by
  rw [islin_iff]
  simp only [nl, List.length_map, List.mem_map, List.pairwise_map, Int.toNat_natCast]
  constructor
  · rintro ⟨h1, h2, h3⟩
    refine ⟨h1, fun x hx => ?_, h3.imp fun {x y} h => ⟨fun e => h.1 (by rw [e]), h.2⟩⟩
    have := h2 (x : Int) ⟨x, hx, rfl⟩; omega
  · rintro ⟨h1, h2, h3⟩
    refine ⟨h1, ?_, h3.imp fun {x y} h => ⟨fun e => h.1 (by omega), h.2⟩⟩
    rintro _ ⟨x, hx, rfl⟩
    have := h2 x hx; omega
/-- What grows by elements that wait for none. -/
inductive Grow (n : Nat) (lt : Lt) : List Nat → Prop where
  | nil : Grow n lt []
  | snoc {l : List Nat} {a : Nat} (h : Grow n lt l) (ha : a < n) (hf : isfree n lt l a = true) : Grow n lt (l ++ [a])
theorem isfree_iff {n : Nat} {lt : Lt} {out : List Nat} {a : Nat} : isfree n lt out a = true ↔ a ∉ out ∧ ∀ b, b < n → lt b a = true → b ∈ out := by
  simp only [isfree, Bool.and_eq_true, Bool.not_eq_true', List.all_eq_true, List.mem_range, Bool.or_eq_true]
  refine and_congr (by simp) (forall_congr' fun b => forall_congr' fun _ => ?_)
  cases lt b a <;> simp
theorem Grow.down {n : Nat} {lt : Lt} {l : List Nat} (h : Grow n lt l) : ∀ x ∈ l, ∀ b, b < n → lt b x = true → b ∈ l := by
  induction h with
  | nil => intro x hx; cases hx
  | snoc h ha hf ih =>
    intro x hx b hb hlt
    rw [List.mem_append] at hx ⊢
    rcases hx with hx | hx
    · exact .inl (ih x hx b hb hlt)
    · obtain rfl := List.mem_singleton.1 hx
      exact .inl ((isfree_iff.1 hf).2 b hb hlt)
theorem Grow.bd {n : Nat} {lt : Lt} {l : List Nat} (h : Grow n lt l) : ∀ x ∈ l, x < n := by
  induction h with
  | nil => intro x hx; cases hx
  | snoc h ha hf ih =>
    intro x hx
    rcases List.mem_append.1 hx with hx | hx
    · exact ih x hx
    · obtain rfl := List.mem_singleton.1 hx; exact ha
theorem Grow.pw {n : Nat} {lt : Lt} {l : List Nat} (h : Grow n lt l) : l.Pairwise fun x y => x ≠ y ∧ lt y x = false := by
  induction h with
  | nil => exact List.Pairwise.nil
  | snoc h ha hf ih =>
    rename_i l a
    rw [List.pairwise_append]
    refine ⟨ih, List.pairwise_singleton _ _, fun x hx y hy => ?_⟩
    obtain rfl := List.mem_singleton.1 hy
    have hno := (isfree_iff.1 hf).1
    refine ⟨fun e => hno (e ▸ hx), ?_⟩
    cases hlt : lt y x with
    | false => rfl
    | true => exact absurd (h.down x hx y ha hlt) hno
theorem Grow.lin {n : Nat} {lt : Lt} (hS : Spo n lt) : ∀ k, k ≤ n → Grow n lt (lin n lt k)
  | 0, _ => .nil
  | k + 1, hk => by
    have h := next_ok hS (Ytkbkmngbenohkaa.lin n lt k) (by simp; omega)
    exact .snoc (Grow.lin hS k (by omega)) h.1 h.2.1
theorem lin_LinN {n : Nat} {lt : Lt} (hS : Spo n lt) : LinN n lt (lin n lt n) := ⟨by simp, (Grow.lin hS n (Nat.le_refl _)).bd, (Grow.lin hS n (Nat.le_refl _)).pw⟩
theorem swap_lin {n : Nat} {lt : Lt} {A B : List Nat} {x y : Nat} (h : LinN n lt (A ++ x :: y :: B)) : LinN n lt (A ++ y :: x :: B) ↔ lt x y = false := by
  obtain ⟨h1, h2, h3⟩ := h
  rw [List.pairwise_append, List.pairwise_cons, List.pairwise_cons] at h3
  obtain ⟨p1, ⟨p2, p3, p4⟩, p5⟩ := h3
  constructor
  · rintro ⟨_, _, h⟩
    rw [List.pairwise_append, List.pairwise_cons] at h
    exact (h.2.1.1 x List.mem_cons_self).2
  · intro h
    refine ⟨by simpa using h1, fun z hz => h2 z ?_, ?_⟩
    · simp only [List.mem_append, List.mem_cons] at hz ⊢
      rcases hz with hz | rfl | rfl | hz <;> simp [*]
    · rw [List.pairwise_append, List.pairwise_cons, List.pairwise_cons]
      refine ⟨p1, ⟨fun z hz => ?_, fun z hz => p2 z (List.mem_cons_of_mem _ hz), p4⟩, fun a ha z hz => p5 a ha z ?_⟩
      · rcases List.mem_cons.1 hz with rfl | hz
        · exact ⟨fun e => (p2 y List.mem_cons_self).1 e.symm, h⟩
        · exact p3 z hz
      · simp only [List.mem_cons] at hz ⊢
        rcases hz with rfl | rfl | hz <;> simp [*]
end Go.Proofs.Ytkbkmngbenohkaa
