/- The law on how graphs are built: the lists of parents it tries. Plain Lean; no program. -/
import Derived.Test.YtkbkmngbenohkaaBuX0
set_option linter.unusedSimpArgs false
set_option linter.unusedVariables false
namespace Go.Proofs.Ytkbkmngbenohkaa
open Go.RowKit

/-- Lists of parents that New's contract covers. -/
structure BQ (Q : List (List Int)) : Prop where
  n : Q.length ≤ 1000
  m : ∀ v, (Q.getD v []).length ≤ 100
  s : Valid Q → Q.length ≤ 64 → ∀ a, a < Q.length → (nxt (edg Q Q.length 0) a).length ≤ 12
theorem BQ.small {Q : List (List Int)} (h : Q.length ≤ 12) (hm : ∀ v, (Q.getD v []).length ≤ 100) : BQ Q :=
  ⟨by omega, hm, fun hV _ a _ => Nat.le_trans (nxt_edg_len hV a) h⟩
theorem Near.bq {Q : List (List Int)} (h : Near Q) : BQ Q := by
  have h14 := h.n
  refine ⟨by omega, fun v => by have := h.rows v; omega, fun hV _ a _ => ?_⟩
  rw [nxt_edg a Q.length fun v hv => (hV v hv).1, List.length_map]
  exact Nat.le_trans (filter_few (a := a) (m := 4) _ fun v hp => by
    rw [decide_eq_true_eq] at hp
    by_cases hv : v < Q.length
    · have := (h.r v hv).1.b _ hp; omega
    · rw [List.getD_eq_getElem?_getD, List.getElem?_eq_none (by omega)] at hp; cases hp) (by decide)
theorem getD_setL (l : List (List Int)) (i j : Nat) (x : List Int) : (l.set i x).getD j [] = if j = i ∧ i < l.length then x else l.getD j [] := getD_set l i j x []
theorem Near.turned {Q : List (List Int)} (h : Near Q) (k : Nat) (r : List Int) (hr : r.length ≤ 100) : BQ (Q.set k r) := by
  have h14 := h.n
  have hl : (Q.set k r).length = Q.length := List.length_set
  refine ⟨by rw [hl]; omega, fun v => ?_, fun hV _ a _ => ?_⟩
  · rw [getD_setL]
    split
    · exact hr
    · have := h.rows v; omega
  · rw [nxt_edg a (Q.set k r).length fun v hv => (hV v hv).1, List.length_map]
    have hnd : ((List.range (Q.set k r).length).filter fun v => decide ((a : Int) ∈ (Q.set k r).getD v [])).Nodup := List.Pairwise.filter _ List.nodup_range
    have hmem : ∀ v ∈ (List.range (Q.set k r).length).filter (fun v => decide ((a : Int) ∈ (Q.set k r).getD v [])), v ≠ k → a < v ∧ v ≤ a + 4 := by
      intro v hv hne
      obtain ⟨h1, h2⟩ := List.mem_filter.1 hv
      rw [decide_eq_true_eq, getD_setL, if_neg (by simp [hne])] at h2
      have hvn := List.mem_range.1 h1
      have := (h.r v (by omega)).1.b _ h2
      omega
    have h5 := nodup_le 4 ((((List.range (Q.set k r).length).filter fun v => decide ((a : Int) ∈ (Q.set k r).getD v [])).erase k).map fun v => v - a - 1) (by
      rw [List.nodup_iff_pairwise_ne, List.pairwise_map]
      refine List.Pairwise.imp_of_mem ?_ (List.nodup_iff_pairwise_ne.1 (hnd.erase k))
      intro x y hx hy hne he
      have h1 := hmem x (List.mem_of_mem_erase hx) fun e => by subst e; exact (List.Nodup.not_mem_erase hnd) hx
      have h2 := hmem y (List.mem_of_mem_erase hy) fun e => by subst e; exact (List.Nodup.not_mem_erase hnd) hy
      omega) (by
      intro x hx
      obtain ⟨y, hy, rfl⟩ := List.mem_map.1 hx
      have := hmem y (List.mem_of_mem_erase hy) fun e => by subst e; exact (List.Nodup.not_mem_erase hnd) hy
      omega)
    rw [List.length_map] at h5
    have h6 := List.length_erase (a := k) (l := (List.range (Q.set k r).length).filter fun v => decide ((a : Int) ∈ (Q.set k r).getD v []))
    split at h6 <;> omega
theorem BQ.wide (k : Nat) (h : k ≤ 1000) : BQ (List.replicate k []) := by
  have hg : ∀ v, (List.replicate k ([] : List Int)).getD v [] = [] := fun v => by rw [List.getD_eq_getElem?_getD, List.getElem?_replicate]; split <;> rfl
  refine ⟨by simpa using h, fun v => by rw [hg]; exact Nat.zero_le _, fun hV _ a _ => ?_⟩
  rw [nxt_edg a _ fun v hv => (hV v hv).1, List.length_map]
  have : (List.range (List.replicate k ([] : List Int)).length).filter (fun v => decide ((a : Int) ∈ (List.replicate k ([] : List Int)).getD v [])) = [] := by
    rw [List.filter_eq_nil_iff]
    intro v _
    rw [hg]; simp
  rw [this]; exact Nat.zero_le _
/-- What New answers: an error, as the reference says, or a graph. -/
theorem build_cases {Q : List (List Int)} (h : BQ Q) : (∃ e : Int, e ≠ 0 ∧ newV Q = .tup [.v (.pointer none), .v (.int .i64 e)] ∧ newRr Q = e) ∨
    (GG Q.length Q ∧ newV Q = .tup [.fp 0 (gra Q.length (parW Q) (ancW Q.length (edg Q Q.length 0))), .v (.int .i64 0)] ∧ newRr Q = 0) := by
  by_cases h1 : 64 < Q.length
  · exact .inl ⟨2, by decide, if_pos h1, if_pos h1⟩
  · by_cases h2 : Valid Q
    · by_cases h3 : ∃ a, a < Q.length ∧ Clo (edg Q Q.length 0) a a
      · exact .inl ⟨9, by decide, newV_cyc h1 h2 h3, by unfold newRr; rw [if_neg h1, if_neg (fun h => h h2), if_pos h3]⟩
      · refine .inr ⟨⟨rfl, by omega, h2, fun v => ?_, h3⟩, newV_ok h1 h2 h3, by unfold newRr; rw [if_neg h1, if_neg (fun h => h h2), if_neg h3]⟩
        by_cases hv : v < Q.length
        · have := ints_len (h2 v hv).1 (h2 v hv).2; omega
        · rw [List.getD_eq_getElem?_getD, List.getElem?_eq_none (by omega)]; exact Nat.zero_le _
    · exact .inl ⟨1, by decide, newV_arg h1 h2, by unfold newRr; rw [if_neg h1, if_pos h2]⟩
/-- A version's parents, in order. -/
theorem par_sorted {n : Nat} {Q : List (List Int)} (hG : GG n Q) {v : Nat} (hv : v < n) : ((wat n (parW Q) (v : Int)).map fun (x : Nat) => (x : Int)) = ssrt (Q.getD v []) := by
  have hPs := hG.len
  have h1 : wat n (parW Q) (v : Int) = els (pw (Q.getD v [])) := by
    unfold wat
    rw [if_pos (by omega), Int.toNat_natCast, parW_get (by omega)]
  have hok := hG.V v (by omega)
  rw [hPs] at hok
  rw [h1, ssrt_srt, srt_set hok (fun x => decide ((x : Int) ∈ Q.getD v [])) fun x _ => by simp]
  congr 1
  unfold els
  have h64 := hG.n64
  obtain ⟨d, hd⟩ : ∃ d, 64 = n + d := ⟨64 - n, by omega⟩
  have hb : ∀ c, (pw (Q.getD v [])).testBit c = decide ((c : Int) ∈ Q.getD v []) := fun c => pw_bit c _ fun p hp => (hok.2 p hp).1
  rw [hd, List.range_add, List.filter_append]
  have e2 : List.filter (fun b => (pw (Q.getD v [])).testBit b) ((List.range d).map (n + ·)) = [] := by
    rw [List.filter_eq_nil_iff]
    intro b hbm
    obtain ⟨k, _, rfl⟩ := List.mem_map.1 hbm
    rw [hb, decide_eq_true_eq]
    intro hm
    have := hok.2 _ hm
    omega
  rw [e2, List.append_nil]
  exact List.filter_congr fun b _ => hb b
/-- The lists that the law tries. -/
def fewL (raw : List (List Int)) (i : Nat) : List (List Int) := (raw.take i).map fun r => r.take 4
@[simp] theorem fewL_len (raw : List (List Int)) {i : Nat} (h : i ≤ raw.length) : (fewL raw i).length = i := by simp [fewL]; omega
theorem fewL_succ {raw : List (List Int)} {i : Nat} (h : i < raw.length) : fewL raw (i + 1) = fewL raw i ++ [(raw.getD i []).take 4] := by unfold fewL; rw [take1 [] h, List.map_append]; rfl
theorem fewL_bq (raw : List (List Int)) {i : Nat} (h : i ≤ 8) : BQ (fewL raw i) := by
  refine BQ.small (by simp [fewL]; omega) fun v => ?_
  unfold fewL
  simp only [List.getD_eq_getElem?_getD, List.getElem?_map]
  cases (raw.take i)[v]? with
  | none => exact Nat.zero_le _
  | some r => simp only [Option.map_some, Option.getD_some, List.length_take]; omega
end Go.Proofs.Ytkbkmngbenohkaa
