/- IsLinear and Down by the machine: the order's and the reference's. -/
import Derived.Test.YtkbkmngbenohkaaOwA5
set_option linter.unusedSimpArgs false
set_option linter.unusedVariables false
namespace Go.Proofs.Ytkbkmngbenohkaa
open Go.RowKit

def okAt (n : Nat) (lt : Lt) (l : List Int) (i : Nat) : Bool := inn n (l.getD i 0) && (List.range i).all fun j => l.getD j 0 != l.getD i 0 && !lt (l.getD i 0).toNat (l.getD j 0).toNat
def islin (n : Nat) (lt : Lt) (l : List Int) : Bool := decide (l.length = n) && (List.range l.length).all (okAt n lt l)
theorem okAt_no1 {n : Nat} {lt : Lt} {l : List Int} {i : Nat} (h : inn n (l.getD i 0) = false) : okAt n lt l i = false := by rw [okAt, h]; rfl
theorem okAt_no2 {n : Nat} {lt : Lt} {l : List Int} {i j : Nat} (hj : j < i) (h : l.getD j 0 = l.getD i 0 ∨ lt (l.getD i 0).toNat (l.getD j 0).toNat = true) : okAt n lt l i = false := by
  rw [okAt, Bool.and_eq_false_iff]
  right
  rw [List.all_eq_false]
  refine ⟨j, List.mem_range.2 hj, ?_⟩
  rcases h with h | h
  · rw [h]; simp
  · rw [h]; simp
theorem okAt_inn {n : Nat} {lt : Lt} {l : List Int} {i : Nat} (h : okAt n lt l i = true) : 0 ≤ l.getD i 0 ∧ l.getD i 0 < (n : Int) := by
  rw [okAt, Bool.and_eq_true] at h
  exact inn_iff.1 h.1
theorem okAt_yes {n : Nat} {lt : Lt} {l : List Int} {i : Nat} (h : inn n (l.getD i 0) = true) (h2 : ∀ j, j < i → l.getD j 0 ≠ l.getD i 0) (h3 : ∀ j, j < i → lt (l.getD i 0).toNat (l.getD j 0).toNat = false) : okAt n lt l i = true := by
  rw [okAt, h, Bool.true_and, List.all_eq_true]
  intro j hj
  have hj := List.mem_range.1 hj
  rw [h3 j hj]
  simpa using h2 j hj
theorem islin_no {n : Nat} {lt : Lt} {l : List Int} {i : Nat} (hi : i < l.length) (h : okAt n lt l i = false) : islin n lt l = false := by
  rw [islin, Bool.and_eq_false_iff]
  right
  rw [List.all_eq_false]
  exact ⟨i, List.mem_range.2 hi, by rw [h]; decide⟩
theorem islin_len {n : Nat} {lt : Lt} {l : List Int} (h : l.length ≠ n) : islin n lt l = false := by rw [islin, decide_eq_false h]; rfl
theorem islin_yes {n : Nat} {lt : Lt} {l : List Int} (h : l.length = n) (h2 : ∀ i, i < l.length → okAt n lt l i = true) : islin n lt l = true := by
  rw [islin, decide_eq_true h, Bool.true_and, List.all_eq_true]
  exact fun i hi => h2 i (List.mem_range.1 hi)
theorem oks_succ {n : Nat} {lt : Lt} {l : List Int} {i : Nat} (h : ∀ j, j < i → okAt n lt l j = true) (h2 : okAt n lt l i = true) : ∀ j, j < i + 1 → okAt n lt l j = true := by
  intro j hj
  rcases Nat.lt_or_ge j i with h3 | h3
  · exact h j h3
  · obtain rfl : j = i := by omega
    exact h2
theorem all_succ {p : Nat → Prop} {i : Nat} (h : ∀ j, j < i → p j) (h2 : p i) : ∀ j, j < i + 1 → p j := by
  intro j hj
  rcases Nat.lt_or_ge j i with h3 | h3
  · exact h j h3
  · obtain rfl : j = i := by omega
    exact h2
/-- What has been met among the first i. -/
def seenL (n : Nat) (l : List Int) (i : Nat) : List Bool := (List.range n).map fun (x : Nat) => (l.take i).contains (x : Int)
theorem seenL_len (n : Nat) (l : List Int) (i : Nat) : (seenL n l i).length = n := by simp [seenL]
theorem seenL_get (n : Nat) (l : List Int) (i a : Nat) (ha : a < n) : (seenL n l i).getD a false = (l.take i).contains (a : Int) := by simp [seenL, ha]
theorem seenL_zero (n : Nat) (l : List Int) : seenL n l 0 = List.replicate n false := by
  apply List.ext_getElem
  · simp [seenL]
  · intro i h1 h2; simp [seenL]
theorem seenL_add (n : Nat) (l : List Int) (i a : Nat) (hi : i < l.length) (ha : a < n) (h : l.getD i 0 = (a : Int)) : (seenL n l i).set a true = seenL n l (i + 1) := by
  have ht : l.take (i + 1) = l.take i ++ [(a : Int)] := by rw [List.take_succ_eq_append_getElem hi, ← h, getD_at _ _ _ hi]
  apply List.ext_getElem
  · simp [seenL]
  · intro j h1 h2
    rw [List.getElem_set]
    by_cases hj : a = j
    · subst hj; simp [seenL, ht]
    · rw [if_neg hj]
      simp only [seenL, ht, List.getElem_map, List.getElem_range]
      rw [Bool.eq_iff_iff]
      simp only [List.contains_iff_mem, List.mem_append, List.mem_singleton]
      exact ⟨.inl, fun h => h.resolve_right (by omega)⟩
theorem mem_take {l : List Int} {i : Nat} {x : Int} (h : (l.take i).contains x = true) : ∃ j, j < i ∧ j < l.length ∧ l.getD j 0 = x := by
  rw [List.contains_iff_mem] at h
  obtain ⟨j, hj, rfl⟩ := List.getElem_of_mem h
  rw [List.length_take] at hj
  exact ⟨j, by omega, by omega, by rw [getD_at _ _ _ (by omega)]; simp⟩
theorem not_mem_take {l : List Int} {i : Nat} {x : Int} (h : (l.take i).contains x = false) : ∀ j, j < i → j < l.length → l.getD j 0 ≠ x := by
  intro j hj hl e
  have : (l.take i).contains x = true := by
    rw [List.contains_iff_mem]
    refine List.mem_of_getElem? (i := j) ?_
    rw [List.getElem?_take, if_pos hj, List.getElem?_eq_getElem hl, ← e, getD_at _ _ _ hl]
  rw [this] at h; cases h

theorem islinear_spec (n : Nat) (ab : List Nat) (hW : Words n ab) (m : Nat) (l : List Int) (hm : l.length = m) (h1 : m ≤ 4611686018427387904) :
    Spec Try.prog 50 (inSt [.fp 0 (ord n ab), .sl m (isl l)] []) (outSt (.v (.bool (islin n (wlt ab) l))) []) := by
  have hle := hW.le
  have hl := hW.len
  refine Spec.ofN Try.func50 rfl Try.ntmps50 rfl ?_
  refine D_seq fun K1 hK1 => ?_
  refine D_region ?_
  refine DL_c (op_as _ (rfl : _ = AV.v (.bool _))) ?_
  refine DL_nil (hK1 _ ?_)
  clear hK1; try clear K1
  refine D_seq fun K2 hK2 => ?_
  refine D_seq fun K3 hK3 => ?_
  refine D_region ?_
  refine DL_c (op_mv _ (rfl : _ = AV.sl _ _)) ?_
  refine DL_c (op_lenS _ inferInstance rfl) ?_
  refine DL_c (op_mv _ (rfl : _ = AV.fp _ _)) ?_
  refine DL_c (op_nilc _ rfl) ?_
  first
    | refine DL_c (op_fldP _ inferInstance rfl rfl rfl) ?_
    | refine DL_c (op_fldF _ inferInstance rfl rfl) ?_
  refine DL_c (op_ldF _ inferInstance rfl (rfl : _ = some (PV.v (.int .i64 (n : Int)))) rfl) ?_
  first
    | refine DL_c (op_neq _ _ rfl rfl (by assumption)) ?_
    | refine DL_c (op_neq _ _ rfl rfl rfl) ?_
  refine DL_nil (hK3 _ ?_)
  clear hK3; try clear K3
  refine D_splitC rfl (fun hc16 => ?_) (fun hc16 => ?_)
  · skip
    refine D_seq fun K4 hK4 => ?_
    refine D_region ?_
    refine DL_c (op_as _ (rfl : _ = AV.v (.bool _))) ?_
    refine DL_nil (hK4 _ ?_)
    clear hK4; try clear K4
    refine D_ret ?_
    refine ret1 (.inr rfl) rfl (.tmp (rfl : _ = AV.v (.bool _))) (Le.out [] [] (lvB ?_) rfl rfl rfl trivial trivial)
    exact islin_len (by omega)
  · skip
    refine D_skip (hK2 _ ?_)
    clear hK2; try clear K2
    refine D_seq fun K5 hK5 => ?_
    refine D_region ?_
    refine DL_c (op_mv _ (rfl : _ = AV.fp _ _)) ?_
    refine DL_c (op_nilc _ rfl) ?_
    first
      | refine DL_c (op_fldP _ inferInstance rfl rfl rfl) ?_
      | refine DL_c (op_fldF _ inferInstance rfl rfl) ?_
    refine DL_c (op_ldF _ inferInstance rfl (rfl : _ = some (PV.v (.int .i64 (n : Int)))) rfl) ?_
    refine DL_c (op_mk (21, 0) _ _ inferInstance rfl rfl n rfl rfl (by omega) rfl (bsl_falses n)) ?_
    refine DL_c (op_as _ (rfl : _ = AV.ref _ _ _)) ?_
    refine DL_nil (hK5 _ ?_)
    clear hK5; try clear K5
    refine D_seq fun K6 hK6 => ?_
    refine D_seq fun K7 hK7 => ?_
    refine D_region ?_
    refine DL_c (op_mv _ (rfl : _ = AV.sl _ _)) ?_
    refine DL_c (op_lenS _ inferInstance rfl) ?_
    refine DL_c (op_mv _ (rfl : _ = AV.v (.int _ _))) ?_
    refine DL_nil (hK7 _ ?_)
    clear hK7; try clear K7
    refine D_block ?_
    refine D_loopL (α := Nat) (fun i => i ≤ m ∧ m = n ∧ ∀ j, j < i → okAt n (wlt ab) l j = true) 56 [(0, _), (1, _), (5, _), (22, _), (23, _)] [] (fun i => [(24, .v (.int .i64 (i : Int)))]) (fun i => [((21, 0), .row 4 1 (bsl (seenL n l i)))]) [] [] (fun i => m - i) 0 ?_ (by
      refine Le.mkJ [] [] rfl ?_ ?_ trivial trivial ?_
      · exact ⟨(iF rfl), (iS rfl), (iR rfl), (iS rfl), (iV rfl), (lvI (by first | rfl | omega | (simp; done) | (simp; omega) | assumption)), trivial⟩
      · exact ⟨(obR rfl rfl rfl (by rw [seenL_zero])), trivial⟩
      · kernel_rfl) ?_
    · exact ⟨by omega, by omega, fun j hj => by omega⟩
    intro i hi
    obtain ⟨hi, hmn, hok⟩ := hi
    have hsl := seenL_len n l i
    refine D_seq fun K8 hK8 => ?_
    refine D_region ?_
    first
      | refine DL_c (op_lss _ _ rfl rfl (by assumption)) ?_
      | refine DL_c (op_lss _ _ rfl rfl rfl) ?_
    refine DL_nil (hK8 _ ?_)
    clear hK8; try clear K8
    refine D_seq fun K9 hK9 => ?_
    refine D_splitC rfl (fun hc25 => ?_) (fun hc25 => ?_)
    · skip
      refine D_skip (hK9 _ ?_)
      clear hK9; try clear K9
      refine D_seq fun K10 hK10 => ?_
      refine D_block ?_
      refine D_seq fun K11 hK11 => ?_
      refine D_region ?_
      refine DL_c (op_mv _ (rfl : _ = AV.v (.int _ _))) ?_
      first
        | refine DL_c (op_ixS _ _ inferInstance rfl rfl _ rfl (by omega) (by first | assumption | decide | (simp only [isl_len, bsl_len, psl_len, mrows_len, nsl_len, ws_len]; omega) | (simp; done) | (simp; omega) | (simp [isl, bsl]; omega)) (by first | exact Nat.mul_one _ | rfl | omega)) ?_
        | refine DL_c (op_ixS _ _ inferInstance rfl rfl (Int.toNat _) (Int.toNat_of_nonneg (by omega)).symm (by omega) (by first | assumption | decide | (simp only [isl_len, bsl_len, psl_len, mrows_len, nsl_len, ws_len]; omega) | (simp; done) | (simp; omega) | (simp [isl, bsl]; omega)) (by first | exact Nat.mul_one _ | rfl | omega)) ?_
      refine DL_c (op_ldF _ inferInstance rfl (by first | rfl | exact isl_get _ _ (by omega) | exact bsl_get _ _ (by omega) | assumption | exact mrows_get _ _ (by omega) | exact nsl_get _ _ (by omega)) rfl) ?_
      refine DL_c (op_as _ (rfl : _ = AV.v (.int _ _))) ?_
      refine DL_c (op_as _ (rfl : _ = AV.v (.int _ _))) ?_
      refine DL_nil (hK11 _ ?_)
      clear hK11; try clear K11
      refine D_seq fun K12 hK12 => ?_
      refine D_seq fun K13 hK13 => ?_
      refine D_region ?_
      refine DL_c (op_mv _ (rfl : _ = AV.fp _ _)) ?_
      refine DL_c (op_mv _ (rfl : _ = AV.v (.int _ _))) ?_
      refine DL_c (op_callH inferInstance (by repeat' (first | exact argsLv_nil | refine argsLv_cons ?_ ?_ | exact Lv.v | exact lvI (by omega) | exact Lv.sl | exact Lv.fp | exact Lv.nil | refine Lv.agg rfl ?_ | refine Lv.fn rfl ?_ rfl ?_ | exact lv_nil | refine lv_cons ?_ ?_ | exact Lv.z0)) (ohas_spec n ab (l.getD i 0)) rfl rfl) ?_
      refine DL_c (op_not _ rfl rfl) ?_
      refine DL_c (op_mv _ (rfl : _ = AV.v (.bool _))) ?_
      refine DL_caseC (fun hg33 => ?_) (fun hg33 => ?_)
      · skip
        refine DL_cn rfl rfl (by decide) ?_
        refine DL_cn rfl rfl (by decide) ?_
        refine DL_cn rfl rfl (by decide) ?_
        refine DL_cn rfl rfl (by decide) ?_
        refine DL_c (op_pick _ _ _ rfl (rfl : _ = AV.v (.bool _))) ?_
        refine DL_nil (hK13 _ ?_)
        clear hK13; try clear K13
        refine D_cT rfl rfl ?_
        refine D_seq fun K14 hK14 => ?_
        refine D_le (σ' := mkStI 56 [] [] [] []) (by
          refine Le.mkJ [] [] rfl ?_ ?_ trivial trivial ?_
          · exact trivial
          · exact trivial
          · kernel_rfl) ?_
        refine D_region ?_
        refine DL_c (op_as _ (rfl : _ = AV.v (.bool _))) ?_
        refine DL_nil (hK14 _ ?_)
        clear hK14; try clear K14
        refine D_ret ?_
        refine ret1 (.inr rfl) rfl (.tmp (rfl : _ = AV.v (.bool _))) (Le.out [] [] (lvB ?_) rfl rfl rfl trivial trivial)
        exact islin_no (i := i) (by omega) (okAt_no1 hg33)
      · skip
        have hin := inn_iff.1 hg33
        obtain ⟨a, ha⟩ := Int.eq_ofNat_of_zero_le hin.1
        have hsg := seenL_get n l i a (by omega)
        refine DL_cy rfl rfl (op_mv _ (rfl : _ = AV.ref _ _ _)) ?_
        refine DL_cy rfl rfl (op_mv _ (rfl : _ = AV.v (.int _ _))) ?_
        refine DL_cy rfl rfl (op_ixR _ _ inferInstance rfl rfl rfl a ha (by omega) (by exact (Nat.zero_add _).trans (Nat.mul_one _))) ?_
        first
          | refine DL_cy rfl rfl (op_ldR _ inferInstance rfl rfl (by first | rfl | exact isl_get _ _ (by omega) | exact bsl_get _ _ (by omega) | assumption | exact mrows_get _ _ (by omega) | exact nsl_get _ _ (by omega)) rfl) ?_
          | refine DL_cy rfl rfl (op_ldB _ inferInstance rfl rfl (rfl : _ = some (AV.v (.bool _)))) ?_
        refine DL_c (op_pick _ _ _ rfl (rfl : _ = AV.v (.bool _))) ?_
        refine DL_nil (hK13 _ ?_)
        clear hK13; try clear K13
        refine D_splitC rfl (fun hc38 => ?_) (fun hc38 => ?_)
        · skip
          refine D_seq fun K15 hK15 => ?_
          refine D_le (σ' := mkStI 56 [] [] [] []) (by
            refine Le.mkJ [] [] rfl ?_ ?_ trivial trivial ?_
            · exact trivial
            · exact trivial
            · kernel_rfl) ?_
          refine D_region ?_
          refine DL_c (op_as _ (rfl : _ = AV.v (.bool _))) ?_
          refine DL_nil (hK15 _ ?_)
          clear hK15; try clear K15
          refine D_ret ?_
          refine ret1 (.inr rfl) rfl (.tmp (rfl : _ = AV.v (.bool _))) (Le.out [] [] (lvB ?_) rfl rfl rfl trivial trivial)
          rw [hsg] at hc38
          obtain ⟨j, h2, h3, h4⟩ := mem_take hc38
          exact islin_no (i := i) (by omega) (okAt_no2 (j := j) h2 (.inl (by rw [h4, ha])))
        · skip
          rw [hsg] at hc38
          have hnm := not_mem_take hc38
          refine D_skip (hK12 _ ?_)
          clear hK12; try clear K12
          refine D_seq fun K16 hK16 => ?_
          refine D_le (σ' := mkStI 56 [(0, _), (1, _), (5, _), (6, _), (7, _), (22, _), (23, _), (24, _)] [((21, 0), _)] [] []) (by
            refine Le.mkJ [] [] rfl ?_ ?_ trivial trivial ?_
            · exact ⟨(iF rfl), (iS rfl), (iR rfl), (iV rfl), (iV rfl), (iS rfl), (iV rfl), (iV rfl), trivial⟩
            · exact ⟨(obE rfl rfl rfl), trivial⟩
            · kernel_rfl) ?_
          refine D_region ?_
          refine DL_c (op_mv _ (rfl : _ = AV.ref _ _ _)) ?_
          refine DL_c (op_mv _ (rfl : _ = AV.v (.int _ _))) ?_
          refine DL_c (op_ixR _ _ inferInstance rfl rfl rfl a ha (by omega) (by exact (Nat.zero_add _).trans (Nat.mul_one _))) ?_
          first
            | refine DL_c (op_stB _ _ inferInstance rfl rfl rfl rfl (Nat.le_of_ble_eq_true rfl) rfl) ?_
            | refine DL_c (op_stR _ _ inferInstance rfl rfl rfl rfl rfl (by first | exact Nat.le_of_ble_eq_true rfl | (simp only [isl_len, bsl_len, psl_len, mrows_len, nsl_len, ws_len, List.length_cons, List.length_nil]; omega) | (simp; done) | (simp; omega)) rfl) ?_
          refine DL_nil (hK16 _ ?_)
          clear hK16; try clear K16
          refine D_seq fun K17 hK17 => ?_
          refine D_region ?_
          refine DL_c (op_mv _ (rfl : _ = AV.sl _ _)) ?_
          refine DL_c (op_mv _ (rfl : _ = AV.v (.int _ _))) ?_
          refine DL_c (op_slS _ _ _ inferInstance rfl 0 _ .dflt (.lit rfl rfl) (by omega) (by omega) (by first | exact isl_pre _ _ | exact psl_pre _ _ | exact bsl_pre _ _) (Nat.sub_zero _)) ?_
          refine DL_c (op_lenS _ inferInstance rfl) ?_
          refine DL_c (op_mv _ (rfl : _ = AV.v (.int _ _))) ?_
          refine DL_nil (hK17 _ ?_)
          clear hK17; try clear K17
          refine D_block ?_
          refine D_loopL (α := Nat) (fun j => j ≤ i ∧ ∀ q, q < j → wlt ab (l.getD i 0).toNat (l.getD q 0).toNat = false) 56 [(0, _), (1, _), (5, _), (7, _), (22, _), (23, _), (24, _), (44, _), (45, _)] [((21, 0), _)] (fun j => [(46, .v (.int .i64 (j : Int)))]) (fun j => []) [] [] (fun j => i - j) 0 ?_ (by
            refine Le.mkJ [] [] rfl ?_ ?_ trivial trivial ?_
            · exact ⟨(iF rfl), (iS rfl), (iR rfl), (iV rfl), (iS rfl), (iV rfl), (iV rfl), (iS rfl), (iV rfl), (lvI (by first | rfl | omega | (simp; done) | (simp; omega) | assumption)), trivial⟩
            · exact ⟨(obE rfl rfl rfl), trivial⟩
            · kernel_rfl) ?_
          · exact ⟨by omega, fun q hq => by omega⟩
          intro j hj
          obtain ⟨hj, hjs⟩ := hj
          refine D_seq fun K18 hK18 => ?_
          refine D_region ?_
          first
            | refine DL_c (op_lss _ _ rfl rfl (by assumption)) ?_
            | refine DL_c (op_lss _ _ rfl rfl rfl) ?_
          refine DL_nil (hK18 _ ?_)
          clear hK18; try clear K18
          refine D_seq fun K19 hK19 => ?_
          refine D_splitC rfl (fun hc47 => ?_) (fun hc47 => ?_)
          · skip
            have hbj := okAt_inn (hok j (by omega))
            have hls := less_spec n ab hW (l.getD i 0) (l.getD j 0)
            have e1 : oless n ab (l.getD i 0) (l.getD j 0) = wlt ab (l.getD i 0).toNat (l.getD j 0).toNat := by rw [oless, inn_iff.2 hin, inn_iff.2 hbj]; rfl
            rw [e1] at hls
            refine D_skip (hK19 _ ?_)
            clear hK19; try clear K19
            refine D_seq fun K20 hK20 => ?_
            refine D_block ?_
            refine D_seq fun K21 hK21 => ?_
            refine D_region ?_
            refine DL_c (op_ixS _ _ inferInstance rfl rfl j rfl (by omega) (by rw [isl_len, List.length_take]; omega) (Nat.mul_one _)) ?_
            refine DL_c (op_ldF _ inferInstance rfl (isl_get_take l j i (by omega) (by omega)) rfl) ?_
            refine DL_c (op_as _ (rfl : _ = AV.v (.int _ _))) ?_
            refine DL_nil (hK21 _ ?_)
            clear hK21; try clear K21
            refine D_seq fun K22 hK22 => ?_
            refine D_region ?_
            refine DL_c (op_mv _ (rfl : _ = AV.fp _ _)) ?_
            refine DL_c (op_mv _ (rfl : _ = AV.v (.int _ _))) ?_
            refine DL_c (op_mv _ (rfl : _ = AV.v (.int _ _))) ?_
            refine DL_c (op_callH inferInstance (by repeat' (first | exact argsLv_nil | refine argsLv_cons ?_ ?_ | exact Lv.v | exact lvI (by omega) | exact Lv.sl | exact Lv.fp | exact Lv.nil | refine Lv.agg rfl ?_ | refine Lv.fn rfl ?_ rfl ?_ | exact lv_nil | refine lv_cons ?_ ?_ | exact Lv.z0)) (hls) rfl rfl) ?_
            refine DL_nil (hK22 _ ?_)
            clear hK22; try clear K22
            refine D_splitC rfl (fun hc53 => ?_) (fun hc53 => ?_)
            · skip
              refine D_seq fun K23 hK23 => ?_
              refine D_region ?_
              refine DL_c (op_as _ (rfl : _ = AV.v (.bool _))) ?_
              refine DL_nil (hK23 _ ?_)
              clear hK23; try clear K23
              refine D_ret ?_
              refine ret1 (.inr rfl) rfl (.tmp (rfl : _ = AV.v (.bool _))) (Le.out [] [] (lvB ?_) rfl rfl rfl trivial trivial)
              exact islin_no (i := i) (by omega) (okAt_no2 (j := j) (by omega) (.inr hc53))
            · skip
              refine D_skip (hK20 _ ?_)
              clear hK20; try clear K20
              refine D_region ?_
              first
                | refine DL_c (op_add _ _ rfl rfl (i64w (by omega))) ?_
                | refine DL_c (op_add _ _ rfl rfl rfl) ?_
              refine DL_c (op_mv _ (rfl : _ = AV.v (.int _ _))) ?_
              refine DL_nil ?_
              refine ⟨j + 1, ?_, ?_, ?_⟩
              · exact ⟨by omega, all_succ hjs hc53⟩
              · skip
                refine Le.mkJ [] [] rfl ?_ ?_ trivial trivial ?_
                · exact ⟨(iF rfl), (iS rfl), (iR rfl), (iV rfl), (iS rfl), (iV rfl), (iV rfl), (iS rfl), (iV rfl), (lvI (by first | rfl | omega | (simp; done) | (simp; omega) | assumption)), trivial⟩
                · exact ⟨(obE rfl rfl rfl), trivial⟩
                · kernel_rfl
              · omega
          · skip
            obtain rfl : i = j := by omega
            refine D_exit ?_
            refine id (hK10 _ ?_)
            clear hK10; try clear K10
            refine D_region ?_
            first
              | refine DL_c (op_add _ _ rfl rfl (i64w (by omega))) ?_
              | refine DL_c (op_add _ _ rfl rfl rfl) ?_
            refine DL_c (op_mv _ (rfl : _ = AV.v (.int _ _))) ?_
            refine DL_nil ?_
            refine ⟨i + 1, ?_, ?_, ?_⟩
            · exact ⟨by omega, hmn, oks_succ hok (okAt_yes hg33 (fun j hj => by rw [ha]; exact hnm j hj (by omega)) hjs)⟩
            · skip
              refine Le.mkJ [] [] rfl ?_ ?_ trivial trivial ?_
              · exact ⟨(iF rfl), (iS rfl), (iR rfl), (iS rfl), (iV rfl), (lvI (by first | rfl | omega | (simp; done) | (simp; omega) | assumption)), trivial⟩
              · exact ⟨(obR rfl rfl rfl (by rw [← seenL_add n l i a (by omega) (by omega) ha, ← bsl_put _ _ _ (by omega)])), trivial⟩
              · kernel_rfl
            · omega
    · skip
      refine D_exit ?_
      refine id (hK6 _ ?_)
      clear hK6; try clear K6
      refine D_seq fun K24 hK24 => ?_
      refine D_region ?_
      refine DL_c (op_as _ (rfl : _ = AV.v (.bool _))) ?_
      refine DL_nil (hK24 _ ?_)
      clear hK24; try clear K24
      refine D_ret ?_
      refine ret1 (.inr rfl) rfl (.tmp (rfl : _ = AV.v (.bool _))) (Le.out [] [] (lvB ?_) rfl rfl rfl trivial trivial)
      exact islin_yes (by omega) fun j hj => hok j (by omega)
end Go.Proofs.Ytkbkmngbenohkaa
