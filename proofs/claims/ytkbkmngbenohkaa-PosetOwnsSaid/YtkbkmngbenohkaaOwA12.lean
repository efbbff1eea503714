/- The reference's Pairs by the machine. -/
import Derived.Test.YtkbkmngbenohkaaOwA11
set_option linter.unusedSimpArgs false
set_option linter.unusedVariables false
namespace Go.Proofs.Ytkbkmngbenohkaa
open Go.RowKit

theorem rng_at {l : List Int} (hr : Rng l) {i : Nat} (h : i < l.length) : -9223372036854775808 ≤ l.getD i 0 ∧ l.getD i 0 ≤ 9223372036854775807 := by
  refine hr _ ?_
  rw [List.getD_eq_getElem?_getD, List.getElem?_eq_getElem h]; exact List.getElem_mem h
theorem pairs_eq {n : Int} {l : List Int} {i : Nat} (hn : 1 ≤ n) (h : i = 12 ∨ (i = l.length ∧ i ≤ 12)) : pairs n l = prs n l i := by
  unfold pairs
  rw [if_neg (by omega)]
  rcases h with rfl | ⟨rfl, h⟩
  · rfl
  · unfold prs
    rw [List.take_of_length_le (by omega), List.take_of_length_le (by omega)]
theorem pairs_own (n : Int) (h0 : 0 ≤ n) (h9 : n ≤ 9) (m : Nat) (l : List Int) (hm : l.length = m) (h1 : m ≤ 4611686018427387904) (hr : Rng l) :
    Spec Try.prog 32 (inSt [.v (.int .i64 n), .sl m (isl l)] []) (outSt (.ref (0, 8) 0 (pairs n l).length) [((0, 8), .row 38 2 (psl (pairs n l)))]) := by
  have hnn0 : 0 ≤ n * n := Int.mul_nonneg h0 h0
  have hnn : n * n ≤ 81 := Int.le_trans (Int.mul_le_mul_of_nonneg_left h9 h0) (by omega)
  refine Spec.ofN Try.func32 rfl Try.ntmps32 rfl ?_
  refine D_seq fun K1 hK1 => ?_
  refine D_region ?_
  first
    | refine DL_c (op_as _ (rfl : _ = AV.sl _ _)) ?_
    | refine DL_c (op_as _ (rfl : _ = AV.ref _ _ _)) ?_
    | refine DL_c (op_as _ (rfl : _ = AV.v (.slice _ _ _))) ?_
    | refine DL_c (op_as _ (rfl : _ = AV.z)) ?_
  refine DL_nil (hK1 _ ?_)
  clear hK1; try clear K1
  refine D_seq fun K2 hK2 => ?_
  refine D_region ?_
  refine DL_c (op_asN (5, 0) _ 38 2 rfl rfl) ?_
  refine DL_nil (hK2 _ ?_)
  clear hK2; try clear K2
  refine D_seq fun K3 hK3 => ?_
  refine D_seq fun K4 hK4 => ?_
  refine D_region ?_
  refine DL_c (op_mv _ (rfl : _ = AV.v (.int _ _))) ?_
  first
    | refine DL_c (op_lss _ _ rfl rfl (by assumption)) ?_
    | refine DL_c (op_lss _ _ rfl rfl rfl) ?_
  refine DL_nil (hK4 _ ?_)
  clear hK4; try clear K4
  refine D_splitC rfl (fun hc12 => ?_) (fun hc12 => ?_)
  · skip
    refine D_seq fun K5 hK5 => ?_
    refine D_region ?_
    refine DL_c (op_mv _ (rfl : _ = AV.ref _ _ _)) ?_
    refine DL_c (op_as _ (rfl : _ = AV.ref _ _ _)) ?_
    refine DL_nil (hK5 _ ?_)
    clear hK5; try clear K5
    refine D_ret ?_
    exact ret1 (.inr rfl) rfl (.tmp (rfl : _ = AV.ref _ _ _)) (Le.out [((0, 8), (5, 0))] [] (lvRr rfl (by rw [show pairs n l = [] from if_pos (by omega)]; rfl)) rfl rfl rfl trivial ⟨⟨rfl, ⟨_, rfl, .rowE (by rw [show pairs n l = [] from if_pos (by omega)]; rfl)⟩, rfl⟩, trivial⟩)
  · skip
    have hn2 : 1 ≤ n * n := Int.le_trans (by omega : (1 : Int) ≤ 1 * 1) (Int.mul_le_mul (by omega) (by omega) (by omega) (by omega))
    refine D_skip (hK3 _ ?_)
    clear hK3; try clear K3
    refine D_seq fun K6 hK6 => ?_
    refine D_seq fun K7 hK7 => ?_
    refine D_region ?_
    refine DL_c (op_as _ (rfl : _ = AV.v (.int _ _))) ?_
    refine DL_nil (hK7 _ ?_)
    clear hK7; try clear K7
    refine D_block ?_
    refine D_loopL (α := Nat) (fun i => i ≤ m ∧ i ≤ 12) 64 [(0, _), (1, _)] [] (fun i => [(6, .v (.int .i64 (i : Int))), (5, .ref (5, 0) 0 (prs n l i).length)]) (fun i => [((5, 0), .row 38 2 (psl (prs n l i)))]) [] [] (fun i => 12 - i) 0 ?_ (by
      refine Le.mkJ [] [] rfl ?_ ?_ trivial trivial ?_
      · exact ⟨(iV rfl), (iS rfl), (lvI (by first | rfl | omega | (first | (rw [hps, List.length_append]; rfl) | (rw [hps, ← psl_append]; rfl)) | (simp; done) | (simp; omega) | assumption)), (lvRr rfl (by first | rfl | omega | (first | (rw [hps, List.length_append]; rfl) | (rw [hps, ← psl_append]; rfl)) | (simp; done) | (simp; omega) | assumption)), trivial⟩
      · exact ⟨(obR rfl rfl rfl (by first | rfl | omega | (first | (rw [hps, List.length_append]; rfl) | (rw [hps, ← psl_append]; rfl)) | (simp; done) | (simp; omega) | assumption)), trivial⟩
      · kernel_rfl) ?_
    · first | omega | trivial | exact ⟨by omega, by omega⟩
    intro i hi
    have hpl := prs_len n l i
    refine D_seq fun K8 hK8 => ?_
    refine D_seq fun K9 hK9 => ?_
    refine D_region ?_
    refine DL_c (op_mv _ (rfl : _ = AV.v (.int _ _))) ?_
    refine DL_c (op_mv _ (rfl : _ = AV.sl _ _)) ?_
    refine DL_c (op_lenS _ inferInstance rfl) ?_
    first
      | refine DL_c (op_lss _ _ rfl rfl (by assumption)) ?_
      | refine DL_c (op_lss _ _ rfl rfl rfl) ?_
    refine DL_c (op_mv _ (rfl : _ = AV.v (.bool _))) ?_
    refine DL_caseC (fun hg18 => ?_) (fun hg18 => ?_)
    · skip
      refine DL_cy rfl rfl (op_mv _ (rfl : _ = AV.v (.int _ _))) ?_
      first
        | refine DL_cy rfl rfl (op_lss _ _ rfl rfl (by assumption)) ?_
        | refine DL_cy rfl rfl (op_lss _ _ rfl rfl rfl) ?_
      refine DL_c (op_pick _ _ _ rfl (rfl : _ = AV.v (.bool _))) ?_
      refine DL_nil (hK9 _ ?_)
      clear hK9; try clear K9
      refine D_splitC rfl (fun hc21 => ?_) (fun hc21 => ?_)
      · skip
        have hk0 := around_lo (l.getD i 0) 1000000 (by omega)
        have hk1 := around_hi (l.getD i 0) 1000000 (by omega)
        have hq0 := Int.ediv_nonneg hk0 h0
        have hq1 := Int.ediv_nonneg hk0 hnn0
        have hq2 := Int.ediv_le_self n hk0
        have ha0 := Int.emod_nonneg (around (l.getD i 0) 1000000) (show n ≠ 0 by omega)
        have ha1 := Int.emod_lt_of_pos (around (l.getD i 0) 1000000) (show 0 < n by omega)
        have hb0 := Int.emod_nonneg (around (l.getD i 0) 1000000 / n) (show n ≠ 0 by omega)
        have hb1 := Int.emod_lt_of_pos (around (l.getD i 0) 1000000 / n) (show 0 < n by omega)
        have hps := prs_succ (n := n) (l := l) (i := i) (by omega)
        refine D_skip (hK8 _ ?_)
        clear hK8; try clear K8
        refine D_seq fun K10 hK10 => ?_
        refine D_block ?_
        refine D_seq fun K11 hK11 => ?_
        refine D_region ?_
        refine DL_c (op_mv _ (rfl : _ = AV.sl _ _)) ?_
        refine DL_c (op_mv _ (rfl : _ = AV.v (.int _ _))) ?_
        first
          | refine DL_c (op_ixS _ _ inferInstance rfl rfl _ rfl (by omega) (by first | assumption | decide | (simp only [isl_len, bsl_len, psl_len, mrows_len, nsl_len, ws_len, List.length_map, mzero_len]; omega) | (simp; done) | (simp; omega) | (simp [isl, bsl]; omega)) (by first | exact Nat.mul_one _ | rfl | omega)) ?_
          | refine DL_c (op_ixS _ _ inferInstance rfl rfl (Int.toNat _) (Int.toNat_of_nonneg (by omega)).symm (by omega) (by first | assumption | decide | (simp only [isl_len, bsl_len, psl_len, mrows_len, nsl_len, ws_len, List.length_map, mzero_len]; omega) | (simp; done) | (simp; omega) | (simp [isl, bsl]; omega)) (by first | exact Nat.mul_one _ | rfl | omega)) ?_
        refine DL_c (op_ldF _ inferInstance rfl (by first | rfl | exact isl_get _ _ (by omega) | exact bsl_get _ _ (by omega) | assumption) rfl) ?_
        refine DL_c (op_callH inferInstance (by repeat' (first | exact argsLv_nil | refine argsLv_cons ?_ ?_ | exact Lv.v | exact lvI (by omega) | exact Lv.sl | exact Lv.fp | exact Lv.nil | refine Lv.agg rfl ?_ | refine Lv.fn rfl ?_ rfl ?_ | exact lv_nil | refine lv_cons ?_ ?_ | exact Lv.z0)) (around_spec (l.getD i 0) 1000000 (by omega) (by omega) (rng_at hr (by omega)).1 (rng_at hr (by omega)).2) rfl rfl) ?_
        refine DL_c (op_as _ (rfl : _ = AV.v (.int _ _))) ?_
        refine DL_nil (hK11 _ ?_)
        clear hK11; try clear K11
        refine D_seq fun K12 hK12 => ?_
        refine D_region ?_
        refine DL_c (op_mv _ (rfl : _ = AV.v (.int _ _))) ?_
        refine DL_c (op_mv _ (rfl : _ = AV.v (.int _ _))) ?_
        first
          | refine DL_c (op_rem _ _ rfl rfl (by omega) (Int.tmod_eq_emod_of_nonneg (by omega))) ?_
          | refine DL_c (op_rem _ _ rfl rfl (by omega) rfl) ?_
        refine DL_c (op_as _ (rfl : _ = AV.v (.int _ _))) ?_
        refine DL_nil (hK12 _ ?_)
        clear hK12; try clear K12
        refine D_seq fun K13 hK13 => ?_
        refine D_le (σ' := mkStI 64 [(0, _), (1, _), (5, _), (6, _), (7, _), (8, _)] [((5, 0), _)] [] []) (by
          refine Le.mkJ [] [] rfl ?_ ?_ trivial trivial ?_
          · exact ⟨(iV rfl), (iS rfl), (iR rfl), (iV rfl), (iV rfl), (iV rfl), trivial⟩
          · exact ⟨(obE rfl rfl rfl), trivial⟩
          · kernel_rfl) ?_
        refine D_region ?_
        refine DL_c (op_mv _ (rfl : _ = AV.v (.int _ _))) ?_
        refine DL_c (op_mv _ (rfl : _ = AV.v (.int _ _))) ?_
        refine DL_c (op_quo _ _ rfl rfl (by omega) ((i64w (by rw [Int.tdiv_eq_ediv_of_nonneg hk0]; omega)).trans (Int.tdiv_eq_ediv_of_nonneg hk0))) ?_
        refine DL_c (op_mv _ (rfl : _ = AV.v (.int _ _))) ?_
        first
          | refine DL_c (op_rem _ _ rfl rfl (by omega) (Int.tmod_eq_emod_of_nonneg (by omega))) ?_
          | refine DL_c (op_rem _ _ rfl rfl (by omega) rfl) ?_
        refine DL_c (op_as _ (rfl : _ = AV.v (.int _ _))) ?_
        refine DL_nil (hK13 _ ?_)
        clear hK13; try clear K13
        refine D_seq fun K14 hK14 => ?_
        refine D_seq fun K15 hK15 => ?_
        refine D_region ?_
        refine DL_c (op_mv _ (rfl : _ = AV.v (.int _ _))) ?_
        refine DL_c (op_mv _ (rfl : _ = AV.v (.int _ _))) ?_
        refine DL_c (op_mv _ (rfl : _ = AV.v (.int _ _))) ?_
        first
          | refine DL_c (op_mul _ _ rfl rfl (i64w (by omega))) ?_
          | refine DL_c (op_mul _ _ rfl rfl rfl) ?_
        refine DL_c (op_quo _ _ rfl rfl (by omega) ((i64w (by rw [Int.tdiv_eq_ediv_of_nonneg hk0]; have := Int.ediv_le_self (n * n) hk0; omega)).trans (Int.tdiv_eq_ediv_of_nonneg hk0))) ?_
        first
          | refine DL_c (op_rem _ _ rfl rfl (by omega) (Int.tmod_eq_emod_of_nonneg (by omega))) ?_
          | refine DL_c (op_rem _ _ rfl rfl (by omega) rfl) ?_
        first
          | refine DL_c (op_gtr _ _ rfl rfl (by assumption)) ?_
          | refine DL_c (op_gtr _ _ rfl rfl rfl) ?_
        refine DL_nil (hK15 _ ?_)
        clear hK15; try clear K15
        refine D_splitC rfl (fun hc43 => ?_) (fun hc43 => ?_)
        · skip
          refine D_seq fun K16 hK16 => ?_
          refine D_seq fun K17 hK17 => ?_
          refine D_region ?_
          refine DL_c (op_mv _ (rfl : _ = AV.v (.int _ _))) ?_
          refine DL_c (op_mv _ (rfl : _ = AV.v (.int _ _))) ?_
          first
            | refine DL_c (op_eql _ _ rfl rfl (by assumption)) ?_
            | refine DL_c (op_eql _ _ rfl rfl rfl) ?_
          refine DL_nil (hK17 _ ?_)
          clear hK17; try clear K17
          refine D_splitC rfl (fun hc46 => ?_) (fun hc46 => ?_)
          · skip
            have hp1 : prs1 n (l.getD i 0) = none := by simp only [prs1]; rw [if_pos hc43, if_pos hc46]
            rw [hp1, Option.toList_none, List.append_nil] at hps
            refine D_exit ?_
            refine id (hK10 _ ?_)
            clear hK10; try clear K10
            refine D_le (σ' := mkStI 64 [(0, _), (1, _), (5, _), (6, _)] [((5, 0), _)] [] []) (by
              refine Le.mkJ [] [] rfl ?_ ?_ trivial trivial ?_
              · exact ⟨(iV rfl), (iS rfl), (iR rfl), (iV rfl), trivial⟩
              · exact ⟨(obE rfl rfl rfl), trivial⟩
              · kernel_rfl) ?_
            refine D_region ?_
            refine DL_c (op_mv _ (rfl : _ = AV.v (.int _ _))) ?_
            first
              | refine DL_c (op_add _ _ rfl rfl (i64w (by omega))) ?_
              | refine DL_c (op_add _ _ rfl rfl rfl) ?_
            refine DL_c (op_as _ (rfl : _ = AV.v (.int _ _))) ?_
            refine DL_nil ?_
            refine ⟨i + 1, ?_, ?_, ?_⟩
            · first | omega | trivial | exact ⟨by omega, by omega⟩
            · skip
              refine Le.mkJ [] [] rfl ?_ ?_ trivial trivial ?_
              · exact ⟨(iV rfl), (iS rfl), (lvI (by first | rfl | omega | (rw [hps]) | (simp; done) | (simp; omega) | assumption)), (lvRr rfl (by first | rfl | omega | (rw [hps]) | (simp; done) | (simp; omega) | assumption)), trivial⟩
              · exact ⟨(obR rfl rfl rfl (by first | rfl | omega | (rw [hps]) | (simp; done) | (simp; omega) | assumption)), trivial⟩
              · kernel_rfl
            · omega
          · skip
            refine D_skip (hK16 _ ?_)
            clear hK16; try clear K16
            refine D_seq fun K18 hK18 => ?_
            refine D_le (σ' := mkStI 64 [(0, _), (1, _), (5, _), (6, _), (8, _), (9, _)] [((5, 0), _)] [] []) (by
              refine Le.mkJ [] [] rfl ?_ ?_ trivial trivial ?_
              · exact ⟨(iV rfl), (iS rfl), (iR rfl), (iV rfl), (iV rfl), (iV rfl), trivial⟩
              · exact ⟨(obE rfl rfl rfl), trivial⟩
              · kernel_rfl) ?_
            refine D_region ?_
            refine DL_c (op_mv _ (rfl : _ = AV.v (.int _ _))) ?_
            first
              | refine DL_c (op_mul _ _ rfl rfl (i64w (by omega))) ?_
              | refine DL_c (op_mul _ _ rfl rfl rfl) ?_
            first
              | refine DL_c (op_rem _ _ rfl rfl (by omega) (Int.tmod_eq_emod_of_nonneg (by omega))) ?_
              | refine DL_c (op_rem _ _ rfl rfl (by omega) rfl) ?_
            refine DL_c (op_mv _ (rfl : _ = AV.v (.int _ _))) ?_
            first
              | refine DL_c (op_mul _ _ rfl rfl (i64w (by omega))) ?_
              | refine DL_c (op_mul _ _ rfl rfl rfl) ?_
            first
              | refine DL_c (op_rem _ _ rfl rfl (by omega) (Int.tmod_eq_emod_of_nonneg (by omega))) ?_
              | refine DL_c (op_rem _ _ rfl rfl (by omega) rfl) ?_
            first
              | refine DL_c (op_gtr _ _ rfl rfl (by assumption)) ?_
              | refine DL_c (op_gtr _ _ rfl rfl rfl) ?_
            refine DL_nil (hK18 _ ?_)
            clear hK18; try clear K18
            refine D_splitC rfl (fun hc53 => ?_) (fun hc53 => ?_)
            · skip
              have hp1 : prs1 n (l.getD i 0) = some (around (l.getD i 0) 1000000 / n % n, around (l.getD i 0) 1000000 % n) := by simp only [prs1]; rw [if_pos hc43, if_neg hc46, if_pos hc53]
              rw [hp1] at hps
              refine D_seq fun K19 hK19 => ?_
              refine D_region ?_
              refine DL_c (op_mv _ (rfl : _ = AV.v (.int _ _))) ?_
              refine DL_c (op_as _ (rfl : _ = AV.v (.int _ _))) ?_
              refine DL_nil (hK19 _ ?_)
              clear hK19; try clear K19
              refine D_seq fun K20 hK20 => ?_
              refine D_region ?_
              refine DL_c (op_mv _ (rfl : _ = AV.v (.int _ _))) ?_
              refine DL_c (op_as _ (rfl : _ = AV.v (.int _ _))) ?_
              refine DL_nil (hK20 _ ?_)
              clear hK20; try clear K20
              refine D_region ?_
              refine DL_c (op_mv _ (rfl : _ = AV.v (.int _ _))) ?_
              refine DL_c (op_as _ (rfl : _ = AV.v (.int _ _))) ?_
              refine DL_nil (hK14 _ ?_)
              clear hK14; try clear K14
              refine D_region ?_
              refine DL_c (op_mv _ (rfl : _ = AV.ref _ _ _)) ?_
              refine DL_c (op_mv _ (rfl : _ = AV.v (.int _ _))) ?_
              refine DL_c (op_mv _ (rfl : _ = AV.v (.int _ _))) ?_
              refine DL_c (op_build _ inferInstance rfl (by exact (rfl : _ = some [_, _]))) ?_
              refine DL_c (op_bsF _ _ inferInstance rfl (by rfl) (by simp <;> rfl) (by decide) rfl) ?_
              refine DL_c (op_ap (62, 0) _ _ inferInstance rfl rfl (by first | rfl | omega | (simp only [isl_len, bsl_len, psl_len, mrows_len, nsl_len, ws_len, List.length_map, mzero_len]; omega) | (simp; done) | (simp; omega)) (by first | exact .nil | (refine .sl ?_; first | (simp [isl]; done) | (simp [isl]; omega)) | (refine .ref rfl rfl ?_; first | (simp; done) | (simp; omega))) (by omega) rfl (rfl) (rfl)) ?_
              refine DL_c (op_as _ (rfl : _ = AV.ref _ _ _)) ?_
              refine DL_nil (hK10 _ ?_)
              clear hK10; try clear K10
              refine D_le (σ' := mkStI 64 [(0, _), (1, _), (5, _), (6, _)] [((62, 0), _)] [] []) (by
                refine Le.mkJ [] [] rfl ?_ ?_ trivial trivial ?_
                · exact ⟨(iV rfl), (iS rfl), (iR rfl), (iV rfl), trivial⟩
                · exact ⟨(obE rfl rfl rfl), trivial⟩
                · kernel_rfl) ?_
              refine D_region ?_
              refine DL_c (op_mv _ (rfl : _ = AV.v (.int _ _))) ?_
              first
                | refine DL_c (op_add _ _ rfl rfl (i64w (by omega))) ?_
                | refine DL_c (op_add _ _ rfl rfl rfl) ?_
              refine DL_c (op_as _ (rfl : _ = AV.v (.int _ _))) ?_
              refine DL_nil ?_
              refine ⟨i + 1, ?_, ?_, ?_⟩
              · first | omega | trivial | exact ⟨by omega, by omega⟩
              · skip
                refine Le.mkJ [((5, 0), (62, 0))] [] rfl ?_ ?_ trivial trivial ?_
                · exact ⟨(by repeat' (first | exact Lv.v | exact Lv.sl | exact Lv.fp | exact lvRr (id := (5, 0)) rfl rfl | exact lvPr (id := (5, 0)) rfl | exact lvRr rfl rfl | exact lvPr rfl | exact Lv.mp | exact Lv.nil | exact Lv.z | exact Lv.dead | refine Lv.agg rfl ?_ | refine Lv.fn rfl ?_ rfl ?_ | refine Lv.tup rfl ?_ | refine Lv.ifc ?_ | exact lv_nil | refine lv_cons ?_ ?_)), (by repeat' (first | exact Lv.v | exact Lv.sl | exact Lv.fp | exact lvRr (id := (5, 0)) rfl rfl | exact lvPr (id := (5, 0)) rfl | exact lvRr rfl rfl | exact lvPr rfl | exact Lv.mp | exact Lv.nil | exact Lv.z | exact Lv.dead | refine Lv.agg rfl ?_ | refine Lv.fn rfl ?_ rfl ?_ | refine Lv.tup rfl ?_ | refine Lv.ifc ?_ | exact lv_nil | refine lv_cons ?_ ?_)), (lvI (by first | rfl | omega | (first | (rw [hps, List.length_append]; rfl) | (rw [hps, ← psl_append]; rfl)) | (simp; done) | (simp; omega) | assumption)), (lvRr rfl (by first | rfl | omega | (first | (rw [hps, List.length_append]; rfl) | (rw [hps, ← psl_append]; rfl)) | (simp; done) | (simp; omega) | assumption)), trivial⟩
                · exact ⟨(obR rfl rfl rfl (by first | rfl | omega | (first | (rw [hps, List.length_append]; rfl) | (rw [hps, ← psl_append]; rfl)) | (simp; done) | (simp; omega) | assumption)), trivial⟩
                · kernel_rfl
              · omega
            · skip
              have hp1 : prs1 n (l.getD i 0) = some (around (l.getD i 0) 1000000 % n, around (l.getD i 0) 1000000 / n % n) := by simp only [prs1]; rw [if_pos hc43, if_neg hc46, if_neg (by omega)]
              rw [hp1] at hps
              refine D_skip (hK14 _ ?_)
              clear hK14; try clear K14
              refine D_region ?_
              refine DL_c (op_mv _ (rfl : _ = AV.ref _ _ _)) ?_
              refine DL_c (op_mv _ (rfl : _ = AV.v (.int _ _))) ?_
              refine DL_c (op_mv _ (rfl : _ = AV.v (.int _ _))) ?_
              refine DL_c (op_build _ inferInstance rfl (by exact (rfl : _ = some [_, _]))) ?_
              refine DL_c (op_bsF _ _ inferInstance rfl (by rfl) (by simp <;> rfl) (by decide) rfl) ?_
              refine DL_c (op_ap (62, 0) _ _ inferInstance rfl rfl (by first | rfl | omega | (simp only [isl_len, bsl_len, psl_len, mrows_len, nsl_len, ws_len, List.length_map, mzero_len]; omega) | (simp; done) | (simp; omega)) (by first | exact .nil | (refine .sl ?_; first | (simp [isl]; done) | (simp [isl]; omega)) | (refine .ref rfl rfl ?_; first | (simp; done) | (simp; omega))) (by omega) rfl (rfl) (rfl)) ?_
              refine DL_c (op_as _ (rfl : _ = AV.ref _ _ _)) ?_
              refine DL_nil (hK10 _ ?_)
              clear hK10; try clear K10
              refine D_region ?_
              refine DL_c (op_mv _ (rfl : _ = AV.v (.int _ _))) ?_
              first
                | refine DL_c (op_add _ _ rfl rfl (i64w (by omega))) ?_
                | refine DL_c (op_add _ _ rfl rfl rfl) ?_
              refine DL_c (op_as _ (rfl : _ = AV.v (.int _ _))) ?_
              refine DL_nil ?_
              refine ⟨i + 1, ?_, ?_, ?_⟩
              · first | omega | trivial | exact ⟨by omega, by omega⟩
              · skip
                refine Le.mkJ [((5, 0), (62, 0))] [] rfl ?_ ?_ trivial trivial ?_
                · exact ⟨(by repeat' (first | exact Lv.v | exact Lv.sl | exact Lv.fp | exact lvRr (id := (5, 0)) rfl rfl | exact lvPr (id := (5, 0)) rfl | exact lvRr rfl rfl | exact lvPr rfl | exact Lv.mp | exact Lv.nil | exact Lv.z | exact Lv.dead | refine Lv.agg rfl ?_ | refine Lv.fn rfl ?_ rfl ?_ | refine Lv.tup rfl ?_ | refine Lv.ifc ?_ | exact lv_nil | refine lv_cons ?_ ?_)), (by repeat' (first | exact Lv.v | exact Lv.sl | exact Lv.fp | exact lvRr (id := (5, 0)) rfl rfl | exact lvPr (id := (5, 0)) rfl | exact lvRr rfl rfl | exact lvPr rfl | exact Lv.mp | exact Lv.nil | exact Lv.z | exact Lv.dead | refine Lv.agg rfl ?_ | refine Lv.fn rfl ?_ rfl ?_ | refine Lv.tup rfl ?_ | refine Lv.ifc ?_ | exact lv_nil | refine lv_cons ?_ ?_)), (lvI (by first | rfl | omega | (first | (rw [hps, List.length_append]; rfl) | (rw [hps, ← psl_append]; rfl)) | (simp; done) | (simp; omega) | assumption)), (lvRr rfl (by first | rfl | omega | (first | (rw [hps, List.length_append]; rfl) | (rw [hps, ← psl_append]; rfl)) | (simp; done) | (simp; omega) | assumption)), trivial⟩
                · exact ⟨(obR rfl rfl rfl (by first | rfl | omega | (first | (rw [hps, List.length_append]; rfl) | (rw [hps, ← psl_append]; rfl)) | (simp; done) | (simp; omega) | assumption)), trivial⟩
                · kernel_rfl
              · omega
        · skip
          have hp1 : prs1 n (l.getD i 0) = some (around (l.getD i 0) 1000000 % n, around (l.getD i 0) 1000000 / n % n) := by simp only [prs1]; rw [if_neg (by omega)]
          rw [hp1] at hps
          refine D_skip (hK14 _ ?_)
          clear hK14; try clear K14
          refine D_region ?_
          refine DL_c (op_mv _ (rfl : _ = AV.ref _ _ _)) ?_
          refine DL_c (op_mv _ (rfl : _ = AV.v (.int _ _))) ?_
          refine DL_c (op_mv _ (rfl : _ = AV.v (.int _ _))) ?_
          refine DL_c (op_build _ inferInstance rfl (by exact (rfl : _ = some [_, _]))) ?_
          refine DL_c (op_bsF _ _ inferInstance rfl (by rfl) (by simp <;> rfl) (by decide) rfl) ?_
          refine DL_c (op_ap (62, 0) _ _ inferInstance rfl rfl (by first | rfl | omega | (simp only [isl_len, bsl_len, psl_len, mrows_len, nsl_len, ws_len, List.length_map, mzero_len]; omega) | (simp; done) | (simp; omega)) (by first | exact .nil | (refine .sl ?_; first | (simp [isl]; done) | (simp [isl]; omega)) | (refine .ref rfl rfl ?_; first | (simp; done) | (simp; omega))) (by omega) rfl (rfl) (rfl)) ?_
          refine DL_c (op_as _ (rfl : _ = AV.ref _ _ _)) ?_
          refine DL_nil (hK10 _ ?_)
          clear hK10; try clear K10
          refine D_le (σ' := mkStI 64 [(0, _), (1, _), (5, _), (6, _)] [((62, 0), _)] [] []) (by
            refine Le.mkJ [] [] rfl ?_ ?_ trivial trivial ?_
            · exact ⟨(iV rfl), (iS rfl), (iR rfl), (iV rfl), trivial⟩
            · exact ⟨(obE rfl rfl rfl), trivial⟩
            · kernel_rfl) ?_
          refine D_region ?_
          refine DL_c (op_mv _ (rfl : _ = AV.v (.int _ _))) ?_
          first
            | refine DL_c (op_add _ _ rfl rfl (i64w (by omega))) ?_
            | refine DL_c (op_add _ _ rfl rfl rfl) ?_
          refine DL_c (op_as _ (rfl : _ = AV.v (.int _ _))) ?_
          refine DL_nil ?_
          refine ⟨i + 1, ?_, ?_, ?_⟩
          · first | omega | trivial | exact ⟨by omega, by omega⟩
          · skip
            refine Le.mkJ [((5, 0), (62, 0))] [] rfl ?_ ?_ trivial trivial ?_
            · exact ⟨(by repeat' (first | exact Lv.v | exact Lv.sl | exact Lv.fp | exact lvRr (id := (5, 0)) rfl rfl | exact lvPr (id := (5, 0)) rfl | exact lvRr rfl rfl | exact lvPr rfl | exact Lv.mp | exact Lv.nil | exact Lv.z | exact Lv.dead | refine Lv.agg rfl ?_ | refine Lv.fn rfl ?_ rfl ?_ | refine Lv.tup rfl ?_ | refine Lv.ifc ?_ | exact lv_nil | refine lv_cons ?_ ?_)), (by repeat' (first | exact Lv.v | exact Lv.sl | exact Lv.fp | exact lvRr (id := (5, 0)) rfl rfl | exact lvPr (id := (5, 0)) rfl | exact lvRr rfl rfl | exact lvPr rfl | exact Lv.mp | exact Lv.nil | exact Lv.z | exact Lv.dead | refine Lv.agg rfl ?_ | refine Lv.fn rfl ?_ rfl ?_ | refine Lv.tup rfl ?_ | refine Lv.ifc ?_ | exact lv_nil | refine lv_cons ?_ ?_)), (lvI (by first | rfl | omega | (first | (rw [hps, List.length_append]; rfl) | (rw [hps, ← psl_append]; rfl)) | (simp; done) | (simp; omega) | assumption)), (lvRr rfl (by first | rfl | omega | (first | (rw [hps, List.length_append]; rfl) | (rw [hps, ← psl_append]; rfl)) | (simp; done) | (simp; omega) | assumption)), trivial⟩
            · exact ⟨(obR rfl rfl rfl (by first | rfl | omega | (first | (rw [hps, List.length_append]; rfl) | (rw [hps, ← psl_append]; rfl)) | (simp; done) | (simp; omega) | assumption)), trivial⟩
            · kernel_rfl
          · omega
      · skip
        refine D_exit ?_
        refine id (hK6 _ ?_)
        clear hK6; try clear K6
        refine D_seq fun K21 hK21 => ?_
        refine D_region ?_
        refine DL_c (op_mv _ (rfl : _ = AV.ref _ _ _)) ?_
        refine DL_c (op_as _ (rfl : _ = AV.ref _ _ _)) ?_
        refine DL_nil (hK21 _ ?_)
        clear hK21; try clear K21
        refine D_ret ?_
        exact ret1 (.inr rfl) rfl (.tmp (rfl : _ = AV.ref _ _ _)) (Le.out [((0, 8), (5, 0))] [] (lvRr rfl (by rw [pairs_eq (i := i) (by omega) (by omega)])) rfl rfl rfl trivial ⟨⟨rfl, ⟨_, rfl, .rowE (by rw [pairs_eq (i := i) (by omega) (by omega)])⟩, rfl⟩, trivial⟩)
    · skip
      refine DL_cn rfl rfl (by decide) ?_
      refine DL_cn rfl rfl (by decide) ?_
      refine DL_c (op_pick _ _ _ rfl (rfl : _ = AV.v (.bool _))) ?_
      refine DL_nil (hK9 _ ?_)
      clear hK9; try clear K9
      refine D_cF rfl rfl ?_
      refine D_exit ?_
      refine id (hK6 _ ?_)
      clear hK6; try clear K6
      refine D_seq fun K22 hK22 => ?_
      refine D_region ?_
      refine DL_c (op_mv _ (rfl : _ = AV.ref _ _ _)) ?_
      refine DL_c (op_as _ (rfl : _ = AV.ref _ _ _)) ?_
      refine DL_nil (hK22 _ ?_)
      clear hK22; try clear K22
      refine D_ret ?_
      exact ret1 (.inr rfl) rfl (.tmp (rfl : _ = AV.ref _ _ _)) (Le.out [((0, 8), (5, 0))] [] (lvRr rfl (by rw [pairs_eq (i := i) (by omega) (by omega)])) rfl rfl rfl trivial ⟨⟨rfl, ⟨_, rfl, .rowE (by rw [pairs_eq (i := i) (by omega) (by omega)])⟩, rfl⟩, trivial⟩)
end Go.Proofs.Ytkbkmngbenohkaa
