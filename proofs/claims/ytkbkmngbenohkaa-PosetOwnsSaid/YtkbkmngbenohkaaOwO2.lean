/- The reference's New, its pairs the caller's own and kept. By the machine. -/
import Derived.Test.YtkbkmngbenohkaaOwA8
import Derived.Test.YtkbkmngbenohkaaOwM11
set_option linter.unusedSimpArgs false
set_option linter.unusedVariables false
namespace Go.Proofs.Ytkbkmngbenohkaa
open Go.RowKit

set_option maxHeartbeats 4000000 in
theorem rnew_keep (n : Nat) (hn : n ≤ 64) (m : Nat) (E : Prs) (hm : E.length = m) (h1 : m ≤ 4611686018427387904) :
    Spec Try.prog 43 (inStI [.v (.int .i64 (n : Int)), .ref (0, 9) 0 m] [((0, 9), .row 38 2 (psl E))]) (outStI (rnewR n E) [((0, 9), .row 38 2 (psl E))] [(0, 9)] [(0, 9)]) := by
  refine Spec.ofNI Try.func43 rfl Try.ntmps43 rfl ?_
  refine D_seq fun K1 hK1 => ?_
  refine D_region ?_
  refine DL_c (op_alloc (4, 0) inferInstance rfl rfl) ?_
  refine DL_c (op_as _ (rfl : _ = AV.v (.int _ _))) ?_
  refine DL_nil (hK1 _ ?_)
  clear hK1; try clear K1
  refine D_seq fun K2 hK2 => ?_
  refine D_seq fun K3 hK3 => ?_
  refine D_region ?_
  refine DL_c (op_mv _ (rfl : _ = AV.v (.int _ _))) ?_
  first
    | refine DL_c (op_lss _ _ rfl rfl (by assumption)) ?_
    | refine DL_c (op_lss _ _ rfl rfl rfl) ?_
  refine DL_nil (hK3 _ ?_)
  clear hK3; try clear K3
  refine D_splitC rfl (fun hc15 => ?_) (fun hc15 => ?_)
  · skip
    exact absurd  hc15 (by omega)
  · skip
    refine D_skip (hK2 _ ?_)
    clear hK2; try clear K2
    refine D_seq fun K4 hK4 => ?_
    refine D_seq fun K5 hK5 => ?_
    refine D_region ?_
    refine DL_c (op_mv _ (rfl : _ = AV.v (.int _ _))) ?_
    first
      | refine DL_c (op_gtr _ _ rfl rfl (by assumption)) ?_
      | refine DL_c (op_gtr _ _ rfl rfl rfl) ?_
    refine DL_nil (hK5 _ ?_)
    clear hK5; try clear K5
    refine D_splitC rfl (fun hc18 => ?_) (fun hc18 => ?_)
    · skip
      exact absurd  hc18 (by omega)
    · skip
      refine D_skip (hK4 _ ?_)
      clear hK4; try clear K4
      refine D_seq fun K6 hK6 => ?_
      refine D_seq fun K7 hK7 => ?_
      refine D_region ?_
      refine DL_c (op_as _ (rfl : _ = AV.v (.int _ _))) ?_
      refine DL_nil (hK7 _ ?_)
      clear hK7; try clear K7
      refine D_block ?_
      refine D_loopL (α := Nat) (fun i => i ≤ m ∧ ∀ j, j < i → 0 ≤ (E.getD j (0, 0)).1 ∧ (E.getD j (0, 0)).1 < (n : Int) ∧ 0 ≤ (E.getD j (0, 0)).2 ∧ (E.getD j (0, 0)).2 < (n : Int)) 149 [(0, _), (1, _), (4, _)] [((0, 9), _), ((4, 0), _)] (fun i => [(6, .v (.int .i64 (i : Int)))]) (fun i => []) [(0, 9)] [(0, 9)] (fun i => m - i) 0 ?_ (by
        refine Le.mkJ [] [] rfl ?_ ?_ trivial ⟨rfl, trivial⟩ ?_
        · exact ⟨(iV rfl), (iR rfl), (iP rfl), (lvI (by first | rfl | omega | (simp; done) | (simp; omega) | assumption)), trivial⟩
        · exact ⟨(obE rfl rfl rfl), (obE rfl rfl rfl), trivial⟩
        · kernel_rfl) ?_
      · exact ⟨by omega, fun j hj => by omega⟩
      intro i hi
      obtain ⟨hi, hok⟩ := hi
      refine D_seq fun K8 hK8 => ?_
      refine D_seq fun K9 hK9 => ?_
      refine D_region ?_
      refine DL_c (op_mv _ (rfl : _ = AV.v (.int _ _))) ?_
      refine DL_c (op_mv _ (rfl : _ = AV.ref _ _ _)) ?_
      first
        | refine DL_c (op_lenR _ inferInstance rfl rfl) ?_
        | refine DL_c (op_lenB _ inferInstance rfl rfl) ?_
      first
        | refine DL_c (op_lss _ _ rfl rfl (by assumption)) ?_
        | refine DL_c (op_lss _ _ rfl rfl rfl) ?_
      refine DL_nil (hK9 _ ?_)
      clear hK9; try clear K9
      refine D_splitC rfl (fun hc23 => ?_) (fun hc23 => ?_)
      · skip
        refine D_skip (hK8 _ ?_)
        clear hK8; try clear K8
        refine D_seq fun K10 hK10 => ?_
        refine D_block ?_
        refine D_seq fun K11 hK11 => ?_
        refine D_region ?_
        refine DL_c (op_mv _ (rfl : _ = AV.ref _ _ _)) ?_
        refine DL_c (op_mv _ (rfl : _ = AV.v (.int _ _))) ?_
        first
          | refine DL_c (op_ixR _ _ inferInstance rfl rfl rfl _ rfl (by omega) (by first | exact (Nat.zero_add _).trans (Nat.mul_one _) | exact Nat.zero_add _ | rfl | omega)) ?_
          | refine DL_c (op_ixR _ _ inferInstance rfl rfl rfl (Int.toNat _) (Int.toNat_of_nonneg (by omega)).symm (by omega) (by first | exact (Nat.zero_add _).trans (Nat.mul_one _) | exact Nat.zero_add _ | rfl | omega)) ?_
        refine DL_c (op_ixA _ _ inferInstance rfl rfl rfl 0 rfl (by omega) (by first | exact (Nat.zero_add _).trans (Nat.mul_one _) | exact Nat.zero_add _ | rfl | omega)) ?_
        first
          | refine DL_c (op_ldR _ inferInstance rfl rfl (by first | rfl | exact isl_get _ _ (by omega) | exact bsl_get _ _ (by omega) | assumption | exact mrows_get _ _ (by omega) | exact nsl_get _ _ (by omega) | exact psl_get0 _ _ (by omega) | exact psl_get1 _ _ (by omega)) rfl) ?_
          | refine DL_c (op_ldB _ inferInstance rfl rfl (rfl : _ = some (AV.v (.int _ _)))) ?_
        first
          | refine DL_c (op_lss _ _ rfl rfl (by assumption)) ?_
          | refine DL_c (op_lss _ _ rfl rfl rfl) ?_
        refine DL_c (op_mv _ (rfl : _ = AV.v (.bool _))) ?_
        refine DL_caseC (fun hg32 => ?_) (fun hg32 => ?_)
        · skip
          refine DL_cn rfl rfl (by decide) ?_
          refine DL_cn rfl rfl (by decide) ?_
          refine DL_cn rfl rfl (by decide) ?_
          refine DL_cn rfl rfl (by decide) ?_
          refine DL_cn rfl rfl (by decide) ?_
          refine DL_cn rfl rfl (by decide) ?_
          refine DL_cn rfl rfl (by decide) ?_
          refine DL_c (op_pick _ _ _ rfl (rfl : _ = AV.v (.bool _))) ?_
          refine DL_c (op_mv _ (rfl : _ = AV.v (.bool _))) ?_
          refine DL_cn rfl rfl (by decide) ?_
          refine DL_cn rfl rfl (by decide) ?_
          refine DL_cn rfl rfl (by decide) ?_
          refine DL_cn rfl rfl (by decide) ?_
          refine DL_cn rfl rfl (by decide) ?_
          refine DL_cn rfl rfl (by decide) ?_
          refine DL_c (op_pick _ _ _ rfl (rfl : _ = AV.v (.bool _))) ?_
          refine DL_c (op_mv _ (rfl : _ = AV.v (.bool _))) ?_
          refine DL_cn rfl rfl (by decide) ?_
          refine DL_cn rfl rfl (by decide) ?_
          refine DL_cn rfl rfl (by decide) ?_
          refine DL_cn rfl rfl (by decide) ?_
          refine DL_cn rfl rfl (by decide) ?_
          refine DL_cn rfl rfl (by decide) ?_
          refine DL_cn rfl rfl (by decide) ?_
          refine DL_c (op_pick _ _ _ rfl (rfl : _ = AV.v (.bool _))) ?_
          refine DL_nil (hK11 _ ?_)
          clear hK11; try clear K11
          refine D_cT rfl rfl ?_
          refine D_seq fun K12 hK12 => ?_
          refine D_le (σ' := mkStI 149 [(4, _)] [((4, 0), _), ((0, 9), _)] [(0, 9)] [(0, 9)]) (by
            refine Le.mkJ [] [] rfl ?_ ?_ trivial ⟨rfl, trivial⟩ ?_
            · exact ⟨(iP rfl), trivial⟩
            · exact ⟨(obE rfl rfl rfl), (obE rfl rfl rfl), trivial⟩
            · kernel_rfl) ?_
          refine D_region ?_
          refine DL_c (op_build _ inferInstance rfl (by exact (rfl : _ = some [_, _]))) ?_
          refine DL_c (op_stB _ _ inferInstance rfl rfl rfl rfl (Nat.le_of_ble_eq_true rfl) rfl) ?_
          refine DL_c (op_as _ (rfl : _ = AV.v (.int _ _))) ?_
          refine DL_nil (hK12 _ ?_)
          clear hK12; try clear K12
          refine D_ret ?_
          rw [show rnewR n E = .tup [.agg zeroO, .v (.int .i64 6)] from if_pos (inE_no (i := i) (by omega) (by omega))]
          exact ret2 (.inr rfl) rfl (.cellA inferInstance rfl rfl rfl) (.tmp (rfl : _ = AV.v _)) (Le.outI [] [] (.tup rfl (lv_cons (.agg rfl (lv_cons .v (lv_cons .v lv_nil))) (lv_cons .v lv_nil))) rfl rfl rfl trivial ⟨⟨rfl, ⟨_, rfl, lvO_id _⟩, rfl⟩, trivial⟩ ⟨rfl, trivial⟩ rfl)
        · skip
          refine DL_cy rfl rfl (op_mv _ (rfl : _ = AV.ref _ _ _)) ?_
          refine DL_cy rfl rfl (op_mv _ (rfl : _ = AV.v (.int _ _))) ?_
          first
            | refine DL_cy rfl rfl (op_ixR _ _ inferInstance rfl rfl rfl _ rfl (by omega) (by first | exact (Nat.zero_add _).trans (Nat.mul_one _) | exact Nat.zero_add _ | rfl | omega)) ?_
            | refine DL_cy rfl rfl (op_ixR _ _ inferInstance rfl rfl rfl (Int.toNat _) (Int.toNat_of_nonneg (by omega)).symm (by omega) (by first | exact (Nat.zero_add _).trans (Nat.mul_one _) | exact Nat.zero_add _ | rfl | omega)) ?_
          refine DL_cy rfl rfl (op_ixA _ _ inferInstance rfl rfl rfl 0 rfl (by omega) (by first | exact (Nat.zero_add _).trans (Nat.mul_one _) | exact Nat.zero_add _ | rfl | omega)) ?_
          first
            | refine DL_cy rfl rfl (op_ldR _ inferInstance rfl rfl (by first | rfl | exact isl_get _ _ (by omega) | exact bsl_get _ _ (by omega) | assumption | exact mrows_get _ _ (by omega) | exact nsl_get _ _ (by omega) | exact psl_get0 _ _ (by omega) | exact psl_get1 _ _ (by omega)) rfl) ?_
            | refine DL_cy rfl rfl (op_ldB _ inferInstance rfl rfl (rfl : _ = some (AV.v (.int _ _)))) ?_
          refine DL_cy rfl rfl (op_mv _ (rfl : _ = AV.v (.int _ _))) ?_
          first
            | refine DL_cy rfl rfl (op_geq _ _ rfl rfl (by assumption)) ?_
            | refine DL_cy rfl rfl (op_geq _ _ rfl rfl rfl) ?_
          refine DL_c (op_pick _ _ _ rfl (rfl : _ = AV.v (.bool _))) ?_
          refine DL_c (op_mv _ (rfl : _ = AV.v (.bool _))) ?_
          refine DL_caseC (fun hg41 => ?_) (fun hg41 => ?_)
          · skip
            refine DL_cn rfl rfl (by decide) ?_
            refine DL_cn rfl rfl (by decide) ?_
            refine DL_cn rfl rfl (by decide) ?_
            refine DL_cn rfl rfl (by decide) ?_
            refine DL_cn rfl rfl (by decide) ?_
            refine DL_cn rfl rfl (by decide) ?_
            refine DL_c (op_pick _ _ _ rfl (rfl : _ = AV.v (.bool _))) ?_
            refine DL_c (op_mv _ (rfl : _ = AV.v (.bool _))) ?_
            refine DL_cn rfl rfl (by decide) ?_
            refine DL_cn rfl rfl (by decide) ?_
            refine DL_cn rfl rfl (by decide) ?_
            refine DL_cn rfl rfl (by decide) ?_
            refine DL_cn rfl rfl (by decide) ?_
            refine DL_cn rfl rfl (by decide) ?_
            refine DL_cn rfl rfl (by decide) ?_
            refine DL_c (op_pick _ _ _ rfl (rfl : _ = AV.v (.bool _))) ?_
            refine DL_nil (hK11 _ ?_)
            clear hK11; try clear K11
            refine D_cT rfl rfl ?_
            refine D_seq fun K13 hK13 => ?_
            refine D_le (σ' := mkStI 149 [(4, _)] [((4, 0), _), ((0, 9), _)] [(0, 9)] [(0, 9)]) (by
              refine Le.mkJ [] [] rfl ?_ ?_ trivial ⟨rfl, trivial⟩ ?_
              · exact ⟨(iP rfl), trivial⟩
              · exact ⟨(obE rfl rfl rfl), (obE rfl rfl rfl), trivial⟩
              · kernel_rfl) ?_
            refine D_region ?_
            refine DL_c (op_build _ inferInstance rfl (by exact (rfl : _ = some [_, _]))) ?_
            refine DL_c (op_stB _ _ inferInstance rfl rfl rfl rfl (Nat.le_of_ble_eq_true rfl) rfl) ?_
            refine DL_c (op_as _ (rfl : _ = AV.v (.int _ _))) ?_
            refine DL_nil (hK13 _ ?_)
            clear hK13; try clear K13
            refine D_ret ?_
            rw [show rnewR n E = .tup [.agg zeroO, .v (.int .i64 6)] from if_pos (inE_no (i := i) (by omega) (by omega))]
            exact ret2 (.inr rfl) rfl (.cellA inferInstance rfl rfl rfl) (.tmp (rfl : _ = AV.v _)) (Le.outI [] [] (.tup rfl (lv_cons (.agg rfl (lv_cons .v (lv_cons .v lv_nil))) (lv_cons .v lv_nil))) rfl rfl rfl trivial ⟨⟨rfl, ⟨_, rfl, lvO_id _⟩, rfl⟩, trivial⟩ ⟨rfl, trivial⟩ rfl)
          · skip
            refine DL_cy rfl rfl (op_mv _ (rfl : _ = AV.ref _ _ _)) ?_
            refine DL_cy rfl rfl (op_mv _ (rfl : _ = AV.v (.int _ _))) ?_
            first
              | refine DL_cy rfl rfl (op_ixR _ _ inferInstance rfl rfl rfl _ rfl (by omega) (by first | exact (Nat.zero_add _).trans (Nat.mul_one _) | exact Nat.zero_add _ | rfl | omega)) ?_
              | refine DL_cy rfl rfl (op_ixR _ _ inferInstance rfl rfl rfl (Int.toNat _) (Int.toNat_of_nonneg (by omega)).symm (by omega) (by first | exact (Nat.zero_add _).trans (Nat.mul_one _) | exact Nat.zero_add _ | rfl | omega)) ?_
            refine DL_cy rfl rfl (op_ixA _ _ inferInstance rfl rfl rfl 1 rfl (by omega) (by first | exact (Nat.zero_add _).trans (Nat.mul_one _) | exact Nat.zero_add _ | rfl | omega)) ?_
            first
              | refine DL_cy rfl rfl (op_ldR _ inferInstance rfl rfl (by first | rfl | exact isl_get _ _ (by omega) | exact bsl_get _ _ (by omega) | assumption | exact mrows_get _ _ (by omega) | exact nsl_get _ _ (by omega) | exact psl_get0 _ _ (by omega) | exact psl_get1 _ _ (by omega)) rfl) ?_
              | refine DL_cy rfl rfl (op_ldB _ inferInstance rfl rfl (rfl : _ = some (AV.v (.int _ _)))) ?_
            first
              | refine DL_cy rfl rfl (op_lss _ _ rfl rfl (by assumption)) ?_
              | refine DL_cy rfl rfl (op_lss _ _ rfl rfl rfl) ?_
            refine DL_c (op_pick _ _ _ rfl (rfl : _ = AV.v (.bool _))) ?_
            refine DL_c (op_mv _ (rfl : _ = AV.v (.bool _))) ?_
            refine DL_caseC (fun hg49 => ?_) (fun hg49 => ?_)
            · skip
              refine DL_cn rfl rfl (by decide) ?_
              refine DL_cn rfl rfl (by decide) ?_
              refine DL_cn rfl rfl (by decide) ?_
              refine DL_cn rfl rfl (by decide) ?_
              refine DL_cn rfl rfl (by decide) ?_
              refine DL_cn rfl rfl (by decide) ?_
              refine DL_cn rfl rfl (by decide) ?_
              refine DL_c (op_pick _ _ _ rfl (rfl : _ = AV.v (.bool _))) ?_
              refine DL_nil (hK11 _ ?_)
              clear hK11; try clear K11
              refine D_cT rfl rfl ?_
              refine D_seq fun K14 hK14 => ?_
              refine D_le (σ' := mkStI 149 [(4, _)] [((4, 0), _), ((0, 9), _)] [(0, 9)] [(0, 9)]) (by
                refine Le.mkJ [] [] rfl ?_ ?_ trivial ⟨rfl, trivial⟩ ?_
                · exact ⟨(iP rfl), trivial⟩
                · exact ⟨(obE rfl rfl rfl), (obE rfl rfl rfl), trivial⟩
                · kernel_rfl) ?_
              refine D_region ?_
              refine DL_c (op_build _ inferInstance rfl (by exact (rfl : _ = some [_, _]))) ?_
              refine DL_c (op_stB _ _ inferInstance rfl rfl rfl rfl (Nat.le_of_ble_eq_true rfl) rfl) ?_
              refine DL_c (op_as _ (rfl : _ = AV.v (.int _ _))) ?_
              refine DL_nil (hK14 _ ?_)
              clear hK14; try clear K14
              refine D_ret ?_
              rw [show rnewR n E = .tup [.agg zeroO, .v (.int .i64 6)] from if_pos (inE_no (i := i) (by omega) (by omega))]
              exact ret2 (.inr rfl) rfl (.cellA inferInstance rfl rfl rfl) (.tmp (rfl : _ = AV.v _)) (Le.outI [] [] (.tup rfl (lv_cons (.agg rfl (lv_cons .v (lv_cons .v lv_nil))) (lv_cons .v lv_nil))) rfl rfl rfl trivial ⟨⟨rfl, ⟨_, rfl, lvO_id _⟩, rfl⟩, trivial⟩ ⟨rfl, trivial⟩ rfl)
            · skip
              refine DL_cy rfl rfl (op_mv _ (rfl : _ = AV.ref _ _ _)) ?_
              refine DL_cy rfl rfl (op_mv _ (rfl : _ = AV.v (.int _ _))) ?_
              first
                | refine DL_cy rfl rfl (op_ixR _ _ inferInstance rfl rfl rfl _ rfl (by omega) (by first | exact (Nat.zero_add _).trans (Nat.mul_one _) | exact Nat.zero_add _ | rfl | omega)) ?_
                | refine DL_cy rfl rfl (op_ixR _ _ inferInstance rfl rfl rfl (Int.toNat _) (Int.toNat_of_nonneg (by omega)).symm (by omega) (by first | exact (Nat.zero_add _).trans (Nat.mul_one _) | exact Nat.zero_add _ | rfl | omega)) ?_
              refine DL_cy rfl rfl (op_ixA _ _ inferInstance rfl rfl rfl 1 rfl (by omega) (by first | exact (Nat.zero_add _).trans (Nat.mul_one _) | exact Nat.zero_add _ | rfl | omega)) ?_
              first
                | refine DL_cy rfl rfl (op_ldR _ inferInstance rfl rfl (by first | rfl | exact isl_get _ _ (by omega) | exact bsl_get _ _ (by omega) | assumption | exact mrows_get _ _ (by omega) | exact nsl_get _ _ (by omega) | exact psl_get0 _ _ (by omega) | exact psl_get1 _ _ (by omega)) rfl) ?_
                | refine DL_cy rfl rfl (op_ldB _ inferInstance rfl rfl (rfl : _ = some (AV.v (.int _ _)))) ?_
              refine DL_cy rfl rfl (op_mv _ (rfl : _ = AV.v (.int _ _))) ?_
              first
                | refine DL_cy rfl rfl (op_geq _ _ rfl rfl (by assumption)) ?_
                | refine DL_cy rfl rfl (op_geq _ _ rfl rfl rfl) ?_
              refine DL_c (op_pick _ _ _ rfl (rfl : _ = AV.v (.bool _))) ?_
              refine DL_nil (hK11 _ ?_)
              clear hK11; try clear K11
              refine D_splitC rfl (fun hc57 => ?_) (fun hc57 => ?_)
              · skip
                refine D_seq fun K15 hK15 => ?_
                refine D_le (σ' := mkStI 149 [(4, _)] [((4, 0), _), ((0, 9), _)] [(0, 9)] [(0, 9)]) (by
                  refine Le.mkJ [] [] rfl ?_ ?_ trivial ⟨rfl, trivial⟩ ?_
                  · exact ⟨(iP rfl), trivial⟩
                  · exact ⟨(obE rfl rfl rfl), (obE rfl rfl rfl), trivial⟩
                  · kernel_rfl) ?_
                refine D_region ?_
                refine DL_c (op_build _ inferInstance rfl (by exact (rfl : _ = some [_, _]))) ?_
                refine DL_c (op_stB _ _ inferInstance rfl rfl rfl rfl (Nat.le_of_ble_eq_true rfl) rfl) ?_
                refine DL_c (op_as _ (rfl : _ = AV.v (.int _ _))) ?_
                refine DL_nil (hK15 _ ?_)
                clear hK15; try clear K15
                refine D_ret ?_
                rw [show rnewR n E = .tup [.agg zeroO, .v (.int .i64 6)] from if_pos (inE_no (i := i) (by omega) (by omega))]
                exact ret2 (.inr rfl) rfl (.cellA inferInstance rfl rfl rfl) (.tmp (rfl : _ = AV.v _)) (Le.outI [] [] (.tup rfl (lv_cons (.agg rfl (lv_cons .v (lv_cons .v lv_nil))) (lv_cons .v lv_nil))) rfl rfl rfl trivial ⟨⟨rfl, ⟨_, rfl, lvO_id _⟩, rfl⟩, trivial⟩ ⟨rfl, trivial⟩ rfl)
              · skip
                refine D_skip (hK10 _ ?_)
                clear hK10; try clear K10
                refine D_le (σ' := mkStI 149 [(0, _), (1, _), (4, _), (6, _)] [((0, 9), _), ((4, 0), _)] [(0, 9)] [(0, 9)]) (by
                  refine Le.mkJ [] [] rfl ?_ ?_ trivial ⟨rfl, trivial⟩ ?_
                  · exact ⟨(iV rfl), (iR rfl), (iP rfl), (iV rfl), trivial⟩
                  · exact ⟨(obE rfl rfl rfl), (obE rfl rfl rfl), trivial⟩
                  · kernel_rfl) ?_
                refine D_region ?_
                refine DL_c (op_mv _ (rfl : _ = AV.v (.int _ _))) ?_
                first
                  | refine DL_c (op_add _ _ rfl rfl (i64w (by omega))) ?_
                  | refine DL_c (op_add _ _ rfl rfl rfl) ?_
                refine DL_c (op_as _ (rfl : _ = AV.v (.int _ _))) ?_
                refine DL_nil ?_
                refine ⟨i + 1, ?_, ?_, ?_⟩
                · exact ⟨by omega, all_succ hok (by omega)⟩
                · skip
                  refine Le.mkJ [] [] rfl ?_ ?_ trivial ⟨rfl, trivial⟩ ?_
                  · exact ⟨(iV rfl), (iR rfl), (iP rfl), (lvI (by first | rfl | omega | (simp; done) | (simp; omega) | assumption)), trivial⟩
                  · exact ⟨(obE rfl rfl rfl), (obE rfl rfl rfl), trivial⟩
                  · kernel_rfl
                · omega
      · skip
        have hE : inE n E = true := inE_of fun j hj => hok j (by omega)
        refine D_exit ?_
        refine id (hK6 _ ?_)
        clear hK6; try clear K6
        refine D_seq fun K16 hK16 => ?_
        refine D_region ?_
        refine DL_c (op_mv _ (rfl : _ = AV.v (.int _ _))) ?_
        refine DL_c (op_build _ inferInstance rfl (by exact (rfl : _ = some [_, _]))) ?_
        refine DL_c (op_alloc (7, 0) inferInstance rfl rfl) ?_
        refine DL_c (op_stB _ _ inferInstance rfl rfl rfl rfl (Nat.le_of_ble_eq_true rfl) rfl) ?_
        refine DL_nil (hK16 _ ?_)
        clear hK16; try clear K16
        refine D_seq fun K17 hK17 => ?_
        refine D_seq fun K18 hK18 => ?_
        refine D_region ?_
        refine DL_c (op_as _ (rfl : _ = AV.v (.int _ _))) ?_
        refine DL_nil (hK18 _ ?_)
        clear hK18; try clear K18
        refine D_block ?_
        refine D_loopLB (α := Nat) (fun k => k ≤ n) 149 [(0, _), (1, _), (4, _), (7, _)] [((0, 9), _), ((4, 0), _)] (fun k => [(8, .v (.int .i64 (k : Int)))]) (fun k => [((7, 0), .box 33 [.v (.int .i64 (n : Int)), .ref (100, 0) 0 k])]) (fun k => ⟨(100, 0), true, 112, 4, 1000, ((mzero n k).map bsl)⟩) [(0, 9)] [(0, 9)] (fun k => n - k) 0 ?_ (by
          refine Le.trans ?_ (Le.nilBA (7, 0) 1 (100, 0) 112 1 rfl rfl rfl)
          refine Le.keepB (rows := []) (bx0 := (100, 0)) [] [] rfl ?_ ?_ trivial ⟨rfl, trivial⟩ (by kernel_rfl) rfl rfl rfl (fun _ => rfl) (by kernel_rfl) (fun _ => rfl)
          · exact ⟨(by repeat' (first | exact Lv.v | exact Lv.sl | exact Lv.fp | exact lvRr rfl rfl | exact lvPr rfl | exact Lv.mp | exact Lv.nil | exact Lv.z | exact Lv.dead | refine Lv.agg rfl ?_ | refine Lv.fn rfl ?_ rfl ?_ | refine Lv.tup rfl ?_ | refine Lv.ifc ?_ | exact lv_nil | refine lv_cons ?_ ?_)), (lvRr (id := (0, 9)) rfl rfl), (lvPr (id := (4, 0)) rfl), (lvPr (id := (7, 0)) rfl), (lvI (by first | rfl | omega | (simp; done) | (simp; omega) | assumption)), trivial⟩
          · exact ⟨(obR rfl rfl rfl rfl), (obB rfl rfl rfl rfl (by repeat' (first | exact Lv.v | exact Lv.sl | exact Lv.fp | exact lvRr rfl rfl | exact lvPr rfl | exact Lv.mp | exact Lv.nil | exact Lv.z | exact Lv.dead | refine Lv.agg rfl ?_ | refine Lv.fn rfl ?_ rfl ?_ | refine Lv.tup rfl ?_ | refine Lv.ifc ?_ | exact lv_nil | refine lv_cons ?_ ?_))), (obB rfl rfl rfl rfl (lv_cons (lvI (by first | rfl | omega | (simp; done) | (simp; omega) | assumption)) (lv_cons (lvRr rfl (by first | rfl | omega | (simp; done) | (simp; omega) | assumption)) lv_nil))), trivial⟩) ?_
        · first | omega | trivial | exact ⟨by omega, by omega⟩
        intro k hk
        refine D_seq fun K19 hK19 => ?_
        refine D_seq fun K20 hK20 => ?_
        refine D_region ?_
        refine DL_c (op_mv _ (rfl : _ = AV.v (.int _ _))) ?_
        refine DL_c (op_mv _ (rfl : _ = AV.v (.int _ _))) ?_
        first
          | refine DL_c (op_lss _ _ rfl rfl (by assumption)) ?_
          | refine DL_c (op_lss _ _ rfl rfl rfl) ?_
        refine DL_nil (hK20 _ ?_)
        clear hK20; try clear K20
        refine D_splitC rfl (fun hc63 => ?_) (fun hc63 => ?_)
        · skip
          refine D_skip (hK19 _ ?_)
          clear hK19; try clear K19
          refine D_seq fun K21 hK21 => ?_
          refine D_block ?_
          refine D_anyL 5 [66, 67, 68, 69, 70] [(69, 0), (70, 0)] (by kernel_rfl) (by kernel_rfl) rfl (nodupO_iff rfl) (rfl : _ = [_, _, _, _, _]) (rfl : _ = [_, _, _]) ?_
          first
            | refine any_c (_, []) (fun τ => op_fldP _ inferInstance rfl rfl rfl) ?_
            | refine any_c (_, []) (fun τ => op_fldF _ inferInstance rfl rfl) ?_
          refine any_n (rfl : _ = [_]) ?_
          first
            | refine any_c (_, []) (fun τ => op_ldB _ inferInstance rfl rfl (rfl : _ = some (AV.ref _ _ _))) ?_
            | refine any_c (_, []) (fun τ => op_ldR _ inferInstance rfl rfl (by first | rfl | exact isl_get _ _ (by omega) | exact bsl_get _ _ (by omega) | assumption | exact mrows_get _ _ (by omega) | exact nsl_get _ _ (by omega) | exact psl_get0 _ _ (by omega) | exact psl_get1 _ _ (by omega)) rfl) ?_
          refine any_n (rfl : _ = [_, _]) ?_
          refine any_c (_, []) (fun τ => op_mv _ (rfl : _ = AV.v (.int _ _))) ?_
          refine any_n (rfl : _ = [_, _, _]) ?_
          refine any_c (_, [((69, 0), _)]) (fun τ => op_mk (69, 0) _ _ inferInstance rfl rfl n rfl rfl (by omega) rfl (bsl_falses n)) ?_
          refine any_n (rfl : _ = [_, _, _, _]) ?_
          refine any_c (_, [((70, 0), _)]) (fun τ => op_bsB (70, 0) 1 _ inferInstance (r := [[.ref (69, 0) 0 n]]) rfl rfl (by simp) (by decide) (by decide) rfl rfl) ?_
          refine any_n (rfl : _ = [_, _, _, _, _]) ?_
          refine any_end ⟨rfl, ?_⟩
          refine DL_c (op_apA (71, 0) _ _ inferInstance rfl rfl (by first | (simp only [Bun.cells_len, isl_len, bsl_len, psl_len, mrows_len, nsl_len, ws_len, List.length_map, mzero_len, List.length_cons, List.length_nil]; omega) | (simp [Bun.cells_len]; done) | (simp [Bun.cells_len]; omega)) rfl rfl rfl (by omega) rfl rfl rfl rfl rfl) ?_
          first
            | refine DL_c (op_fldP _ inferInstance rfl rfl rfl) ?_
            | refine DL_c (op_fldF _ inferInstance rfl rfl) ?_
          refine DL_c (op_stB _ _ inferInstance rfl rfl rfl rfl (Nat.le_of_ble_eq_true rfl) rfl) ?_
          refine DL_nil (hK21 _ ?_)
          clear hK21; try clear K21
          refine D_region ?_
          refine DL_c (op_mv _ (rfl : _ = AV.v (.int _ _))) ?_
          first
            | refine DL_c (op_add _ _ rfl rfl (i64w (by omega))) ?_
            | refine DL_c (op_add _ _ rfl rfl rfl) ?_
          refine DL_c (op_as _ (rfl : _ = AV.v (.int _ _))) ?_
          refine DL_nil ?_
          refine ⟨k + 1, ?_, ?_, ?_⟩
          · first | omega | trivial | exact ⟨by omega, by omega⟩
          · skip
            refine Le.pushB (69, 0) [((100, 0), (71, 0))] [] (k := k) ?_ rfl ?_ ?_ trivial ⟨rfl, trivial⟩ (by kernel_rfl) (by kernel_rfl) ?_ ?_ rfl rfl rfl rfl (fun _ => rfl) (by kernel_rfl) (fun _ => rfl)
            · first | exact mzero_succ n k | (simp; done)
            · exact ⟨(by repeat' (first | exact Lv.v | exact Lv.sl | exact Lv.fp | exact lvRr (id := (0, 9)) rfl rfl | exact lvPr (id := (0, 9)) rfl | exact lvRr (id := (4, 0)) rfl rfl | exact lvPr (id := (4, 0)) rfl | exact lvRr (id := (7, 0)) rfl rfl | exact lvPr (id := (7, 0)) rfl | exact lvRr (id := (69, 0)) rfl rfl | exact lvPr (id := (69, 0)) rfl | exact lvRr (id := (70, 0)) rfl rfl | exact lvPr (id := (70, 0)) rfl | exact lvRr (id := (100, 0)) rfl rfl | exact lvPr (id := (100, 0)) rfl | exact lvRr rfl rfl | exact lvPr rfl | exact Lv.mp | exact Lv.nil | exact Lv.z | exact Lv.dead | refine Lv.agg rfl ?_ | refine Lv.fn rfl ?_ rfl ?_ | refine Lv.tup rfl ?_ | refine Lv.ifc ?_ | exact lv_nil | refine lv_cons ?_ ?_)), (lvRr (id := (0, 9)) rfl rfl), (lvPr (id := (4, 0)) rfl), (lvPr (id := (7, 0)) rfl), (lvI (by first | rfl | omega | (simp; done) | (simp; omega) | assumption)), trivial⟩
            · exact ⟨(obR rfl rfl rfl rfl), (obB rfl rfl rfl rfl (by repeat' (first | exact Lv.v | exact Lv.sl | exact Lv.fp | exact lvRr (id := (0, 9)) rfl rfl | exact lvPr (id := (0, 9)) rfl | exact lvRr (id := (4, 0)) rfl rfl | exact lvPr (id := (4, 0)) rfl | exact lvRr (id := (7, 0)) rfl rfl | exact lvPr (id := (7, 0)) rfl | exact lvRr (id := (69, 0)) rfl rfl | exact lvPr (id := (69, 0)) rfl | exact lvRr (id := (70, 0)) rfl rfl | exact lvPr (id := (70, 0)) rfl | exact lvRr (id := (100, 0)) rfl rfl | exact lvPr (id := (100, 0)) rfl | exact lvRr rfl rfl | exact lvPr rfl | exact Lv.mp | exact Lv.nil | exact Lv.z | exact Lv.dead | refine Lv.agg rfl ?_ | refine Lv.fn rfl ?_ rfl ?_ | refine Lv.tup rfl ?_ | refine Lv.ifc ?_ | exact lv_nil | refine lv_cons ?_ ?_))), (obB rfl rfl rfl rfl (lv_cons (lvI (by first | rfl | omega | (simp; done) | (simp; omega) | assumption)) (lv_cons (lvRr rfl (by first | rfl | omega | (simp; done) | (simp; omega) | assumption)) lv_nil))), trivial⟩
            · first | exact mzero_succ n k | (simp; done)
            · first | exact mzero_succ n k | (simp; done)
          · omega
        · skip
          obtain rfl : n = k := by omega
          refine D_exit ?_
          refine id (hK17 _ ?_)
          clear hK17; try clear K17
          refine D_seq fun K22 hK22 => ?_
          refine D_seq fun K23 hK23 => ?_
          refine D_region ?_
          refine DL_c (op_as _ (rfl : _ = AV.v (.int _ _))) ?_
          refine DL_nil (hK23 _ ?_)
          clear hK23; try clear K23
          refine D_block ?_
          refine D_loopLB (α := Nat × List (List Bool)) (fun x => x.1 ≤ m ∧ MPr n E x.1 x.2) 149 [(0, _), (1, _), (4, _), (7, _)] [((0, 9), _), ((4, 0), _), ((7, 0), _)] (fun x => [(9, .v (.int .i64 (x.1 : Int)))]) (fun x => []) (fun x => ⟨(100, 0), true, 112, 4, 1000, (x.2.map bsl)⟩) [(0, 9)] [(0, 9)] (fun x => m - x.1) (0, mzero n n) ?_ (by
            refine Le.keepB [] [] rfl ?_ ?_ trivial ⟨rfl, trivial⟩ (by kernel_rfl) rfl rfl rfl (fun _ => rfl) (by kernel_rfl) (fun _ => rfl)
            · exact ⟨(by repeat' (first | exact Lv.v | exact Lv.sl | exact Lv.fp | exact lvRr (id := (0, 9)) rfl rfl | exact lvPr (id := (0, 9)) rfl | exact lvRr (id := (4, 0)) rfl rfl | exact lvPr (id := (4, 0)) rfl | exact lvRr (id := (7, 0)) rfl rfl | exact lvPr (id := (7, 0)) rfl | exact lvRr (id := (100, 0)) rfl rfl | exact lvPr (id := (100, 0)) rfl | exact lvRr rfl rfl | exact lvPr rfl | exact Lv.mp | exact Lv.nil | exact Lv.z | exact Lv.dead | refine Lv.agg rfl ?_ | refine Lv.fn rfl ?_ rfl ?_ | refine Lv.tup rfl ?_ | refine Lv.ifc ?_ | exact lv_nil | refine lv_cons ?_ ?_)), (lvRr (id := (0, 9)) rfl rfl), (lvPr (id := (4, 0)) rfl), (lvPr (id := (7, 0)) rfl), (lvI (by first | rfl | omega | (simp; done) | (simp; omega) | assumption)), trivial⟩
            · exact ⟨(obR rfl rfl rfl rfl), (obB rfl rfl rfl rfl (by repeat' (first | exact Lv.v | exact Lv.sl | exact Lv.fp | exact lvRr (id := (0, 9)) rfl rfl | exact lvPr (id := (0, 9)) rfl | exact lvRr (id := (4, 0)) rfl rfl | exact lvPr (id := (4, 0)) rfl | exact lvRr (id := (7, 0)) rfl rfl | exact lvPr (id := (7, 0)) rfl | exact lvRr (id := (100, 0)) rfl rfl | exact lvPr (id := (100, 0)) rfl | exact lvRr rfl rfl | exact lvPr rfl | exact Lv.mp | exact Lv.nil | exact Lv.z | exact Lv.dead | refine Lv.agg rfl ?_ | refine Lv.fn rfl ?_ rfl ?_ | refine Lv.tup rfl ?_ | refine Lv.ifc ?_ | exact lv_nil | refine lv_cons ?_ ?_))), (obB rfl rfl rfl rfl (by repeat' (first | exact Lv.v | exact Lv.sl | exact Lv.fp | exact lvRr (id := (0, 9)) rfl rfl | exact lvPr (id := (0, 9)) rfl | exact lvRr (id := (4, 0)) rfl rfl | exact lvPr (id := (4, 0)) rfl | exact lvRr (id := (7, 0)) rfl rfl | exact lvPr (id := (7, 0)) rfl | exact lvRr (id := (100, 0)) rfl rfl | exact lvPr (id := (100, 0)) rfl | exact lvRr rfl rfl | exact lvPr rfl | exact Lv.mp | exact Lv.nil | exact Lv.z | exact Lv.dead | refine Lv.agg rfl ?_ | refine Lv.fn rfl ?_ rfl ?_ | refine Lv.tup rfl ?_ | refine Lv.ifc ?_ | exact lv_nil | refine lv_cons ?_ ?_))), trivial⟩) ?_
          · exact ⟨by simp, MPr.zero n E⟩
          intro x hx
          obtain ⟨hi, hP⟩ := hx
          have hml := hP.mt.len
          refine D_seq fun K24 hK24 => ?_
          refine D_seq fun K25 hK25 => ?_
          refine D_region ?_
          refine DL_c (op_mv _ (rfl : _ = AV.v (.int _ _))) ?_
          refine DL_c (op_mv _ (rfl : _ = AV.ref _ _ _)) ?_
          first
            | refine DL_c (op_lenR _ inferInstance rfl rfl) ?_
            | refine DL_c (op_lenB _ inferInstance rfl rfl) ?_
          first
            | refine DL_c (op_lss _ _ rfl rfl (by assumption)) ?_
            | refine DL_c (op_lss _ _ rfl rfl rfl) ?_
          refine DL_nil (hK25 _ ?_)
          clear hK25; try clear K25
          refine D_splitC rfl (fun hc76 => ?_) (fun hc76 => ?_)
          · skip
            have hb := inE_at hE (i := x.1) (by omega)
            have hr1 := hP.mt.row (E.getD x.1 (0, 0)).1.toNat (by omega)
            refine D_skip (hK24 _ ?_)
            clear hK24; try clear K24
            refine D_seq fun K26 hK26 => ?_
            refine D_block ?_
            refine D_le (σ' := mkStB 149 [(0, _), (1, _), (4, _), (7, _), (9, _)] [((0, 9), _), ((4, 0), _), ((7, 0), _)] ⟨(100, 0), true, 112, 4, 1000, _⟩ [(0, 9)] [(0, 9)]) (by
              refine Le.keepB [] [] rfl ?_ ?_ trivial ⟨rfl, trivial⟩ (by kernel_rfl) rfl rfl rfl (fun _ => rfl) (by kernel_rfl) (fun _ => rfl)
              · exact ⟨(by repeat' (first | exact Lv.v | exact Lv.sl | exact Lv.fp | exact lvRr (id := (0, 9)) rfl rfl | exact lvPr (id := (0, 9)) rfl | exact lvRr (id := (4, 0)) rfl rfl | exact lvPr (id := (4, 0)) rfl | exact lvRr (id := (7, 0)) rfl rfl | exact lvPr (id := (7, 0)) rfl | exact lvRr (id := (100, 0)) rfl rfl | exact lvPr (id := (100, 0)) rfl | exact lvRr rfl rfl | exact lvPr rfl | exact Lv.mp | exact Lv.nil | exact Lv.z | exact Lv.dead | refine Lv.agg rfl ?_ | refine Lv.fn rfl ?_ rfl ?_ | refine Lv.tup rfl ?_ | refine Lv.ifc ?_ | exact lv_nil | refine lv_cons ?_ ?_)), (lvRr (id := (0, 9)) rfl rfl), (lvPr (id := (4, 0)) rfl), (lvPr (id := (7, 0)) rfl), (by repeat' (first | exact Lv.v | exact Lv.sl | exact Lv.fp | exact lvRr (id := (0, 9)) rfl rfl | exact lvPr (id := (0, 9)) rfl | exact lvRr (id := (4, 0)) rfl rfl | exact lvPr (id := (4, 0)) rfl | exact lvRr (id := (7, 0)) rfl rfl | exact lvPr (id := (7, 0)) rfl | exact lvRr (id := (100, 0)) rfl rfl | exact lvPr (id := (100, 0)) rfl | exact lvRr rfl rfl | exact lvPr rfl | exact Lv.mp | exact Lv.nil | exact Lv.z | exact Lv.dead | refine Lv.agg rfl ?_ | refine Lv.fn rfl ?_ rfl ?_ | refine Lv.tup rfl ?_ | refine Lv.ifc ?_ | exact lv_nil | refine lv_cons ?_ ?_)), trivial⟩
              · exact ⟨(obR rfl rfl rfl rfl), (obB rfl rfl rfl rfl (by repeat' (first | exact Lv.v | exact Lv.sl | exact Lv.fp | exact lvRr (id := (0, 9)) rfl rfl | exact lvPr (id := (0, 9)) rfl | exact lvRr (id := (4, 0)) rfl rfl | exact lvPr (id := (4, 0)) rfl | exact lvRr (id := (7, 0)) rfl rfl | exact lvPr (id := (7, 0)) rfl | exact lvRr (id := (100, 0)) rfl rfl | exact lvPr (id := (100, 0)) rfl | exact lvRr rfl rfl | exact lvPr rfl | exact Lv.mp | exact Lv.nil | exact Lv.z | exact Lv.dead | refine Lv.agg rfl ?_ | refine Lv.fn rfl ?_ rfl ?_ | refine Lv.tup rfl ?_ | refine Lv.ifc ?_ | exact lv_nil | refine lv_cons ?_ ?_))), (obB rfl rfl rfl rfl (by repeat' (first | exact Lv.v | exact Lv.sl | exact Lv.fp | exact lvRr (id := (0, 9)) rfl rfl | exact lvPr (id := (0, 9)) rfl | exact lvRr (id := (4, 0)) rfl rfl | exact lvPr (id := (4, 0)) rfl | exact lvRr (id := (7, 0)) rfl rfl | exact lvPr (id := (7, 0)) rfl | exact lvRr (id := (100, 0)) rfl rfl | exact lvPr (id := (100, 0)) rfl | exact lvRr rfl rfl | exact lvPr rfl | exact Lv.mp | exact Lv.nil | exact Lv.z | exact Lv.dead | refine Lv.agg rfl ?_ | refine Lv.fn rfl ?_ rfl ?_ | refine Lv.tup rfl ?_ | refine Lv.ifc ?_ | exact lv_nil | refine lv_cons ?_ ?_))), trivial⟩) ?_
            refine D_anyL 15 [79, 80, 81, 82, 83, 84, 85, 86, 87, 88, 89, 90, 91, 92, 93] [] (by kernel_rfl) (by kernel_rfl) rfl (nodupO_iff rfl) (rfl : _ = [_, _, _, _, _, _, _, _, _, _, _, _, _, _, _]) (rfl : _ = [_]) ?_
            first
              | refine any_c (_, []) (fun τ => op_fldP _ inferInstance rfl rfl rfl) ?_
              | refine any_c (_, []) (fun τ => op_fldF _ inferInstance rfl rfl) ?_
            refine any_n (rfl : _ = [_]) ?_
            first
              | refine any_c (_, []) (fun τ => op_ldB _ inferInstance rfl rfl (rfl : _ = some (AV.ref _ _ _))) ?_
              | refine any_c (_, []) (fun τ => op_ldR _ inferInstance rfl rfl (by first | rfl | exact isl_get _ _ (by omega) | exact bsl_get _ _ (by omega) | assumption | exact mrows_get _ _ (by omega) | exact nsl_get _ _ (by omega) | exact psl_get0 _ _ (by omega) | exact psl_get1 _ _ (by omega)) rfl) ?_
            refine any_n (rfl : _ = [_, _]) ?_
            refine any_c (_, []) (fun τ => op_mv _ (rfl : _ = AV.ref _ _ _)) ?_
            refine any_n (rfl : _ = [_, _, _]) ?_
            refine any_c (_, []) (fun τ => op_mv _ (rfl : _ = AV.v (.int _ _))) ?_
            refine any_n (rfl : _ = [_, _, _, _]) ?_
            first
              | refine any_c (_, []) (fun τ => op_ixR _ _ inferInstance rfl rfl rfl _ rfl (by omega) (by first | exact (Nat.zero_add _).trans (Nat.mul_one _) | exact Nat.zero_add _ | rfl | omega)) ?_
              | refine any_c (_, []) (fun τ => op_ixR _ _ inferInstance rfl rfl rfl (Int.toNat _) (Int.toNat_of_nonneg (by omega)).symm (by omega) (by first | exact (Nat.zero_add _).trans (Nat.mul_one _) | exact Nat.zero_add _ | rfl | omega)) ?_
            refine any_n (rfl : _ = [_, _, _, _, _]) ?_
            refine any_c (_, []) (fun τ => op_ixA _ _ inferInstance rfl rfl rfl 0 rfl (by omega) (by first | exact (Nat.zero_add _).trans (Nat.mul_one _) | exact Nat.zero_add _ | rfl | omega)) ?_
            refine any_n (rfl : _ = [_, _, _, _, _, _]) ?_
            first
              | refine any_c (_, []) (fun τ => op_ldR _ inferInstance rfl rfl (by first | rfl | exact isl_get _ _ (by omega) | exact bsl_get _ _ (by omega) | assumption | exact mrows_get _ _ (by omega) | exact nsl_get _ _ (by omega) | exact psl_get0 _ _ (by omega) | exact psl_get1 _ _ (by omega)) rfl) ?_
              | refine any_c (_, []) (fun τ => op_ldB _ inferInstance rfl rfl (rfl : _ = some (AV.v (.int _ _)))) ?_
            refine any_n (rfl : _ = [_, _, _, _, _, _, _]) ?_
            first
              | refine any_c (_, []) (fun τ => op_ixA' _ _ inferInstance rfl rfl rfl _ rfl (by omega) (by first | exact (Nat.zero_add _).trans (Nat.mul_one _) | exact Nat.zero_add _ | rfl | omega)) ?_
              | refine any_c (_, []) (fun τ => op_ixA' _ _ inferInstance rfl rfl rfl (Int.toNat _) (Int.toNat_of_nonneg (by omega)).symm (by omega) (by first | exact (Nat.zero_add _).trans (Nat.mul_one _) | exact Nat.zero_add _ | rfl | omega)) ?_
            refine any_n (rfl : _ = [_, _, _, _, _, _, _, _]) ?_
            refine any_c (_, []) (fun τ => op_ldA' _ inferInstance rfl rfl (bun_cell (f := 1000) (b := ⟨(100, 0), true, 112, 4, 1000, _⟩) (j := (E.getD x.1 (0, 0)).1.toNat) (n := n) rfl (by first | omega | assumption | (simp only [isl_len, bsl_len, psl_len, mrows_len, nsl_len, ws_len, List.length_map, mzero_len]; omega) | (simp; done) | (simp; omega)) (by first | rfl | assumption | (simp only [isl_len, bsl_len, psl_len, mrows_len, nsl_len, ws_len, List.length_map, mzero_len]; omega) | (simp; done) | (simp; omega) | (rw [brow_get, bsl_len]; omega) | (rw [brow_get, bsl_len]; assumption)) rfl)) ?_
            refine any_n (rfl : _ = [_, _, _, _, _, _, _, _, _]) ?_
            refine any_c (_, []) (fun τ => op_mv _ (rfl : _ = AV.ref _ _ _)) ?_
            refine any_n (rfl : _ = [_, _, _, _, _, _, _, _, _, _]) ?_
            refine any_c (_, []) (fun τ => op_mv _ (rfl : _ = AV.v (.int _ _))) ?_
            refine any_n (rfl : _ = [_, _, _, _, _, _, _, _, _, _, _]) ?_
            first
              | refine any_c (_, []) (fun τ => op_ixR _ _ inferInstance rfl rfl rfl _ rfl (by omega) (by first | exact (Nat.zero_add _).trans (Nat.mul_one _) | exact Nat.zero_add _ | rfl | omega)) ?_
              | refine any_c (_, []) (fun τ => op_ixR _ _ inferInstance rfl rfl rfl (Int.toNat _) (Int.toNat_of_nonneg (by omega)).symm (by omega) (by first | exact (Nat.zero_add _).trans (Nat.mul_one _) | exact Nat.zero_add _ | rfl | omega)) ?_
            refine any_n (rfl : _ = [_, _, _, _, _, _, _, _, _, _, _, _]) ?_
            refine any_c (_, []) (fun τ => op_ixA _ _ inferInstance rfl rfl rfl 1 rfl (by omega) (by first | exact (Nat.zero_add _).trans (Nat.mul_one _) | exact Nat.zero_add _ | rfl | omega)) ?_
            refine any_n (rfl : _ = [_, _, _, _, _, _, _, _, _, _, _, _, _]) ?_
            first
              | refine any_c (_, []) (fun τ => op_ldR _ inferInstance rfl rfl (by first | rfl | exact isl_get _ _ (by omega) | exact bsl_get _ _ (by omega) | assumption | exact mrows_get _ _ (by omega) | exact nsl_get _ _ (by omega) | exact psl_get0 _ _ (by omega) | exact psl_get1 _ _ (by omega)) rfl) ?_
              | refine any_c (_, []) (fun τ => op_ldB _ inferInstance rfl rfl (rfl : _ = some (AV.v (.int _ _)))) ?_
            refine any_n (rfl : _ = [_, _, _, _, _, _, _, _, _, _, _, _, _, _]) ?_
            first
              | refine any_c (_, []) (fun τ => op_ixR _ _ inferInstance rfl (bun_row (b := ⟨(100, 0), true, 112, 4, 1000, _⟩) rfl (by rfl) rfl (by first | omega | assumption | (simp only [isl_len, bsl_len, psl_len, mrows_len, nsl_len, ws_len, List.length_map, mzero_len]; omega) | (simp; done) | (simp; omega)) (by first | exact brow_get _ _ | rfl)) rfl _ rfl (by omega) (by first | exact (Nat.zero_add _).trans (Nat.mul_one _) | exact Nat.zero_add _ | rfl | omega)) ?_
              | refine any_c (_, []) (fun τ => op_ixR _ _ inferInstance rfl (bun_row (b := ⟨(100, 0), true, 112, 4, 1000, _⟩) rfl (by rfl) rfl (by first | omega | assumption | (simp only [isl_len, bsl_len, psl_len, mrows_len, nsl_len, ws_len, List.length_map, mzero_len]; omega) | (simp; done) | (simp; omega)) (by first | exact brow_get _ _ | rfl)) rfl (Int.toNat _) (Int.toNat_of_nonneg (by omega)).symm (by omega) (by first | exact (Nat.zero_add _).trans (Nat.mul_one _) | exact Nat.zero_add _ | rfl | omega)) ?_
            refine any_n (rfl : _ = [_, _, _, _, _, _, _, _, _, _, _, _, _, _, _]) ?_
            refine any_end ⟨rfl, ?_⟩
            refine DL_c (op_stR _ _ inferInstance rfl (bun_row (b := ⟨(100, 0), true, 112, 4, 1000, _⟩) rfl (by rfl) rfl (by first | omega | assumption | (simp only [isl_len, bsl_len, psl_len, mrows_len, nsl_len, ws_len, List.length_map, mzero_len]; omega) | (simp; done) | (simp; omega)) (by first | exact brow_get _ _ | rfl)) rfl rfl rfl (by first | exact Nat.le_of_ble_eq_true rfl | (simp only [isl_len, bsl_len, psl_len, mrows_len, nsl_len, ws_len, List.length_map, mzero_len, List.length_cons, List.length_nil]; omega) | (simp; done) | (simp; omega)) rfl) ?_
            refine DL_nil (hK26 _ ?_)
            clear hK26; try clear K26
            refine D_region ?_
            refine DL_c (op_mv _ (rfl : _ = AV.v (.int _ _))) ?_
            first
              | refine DL_c (op_add _ _ rfl rfl (i64w (by omega))) ?_
              | refine DL_c (op_add _ _ rfl rfl rfl) ?_
            refine DL_c (op_as _ (rfl : _ = AV.v (.int _ _))) ?_
            refine DL_nil ?_
            refine ⟨(x.1 + 1, mset x.2 (E.getD x.1 (0, 0)).1.toNat (E.getD x.1 (0, 0)).2.toNat), ?_, ?_, ?_⟩
            · exact ⟨by simp only; omega, hP.succ hE (by omega)⟩
            · skip
              refine Le.putB ((E.getD x.1 (0, 0)).1.toNat) [] [] rfl ?_ ?_ trivial ⟨rfl, trivial⟩ (by kernel_rfl) ?_ ?_ rfl rfl bun_self (by first | exact fun _ _ => rfl | exact fun j hj => bun_other hj | exact fun j hj => aft_other hj) (by kernel_rfl) (fun _ => rfl)
              · exact ⟨(by repeat' (first | exact Lv.v | exact Lv.sl | exact Lv.fp | exact lvRr (id := (0, 9)) rfl rfl | exact lvPr (id := (0, 9)) rfl | exact lvRr (id := (4, 0)) rfl rfl | exact lvPr (id := (4, 0)) rfl | exact lvRr (id := (7, 0)) rfl rfl | exact lvPr (id := (7, 0)) rfl | exact lvRr (id := (100, 0)) rfl rfl | exact lvPr (id := (100, 0)) rfl | exact lvRr rfl rfl | exact lvPr rfl | exact Lv.mp | exact Lv.nil | exact Lv.z | exact Lv.dead | refine Lv.agg rfl ?_ | refine Lv.fn rfl ?_ rfl ?_ | refine Lv.tup rfl ?_ | refine Lv.ifc ?_ | exact lv_nil | refine lv_cons ?_ ?_)), (lvRr (id := (0, 9)) rfl rfl), (lvPr (id := (4, 0)) rfl), (lvPr (id := (7, 0)) rfl), (lvI (by first | rfl | omega | (simp; done) | (simp; omega) | assumption)), trivial⟩
              · exact ⟨(obR rfl rfl rfl rfl), (obB rfl rfl rfl rfl (by repeat' (first | exact Lv.v | exact Lv.sl | exact Lv.fp | exact lvRr (id := (0, 9)) rfl rfl | exact lvPr (id := (0, 9)) rfl | exact lvRr (id := (4, 0)) rfl rfl | exact lvPr (id := (4, 0)) rfl | exact lvRr (id := (7, 0)) rfl rfl | exact lvPr (id := (7, 0)) rfl | exact lvRr (id := (100, 0)) rfl rfl | exact lvPr (id := (100, 0)) rfl | exact lvRr rfl rfl | exact lvPr rfl | exact Lv.mp | exact Lv.nil | exact Lv.z | exact Lv.dead | refine Lv.agg rfl ?_ | refine Lv.fn rfl ?_ rfl ?_ | refine Lv.tup rfl ?_ | refine Lv.ifc ?_ | exact lv_nil | refine lv_cons ?_ ?_))), (obB rfl rfl rfl rfl (by repeat' (first | exact Lv.v | exact Lv.sl | exact Lv.fp | exact lvRr (id := (0, 9)) rfl rfl | exact lvPr (id := (0, 9)) rfl | exact lvRr (id := (4, 0)) rfl rfl | exact lvPr (id := (4, 0)) rfl | exact lvRr (id := (7, 0)) rfl rfl | exact lvPr (id := (7, 0)) rfl | exact lvRr (id := (100, 0)) rfl rfl | exact lvPr (id := (100, 0)) rfl | exact lvRr rfl rfl | exact lvPr rfl | exact Lv.mp | exact Lv.nil | exact Lv.z | exact Lv.dead | refine Lv.agg rfl ?_ | refine Lv.fn rfl ?_ rfl ?_ | refine Lv.tup rfl ?_ | refine Lv.ifc ?_ | exact lv_nil | refine lv_cons ?_ ?_))), trivial⟩
              · first | exact mset_put (by omega) | exact mset_putL (by omega)
              · first | exact mset_put (by omega) | exact mset_putL (by omega)
            · simp only; omega
          · skip
            obtain ⟨i, M0⟩ := x
            obtain rfl : m = i := by simp only at *; omega
            subst hm
            have hW0 := War.start hP
            refine D_exit ?_
            refine id (hK22 _ ?_)
            clear hK22; try clear K22
            refine D_seq fun K27 hK27 => ?_
            refine D_seq fun K28 hK28 => ?_
            refine D_region ?_
            refine DL_c (op_as _ (rfl : _ = AV.v (.int _ _))) ?_
            refine DL_nil (hK28 _ ?_)
            clear hK28; try clear K28
            refine D_block ?_
            refine D_loopLB (α := Nat × List (List Bool)) (fun x => x.1 ≤ n ∧ War n E x.1 0 0 x.2) 149 [(0, _), (4, _), (7, _)] [((4, 0), _), ((7, 0), _), ((0, 9), _)] (fun x => [(10, .v (.int .i64 (x.1 : Int)))]) (fun x => []) (fun x => ⟨(100, 0), true, 112, 4, 1000, (x.2.map bsl)⟩) [(0, 9)] [(0, 9)] (fun x => n - x.1) (0, M0) ?_ (by
              refine Le.keepB [] [] rfl ?_ ?_ trivial ⟨rfl, trivial⟩ (by kernel_rfl) ?_ rfl rfl (fun _ => rfl) (by kernel_rfl) (fun _ => rfl)
              · exact ⟨(by repeat' (first | exact Lv.v | exact Lv.sl | exact Lv.fp | exact lvRr (id := (0, 9)) rfl rfl | exact lvPr (id := (0, 9)) rfl | exact lvRr (id := (4, 0)) rfl rfl | exact lvPr (id := (4, 0)) rfl | exact lvRr (id := (7, 0)) rfl rfl | exact lvPr (id := (7, 0)) rfl | exact lvRr (id := (100, 0)) rfl rfl | exact lvPr (id := (100, 0)) rfl | exact lvRr rfl rfl | exact lvPr rfl | exact Lv.mp | exact Lv.nil | exact Lv.z | exact Lv.dead | refine Lv.agg rfl ?_ | refine Lv.fn rfl ?_ rfl ?_ | refine Lv.tup rfl ?_ | refine Lv.ifc ?_ | exact lv_nil | refine lv_cons ?_ ?_)), (lvPr (id := (4, 0)) rfl), (lvPr (id := (7, 0)) rfl), (lvI (by first | rfl | omega | (simp; done) | (simp; omega) | assumption)), trivial⟩
              · exact ⟨(obB rfl rfl rfl rfl (by repeat' (first | exact Lv.v | exact Lv.sl | exact Lv.fp | exact lvRr (id := (0, 9)) rfl rfl | exact lvPr (id := (0, 9)) rfl | exact lvRr (id := (4, 0)) rfl rfl | exact lvPr (id := (4, 0)) rfl | exact lvRr (id := (7, 0)) rfl rfl | exact lvPr (id := (7, 0)) rfl | exact lvRr (id := (100, 0)) rfl rfl | exact lvPr (id := (100, 0)) rfl | exact lvRr rfl rfl | exact lvPr rfl | exact Lv.mp | exact Lv.nil | exact Lv.z | exact Lv.dead | refine Lv.agg rfl ?_ | refine Lv.fn rfl ?_ rfl ?_ | refine Lv.tup rfl ?_ | refine Lv.ifc ?_ | exact lv_nil | refine lv_cons ?_ ?_))), (obB rfl rfl rfl rfl (by repeat' (first | exact Lv.v | exact Lv.sl | exact Lv.fp | exact lvRr (id := (0, 9)) rfl rfl | exact lvPr (id := (0, 9)) rfl | exact lvRr (id := (4, 0)) rfl rfl | exact lvPr (id := (4, 0)) rfl | exact lvRr (id := (7, 0)) rfl rfl | exact lvPr (id := (7, 0)) rfl | exact lvRr (id := (100, 0)) rfl rfl | exact lvPr (id := (100, 0)) rfl | exact lvRr rfl rfl | exact lvPr rfl | exact Lv.mp | exact Lv.nil | exact Lv.z | exact Lv.dead | refine Lv.agg rfl ?_ | refine Lv.fn rfl ?_ rfl ?_ | refine Lv.tup rfl ?_ | refine Lv.ifc ?_ | exact lv_nil | refine lv_cons ?_ ?_))), (obR rfl rfl rfl rfl), trivial⟩
              · first | rfl | assumption | (simp; done) | (simp; omega)) ?_
            · exact ⟨by simp, hW0⟩
            intro x hx
            obtain ⟨hc, hWx⟩ := hx
            have hml := hWx.mt.len
            refine D_seq fun K29 hK29 => ?_
            refine D_seq fun K30 hK30 => ?_
            refine D_region ?_
            refine DL_c (op_mv _ (rfl : _ = AV.v (.int _ _))) ?_
            refine DL_c (op_mv _ (rfl : _ = AV.v (.int _ _))) ?_
            first
              | refine DL_c (op_lss _ _ rfl rfl (by assumption)) ?_
              | refine DL_c (op_lss _ _ rfl rfl rfl) ?_
            refine DL_nil (hK30 _ ?_)
            clear hK30; try clear K30
            refine D_splitC rfl (fun hc96 => ?_) (fun hc96 => ?_)
            · skip
              refine D_skip (hK29 _ ?_)
              clear hK29; try clear K29
              refine D_seq fun K31 hK31 => ?_
              refine D_block ?_
              refine D_seq fun K32 hK32 => ?_
              refine D_region ?_
              refine DL_c (op_as _ (rfl : _ = AV.v (.int _ _))) ?_
              refine DL_nil (hK32 _ ?_)
              clear hK32; try clear K32
              refine D_block ?_
              refine D_loopLB (α := Nat × List (List Bool)) (fun y => y.1 ≤ n ∧ War n E x.1 y.1 0 y.2) 149 [(0, _), (4, _), (7, _), (10, _)] [((4, 0), _), ((7, 0), _), ((0, 9), _)] (fun y => [(11, .v (.int .i64 (y.1 : Int)))]) (fun y => []) (fun y => ⟨(100, 0), true, 112, 4, 1000, (y.2.map bsl)⟩) [(0, 9)] [(0, 9)] (fun y => n - y.1) (0, x.2) ?_ (by
                refine Le.keepB [] [] rfl ?_ ?_ trivial ⟨rfl, trivial⟩ (by kernel_rfl) ?_ rfl rfl (fun _ => rfl) (by kernel_rfl) (fun _ => rfl)
                · exact ⟨(by repeat' (first | exact Lv.v | exact Lv.sl | exact Lv.fp | exact lvRr (id := (4, 0)) rfl rfl | exact lvPr (id := (4, 0)) rfl | exact lvRr (id := (7, 0)) rfl rfl | exact lvPr (id := (7, 0)) rfl | exact lvRr (id := (0, 9)) rfl rfl | exact lvPr (id := (0, 9)) rfl | exact lvRr (id := (100, 0)) rfl rfl | exact lvPr (id := (100, 0)) rfl | exact lvRr rfl rfl | exact lvPr rfl | exact Lv.mp | exact Lv.nil | exact Lv.z | exact Lv.dead | refine Lv.agg rfl ?_ | refine Lv.fn rfl ?_ rfl ?_ | refine Lv.tup rfl ?_ | refine Lv.ifc ?_ | exact lv_nil | refine lv_cons ?_ ?_)), (lvPr (id := (4, 0)) rfl), (lvPr (id := (7, 0)) rfl), (by repeat' (first | exact Lv.v | exact Lv.sl | exact Lv.fp | exact lvRr (id := (4, 0)) rfl rfl | exact lvPr (id := (4, 0)) rfl | exact lvRr (id := (7, 0)) rfl rfl | exact lvPr (id := (7, 0)) rfl | exact lvRr (id := (0, 9)) rfl rfl | exact lvPr (id := (0, 9)) rfl | exact lvRr (id := (100, 0)) rfl rfl | exact lvPr (id := (100, 0)) rfl | exact lvRr rfl rfl | exact lvPr rfl | exact Lv.mp | exact Lv.nil | exact Lv.z | exact Lv.dead | refine Lv.agg rfl ?_ | refine Lv.fn rfl ?_ rfl ?_ | refine Lv.tup rfl ?_ | refine Lv.ifc ?_ | exact lv_nil | refine lv_cons ?_ ?_)), (lvI (by first | rfl | omega | (simp; done) | (simp; omega) | assumption)), trivial⟩
                · exact ⟨(obB rfl rfl rfl rfl (by repeat' (first | exact Lv.v | exact Lv.sl | exact Lv.fp | exact lvRr (id := (4, 0)) rfl rfl | exact lvPr (id := (4, 0)) rfl | exact lvRr (id := (7, 0)) rfl rfl | exact lvPr (id := (7, 0)) rfl | exact lvRr (id := (0, 9)) rfl rfl | exact lvPr (id := (0, 9)) rfl | exact lvRr (id := (100, 0)) rfl rfl | exact lvPr (id := (100, 0)) rfl | exact lvRr rfl rfl | exact lvPr rfl | exact Lv.mp | exact Lv.nil | exact Lv.z | exact Lv.dead | refine Lv.agg rfl ?_ | refine Lv.fn rfl ?_ rfl ?_ | refine Lv.tup rfl ?_ | refine Lv.ifc ?_ | exact lv_nil | refine lv_cons ?_ ?_))), (obB rfl rfl rfl rfl (by repeat' (first | exact Lv.v | exact Lv.sl | exact Lv.fp | exact lvRr (id := (4, 0)) rfl rfl | exact lvPr (id := (4, 0)) rfl | exact lvRr (id := (7, 0)) rfl rfl | exact lvPr (id := (7, 0)) rfl | exact lvRr (id := (0, 9)) rfl rfl | exact lvPr (id := (0, 9)) rfl | exact lvRr (id := (100, 0)) rfl rfl | exact lvPr (id := (100, 0)) rfl | exact lvRr rfl rfl | exact lvPr rfl | exact Lv.mp | exact Lv.nil | exact Lv.z | exact Lv.dead | refine Lv.agg rfl ?_ | refine Lv.fn rfl ?_ rfl ?_ | refine Lv.tup rfl ?_ | refine Lv.ifc ?_ | exact lv_nil | refine lv_cons ?_ ?_))), (obR rfl rfl rfl rfl), trivial⟩
                · first | rfl | assumption | (simp; done) | (simp; omega)) ?_
              · exact ⟨by simp, hWx⟩
              intro y hy
              obtain ⟨ha, hWy⟩ := hy
              have hml := hWy.mt.len
              refine D_seq fun K33 hK33 => ?_
              refine D_seq fun K34 hK34 => ?_
              refine D_region ?_
              refine DL_c (op_mv _ (rfl : _ = AV.v (.int _ _))) ?_
              refine DL_c (op_mv _ (rfl : _ = AV.v (.int _ _))) ?_
              first
                | refine DL_c (op_lss _ _ rfl rfl (by assumption)) ?_
                | refine DL_c (op_lss _ _ rfl rfl rfl) ?_
              refine DL_nil (hK34 _ ?_)
              clear hK34; try clear K34
              refine D_splitC rfl (fun hc101 => ?_) (fun hc101 => ?_)
              · skip
                refine D_skip (hK33 _ ?_)
                clear hK33; try clear K33
                refine D_seq fun K35 hK35 => ?_
                refine D_block ?_
                refine D_seq fun K36 hK36 => ?_
                refine D_region ?_
                refine DL_c (op_as _ (rfl : _ = AV.v (.int _ _))) ?_
                refine DL_nil (hK36 _ ?_)
                clear hK36; try clear K36
                refine D_block ?_
                refine D_loopLB (α := Nat × List (List Bool)) (fun z => z.1 ≤ n ∧ War n E x.1 y.1 z.1 z.2) 149 [(0, _), (4, _), (7, _), (10, _), (11, _)] [((4, 0), _), ((7, 0), _), ((0, 9), _)] (fun z => [(12, .v (.int .i64 (z.1 : Int)))]) (fun z => []) (fun z => ⟨(100, 0), true, 112, 4, 1000, (z.2.map bsl)⟩) [(0, 9)] [(0, 9)] (fun z => n - z.1) (0, y.2) ?_ (by
                  refine Le.keepB [] [] rfl ?_ ?_ trivial ⟨rfl, trivial⟩ (by kernel_rfl) ?_ rfl rfl (fun _ => rfl) (by kernel_rfl) (fun _ => rfl)
                  · exact ⟨(by repeat' (first | exact Lv.v | exact Lv.sl | exact Lv.fp | exact lvRr (id := (4, 0)) rfl rfl | exact lvPr (id := (4, 0)) rfl | exact lvRr (id := (7, 0)) rfl rfl | exact lvPr (id := (7, 0)) rfl | exact lvRr (id := (0, 9)) rfl rfl | exact lvPr (id := (0, 9)) rfl | exact lvRr (id := (100, 0)) rfl rfl | exact lvPr (id := (100, 0)) rfl | exact lvRr rfl rfl | exact lvPr rfl | exact Lv.mp | exact Lv.nil | exact Lv.z | exact Lv.dead | refine Lv.agg rfl ?_ | refine Lv.fn rfl ?_ rfl ?_ | refine Lv.tup rfl ?_ | refine Lv.ifc ?_ | exact lv_nil | refine lv_cons ?_ ?_)), (lvPr (id := (4, 0)) rfl), (lvPr (id := (7, 0)) rfl), (by repeat' (first | exact Lv.v | exact Lv.sl | exact Lv.fp | exact lvRr (id := (4, 0)) rfl rfl | exact lvPr (id := (4, 0)) rfl | exact lvRr (id := (7, 0)) rfl rfl | exact lvPr (id := (7, 0)) rfl | exact lvRr (id := (0, 9)) rfl rfl | exact lvPr (id := (0, 9)) rfl | exact lvRr (id := (100, 0)) rfl rfl | exact lvPr (id := (100, 0)) rfl | exact lvRr rfl rfl | exact lvPr rfl | exact Lv.mp | exact Lv.nil | exact Lv.z | exact Lv.dead | refine Lv.agg rfl ?_ | refine Lv.fn rfl ?_ rfl ?_ | refine Lv.tup rfl ?_ | refine Lv.ifc ?_ | exact lv_nil | refine lv_cons ?_ ?_)), (by repeat' (first | exact Lv.v | exact Lv.sl | exact Lv.fp | exact lvRr (id := (4, 0)) rfl rfl | exact lvPr (id := (4, 0)) rfl | exact lvRr (id := (7, 0)) rfl rfl | exact lvPr (id := (7, 0)) rfl | exact lvRr (id := (0, 9)) rfl rfl | exact lvPr (id := (0, 9)) rfl | exact lvRr (id := (100, 0)) rfl rfl | exact lvPr (id := (100, 0)) rfl | exact lvRr rfl rfl | exact lvPr rfl | exact Lv.mp | exact Lv.nil | exact Lv.z | exact Lv.dead | refine Lv.agg rfl ?_ | refine Lv.fn rfl ?_ rfl ?_ | refine Lv.tup rfl ?_ | refine Lv.ifc ?_ | exact lv_nil | refine lv_cons ?_ ?_)), (lvI (by first | rfl | omega | (simp; done) | (simp; omega) | assumption)), trivial⟩
                  · exact ⟨(obB rfl rfl rfl rfl (by repeat' (first | exact Lv.v | exact Lv.sl | exact Lv.fp | exact lvRr (id := (4, 0)) rfl rfl | exact lvPr (id := (4, 0)) rfl | exact lvRr (id := (7, 0)) rfl rfl | exact lvPr (id := (7, 0)) rfl | exact lvRr (id := (0, 9)) rfl rfl | exact lvPr (id := (0, 9)) rfl | exact lvRr (id := (100, 0)) rfl rfl | exact lvPr (id := (100, 0)) rfl | exact lvRr rfl rfl | exact lvPr rfl | exact Lv.mp | exact Lv.nil | exact Lv.z | exact Lv.dead | refine Lv.agg rfl ?_ | refine Lv.fn rfl ?_ rfl ?_ | refine Lv.tup rfl ?_ | refine Lv.ifc ?_ | exact lv_nil | refine lv_cons ?_ ?_))), (obB rfl rfl rfl rfl (by repeat' (first | exact Lv.v | exact Lv.sl | exact Lv.fp | exact lvRr (id := (4, 0)) rfl rfl | exact lvPr (id := (4, 0)) rfl | exact lvRr (id := (7, 0)) rfl rfl | exact lvPr (id := (7, 0)) rfl | exact lvRr (id := (0, 9)) rfl rfl | exact lvPr (id := (0, 9)) rfl | exact lvRr (id := (100, 0)) rfl rfl | exact lvPr (id := (100, 0)) rfl | exact lvRr rfl rfl | exact lvPr rfl | exact Lv.mp | exact Lv.nil | exact Lv.z | exact Lv.dead | refine Lv.agg rfl ?_ | refine Lv.fn rfl ?_ rfl ?_ | refine Lv.tup rfl ?_ | refine Lv.ifc ?_ | exact lv_nil | refine lv_cons ?_ ?_))), (obR rfl rfl rfl rfl), trivial⟩
                  · first | rfl | assumption | (simp; done) | (simp; omega)) ?_
                · exact ⟨by simp, hWy⟩
                intro z hz
                obtain ⟨hb, hWz⟩ := hz
                have hml := hWz.mt.len
                refine D_seq fun K37 hK37 => ?_
                refine D_seq fun K38 hK38 => ?_
                refine D_region ?_
                refine DL_c (op_mv _ (rfl : _ = AV.v (.int _ _))) ?_
                refine DL_c (op_mv _ (rfl : _ = AV.v (.int _ _))) ?_
                first
                  | refine DL_c (op_lss _ _ rfl rfl (by assumption)) ?_
                  | refine DL_c (op_lss _ _ rfl rfl rfl) ?_
                refine DL_nil (hK38 _ ?_)
                clear hK38; try clear K38
                refine D_splitC rfl (fun hc106 => ?_) (fun hc106 => ?_)
                · skip
                  have hr1 := hWz.mt.row y.1 (by omega)
                  have hr2 := hWz.mt.row x.1 (by omega)
                  refine D_skip (hK37 _ ?_)
                  clear hK37; try clear K37
                  refine D_seq fun K39 hK39 => ?_
                  refine D_block ?_
                  refine D_seq fun K40 hK40 => ?_
                  refine D_region ?_
                  first
                    | refine DL_c (op_fldP _ inferInstance rfl rfl rfl) ?_
                    | refine DL_c (op_fldF _ inferInstance rfl rfl) ?_
                  first
                    | refine DL_c (op_ldB _ inferInstance rfl rfl (rfl : _ = some (AV.ref _ _ _))) ?_
                    | refine DL_c (op_ldR _ inferInstance rfl rfl (by first | rfl | exact isl_get _ _ (by omega) | exact bsl_get _ _ (by omega) | assumption | exact mrows_get _ _ (by omega) | exact nsl_get _ _ (by omega) | exact psl_get0 _ _ (by omega) | exact psl_get1 _ _ (by omega)) rfl) ?_
                  refine DL_c (op_mv _ (rfl : _ = AV.v (.int _ _))) ?_
                  first
                    | refine DL_c (op_ixA' _ _ inferInstance rfl rfl rfl _ rfl (by omega) (by first | exact (Nat.zero_add _).trans (Nat.mul_one _) | exact Nat.zero_add _ | rfl | omega)) ?_
                    | refine DL_c (op_ixA' _ _ inferInstance rfl rfl rfl (Int.toNat _) (Int.toNat_of_nonneg (by omega)).symm (by omega) (by first | exact (Nat.zero_add _).trans (Nat.mul_one _) | exact Nat.zero_add _ | rfl | omega)) ?_
                  refine DL_c (op_ldA' _ inferInstance rfl rfl (bun_cell (f := 1000) (b := ⟨(100, 0), true, 112, 4, 1000, _⟩) (j := y.1) (n := n) rfl (by first | omega | assumption | (simp only [isl_len, bsl_len, psl_len, mrows_len, nsl_len, ws_len, List.length_map, mzero_len]; omega) | (simp; done) | (simp; omega)) (by first | rfl | assumption | (simp only [isl_len, bsl_len, psl_len, mrows_len, nsl_len, ws_len, List.length_map, mzero_len]; omega) | (simp; done) | (simp; omega) | (rw [brow_get, bsl_len]; omega) | (rw [brow_get, bsl_len]; assumption)) rfl)) ?_
                  refine DL_c (op_mv _ (rfl : _ = AV.v (.int _ _))) ?_
                  first
                    | refine DL_c (op_ixR _ _ inferInstance rfl (bun_row (b := ⟨(100, 0), true, 112, 4, 1000, _⟩) rfl (by rfl) rfl (by first | omega | assumption | (simp only [isl_len, bsl_len, psl_len, mrows_len, nsl_len, ws_len, List.length_map, mzero_len]; omega) | (simp; done) | (simp; omega)) (by first | exact brow_get _ _ | rfl)) rfl _ rfl (by omega) (by first | exact (Nat.zero_add _).trans (Nat.mul_one _) | exact Nat.zero_add _ | rfl | omega)) ?_
                    | refine DL_c (op_ixR _ _ inferInstance rfl (bun_row (b := ⟨(100, 0), true, 112, 4, 1000, _⟩) rfl (by rfl) rfl (by first | omega | assumption | (simp only [isl_len, bsl_len, psl_len, mrows_len, nsl_len, ws_len, List.length_map, mzero_len]; omega) | (simp; done) | (simp; omega)) (by first | exact brow_get _ _ | rfl)) rfl (Int.toNat _) (Int.toNat_of_nonneg (by omega)).symm (by omega) (by first | exact (Nat.zero_add _).trans (Nat.mul_one _) | exact Nat.zero_add _ | rfl | omega)) ?_
                  refine DL_c (op_ldR _ inferInstance rfl (bun_row (b := ⟨(100, 0), true, 112, 4, 1000, _⟩) rfl (by rfl) rfl (by first | omega | assumption | (simp only [isl_len, bsl_len, psl_len, mrows_len, nsl_len, ws_len, List.length_map, mzero_len]; omega) | (simp; done) | (simp; omega)) (by first | exact brow_get _ _ | rfl)) (by first | rfl | exact isl_get _ _ (by omega) | exact bsl_get _ _ (by omega) | assumption | exact mrows_get _ _ (by omega) | exact nsl_get _ _ (by omega) | exact psl_get0 _ _ (by omega) | exact psl_get1 _ _ (by omega)) rfl) ?_
                  refine DL_c (op_mv _ (rfl : _ = AV.v (.bool _))) ?_
                  refine DL_caseC (fun hg117 => ?_) (fun hg117 => ?_)
                  · skip
                    first
                      | refine DL_cy rfl rfl (op_fldP _ inferInstance rfl rfl rfl) ?_
                      | refine DL_cy rfl rfl (op_fldF _ inferInstance rfl rfl) ?_
                    first
                      | refine DL_cy rfl rfl (op_ldB _ inferInstance rfl rfl (rfl : _ = some (AV.ref _ _ _))) ?_
                      | refine DL_cy rfl rfl (op_ldR _ inferInstance rfl rfl (by first | rfl | exact isl_get _ _ (by omega) | exact bsl_get _ _ (by omega) | assumption | exact mrows_get _ _ (by omega) | exact nsl_get _ _ (by omega) | exact psl_get0 _ _ (by omega) | exact psl_get1 _ _ (by omega)) rfl) ?_
                    refine DL_cy rfl rfl (op_mv _ (rfl : _ = AV.v (.int _ _))) ?_
                    first
                      | refine DL_cy rfl rfl (op_ixA' _ _ inferInstance rfl rfl rfl _ rfl (by omega) (by first | exact (Nat.zero_add _).trans (Nat.mul_one _) | exact Nat.zero_add _ | rfl | omega)) ?_
                      | refine DL_cy rfl rfl (op_ixA' _ _ inferInstance rfl rfl rfl (Int.toNat _) (Int.toNat_of_nonneg (by omega)).symm (by omega) (by first | exact (Nat.zero_add _).trans (Nat.mul_one _) | exact Nat.zero_add _ | rfl | omega)) ?_
                    refine DL_cy rfl rfl (op_ldA' _ inferInstance rfl rfl (bun_cell (f := 1000) (b := ⟨(100, 0), true, 112, 4, 1000, _⟩) (j := x.1) (n := n) rfl (by first | omega | assumption | (simp only [isl_len, bsl_len, psl_len, mrows_len, nsl_len, ws_len, List.length_map, mzero_len]; omega) | (simp; done) | (simp; omega)) (by first | rfl | assumption | (simp only [isl_len, bsl_len, psl_len, mrows_len, nsl_len, ws_len, List.length_map, mzero_len]; omega) | (simp; done) | (simp; omega) | (rw [brow_get, bsl_len]; omega) | (rw [brow_get, bsl_len]; assumption)) rfl)) ?_
                    refine DL_cy rfl rfl (op_mv _ (rfl : _ = AV.v (.int _ _))) ?_
                    first
                      | refine DL_cy rfl rfl (op_ixR _ _ inferInstance rfl (bun_row (b := ⟨(100, 0), true, 112, 4, 1000, _⟩) rfl (by rfl) rfl (by first | omega | assumption | (simp only [isl_len, bsl_len, psl_len, mrows_len, nsl_len, ws_len, List.length_map, mzero_len]; omega) | (simp; done) | (simp; omega)) (by first | exact brow_get _ _ | rfl)) rfl _ rfl (by omega) (by first | exact (Nat.zero_add _).trans (Nat.mul_one _) | exact Nat.zero_add _ | rfl | omega)) ?_
                      | refine DL_cy rfl rfl (op_ixR _ _ inferInstance rfl (bun_row (b := ⟨(100, 0), true, 112, 4, 1000, _⟩) rfl (by rfl) rfl (by first | omega | assumption | (simp only [isl_len, bsl_len, psl_len, mrows_len, nsl_len, ws_len, List.length_map, mzero_len]; omega) | (simp; done) | (simp; omega)) (by first | exact brow_get _ _ | rfl)) rfl (Int.toNat _) (Int.toNat_of_nonneg (by omega)).symm (by omega) (by first | exact (Nat.zero_add _).trans (Nat.mul_one _) | exact Nat.zero_add _ | rfl | omega)) ?_
                    refine DL_cy rfl rfl (op_ldR _ inferInstance rfl (bun_row (b := ⟨(100, 0), true, 112, 4, 1000, _⟩) rfl (by rfl) rfl (by first | omega | assumption | (simp only [isl_len, bsl_len, psl_len, mrows_len, nsl_len, ws_len, List.length_map, mzero_len]; omega) | (simp; done) | (simp; omega)) (by first | exact brow_get _ _ | rfl)) (by first | rfl | exact isl_get _ _ (by omega) | exact bsl_get _ _ (by omega) | assumption | exact mrows_get _ _ (by omega) | exact nsl_get _ _ (by omega) | exact psl_get0 _ _ (by omega) | exact psl_get1 _ _ (by omega)) rfl) ?_
                    refine DL_c (op_pick _ _ _ rfl (rfl : _ = AV.v (.bool _))) ?_
                    refine DL_nil (hK40 _ ?_)
                    clear hK40; try clear K40
                    refine D_splitC rfl (fun hc126 => ?_) (fun hc126 => ?_)
                    · skip
                      refine D_le (σ' := mkStB 149 [(0, _), (4, _), (7, _), (10, _), (11, _), (12, _)] [((4, 0), _), ((7, 0), _), ((0, 9), _)] ⟨(100, 0), true, 112, 4, 1000, _⟩ [(0, 9)] [(0, 9)]) (by
                        refine Le.keepB [] [] rfl ?_ ?_ trivial ⟨rfl, trivial⟩ (by kernel_rfl) rfl rfl rfl (fun _ => rfl) (by kernel_rfl) (fun _ => rfl)
                        · exact ⟨(by repeat' (first | exact Lv.v | exact Lv.sl | exact Lv.fp | exact lvRr (id := (4, 0)) rfl rfl | exact lvPr (id := (4, 0)) rfl | exact lvRr (id := (7, 0)) rfl rfl | exact lvPr (id := (7, 0)) rfl | exact lvRr (id := (0, 9)) rfl rfl | exact lvPr (id := (0, 9)) rfl | exact lvRr (id := (100, 0)) rfl rfl | exact lvPr (id := (100, 0)) rfl | exact lvRr rfl rfl | exact lvPr rfl | exact Lv.mp | exact Lv.nil | exact Lv.z | exact Lv.dead | refine Lv.agg rfl ?_ | refine Lv.fn rfl ?_ rfl ?_ | refine Lv.tup rfl ?_ | refine Lv.ifc ?_ | exact lv_nil | refine lv_cons ?_ ?_)), (lvPr (id := (4, 0)) rfl), (lvPr (id := (7, 0)) rfl), (by repeat' (first | exact Lv.v | exact Lv.sl | exact Lv.fp | exact lvRr (id := (4, 0)) rfl rfl | exact lvPr (id := (4, 0)) rfl | exact lvRr (id := (7, 0)) rfl rfl | exact lvPr (id := (7, 0)) rfl | exact lvRr (id := (0, 9)) rfl rfl | exact lvPr (id := (0, 9)) rfl | exact lvRr (id := (100, 0)) rfl rfl | exact lvPr (id := (100, 0)) rfl | exact lvRr rfl rfl | exact lvPr rfl | exact Lv.mp | exact Lv.nil | exact Lv.z | exact Lv.dead | refine Lv.agg rfl ?_ | refine Lv.fn rfl ?_ rfl ?_ | refine Lv.tup rfl ?_ | refine Lv.ifc ?_ | exact lv_nil | refine lv_cons ?_ ?_)), (by repeat' (first | exact Lv.v | exact Lv.sl | exact Lv.fp | exact lvRr (id := (4, 0)) rfl rfl | exact lvPr (id := (4, 0)) rfl | exact lvRr (id := (7, 0)) rfl rfl | exact lvPr (id := (7, 0)) rfl | exact lvRr (id := (0, 9)) rfl rfl | exact lvPr (id := (0, 9)) rfl | exact lvRr (id := (100, 0)) rfl rfl | exact lvPr (id := (100, 0)) rfl | exact lvRr rfl rfl | exact lvPr rfl | exact Lv.mp | exact Lv.nil | exact Lv.z | exact Lv.dead | refine Lv.agg rfl ?_ | refine Lv.fn rfl ?_ rfl ?_ | refine Lv.tup rfl ?_ | refine Lv.ifc ?_ | exact lv_nil | refine lv_cons ?_ ?_)), (by repeat' (first | exact Lv.v | exact Lv.sl | exact Lv.fp | exact lvRr (id := (4, 0)) rfl rfl | exact lvPr (id := (4, 0)) rfl | exact lvRr (id := (7, 0)) rfl rfl | exact lvPr (id := (7, 0)) rfl | exact lvRr (id := (0, 9)) rfl rfl | exact lvPr (id := (0, 9)) rfl | exact lvRr (id := (100, 0)) rfl rfl | exact lvPr (id := (100, 0)) rfl | exact lvRr rfl rfl | exact lvPr rfl | exact Lv.mp | exact Lv.nil | exact Lv.z | exact Lv.dead | refine Lv.agg rfl ?_ | refine Lv.fn rfl ?_ rfl ?_ | refine Lv.tup rfl ?_ | refine Lv.ifc ?_ | exact lv_nil | refine lv_cons ?_ ?_)), trivial⟩
                        · exact ⟨(obB rfl rfl rfl rfl (by repeat' (first | exact Lv.v | exact Lv.sl | exact Lv.fp | exact lvRr (id := (4, 0)) rfl rfl | exact lvPr (id := (4, 0)) rfl | exact lvRr (id := (7, 0)) rfl rfl | exact lvPr (id := (7, 0)) rfl | exact lvRr (id := (0, 9)) rfl rfl | exact lvPr (id := (0, 9)) rfl | exact lvRr (id := (100, 0)) rfl rfl | exact lvPr (id := (100, 0)) rfl | exact lvRr rfl rfl | exact lvPr rfl | exact Lv.mp | exact Lv.nil | exact Lv.z | exact Lv.dead | refine Lv.agg rfl ?_ | refine Lv.fn rfl ?_ rfl ?_ | refine Lv.tup rfl ?_ | refine Lv.ifc ?_ | exact lv_nil | refine lv_cons ?_ ?_))), (obB rfl rfl rfl rfl (by repeat' (first | exact Lv.v | exact Lv.sl | exact Lv.fp | exact lvRr (id := (4, 0)) rfl rfl | exact lvPr (id := (4, 0)) rfl | exact lvRr (id := (7, 0)) rfl rfl | exact lvPr (id := (7, 0)) rfl | exact lvRr (id := (0, 9)) rfl rfl | exact lvPr (id := (0, 9)) rfl | exact lvRr (id := (100, 0)) rfl rfl | exact lvPr (id := (100, 0)) rfl | exact lvRr rfl rfl | exact lvPr rfl | exact Lv.mp | exact Lv.nil | exact Lv.z | exact Lv.dead | refine Lv.agg rfl ?_ | refine Lv.fn rfl ?_ rfl ?_ | refine Lv.tup rfl ?_ | refine Lv.ifc ?_ | exact lv_nil | refine lv_cons ?_ ?_))), (obR rfl rfl rfl rfl), trivial⟩) ?_
                      refine D_region ?_
                      first
                        | refine DL_c (op_fldP _ inferInstance rfl rfl rfl) ?_
                        | refine DL_c (op_fldF _ inferInstance rfl rfl) ?_
                      first
                        | refine DL_c (op_ldB _ inferInstance rfl rfl (rfl : _ = some (AV.ref _ _ _))) ?_
                        | refine DL_c (op_ldR _ inferInstance rfl rfl (by first | rfl | exact isl_get _ _ (by omega) | exact bsl_get _ _ (by omega) | assumption | exact mrows_get _ _ (by omega) | exact nsl_get _ _ (by omega) | exact psl_get0 _ _ (by omega) | exact psl_get1 _ _ (by omega)) rfl) ?_
                      refine DL_c (op_mv _ (rfl : _ = AV.v (.int _ _))) ?_
                      first
                        | refine DL_c (op_ixA' _ _ inferInstance rfl rfl rfl _ rfl (by omega) (by first | exact (Nat.zero_add _).trans (Nat.mul_one _) | exact Nat.zero_add _ | rfl | omega)) ?_
                        | refine DL_c (op_ixA' _ _ inferInstance rfl rfl rfl (Int.toNat _) (Int.toNat_of_nonneg (by omega)).symm (by omega) (by first | exact (Nat.zero_add _).trans (Nat.mul_one _) | exact Nat.zero_add _ | rfl | omega)) ?_
                      refine DL_c (op_ldA' _ inferInstance rfl rfl (bun_cell (f := 1000) (b := ⟨(100, 0), true, 112, 4, 1000, _⟩) (j := y.1) (n := n) rfl (by first | omega | assumption | (simp only [isl_len, bsl_len, psl_len, mrows_len, nsl_len, ws_len, List.length_map, mzero_len]; omega) | (simp; done) | (simp; omega)) (by first | rfl | assumption | (simp only [isl_len, bsl_len, psl_len, mrows_len, nsl_len, ws_len, List.length_map, mzero_len]; omega) | (simp; done) | (simp; omega) | (rw [brow_get, bsl_len]; omega) | (rw [brow_get, bsl_len]; assumption)) rfl)) ?_
                      refine DL_c (op_mv _ (rfl : _ = AV.v (.int _ _))) ?_
                      first
                        | refine DL_c (op_ixR _ _ inferInstance rfl (bun_row (b := ⟨(100, 0), true, 112, 4, 1000, _⟩) rfl (by rfl) rfl (by first | omega | assumption | (simp only [isl_len, bsl_len, psl_len, mrows_len, nsl_len, ws_len, List.length_map, mzero_len]; omega) | (simp; done) | (simp; omega)) (by first | exact brow_get _ _ | rfl)) rfl _ rfl (by omega) (by first | exact (Nat.zero_add _).trans (Nat.mul_one _) | exact Nat.zero_add _ | rfl | omega)) ?_
                        | refine DL_c (op_ixR _ _ inferInstance rfl (bun_row (b := ⟨(100, 0), true, 112, 4, 1000, _⟩) rfl (by rfl) rfl (by first | omega | assumption | (simp only [isl_len, bsl_len, psl_len, mrows_len, nsl_len, ws_len, List.length_map, mzero_len]; omega) | (simp; done) | (simp; omega)) (by first | exact brow_get _ _ | rfl)) rfl (Int.toNat _) (Int.toNat_of_nonneg (by omega)).symm (by omega) (by first | exact (Nat.zero_add _).trans (Nat.mul_one _) | exact Nat.zero_add _ | rfl | omega)) ?_
                      refine DL_c (op_stR _ _ inferInstance rfl (bun_row (b := ⟨(100, 0), true, 112, 4, 1000, _⟩) rfl (by rfl) rfl (by first | omega | assumption | (simp only [isl_len, bsl_len, psl_len, mrows_len, nsl_len, ws_len, List.length_map, mzero_len]; omega) | (simp; done) | (simp; omega)) (by first | exact brow_get _ _ | rfl)) rfl rfl rfl (by first | exact Nat.le_of_ble_eq_true rfl | (simp only [isl_len, bsl_len, psl_len, mrows_len, nsl_len, ws_len, List.length_map, mzero_len, List.length_cons, List.length_nil]; omega) | (simp; done) | (simp; omega)) rfl) ?_
                      refine DL_nil (hK39 _ ?_)
                      clear hK39; try clear K39
                      refine D_region ?_
                      refine DL_c (op_mv _ (rfl : _ = AV.v (.int _ _))) ?_
                      first
                        | refine DL_c (op_add _ _ rfl rfl (i64w (by omega))) ?_
                        | refine DL_c (op_add _ _ rfl rfl rfl) ?_
                      refine DL_c (op_as _ (rfl : _ = AV.v (.int _ _))) ?_
                      refine DL_nil ?_
                      refine ⟨(z.1 + 1, mset z.2 y.1 z.1), ?_, ?_, ?_⟩
                      · exact ⟨by simp only; omega, hWz.yes (by omega) (by omega) (by omega) (by unfold mlt; rw [hg117, hc126]; rfl)⟩
                      · skip
                        refine Le.putB (y.1) [] [] rfl ?_ ?_ trivial ⟨rfl, trivial⟩ (by kernel_rfl) ?_ ?_ rfl rfl bun_self (by first | exact fun _ _ => rfl | exact fun j hj => bun_other hj | exact fun j hj => aft_other hj) (by kernel_rfl) (fun _ => rfl)
                        · exact ⟨(by repeat' (first | exact Lv.v | exact Lv.sl | exact Lv.fp | exact lvRr (id := (4, 0)) rfl rfl | exact lvPr (id := (4, 0)) rfl | exact lvRr (id := (7, 0)) rfl rfl | exact lvPr (id := (7, 0)) rfl | exact lvRr (id := (0, 9)) rfl rfl | exact lvPr (id := (0, 9)) rfl | exact lvRr (id := (100, 0)) rfl rfl | exact lvPr (id := (100, 0)) rfl | exact lvRr rfl rfl | exact lvPr rfl | exact Lv.mp | exact Lv.nil | exact Lv.z | exact Lv.dead | refine Lv.agg rfl ?_ | refine Lv.fn rfl ?_ rfl ?_ | refine Lv.tup rfl ?_ | refine Lv.ifc ?_ | exact lv_nil | refine lv_cons ?_ ?_)), (lvPr (id := (4, 0)) rfl), (lvPr (id := (7, 0)) rfl), (by repeat' (first | exact Lv.v | exact Lv.sl | exact Lv.fp | exact lvRr (id := (4, 0)) rfl rfl | exact lvPr (id := (4, 0)) rfl | exact lvRr (id := (7, 0)) rfl rfl | exact lvPr (id := (7, 0)) rfl | exact lvRr (id := (0, 9)) rfl rfl | exact lvPr (id := (0, 9)) rfl | exact lvRr (id := (100, 0)) rfl rfl | exact lvPr (id := (100, 0)) rfl | exact lvRr rfl rfl | exact lvPr rfl | exact Lv.mp | exact Lv.nil | exact Lv.z | exact Lv.dead | refine Lv.agg rfl ?_ | refine Lv.fn rfl ?_ rfl ?_ | refine Lv.tup rfl ?_ | refine Lv.ifc ?_ | exact lv_nil | refine lv_cons ?_ ?_)), (by repeat' (first | exact Lv.v | exact Lv.sl | exact Lv.fp | exact lvRr (id := (4, 0)) rfl rfl | exact lvPr (id := (4, 0)) rfl | exact lvRr (id := (7, 0)) rfl rfl | exact lvPr (id := (7, 0)) rfl | exact lvRr (id := (0, 9)) rfl rfl | exact lvPr (id := (0, 9)) rfl | exact lvRr (id := (100, 0)) rfl rfl | exact lvPr (id := (100, 0)) rfl | exact lvRr rfl rfl | exact lvPr rfl | exact Lv.mp | exact Lv.nil | exact Lv.z | exact Lv.dead | refine Lv.agg rfl ?_ | refine Lv.fn rfl ?_ rfl ?_ | refine Lv.tup rfl ?_ | refine Lv.ifc ?_ | exact lv_nil | refine lv_cons ?_ ?_)), (lvI (by first | rfl | omega | (simp; done) | (simp; omega) | assumption)), trivial⟩
                        · exact ⟨(obB rfl rfl rfl rfl (by repeat' (first | exact Lv.v | exact Lv.sl | exact Lv.fp | exact lvRr (id := (4, 0)) rfl rfl | exact lvPr (id := (4, 0)) rfl | exact lvRr (id := (7, 0)) rfl rfl | exact lvPr (id := (7, 0)) rfl | exact lvRr (id := (0, 9)) rfl rfl | exact lvPr (id := (0, 9)) rfl | exact lvRr (id := (100, 0)) rfl rfl | exact lvPr (id := (100, 0)) rfl | exact lvRr rfl rfl | exact lvPr rfl | exact Lv.mp | exact Lv.nil | exact Lv.z | exact Lv.dead | refine Lv.agg rfl ?_ | refine Lv.fn rfl ?_ rfl ?_ | refine Lv.tup rfl ?_ | refine Lv.ifc ?_ | exact lv_nil | refine lv_cons ?_ ?_))), (obB rfl rfl rfl rfl (by repeat' (first | exact Lv.v | exact Lv.sl | exact Lv.fp | exact lvRr (id := (4, 0)) rfl rfl | exact lvPr (id := (4, 0)) rfl | exact lvRr (id := (7, 0)) rfl rfl | exact lvPr (id := (7, 0)) rfl | exact lvRr (id := (0, 9)) rfl rfl | exact lvPr (id := (0, 9)) rfl | exact lvRr (id := (100, 0)) rfl rfl | exact lvPr (id := (100, 0)) rfl | exact lvRr rfl rfl | exact lvPr rfl | exact Lv.mp | exact Lv.nil | exact Lv.z | exact Lv.dead | refine Lv.agg rfl ?_ | refine Lv.fn rfl ?_ rfl ?_ | refine Lv.tup rfl ?_ | refine Lv.ifc ?_ | exact lv_nil | refine lv_cons ?_ ?_))), (obR rfl rfl rfl rfl), trivial⟩
                        · first | exact mset_put (by omega) | exact mset_putL (by omega)
                        · first | exact mset_put (by omega) | exact mset_putL (by omega)
                      · simp only; omega
                    · skip
                      refine D_skip (hK39 _ ?_)
                      clear hK39; try clear K39
                      refine D_le (σ' := mkStB 149 [(0, _), (4, _), (7, _), (10, _), (11, _), (12, _)] [((4, 0), _), ((7, 0), _), ((0, 9), _)] ⟨(100, 0), true, 112, 4, 1000, _⟩ [(0, 9)] [(0, 9)]) (by
                        refine Le.keepB [] [] rfl ?_ ?_ trivial ⟨rfl, trivial⟩ (by kernel_rfl) rfl rfl rfl (fun _ => rfl) (by kernel_rfl) (fun _ => rfl)
                        · exact ⟨(by repeat' (first | exact Lv.v | exact Lv.sl | exact Lv.fp | exact lvRr (id := (4, 0)) rfl rfl | exact lvPr (id := (4, 0)) rfl | exact lvRr (id := (7, 0)) rfl rfl | exact lvPr (id := (7, 0)) rfl | exact lvRr (id := (0, 9)) rfl rfl | exact lvPr (id := (0, 9)) rfl | exact lvRr (id := (100, 0)) rfl rfl | exact lvPr (id := (100, 0)) rfl | exact lvRr rfl rfl | exact lvPr rfl | exact Lv.mp | exact Lv.nil | exact Lv.z | exact Lv.dead | refine Lv.agg rfl ?_ | refine Lv.fn rfl ?_ rfl ?_ | refine Lv.tup rfl ?_ | refine Lv.ifc ?_ | exact lv_nil | refine lv_cons ?_ ?_)), (lvPr (id := (4, 0)) rfl), (lvPr (id := (7, 0)) rfl), (by repeat' (first | exact Lv.v | exact Lv.sl | exact Lv.fp | exact lvRr (id := (4, 0)) rfl rfl | exact lvPr (id := (4, 0)) rfl | exact lvRr (id := (7, 0)) rfl rfl | exact lvPr (id := (7, 0)) rfl | exact lvRr (id := (0, 9)) rfl rfl | exact lvPr (id := (0, 9)) rfl | exact lvRr (id := (100, 0)) rfl rfl | exact lvPr (id := (100, 0)) rfl | exact lvRr rfl rfl | exact lvPr rfl | exact Lv.mp | exact Lv.nil | exact Lv.z | exact Lv.dead | refine Lv.agg rfl ?_ | refine Lv.fn rfl ?_ rfl ?_ | refine Lv.tup rfl ?_ | refine Lv.ifc ?_ | exact lv_nil | refine lv_cons ?_ ?_)), (by repeat' (first | exact Lv.v | exact Lv.sl | exact Lv.fp | exact lvRr (id := (4, 0)) rfl rfl | exact lvPr (id := (4, 0)) rfl | exact lvRr (id := (7, 0)) rfl rfl | exact lvPr (id := (7, 0)) rfl | exact lvRr (id := (0, 9)) rfl rfl | exact lvPr (id := (0, 9)) rfl | exact lvRr (id := (100, 0)) rfl rfl | exact lvPr (id := (100, 0)) rfl | exact lvRr rfl rfl | exact lvPr rfl | exact Lv.mp | exact Lv.nil | exact Lv.z | exact Lv.dead | refine Lv.agg rfl ?_ | refine Lv.fn rfl ?_ rfl ?_ | refine Lv.tup rfl ?_ | refine Lv.ifc ?_ | exact lv_nil | refine lv_cons ?_ ?_)), (by repeat' (first | exact Lv.v | exact Lv.sl | exact Lv.fp | exact lvRr (id := (4, 0)) rfl rfl | exact lvPr (id := (4, 0)) rfl | exact lvRr (id := (7, 0)) rfl rfl | exact lvPr (id := (7, 0)) rfl | exact lvRr (id := (0, 9)) rfl rfl | exact lvPr (id := (0, 9)) rfl | exact lvRr (id := (100, 0)) rfl rfl | exact lvPr (id := (100, 0)) rfl | exact lvRr rfl rfl | exact lvPr rfl | exact Lv.mp | exact Lv.nil | exact Lv.z | exact Lv.dead | refine Lv.agg rfl ?_ | refine Lv.fn rfl ?_ rfl ?_ | refine Lv.tup rfl ?_ | refine Lv.ifc ?_ | exact lv_nil | refine lv_cons ?_ ?_)), trivial⟩
                        · exact ⟨(obB rfl rfl rfl rfl (by repeat' (first | exact Lv.v | exact Lv.sl | exact Lv.fp | exact lvRr (id := (4, 0)) rfl rfl | exact lvPr (id := (4, 0)) rfl | exact lvRr (id := (7, 0)) rfl rfl | exact lvPr (id := (7, 0)) rfl | exact lvRr (id := (0, 9)) rfl rfl | exact lvPr (id := (0, 9)) rfl | exact lvRr (id := (100, 0)) rfl rfl | exact lvPr (id := (100, 0)) rfl | exact lvRr rfl rfl | exact lvPr rfl | exact Lv.mp | exact Lv.nil | exact Lv.z | exact Lv.dead | refine Lv.agg rfl ?_ | refine Lv.fn rfl ?_ rfl ?_ | refine Lv.tup rfl ?_ | refine Lv.ifc ?_ | exact lv_nil | refine lv_cons ?_ ?_))), (obB rfl rfl rfl rfl (by repeat' (first | exact Lv.v | exact Lv.sl | exact Lv.fp | exact lvRr (id := (4, 0)) rfl rfl | exact lvPr (id := (4, 0)) rfl | exact lvRr (id := (7, 0)) rfl rfl | exact lvPr (id := (7, 0)) rfl | exact lvRr (id := (0, 9)) rfl rfl | exact lvPr (id := (0, 9)) rfl | exact lvRr (id := (100, 0)) rfl rfl | exact lvPr (id := (100, 0)) rfl | exact lvRr rfl rfl | exact lvPr rfl | exact Lv.mp | exact Lv.nil | exact Lv.z | exact Lv.dead | refine Lv.agg rfl ?_ | refine Lv.fn rfl ?_ rfl ?_ | refine Lv.tup rfl ?_ | refine Lv.ifc ?_ | exact lv_nil | refine lv_cons ?_ ?_))), (obR rfl rfl rfl rfl), trivial⟩) ?_
                      refine D_region ?_
                      refine DL_c (op_mv _ (rfl : _ = AV.v (.int _ _))) ?_
                      first
                        | refine DL_c (op_add _ _ rfl rfl (i64w (by omega))) ?_
                        | refine DL_c (op_add _ _ rfl rfl rfl) ?_
                      refine DL_c (op_as _ (rfl : _ = AV.v (.int _ _))) ?_
                      refine DL_nil ?_
                      refine ⟨(z.1 + 1, z.2), ?_, ?_, ?_⟩
                      · exact ⟨by simp only; omega, hWz.no (by omega) (by omega) (by omega) (by unfold mlt; rw [hc126, Bool.and_false])⟩
                      · skip
                        refine Le.keepB [] [] rfl ?_ ?_ trivial ⟨rfl, trivial⟩ (by kernel_rfl) ?_ rfl rfl (fun _ => rfl) (by kernel_rfl) (fun _ => rfl)
                        · exact ⟨(by repeat' (first | exact Lv.v | exact Lv.sl | exact Lv.fp | exact lvRr (id := (4, 0)) rfl rfl | exact lvPr (id := (4, 0)) rfl | exact lvRr (id := (7, 0)) rfl rfl | exact lvPr (id := (7, 0)) rfl | exact lvRr (id := (0, 9)) rfl rfl | exact lvPr (id := (0, 9)) rfl | exact lvRr (id := (100, 0)) rfl rfl | exact lvPr (id := (100, 0)) rfl | exact lvRr rfl rfl | exact lvPr rfl | exact Lv.mp | exact Lv.nil | exact Lv.z | exact Lv.dead | refine Lv.agg rfl ?_ | refine Lv.fn rfl ?_ rfl ?_ | refine Lv.tup rfl ?_ | refine Lv.ifc ?_ | exact lv_nil | refine lv_cons ?_ ?_)), (lvPr (id := (4, 0)) rfl), (lvPr (id := (7, 0)) rfl), (by repeat' (first | exact Lv.v | exact Lv.sl | exact Lv.fp | exact lvRr (id := (4, 0)) rfl rfl | exact lvPr (id := (4, 0)) rfl | exact lvRr (id := (7, 0)) rfl rfl | exact lvPr (id := (7, 0)) rfl | exact lvRr (id := (0, 9)) rfl rfl | exact lvPr (id := (0, 9)) rfl | exact lvRr (id := (100, 0)) rfl rfl | exact lvPr (id := (100, 0)) rfl | exact lvRr rfl rfl | exact lvPr rfl | exact Lv.mp | exact Lv.nil | exact Lv.z | exact Lv.dead | refine Lv.agg rfl ?_ | refine Lv.fn rfl ?_ rfl ?_ | refine Lv.tup rfl ?_ | refine Lv.ifc ?_ | exact lv_nil | refine lv_cons ?_ ?_)), (by repeat' (first | exact Lv.v | exact Lv.sl | exact Lv.fp | exact lvRr (id := (4, 0)) rfl rfl | exact lvPr (id := (4, 0)) rfl | exact lvRr (id := (7, 0)) rfl rfl | exact lvPr (id := (7, 0)) rfl | exact lvRr (id := (0, 9)) rfl rfl | exact lvPr (id := (0, 9)) rfl | exact lvRr (id := (100, 0)) rfl rfl | exact lvPr (id := (100, 0)) rfl | exact lvRr rfl rfl | exact lvPr rfl | exact Lv.mp | exact Lv.nil | exact Lv.z | exact Lv.dead | refine Lv.agg rfl ?_ | refine Lv.fn rfl ?_ rfl ?_ | refine Lv.tup rfl ?_ | refine Lv.ifc ?_ | exact lv_nil | refine lv_cons ?_ ?_)), (lvI (by first | rfl | omega | (simp; done) | (simp; omega) | assumption)), trivial⟩
                        · exact ⟨(obB rfl rfl rfl rfl (by repeat' (first | exact Lv.v | exact Lv.sl | exact Lv.fp | exact lvRr (id := (4, 0)) rfl rfl | exact lvPr (id := (4, 0)) rfl | exact lvRr (id := (7, 0)) rfl rfl | exact lvPr (id := (7, 0)) rfl | exact lvRr (id := (0, 9)) rfl rfl | exact lvPr (id := (0, 9)) rfl | exact lvRr (id := (100, 0)) rfl rfl | exact lvPr (id := (100, 0)) rfl | exact lvRr rfl rfl | exact lvPr rfl | exact Lv.mp | exact Lv.nil | exact Lv.z | exact Lv.dead | refine Lv.agg rfl ?_ | refine Lv.fn rfl ?_ rfl ?_ | refine Lv.tup rfl ?_ | refine Lv.ifc ?_ | exact lv_nil | refine lv_cons ?_ ?_))), (obB rfl rfl rfl rfl (by repeat' (first | exact Lv.v | exact Lv.sl | exact Lv.fp | exact lvRr (id := (4, 0)) rfl rfl | exact lvPr (id := (4, 0)) rfl | exact lvRr (id := (7, 0)) rfl rfl | exact lvPr (id := (7, 0)) rfl | exact lvRr (id := (0, 9)) rfl rfl | exact lvPr (id := (0, 9)) rfl | exact lvRr (id := (100, 0)) rfl rfl | exact lvPr (id := (100, 0)) rfl | exact lvRr rfl rfl | exact lvPr rfl | exact Lv.mp | exact Lv.nil | exact Lv.z | exact Lv.dead | refine Lv.agg rfl ?_ | refine Lv.fn rfl ?_ rfl ?_ | refine Lv.tup rfl ?_ | refine Lv.ifc ?_ | exact lv_nil | refine lv_cons ?_ ?_))), (obR rfl rfl rfl rfl), trivial⟩
                        · first | rfl | assumption | (simp; done) | (simp; omega)
                      · simp only; omega
                  · skip
                    refine DL_cn rfl rfl (by decide) ?_
                    refine DL_cn rfl rfl (by decide) ?_
                    refine DL_cn rfl rfl (by decide) ?_
                    refine DL_cn rfl rfl (by decide) ?_
                    refine DL_cn rfl rfl (by decide) ?_
                    refine DL_cn rfl rfl (by decide) ?_
                    refine DL_cn rfl rfl (by decide) ?_
                    refine DL_cn rfl rfl (by decide) ?_
                    refine DL_c (op_pick _ _ _ rfl (rfl : _ = AV.v (.bool _))) ?_
                    refine DL_nil (hK40 _ ?_)
                    clear hK40; try clear K40
                    refine D_cF rfl rfl ?_
                    refine D_skip (hK39 _ ?_)
                    clear hK39; try clear K39
                    refine D_le (σ' := mkStB 149 [(0, _), (4, _), (7, _), (10, _), (11, _), (12, _)] [((4, 0), _), ((7, 0), _), ((0, 9), _)] ⟨(100, 0), true, 112, 4, 1000, _⟩ [(0, 9)] [(0, 9)]) (by
                      refine Le.keepB [] [] rfl ?_ ?_ trivial ⟨rfl, trivial⟩ (by kernel_rfl) rfl rfl rfl (fun _ => rfl) (by kernel_rfl) (fun _ => rfl)
                      · exact ⟨(by repeat' (first | exact Lv.v | exact Lv.sl | exact Lv.fp | exact lvRr (id := (4, 0)) rfl rfl | exact lvPr (id := (4, 0)) rfl | exact lvRr (id := (7, 0)) rfl rfl | exact lvPr (id := (7, 0)) rfl | exact lvRr (id := (0, 9)) rfl rfl | exact lvPr (id := (0, 9)) rfl | exact lvRr (id := (100, 0)) rfl rfl | exact lvPr (id := (100, 0)) rfl | exact lvRr rfl rfl | exact lvPr rfl | exact Lv.mp | exact Lv.nil | exact Lv.z | exact Lv.dead | refine Lv.agg rfl ?_ | refine Lv.fn rfl ?_ rfl ?_ | refine Lv.tup rfl ?_ | refine Lv.ifc ?_ | exact lv_nil | refine lv_cons ?_ ?_)), (lvPr (id := (4, 0)) rfl), (lvPr (id := (7, 0)) rfl), (by repeat' (first | exact Lv.v | exact Lv.sl | exact Lv.fp | exact lvRr (id := (4, 0)) rfl rfl | exact lvPr (id := (4, 0)) rfl | exact lvRr (id := (7, 0)) rfl rfl | exact lvPr (id := (7, 0)) rfl | exact lvRr (id := (0, 9)) rfl rfl | exact lvPr (id := (0, 9)) rfl | exact lvRr (id := (100, 0)) rfl rfl | exact lvPr (id := (100, 0)) rfl | exact lvRr rfl rfl | exact lvPr rfl | exact Lv.mp | exact Lv.nil | exact Lv.z | exact Lv.dead | refine Lv.agg rfl ?_ | refine Lv.fn rfl ?_ rfl ?_ | refine Lv.tup rfl ?_ | refine Lv.ifc ?_ | exact lv_nil | refine lv_cons ?_ ?_)), (by repeat' (first | exact Lv.v | exact Lv.sl | exact Lv.fp | exact lvRr (id := (4, 0)) rfl rfl | exact lvPr (id := (4, 0)) rfl | exact lvRr (id := (7, 0)) rfl rfl | exact lvPr (id := (7, 0)) rfl | exact lvRr (id := (0, 9)) rfl rfl | exact lvPr (id := (0, 9)) rfl | exact lvRr (id := (100, 0)) rfl rfl | exact lvPr (id := (100, 0)) rfl | exact lvRr rfl rfl | exact lvPr rfl | exact Lv.mp | exact Lv.nil | exact Lv.z | exact Lv.dead | refine Lv.agg rfl ?_ | refine Lv.fn rfl ?_ rfl ?_ | refine Lv.tup rfl ?_ | refine Lv.ifc ?_ | exact lv_nil | refine lv_cons ?_ ?_)), (by repeat' (first | exact Lv.v | exact Lv.sl | exact Lv.fp | exact lvRr (id := (4, 0)) rfl rfl | exact lvPr (id := (4, 0)) rfl | exact lvRr (id := (7, 0)) rfl rfl | exact lvPr (id := (7, 0)) rfl | exact lvRr (id := (0, 9)) rfl rfl | exact lvPr (id := (0, 9)) rfl | exact lvRr (id := (100, 0)) rfl rfl | exact lvPr (id := (100, 0)) rfl | exact lvRr rfl rfl | exact lvPr rfl | exact Lv.mp | exact Lv.nil | exact Lv.z | exact Lv.dead | refine Lv.agg rfl ?_ | refine Lv.fn rfl ?_ rfl ?_ | refine Lv.tup rfl ?_ | refine Lv.ifc ?_ | exact lv_nil | refine lv_cons ?_ ?_)), trivial⟩
                      · exact ⟨(obB rfl rfl rfl rfl (by repeat' (first | exact Lv.v | exact Lv.sl | exact Lv.fp | exact lvRr (id := (4, 0)) rfl rfl | exact lvPr (id := (4, 0)) rfl | exact lvRr (id := (7, 0)) rfl rfl | exact lvPr (id := (7, 0)) rfl | exact lvRr (id := (0, 9)) rfl rfl | exact lvPr (id := (0, 9)) rfl | exact lvRr (id := (100, 0)) rfl rfl | exact lvPr (id := (100, 0)) rfl | exact lvRr rfl rfl | exact lvPr rfl | exact Lv.mp | exact Lv.nil | exact Lv.z | exact Lv.dead | refine Lv.agg rfl ?_ | refine Lv.fn rfl ?_ rfl ?_ | refine Lv.tup rfl ?_ | refine Lv.ifc ?_ | exact lv_nil | refine lv_cons ?_ ?_))), (obB rfl rfl rfl rfl (by repeat' (first | exact Lv.v | exact Lv.sl | exact Lv.fp | exact lvRr (id := (4, 0)) rfl rfl | exact lvPr (id := (4, 0)) rfl | exact lvRr (id := (7, 0)) rfl rfl | exact lvPr (id := (7, 0)) rfl | exact lvRr (id := (0, 9)) rfl rfl | exact lvPr (id := (0, 9)) rfl | exact lvRr (id := (100, 0)) rfl rfl | exact lvPr (id := (100, 0)) rfl | exact lvRr rfl rfl | exact lvPr rfl | exact Lv.mp | exact Lv.nil | exact Lv.z | exact Lv.dead | refine Lv.agg rfl ?_ | refine Lv.fn rfl ?_ rfl ?_ | refine Lv.tup rfl ?_ | refine Lv.ifc ?_ | exact lv_nil | refine lv_cons ?_ ?_))), (obR rfl rfl rfl rfl), trivial⟩) ?_
                    refine D_region ?_
                    refine DL_c (op_mv _ (rfl : _ = AV.v (.int _ _))) ?_
                    first
                      | refine DL_c (op_add _ _ rfl rfl (i64w (by omega))) ?_
                      | refine DL_c (op_add _ _ rfl rfl rfl) ?_
                    refine DL_c (op_as _ (rfl : _ = AV.v (.int _ _))) ?_
                    refine DL_nil ?_
                    refine ⟨(z.1 + 1, z.2), ?_, ?_, ?_⟩
                    · exact ⟨by simp only; omega, hWz.no (by omega) (by omega) (by omega) (by unfold mlt; rw [hg117]; rfl)⟩
                    · skip
                      refine Le.keepB [] [] rfl ?_ ?_ trivial ⟨rfl, trivial⟩ (by kernel_rfl) ?_ rfl rfl (fun _ => rfl) (by kernel_rfl) (fun _ => rfl)
                      · exact ⟨(by repeat' (first | exact Lv.v | exact Lv.sl | exact Lv.fp | exact lvRr (id := (4, 0)) rfl rfl | exact lvPr (id := (4, 0)) rfl | exact lvRr (id := (7, 0)) rfl rfl | exact lvPr (id := (7, 0)) rfl | exact lvRr (id := (0, 9)) rfl rfl | exact lvPr (id := (0, 9)) rfl | exact lvRr (id := (100, 0)) rfl rfl | exact lvPr (id := (100, 0)) rfl | exact lvRr rfl rfl | exact lvPr rfl | exact Lv.mp | exact Lv.nil | exact Lv.z | exact Lv.dead | refine Lv.agg rfl ?_ | refine Lv.fn rfl ?_ rfl ?_ | refine Lv.tup rfl ?_ | refine Lv.ifc ?_ | exact lv_nil | refine lv_cons ?_ ?_)), (lvPr (id := (4, 0)) rfl), (lvPr (id := (7, 0)) rfl), (by repeat' (first | exact Lv.v | exact Lv.sl | exact Lv.fp | exact lvRr (id := (4, 0)) rfl rfl | exact lvPr (id := (4, 0)) rfl | exact lvRr (id := (7, 0)) rfl rfl | exact lvPr (id := (7, 0)) rfl | exact lvRr (id := (0, 9)) rfl rfl | exact lvPr (id := (0, 9)) rfl | exact lvRr (id := (100, 0)) rfl rfl | exact lvPr (id := (100, 0)) rfl | exact lvRr rfl rfl | exact lvPr rfl | exact Lv.mp | exact Lv.nil | exact Lv.z | exact Lv.dead | refine Lv.agg rfl ?_ | refine Lv.fn rfl ?_ rfl ?_ | refine Lv.tup rfl ?_ | refine Lv.ifc ?_ | exact lv_nil | refine lv_cons ?_ ?_)), (by repeat' (first | exact Lv.v | exact Lv.sl | exact Lv.fp | exact lvRr (id := (4, 0)) rfl rfl | exact lvPr (id := (4, 0)) rfl | exact lvRr (id := (7, 0)) rfl rfl | exact lvPr (id := (7, 0)) rfl | exact lvRr (id := (0, 9)) rfl rfl | exact lvPr (id := (0, 9)) rfl | exact lvRr (id := (100, 0)) rfl rfl | exact lvPr (id := (100, 0)) rfl | exact lvRr rfl rfl | exact lvPr rfl | exact Lv.mp | exact Lv.nil | exact Lv.z | exact Lv.dead | refine Lv.agg rfl ?_ | refine Lv.fn rfl ?_ rfl ?_ | refine Lv.tup rfl ?_ | refine Lv.ifc ?_ | exact lv_nil | refine lv_cons ?_ ?_)), (lvI (by first | rfl | omega | (simp; done) | (simp; omega) | assumption)), trivial⟩
                      · exact ⟨(obB rfl rfl rfl rfl (by repeat' (first | exact Lv.v | exact Lv.sl | exact Lv.fp | exact lvRr (id := (4, 0)) rfl rfl | exact lvPr (id := (4, 0)) rfl | exact lvRr (id := (7, 0)) rfl rfl | exact lvPr (id := (7, 0)) rfl | exact lvRr (id := (0, 9)) rfl rfl | exact lvPr (id := (0, 9)) rfl | exact lvRr (id := (100, 0)) rfl rfl | exact lvPr (id := (100, 0)) rfl | exact lvRr rfl rfl | exact lvPr rfl | exact Lv.mp | exact Lv.nil | exact Lv.z | exact Lv.dead | refine Lv.agg rfl ?_ | refine Lv.fn rfl ?_ rfl ?_ | refine Lv.tup rfl ?_ | refine Lv.ifc ?_ | exact lv_nil | refine lv_cons ?_ ?_))), (obB rfl rfl rfl rfl (by repeat' (first | exact Lv.v | exact Lv.sl | exact Lv.fp | exact lvRr (id := (4, 0)) rfl rfl | exact lvPr (id := (4, 0)) rfl | exact lvRr (id := (7, 0)) rfl rfl | exact lvPr (id := (7, 0)) rfl | exact lvRr (id := (0, 9)) rfl rfl | exact lvPr (id := (0, 9)) rfl | exact lvRr (id := (100, 0)) rfl rfl | exact lvPr (id := (100, 0)) rfl | exact lvRr rfl rfl | exact lvPr rfl | exact Lv.mp | exact Lv.nil | exact Lv.z | exact Lv.dead | refine Lv.agg rfl ?_ | refine Lv.fn rfl ?_ rfl ?_ | refine Lv.tup rfl ?_ | refine Lv.ifc ?_ | exact lv_nil | refine lv_cons ?_ ?_))), (obR rfl rfl rfl rfl), trivial⟩
                      · first | rfl | assumption | (simp; done) | (simp; omega)
                    · simp only; omega
                · skip
                  have hzn : z.1 = n := by omega
                  have hWz' := hWz
                  rw [hzn] at hWz'
                  refine D_exit ?_
                  refine id (hK35 _ ?_)
                  clear hK35; try clear K35
                  refine D_region ?_
                  refine DL_c (op_mv _ (rfl : _ = AV.v (.int _ _))) ?_
                  first
                    | refine DL_c (op_add _ _ rfl rfl (i64w (by omega))) ?_
                    | refine DL_c (op_add _ _ rfl rfl rfl) ?_
                  refine DL_c (op_as _ (rfl : _ = AV.v (.int _ _))) ?_
                  refine DL_nil ?_
                  refine ⟨(y.1 + 1, z.2), ?_, ?_, ?_⟩
                  · exact ⟨by simp only; omega, hWz'.row⟩
                  · skip
                    refine Le.keepB [] [] rfl ?_ ?_ trivial ⟨rfl, trivial⟩ (by kernel_rfl) ?_ rfl rfl (fun _ => rfl) (by kernel_rfl) (fun _ => rfl)
                    · exact ⟨(by repeat' (first | exact Lv.v | exact Lv.sl | exact Lv.fp | exact lvRr (id := (4, 0)) rfl rfl | exact lvPr (id := (4, 0)) rfl | exact lvRr (id := (7, 0)) rfl rfl | exact lvPr (id := (7, 0)) rfl | exact lvRr (id := (0, 9)) rfl rfl | exact lvPr (id := (0, 9)) rfl | exact lvRr (id := (100, 0)) rfl rfl | exact lvPr (id := (100, 0)) rfl | exact lvRr rfl rfl | exact lvPr rfl | exact Lv.mp | exact Lv.nil | exact Lv.z | exact Lv.dead | refine Lv.agg rfl ?_ | refine Lv.fn rfl ?_ rfl ?_ | refine Lv.tup rfl ?_ | refine Lv.ifc ?_ | exact lv_nil | refine lv_cons ?_ ?_)), (lvPr (id := (4, 0)) rfl), (lvPr (id := (7, 0)) rfl), (by repeat' (first | exact Lv.v | exact Lv.sl | exact Lv.fp | exact lvRr (id := (4, 0)) rfl rfl | exact lvPr (id := (4, 0)) rfl | exact lvRr (id := (7, 0)) rfl rfl | exact lvPr (id := (7, 0)) rfl | exact lvRr (id := (0, 9)) rfl rfl | exact lvPr (id := (0, 9)) rfl | exact lvRr (id := (100, 0)) rfl rfl | exact lvPr (id := (100, 0)) rfl | exact lvRr rfl rfl | exact lvPr rfl | exact Lv.mp | exact Lv.nil | exact Lv.z | exact Lv.dead | refine Lv.agg rfl ?_ | refine Lv.fn rfl ?_ rfl ?_ | refine Lv.tup rfl ?_ | refine Lv.ifc ?_ | exact lv_nil | refine lv_cons ?_ ?_)), (lvI (by first | rfl | omega | (simp; done) | (simp; omega) | assumption)), trivial⟩
                    · exact ⟨(obB rfl rfl rfl rfl (by repeat' (first | exact Lv.v | exact Lv.sl | exact Lv.fp | exact lvRr (id := (4, 0)) rfl rfl | exact lvPr (id := (4, 0)) rfl | exact lvRr (id := (7, 0)) rfl rfl | exact lvPr (id := (7, 0)) rfl | exact lvRr (id := (0, 9)) rfl rfl | exact lvPr (id := (0, 9)) rfl | exact lvRr (id := (100, 0)) rfl rfl | exact lvPr (id := (100, 0)) rfl | exact lvRr rfl rfl | exact lvPr rfl | exact Lv.mp | exact Lv.nil | exact Lv.z | exact Lv.dead | refine Lv.agg rfl ?_ | refine Lv.fn rfl ?_ rfl ?_ | refine Lv.tup rfl ?_ | refine Lv.ifc ?_ | exact lv_nil | refine lv_cons ?_ ?_))), (obB rfl rfl rfl rfl (by repeat' (first | exact Lv.v | exact Lv.sl | exact Lv.fp | exact lvRr (id := (4, 0)) rfl rfl | exact lvPr (id := (4, 0)) rfl | exact lvRr (id := (7, 0)) rfl rfl | exact lvPr (id := (7, 0)) rfl | exact lvRr (id := (0, 9)) rfl rfl | exact lvPr (id := (0, 9)) rfl | exact lvRr (id := (100, 0)) rfl rfl | exact lvPr (id := (100, 0)) rfl | exact lvRr rfl rfl | exact lvPr rfl | exact Lv.mp | exact Lv.nil | exact Lv.z | exact Lv.dead | refine Lv.agg rfl ?_ | refine Lv.fn rfl ?_ rfl ?_ | refine Lv.tup rfl ?_ | refine Lv.ifc ?_ | exact lv_nil | refine lv_cons ?_ ?_))), (obR rfl rfl rfl rfl), trivial⟩
                    · first | rfl | assumption | (simp; done) | (simp; omega)
                  · simp only; omega
              · skip
                have hyn : y.1 = n := by omega
                have hWy' := hWy
                rw [hyn] at hWy'
                refine D_exit ?_
                refine id (hK31 _ ?_)
                clear hK31; try clear K31
                refine D_region ?_
                refine DL_c (op_mv _ (rfl : _ = AV.v (.int _ _))) ?_
                first
                  | refine DL_c (op_add _ _ rfl rfl (i64w (by omega))) ?_
                  | refine DL_c (op_add _ _ rfl rfl rfl) ?_
                refine DL_c (op_as _ (rfl : _ = AV.v (.int _ _))) ?_
                refine DL_nil ?_
                refine ⟨(x.1 + 1, y.2), ?_, ?_, ?_⟩
                · exact ⟨by simp only; omega, hWy'.mat⟩
                · skip
                  refine Le.keepB [] [] rfl ?_ ?_ trivial ⟨rfl, trivial⟩ (by kernel_rfl) ?_ rfl rfl (fun _ => rfl) (by kernel_rfl) (fun _ => rfl)
                  · exact ⟨(by repeat' (first | exact Lv.v | exact Lv.sl | exact Lv.fp | exact lvRr (id := (4, 0)) rfl rfl | exact lvPr (id := (4, 0)) rfl | exact lvRr (id := (7, 0)) rfl rfl | exact lvPr (id := (7, 0)) rfl | exact lvRr (id := (0, 9)) rfl rfl | exact lvPr (id := (0, 9)) rfl | exact lvRr (id := (100, 0)) rfl rfl | exact lvPr (id := (100, 0)) rfl | exact lvRr rfl rfl | exact lvPr rfl | exact Lv.mp | exact Lv.nil | exact Lv.z | exact Lv.dead | refine Lv.agg rfl ?_ | refine Lv.fn rfl ?_ rfl ?_ | refine Lv.tup rfl ?_ | refine Lv.ifc ?_ | exact lv_nil | refine lv_cons ?_ ?_)), (lvPr (id := (4, 0)) rfl), (lvPr (id := (7, 0)) rfl), (lvI (by first | rfl | omega | (simp; done) | (simp; omega) | assumption)), trivial⟩
                  · exact ⟨(obB rfl rfl rfl rfl (by repeat' (first | exact Lv.v | exact Lv.sl | exact Lv.fp | exact lvRr (id := (4, 0)) rfl rfl | exact lvPr (id := (4, 0)) rfl | exact lvRr (id := (7, 0)) rfl rfl | exact lvPr (id := (7, 0)) rfl | exact lvRr (id := (0, 9)) rfl rfl | exact lvPr (id := (0, 9)) rfl | exact lvRr (id := (100, 0)) rfl rfl | exact lvPr (id := (100, 0)) rfl | exact lvRr rfl rfl | exact lvPr rfl | exact Lv.mp | exact Lv.nil | exact Lv.z | exact Lv.dead | refine Lv.agg rfl ?_ | refine Lv.fn rfl ?_ rfl ?_ | refine Lv.tup rfl ?_ | refine Lv.ifc ?_ | exact lv_nil | refine lv_cons ?_ ?_))), (obB rfl rfl rfl rfl (by repeat' (first | exact Lv.v | exact Lv.sl | exact Lv.fp | exact lvRr (id := (4, 0)) rfl rfl | exact lvPr (id := (4, 0)) rfl | exact lvRr (id := (7, 0)) rfl rfl | exact lvPr (id := (7, 0)) rfl | exact lvRr (id := (0, 9)) rfl rfl | exact lvPr (id := (0, 9)) rfl | exact lvRr (id := (100, 0)) rfl rfl | exact lvPr (id := (100, 0)) rfl | exact lvRr rfl rfl | exact lvPr rfl | exact Lv.mp | exact Lv.nil | exact Lv.z | exact Lv.dead | refine Lv.agg rfl ?_ | refine Lv.fn rfl ?_ rfl ?_ | refine Lv.tup rfl ?_ | refine Lv.ifc ?_ | exact lv_nil | refine lv_cons ?_ ?_))), (obR rfl rfl rfl rfl), trivial⟩
                  · first | rfl | assumption | (simp; done) | (simp; omega)
                · simp only; omega
            · skip
              have hxn : x.1 = n := by omega
              have hWf := hWx
              rw [hxn] at hWf
              have hMc := hWf.clo hE
              refine D_exit ?_
              refine id (hK27 _ ?_)
              clear hK27; try clear K27
              refine D_seq fun K41 hK41 => ?_
              refine D_seq fun K42 hK42 => ?_
              refine D_region ?_
              refine DL_c (op_as _ (rfl : _ = AV.v (.int _ _))) ?_
              refine DL_nil (hK42 _ ?_)
              clear hK42; try clear K42
              refine D_block ?_
              refine D_loopLB (α := Nat) (fun a => a ≤ n ∧ ∀ j, j < a → mlt x.2 j j = false) 149 [(0, _), (4, _), (7, _)] [((4, 0), _), ((7, 0), _), ((0, 9), _)] (fun a => [(13, .v (.int .i64 (a : Int)))]) (fun a => []) (fun a => ⟨(100, 0), true, 112, 4, 1000, _⟩) [(0, 9)] [(0, 9)] (fun a => n - a) 0 ?_ (by
                refine Le.keepB [] [] rfl ?_ ?_ trivial ⟨rfl, trivial⟩ (by kernel_rfl) rfl rfl rfl (fun _ => rfl) (by kernel_rfl) (fun _ => rfl)
                · exact ⟨(by repeat' (first | exact Lv.v | exact Lv.sl | exact Lv.fp | exact lvRr (id := (4, 0)) rfl rfl | exact lvPr (id := (4, 0)) rfl | exact lvRr (id := (7, 0)) rfl rfl | exact lvPr (id := (7, 0)) rfl | exact lvRr (id := (0, 9)) rfl rfl | exact lvPr (id := (0, 9)) rfl | exact lvRr (id := (100, 0)) rfl rfl | exact lvPr (id := (100, 0)) rfl | exact lvRr rfl rfl | exact lvPr rfl | exact Lv.mp | exact Lv.nil | exact Lv.z | exact Lv.dead | refine Lv.agg rfl ?_ | refine Lv.fn rfl ?_ rfl ?_ | refine Lv.tup rfl ?_ | refine Lv.ifc ?_ | exact lv_nil | refine lv_cons ?_ ?_)), (lvPr (id := (4, 0)) rfl), (lvPr (id := (7, 0)) rfl), (lvI (by first | rfl | omega | (simp; done) | (simp; omega) | assumption)), trivial⟩
                · exact ⟨(obB rfl rfl rfl rfl (by repeat' (first | exact Lv.v | exact Lv.sl | exact Lv.fp | exact lvRr (id := (4, 0)) rfl rfl | exact lvPr (id := (4, 0)) rfl | exact lvRr (id := (7, 0)) rfl rfl | exact lvPr (id := (7, 0)) rfl | exact lvRr (id := (0, 9)) rfl rfl | exact lvPr (id := (0, 9)) rfl | exact lvRr (id := (100, 0)) rfl rfl | exact lvPr (id := (100, 0)) rfl | exact lvRr rfl rfl | exact lvPr rfl | exact Lv.mp | exact Lv.nil | exact Lv.z | exact Lv.dead | refine Lv.agg rfl ?_ | refine Lv.fn rfl ?_ rfl ?_ | refine Lv.tup rfl ?_ | refine Lv.ifc ?_ | exact lv_nil | refine lv_cons ?_ ?_))), (obB rfl rfl rfl rfl (by repeat' (first | exact Lv.v | exact Lv.sl | exact Lv.fp | exact lvRr (id := (4, 0)) rfl rfl | exact lvPr (id := (4, 0)) rfl | exact lvRr (id := (7, 0)) rfl rfl | exact lvPr (id := (7, 0)) rfl | exact lvRr (id := (0, 9)) rfl rfl | exact lvPr (id := (0, 9)) rfl | exact lvRr (id := (100, 0)) rfl rfl | exact lvPr (id := (100, 0)) rfl | exact lvRr rfl rfl | exact lvPr rfl | exact Lv.mp | exact Lv.nil | exact Lv.z | exact Lv.dead | refine Lv.agg rfl ?_ | refine Lv.fn rfl ?_ rfl ?_ | refine Lv.tup rfl ?_ | refine Lv.ifc ?_ | exact lv_nil | refine lv_cons ?_ ?_))), (obR rfl rfl rfl rfl), trivial⟩) ?_
              · exact ⟨by omega, fun j hj => by omega⟩
              intro a ha
              obtain ⟨ha, hno⟩ := ha
              refine D_seq fun K43 hK43 => ?_
              refine D_seq fun K44 hK44 => ?_
              refine D_region ?_
              refine DL_c (op_mv _ (rfl : _ = AV.v (.int _ _))) ?_
              refine DL_c (op_mv _ (rfl : _ = AV.v (.int _ _))) ?_
              first
                | refine DL_c (op_lss _ _ rfl rfl (by assumption)) ?_
                | refine DL_c (op_lss _ _ rfl rfl rfl) ?_
              refine DL_nil (hK44 _ ?_)
              clear hK44; try clear K44
              refine D_splitC rfl (fun hc136 => ?_) (fun hc136 => ?_)
              · skip
                have hr1 := hWf.mt.row a (by omega)
                refine D_skip (hK43 _ ?_)
                clear hK43; try clear K43
                refine D_seq fun K45 hK45 => ?_
                refine D_block ?_
                refine D_seq fun K46 hK46 => ?_
                refine D_region ?_
                first
                  | refine DL_c (op_fldP _ inferInstance rfl rfl rfl) ?_
                  | refine DL_c (op_fldF _ inferInstance rfl rfl) ?_
                first
                  | refine DL_c (op_ldB _ inferInstance rfl rfl (rfl : _ = some (AV.ref _ _ _))) ?_
                  | refine DL_c (op_ldR _ inferInstance rfl rfl (by first | rfl | exact isl_get _ _ (by omega) | exact bsl_get _ _ (by omega) | assumption | exact mrows_get _ _ (by omega) | exact nsl_get _ _ (by omega) | exact psl_get0 _ _ (by omega) | exact psl_get1 _ _ (by omega)) rfl) ?_
                refine DL_c (op_mv _ (rfl : _ = AV.v (.int _ _))) ?_
                first
                  | refine DL_c (op_ixA' _ _ inferInstance rfl rfl rfl _ rfl (by omega) (by first | exact (Nat.zero_add _).trans (Nat.mul_one _) | exact Nat.zero_add _ | rfl | omega)) ?_
                  | refine DL_c (op_ixA' _ _ inferInstance rfl rfl rfl (Int.toNat _) (Int.toNat_of_nonneg (by omega)).symm (by omega) (by first | exact (Nat.zero_add _).trans (Nat.mul_one _) | exact Nat.zero_add _ | rfl | omega)) ?_
                refine DL_c (op_ldA' _ inferInstance rfl rfl (bun_cell (f := 1000) (b := ⟨(100, 0), true, 112, 4, 1000, _⟩) (j := a) (n := n) rfl (by first | omega | assumption | (simp only [isl_len, bsl_len, psl_len, mrows_len, nsl_len, ws_len, List.length_map, mzero_len]; omega) | (simp; done) | (simp; omega)) (by first | rfl | assumption | (simp only [isl_len, bsl_len, psl_len, mrows_len, nsl_len, ws_len, List.length_map, mzero_len]; omega) | (simp; done) | (simp; omega) | (rw [brow_get, bsl_len]; omega) | (rw [brow_get, bsl_len]; assumption)) rfl)) ?_
                refine DL_c (op_mv _ (rfl : _ = AV.v (.int _ _))) ?_
                first
                  | refine DL_c (op_ixR _ _ inferInstance rfl (bun_row (b := ⟨(100, 0), true, 112, 4, 1000, _⟩) rfl (by rfl) rfl (by first | omega | assumption | (simp only [isl_len, bsl_len, psl_len, mrows_len, nsl_len, ws_len, List.length_map, mzero_len]; omega) | (simp; done) | (simp; omega)) (by first | exact brow_get _ _ | rfl)) rfl _ rfl (by omega) (by first | exact (Nat.zero_add _).trans (Nat.mul_one _) | exact Nat.zero_add _ | rfl | omega)) ?_
                  | refine DL_c (op_ixR _ _ inferInstance rfl (bun_row (b := ⟨(100, 0), true, 112, 4, 1000, _⟩) rfl (by rfl) rfl (by first | omega | assumption | (simp only [isl_len, bsl_len, psl_len, mrows_len, nsl_len, ws_len, List.length_map, mzero_len]; omega) | (simp; done) | (simp; omega)) (by first | exact brow_get _ _ | rfl)) rfl (Int.toNat _) (Int.toNat_of_nonneg (by omega)).symm (by omega) (by first | exact (Nat.zero_add _).trans (Nat.mul_one _) | exact Nat.zero_add _ | rfl | omega)) ?_
                refine DL_c (op_ldR _ inferInstance rfl (bun_row (b := ⟨(100, 0), true, 112, 4, 1000, _⟩) rfl (by rfl) rfl (by first | omega | assumption | (simp only [isl_len, bsl_len, psl_len, mrows_len, nsl_len, ws_len, List.length_map, mzero_len]; omega) | (simp; done) | (simp; omega)) (by first | exact brow_get _ _ | rfl)) (by first | rfl | exact isl_get _ _ (by omega) | exact bsl_get _ _ (by omega) | assumption | exact mrows_get _ _ (by omega) | exact nsl_get _ _ (by omega) | exact psl_get0 _ _ (by omega) | exact psl_get1 _ _ (by omega)) rfl) ?_
                refine DL_nil (hK46 _ ?_)
                clear hK46; try clear K46
                refine D_splitC rfl (fun hc146 => ?_) (fun hc146 => ?_)
                · skip
                  refine D_seq fun K47 hK47 => ?_
                  refine D_region ?_
                  refine DL_c (op_build _ inferInstance rfl (by exact (rfl : _ = some [_, _]))) ?_
                  refine DL_c (op_stB _ _ inferInstance rfl rfl rfl rfl (Nat.le_of_ble_eq_true rfl) rfl) ?_
                  refine DL_c (op_as _ (rfl : _ = AV.v (.int _ _))) ?_
                  refine DL_nil (hK47 _ ?_)
                  clear hK47; try clear K47
                  refine D_ret ?_
                  have hcy : ∃ a, a < n ∧ Clo E a a := ⟨a, by omega, hWf.snd a a (by omega) (by omega) hc146⟩
                  rw [show rnewR n E = .tup [.agg zeroO, .v (.int .i64 9)] from by unfold rnewR; rw [if_neg (by rw [hE]; simp), if_pos hcy]]
                  exact ret2 (.inr rfl) rfl (.cellA inferInstance rfl rfl rfl) (.tmp (rfl : _ = AV.v _)) (Le.outI [] [] (.tup rfl (lv_cons (.agg rfl (lv_cons .v (lv_cons .v lv_nil))) (lv_cons .v lv_nil))) rfl rfl rfl trivial ⟨⟨rfl, ⟨_, rfl, lvO_id _⟩, rfl⟩, trivial⟩ ⟨rfl, trivial⟩ rfl)
                · skip
                  refine D_skip (hK45 _ ?_)
                  clear hK45; try clear K45
                  refine D_region ?_
                  refine DL_c (op_mv _ (rfl : _ = AV.v (.int _ _))) ?_
                  first
                    | refine DL_c (op_add _ _ rfl rfl (i64w (by omega))) ?_
                    | refine DL_c (op_add _ _ rfl rfl rfl) ?_
                  refine DL_c (op_as _ (rfl : _ = AV.v (.int _ _))) ?_
                  refine DL_nil ?_
                  refine ⟨a + 1, ?_, ?_, ?_⟩
                  · exact ⟨by omega, all_succ hno hc146⟩
                  · skip
                    refine Le.keepB [] [] rfl ?_ ?_ trivial ⟨rfl, trivial⟩ (by kernel_rfl) rfl rfl rfl (fun _ => rfl) (by kernel_rfl) (fun _ => rfl)
                    · exact ⟨(by repeat' (first | exact Lv.v | exact Lv.sl | exact Lv.fp | exact lvRr (id := (4, 0)) rfl rfl | exact lvPr (id := (4, 0)) rfl | exact lvRr (id := (7, 0)) rfl rfl | exact lvPr (id := (7, 0)) rfl | exact lvRr (id := (0, 9)) rfl rfl | exact lvPr (id := (0, 9)) rfl | exact lvRr (id := (100, 0)) rfl rfl | exact lvPr (id := (100, 0)) rfl | exact lvRr rfl rfl | exact lvPr rfl | exact Lv.mp | exact Lv.nil | exact Lv.z | exact Lv.dead | refine Lv.agg rfl ?_ | refine Lv.fn rfl ?_ rfl ?_ | refine Lv.tup rfl ?_ | refine Lv.ifc ?_ | exact lv_nil | refine lv_cons ?_ ?_)), (lvPr (id := (4, 0)) rfl), (lvPr (id := (7, 0)) rfl), (lvI (by first | rfl | omega | (simp; done) | (simp; omega) | assumption)), trivial⟩
                    · exact ⟨(obB rfl rfl rfl rfl (by repeat' (first | exact Lv.v | exact Lv.sl | exact Lv.fp | exact lvRr (id := (4, 0)) rfl rfl | exact lvPr (id := (4, 0)) rfl | exact lvRr (id := (7, 0)) rfl rfl | exact lvPr (id := (7, 0)) rfl | exact lvRr (id := (0, 9)) rfl rfl | exact lvPr (id := (0, 9)) rfl | exact lvRr (id := (100, 0)) rfl rfl | exact lvPr (id := (100, 0)) rfl | exact lvRr rfl rfl | exact lvPr rfl | exact Lv.mp | exact Lv.nil | exact Lv.z | exact Lv.dead | refine Lv.agg rfl ?_ | refine Lv.fn rfl ?_ rfl ?_ | refine Lv.tup rfl ?_ | refine Lv.ifc ?_ | exact lv_nil | refine lv_cons ?_ ?_))), (obB rfl rfl rfl rfl (by repeat' (first | exact Lv.v | exact Lv.sl | exact Lv.fp | exact lvRr (id := (4, 0)) rfl rfl | exact lvPr (id := (4, 0)) rfl | exact lvRr (id := (7, 0)) rfl rfl | exact lvPr (id := (7, 0)) rfl | exact lvRr (id := (0, 9)) rfl rfl | exact lvPr (id := (0, 9)) rfl | exact lvRr (id := (100, 0)) rfl rfl | exact lvPr (id := (100, 0)) rfl | exact lvRr rfl rfl | exact lvPr rfl | exact Lv.mp | exact Lv.nil | exact Lv.z | exact Lv.dead | refine Lv.agg rfl ?_ | refine Lv.fn rfl ?_ rfl ?_ | refine Lv.tup rfl ?_ | refine Lv.ifc ?_ | exact lv_nil | refine lv_cons ?_ ?_))), (obR rfl rfl rfl rfl), trivial⟩
                  · omega
              · skip
                have hcy : ¬ ∃ a, a < n ∧ Clo E a a := fun ⟨b, hb, hcb⟩ => by
                  have h1 := hno b (by omega)
                  rw [hMc, cloM_lt hb hb] at h1
                  rw [cl_iff.2 hcb] at h1
                  cases h1
                refine D_exit ?_
                refine id (hK41 _ ?_)
                clear hK41; try clear K41
                refine D_seq fun K48 hK48 => ?_
                refine D_le (σ' := mkStI 149 [(4, _), (7, _)] ([((4, 0), _), ((7, 0), _), ((0, 9), _)] ++ [((100, 0), _)]) [(0, 9)] [(0, 9)]) (Le.frzFam 1000 rfl ⟨(iP rfl), (iP rfl), trivial⟩ ⟨⟨rfl, ⟨_, rfl, lvO_id _⟩, rfl⟩, ⟨rfl, ⟨_, rfl, lvO_id _⟩, rfl⟩, ⟨rfl, ⟨_, rfl, lvO_id _⟩, rfl⟩, frzOuter rfl rfl (fun _ => rfl) (by kernel_rfl) rfl rfl, trivial⟩ (fun _ => rfl) ⟨rfl, trivial⟩ (by kernel_rfl)) ?_
                refine D_le (σ' := mkStI 149 [(4, _), (7, _)] [((4, 0), _), ((7, 0), .box _ [_, .sl _ _]), ((0, 9), _)] [(0, 9)] [(0, 9)]) (Le.mkJ [] [(100, 0)] rfl ⟨(iP rfl), (iP rfl), trivial⟩ ⟨(obE rfl rfl rfl), (obB rfl rfl rfl rfl (lv_cons (lv_id _) (lv_cons (Lv.frzA rfl rfl (downs_bsl _) (by simp [rowsSl]; omega) (by decide)) lv_nil))), (obE rfl rfl rfl), trivial⟩ ⟨rfl, trivial⟩ ⟨rfl, trivial⟩ (by kernel_rfl)) ?_
                refine D_region ?_
                first
                  | refine DL_c (op_ldBA _ inferInstance rfl rfl rfl rfl) ?_
                  | refine DL_c (op_ldRA _ inferInstance rfl rfl (by first | rfl | assumption) rfl) ?_
                  | refine DL_c (op_ldFA _ inferInstance rfl (by first | rfl | assumption) rfl) ?_
                refine DL_c (op_stB _ _ inferInstance rfl rfl rfl rfl (Nat.le_of_ble_eq_true rfl) rfl) ?_
                refine DL_c (op_as _ (rfl : _ = AV.v (.int _ _))) ?_
                refine DL_nil (hK48 _ ?_)
                clear hK48; try clear K48
                refine D_ret ?_
                rw [show rnewR n E = .tup [.agg (rord n (cloM n E)), .v (.int .i64 0)] from by unfold rnewR; rw [if_neg (by rw [hE]; simp), if_neg hcy]]
                exact ret2 (.inr rfl) rfl (.cellA inferInstance rfl rfl rfl) (.tmp (rfl : _ = AV.v _)) (Le.outI [] [] (.tup rfl (lv_cons (.agg rfl (lv_cons .v (lv_cons (lvS (by rw [← hMc]; omega) (by rw [← hMc])) lv_nil))) (lv_cons .v lv_nil))) rfl rfl rfl trivial ⟨⟨rfl, ⟨_, rfl, lvO_id _⟩, rfl⟩, trivial⟩ ⟨rfl, trivial⟩ rfl)
end Go.Proofs.Ytkbkmngbenohkaa
