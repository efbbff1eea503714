/- The reference's Parents, its rows handed over. By the machine. -/
import Derived.Test.YtkbkmngbenohkaaVoW5
import Derived.Test.YtkbkmngbenohkaaVoM12
set_option linter.unusedSimpArgs false
set_option linter.unusedVariables false
namespace Go.Proofs.Ytkbkmngbenohkaa
open Go.RowKit

theorem par32_own (m : Nat) (l : List Int) (hm : l.length = m) (h1 : m ≤ 4611686018427387904) (hr : Rng l) :
    Spec Try.prog 56 (inSt [.sl m (isl l)] []) (mkStB 1 [(0, .ref (100, 0) 0 (prM l))] [] ⟨(100, 0), true, 29, 3, 1000, (par32 l).map isl⟩ [] []) := by
  refine Spec.ofN Try.func56 rfl Try.ntmps56 rfl ?_
  refine D_seq fun K1 hK1 => ?_
  refine D_region ?_
  first
    | refine DL_c (op_as _ (rfl : _ = AV.sl _ _)) ?_
    | refine DL_c (op_as _ (rfl : _ = AV.ref _ _ _)) ?_
    | refine DL_c (op_as _ (rfl : _ = AV.v (.slice _ _ _))) ?_
    | refine DL_c (op_as _ (rfl : _ = AV.z)) ?_
  refine DL_nil (hK1 _ ?_)
  clear hK1; try clear K1
  refine D_seq fun K2 hK2 => ?_
  refine D_region ?_
  first
    | refine DL_c (op_as _ (rfl : _ = AV.sl _ _)) ?_
    | refine DL_c (op_as _ (rfl : _ = AV.ref _ _ _)) ?_
    | refine DL_c (op_as _ (rfl : _ = AV.v (.slice _ _ _))) ?_
    | refine DL_c (op_as _ (rfl : _ = AV.z)) ?_
  refine DL_nil (hK2 _ ?_)
  clear hK2; try clear K2
  refine D_seq fun K3 hK3 => ?_
  refine D_seq fun K4 hK4 => ?_
  refine D_region ?_
  refine DL_c (op_as _ (rfl : _ = AV.v (.int _ _))) ?_
  refine DL_nil (hK4 _ ?_)
  clear hK4; try clear K4
  refine D_block ?_
  refine D_loopLB (α := Nat) (fun v => v ≤ 14 ∧ v ≤ 1 + m) 67 [(0, _)] [] (fun v => [(4, .v (.int .i64 (v : Int))), (3, .ref (100, 0) 0 v)]) (fun v => []) (fun v => ⟨(100, 0), true, 29, 3, 1000, ((prL l v).map isl)⟩) [] [] (fun v => 14 - v) 0 ?_ (by
    refine Le.trans ?_ (Le.nilSA 3 (100, 0) 29 1 rfl rfl)
    refine Le.keepB (rows := []) (bx0 := (100, 0)) [] [] rfl ?_ ?_ trivial trivial (by kernel_rfl) rfl rfl rfl (fun _ => rfl) (by kernel_rfl) (fun _ => rfl)
    · exact ⟨(by repeat' (first | exact Lv.v | exact Lv.sl | exact Lv.fp | exact lvRr rfl rfl | exact lvPr rfl | exact Lv.mp | exact Lv.nil | exact Lv.z | exact Lv.dead | refine Lv.agg rfl ?_ | refine Lv.fn rfl ?_ rfl ?_ | refine Lv.tup rfl ?_ | refine Lv.ifc ?_ | exact lv_nil | refine lv_cons ?_ ?_)), (lvI (by first | rfl | omega | (simp; done) | (simp; omega) | assumption)), (lvRr rfl (by first | rfl | omega | (simp; done) | (simp; omega) | assumption)), trivial⟩
    · exact trivial) ?_
  · exact ⟨by omega, by omega⟩
  intro v hv
  refine D_seq fun K5 hK5 => ?_
  refine D_seq fun K6 hK6 => ?_
  refine D_region ?_
  refine DL_c (op_mv _ (rfl : _ = AV.v (.int _ _))) ?_
  first
    | refine DL_c (op_lss _ _ rfl rfl (by assumption)) ?_
    | refine DL_c (op_lss _ _ rfl rfl rfl) ?_
  refine DL_c (op_mv _ (rfl : _ = AV.v (.bool _))) ?_
  refine DL_caseC (fun hg11 => ?_) (fun hg11 => ?_)
  · skip
    refine DL_cy rfl rfl (op_mv _ (rfl : _ = AV.v (.int _ _))) ?_
    refine DL_cy rfl rfl (op_mv _ (rfl : _ = AV.sl _ _)) ?_
    refine DL_cy rfl rfl (op_lenS _ inferInstance rfl) ?_
    first
      | refine DL_cy rfl rfl (op_add _ _ rfl rfl (i64w (by omega))) ?_
      | refine DL_cy rfl rfl (op_add _ _ rfl rfl rfl) ?_
    first
      | refine DL_cy rfl rfl (op_lss _ _ rfl rfl (by assumption)) ?_
      | refine DL_cy rfl rfl (op_lss _ _ rfl rfl rfl) ?_
    refine DL_c (op_pick _ _ _ rfl (rfl : _ = AV.v (.bool _))) ?_
    refine DL_nil (hK6 _ ?_)
    clear hK6; try clear K6
    refine D_splitC rfl (fun hc17 => ?_) (fun hc17 => ?_)
    · skip
      refine D_skip (hK5 _ ?_)
      clear hK5; try clear K5
      refine D_seq fun K7 hK7 => ?_
      refine D_block ?_
      refine D_seq fun K8 hK8 => ?_
      refine D_region ?_
      refine DL_c (op_asN (5, 0) _ 3 1 rfl rfl) ?_
      refine DL_nil (hK8 _ ?_)
      clear hK8; try clear K8
      refine D_seq fun K9 hK9 => ?_
      refine D_seq fun K10 hK10 => ?_
      refine D_region ?_
      refine DL_c (op_mv _ (rfl : _ = AV.v (.int _ _))) ?_
      first
        | refine DL_c (op_gtr _ _ rfl rfl (by assumption)) ?_
        | refine DL_c (op_gtr _ _ rfl rfl rfl) ?_
      refine DL_nil (hK10 _ ?_)
      clear hK10; try clear K10
      refine D_splitC rfl (fun hc21 => ?_) (fun hc21 => ?_)
      · skip
        have hN0 := around_lo (l.getD (v - 1) 0) 1000000 (by omega)
        have hN1 := around_hi (l.getD (v - 1) 0) 1000000 (by omega)
        have hrg := rngd hr (v - 1)
        have hp1 : pr1 l v = (prK v (around (l.getD (v - 1) 0) 1000000) 3).1 := if_pos (by omega)
        refine D_seq fun K11 hK11 => ?_
        refine D_region ?_
        refine DL_c (op_mv _ (rfl : _ = AV.sl _ _)) ?_
        refine DL_c (op_mv _ (rfl : _ = AV.v (.int _ _))) ?_
        first
          | refine DL_c (op_sub _ _ rfl rfl (i64w (by omega))) ?_
          | refine DL_c (op_sub _ _ rfl rfl rfl) ?_
        refine DL_c (op_ixS _ _ inferInstance rfl rfl (v - 1) (by omega) (by omega) (by simp; omega) (Nat.mul_one _)) ?_
        refine DL_c (op_ldF _ inferInstance rfl (by first | rfl | exact isl_get _ _ (by omega) | exact bsl_get _ _ (by omega) | assumption | exact isl_get _ _ (by omega) | exact nsl_get _ _ (by omega) | exact nrows_get _ _ (by omega)) rfl) ?_
        refine DL_c (op_callH inferInstance (by repeat' (first | exact argsLv_nil | refine argsLv_cons ?_ ?_ | exact Lv.v | exact lvI (by omega) | exact Lv.sl | exact Lv.fp | exact Lv.nil | refine Lv.agg rfl ?_ | refine Lv.fn rfl ?_ rfl ?_ | exact lv_nil | refine lv_cons ?_ ?_ | exact Lv.z0)) (around_spec (l.getD (v - 1) 0) 1000000 (by omega) (by omega) hrg.1 hrg.2) rfl rfl) ?_
        refine DL_c (op_as _ (rfl : _ = AV.v (.int _ _))) ?_
        refine DL_nil (hK11 _ ?_)
        clear hK11; try clear K11
        refine D_seq fun K12 hK12 => ?_
        refine D_le (σ' := mkStB 67 [(0, _), (3, _), (4, _), (5, _), (6, _)] [((5, 0), _)] ⟨(100, 0), true, 29, 3, 1000, _⟩ [] []) (by
          refine Le.keepB [] [] rfl ?_ ?_ trivial trivial (by kernel_rfl) rfl rfl rfl (fun _ => rfl) (by kernel_rfl) (fun _ => rfl)
          · exact ⟨(by repeat' (first | exact Lv.v | exact Lv.sl | exact Lv.fp | exact lvRr (id := (5, 0)) rfl rfl | exact lvPr (id := (5, 0)) rfl | exact lvRr (id := (100, 0)) rfl rfl | exact lvPr (id := (100, 0)) rfl | exact lvRr rfl rfl | exact lvPr rfl | exact Lv.mp | exact Lv.nil | exact Lv.z | exact Lv.dead | refine Lv.agg rfl ?_ | refine Lv.fn rfl ?_ rfl ?_ | refine Lv.tup rfl ?_ | refine Lv.ifc ?_ | exact lv_nil | refine lv_cons ?_ ?_)), (lvRr (id := (100, 0)) rfl rfl), (by repeat' (first | exact Lv.v | exact Lv.sl | exact Lv.fp | exact lvRr (id := (5, 0)) rfl rfl | exact lvPr (id := (5, 0)) rfl | exact lvRr (id := (100, 0)) rfl rfl | exact lvPr (id := (100, 0)) rfl | exact lvRr rfl rfl | exact lvPr rfl | exact Lv.mp | exact Lv.nil | exact Lv.z | exact Lv.dead | refine Lv.agg rfl ?_ | refine Lv.fn rfl ?_ rfl ?_ | refine Lv.tup rfl ?_ | refine Lv.ifc ?_ | exact lv_nil | refine lv_cons ?_ ?_)), (lvRr (id := (5, 0)) rfl rfl), (by repeat' (first | exact Lv.v | exact Lv.sl | exact Lv.fp | exact lvRr (id := (5, 0)) rfl rfl | exact lvPr (id := (5, 0)) rfl | exact lvRr (id := (100, 0)) rfl rfl | exact lvPr (id := (100, 0)) rfl | exact lvRr rfl rfl | exact lvPr rfl | exact Lv.mp | exact Lv.nil | exact Lv.z | exact Lv.dead | refine Lv.agg rfl ?_ | refine Lv.fn rfl ?_ rfl ?_ | refine Lv.tup rfl ?_ | refine Lv.ifc ?_ | exact lv_nil | refine lv_cons ?_ ?_)), trivial⟩
          · exact ⟨(obR rfl rfl rfl rfl), trivial⟩) ?_
        refine D_region ?_
        refine DL_c (op_as _ (rfl : _ = AV.v (.int _ _))) ?_
        refine DL_nil (hK12 _ ?_)
        clear hK12; try clear K12
        refine D_block ?_
        refine D_loopLB (α := Nat × List Int × Int) (fun z => z.1 ≤ 3 ∧ prK v (around (l.getD (v - 1) 0) 1000000) z.1 = (z.2.1, z.2.2) ∧ 0 ≤ z.2.2 ∧ z.2.2 ≤ 1000000 ∧ z.2.1.length ≤ z.1) 67 [(0, _), (3, _), (4, _)] [] (fun z => [(7, .v (.int .i64 (z.1 : Int))), (5, .ref (5, 0) 0 z.2.1.length), (6, .v (.int .i64 z.2.2))]) (fun z => [((5, 0), .row 3 1 (isl z.2.1))]) (fun z => ⟨(100, 0), true, 29, 3, 1000, _⟩) [] [] (fun z => 3 - z.1) (0, [], around (l.getD (v - 1) 0) 1000000) ?_ (by
          refine Le.keepB [] [] rfl ?_ ?_ trivial trivial (by kernel_rfl) rfl rfl rfl (fun _ => rfl) (by kernel_rfl) (fun _ => rfl)
          · exact ⟨(by repeat' (first | exact Lv.v | exact Lv.sl | exact Lv.fp | exact lvRr (id := (5, 0)) rfl rfl | exact lvPr (id := (5, 0)) rfl | exact lvRr (id := (100, 0)) rfl rfl | exact lvPr (id := (100, 0)) rfl | exact lvRr rfl rfl | exact lvPr rfl | exact Lv.mp | exact Lv.nil | exact Lv.z | exact Lv.dead | refine Lv.agg rfl ?_ | refine Lv.fn rfl ?_ rfl ?_ | refine Lv.tup rfl ?_ | refine Lv.ifc ?_ | exact lv_nil | refine lv_cons ?_ ?_)), (lvRr (id := (100, 0)) rfl rfl), (by repeat' (first | exact Lv.v | exact Lv.sl | exact Lv.fp | exact lvRr (id := (5, 0)) rfl rfl | exact lvPr (id := (5, 0)) rfl | exact lvRr (id := (100, 0)) rfl rfl | exact lvPr (id := (100, 0)) rfl | exact lvRr rfl rfl | exact lvPr rfl | exact Lv.mp | exact Lv.nil | exact Lv.z | exact Lv.dead | refine Lv.agg rfl ?_ | refine Lv.fn rfl ?_ rfl ?_ | refine Lv.tup rfl ?_ | refine Lv.ifc ?_ | exact lv_nil | refine lv_cons ?_ ?_)), (lvI (by first | rfl | omega | (simp; done) | (simp; omega) | assumption)), (lvRr rfl (by first | rfl | omega | (simp; done) | (simp; omega) | assumption)), (lvI (by first | rfl | omega | (simp; done) | (simp; omega) | assumption)), trivial⟩
          · exact ⟨(obR rfl rfl rfl (by first | rfl | omega | (simp; done) | (simp; omega) | assumption)), trivial⟩) ?_
        · exact ⟨by omega, rfl, hN0, by simp only; omega, Nat.le_refl _⟩
        intro z hz
        obtain ⟨hz1, hzk, hn0, hn1, hol⟩ := hz
        refine D_seq fun K13 hK13 => ?_
        refine D_seq fun K14 hK14 => ?_
        refine D_region ?_
        refine DL_c (op_mv _ (rfl : _ = AV.v (.int _ _))) ?_
        first
          | refine DL_c (op_lss _ _ rfl rfl (by assumption)) ?_
          | refine DL_c (op_lss _ _ rfl rfl rfl) ?_
        refine DL_nil (hK14 _ ?_)
        clear hK14; try clear K14
        refine D_splitC rfl (fun hc29 => ?_) (fun hc29 => ?_)
        · skip
          refine D_skip (hK13 _ ?_)
          clear hK13; try clear K13
          refine D_seq fun K15 hK15 => ?_
          refine D_block ?_
          refine D_seq fun K16 hK16 => ?_
          refine D_region ?_
          refine DL_c (op_mv _ (rfl : _ = AV.v (.int _ _))) ?_
          first
            | refine DL_c (op_sub _ _ rfl rfl (i64w (by omega))) ?_
            | refine DL_c (op_sub _ _ rfl rfl rfl) ?_
          refine DL_c (op_mv _ (rfl : _ = AV.v (.int _ _))) ?_
          refine DL_c (op_rem _ _ rfl rfl (by omega) (Int.tmod_eq_emod_of_nonneg (by omega))) ?_
          first
            | refine DL_c (op_sub _ _ rfl rfl (i64w (by omega))) ?_
            | refine DL_c (op_sub _ _ rfl rfl rfl) ?_
          refine DL_c (op_as _ (rfl : _ = AV.v (.int _ _))) ?_
          refine DL_nil (hK16 _ ?_)
          clear hK16; try clear K16
          refine D_seq fun K17 hK17 => ?_
          refine D_region ?_
          refine DL_c (op_mv _ (rfl : _ = AV.v (.int _ _))) ?_
          refine DL_c (op_quo _ _ rfl rfl (by omega) ((i64w (by rw [Int.tdiv_eq_ediv_of_nonneg (by omega)]; omega)).trans (Int.tdiv_eq_ediv_of_nonneg (by omega)))) ?_
          refine DL_c (op_as _ (rfl : _ = AV.v (.int _ _))) ?_
          refine DL_nil (hK17 _ ?_)
          clear hK17; try clear K17
          refine D_seq fun K18 hK18 => ?_
          refine D_seq fun K19 hK19 => ?_
          refine D_region ?_
          refine DL_c (op_mv _ (rfl : _ = AV.v (.int _ _))) ?_
          first
            | refine DL_c (op_geq _ _ rfl rfl (by assumption)) ?_
            | refine DL_c (op_geq _ _ rfl rfl rfl) ?_
          refine DL_c (op_mv _ (rfl : _ = AV.v (.bool _))) ?_
          refine DL_caseC (fun hg41 => ?_) (fun hg41 => ?_)
          · skip
            refine DL_cy rfl rfl (op_mv _ (rfl : _ = AV.ref _ _ _)) ?_
            refine DL_cy rfl rfl (op_mv _ (rfl : _ = AV.v (.int _ _))) ?_
            refine DL_cy rfl rfl (op_callBH inferInstance (by repeat' (first | exact argsLv_nil | refine argsLv_cons ?_ ?_ | exact Lv.v | exact lvI (by omega) | exact Lv.sl | exact Lv.fp | exact Lv.nil | refine Lv.agg rfl ?_ | refine Lv.fn rfl ?_ rfl ?_ | exact lv_nil | refine lv_cons ?_ ?_ | (refine frz0 rfl rfl ?_ rfl; first | (simp; done) | (simp; omega) | omega) | exact Lv.frzP rfl rfl rfl)) (has_spec z.2.1.length z.2.1 ((v : Int) - 1 - z.2.2 % 4) rfl (by omega)) rfl) ?_
            refine DL_cy rfl rfl (op_not _ rfl rfl) ?_
            refine DL_c (op_pick _ _ _ rfl (rfl : _ = AV.v (.bool _))) ?_
            refine DL_c (op_mv _ (rfl : _ = AV.v (.bool _))) ?_
            refine DL_caseC (fun hg47 => ?_) (fun hg47 => ?_)
            · skip
              refine DL_cy rfl rfl (op_mv _ (rfl : _ = AV.v (.int _ _))) ?_
              first
                | refine DL_cy rfl rfl (op_eql _ _ rfl rfl (by assumption)) ?_
                | refine DL_cy rfl rfl (op_eql _ _ rfl rfl rfl) ?_
              refine DL_cy rfl rfl (op_mv _ (rfl : _ = AV.v (.bool _))) ?_
              refine DL_caseC (fun hg50 => ?_) (fun hg50 => ?_)
              · skip
                refine DL_cn rfl rfl (by decide) ?_
                refine DL_cn rfl rfl (by decide) ?_
                refine DL_cn rfl rfl (by decide) ?_
                refine DL_cy rfl rfl (op_pick _ _ _ rfl (rfl : _ = AV.v (.bool _))) ?_
                refine DL_c (op_pick _ _ _ rfl (rfl : _ = AV.v (.bool _))) ?_
                refine DL_nil (hK19 _ ?_)
                clear hK19; try clear K19
                refine D_cT rfl rfl ?_
                refine D_le (σ' := mkStB 67 [(0, _), (3, _), (4, _), (5, _), (6, _), (7, _), (8, _)] [((5, 0), _)] ⟨(100, 0), true, 29, 3, 1000, _⟩ [] []) (by
                  refine Le.keepB [] [] rfl ?_ ?_ trivial trivial (by kernel_rfl) rfl rfl rfl (fun _ => rfl) (by kernel_rfl) (fun _ => rfl)
                  · exact ⟨(by repeat' (first | exact Lv.v | exact Lv.sl | exact Lv.fp | exact lvRr (id := (5, 0)) rfl rfl | exact lvPr (id := (5, 0)) rfl | exact lvRr (id := (100, 0)) rfl rfl | exact lvPr (id := (100, 0)) rfl | exact lvRr rfl rfl | exact lvPr rfl | exact Lv.mp | exact Lv.nil | exact Lv.z | exact Lv.dead | refine Lv.agg rfl ?_ | refine Lv.fn rfl ?_ rfl ?_ | refine Lv.tup rfl ?_ | refine Lv.ifc ?_ | exact lv_nil | refine lv_cons ?_ ?_)), (lvRr (id := (100, 0)) rfl rfl), (by repeat' (first | exact Lv.v | exact Lv.sl | exact Lv.fp | exact lvRr (id := (5, 0)) rfl rfl | exact lvPr (id := (5, 0)) rfl | exact lvRr (id := (100, 0)) rfl rfl | exact lvPr (id := (100, 0)) rfl | exact lvRr rfl rfl | exact lvPr rfl | exact Lv.mp | exact Lv.nil | exact Lv.z | exact Lv.dead | refine Lv.agg rfl ?_ | refine Lv.fn rfl ?_ rfl ?_ | refine Lv.tup rfl ?_ | refine Lv.ifc ?_ | exact lv_nil | refine lv_cons ?_ ?_)), (lvRr (id := (5, 0)) rfl rfl), (by repeat' (first | exact Lv.v | exact Lv.sl | exact Lv.fp | exact lvRr (id := (5, 0)) rfl rfl | exact lvPr (id := (5, 0)) rfl | exact lvRr (id := (100, 0)) rfl rfl | exact lvPr (id := (100, 0)) rfl | exact lvRr rfl rfl | exact lvPr rfl | exact Lv.mp | exact Lv.nil | exact Lv.z | exact Lv.dead | refine Lv.agg rfl ?_ | refine Lv.fn rfl ?_ rfl ?_ | refine Lv.tup rfl ?_ | refine Lv.ifc ?_ | exact lv_nil | refine lv_cons ?_ ?_)), (by repeat' (first | exact Lv.v | exact Lv.sl | exact Lv.fp | exact lvRr (id := (5, 0)) rfl rfl | exact lvPr (id := (5, 0)) rfl | exact lvRr (id := (100, 0)) rfl rfl | exact lvPr (id := (100, 0)) rfl | exact lvRr rfl rfl | exact lvPr rfl | exact Lv.mp | exact Lv.nil | exact Lv.z | exact Lv.dead | refine Lv.agg rfl ?_ | refine Lv.fn rfl ?_ rfl ?_ | refine Lv.tup rfl ?_ | refine Lv.ifc ?_ | exact lv_nil | refine lv_cons ?_ ?_)), (by repeat' (first | exact Lv.v | exact Lv.sl | exact Lv.fp | exact lvRr (id := (5, 0)) rfl rfl | exact lvPr (id := (5, 0)) rfl | exact lvRr (id := (100, 0)) rfl rfl | exact lvPr (id := (100, 0)) rfl | exact lvRr rfl rfl | exact lvPr rfl | exact Lv.mp | exact Lv.nil | exact Lv.z | exact Lv.dead | refine Lv.agg rfl ?_ | refine Lv.fn rfl ?_ rfl ?_ | refine Lv.tup rfl ?_ | refine Lv.ifc ?_ | exact lv_nil | refine lv_cons ?_ ?_)), trivial⟩
                  · exact ⟨(obR rfl rfl rfl rfl), trivial⟩) ?_
                refine D_region ?_
                refine DL_c (op_mv _ (rfl : _ = AV.ref _ _ _)) ?_
                refine DL_c (op_mv _ (rfl : _ = AV.v (.int _ _))) ?_
                refine DL_c (op_bsF _ _ inferInstance rfl (by rfl) (by simp <;> rfl) (by decide) rfl) ?_
                refine DL_c (op_ap (59, 0) _ _ inferInstance rfl rfl (by first | rfl | omega | (simp only [isl_len, bsl_len, psl_len, mrows_len, nsl_len, ws_len, List.length_map, ul_len, psl_len, isl_len, nrows_len, prL_len]; omega) | (simp; done) | (simp; omega)) (by first | exact .nil | (refine .sl ?_; first | (simp [isl]; done) | (simp [isl]; omega)) | (refine .ref rfl rfl ?_; first | (simp; done) | (simp; omega))) (by omega) rfl (rfl) (rfl)) ?_
                refine DL_c (op_as _ (rfl : _ = AV.ref _ _ _)) ?_
                refine DL_nil (hK18 _ ?_)
                clear hK18; try clear K18
                refine D_region ?_
                refine DL_c (op_mv _ (rfl : _ = AV.v (.int _ _))) ?_
                refine DL_c (op_quo _ _ rfl rfl (by omega) ((i64w (by rw [Int.tdiv_eq_ediv_of_nonneg (by omega)]; omega)).trans (Int.tdiv_eq_ediv_of_nonneg (by omega)))) ?_
                refine DL_c (op_as _ (rfl : _ = AV.v (.int _ _))) ?_
                refine DL_nil (hK15 _ ?_)
                clear hK15; try clear K15
                refine D_region ?_
                refine DL_c (op_mv _ (rfl : _ = AV.v (.int _ _))) ?_
                first
                  | refine DL_c (op_add _ _ rfl rfl (i64w (by omega))) ?_
                  | refine DL_c (op_add _ _ rfl rfl rfl) ?_
                refine DL_c (op_as _ (rfl : _ = AV.v (.int _ _))) ?_
                refine DL_nil ?_
                refine ⟨(z.1 + 1, z.2.1 ++ [(v : Int) - 1 - z.2.2 % 4], z.2.2 / 4 / 3), ?_, ?_, ?_⟩
                · exact ⟨by simp only; omega, prK_yes hzk ⟨hg41, hg47, .inl (by omega)⟩, by simp only; omega, by simp only; omega, by simp; omega⟩
                · skip
                  refine Le.keepB [((5, 0), (59, 0))] [] rfl ?_ ?_ trivial trivial (by kernel_rfl) rfl rfl rfl (fun _ => rfl) (by kernel_rfl) (fun _ => rfl)
                  · exact ⟨(by repeat' (first | exact Lv.v | exact Lv.sl | exact Lv.fp | exact lvRr (id := (5, 0)) rfl rfl | exact lvPr (id := (5, 0)) rfl | exact lvRr (id := (100, 0)) rfl rfl | exact lvPr (id := (100, 0)) rfl | exact lvRr rfl rfl | exact lvPr rfl | exact Lv.mp | exact Lv.nil | exact Lv.z | exact Lv.dead | refine Lv.agg rfl ?_ | refine Lv.fn rfl ?_ rfl ?_ | refine Lv.tup rfl ?_ | refine Lv.ifc ?_ | exact lv_nil | refine lv_cons ?_ ?_)), (lvRr (id := (100, 0)) rfl rfl), (by repeat' (first | exact Lv.v | exact Lv.sl | exact Lv.fp | exact lvRr (id := (5, 0)) rfl rfl | exact lvPr (id := (5, 0)) rfl | exact lvRr (id := (100, 0)) rfl rfl | exact lvPr (id := (100, 0)) rfl | exact lvRr rfl rfl | exact lvPr rfl | exact Lv.mp | exact Lv.nil | exact Lv.z | exact Lv.dead | refine Lv.agg rfl ?_ | refine Lv.fn rfl ?_ rfl ?_ | refine Lv.tup rfl ?_ | refine Lv.ifc ?_ | exact lv_nil | refine lv_cons ?_ ?_)), (lvI (by first | rfl | omega | (simp; done) | (simp; omega) | assumption)), (lvRr rfl (by first | rfl | omega | (simp; done) | (simp; omega) | assumption)), (lvI (by first | rfl | omega | (simp; done) | (simp; omega) | assumption)), trivial⟩
                  · exact ⟨(obR rfl rfl rfl (by simp [isl])), trivial⟩
                · simp only; omega
              · skip
                refine DL_cy rfl rfl (op_mv _ (rfl : _ = AV.v (.int _ _))) ?_
                refine DL_cy rfl rfl (op_rem _ _ rfl rfl (by omega) (Int.tmod_eq_emod_of_nonneg (by omega))) ?_
                first
                  | refine DL_cy rfl rfl (op_eql _ _ rfl rfl (by assumption)) ?_
                  | refine DL_cy rfl rfl (op_eql _ _ rfl rfl rfl) ?_
                refine DL_cy rfl rfl (op_pick _ _ _ rfl (rfl : _ = AV.v (.bool _))) ?_
                refine DL_c (op_pick _ _ _ rfl (rfl : _ = AV.v (.bool _))) ?_
                refine DL_nil (hK19 _ ?_)
                clear hK19; try clear K19
                refine D_splitC rfl (fun hc55 => ?_) (fun hc55 => ?_)
                · skip
                  refine D_le (σ' := mkStB 67 [(0, _), (3, _), (4, _), (5, _), (6, _), (7, _), (8, _)] [((5, 0), _)] ⟨(100, 0), true, 29, 3, 1000, _⟩ [] []) (by
                    refine Le.keepB [] [] rfl ?_ ?_ trivial trivial (by kernel_rfl) rfl rfl rfl (fun _ => rfl) (by kernel_rfl) (fun _ => rfl)
                    · exact ⟨(by repeat' (first | exact Lv.v | exact Lv.sl | exact Lv.fp | exact lvRr (id := (5, 0)) rfl rfl | exact lvPr (id := (5, 0)) rfl | exact lvRr (id := (100, 0)) rfl rfl | exact lvPr (id := (100, 0)) rfl | exact lvRr rfl rfl | exact lvPr rfl | exact Lv.mp | exact Lv.nil | exact Lv.z | exact Lv.dead | refine Lv.agg rfl ?_ | refine Lv.fn rfl ?_ rfl ?_ | refine Lv.tup rfl ?_ | refine Lv.ifc ?_ | exact lv_nil | refine lv_cons ?_ ?_)), (lvRr (id := (100, 0)) rfl rfl), (by repeat' (first | exact Lv.v | exact Lv.sl | exact Lv.fp | exact lvRr (id := (5, 0)) rfl rfl | exact lvPr (id := (5, 0)) rfl | exact lvRr (id := (100, 0)) rfl rfl | exact lvPr (id := (100, 0)) rfl | exact lvRr rfl rfl | exact lvPr rfl | exact Lv.mp | exact Lv.nil | exact Lv.z | exact Lv.dead | refine Lv.agg rfl ?_ | refine Lv.fn rfl ?_ rfl ?_ | refine Lv.tup rfl ?_ | refine Lv.ifc ?_ | exact lv_nil | refine lv_cons ?_ ?_)), (lvRr (id := (5, 0)) rfl rfl), (by repeat' (first | exact Lv.v | exact Lv.sl | exact Lv.fp | exact lvRr (id := (5, 0)) rfl rfl | exact lvPr (id := (5, 0)) rfl | exact lvRr (id := (100, 0)) rfl rfl | exact lvPr (id := (100, 0)) rfl | exact lvRr rfl rfl | exact lvPr rfl | exact Lv.mp | exact Lv.nil | exact Lv.z | exact Lv.dead | refine Lv.agg rfl ?_ | refine Lv.fn rfl ?_ rfl ?_ | refine Lv.tup rfl ?_ | refine Lv.ifc ?_ | exact lv_nil | refine lv_cons ?_ ?_)), (by repeat' (first | exact Lv.v | exact Lv.sl | exact Lv.fp | exact lvRr (id := (5, 0)) rfl rfl | exact lvPr (id := (5, 0)) rfl | exact lvRr (id := (100, 0)) rfl rfl | exact lvPr (id := (100, 0)) rfl | exact lvRr rfl rfl | exact lvPr rfl | exact Lv.mp | exact Lv.nil | exact Lv.z | exact Lv.dead | refine Lv.agg rfl ?_ | refine Lv.fn rfl ?_ rfl ?_ | refine Lv.tup rfl ?_ | refine Lv.ifc ?_ | exact lv_nil | refine lv_cons ?_ ?_)), (by repeat' (first | exact Lv.v | exact Lv.sl | exact Lv.fp | exact lvRr (id := (5, 0)) rfl rfl | exact lvPr (id := (5, 0)) rfl | exact lvRr (id := (100, 0)) rfl rfl | exact lvPr (id := (100, 0)) rfl | exact lvRr rfl rfl | exact lvPr rfl | exact Lv.mp | exact Lv.nil | exact Lv.z | exact Lv.dead | refine Lv.agg rfl ?_ | refine Lv.fn rfl ?_ rfl ?_ | refine Lv.tup rfl ?_ | refine Lv.ifc ?_ | exact lv_nil | refine lv_cons ?_ ?_)), trivial⟩
                    · exact ⟨(obR rfl rfl rfl rfl), trivial⟩) ?_
                  refine D_region ?_
                  refine DL_c (op_mv _ (rfl : _ = AV.ref _ _ _)) ?_
                  refine DL_c (op_mv _ (rfl : _ = AV.v (.int _ _))) ?_
                  refine DL_c (op_bsF _ _ inferInstance rfl (by rfl) (by simp <;> rfl) (by decide) rfl) ?_
                  refine DL_c (op_ap (59, 0) _ _ inferInstance rfl rfl (by first | rfl | omega | (simp only [isl_len, bsl_len, psl_len, mrows_len, nsl_len, ws_len, List.length_map, ul_len, psl_len, isl_len, nrows_len, prL_len]; omega) | (simp; done) | (simp; omega)) (by first | exact .nil | (refine .sl ?_; first | (simp [isl]; done) | (simp [isl]; omega)) | (refine .ref rfl rfl ?_; first | (simp; done) | (simp; omega))) (by omega) rfl (rfl) (rfl)) ?_
                  refine DL_c (op_as _ (rfl : _ = AV.ref _ _ _)) ?_
                  refine DL_nil (hK18 _ ?_)
                  clear hK18; try clear K18
                  refine D_region ?_
                  refine DL_c (op_mv _ (rfl : _ = AV.v (.int _ _))) ?_
                  refine DL_c (op_quo _ _ rfl rfl (by omega) ((i64w (by rw [Int.tdiv_eq_ediv_of_nonneg (by omega)]; omega)).trans (Int.tdiv_eq_ediv_of_nonneg (by omega)))) ?_
                  refine DL_c (op_as _ (rfl : _ = AV.v (.int _ _))) ?_
                  refine DL_nil (hK15 _ ?_)
                  clear hK15; try clear K15
                  refine D_region ?_
                  refine DL_c (op_mv _ (rfl : _ = AV.v (.int _ _))) ?_
                  first
                    | refine DL_c (op_add _ _ rfl rfl (i64w (by omega))) ?_
                    | refine DL_c (op_add _ _ rfl rfl rfl) ?_
                  refine DL_c (op_as _ (rfl : _ = AV.v (.int _ _))) ?_
                  refine DL_nil ?_
                  refine ⟨(z.1 + 1, z.2.1 ++ [(v : Int) - 1 - z.2.2 % 4], z.2.2 / 4 / 3), ?_, ?_, ?_⟩
                  · exact ⟨by simp only; omega, prK_yes hzk ⟨hg41, hg47, .inr hc55⟩, by simp only; omega, by simp only; omega, by simp; omega⟩
                  · skip
                    refine Le.keepB [((5, 0), (59, 0))] [] rfl ?_ ?_ trivial trivial (by kernel_rfl) rfl rfl rfl (fun _ => rfl) (by kernel_rfl) (fun _ => rfl)
                    · exact ⟨(by repeat' (first | exact Lv.v | exact Lv.sl | exact Lv.fp | exact lvRr (id := (5, 0)) rfl rfl | exact lvPr (id := (5, 0)) rfl | exact lvRr (id := (100, 0)) rfl rfl | exact lvPr (id := (100, 0)) rfl | exact lvRr rfl rfl | exact lvPr rfl | exact Lv.mp | exact Lv.nil | exact Lv.z | exact Lv.dead | refine Lv.agg rfl ?_ | refine Lv.fn rfl ?_ rfl ?_ | refine Lv.tup rfl ?_ | refine Lv.ifc ?_ | exact lv_nil | refine lv_cons ?_ ?_)), (lvRr (id := (100, 0)) rfl rfl), (by repeat' (first | exact Lv.v | exact Lv.sl | exact Lv.fp | exact lvRr (id := (5, 0)) rfl rfl | exact lvPr (id := (5, 0)) rfl | exact lvRr (id := (100, 0)) rfl rfl | exact lvPr (id := (100, 0)) rfl | exact lvRr rfl rfl | exact lvPr rfl | exact Lv.mp | exact Lv.nil | exact Lv.z | exact Lv.dead | refine Lv.agg rfl ?_ | refine Lv.fn rfl ?_ rfl ?_ | refine Lv.tup rfl ?_ | refine Lv.ifc ?_ | exact lv_nil | refine lv_cons ?_ ?_)), (lvI (by first | rfl | omega | (simp; done) | (simp; omega) | assumption)), (lvRr rfl (by first | rfl | omega | (simp; done) | (simp; omega) | assumption)), (lvI (by first | rfl | omega | (simp; done) | (simp; omega) | assumption)), trivial⟩
                    · exact ⟨(obR rfl rfl rfl (by simp [isl])), trivial⟩
                  · simp only; omega
                · skip
                  refine D_skip (hK18 _ ?_)
                  clear hK18; try clear K18
                  refine D_le (σ' := mkStB 67 [(0, _), (3, _), (4, _), (5, _), (6, _), (7, _)] [((5, 0), _)] ⟨(100, 0), true, 29, 3, 1000, _⟩ [] []) (by
                    refine Le.keepB [] [] rfl ?_ ?_ trivial trivial (by kernel_rfl) rfl rfl rfl (fun _ => rfl) (by kernel_rfl) (fun _ => rfl)
                    · exact ⟨(by repeat' (first | exact Lv.v | exact Lv.sl | exact Lv.fp | exact lvRr (id := (5, 0)) rfl rfl | exact lvPr (id := (5, 0)) rfl | exact lvRr (id := (100, 0)) rfl rfl | exact lvPr (id := (100, 0)) rfl | exact lvRr rfl rfl | exact lvPr rfl | exact Lv.mp | exact Lv.nil | exact Lv.z | exact Lv.dead | refine Lv.agg rfl ?_ | refine Lv.fn rfl ?_ rfl ?_ | refine Lv.tup rfl ?_ | refine Lv.ifc ?_ | exact lv_nil | refine lv_cons ?_ ?_)), (lvRr (id := (100, 0)) rfl rfl), (by repeat' (first | exact Lv.v | exact Lv.sl | exact Lv.fp | exact lvRr (id := (5, 0)) rfl rfl | exact lvPr (id := (5, 0)) rfl | exact lvRr (id := (100, 0)) rfl rfl | exact lvPr (id := (100, 0)) rfl | exact lvRr rfl rfl | exact lvPr rfl | exact Lv.mp | exact Lv.nil | exact Lv.z | exact Lv.dead | refine Lv.agg rfl ?_ | refine Lv.fn rfl ?_ rfl ?_ | refine Lv.tup rfl ?_ | refine Lv.ifc ?_ | exact lv_nil | refine lv_cons ?_ ?_)), (lvRr (id := (5, 0)) rfl rfl), (by repeat' (first | exact Lv.v | exact Lv.sl | exact Lv.fp | exact lvRr (id := (5, 0)) rfl rfl | exact lvPr (id := (5, 0)) rfl | exact lvRr (id := (100, 0)) rfl rfl | exact lvPr (id := (100, 0)) rfl | exact lvRr rfl rfl | exact lvPr rfl | exact Lv.mp | exact Lv.nil | exact Lv.z | exact Lv.dead | refine Lv.agg rfl ?_ | refine Lv.fn rfl ?_ rfl ?_ | refine Lv.tup rfl ?_ | refine Lv.ifc ?_ | exact lv_nil | refine lv_cons ?_ ?_)), (by repeat' (first | exact Lv.v | exact Lv.sl | exact Lv.fp | exact lvRr (id := (5, 0)) rfl rfl | exact lvPr (id := (5, 0)) rfl | exact lvRr (id := (100, 0)) rfl rfl | exact lvPr (id := (100, 0)) rfl | exact lvRr rfl rfl | exact lvPr rfl | exact Lv.mp | exact Lv.nil | exact Lv.z | exact Lv.dead | refine Lv.agg rfl ?_ | refine Lv.fn rfl ?_ rfl ?_ | refine Lv.tup rfl ?_ | refine Lv.ifc ?_ | exact lv_nil | refine lv_cons ?_ ?_)), trivial⟩
                    · exact ⟨(obR rfl rfl rfl rfl), trivial⟩) ?_
                  refine D_region ?_
                  refine DL_c (op_mv _ (rfl : _ = AV.v (.int _ _))) ?_
                  refine DL_c (op_quo _ _ rfl rfl (by omega) ((i64w (by rw [Int.tdiv_eq_ediv_of_nonneg (by omega)]; omega)).trans (Int.tdiv_eq_ediv_of_nonneg (by omega)))) ?_
                  refine DL_c (op_as _ (rfl : _ = AV.v (.int _ _))) ?_
                  refine DL_nil (hK15 _ ?_)
                  clear hK15; try clear K15
                  refine D_region ?_
                  refine DL_c (op_mv _ (rfl : _ = AV.v (.int _ _))) ?_
                  first
                    | refine DL_c (op_add _ _ rfl rfl (i64w (by omega))) ?_
                    | refine DL_c (op_add _ _ rfl rfl rfl) ?_
                  refine DL_c (op_as _ (rfl : _ = AV.v (.int _ _))) ?_
                  refine DL_nil ?_
                  refine ⟨(z.1 + 1, z.2.1, z.2.2 / 4 / 3), ?_, ?_, ?_⟩
                  · exact ⟨by simp only; omega, prK_no hzk (fun h => by rcases h.2.2 with h | h <;> omega), by simp only; omega, by simp only; omega, by simp only; omega⟩
                  · skip
                    refine Le.keepB [] [] rfl ?_ ?_ trivial trivial (by kernel_rfl) rfl rfl rfl (fun _ => rfl) (by kernel_rfl) (fun _ => rfl)
                    · exact ⟨(by repeat' (first | exact Lv.v | exact Lv.sl | exact Lv.fp | exact lvRr (id := (5, 0)) rfl rfl | exact lvPr (id := (5, 0)) rfl | exact lvRr (id := (100, 0)) rfl rfl | exact lvPr (id := (100, 0)) rfl | exact lvRr rfl rfl | exact lvPr rfl | exact Lv.mp | exact Lv.nil | exact Lv.z | exact Lv.dead | refine Lv.agg rfl ?_ | refine Lv.fn rfl ?_ rfl ?_ | refine Lv.tup rfl ?_ | refine Lv.ifc ?_ | exact lv_nil | refine lv_cons ?_ ?_)), (lvRr (id := (100, 0)) rfl rfl), (by repeat' (first | exact Lv.v | exact Lv.sl | exact Lv.fp | exact lvRr (id := (5, 0)) rfl rfl | exact lvPr (id := (5, 0)) rfl | exact lvRr (id := (100, 0)) rfl rfl | exact lvPr (id := (100, 0)) rfl | exact lvRr rfl rfl | exact lvPr rfl | exact Lv.mp | exact Lv.nil | exact Lv.z | exact Lv.dead | refine Lv.agg rfl ?_ | refine Lv.fn rfl ?_ rfl ?_ | refine Lv.tup rfl ?_ | refine Lv.ifc ?_ | exact lv_nil | refine lv_cons ?_ ?_)), (lvI (by first | rfl | omega | (simp; done) | (simp; omega) | assumption)), (lvRr rfl (by first | rfl | omega | (simp; done) | (simp; omega) | assumption)), (lvI (by first | rfl | omega | (simp; done) | (simp; omega) | assumption)), trivial⟩
                    · exact ⟨(obR rfl rfl rfl (by first | rfl | omega | (simp; done) | (simp; omega) | assumption)), trivial⟩
                  · simp only; omega
            · skip
              refine DL_cn rfl rfl (by decide) ?_
              refine DL_cn rfl rfl (by decide) ?_
              refine DL_cn rfl rfl (by decide) ?_
              refine DL_cu rfl rfl ?_
              refine DL_cu rfl rfl ?_
              refine DL_cu rfl rfl ?_
              refine DL_cn rfl rfl (by decide) ?_
              refine DL_c (op_pick _ _ _ rfl (rfl : _ = AV.v (.bool _))) ?_
              refine DL_nil (hK19 _ ?_)
              clear hK19; try clear K19
              refine D_cF rfl rfl ?_
              refine D_skip (hK18 _ ?_)
              clear hK18; try clear K18
              refine D_le (σ' := mkStB 67 [(0, _), (3, _), (4, _), (5, _), (6, _), (7, _)] [((5, 0), _)] ⟨(100, 0), true, 29, 3, 1000, _⟩ [] []) (by
                refine Le.keepB [] [] rfl ?_ ?_ trivial trivial (by kernel_rfl) rfl rfl rfl (fun _ => rfl) (by kernel_rfl) (fun _ => rfl)
                · exact ⟨(by repeat' (first | exact Lv.v | exact Lv.sl | exact Lv.fp | exact lvRr (id := (5, 0)) rfl rfl | exact lvPr (id := (5, 0)) rfl | exact lvRr (id := (100, 0)) rfl rfl | exact lvPr (id := (100, 0)) rfl | exact lvRr rfl rfl | exact lvPr rfl | exact Lv.mp | exact Lv.nil | exact Lv.z | exact Lv.dead | refine Lv.agg rfl ?_ | refine Lv.fn rfl ?_ rfl ?_ | refine Lv.tup rfl ?_ | refine Lv.ifc ?_ | exact lv_nil | refine lv_cons ?_ ?_)), (lvRr (id := (100, 0)) rfl rfl), (by repeat' (first | exact Lv.v | exact Lv.sl | exact Lv.fp | exact lvRr (id := (5, 0)) rfl rfl | exact lvPr (id := (5, 0)) rfl | exact lvRr (id := (100, 0)) rfl rfl | exact lvPr (id := (100, 0)) rfl | exact lvRr rfl rfl | exact lvPr rfl | exact Lv.mp | exact Lv.nil | exact Lv.z | exact Lv.dead | refine Lv.agg rfl ?_ | refine Lv.fn rfl ?_ rfl ?_ | refine Lv.tup rfl ?_ | refine Lv.ifc ?_ | exact lv_nil | refine lv_cons ?_ ?_)), (lvRr (id := (5, 0)) rfl rfl), (by repeat' (first | exact Lv.v | exact Lv.sl | exact Lv.fp | exact lvRr (id := (5, 0)) rfl rfl | exact lvPr (id := (5, 0)) rfl | exact lvRr (id := (100, 0)) rfl rfl | exact lvPr (id := (100, 0)) rfl | exact lvRr rfl rfl | exact lvPr rfl | exact Lv.mp | exact Lv.nil | exact Lv.z | exact Lv.dead | refine Lv.agg rfl ?_ | refine Lv.fn rfl ?_ rfl ?_ | refine Lv.tup rfl ?_ | refine Lv.ifc ?_ | exact lv_nil | refine lv_cons ?_ ?_)), (by repeat' (first | exact Lv.v | exact Lv.sl | exact Lv.fp | exact lvRr (id := (5, 0)) rfl rfl | exact lvPr (id := (5, 0)) rfl | exact lvRr (id := (100, 0)) rfl rfl | exact lvPr (id := (100, 0)) rfl | exact lvRr rfl rfl | exact lvPr rfl | exact Lv.mp | exact Lv.nil | exact Lv.z | exact Lv.dead | refine Lv.agg rfl ?_ | refine Lv.fn rfl ?_ rfl ?_ | refine Lv.tup rfl ?_ | refine Lv.ifc ?_ | exact lv_nil | refine lv_cons ?_ ?_)), trivial⟩
                · exact ⟨(obR rfl rfl rfl rfl), trivial⟩) ?_
              refine D_region ?_
              refine DL_c (op_mv _ (rfl : _ = AV.v (.int _ _))) ?_
              refine DL_c (op_quo _ _ rfl rfl (by omega) ((i64w (by rw [Int.tdiv_eq_ediv_of_nonneg (by omega)]; omega)).trans (Int.tdiv_eq_ediv_of_nonneg (by omega)))) ?_
              refine DL_c (op_as _ (rfl : _ = AV.v (.int _ _))) ?_
              refine DL_nil (hK15 _ ?_)
              clear hK15; try clear K15
              refine D_region ?_
              refine DL_c (op_mv _ (rfl : _ = AV.v (.int _ _))) ?_
              first
                | refine DL_c (op_add _ _ rfl rfl (i64w (by omega))) ?_
                | refine DL_c (op_add _ _ rfl rfl rfl) ?_
              refine DL_c (op_as _ (rfl : _ = AV.v (.int _ _))) ?_
              refine DL_nil ?_
              refine ⟨(z.1 + 1, z.2.1, z.2.2 / 4 / 3), ?_, ?_, ?_⟩
              · exact ⟨by simp only; omega, prK_no hzk (fun h => h.2.1 hg47), by simp only; omega, by simp only; omega, by simp only; omega⟩
              · skip
                refine Le.keepB [] [] rfl ?_ ?_ trivial trivial (by kernel_rfl) rfl rfl rfl (fun _ => rfl) (by kernel_rfl) (fun _ => rfl)
                · exact ⟨(by repeat' (first | exact Lv.v | exact Lv.sl | exact Lv.fp | exact lvRr (id := (5, 0)) rfl rfl | exact lvPr (id := (5, 0)) rfl | exact lvRr (id := (100, 0)) rfl rfl | exact lvPr (id := (100, 0)) rfl | exact lvRr rfl rfl | exact lvPr rfl | exact Lv.mp | exact Lv.nil | exact Lv.z | exact Lv.dead | refine Lv.agg rfl ?_ | refine Lv.fn rfl ?_ rfl ?_ | refine Lv.tup rfl ?_ | refine Lv.ifc ?_ | exact lv_nil | refine lv_cons ?_ ?_)), (lvRr (id := (100, 0)) rfl rfl), (by repeat' (first | exact Lv.v | exact Lv.sl | exact Lv.fp | exact lvRr (id := (5, 0)) rfl rfl | exact lvPr (id := (5, 0)) rfl | exact lvRr (id := (100, 0)) rfl rfl | exact lvPr (id := (100, 0)) rfl | exact lvRr rfl rfl | exact lvPr rfl | exact Lv.mp | exact Lv.nil | exact Lv.z | exact Lv.dead | refine Lv.agg rfl ?_ | refine Lv.fn rfl ?_ rfl ?_ | refine Lv.tup rfl ?_ | refine Lv.ifc ?_ | exact lv_nil | refine lv_cons ?_ ?_)), (lvI (by first | rfl | omega | (simp; done) | (simp; omega) | assumption)), (lvRr rfl (by first | rfl | omega | (simp; done) | (simp; omega) | assumption)), (lvI (by first | rfl | omega | (simp; done) | (simp; omega) | assumption)), trivial⟩
                · exact ⟨(obR rfl rfl rfl (by first | rfl | omega | (simp; done) | (simp; omega) | assumption)), trivial⟩
              · simp only; omega
          · skip
            refine DL_cn rfl rfl (by decide) ?_
            refine DL_cn rfl rfl (by decide) ?_
            refine DL_cn rfl rfl (by decide) ?_
            refine DL_cn rfl rfl (by decide) ?_
            refine DL_c (op_pick _ _ _ rfl (rfl : _ = AV.v (.bool _))) ?_
            refine DL_c (op_mv _ (rfl : _ = AV.v (.bool _))) ?_
            refine DL_cn rfl rfl (by decide) ?_
            refine DL_cn rfl rfl (by decide) ?_
            refine DL_cn rfl rfl (by decide) ?_
            refine DL_cu rfl rfl ?_
            refine DL_cu rfl rfl ?_
            refine DL_cu rfl rfl ?_
            refine DL_cn rfl rfl (by decide) ?_
            refine DL_c (op_pick _ _ _ rfl (rfl : _ = AV.v (.bool _))) ?_
            refine DL_nil (hK19 _ ?_)
            clear hK19; try clear K19
            refine D_cF rfl rfl ?_
            refine D_skip (hK18 _ ?_)
            clear hK18; try clear K18
            refine D_le (σ' := mkStB 67 [(0, _), (3, _), (4, _), (5, _), (6, _), (7, _)] [((5, 0), _)] ⟨(100, 0), true, 29, 3, 1000, _⟩ [] []) (by
              refine Le.keepB [] [] rfl ?_ ?_ trivial trivial (by kernel_rfl) rfl rfl rfl (fun _ => rfl) (by kernel_rfl) (fun _ => rfl)
              · exact ⟨(by repeat' (first | exact Lv.v | exact Lv.sl | exact Lv.fp | exact lvRr (id := (5, 0)) rfl rfl | exact lvPr (id := (5, 0)) rfl | exact lvRr (id := (100, 0)) rfl rfl | exact lvPr (id := (100, 0)) rfl | exact lvRr rfl rfl | exact lvPr rfl | exact Lv.mp | exact Lv.nil | exact Lv.z | exact Lv.dead | refine Lv.agg rfl ?_ | refine Lv.fn rfl ?_ rfl ?_ | refine Lv.tup rfl ?_ | refine Lv.ifc ?_ | exact lv_nil | refine lv_cons ?_ ?_)), (lvRr (id := (100, 0)) rfl rfl), (by repeat' (first | exact Lv.v | exact Lv.sl | exact Lv.fp | exact lvRr (id := (5, 0)) rfl rfl | exact lvPr (id := (5, 0)) rfl | exact lvRr (id := (100, 0)) rfl rfl | exact lvPr (id := (100, 0)) rfl | exact lvRr rfl rfl | exact lvPr rfl | exact Lv.mp | exact Lv.nil | exact Lv.z | exact Lv.dead | refine Lv.agg rfl ?_ | refine Lv.fn rfl ?_ rfl ?_ | refine Lv.tup rfl ?_ | refine Lv.ifc ?_ | exact lv_nil | refine lv_cons ?_ ?_)), (lvRr (id := (5, 0)) rfl rfl), (by repeat' (first | exact Lv.v | exact Lv.sl | exact Lv.fp | exact lvRr (id := (5, 0)) rfl rfl | exact lvPr (id := (5, 0)) rfl | exact lvRr (id := (100, 0)) rfl rfl | exact lvPr (id := (100, 0)) rfl | exact lvRr rfl rfl | exact lvPr rfl | exact Lv.mp | exact Lv.nil | exact Lv.z | exact Lv.dead | refine Lv.agg rfl ?_ | refine Lv.fn rfl ?_ rfl ?_ | refine Lv.tup rfl ?_ | refine Lv.ifc ?_ | exact lv_nil | refine lv_cons ?_ ?_)), (by repeat' (first | exact Lv.v | exact Lv.sl | exact Lv.fp | exact lvRr (id := (5, 0)) rfl rfl | exact lvPr (id := (5, 0)) rfl | exact lvRr (id := (100, 0)) rfl rfl | exact lvPr (id := (100, 0)) rfl | exact lvRr rfl rfl | exact lvPr rfl | exact Lv.mp | exact Lv.nil | exact Lv.z | exact Lv.dead | refine Lv.agg rfl ?_ | refine Lv.fn rfl ?_ rfl ?_ | refine Lv.tup rfl ?_ | refine Lv.ifc ?_ | exact lv_nil | refine lv_cons ?_ ?_)), trivial⟩
              · exact ⟨(obR rfl rfl rfl rfl), trivial⟩) ?_
            refine D_region ?_
            refine DL_c (op_mv _ (rfl : _ = AV.v (.int _ _))) ?_
            refine DL_c (op_quo _ _ rfl rfl (by omega) ((i64w (by rw [Int.tdiv_eq_ediv_of_nonneg (by omega)]; omega)).trans (Int.tdiv_eq_ediv_of_nonneg (by omega)))) ?_
            refine DL_c (op_as _ (rfl : _ = AV.v (.int _ _))) ?_
            refine DL_nil (hK15 _ ?_)
            clear hK15; try clear K15
            refine D_region ?_
            refine DL_c (op_mv _ (rfl : _ = AV.v (.int _ _))) ?_
            first
              | refine DL_c (op_add _ _ rfl rfl (i64w (by omega))) ?_
              | refine DL_c (op_add _ _ rfl rfl rfl) ?_
            refine DL_c (op_as _ (rfl : _ = AV.v (.int _ _))) ?_
            refine DL_nil ?_
            refine ⟨(z.1 + 1, z.2.1, z.2.2 / 4 / 3), ?_, ?_, ?_⟩
            · exact ⟨by simp only; omega, prK_no hzk (fun h => by have := h.1; omega), by simp only; omega, by simp only; omega, by simp only; omega⟩
            · skip
              refine Le.keepB [] [] rfl ?_ ?_ trivial trivial (by kernel_rfl) rfl rfl rfl (fun _ => rfl) (by kernel_rfl) (fun _ => rfl)
              · exact ⟨(by repeat' (first | exact Lv.v | exact Lv.sl | exact Lv.fp | exact lvRr (id := (5, 0)) rfl rfl | exact lvPr (id := (5, 0)) rfl | exact lvRr (id := (100, 0)) rfl rfl | exact lvPr (id := (100, 0)) rfl | exact lvRr rfl rfl | exact lvPr rfl | exact Lv.mp | exact Lv.nil | exact Lv.z | exact Lv.dead | refine Lv.agg rfl ?_ | refine Lv.fn rfl ?_ rfl ?_ | refine Lv.tup rfl ?_ | refine Lv.ifc ?_ | exact lv_nil | refine lv_cons ?_ ?_)), (lvRr (id := (100, 0)) rfl rfl), (by repeat' (first | exact Lv.v | exact Lv.sl | exact Lv.fp | exact lvRr (id := (5, 0)) rfl rfl | exact lvPr (id := (5, 0)) rfl | exact lvRr (id := (100, 0)) rfl rfl | exact lvPr (id := (100, 0)) rfl | exact lvRr rfl rfl | exact lvPr rfl | exact Lv.mp | exact Lv.nil | exact Lv.z | exact Lv.dead | refine Lv.agg rfl ?_ | refine Lv.fn rfl ?_ rfl ?_ | refine Lv.tup rfl ?_ | refine Lv.ifc ?_ | exact lv_nil | refine lv_cons ?_ ?_)), (lvI (by first | rfl | omega | (simp; done) | (simp; omega) | assumption)), (lvRr rfl (by first | rfl | omega | (simp; done) | (simp; omega) | assumption)), (lvI (by first | rfl | omega | (simp; done) | (simp; omega) | assumption)), trivial⟩
              · exact ⟨(obR rfl rfl rfl (by first | rfl | omega | (simp; done) | (simp; omega) | assumption)), trivial⟩
            · simp only; omega
        · skip
          have hpz : pr1 l v = z.2.1 := by rw [hp1, ← (by omega : z.1 = 3), hzk]
          have hnx : (prL l (v + 1)).map isl = (prL l v).map isl ++ [isl z.2.1] := by rw [prL_succ, hpz, List.map_append]; rfl
          refine D_exit ?_
          refine id (hK9 _ ?_)
          clear hK9; try clear K9
          refine D_region ?_
          refine DL_c (op_mv _ (rfl : _ = AV.ref _ _ _)) ?_
          refine DL_c (op_mv _ (rfl : _ = AV.ref _ _ _)) ?_
          refine DL_c (op_bsB (64, 0) 1 _ inferInstance (r := [[.ref (5, 0) 0 _]]) rfl rfl (by simp) (by decide) (by decide) rfl rfl) ?_
          refine DL_c (op_apA (65, 0) _ _ inferInstance rfl rfl (by first | (simp only [Bun.cells_len, isl_len, bsl_len, psl_len, mrows_len, nsl_len, ws_len, List.length_map, ul_len, psl_len, isl_len, nrows_len, prL_len, List.length_cons, List.length_nil]; omega) | (simp [Bun.cells_len]; done) | (simp [Bun.cells_len]; omega)) rfl rfl rfl (by omega) rfl rfl rfl rfl rfl) ?_
          refine DL_c (op_as _ (rfl : _ = AV.ref _ _ _)) ?_
          refine DL_nil (hK7 _ ?_)
          clear hK7; try clear K7
          refine D_region ?_
          refine DL_c (op_mv _ (rfl : _ = AV.v (.int _ _))) ?_
          first
            | refine DL_c (op_add _ _ rfl rfl (i64w (by omega))) ?_
            | refine DL_c (op_add _ _ rfl rfl rfl) ?_
          refine DL_c (op_as _ (rfl : _ = AV.v (.int _ _))) ?_
          refine DL_nil ?_
          refine ⟨v + 1, ?_, ?_, ?_⟩
          · first | omega | trivial | exact ⟨by omega, by omega⟩
          · skip
            refine Le.pushB (5, 0) [((100, 0), (65, 0))] [] (k := v) ?_ rfl ?_ ?_ trivial trivial (by kernel_rfl) (by kernel_rfl) ?_ ?_ rfl rfl rfl rfl (fun _ => rfl) (by kernel_rfl) (fun _ => rfl)
            · first | exact hnx | (simp; done) | (simp; omega)
            · exact ⟨(by repeat' (first | exact Lv.v | exact Lv.sl | exact Lv.fp | exact lvRr (id := (5, 0)) rfl rfl | exact lvPr (id := (5, 0)) rfl | exact lvRr (id := (64, 0)) rfl rfl | exact lvPr (id := (64, 0)) rfl | exact lvRr (id := (100, 0)) rfl rfl | exact lvPr (id := (100, 0)) rfl | exact lvRr rfl rfl | exact lvPr rfl | exact Lv.mp | exact Lv.nil | exact Lv.z | exact Lv.dead | refine Lv.agg rfl ?_ | refine Lv.fn rfl ?_ rfl ?_ | refine Lv.tup rfl ?_ | refine Lv.ifc ?_ | exact lv_nil | refine lv_cons ?_ ?_)), (lvI (by first | rfl | omega | (simp; done) | (simp; omega) | assumption)), (lvRr rfl (by first | rfl | omega | (simp; done) | (simp; omega) | assumption)), trivial⟩
            · exact trivial
            · first | exact hnx | (simp; done) | (simp; omega)
            · first | exact hnx | (simp; done) | (simp; omega)
          · omega
      · skip
        have hnx : (prL l (v + 1)).map isl = (prL l v).map isl ++ [isl []] := by rw [prL_succ, show pr1 l v = [] from if_neg (by omega), List.map_append]; rfl
        refine D_skip (hK9 _ ?_)
        clear hK9; try clear K9
        refine D_region ?_
        refine DL_c (op_mv _ (rfl : _ = AV.ref _ _ _)) ?_
        refine DL_c (op_mv _ (rfl : _ = AV.ref _ _ _)) ?_
        refine DL_c (op_bsB (64, 0) 1 _ inferInstance (r := [[.ref (5, 0) 0 _]]) rfl rfl (by simp) (by decide) (by decide) rfl rfl) ?_
        refine DL_c (op_apA (65, 0) _ _ inferInstance rfl rfl (by first | (simp only [Bun.cells_len, isl_len, bsl_len, psl_len, mrows_len, nsl_len, ws_len, List.length_map, ul_len, psl_len, isl_len, nrows_len, prL_len, List.length_cons, List.length_nil]; omega) | (simp [Bun.cells_len]; done) | (simp [Bun.cells_len]; omega)) rfl rfl rfl (by omega) rfl rfl rfl rfl rfl) ?_
        refine DL_c (op_as _ (rfl : _ = AV.ref _ _ _)) ?_
        refine DL_nil (hK7 _ ?_)
        clear hK7; try clear K7
        refine D_region ?_
        refine DL_c (op_mv _ (rfl : _ = AV.v (.int _ _))) ?_
        first
          | refine DL_c (op_add _ _ rfl rfl (i64w (by omega))) ?_
          | refine DL_c (op_add _ _ rfl rfl rfl) ?_
        refine DL_c (op_as _ (rfl : _ = AV.v (.int _ _))) ?_
        refine DL_nil ?_
        refine ⟨v + 1, ?_, ?_, ?_⟩
        · first | omega | trivial | exact ⟨by omega, by omega⟩
        · skip
          refine Le.pushB (5, 0) [((100, 0), (65, 0))] [] (k := v) ?_ rfl ?_ ?_ trivial trivial (by kernel_rfl) (by kernel_rfl) ?_ ?_ rfl rfl rfl rfl (fun _ => rfl) (by kernel_rfl) (fun _ => rfl)
          · first | exact hnx | (simp; done) | (simp; omega)
          · exact ⟨(by repeat' (first | exact Lv.v | exact Lv.sl | exact Lv.fp | exact lvRr (id := (5, 0)) rfl rfl | exact lvPr (id := (5, 0)) rfl | exact lvRr (id := (64, 0)) rfl rfl | exact lvPr (id := (64, 0)) rfl | exact lvRr (id := (100, 0)) rfl rfl | exact lvPr (id := (100, 0)) rfl | exact lvRr rfl rfl | exact lvPr rfl | exact Lv.mp | exact Lv.nil | exact Lv.z | exact Lv.dead | refine Lv.agg rfl ?_ | refine Lv.fn rfl ?_ rfl ?_ | refine Lv.tup rfl ?_ | refine Lv.ifc ?_ | exact lv_nil | refine lv_cons ?_ ?_)), (lvI (by first | rfl | omega | (simp; done) | (simp; omega) | assumption)), (lvRr rfl (by first | rfl | omega | (simp; done) | (simp; omega) | assumption)), trivial⟩
          · exact trivial
          · first | exact hnx | (simp; done) | (simp; omega)
          · first | exact hnx | (simp; done) | (simp; omega)
        · omega
    · skip
      obtain rfl : v = prM l := by unfold prM; omega
      refine D_exit ?_
      refine id (hK3 _ ?_)
      clear hK3; try clear K3
      refine D_seq fun K20 hK20 => ?_
      refine D_region ?_
      refine DL_c (op_mv _ (rfl : _ = AV.ref _ _ _)) ?_
      refine DL_c (op_as _ (rfl : _ = AV.ref _ _ _)) ?_
      refine DL_nil (hK20 _ ?_)
      clear hK20; try clear K20
      refine D_ret ?_
      exact ret1 (.inr rfl) rfl (.tmp (rfl : _ = AV.ref _ _ _)) (Le.keepB [((100, 0), (100, 0))] [] rfl ⟨lvRr rfl rfl, trivial⟩ trivial trivial trivial (by kernel_rfl) rfl rfl rfl (fun _ => rfl) (by kernel_rfl) (fun _ => rfl))
  · skip
    obtain rfl : v = prM l := by unfold prM; omega
    refine DL_cn rfl rfl (by decide) ?_
    refine DL_cn rfl rfl (by decide) ?_
    refine DL_cn rfl rfl (by decide) ?_
    refine DL_cn rfl rfl (by decide) ?_
    refine DL_cn rfl rfl (by decide) ?_
    refine DL_c (op_pick _ _ _ rfl (rfl : _ = AV.v (.bool _))) ?_
    refine DL_nil (hK6 _ ?_)
    clear hK6; try clear K6
    refine D_cF rfl rfl ?_
    refine D_exit ?_
    refine id (hK3 _ ?_)
    clear hK3; try clear K3
    refine D_seq fun K21 hK21 => ?_
    refine D_region ?_
    refine DL_c (op_mv _ (rfl : _ = AV.ref _ _ _)) ?_
    refine DL_c (op_as _ (rfl : _ = AV.ref _ _ _)) ?_
    refine DL_nil (hK21 _ ?_)
    clear hK21; try clear K21
    refine D_ret ?_
    exact ret1 (.inr rfl) rfl (.tmp (rfl : _ = AV.ref _ _ _)) (Le.keepB [((100, 0), (100, 0))] [] rfl ⟨lvRr rfl rfl, trivial⟩ trivial trivial trivial (by kernel_rfl) rfl rfl rfl (fun _ => rfl) (by kernel_rfl) (fun _ => rfl))
end Go.Proofs.Ytkbkmngbenohkaa
