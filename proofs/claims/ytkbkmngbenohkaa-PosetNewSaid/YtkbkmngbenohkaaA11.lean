/- The reference's Down, Pairs; Ints, by the machine. -/
import Derived.Test.YtkbkmngbenohkaaA10
set_option linter.unusedSimpArgs false
set_option linter.unusedVariables false
namespace Go.Proofs.Ytkbkmngbenohkaa
open Go.RowKit

theorem any_take_succ {p : Int → Bool} {l : List Int} {i : Nat} (h : i < l.length) : (l.take (i + 1)).any p = ((l.take i).any p || p (l.getD i 0)) := by
  rw [List.take_add_one, List.getElem?_eq_getElem h, List.any_append]
  simp [List.getD_eq_getElem?_getD, h]
theorem rdown_spec (n : Nat) (M : List (List Bool)) (hM : Mat n M) (m : Nat) (l : List Int) (hm : l.length = m) (h1 : m ≤ 4611686018427387904) :
    Spec Try.prog 41 (inSt [.agg (rord n M), .sl m (isl l)] []) (outSt (.sl (downA n (mlt M) l n).length (nsl (downA n (mlt M) l n))) []) := by
  have hle := hM.le
  refine Spec.ofN Try.func41 rfl Try.ntmps41 rfl ?_
  refine D_seq fun K1 hK1 => ?_
  refine D_region ?_
  refine DL_c (op_box (2, 0) _ rfl rfl) ?_
  first
    | refine DL_c (op_as _ (rfl : _ = AV.sl _ _)) ?_
    | refine DL_c (op_as _ (rfl : _ = AV.ref _ _ _)) ?_
    | refine DL_c (op_as _ (rfl : _ = AV.v (.slice _ _ _))) ?_
    | refine DL_c (op_as _ (rfl : _ = AV.z)) ?_
  refine DL_nil (hK1 _ ?_)
  clear hK1; try clear K1
  refine D_seq fun K2 hK2 => ?_
  refine D_region ?_
  refine DL_c (op_asN (5, 0) _ 3 1 rfl rfl) ?_
  refine DL_nil (hK2 _ ?_)
  clear hK2; try clear K2
  refine D_seq fun K3 hK3 => ?_
  refine D_seq fun K4 hK4 => ?_
  refine D_region ?_
  refine DL_c (op_as _ (rfl : _ = AV.v (.int _ _))) ?_
  refine DL_nil (hK4 _ ?_)
  clear hK4; try clear K4
  refine D_block ?_
  refine D_loopL (α := Nat) (fun a => a ≤ n) 45 [(1, _), (2, _)] [((2, 0), _)] (fun a => [(6, .v (.int .i64 (a : Int))), (5, .ref (5, 0) 0 (downA n (mlt M) l a).length)]) (fun a => [((5, 0), .row 3 1 (nsl (downA n (mlt M) l a)))]) [] [] (fun a => n - a) 0 ?_ (by
    refine Le.mkJ [] [] rfl ?_ ?_ trivial trivial ?_
    · exact ⟨(iS rfl), (iP rfl), (lvI (by first | rfl | omega | (simp; done) | (simp; omega) | assumption)), (lvRr rfl (by first | rfl | omega | (simp; done) | (simp; omega) | assumption)), trivial⟩
    · exact ⟨(obE rfl rfl rfl), (obR rfl rfl rfl (by first | rfl | omega | (simp; done) | (simp; omega) | assumption)), trivial⟩
    · kernel_rfl) ?_
  · first | omega | trivial | exact ⟨by omega, by omega⟩
  intro a ha
  refine D_seq fun K5 hK5 => ?_
  refine D_seq fun K6 hK6 => ?_
  refine D_region ?_
  refine DL_c (op_mv _ (rfl : _ = AV.v (.int _ _))) ?_
  first
    | refine DL_c (op_fldP _ inferInstance rfl rfl rfl) ?_
    | refine DL_c (op_fldF _ inferInstance rfl rfl) ?_
  first
    | refine DL_c (op_ldB _ inferInstance rfl rfl (rfl : _ = some (AV.v (.int _ _)))) ?_
    | refine DL_c (op_ldR _ inferInstance rfl rfl (by first | rfl | exact isl_get _ _ (by omega) | exact bsl_get _ _ (by omega) | assumption | exact mrows_get _ _ (by omega) | exact nsl_get _ _ (by omega)) rfl) ?_
  first
    | refine DL_c (op_lss _ _ rfl rfl (by assumption)) ?_
    | refine DL_c (op_lss _ _ rfl rfl rfl) ?_
  refine DL_nil (hK6 _ ?_)
  clear hK6; try clear K6
  refine D_splitC rfl (fun hc12 => ?_) (fun hc12 => ?_)
  · skip
    have hdl := downA_len n (mlt M) l a
    refine D_skip (hK5 _ ?_)
    clear hK5; try clear K5
    refine D_seq fun K7 hK7 => ?_
    refine D_block ?_
    refine D_seq fun K8 hK8 => ?_
    refine D_region ?_
    refine DL_c (op_as _ (rfl : _ = AV.v (.bool _))) ?_
    refine DL_nil (hK8 _ ?_)
    clear hK8; try clear K8
    refine D_seq fun K9 hK9 => ?_
    refine D_seq fun K10 hK10 => ?_
    refine D_region ?_
    refine DL_c (op_as _ (rfl : _ = AV.v (.int _ _))) ?_
    refine DL_nil (hK10 _ ?_)
    clear hK10; try clear K10
    refine D_block ?_
    refine D_loopL (α := Nat) (fun i => i ≤ m) 45 [(1, _), (2, _), (5, _), (6, _)] [((2, 0), _), ((5, 0), _)] (fun i => [(8, .v (.int .i64 (i : Int))), (7, .v (.bool ((l.take i).any fun x => (a : Int) == x || rless n (mlt M) (a : Int) x)))]) (fun i => []) [] [] (fun i => m - i) 0 ?_ (by
      refine Le.mkJ [] [] rfl ?_ ?_ trivial trivial ?_
      · exact ⟨(iS rfl), (iP rfl), (iR rfl), (iV rfl), (lvI (by first | rfl | omega | (simp; done) | (simp; omega) | assumption)), (lvB (by first | rfl | omega | (simp; done) | (simp; omega) | assumption)), trivial⟩
      · exact ⟨(obE rfl rfl rfl), (obE rfl rfl rfl), trivial⟩
      · kernel_rfl) ?_
    · first | omega | trivial | exact ⟨by omega, by omega⟩
    intro i hi
    refine D_seq fun K11 hK11 => ?_
    refine D_seq fun K12 hK12 => ?_
    refine D_region ?_
    refine DL_c (op_mv _ (rfl : _ = AV.v (.int _ _))) ?_
    refine DL_c (op_mv _ (rfl : _ = AV.sl _ _)) ?_
    refine DL_c (op_lenS _ inferInstance rfl) ?_
    first
      | refine DL_c (op_lss _ _ rfl rfl (by assumption)) ?_
      | refine DL_c (op_lss _ _ rfl rfl rfl) ?_
    refine DL_nil (hK12 _ ?_)
    clear hK12; try clear K12
    refine D_splitC rfl (fun hc18 => ?_) (fun hc18 => ?_)
    · skip
      refine D_skip (hK11 _ ?_)
      clear hK11; try clear K11
      refine D_seq fun K13 hK13 => ?_
      refine D_block ?_
      refine D_le (σ' := mkStI 45 [(1, _), (2, _), (5, _), (6, _), (7, _), (8, _)] [((2, 0), _), ((5, 0), _)] [] []) (by
        refine Le.mkJ [] [] rfl ?_ ?_ trivial trivial ?_
        · exact ⟨(iS rfl), (iP rfl), (iR rfl), (iV rfl), (iV rfl), (iV rfl), trivial⟩
        · exact ⟨(obE rfl rfl rfl), (obE rfl rfl rfl), trivial⟩
        · kernel_rfl) ?_
      refine D_anyL 18 [21, 22, 23, 24, 25, 26, 27, 28, 29, 30, 31, 32, 33, 34, 35, 36, 37, 38] [] (by kernel_rfl) (by kernel_rfl) rfl (nodupO_iff rfl) (rfl : _ = [_, _, _, _, _, _, _, _, _, _, _, _, _, _, _, _, _, _]) (rfl : _ = [_]) ?_
      refine any_c (_, []) (fun τ => op_mv _ (rfl : _ = AV.v (.bool _))) ?_
      refine any_n (rfl : _ = [_]) ?_
      refine any_c (_, []) (fun τ => op_mv _ (rfl : _ = AV.v (.bool _))) ?_
      refine any_caseC (fun hg22 => ?_) (fun hg22 => ?_)
      · skip
        refine any_n (rfl : _ = [_, _]) ?_
        refine any_cn rfl (fun τ => rfl) (by decide) ?_
        refine any_n (rfl : _ = [_, _, _]) ?_
        refine any_cn rfl (fun τ => rfl) (by decide) ?_
        refine any_n (rfl : _ = [_, _, _, _]) ?_
        refine any_cn rfl (fun τ => rfl) (by decide) ?_
        refine any_n (rfl : _ = [_, _, _, _, _]) ?_
        refine any_cn rfl (fun τ => rfl) (by decide) ?_
        refine any_n (rfl : _ = [_, _, _, _, _, _]) ?_
        refine any_cn rfl (fun τ => rfl) (by decide) ?_
        refine any_n (rfl : _ = [_, _, _, _, _, _, _]) ?_
        refine any_cn rfl (fun τ => rfl) (by decide) ?_
        refine any_n (rfl : _ = [_, _, _, _, _, _, _, _]) ?_
        refine any_c (_, []) (fun τ => op_pick _ _ _ rfl (rfl : _ = AV.v (.bool _))) ?_
        refine any_n (rfl : _ = [_, _, _, _, _, _, _, _, _]) ?_
        refine any_c (_, []) (fun τ => op_mv _ (rfl : _ = AV.v (.bool _))) ?_
        refine any_n (rfl : _ = [_, _, _, _, _, _, _, _, _, _]) ?_
        refine any_cn rfl (fun τ => rfl) (by decide) ?_
        refine any_n (rfl : _ = [_, _, _, _, _, _, _, _, _, _, _]) ?_
        refine any_cn rfl (fun τ => rfl) (by decide) ?_
        refine any_n (rfl : _ = [_, _, _, _, _, _, _, _, _, _, _, _]) ?_
        refine any_cn rfl (fun τ => rfl) (by decide) ?_
        refine any_n (rfl : _ = [_, _, _, _, _, _, _, _, _, _, _, _, _]) ?_
        refine any_cn rfl (fun τ => rfl) (by decide) ?_
        refine any_n (rfl : _ = [_, _, _, _, _, _, _, _, _, _, _, _, _, _]) ?_
        refine any_cn rfl (fun τ => rfl) (by decide) ?_
        refine any_n (rfl : _ = [_, _, _, _, _, _, _, _, _, _, _, _, _, _, _]) ?_
        refine any_cn rfl (fun τ => rfl) (by decide) ?_
        refine any_n (rfl : _ = [_, _, _, _, _, _, _, _, _, _, _, _, _, _, _, _]) ?_
        refine any_cn rfl (fun τ => rfl) (by decide) ?_
        refine any_n (rfl : _ = [_, _, _, _, _, _, _, _, _, _, _, _, _, _, _, _, _]) ?_
        refine any_c (_, []) (fun τ => op_pick _ _ _ rfl (rfl : _ = AV.v (.bool _))) ?_
        refine any_n (rfl : _ = [_, _, _, _, _, _, _, _, _, _, _, _, _, _, _, _, _, _]) ?_
        refine any_end ⟨rfl, ?_⟩
        refine DL_c (op_as _ (rfl : _ = AV.v (.bool _))) ?_
        refine DL_nil (hK13 _ ?_)
        clear hK13; try clear K13
        refine D_le (σ' := mkStI 45 [(1, _), (2, _), (5, _), (6, _), (7, _), (8, _)] [((2, 0), _), ((5, 0), _)] [] []) (by
          refine Le.mkJ [] [] rfl ?_ ?_ trivial trivial ?_
          · exact ⟨(iS rfl), (iP rfl), (iR rfl), (iV rfl), (iV rfl), (iV rfl), trivial⟩
          · exact ⟨(obE rfl rfl rfl), (obE rfl rfl rfl), trivial⟩
          · kernel_rfl) ?_
        refine D_region ?_
        refine DL_c (op_mv _ (rfl : _ = AV.v (.int _ _))) ?_
        first
          | refine DL_c (op_add _ _ rfl rfl (i64w (by omega))) ?_
          | refine DL_c (op_add _ _ rfl rfl rfl) ?_
        refine DL_c (op_as _ (rfl : _ = AV.v (.int _ _))) ?_
        refine DL_nil ?_
        refine ⟨i + 1, ?_, ?_, ?_⟩
        · first | omega | trivial | exact ⟨by omega, by omega⟩
        · skip
          refine Le.mkJ [] [] rfl ?_ ?_ trivial trivial ?_
          · exact ⟨(iS rfl), (iP rfl), (iR rfl), (iV rfl), (lvI (by first | rfl | omega | (simp; done) | (simp; omega) | assumption)), (lvB (by rw [any_take_succ (by omega), hg22]; rfl)), trivial⟩
          · exact ⟨(obE rfl rfl rfl), (obE rfl rfl rfl), trivial⟩
          · kernel_rfl
        · omega
      · skip
        refine any_n (rfl : _ = [_, _]) ?_
        refine any_cy (_, []) rfl (fun τ => rfl) (fun τ => op_mv _ (rfl : _ = AV.sl _ _)) ?_
        refine any_n (rfl : _ = [_, _, _]) ?_
        refine any_cy (_, []) rfl (fun τ => rfl) (fun τ => op_mv _ (rfl : _ = AV.v (.int _ _))) ?_
        refine any_n (rfl : _ = [_, _, _, _]) ?_
        first
          | refine any_cy (_, []) rfl (fun τ => rfl) (fun τ => op_ixS _ _ inferInstance rfl rfl _ rfl (by omega) (by first | assumption | decide | (simp only [isl_len, bsl_len, psl_len, mrows_len, nsl_len, ws_len, List.length_map, mzero_len]; omega) | (simp; done) | (simp; omega) | (simp [isl, bsl]; omega)) (by first | exact Nat.mul_one _ | rfl | omega)) ?_
          | refine any_cy (_, []) rfl (fun τ => rfl) (fun τ => op_ixS _ _ inferInstance rfl rfl (Int.toNat _) (Int.toNat_of_nonneg (by omega)).symm (by omega) (by first | assumption | decide | (simp only [isl_len, bsl_len, psl_len, mrows_len, nsl_len, ws_len, List.length_map, mzero_len]; omega) | (simp; done) | (simp; omega) | (simp [isl, bsl]; omega)) (by first | exact Nat.mul_one _ | rfl | omega)) ?_
        refine any_n (rfl : _ = [_, _, _, _, _]) ?_
        refine any_cy (_, []) rfl (fun τ => rfl) (fun τ => op_ldF _ inferInstance rfl (by first | rfl | exact isl_get _ _ (by omega) | exact bsl_get _ _ (by omega) | assumption | exact mrows_get _ _ (by omega) | exact nsl_get _ _ (by omega)) rfl) ?_
        refine any_n (rfl : _ = [_, _, _, _, _, _]) ?_
        refine any_cy (_, []) rfl (fun τ => rfl) (fun τ => op_mv _ (rfl : _ = AV.v (.int _ _))) ?_
        refine any_n (rfl : _ = [_, _, _, _, _, _, _]) ?_
        first
          | refine any_cy (_, []) rfl (fun τ => rfl) (fun τ => op_eql _ _ rfl rfl (by assumption)) ?_
          | refine any_cy (_, []) rfl (fun τ => rfl) (fun τ => op_eql _ _ rfl rfl rfl) ?_
        refine any_n (rfl : _ = [_, _, _, _, _, _, _, _]) ?_
        refine any_c (_, []) (fun τ => op_pick _ _ _ rfl (rfl : _ = AV.v (.bool _))) ?_
        refine any_n (rfl : _ = [_, _, _, _, _, _, _, _, _]) ?_
        refine any_c (_, []) (fun τ => op_mv _ (rfl : _ = AV.v (.bool _))) ?_
        refine any_caseC (fun hg30 => ?_) (fun hg30 => ?_)
        · skip
          refine any_n (rfl : _ = [_, _, _, _, _, _, _, _, _, _]) ?_
          refine any_cn rfl (fun τ => rfl) (by decide) ?_
          refine any_n (rfl : _ = [_, _, _, _, _, _, _, _, _, _, _]) ?_
          refine any_cn rfl (fun τ => rfl) (by decide) ?_
          refine any_n (rfl : _ = [_, _, _, _, _, _, _, _, _, _, _, _]) ?_
          refine any_cn rfl (fun τ => rfl) (by decide) ?_
          refine any_n (rfl : _ = [_, _, _, _, _, _, _, _, _, _, _, _, _]) ?_
          refine any_cn rfl (fun τ => rfl) (by decide) ?_
          refine any_n (rfl : _ = [_, _, _, _, _, _, _, _, _, _, _, _, _, _]) ?_
          refine any_cn rfl (fun τ => rfl) (by decide) ?_
          refine any_n (rfl : _ = [_, _, _, _, _, _, _, _, _, _, _, _, _, _, _]) ?_
          refine any_cn rfl (fun τ => rfl) (by decide) ?_
          refine any_n (rfl : _ = [_, _, _, _, _, _, _, _, _, _, _, _, _, _, _, _]) ?_
          refine any_cn rfl (fun τ => rfl) (by decide) ?_
          refine any_n (rfl : _ = [_, _, _, _, _, _, _, _, _, _, _, _, _, _, _, _, _]) ?_
          refine any_c (_, []) (fun τ => op_pick _ _ _ rfl (rfl : _ = AV.v (.bool _))) ?_
          refine any_n (rfl : _ = [_, _, _, _, _, _, _, _, _, _, _, _, _, _, _, _, _, _]) ?_
          refine any_end ⟨rfl, ?_⟩
          refine DL_c (op_as _ (rfl : _ = AV.v (.bool _))) ?_
          refine DL_nil (hK13 _ ?_)
          clear hK13; try clear K13
          refine D_le (σ' := mkStI 45 [(1, _), (2, _), (5, _), (6, _), (7, _), (8, _)] [((2, 0), _), ((5, 0), _)] [] []) (by
            refine Le.mkJ [] [] rfl ?_ ?_ trivial trivial ?_
            · exact ⟨(iS rfl), (iP rfl), (iR rfl), (iV rfl), (iV rfl), (iV rfl), trivial⟩
            · exact ⟨(obE rfl rfl rfl), (obE rfl rfl rfl), trivial⟩
            · kernel_rfl) ?_
          refine D_region ?_
          refine DL_c (op_mv _ (rfl : _ = AV.v (.int _ _))) ?_
          first
            | refine DL_c (op_add _ _ rfl rfl (i64w (by omega))) ?_
            | refine DL_c (op_add _ _ rfl rfl rfl) ?_
          refine DL_c (op_as _ (rfl : _ = AV.v (.int _ _))) ?_
          refine DL_nil ?_
          refine ⟨i + 1, ?_, ?_, ?_⟩
          · first | omega | trivial | exact ⟨by omega, by omega⟩
          · skip
            refine Le.mkJ [] [] rfl ?_ ?_ trivial trivial ?_
            · exact ⟨(iS rfl), (iP rfl), (iR rfl), (iV rfl), (lvI (by first | rfl | omega | (simp; done) | (simp; omega) | assumption)), (lvB (by (rw [any_take_succ (by omega), hg22, hg30]; simp))), trivial⟩
            · exact ⟨(obE rfl rfl rfl), (obE rfl rfl rfl), trivial⟩
            · kernel_rfl
          · omega
        · skip
          refine any_n (rfl : _ = [_, _, _, _, _, _, _, _, _, _]) ?_
          first
            | refine any_cy (_, []) rfl (fun τ => rfl) (fun τ => op_ldBA _ inferInstance rfl rfl rfl rfl) ?_
            | refine any_cy (_, []) rfl (fun τ => rfl) (fun τ => op_ldRA _ inferInstance rfl rfl (by first | rfl | assumption) rfl) ?_
            | refine any_cy (_, []) rfl (fun τ => rfl) (fun τ => op_ldFA _ inferInstance rfl (by first | rfl | assumption) rfl) ?_
          refine any_n (rfl : _ = [_, _, _, _, _, _, _, _, _, _, _]) ?_
          refine any_cy (_, []) rfl (fun τ => rfl) (fun τ => op_mv _ (rfl : _ = AV.v (.int _ _))) ?_
          refine any_n (rfl : _ = [_, _, _, _, _, _, _, _, _, _, _, _]) ?_
          refine any_cy (_, []) rfl (fun τ => rfl) (fun τ => op_mv _ (rfl : _ = AV.sl _ _)) ?_
          refine any_n (rfl : _ = [_, _, _, _, _, _, _, _, _, _, _, _, _]) ?_
          refine any_cy (_, []) rfl (fun τ => rfl) (fun τ => op_mv _ (rfl : _ = AV.v (.int _ _))) ?_
          refine any_n (rfl : _ = [_, _, _, _, _, _, _, _, _, _, _, _, _, _]) ?_
          first
            | refine any_cy (_, []) rfl (fun τ => rfl) (fun τ => op_ixS _ _ inferInstance rfl rfl _ rfl (by omega) (by first | assumption | decide | (simp only [isl_len, bsl_len, psl_len, mrows_len, nsl_len, ws_len, List.length_map, mzero_len]; omega) | (simp; done) | (simp; omega) | (simp [isl, bsl]; omega)) (by first | exact Nat.mul_one _ | rfl | omega)) ?_
            | refine any_cy (_, []) rfl (fun τ => rfl) (fun τ => op_ixS _ _ inferInstance rfl rfl (Int.toNat _) (Int.toNat_of_nonneg (by omega)).symm (by omega) (by first | assumption | decide | (simp only [isl_len, bsl_len, psl_len, mrows_len, nsl_len, ws_len, List.length_map, mzero_len]; omega) | (simp; done) | (simp; omega) | (simp [isl, bsl]; omega)) (by first | exact Nat.mul_one _ | rfl | omega)) ?_
          refine any_n (rfl : _ = [_, _, _, _, _, _, _, _, _, _, _, _, _, _, _]) ?_
          refine any_cy (_, []) rfl (fun τ => rfl) (fun τ => op_ldF _ inferInstance rfl (by first | rfl | exact isl_get _ _ (by omega) | exact bsl_get _ _ (by omega) | assumption | exact mrows_get _ _ (by omega) | exact nsl_get _ _ (by omega)) rfl) ?_
          refine any_n (rfl : _ = [_, _, _, _, _, _, _, _, _, _, _, _, _, _, _, _]) ?_
          refine any_cy (_, []) rfl (fun τ => rfl) (fun τ => (op_callH inferInstance (by repeat' (first | exact argsLv_nil | refine argsLv_cons ?_ ?_ | exact Lv.v | exact Lv.sl | exact Lv.fp | exact Lv.nil | refine Lv.agg rfl ?_ | refine Lv.fn rfl ?_ rfl ?_ | exact lv_nil | refine lv_cons ?_ ?_ | exact Lv.z0)) (rless_spec n M hM (a : Int) (l.getD i 0)) rfl rfl)) ?_
          refine any_n (rfl : _ = [_, _, _, _, _, _, _, _, _, _, _, _, _, _, _, _, _]) ?_
          refine any_c (_, []) (fun τ => op_pick _ _ _ rfl (rfl : _ = AV.v (.bool _))) ?_
          refine any_n (rfl : _ = [_, _, _, _, _, _, _, _, _, _, _, _, _, _, _, _, _, _]) ?_
          refine any_end ⟨rfl, ?_⟩
          refine DL_c (op_as _ (rfl : _ = AV.v (.bool _))) ?_
          refine DL_nil (hK13 _ ?_)
          clear hK13; try clear K13
          refine D_le (σ' := mkStI 45 [(1, _), (2, _), (5, _), (6, _), (7, _), (8, _)] [((2, 0), _), ((5, 0), _)] [] []) (by
            refine Le.mkJ [] [] rfl ?_ ?_ trivial trivial ?_
            · exact ⟨(iS rfl), (iP rfl), (iR rfl), (iV rfl), (iV rfl), (iV rfl), trivial⟩
            · exact ⟨(obE rfl rfl rfl), (obE rfl rfl rfl), trivial⟩
            · kernel_rfl) ?_
          refine D_region ?_
          refine DL_c (op_mv _ (rfl : _ = AV.v (.int _ _))) ?_
          first
            | refine DL_c (op_add _ _ rfl rfl (i64w (by omega))) ?_
            | refine DL_c (op_add _ _ rfl rfl rfl) ?_
          refine DL_c (op_as _ (rfl : _ = AV.v (.int _ _))) ?_
          refine DL_nil ?_
          refine ⟨i + 1, ?_, ?_, ?_⟩
          · first | omega | trivial | exact ⟨by omega, by omega⟩
          · skip
            refine Le.mkJ [] [] rfl ?_ ?_ trivial trivial ?_
            · exact ⟨(iS rfl), (iP rfl), (iR rfl), (iV rfl), (lvI (by first | rfl | omega | (simp; done) | (simp; omega) | assumption)), (lvB (by (rw [any_take_succ (by omega), hg22, show ((a : Int) == l.getD i 0) = false from beq_eq_false_iff_ne.2 fun e => hg30 e.symm]; rfl))), trivial⟩
            · exact ⟨(obE rfl rfl rfl), (obE rfl rfl rfl), trivial⟩
            · kernel_rfl
          · omega
    · skip
      obtain rfl : m = i := by omega
      rw [show l.take m = l from List.take_of_length_le (by omega)]
      have hdd : downB n (mlt M) l a = l.any fun x => (a : Int) == x || rless n (mlt M) (a : Int) x := rfl
      rw [← hdd]
      refine D_exit ?_
      refine id (hK9 _ ?_)
      clear hK9; try clear K9
      refine D_seq fun K14 hK14 => ?_
      refine D_region ?_
      refine DL_c (op_mv _ (rfl : _ = AV.v (.bool _))) ?_
      refine DL_nil (hK14 _ ?_)
      clear hK14; try clear K14
      refine D_splitC rfl (fun hc39 => ?_) (fun hc39 => ?_)
      · skip
        have hdy := downA_yes (n := n) (lt := mlt M) (l := l) (k := a) hc39
        refine D_region ?_
        refine DL_c (op_mv _ (rfl : _ = AV.ref _ _ _)) ?_
        refine DL_c (op_mv _ (rfl : _ = AV.v (.int _ _))) ?_
        refine DL_c (op_bsF _ _ inferInstance rfl (by rfl) (by simp <;> rfl) (by decide) rfl) ?_
        refine DL_c (op_ap (43, 0) _ _ inferInstance rfl rfl (by first | rfl | omega | (simp only [isl_len, bsl_len, psl_len, mrows_len, nsl_len, ws_len, List.length_map, mzero_len]; omega) | (simp; done) | (simp; omega)) (by first | exact .nil | (refine .sl ?_; first | (simp [isl]; done) | (simp [isl]; omega)) | (refine .ref rfl rfl ?_; first | (simp; done) | (simp; omega))) (by omega) rfl (rfl) (rfl)) ?_
        refine DL_c (op_as _ (rfl : _ = AV.ref _ _ _)) ?_
        refine DL_nil (hK7 _ ?_)
        clear hK7; try clear K7
        refine D_region ?_
        refine DL_c (op_mv _ (rfl : _ = AV.v (.int _ _))) ?_
        first
          | refine DL_c (op_add _ _ rfl rfl (i64w (by omega))) ?_
          | refine DL_c (op_add _ _ rfl rfl rfl) ?_
        refine DL_c (op_as _ (rfl : _ = AV.v (.int _ _))) ?_
        refine DL_nil ?_
        refine ⟨a + 1, ?_, ?_, ?_⟩
        · first | omega | trivial | exact ⟨by omega, by omega⟩
        · skip
          refine Le.mkJ [((5, 0), (43, 0))] [] rfl ?_ ?_ trivial trivial ?_
          · exact ⟨(by repeat' (first | exact Lv.v | exact Lv.sl | exact Lv.fp | exact lvRr (id := (2, 0)) rfl rfl | exact lvPr (id := (2, 0)) rfl | exact lvRr (id := (5, 0)) rfl rfl | exact lvPr (id := (5, 0)) rfl | exact lvRr rfl rfl | exact lvPr rfl | exact Lv.mp | exact Lv.nil | exact Lv.z | exact Lv.dead | refine Lv.agg rfl ?_ | refine Lv.fn rfl ?_ rfl ?_ | refine Lv.tup rfl ?_ | refine Lv.ifc ?_ | exact lv_nil | refine lv_cons ?_ ?_)), (lvPr (id := (2, 0)) rfl), (lvI (by first | rfl | omega | (first | (rw [hdy, List.length_append]; rfl) | (rw [hdy, ← nsl_append]; rfl)) | (simp; done) | (simp; omega) | assumption)), (lvRr rfl (by first | rfl | omega | (first | (rw [hdy, List.length_append]; rfl) | (rw [hdy, ← nsl_append]; rfl)) | (simp; done) | (simp; omega) | assumption)), trivial⟩
          · exact ⟨(obB rfl rfl rfl rfl (by repeat' (first | exact Lv.v | exact Lv.sl | exact Lv.fp | exact lvRr (id := (2, 0)) rfl rfl | exact lvPr (id := (2, 0)) rfl | exact lvRr (id := (5, 0)) rfl rfl | exact lvPr (id := (5, 0)) rfl | exact lvRr rfl rfl | exact lvPr rfl | exact Lv.mp | exact Lv.nil | exact Lv.z | exact Lv.dead | refine Lv.agg rfl ?_ | refine Lv.fn rfl ?_ rfl ?_ | refine Lv.tup rfl ?_ | refine Lv.ifc ?_ | exact lv_nil | refine lv_cons ?_ ?_))), (obR rfl rfl rfl (by first | rfl | omega | (first | (rw [hdy, List.length_append]; rfl) | (rw [hdy, ← nsl_append]; rfl)) | (simp; done) | (simp; omega) | assumption)), trivial⟩
          · kernel_rfl
        · omega
      · skip
        have hdy := downA_no (n := n) (lt := mlt M) (l := l) (k := a) hc39
        refine D_skip (hK7 _ ?_)
        clear hK7; try clear K7
        refine D_region ?_
        refine DL_c (op_mv _ (rfl : _ = AV.v (.int _ _))) ?_
        first
          | refine DL_c (op_add _ _ rfl rfl (i64w (by omega))) ?_
          | refine DL_c (op_add _ _ rfl rfl rfl) ?_
        refine DL_c (op_as _ (rfl : _ = AV.v (.int _ _))) ?_
        refine DL_nil ?_
        refine ⟨a + 1, ?_, ?_, ?_⟩
        · first | omega | trivial | exact ⟨by omega, by omega⟩
        · skip
          refine Le.mkJ [] [] rfl ?_ ?_ trivial trivial ?_
          · exact ⟨(iS rfl), (iP rfl), (lvI (by first | rfl | omega | (rw [hdy]) | (simp; done) | (simp; omega) | assumption)), (lvRr rfl (by first | rfl | omega | (rw [hdy]) | (simp; done) | (simp; omega) | assumption)), trivial⟩
          · exact ⟨(obE rfl rfl rfl), (obR rfl rfl rfl (by first | rfl | omega | (rw [hdy]) | (simp; done) | (simp; omega) | assumption)), trivial⟩
          · kernel_rfl
        · omega
  · skip
    obtain rfl : n = a := by omega
    refine D_exit ?_
    refine id (hK3 _ ?_)
    clear hK3; try clear K3
    refine D_seq fun K15 hK15 => ?_
    refine D_region ?_
    refine DL_c (op_mv _ (rfl : _ = AV.ref _ _ _)) ?_
    refine DL_c (op_as _ (rfl : _ = AV.ref _ _ _)) ?_
    refine DL_nil (hK15 _ ?_)
    clear hK15; try clear K15
    refine D_ret ?_
    exact ret1 (.inr rfl) rfl (.tmp (rfl : _ = AV.ref _ _ _)) (Le.out [] [(5, 0)] (frz0 rfl rfl (by first | rfl | omega | simp) (by first | rfl | simp)) rfl rfl rfl ⟨rfl, trivial⟩ trivial)

/-- One pair that the reference makes of a number. -/
def prs1 (n : Int) (x : Int) : Option (Int × Int) :=
  let k := around x 1000000
  if k / (n * n) % 9 > 0 then
    if k % n = k / n % n then none
    else if k % n * 3 % 7 > k / n % n * 3 % 7 then some (k / n % n, k % n) else some (k % n, k / n % n)
  else some (k % n, k / n % n)
def prs (n : Int) (l : List Int) (i : Nat) : Prs := (l.take i).filterMap (prs1 n)
def pairs (n : Int) (l : List Int) : Prs := if n < 1 then [] else prs n l 12
theorem prs_succ {n : Int} {l : List Int} {i : Nat} (h : i < l.length) : prs n l (i + 1) = prs n l i ++ (prs1 n (l.getD i 0)).toList := by
  unfold prs
  rw [List.take_add_one, List.getElem?_eq_getElem h, List.filterMap_append]
  congr 1
  simp only [Option.toList_some, List.getD_eq_getElem?_getD, List.getElem?_eq_getElem h, Option.getD_some, List.filterMap_cons, List.filterMap_nil]
  cases prs1 n l[i] <;> rfl
theorem prs_len (n : Int) (l : List Int) (i : Nat) : (prs n l i).length ≤ i := by
  have := List.length_filterMap_le (prs1 n) (l.take i)
  rw [List.length_take] at this
  unfold prs; omega
end Go.Proofs.Ytkbkmngbenohkaa
