/- The law PosetLimits by the machine. -/
import Derived.Test.YtkbkmngbenohkaaA19
import Derived.Test.YtkbkmngbenohkaaM7
set_option linter.unusedSimpArgs false
set_option linter.unusedVariables false
namespace Go.Proofs.Ytkbkmngbenohkaa
open Go.RowKit

theorem new_neg (n : Int) (hn : n < 0) (m : Nat) (xs : List PV) : Spec Try.prog 28 (inSt [.v (.int .i64 n), .sl m xs] []) (outSt (.tup [.v (.pointer none), .v (.int .i64 1)]) []) := by
  refine Spec.ofN Try.func28 rfl Try.ntmps28 rfl ?_
  refine D_seq fun K1 hK1 => ?_
  refine D_region ?_
  refine DL_c (op_box (2, 0) _ rfl rfl) ?_
  refine DL_c (op_as _ (rfl : _ = AV.v _)) ?_
  refine DL_c (op_as _ (rfl : _ = AV.v (.int _ _))) ?_
  refine DL_nil (hK1 _ ?_)
  clear hK1; try clear K1
  refine D_seq fun K2 hK2 => ?_
  refine D_block ?_
  refine D_seq fun K3 hK3 => ?_
  refine D_region ?_
  first
    | refine DL_c (op_ldB _ inferInstance rfl rfl (rfl : _ = some (AV.v (.int _ _)))) ?_
    | refine DL_c (op_ldR _ inferInstance rfl rfl (by first | rfl | exact isl_get _ _ (by omega) | exact bsl_get _ _ (by omega) | assumption) rfl) ?_
  first
    | refine DL_c (op_lss _ _ rfl rfl (by assumption)) ?_
    | refine DL_c (op_lss _ _ rfl rfl rfl) ?_
  refine DL_c (op_as _ (rfl : _ = AV.v (.bool _))) ?_
  refine DL_nil (hK3 _ ?_)
  clear hK3; try clear K3
  refine D_cT rfl (decide_eq_true (by omega)) ?_
  refine D_seq fun K4 hK4 => ?_
  refine D_region ?_
  refine DL_c (op_as _ (rfl : _ = AV.v _)) ?_
  refine DL_c (op_as _ (rfl : _ = AV.v (.int _ _))) ?_
  refine DL_nil (hK4 _ ?_)
  clear hK4; try clear K4
  refine D_ret ?_
  exact ret2 (.inr rfl) rfl (.tmp (rfl : _ = AV.v _)) (.tmp (rfl : _ = AV.v _)) (Le.out [] [] (.tup rfl (lv_cons .v (lv_cons .v lv_nil))) rfl rfl rfl trivial trivial)
theorem new_big (n : Int) (hn : 5000 < n) (m : Nat) (xs : List PV) : Spec Try.prog 28 (inSt [.v (.int .i64 n), .sl m xs] []) (outSt (.tup [.v (.pointer none), .v (.int .i64 2)]) []) := by
  refine Spec.ofN Try.func28 rfl Try.ntmps28 rfl ?_
  refine D_seq fun K1 hK1 => ?_
  refine D_region ?_
  refine DL_c (op_box (2, 0) _ rfl rfl) ?_
  refine DL_c (op_as _ (rfl : _ = AV.v _)) ?_
  refine DL_c (op_as _ (rfl : _ = AV.v (.int _ _))) ?_
  refine DL_nil (hK1 _ ?_)
  clear hK1; try clear K1
  refine D_seq fun K2 hK2 => ?_
  refine D_block ?_
  refine D_seq fun K3 hK3 => ?_
  refine D_region ?_
  first
    | refine DL_c (op_ldB _ inferInstance rfl rfl (rfl : _ = some (AV.v (.int _ _)))) ?_
    | refine DL_c (op_ldR _ inferInstance rfl rfl (by first | rfl | exact isl_get _ _ (by omega) | exact bsl_get _ _ (by omega) | assumption) rfl) ?_
  first
    | refine DL_c (op_lss _ _ rfl rfl (by assumption)) ?_
    | refine DL_c (op_lss _ _ rfl rfl rfl) ?_
  refine DL_c (op_as _ (rfl : _ = AV.v (.bool _))) ?_
  refine DL_nil (hK3 _ ?_)
  clear hK3; try clear K3
  refine D_cF rfl (decide_eq_false (by omega)) ?_
  refine D_seq fun K4 hK4 => ?_
  refine D_region ?_
  first
    | refine DL_c (op_ldB _ inferInstance rfl rfl (rfl : _ = some (AV.v (.int _ _)))) ?_
    | refine DL_c (op_ldR _ inferInstance rfl rfl (by first | rfl | exact isl_get _ _ (by omega) | exact bsl_get _ _ (by omega) | assumption) rfl) ?_
  first
    | refine DL_c (op_gtr _ _ rfl rfl (by assumption)) ?_
    | refine DL_c (op_gtr _ _ rfl rfl rfl) ?_
  refine DL_c (op_as _ (rfl : _ = AV.v (.bool _))) ?_
  refine DL_nil (hK4 _ ?_)
  clear hK4; try clear K4
  refine D_cT rfl (decide_eq_true (by omega)) ?_
  refine D_seq fun K5 hK5 => ?_
  refine D_region ?_
  refine DL_c (op_as _ (rfl : _ = AV.v _)) ?_
  refine DL_c (op_as _ (rfl : _ = AV.v (.int _ _))) ?_
  refine DL_nil (hK5 _ ?_)
  clear hK5; try clear K5
  refine D_ret ?_
  exact ret2 (.inr rfl) rfl (.tmp (rfl : _ = AV.v _)) (.tmp (rfl : _ = AV.v _)) (Le.out [] [] (.tup rfl (lv_cons .v (lv_cons .v lv_nil))) rfl rfl rfl trivial trivial)
theorem limits_law (n : Int) (hn : -9223372036854775808 ≤ n ∧ n ≤ 9223372036854775807) (m : Nat) (E : List (Int × Int)) (hm : E.length = m) (h1 : m ≤ 4611686018427387904) :
    Spec Try.prog 3 (inSt [.v (.int .i64 n), .sl m (psl E)] []) (outSt (.v (.bool true)) []) := by
  have e1 : min (m : Int) 5 = ((min m 5 : Nat) : Int) := by omega
  refine Spec.ofN Try.func3 rfl Try.ntmps3 rfl ?_
  refine D_seq fun K1 hK1 => ?_
  refine D_region ?_
  refine DL_c (op_as _ (rfl : _ = AV.v (.bool _))) ?_
  refine DL_nil (hK1 _ ?_)
  clear hK1; try clear K1
  refine D_seq fun K2 hK2 => ?_
  refine D_region ?_
  refine DL_c (op_mv _ (rfl : _ = AV.sl _ _)) ?_
  refine DL_c (op_mv _ (rfl : _ = AV.sl _ _)) ?_
  refine DL_c (op_lenS _ inferInstance rfl) ?_
  refine DL_c (op_min _ _ rfl rfl e1) ?_
  refine DL_c (op_slS _ _ _ inferInstance rfl 0 (min m 5) .dflt (.lit rfl rfl) (by omega) (by omega) (psl_pre _ _) (Nat.sub_zero _)) ?_
  refine DL_c (op_as _ (rfl : _ = AV.sl _ _)) ?_
  refine DL_nil (hK2 _ ?_)
  clear hK2; try clear K2
  refine D_seq fun K3 hK3 => ?_
  refine D_seq fun K4 hK4 => ?_
  refine D_region ?_
  refine DL_c (op_mv _ (rfl : _ = AV.v (.int _ _))) ?_
  first
    | refine DL_c (op_geq _ _ rfl rfl (by assumption)) ?_
    | refine DL_c (op_geq _ _ rfl rfl rfl) ?_
  refine DL_c (op_mv _ (rfl : _ = AV.v (.bool _))) ?_
  refine DL_caseC (fun hg16 => ?_) (fun hg16 => ?_)
  · skip
    refine DL_cy rfl rfl (op_mv _ (rfl : _ = AV.v (.int _ _))) ?_
    first
      | refine DL_cy rfl rfl (op_leq _ _ rfl rfl (by assumption)) ?_
      | refine DL_cy rfl rfl (op_leq _ _ rfl rfl rfl) ?_
    refine DL_c (op_pick _ _ _ rfl (rfl : _ = AV.v (.bool _))) ?_
    refine DL_nil (hK4 _ ?_)
    clear hK4; try clear K4
    refine D_splitC rfl (fun hc19 => ?_) (fun hc19 => ?_)
    · skip
      refine D_region ?_
      refine DL_c (op_mv _ (rfl : _ = AV.v (.int _ _))) ?_
      first
        | refine DL_c (op_sub _ _ rfl rfl (i64w (by omega))) ?_
        | refine DL_c (op_sub _ _ rfl rfl rfl) ?_
      first
        | refine DL_c (op_sub _ _ rfl rfl (i64w (by omega))) ?_
        | refine DL_c (op_sub _ _ rfl rfl rfl) ?_
      refine DL_c (op_as _ (rfl : _ = AV.v (.int _ _))) ?_
      refine DL_nil (hK3 _ ?_)
      clear hK3; try clear K3
      refine D_seq fun K5 hK5 => ?_
      refine D_le (σ' := mkStI 41 [(0, _), (5, _)] [] [] []) (by
        refine Le.mkJ [] [] rfl ?_ ?_ trivial trivial ?_
        · exact ⟨(iV rfl), (iS rfl), trivial⟩
        · exact trivial
        · kernel_rfl) ?_
      refine D_region ?_
      refine DL_c (op_mv _ (rfl : _ = AV.v (.int _ _))) ?_
      refine DL_c (op_mv _ (rfl : _ = AV.sl _ _)) ?_
      refine DL_c (op_callH inferInstance (by repeat' (first | exact argsLv_nil | refine argsLv_cons ?_ ?_ | exact Lv.v | exact Lv.sl | exact Lv.fp | exact Lv.nil | refine Lv.agg rfl ?_ | refine Lv.fn rfl ?_ rfl ?_ | exact lv_nil | refine lv_cons ?_ ?_ | exact Lv.z0)) (new_neg (n - 5000 - 1) (by omega) _ _) rfl rfl) ?_
      refine DL_c (op_mv _ (rfl : _ = AV.tup _)) ?_
      first
        | refine DL_c (op_ext _ rfl (rfl : _ = some (AV.ptr _ _))) ?_
        | refine DL_c (op_ext _ rfl (rfl : _ = some (AV.fp _ _))) ?_
        | refine DL_c (op_ext _ rfl (rfl : _ = some (AV.v (.pointer _)))) ?_
      refine DL_c (op_ext _ rfl (rfl : _ = some (AV.v (.int _ _)))) ?_
      first
        | refine DL_c (op_as _ (rfl : _ = AV.ptr _ _)) ?_
        | refine DL_c (op_as _ (rfl : _ = AV.fp _ _)) ?_
        | refine DL_c (op_as _ (rfl : _ = AV.v (.pointer _))) ?_
      refine DL_c (op_as _ (rfl : _ = AV.v (.int _ _))) ?_
      refine DL_nil (hK5 _ ?_)
      clear hK5; try clear K5
      refine D_seq fun K6 hK6 => ?_
      refine D_region ?_
      refine DL_c (op_as _ (rfl : _ = AV.v (.int _ _))) ?_
      refine DL_nil (hK6 _ ?_)
      clear hK6; try clear K6
      refine D_seq fun K7 hK7 => ?_
      refine D_seq fun K8 hK8 => ?_
      refine D_region ?_
      refine DL_c (op_mv _ (rfl : _ = AV.v (.int _ _))) ?_
      first
        | refine DL_c (op_lss _ _ rfl rfl (by assumption)) ?_
        | refine DL_c (op_lss _ _ rfl rfl rfl) ?_
      refine DL_nil (hK8 _ ?_)
      clear hK8; try clear K8
      refine D_cT rfl (decide_eq_true (by omega)) ?_
      refine D_region ?_
      refine DL_c (op_as _ (rfl : _ = AV.v (.int _ _))) ?_
      refine DL_nil (hK7 _ ?_)
      clear hK7; try clear K7
      refine D_seq fun K9 hK9 => ?_
      refine D_region ?_
      first
        | refine DL_c (op_mv _ (rfl : _ = AV.ptr _ _)) ?_
        | refine DL_c (op_mv _ (rfl : _ = AV.fp _ _)) ?_
        | refine DL_c (op_mv _ (rfl : _ = AV.v (.pointer _))) ?_
      first
        | refine DL_c (op_eqP _ _ (by kernel_rfl) rfl rfl) ?_
        | refine DL_c (op_eqN _ _ (by kernel_rfl) (.inr ⟨_, _, rfl⟩) rfl) ?_
        | refine DL_c (op_eqN _ _ (by kernel_rfl) (.inl ⟨_, _, _, rfl, rfl⟩) rfl) ?_
      refine DL_c (op_mv _ (rfl : _ = AV.v (.bool _))) ?_
      refine DL_cy rfl rfl (op_mv _ (rfl : _ = AV.v (.int _ _))) ?_
      refine DL_cy rfl rfl (op_mv _ (rfl : _ = AV.v (.int _ _))) ?_
      refine DL_cy rfl rfl (op_eql (r := true) _ _ rfl rfl rfl) ?_
      refine DL_c (op_pick _ _ _ rfl (rfl : _ = AV.v (.bool _))) ?_
      refine DL_c (op_mv _ (rfl : _ = AV.v (.bool _))) ?_
      refine DL_cy rfl rfl (op_callH inferInstance (by repeat' (first | exact argsLv_nil | refine argsLv_cons ?_ ?_ | exact Lv.v | exact Lv.sl | exact Lv.fp | exact Lv.nil | refine Lv.agg rfl ?_ | refine Lv.fn rfl ?_ rfl ?_ | exact lv_nil | refine lv_cons ?_ ?_ | exact Lv.z0)) (lives_spec) rfl rfl) ?_
      refine DL_c (op_pick _ _ _ rfl (rfl : _ = AV.v (.bool _))) ?_
      refine DL_c (op_as _ (rfl : _ = AV.v (.bool _))) ?_
      refine DL_nil (hK9 _ ?_)
      clear hK9; try clear K9
      refine D_ret ?_
      refine ret1 (.inr rfl) rfl (.tmp (rfl : _ = AV.v (.bool _))) (Le.out [] [] (lvB ?_) rfl rfl rfl trivial trivial)
      rfl
    · skip
      refine D_skip (hK3 _ ?_)
      clear hK3; try clear K3
      refine D_seq fun K10 hK10 => ?_
      refine D_region ?_
      refine DL_c (op_mv _ (rfl : _ = AV.v (.int _ _))) ?_
      refine DL_c (op_mv _ (rfl : _ = AV.sl _ _)) ?_
      refine DL_c (op_callH inferInstance (by repeat' (first | exact argsLv_nil | refine argsLv_cons ?_ ?_ | exact Lv.v | exact Lv.sl | exact Lv.fp | exact Lv.nil | refine Lv.agg rfl ?_ | refine Lv.fn rfl ?_ rfl ?_ | exact lv_nil | refine lv_cons ?_ ?_ | exact Lv.z0)) (new_big n (by omega) _ _) rfl rfl) ?_
      refine DL_c (op_mv _ (rfl : _ = AV.tup _)) ?_
      first
        | refine DL_c (op_ext _ rfl (rfl : _ = some (AV.ptr _ _))) ?_
        | refine DL_c (op_ext _ rfl (rfl : _ = some (AV.fp _ _))) ?_
        | refine DL_c (op_ext _ rfl (rfl : _ = some (AV.v (.pointer _)))) ?_
      refine DL_c (op_ext _ rfl (rfl : _ = some (AV.v (.int _ _)))) ?_
      first
        | refine DL_c (op_as _ (rfl : _ = AV.ptr _ _)) ?_
        | refine DL_c (op_as _ (rfl : _ = AV.fp _ _)) ?_
        | refine DL_c (op_as _ (rfl : _ = AV.v (.pointer _))) ?_
      refine DL_c (op_as _ (rfl : _ = AV.v (.int _ _))) ?_
      refine DL_nil (hK10 _ ?_)
      clear hK10; try clear K10
      refine D_seq fun K11 hK11 => ?_
      refine D_le (σ' := mkStI 41 [(0, _), (6, _), (7, _)] [] [] []) (by
        refine Le.mkJ [] [] rfl ?_ ?_ trivial trivial ?_
        · exact ⟨(iV rfl), (by first | exact iP rfl | exact iF rfl | exact iV rfl | exact iD rfl), (iV rfl), trivial⟩
        · exact trivial
        · kernel_rfl) ?_
      refine D_region ?_
      refine DL_c (op_as _ (rfl : _ = AV.v (.int _ _))) ?_
      refine DL_nil (hK11 _ ?_)
      clear hK11; try clear K11
      refine D_seq fun K12 hK12 => ?_
      refine D_seq fun K13 hK13 => ?_
      refine D_region ?_
      refine DL_c (op_mv _ (rfl : _ = AV.v (.int _ _))) ?_
      first
        | refine DL_c (op_lss _ _ rfl rfl (by assumption)) ?_
        | refine DL_c (op_lss _ _ rfl rfl rfl) ?_
      refine DL_nil (hK13 _ ?_)
      clear hK13; try clear K13
      refine D_cF rfl (decide_eq_false (by omega)) ?_
      refine D_skip (hK12 _ ?_)
      clear hK12; try clear K12
      refine D_seq fun K14 hK14 => ?_
      refine D_region ?_
      first
        | refine DL_c (op_mv _ (rfl : _ = AV.ptr _ _)) ?_
        | refine DL_c (op_mv _ (rfl : _ = AV.fp _ _)) ?_
        | refine DL_c (op_mv _ (rfl : _ = AV.v (.pointer _))) ?_
      first
        | refine DL_c (op_eqP _ _ (by kernel_rfl) rfl rfl) ?_
        | refine DL_c (op_eqN _ _ (by kernel_rfl) (.inr ⟨_, _, rfl⟩) rfl) ?_
        | refine DL_c (op_eqN _ _ (by kernel_rfl) (.inl ⟨_, _, _, rfl, rfl⟩) rfl) ?_
      refine DL_c (op_mv _ (rfl : _ = AV.v (.bool _))) ?_
      refine DL_cy rfl rfl (op_mv _ (rfl : _ = AV.v (.int _ _))) ?_
      refine DL_cy rfl rfl (op_mv _ (rfl : _ = AV.v (.int _ _))) ?_
      refine DL_cy rfl rfl (op_eql (r := true) _ _ rfl rfl rfl) ?_
      refine DL_c (op_pick _ _ _ rfl (rfl : _ = AV.v (.bool _))) ?_
      refine DL_c (op_mv _ (rfl : _ = AV.v (.bool _))) ?_
      refine DL_cy rfl rfl (op_callH inferInstance (by repeat' (first | exact argsLv_nil | refine argsLv_cons ?_ ?_ | exact Lv.v | exact Lv.sl | exact Lv.fp | exact Lv.nil | refine Lv.agg rfl ?_ | refine Lv.fn rfl ?_ rfl ?_ | exact lv_nil | refine lv_cons ?_ ?_ | exact Lv.z0)) (lives_spec) rfl rfl) ?_
      refine DL_c (op_pick _ _ _ rfl (rfl : _ = AV.v (.bool _))) ?_
      refine DL_c (op_as _ (rfl : _ = AV.v (.bool _))) ?_
      refine DL_nil (hK14 _ ?_)
      clear hK14; try clear K14
      refine D_ret ?_
      refine ret1 (.inr rfl) rfl (.tmp (rfl : _ = AV.v (.bool _))) (Le.out [] [] (lvB ?_) rfl rfl rfl trivial trivial)
      rfl
  · skip
    refine DL_cn rfl rfl (by decide) ?_
    refine DL_cn rfl rfl (by decide) ?_
    refine DL_c (op_pick _ _ _ rfl (rfl : _ = AV.v (.bool _))) ?_
    refine DL_nil (hK4 _ ?_)
    clear hK4; try clear K4
    refine D_cF rfl rfl ?_
    refine D_skip (hK3 _ ?_)
    clear hK3; try clear K3
    refine D_seq fun K15 hK15 => ?_
    refine D_region ?_
    refine DL_c (op_mv _ (rfl : _ = AV.v (.int _ _))) ?_
    refine DL_c (op_mv _ (rfl : _ = AV.sl _ _)) ?_
    refine DL_c (op_callH inferInstance (by repeat' (first | exact argsLv_nil | refine argsLv_cons ?_ ?_ | exact Lv.v | exact Lv.sl | exact Lv.fp | exact Lv.nil | refine Lv.agg rfl ?_ | refine Lv.fn rfl ?_ rfl ?_ | exact lv_nil | refine lv_cons ?_ ?_ | exact Lv.z0)) (new_neg n (by omega) _ _) rfl rfl) ?_
    refine DL_c (op_mv _ (rfl : _ = AV.tup _)) ?_
    first
      | refine DL_c (op_ext _ rfl (rfl : _ = some (AV.ptr _ _))) ?_
      | refine DL_c (op_ext _ rfl (rfl : _ = some (AV.fp _ _))) ?_
      | refine DL_c (op_ext _ rfl (rfl : _ = some (AV.v (.pointer _)))) ?_
    refine DL_c (op_ext _ rfl (rfl : _ = some (AV.v (.int _ _)))) ?_
    first
      | refine DL_c (op_as _ (rfl : _ = AV.ptr _ _)) ?_
      | refine DL_c (op_as _ (rfl : _ = AV.fp _ _)) ?_
      | refine DL_c (op_as _ (rfl : _ = AV.v (.pointer _))) ?_
    refine DL_c (op_as _ (rfl : _ = AV.v (.int _ _))) ?_
    refine DL_nil (hK15 _ ?_)
    clear hK15; try clear K15
    refine D_seq fun K16 hK16 => ?_
    refine D_le (σ' := mkStI 41 [(0, _), (6, _), (7, _)] [] [] []) (by
      refine Le.mkJ [] [] rfl ?_ ?_ trivial trivial ?_
      · exact ⟨(iV rfl), (by first | exact iP rfl | exact iF rfl | exact iV rfl | exact iD rfl), (iV rfl), trivial⟩
      · exact trivial
      · kernel_rfl) ?_
    refine D_region ?_
    refine DL_c (op_as _ (rfl : _ = AV.v (.int _ _))) ?_
    refine DL_nil (hK16 _ ?_)
    clear hK16; try clear K16
    refine D_seq fun K17 hK17 => ?_
    refine D_seq fun K18 hK18 => ?_
    refine D_region ?_
    refine DL_c (op_mv _ (rfl : _ = AV.v (.int _ _))) ?_
    first
      | refine DL_c (op_lss _ _ rfl rfl (by assumption)) ?_
      | refine DL_c (op_lss _ _ rfl rfl rfl) ?_
    refine DL_nil (hK18 _ ?_)
    clear hK18; try clear K18
    refine D_cT rfl (decide_eq_true (by omega)) ?_
    refine D_region ?_
    refine DL_c (op_as _ (rfl : _ = AV.v (.int _ _))) ?_
    refine DL_nil (hK17 _ ?_)
    clear hK17; try clear K17
    refine D_seq fun K19 hK19 => ?_
    refine D_region ?_
    first
      | refine DL_c (op_mv _ (rfl : _ = AV.ptr _ _)) ?_
      | refine DL_c (op_mv _ (rfl : _ = AV.fp _ _)) ?_
      | refine DL_c (op_mv _ (rfl : _ = AV.v (.pointer _))) ?_
    first
      | refine DL_c (op_eqP _ _ (by kernel_rfl) rfl rfl) ?_
      | refine DL_c (op_eqN _ _ (by kernel_rfl) (.inr ⟨_, _, rfl⟩) rfl) ?_
      | refine DL_c (op_eqN _ _ (by kernel_rfl) (.inl ⟨_, _, _, rfl, rfl⟩) rfl) ?_
    refine DL_c (op_mv _ (rfl : _ = AV.v (.bool _))) ?_
    refine DL_cy rfl rfl (op_mv _ (rfl : _ = AV.v (.int _ _))) ?_
    refine DL_cy rfl rfl (op_mv _ (rfl : _ = AV.v (.int _ _))) ?_
    refine DL_cy rfl rfl (op_eql (r := true) _ _ rfl rfl rfl) ?_
    refine DL_c (op_pick _ _ _ rfl (rfl : _ = AV.v (.bool _))) ?_
    refine DL_c (op_mv _ (rfl : _ = AV.v (.bool _))) ?_
    refine DL_cy rfl rfl (op_callH inferInstance (by repeat' (first | exact argsLv_nil | refine argsLv_cons ?_ ?_ | exact Lv.v | exact Lv.sl | exact Lv.fp | exact Lv.nil | refine Lv.agg rfl ?_ | refine Lv.fn rfl ?_ rfl ?_ | exact lv_nil | refine lv_cons ?_ ?_ | exact Lv.z0)) (lives_spec) rfl rfl) ?_
    refine DL_c (op_pick _ _ _ rfl (rfl : _ = AV.v (.bool _))) ?_
    refine DL_c (op_as _ (rfl : _ = AV.v (.bool _))) ?_
    refine DL_nil (hK19 _ ?_)
    clear hK19; try clear K19
    refine D_ret ?_
    refine ret1 (.inr rfl) rfl (.tmp (rfl : _ = AV.v (.bool _))) (Le.out [] [] (lvB ?_) rfl rfl rfl trivial trivial)
    rfl
end Go.Proofs.Ytkbkmngbenohkaa
