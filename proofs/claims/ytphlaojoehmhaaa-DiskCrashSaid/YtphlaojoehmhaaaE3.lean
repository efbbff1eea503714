/- The disk's functions by the machine: New, own, Sync, View. -/
import Derived.Test.YtphlaojoehmhaaaE2
import Derived.Test.YtphlaojoehmhaaaDLib14
set_option linter.unusedSimpArgs false
set_option linter.unusedVariables false
namespace Go.Proofs.Ytphlaojoehmhaaa
open Go.RowKit

theorem own_specF (n m : Nat) (cs : List Int) (ps : List (Int × Int)) (hn : cs.length = n) (hm : ps.length = m) (h1 : n ≤ 1000000) (h2 : m ≤ 1000000) :
    Spec Try.prog 27 (inStI [.agg [.sl n (isl cs), .sl m (wsl ps)]] []) (outStI (.agg [.ref (0, 8) 0 n, .sl m (wsl ps)]) [((0, 8), .row 3 1 (isl cs))] [] []) :=
  (own_spec n m cs ps hn hm h1 h2).mono (Le.outII [((0, 8), (0, 8))] [(1, 8)] (.agg rfl (lv_cons .ref (lv_cons (frz0 rfl rfl (by simp [hm]) rfl) lv_nil))) rfl rfl rfl ⟨rfl, trivial⟩ ⟨⟨rfl, ⟨_, rfl, .rowE rfl⟩, rfl⟩, trivial⟩ trivial rfl)

theorem new_own (n : Nat) (h1 : n ≤ 1000000) :
    Spec Try.prog 11 (inStI [.v (.int .i64 (n : Int))] []) (outStI (.agg [.ref (0, 8) 0 n, .v (.slice none 0 0)]) [((0, 8), .row 3 1 (isl (List.replicate n 0)))] [] []) := by
  refine Spec.ofNI Try.func11 rfl Try.ntmps11 rfl ?_
  refine D_seq fun K1 hK1 => ?_
  refine D_region ?_
  refine DL_c (op_alloc (2, 0) inferInstance rfl rfl) ?_
  refine DL_nil (hK1 _ ?_)
  clear hK1; try clear K1
  refine D_seq fun K2 hK2 => ?_
  refine D_region ?_
  refine DL_c (op_mv _ (rfl : _ = AV.v (.int _ _))) ?_
  first
    | refine DL_c (op_mk (4, 0) _ _ inferInstance rfl rfl _ rfl rfl (by omega) rfl rfl) ?_
    | refine DL_c (op_mk (4, 0) _ _ inferInstance rfl rfl (Int.toNat _) (Int.toNat_of_nonneg (by omega)).symm (Int.toNat_of_nonneg (by omega)).symm (by omega) rfl rfl) ?_
  refine DL_c (op_build _ inferInstance rfl (by exact (rfl : _ = some [_, _]))) ?_
  first
    | refine DL_c (op_stB _ _ inferInstance rfl rfl rfl rfl (Nat.le_of_ble_eq_true rfl) rfl) ?_
    | refine DL_c (op_stR _ _ inferInstance rfl rfl rfl rfl rfl (by first | exact Nat.le_of_ble_eq_true rfl | (simp; omega)) rfl) ?_
  refine DL_nil (hK2 _ ?_)
  clear hK2; try clear K2
  refine D_ret ?_
  refine ret1 (.inr rfl) rfl (.cellA inferInstance rfl rfl rfl) ?_
  refine Le.outI [((0, 8), (4, 0))] [] (.agg rfl (lv_cons .ref (lv_cons .v lv_nil))) rfl rfl rfl trivial ⟨⟨rfl, ⟨_, rfl, .rowE ?_⟩, rfl⟩, trivial⟩ trivial rfl
  exact (isl_zeros n)
theorem new_spec (n : Nat) (h1 : n ≤ 1000000) : Spec Try.prog 11 (inSt [.v (.int .i64 (n : Int))] []) (outSt (.agg [.sl n (isl (List.replicate n 0)), .sl 0 []]) []) :=
  (new_own n h1).mono (Le.outO [] [(0, 8)] (.agg rfl (lv_cons (frz0 rfl rfl (by simp) rfl) (lv_cons .nil lv_nil))) rfl rfl rfl ⟨rfl, trivial⟩ trivial)

theorem sync_own (n m : Nat) (cs : List Int) (ps : List (Int × Int)) (hn : cs.length = n) (hm : ps.length = m) (h1 : n ≤ 1000000) (h2 : m ≤ 1000000) (hok : Ok n ps) :
    Spec Try.prog 23 (inStI [.agg [.sl n (isl cs), .sl m (wsl ps)]] []) (outStI (.agg [.ref (0, 8) 0 n, .v (.slice none 0 0)]) [((0, 8), .row 3 1 (isl (app cs ps)))] [] []) := by
  refine Spec.ofNI Try.func23 rfl Try.ntmps23 rfl ?_
  refine D_seq fun K1 hK1 => ?_
  refine D_region ?_
  refine DL_c (op_box (1, 0) _ rfl rfl) ?_
  refine DL_c (op_alloc (2, 0) inferInstance rfl rfl) ?_
  refine DL_nil (hK1 _ ?_)
  clear hK1; try clear K1
  refine D_seq fun K2 hK2 => ?_
  refine D_region ?_
  first
    | refine DL_c (op_ldBA _ inferInstance rfl rfl rfl rfl) ?_
    | refine DL_c (op_ldRA _ inferInstance rfl rfl (by first | rfl | assumption) rfl) ?_
    | refine DL_c (op_ldFA _ inferInstance rfl (by first | rfl | assumption) rfl) ?_
  refine DL_c (op_callR inferInstance [((0, 8), (50, 0))] ?_ (own_specF n m cs ps hn hm h1 h2) trivial ⟨rfl, trivial⟩ rfl) ?_
  · repeat' (first | exact argsR_nil | refine argsR_cons ?_ ?_ | exact Lv.v | exact Lv.sl | exact Lv.fp | exact Lv.nil | exact Lv.ref | exact Lv.ptr | refine Lv.agg rfl ?_ | exact lv_nil | refine lv_cons ?_ ?_)
  refine DL_c (op_alloc (3, 0) inferInstance rfl rfl) ?_
  first
    | refine DL_c (op_stB _ _ inferInstance rfl rfl rfl rfl (Nat.le_of_ble_eq_true rfl) rfl) ?_
    | refine DL_c (op_stR _ _ inferInstance rfl rfl rfl rfl rfl (by first | exact Nat.le_of_ble_eq_true rfl | (simp; omega)) rfl) ?_
  refine DL_nil (hK2 _ ?_)
  clear hK2; try clear K2
  refine D_seq fun K3 hK3 => ?_
  refine D_region ?_
  first
    | refine DL_c (op_fldP _ inferInstance rfl rfl rfl) ?_
    | refine DL_c (op_fldF _ inferInstance rfl rfl) ?_
  first
    | refine DL_c (op_ldB _ inferInstance rfl rfl (rfl : _ = some (AV.sl _ _))) ?_
    | refine DL_c (op_ldB _ inferInstance rfl rfl (rfl : _ = some (AV.ref _ _ _))) ?_
    | refine DL_c (op_ldB _ inferInstance rfl rfl (rfl : _ = some (AV.v (.slice _ _ _)))) ?_
    | refine DL_c (op_ldR _ inferInstance rfl rfl (by first | rfl | exact isl_get _ _ (by omega) | exact bsl_get _ _ (by omega) | exact wsl_get0 _ _ (by omega) | exact wsl_get1 _ _ (by omega) | assumption) rfl) ?_
    | refine DL_c (op_ldF _ inferInstance rfl (by first | rfl | exact isl_get _ _ (by omega) | exact bsl_get _ _ (by omega) | exact wsl_get0 _ _ (by omega) | exact wsl_get1 _ _ (by omega) | assumption) rfl) ?_
  first
    | refine DL_c (op_fldP _ inferInstance rfl rfl rfl) ?_
    | refine DL_c (op_fldF _ inferInstance rfl rfl) ?_
  first
    | refine DL_c (op_ldB _ inferInstance rfl rfl (rfl : _ = some (AV.sl _ _))) ?_
    | refine DL_c (op_ldB _ inferInstance rfl rfl (rfl : _ = some (AV.ref _ _ _))) ?_
    | refine DL_c (op_ldB _ inferInstance rfl rfl (rfl : _ = some (AV.v (.slice _ _ _)))) ?_
    | refine DL_c (op_ldR _ inferInstance rfl rfl (by first | rfl | exact isl_get _ _ (by omega) | exact bsl_get _ _ (by omega) | exact wsl_get0 _ _ (by omega) | exact wsl_get1 _ _ (by omega) | assumption) rfl) ?_
    | refine DL_c (op_ldF _ inferInstance rfl (by first | rfl | exact isl_get _ _ (by omega) | exact bsl_get _ _ (by omega) | exact wsl_get0 _ _ (by omega) | exact wsl_get1 _ _ (by omega) | assumption) rfl) ?_
  refine DL_c (op_callR inferInstance [((0, 9), (50, 0))] ?_ (apply_spec n m cs ps hn hm h1 h2 hok) ⟨⟨rfl, ⟨_, rfl, .rowE rfl⟩, rfl⟩, trivial⟩ ⟨rfl, trivial⟩ rfl) ?_
  · repeat' (first | exact argsR_nil | refine argsR_cons ?_ ?_ | exact Lv.v | exact Lv.sl | exact Lv.fp | exact Lv.nil | exact Lv.ref | exact Lv.ptr | refine Lv.agg rfl ?_ | exact lv_nil | refine lv_cons ?_ ?_)
  refine DL_nil (hK3 _ ?_)
  clear hK3; try clear K3
  refine D_seq fun K4 hK4 => ?_
  refine D_region ?_
  first
    | refine DL_c (op_fldP _ inferInstance rfl rfl rfl) ?_
    | refine DL_c (op_fldF _ inferInstance rfl rfl) ?_
  first
    | refine DL_c (op_stB _ _ inferInstance rfl rfl rfl rfl (Nat.le_of_ble_eq_true rfl) rfl) ?_
    | refine DL_c (op_stR _ _ inferInstance rfl rfl rfl rfl rfl (by first | exact Nat.le_of_ble_eq_true rfl | (simp; omega)) rfl) ?_
  refine DL_nil (hK4 _ ?_)
  clear hK4; try clear K4
  refine D_seq fun K5 hK5 => ?_
  refine D_region ?_
  first
    | refine DL_c (op_ldBA _ inferInstance rfl rfl rfl rfl) ?_
    | refine DL_c (op_ldRA _ inferInstance rfl rfl (by first | rfl | assumption) rfl) ?_
    | refine DL_c (op_ldFA _ inferInstance rfl (by first | rfl | assumption) rfl) ?_
  first
    | refine DL_c (op_stB _ _ inferInstance rfl rfl rfl rfl (Nat.le_of_ble_eq_true rfl) rfl) ?_
    | refine DL_c (op_stR _ _ inferInstance rfl rfl rfl rfl rfl (by first | exact Nat.le_of_ble_eq_true rfl | (simp; omega)) rfl) ?_
  refine DL_nil (hK5 _ ?_)
  clear hK5; try clear K5
  refine D_ret ?_
  refine ret1 (.inr rfl) rfl (.cellA inferInstance rfl rfl rfl) ?_
  exact Le.outI [((0, 8), (50, 0))] [] (.agg rfl (lv_cons .ref (lv_cons .v lv_nil))) rfl rfl rfl trivial ⟨⟨rfl, ⟨_, rfl, .rowE rfl⟩, rfl⟩, trivial⟩ trivial rfl
theorem sync_spec (n m : Nat) (cs : List Int) (ps : List (Int × Int)) (hn : cs.length = n) (hm : ps.length = m) (h1 : n ≤ 1000000) (h2 : m ≤ 1000000) (hok : Ok n ps) :
    Spec Try.prog 23 (inSt [.agg [.sl n (isl cs), .sl m (wsl ps)]] []) (outSt (.agg [.sl n (isl (app cs ps)), .sl 0 []]) []) :=
  (sync_own n m cs ps hn hm h1 h2 hok).mono (Le.outO [] [(0, 8)] (.agg rfl (lv_cons (frz0 rfl rfl (by simp [length_app, hn]) rfl) (lv_cons .nil lv_nil))) rfl rfl rfl ⟨rfl, trivial⟩ trivial)

theorem view_own (n m : Nat) (cs : List Int) (ps : List (Int × Int)) (hn : cs.length = n) (hm : ps.length = m) (h1 : n ≤ 1000000) (h2 : m ≤ 1000000) (hok : Ok n ps) :
    Spec Try.prog 20 (inStI [.agg [.sl n (isl cs), .sl m (wsl ps)]] []) (outStI (.ref (0, 8) 0 n) [((0, 8), .row 3 1 (isl (app cs ps)))] [] []) := by
  refine Spec.ofNI Try.func20 rfl Try.ntmps20 rfl ?_
  refine D_seq fun K1 hK1 => ?_
  refine D_region ?_
  refine DL_c (op_box (1, 0) _ rfl rfl) ?_
  first
    | refine DL_c (op_as _ (rfl : _ = AV.sl _ _)) ?_
    | refine DL_c (op_as _ (rfl : _ = AV.ref _ _ _)) ?_
    | refine DL_c (op_as _ (rfl : _ = AV.v (.slice _ _ _))) ?_
  refine DL_nil (hK1 _ ?_)
  clear hK1; try clear K1
  refine D_seq fun K2 hK2 => ?_
  refine D_region ?_
  first
    | refine DL_c (op_ldBA _ inferInstance rfl rfl rfl rfl) ?_
    | refine DL_c (op_ldRA _ inferInstance rfl rfl (by first | rfl | assumption) rfl) ?_
    | refine DL_c (op_ldFA _ inferInstance rfl (by first | rfl | assumption) rfl) ?_
  refine DL_c (op_callR inferInstance [((0, 8), (50, 0))] ?_ (sync_own n m cs ps hn hm h1 h2 hok) trivial ⟨rfl, trivial⟩ rfl) ?_
  · repeat' (first | exact argsR_nil | refine argsR_cons ?_ ?_ | exact Lv.v | exact Lv.sl | exact Lv.fp | exact Lv.nil | exact Lv.ref | exact Lv.ptr | refine Lv.agg rfl ?_ | exact lv_nil | refine lv_cons ?_ ?_)
  first
    | refine DL_c (op_fv1 _ inferInstance rfl (rfl : _ = some (AV.v (.int _ _)))) ?_
    | refine DL_c (op_fv1 _ inferInstance rfl (rfl : _ = some (AV.v (.bool _)))) ?_
    | refine DL_c (op_fv1 _ inferInstance rfl (rfl : _ = some (AV.sl _ _))) ?_
    | refine DL_c (op_fv1 _ inferInstance rfl (rfl : _ = some (AV.ref _ _ _))) ?_
    | refine DL_c (op_fv1 _ inferInstance rfl (rfl : _ = some (AV.agg _))) ?_
    | refine DL_c (op_fv1 _ inferInstance rfl (rfl : _ = some (AV.ptr _ _))) ?_
    | refine DL_c (op_fv1 _ inferInstance rfl (rfl : _ = some (AV.fp _ _))) ?_
    | refine DL_c (op_fv1 _ inferInstance rfl (rfl : _ = some (AV.v _))) ?_
    | refine DL_c (op_fv1 _ inferInstance rfl (rfl : _ = some (AV.fn _ _ _))) ?_
    | refine DL_c (op_fv1 _ inferInstance rfl (rfl : _ = some (AV.tup _))) ?_
    | refine DL_c (op_fv1 _ inferInstance rfl (rfl : _ = some (AV.ifc _ _))) ?_
    | refine DL_c (op_fvA _ inferInstance rfl rfl rfl) ?_
  first
    | refine DL_c (op_as _ (rfl : _ = AV.sl _ _)) ?_
    | refine DL_c (op_as _ (rfl : _ = AV.ref _ _ _)) ?_
    | refine DL_c (op_as _ (rfl : _ = AV.v (.slice _ _ _))) ?_
  refine DL_nil (hK2 _ ?_)
  clear hK2; try clear K2
  refine D_ret ?_
  refine ret1 (.inr rfl) rfl (.tmp (rfl : _ = AV.ref _ _ _)) ?_
  exact Le.outI [((0, 8), (50, 0))] [] .ref rfl rfl rfl trivial ⟨⟨rfl, ⟨_, rfl, .rowE rfl⟩, rfl⟩, trivial⟩ trivial rfl
theorem view_spec (n m : Nat) (cs : List Int) (ps : List (Int × Int)) (hn : cs.length = n) (hm : ps.length = m) (h1 : n ≤ 1000000) (h2 : m ≤ 1000000) (hok : Ok n ps) :
    Spec Try.prog 20 (inSt [.agg [.sl n (isl cs), .sl m (wsl ps)]] []) (outSt (.sl n (isl (app cs ps))) []) :=
  (view_own n m cs ps hn hm h1 h2 hok).mono (Le.outO [] [(0, 8)] (frz0 rfl rfl (by simp [length_app, hn]) rfl) rfl rfl rfl ⟨rfl, trivial⟩ trivial)
end Go.Proofs.Ytphlaojoehmhaaa
