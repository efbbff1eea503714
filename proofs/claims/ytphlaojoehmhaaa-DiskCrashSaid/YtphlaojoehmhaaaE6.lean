/- The disk's functions by the machine: Resize; the reference's after, View, Sync, New. -/
import Derived.Test.YtphlaojoehmhaaaE5
set_option linter.unusedSimpArgs false
set_option linter.unusedVariables false
namespace Go.Proofs.Ytphlaojoehmhaaa
open Go.RowKit

theorem crash_spec (n m q : Nat) (cs : List Int) (ps : List (Int × Int)) (bs : List Bool) (hn : cs.length = n) (hm : ps.length = m) (hq : bs.length = q) (h1 : n ≤ 1000000) (h2 : m ≤ 1000000) (h3 : q ≤ 9223372036854775807) (hok : Ok n ps) :
    Spec Try.prog 24 (inSt [.agg [.sl n (isl cs), .sl m (wsl ps)], .sl q (bsl bs)] []) (outSt (.agg [.sl n (isl (app cs (kept ps bs))), .sl 0 []]) []) :=
  (crash_own n m q cs ps bs hn hm hq h1 h2 h3 hok).mono (Le.outO [] [(0, 8)] (.agg rfl (lv_cons (frz0 rfl rfl (by simp [length_app, hn]) rfl) (lv_cons .nil lv_nil))) rfl rfl rfl ⟨rfl, trivial⟩ trivial)

theorem fit_isl (a : List Int) (k n : Nat) (hn : a.length = n) : (isl a).take k ++ (isl (List.replicate k 0)).drop n = isl (fit a k) := by
  rw [isl_take, isl_drop, isl_append, fit, hn, List.drop_replicate]
theorem resize_own (n m k : Nat) (cs : List Int) (ps : List (Int × Int)) (hn : cs.length = n) (hm : ps.length = m) (h1 : n ≤ 1000000) (h2 : m ≤ 1000000) (h3 : k ≤ 1000000) (hok : Ok n ps) :
    Spec Try.prog 25 (inStI [.agg [.sl n (isl cs), .sl m (wsl ps)], .v (.int .i64 (k : Int))] []) (outStI (.agg [.ref (0, 8) 0 k, .v (.slice none 0 0)]) [((0, 8), .row 3 1 (isl (fit (app cs ps) k)))] [] []) := by
  refine Spec.ofNI Try.func25 rfl Try.ntmps25 rfl ?_
  refine D_seq fun K1 hK1 => ?_
  refine D_region ?_
  refine DL_c (op_box (2, 0) _ rfl rfl) ?_
  refine DL_c (op_alloc (4, 0) inferInstance rfl rfl) ?_
  refine DL_nil (hK1 _ ?_)
  clear hK1; try clear K1
  refine D_seq fun K2 hK2 => ?_
  refine D_region ?_
  refine DL_c (op_mv _ (rfl : _ = AV.v (.int _ _))) ?_
  refine DL_c (op_callR inferInstance [((0, 8), (50, 0))] ?_ (new_own k h3) trivial ⟨rfl, trivial⟩ rfl) ?_
  · repeat' (first | exact argsR_nil | refine argsR_cons ?_ ?_ | exact Lv.v | exact Lv.sl | exact Lv.fp | exact Lv.nil | exact Lv.ref | exact Lv.ptr | refine Lv.agg rfl ?_ | exact lv_nil | refine lv_cons ?_ ?_)
  refine DL_c (op_alloc (5, 0) inferInstance rfl rfl) ?_
  first
    | refine DL_c (op_stB _ _ inferInstance rfl rfl rfl rfl (Nat.le_of_ble_eq_true rfl) rfl) ?_
    | refine DL_c (op_stR _ _ inferInstance rfl rfl rfl rfl rfl (by first | exact Nat.le_of_ble_eq_true rfl | (simp; omega)) rfl) ?_
  refine DL_nil (hK2 _ ?_)
  clear hK2; try clear K2
  refine D_seq fun K3 hK3 => ?_
  refine D_any 4 [8, 9, 10, 11] [] (by kernel_rfl) (by kernel_rfl) rfl (nodupO_iff rfl) ?_
  first
    | refine any_c (_, none) (fun τ => op_fldP _ inferInstance rfl rfl rfl) ?_
    | refine any_c (_, none) (fun τ => op_fldF _ inferInstance rfl rfl) ?_
  first
    | refine any_c (_, none) (fun τ => op_ldB _ inferInstance rfl rfl (rfl : _ = some (AV.sl _ _))) ?_
    | refine any_c (_, none) (fun τ => op_ldB _ inferInstance rfl rfl (rfl : _ = some (AV.ref _ _ _))) ?_
    | refine any_c (_, none) (fun τ => op_ldB _ inferInstance rfl rfl (rfl : _ = some (AV.v (.slice _ _ _)))) ?_
    | refine any_c (_, none) (fun τ => op_ldR _ inferInstance rfl rfl (by first | rfl | exact isl_get _ _ (by omega) | exact bsl_get _ _ (by omega) | exact wsl_get0 _ _ (by omega) | exact wsl_get1 _ _ (by omega) | assumption) rfl) ?_
    | refine any_c (_, none) (fun τ => op_ldF _ inferInstance rfl (by first | rfl | exact isl_get _ _ (by omega) | exact bsl_get _ _ (by omega) | exact wsl_get0 _ _ (by omega) | exact wsl_get1 _ _ (by omega) | assumption) rfl) ?_
  first
    | refine any_c (_, none) (fun τ => op_ldBA _ inferInstance rfl rfl rfl rfl) ?_
    | refine any_c (_, none) (fun τ => op_ldRA _ inferInstance rfl rfl (by first | rfl | assumption) rfl) ?_
    | refine any_c (_, none) (fun τ => op_ldFA _ inferInstance rfl (by first | rfl | assumption) rfl) ?_
  refine any_c (_, none) (fun τ => op_callH inferInstance (by repeat' (first | exact argsLv_nil | refine argsLv_cons ?_ ?_ | exact Lv.v | exact Lv.sl | exact Lv.fp | exact Lv.nil | refine Lv.agg rfl ?_ | exact lv_nil | refine lv_cons ?_ ?_)) (view_spec n m cs ps hn hm h1 h2 hok) rfl rfl) ?_
  refine any_end ⟨rfl, ?_⟩
  simp only [List.drop_succ_cons, List.drop_zero, List.drop_nil]
  refine DL_c (op_cp _ _ inferInstance rfl rfl (by simp) (.sl (m := n) (by simp [length_app, hn])) (fit_isl _ k n (by rw [length_app, hn])) rfl) ?_
  refine DL_nil (hK3 _ ?_)
  clear hK3; try clear K3
  refine D_seq fun K4 hK4 => ?_
  refine D_region ?_
  first
    | refine DL_c (op_ldBA _ inferInstance rfl rfl rfl rfl) ?_
    | refine DL_c (op_ldRA _ inferInstance rfl rfl (by first | rfl | assumption) rfl) ?_
    | refine DL_c (op_ldFA _ inferInstance rfl (by first | rfl | assumption) rfl) ?_
  first
    | refine DL_c (op_stB _ _ inferInstance rfl rfl rfl rfl (Nat.le_of_ble_eq_true rfl) rfl) ?_
    | refine DL_c (op_stR _ _ inferInstance rfl rfl rfl rfl rfl (by first | exact Nat.le_of_ble_eq_true rfl | (simp; omega)) rfl) ?_
  refine DL_nil (hK4 _ ?_)
  clear hK4; try clear K4
  refine D_ret ?_
  refine ret1 (.inr rfl) rfl (.cellA inferInstance rfl rfl rfl) ?_
  exact Le.outI [((0, 8), (50, 0))] [] (.agg rfl (lv_cons .ref (lv_cons .v lv_nil))) rfl rfl rfl trivial ⟨⟨rfl, ⟨_, rfl, .rowE rfl⟩, rfl⟩, trivial⟩ trivial rfl
theorem resize_spec (n m k : Nat) (cs : List Int) (ps : List (Int × Int)) (hn : cs.length = n) (hm : ps.length = m) (h1 : n ≤ 1000000) (h2 : m ≤ 1000000) (h3 : k ≤ 1000000) (hok : Ok n ps) :
    Spec Try.prog 25 (inSt [.agg [.sl n (isl cs), .sl m (wsl ps)], .v (.int .i64 (k : Int))] []) (outSt (.agg [.sl k (isl (fit (app cs ps) k)), .sl 0 []]) []) :=
  (resize_own n m k cs ps hn hm h1 h2 h3 hok).mono (Le.outO [] [(0, 8)] (.agg rfl (lv_cons (frz0 rfl rfl (by simp [length_fit]) rfl) (lv_cons .nil lv_nil))) rfl rfl rfl ⟨rfl, trivial⟩ trivial)

theorem after_own (n m : Nat) (cs : List Int) (ps : List (Int × Int)) (hn : cs.length = n) (hm : ps.length = m) (h1 : n ≤ 1000000) (h2 : m ≤ 1000000) (hok : Ok n ps) :
    Spec Try.prog 33 (inStI [.sl n (isl cs), .sl m (wsl ps)] []) (outStI (.ref (0, 8) 0 n) [((0, 8), .row 3 1 (isl (app cs ps)))] [] []) := by
  refine Spec.ofNI Try.func33 rfl Try.ntmps33 rfl ?_
  refine D_seq fun K1 hK1 => ?_
  refine D_region ?_
  first
    | refine DL_c (op_as _ (rfl : _ = AV.sl _ _)) ?_
    | refine DL_c (op_as _ (rfl : _ = AV.ref _ _ _)) ?_
    | refine DL_c (op_as _ (rfl : _ = AV.v (.slice _ _ _))) ?_
  refine DL_nil (hK1 _ ?_)
  clear hK1; try clear K1
  refine D_seq fun K2 hK2 => ?_
  refine D_region ?_
  refine DL_c (op_bs (7, 0) _ _ inferInstance rfl (by rfl) (by simp <;> rfl) (by decide) rfl rfl) ?_
  first
    | refine DL_c (op_mv _ (rfl : _ = AV.sl _ _)) ?_
    | refine DL_c (op_mv _ (rfl : _ = AV.ref _ _ _)) ?_
    | refine DL_c (op_mv _ (rfl : _ = AV.v (.slice _ _ _))) ?_
  refine DL_c (op_ap (9, 0) _ _ inferInstance rfl rfl rfl (.sl (m := n) (by simp [hn])) (by omega) rfl (rfl : _ = isl cs) (Nat.zero_add n)) ?_
  first
    | refine DL_c (op_as _ (rfl : _ = AV.sl _ _)) ?_
    | refine DL_c (op_as _ (rfl : _ = AV.ref _ _ _)) ?_
    | refine DL_c (op_as _ (rfl : _ = AV.v (.slice _ _ _))) ?_
  refine DL_nil (hK2 _ ?_)
  clear hK2; try clear K2
  refine D_seq fun K3 hK3 => ?_
  refine D_seq fun K4 hK4 => ?_
  refine D_region ?_
  refine DL_c (op_as _ (rfl : _ = AV.v (.int _ _))) ?_
  refine DL_nil (hK4 _ ?_)
  clear hK4; try clear K4
  refine D_block ?_
  refine D_loopP (fun k : Nat => k ≤ m) (fun k => mkStI 29 [(1, .sl m (wsl ps)), (5, .ref (9, 0) 0 n), (6, .v (.int .i64 (k : Int)))] [((9, 0), .row 3 1 (isl (app cs (ps.take k))))] [] []) (fun k => m - k) 0 ?_ ?_ ?_
  · omega
  · exact Le.mkI [] [] rfl ⟨.sl, .ref, .v, trivial⟩ rfl rfl rfl trivial ⟨⟨rfl, ⟨_, rfl, .rowE rfl⟩, rfl⟩, trivial⟩ trivial rfl
  · rintro k hk
    refine D_seq fun K5 hK5 => ?_
    refine D_seq fun K6 hK6 => ?_
    refine D_region ?_
    refine DL_c (op_mv _ (rfl : _ = AV.v (.int _ _))) ?_
    first
      | refine DL_c (op_mv _ (rfl : _ = AV.sl _ _)) ?_
      | refine DL_c (op_mv _ (rfl : _ = AV.ref _ _ _)) ?_
      | refine DL_c (op_mv _ (rfl : _ = AV.v (.slice _ _ _))) ?_
    first
      | refine DL_c (op_lenS _ inferInstance rfl) ?_
      | refine DL_c (op_lenR _ inferInstance rfl rfl) ?_
      | refine DL_c (op_lenN _ inferInstance rfl) ?_
    refine DL_c (op_lss _ _ rfl rfl rfl) ?_
    refine DL_nil (hK6 _ ?_)
    clear hK6; try clear K6
    refine D_split rfl (fun hc13 => ?_) (fun hc13 => ?_)
    · try simp only [decide_eq_true_eq, decide_eq_false_iff_not, bne_iff_ne, bne_eq_false_iff_eq, beq_iff_eq, beq_eq_false_iff_ne, Bool.not_eq_true', Bool.not_eq_false', ne_eq, Int.not_lt, Int.not_le] at hc13
      have hkm : k < ps.length := by omega
      have hb := hok.at k hkm
      have hx : ps.getD k (0, 0) = ps[k] := getD_at _ _ _ hkm
      have hap := app_take_succ cs ps k hkm
      have hlen : (app cs (ps.take k)).length = n := by rw [length_app, hn]
      refine D_skip (hK5 _ ?_)
      clear hK5; try clear K5
      refine D_seq fun K7 hK7 => ?_
      refine D_block ?_
      refine D_any 12 [16, 17, 18, 19, 20, 21, 22, 23, 24, 25, 26, 27] [] (by kernel_rfl) (by kernel_rfl) rfl (nodupO_iff rfl) ?_
      first
        | refine any_c (_, none) (fun τ => op_mv _ (rfl : _ = AV.sl _ _)) ?_
        | refine any_c (_, none) (fun τ => op_mv _ (rfl : _ = AV.ref _ _ _)) ?_
        | refine any_c (_, none) (fun τ => op_mv _ (rfl : _ = AV.v (.slice _ _ _))) ?_
      first
        | refine any_c (_, none) (fun τ => op_mv _ (rfl : _ = AV.sl _ _)) ?_
        | refine any_c (_, none) (fun τ => op_mv _ (rfl : _ = AV.ref _ _ _)) ?_
        | refine any_c (_, none) (fun τ => op_mv _ (rfl : _ = AV.v (.slice _ _ _))) ?_
      refine any_c (_, none) (fun τ => op_mv _ (rfl : _ = AV.v (.int _ _))) ?_
      first
        | refine any_c (_, none) (fun τ => op_ixS _ _ inferInstance rfl rfl _ rfl (by omega) (by first | assumption | decide | (simp [isl]; omega)) (by first | exact Nat.mul_one _ | rfl)) ?_
        | refine any_c (_, none) (fun τ => op_ixS _ _ inferInstance rfl rfl 0 rfl (by omega) (by first | assumption | decide | (simp [isl]; omega)) (by first | exact Nat.mul_one _ | rfl)) ?_
        | refine any_c (_, none) (fun τ => op_ixS _ _ inferInstance rfl rfl 1 rfl (by omega) (by first | assumption | decide | (simp [isl]; omega)) (by first | exact Nat.mul_one _ | rfl)) ?_
        | refine any_c (_, none) (fun τ => op_ixS _ _ inferInstance rfl rfl (Int.toNat _) (Int.toNat_of_nonneg (by omega)).symm (by omega) (by first | assumption | decide | (simp [isl]; omega)) (by first | exact Nat.mul_one _ | rfl)) ?_
        | refine any_c (_, none) (fun τ => op_ixR _ _ inferInstance rfl rfl rfl _ rfl (by omega) (by first | exact Nat.mul_one _ | rfl)) ?_
        | refine any_c (_, none) (fun τ => op_ixR _ _ inferInstance rfl rfl rfl 0 rfl (by omega) (by first | exact Nat.mul_one _ | rfl)) ?_
        | refine any_c (_, none) (fun τ => op_ixR _ _ inferInstance rfl rfl rfl 1 rfl (by omega) (by first | exact Nat.mul_one _ | rfl)) ?_
        | refine any_c (_, none) (fun τ => op_ixR _ _ inferInstance rfl rfl rfl (Int.toNat _) (Int.toNat_of_nonneg (by omega)).symm (by omega) (by first | exact Nat.mul_one _ | rfl)) ?_
      first
        | refine any_c (_, none) (fun τ => op_fldP _ inferInstance rfl rfl rfl) ?_
        | refine any_c (_, none) (fun τ => op_fldF _ inferInstance rfl rfl) ?_
      refine any_c (_, none) (fun τ => op_ldF _ inferInstance rfl (by exact wsl_get0 _ _ (by omega)) rfl) ?_
      first
        | refine any_c (_, none) (fun τ => op_mv _ (rfl : _ = AV.sl _ _)) ?_
        | refine any_c (_, none) (fun τ => op_mv _ (rfl : _ = AV.ref _ _ _)) ?_
        | refine any_c (_, none) (fun τ => op_mv _ (rfl : _ = AV.v (.slice _ _ _))) ?_
      refine any_c (_, none) (fun τ => op_mv _ (rfl : _ = AV.v (.int _ _))) ?_
      first
        | refine any_c (_, none) (fun τ => op_ixS _ _ inferInstance rfl rfl _ rfl (by omega) (by first | assumption | decide | (simp [isl]; omega)) (by first | exact Nat.mul_one _ | rfl)) ?_
        | refine any_c (_, none) (fun τ => op_ixS _ _ inferInstance rfl rfl 0 rfl (by omega) (by first | assumption | decide | (simp [isl]; omega)) (by first | exact Nat.mul_one _ | rfl)) ?_
        | refine any_c (_, none) (fun τ => op_ixS _ _ inferInstance rfl rfl 1 rfl (by omega) (by first | assumption | decide | (simp [isl]; omega)) (by first | exact Nat.mul_one _ | rfl)) ?_
        | refine any_c (_, none) (fun τ => op_ixS _ _ inferInstance rfl rfl (Int.toNat _) (Int.toNat_of_nonneg (by omega)).symm (by omega) (by first | assumption | decide | (simp [isl]; omega)) (by first | exact Nat.mul_one _ | rfl)) ?_
        | refine any_c (_, none) (fun τ => op_ixR _ _ inferInstance rfl rfl rfl _ rfl (by omega) (by first | exact Nat.mul_one _ | rfl)) ?_
        | refine any_c (_, none) (fun τ => op_ixR _ _ inferInstance rfl rfl rfl 0 rfl (by omega) (by first | exact Nat.mul_one _ | rfl)) ?_
        | refine any_c (_, none) (fun τ => op_ixR _ _ inferInstance rfl rfl rfl 1 rfl (by omega) (by first | exact Nat.mul_one _ | rfl)) ?_
        | refine any_c (_, none) (fun τ => op_ixR _ _ inferInstance rfl rfl rfl (Int.toNat _) (Int.toNat_of_nonneg (by omega)).symm (by omega) (by first | exact Nat.mul_one _ | rfl)) ?_
      first
        | refine any_c (_, none) (fun τ => op_fldP _ inferInstance rfl rfl rfl) ?_
        | refine any_c (_, none) (fun τ => op_fldF _ inferInstance rfl rfl) ?_
      refine any_c (_, none) (fun τ => op_ldF _ inferInstance rfl (by exact wsl_get1 _ _ (by omega)) rfl) ?_
      refine any_c (_, none) (fun τ => op_ixR _ _ inferInstance rfl rfl rfl (Int.toNat _) (Int.toNat_of_nonneg (by rw [hx]; exact hb.1)).symm (by rw [hx]; omega) (Nat.zero_add _)) ?_
      refine any_end ⟨rfl, ?_⟩
      simp only [List.drop_succ_cons, List.drop_zero, List.drop_nil]
      refine DL_c (op_stR _ _ inferInstance rfl rfl rfl rfl rfl (by simp [hlen]; rw [← List.getD_eq_getElem?_getD, hx]; omega) rfl) ?_
      refine DL_nil (hK7 _ ?_)
      clear hK7; try clear K7
      refine D_region ?_
      refine DL_c (op_mv _ (rfl : _ = AV.v (.int _ _))) ?_
      first
        | refine DL_c (op_add _ _ rfl rfl (i64w (by omega))) ?_
        | refine DL_c (op_add _ _ rfl rfl rfl) ?_
      refine DL_c (op_as _ (rfl : _ = AV.v (.int _ _))) ?_
      refine DL_nil ?_
      refine ⟨k + 1, by omega, Le.mkI [] [] rfl ⟨.sl, .ref, lvI (by omega), trivial⟩ rfl rfl rfl trivial ⟨⟨rfl, ⟨_, rfl, .rowE ?_⟩, rfl⟩, trivial⟩ trivial rfl, by omega⟩
      rw [Nat.mul_one, isl_put _ _ _ (by rw [hlen, hx]; omega), hap, hx]; rfl
    · try simp only [decide_eq_true_eq, decide_eq_false_iff_not, bne_iff_ne, bne_eq_false_iff_eq, beq_iff_eq, beq_eq_false_iff_ne, Bool.not_eq_true', Bool.not_eq_false', ne_eq, Int.not_lt, Int.not_le] at hc13
      refine D_exit ?_
      refine id (hK3 _ ?_)
      clear hK3; try clear K3
      refine D_seq fun K8 hK8 => ?_
      refine D_region ?_
      first
        | refine DL_c (op_mv _ (rfl : _ = AV.sl _ _)) ?_
        | refine DL_c (op_mv _ (rfl : _ = AV.ref _ _ _)) ?_
        | refine DL_c (op_mv _ (rfl : _ = AV.v (.slice _ _ _))) ?_
      first
        | refine DL_c (op_as _ (rfl : _ = AV.sl _ _)) ?_
        | refine DL_c (op_as _ (rfl : _ = AV.ref _ _ _)) ?_
        | refine DL_c (op_as _ (rfl : _ = AV.v (.slice _ _ _))) ?_
      refine DL_nil (hK8 _ ?_)
      clear hK8; try clear K8
      refine D_ret ?_
      refine ret1 (.inr rfl) rfl (.tmp (rfl : _ = AV.ref _ _ _)) ?_
      refine Le.outI [((0, 8), (9, 0))] [] .ref rfl rfl rfl trivial ⟨⟨rfl, ⟨_, rfl, .rowE ?_⟩, rfl⟩, trivial⟩ trivial rfl
      rw [List.take_of_length_le (by omega)]
theorem after_spec (n m : Nat) (cs : List Int) (ps : List (Int × Int)) (hn : cs.length = n) (hm : ps.length = m) (h1 : n ≤ 1000000) (h2 : m ≤ 1000000) (hok : Ok n ps) :
    Spec Try.prog 33 (inSt [.sl n (isl cs), .sl m (wsl ps)] []) (outSt (.sl n (isl (app cs ps))) []) :=
  (after_own n m cs ps hn hm h1 h2 hok).mono (Le.outO [] [(0, 8)] (frz0 rfl rfl (by simp [length_app, hn]) rfl) rfl rfl rfl ⟨rfl, trivial⟩ trivial)

theorem rview_own (n m : Nat) (cs : List Int) (ps : List (Int × Int)) (hn : cs.length = n) (hm : ps.length = m) (h1 : n ≤ 1000000) (h2 : m ≤ 1000000) (hok : Ok n ps) :
    Spec Try.prog 21 (inStI [.agg [.sl n (isl cs), .sl m (wsl ps)]] []) (outStI (.ref (0, 8) 0 n) [((0, 8), .row 3 1 (isl (app cs ps)))] [] []) := by
  refine Spec.ofNI Try.func21 rfl Try.ntmps21 rfl ?_
  refine D_seq fun K1 hK1 => ?_
  refine D_region ?_
  refine DL_c (op_box (1, 0) _ rfl rfl) ?_
  first
    | refine DL_c (op_as _ (rfl : _ = AV.sl _ _)) ?_
    | refine DL_c (op_as _ (rfl : _ = AV.ref _ _ _)) ?_
    | refine DL_c (op_as _ (rfl : _ = AV.v (.slice _ _ _))) ?_
  refine DL_nil (hK1 _ ?_)
  clear hK1; try clear K1
  refine D_seq fun K2 hK2 => ?_
  refine D_region ?_
  first
    | refine DL_c (op_fldP _ inferInstance rfl rfl rfl) ?_
    | refine DL_c (op_fldF _ inferInstance rfl rfl) ?_
  first
    | refine DL_c (op_ldB _ inferInstance rfl rfl (rfl : _ = some (AV.sl _ _))) ?_
    | refine DL_c (op_ldB _ inferInstance rfl rfl (rfl : _ = some (AV.ref _ _ _))) ?_
    | refine DL_c (op_ldB _ inferInstance rfl rfl (rfl : _ = some (AV.v (.slice _ _ _)))) ?_
    | refine DL_c (op_ldR _ inferInstance rfl rfl (by first | rfl | exact isl_get _ _ (by omega) | exact bsl_get _ _ (by omega) | exact wsl_get0 _ _ (by omega) | exact wsl_get1 _ _ (by omega) | assumption) rfl) ?_
    | refine DL_c (op_ldF _ inferInstance rfl (by first | rfl | exact isl_get _ _ (by omega) | exact bsl_get _ _ (by omega) | exact wsl_get0 _ _ (by omega) | exact wsl_get1 _ _ (by omega) | assumption) rfl) ?_
  first
    | refine DL_c (op_fldP _ inferInstance rfl rfl rfl) ?_
    | refine DL_c (op_fldF _ inferInstance rfl rfl) ?_
  first
    | refine DL_c (op_ldB _ inferInstance rfl rfl (rfl : _ = some (AV.sl _ _))) ?_
    | refine DL_c (op_ldB _ inferInstance rfl rfl (rfl : _ = some (AV.ref _ _ _))) ?_
    | refine DL_c (op_ldB _ inferInstance rfl rfl (rfl : _ = some (AV.v (.slice _ _ _)))) ?_
    | refine DL_c (op_ldR _ inferInstance rfl rfl (by first | rfl | exact isl_get _ _ (by omega) | exact bsl_get _ _ (by omega) | exact wsl_get0 _ _ (by omega) | exact wsl_get1 _ _ (by omega) | assumption) rfl) ?_
    | refine DL_c (op_ldF _ inferInstance rfl (by first | rfl | exact isl_get _ _ (by omega) | exact bsl_get _ _ (by omega) | exact wsl_get0 _ _ (by omega) | exact wsl_get1 _ _ (by omega) | assumption) rfl) ?_
  refine DL_c (op_callR inferInstance [((0, 8), (50, 0))] ?_ (after_own n m cs ps hn hm h1 h2 hok) trivial ⟨rfl, trivial⟩ rfl) ?_
  · repeat' (first | exact argsR_nil | refine argsR_cons ?_ ?_ | exact Lv.v | exact Lv.sl | exact Lv.fp | exact Lv.nil | exact Lv.ref | exact Lv.ptr | refine Lv.agg rfl ?_ | exact lv_nil | refine lv_cons ?_ ?_)
  first
    | refine DL_c (op_as _ (rfl : _ = AV.sl _ _)) ?_
    | refine DL_c (op_as _ (rfl : _ = AV.ref _ _ _)) ?_
    | refine DL_c (op_as _ (rfl : _ = AV.v (.slice _ _ _))) ?_
  refine DL_nil (hK2 _ ?_)
  clear hK2; try clear K2
  refine D_ret ?_
  refine ret1 (.inr rfl) rfl (.tmp (rfl : _ = AV.ref _ _ _)) ?_
  exact Le.outI [((0, 8), (50, 0))] [] .ref rfl rfl rfl trivial ⟨⟨rfl, ⟨_, rfl, .rowE rfl⟩, rfl⟩, trivial⟩ trivial rfl
theorem rview_spec (n m : Nat) (cs : List Int) (ps : List (Int × Int)) (hn : cs.length = n) (hm : ps.length = m) (h1 : n ≤ 1000000) (h2 : m ≤ 1000000) (hok : Ok n ps) :
    Spec Try.prog 21 (inSt [.agg [.sl n (isl cs), .sl m (wsl ps)]] []) (outSt (.sl n (isl (app cs ps))) []) :=
  (rview_own n m cs ps hn hm h1 h2 hok).mono (Le.outO [] [(0, 8)] (frz0 rfl rfl (by simp [length_app, hn]) rfl) rfl rfl rfl ⟨rfl, trivial⟩ trivial)
theorem rsync_spec (n m : Nat) (cs : List Int) (ps : List (Int × Int)) (hn : cs.length = n) (hm : ps.length = m) (h1 : n ≤ 1000000) (h2 : m ≤ 1000000) (hok : Ok n ps) :
    Spec Try.prog 29 (inSt [.agg [.sl n (isl cs), .sl m (wsl ps)]] []) (outSt (.agg [.sl n (isl (app cs ps)), .sl 0 []]) []) := by
  refine Spec.ofN Try.func29 rfl Try.ntmps29 rfl ?_
  refine D_seq fun K1 hK1 => ?_
  refine D_region ?_
  refine DL_c (op_box (1, 0) _ rfl rfl) ?_
  refine DL_c (op_alloc (2, 0) inferInstance rfl rfl) ?_
  refine DL_nil (hK1 _ ?_)
  clear hK1; try clear K1
  refine D_seq fun K2 hK2 => ?_
  refine D_region ?_
  first
    | refine DL_c (op_ldBA _ inferInstance rfl rfl rfl rfl) ?_
    | refine DL_c (op_ldRA _ inferInstance rfl rfl (by first | rfl | assumption) rfl) ?_
    | refine DL_c (op_ldFA _ inferInstance rfl (by first | rfl | assumption) rfl) ?_
  refine DL_c (op_callH inferInstance (by repeat' (first | exact argsLv_nil | refine argsLv_cons ?_ ?_ | exact Lv.v | exact Lv.sl | exact Lv.fp | exact Lv.nil | refine Lv.agg rfl ?_ | exact lv_nil | refine lv_cons ?_ ?_)) (rview_spec n m cs ps hn hm h1 h2 hok) rfl rfl) ?_
  refine DL_c (op_build _ inferInstance rfl (by exact (rfl : _ = some [_, _]))) ?_
  first
    | refine DL_c (op_stB _ _ inferInstance rfl rfl rfl rfl (Nat.le_of_ble_eq_true rfl) rfl) ?_
    | refine DL_c (op_stR _ _ inferInstance rfl rfl rfl rfl rfl (by first | exact Nat.le_of_ble_eq_true rfl | (simp; omega)) rfl) ?_
  refine DL_nil (hK2 _ ?_)
  clear hK2; try clear K2
  refine D_ret ?_
  refine ret1 (.inr rfl) rfl (.cellA inferInstance rfl rfl rfl) ?_
  exact Le.out [] [] (.agg rfl (lv_cons .sl (lv_cons .nil lv_nil))) rfl rfl rfl trivial trivial
theorem rnew_spec (n : Nat) (h1 : n ≤ 1000000) : Spec Try.prog 15 (inSt [.v (.int .i64 (n : Int))] []) (outSt (.agg [.sl n (isl (List.replicate n 0)), .sl 0 []]) []) := by
  refine Spec.ofN Try.func15 rfl Try.ntmps15 rfl ?_
  refine D_seq fun K1 hK1 => ?_
  refine D_region ?_
  refine DL_c (op_alloc (2, 0) inferInstance rfl rfl) ?_
  refine DL_nil (hK1 _ ?_)
  clear hK1; try clear K1
  refine D_seq fun K2 hK2 => ?_
  refine D_region ?_
  refine DL_c (op_mv _ (rfl : _ = AV.v (.int _ _))) ?_
  first
    | refine DL_c (op_mk (4, 0) _ _ inferInstance rfl rfl _ rfl rfl (by omega) rfl rfl) ?_
    | refine DL_c (op_mk (4, 0) _ _ inferInstance rfl rfl (Int.toNat _) (Int.toNat_of_nonneg (by omega)).symm (Int.toNat_of_nonneg (by omega)).symm (by omega) rfl rfl) ?_
  refine DL_c (op_build _ inferInstance rfl (by exact (rfl : _ = some [_, _]))) ?_
  first
    | refine DL_c (op_stB _ _ inferInstance rfl rfl rfl rfl (Nat.le_of_ble_eq_true rfl) rfl) ?_
    | refine DL_c (op_stR _ _ inferInstance rfl rfl rfl rfl rfl (by first | exact Nat.le_of_ble_eq_true rfl | (simp; omega)) rfl) ?_
  refine DL_nil (hK2 _ ?_)
  clear hK2; try clear K2
  refine D_ret ?_
  refine ret1 (.inr rfl) rfl (.cellA inferInstance rfl rfl rfl) ?_
  exact Le.out [] [(4, 0)] (.agg rfl (lv_cons (frz0 rfl rfl (by simp [length_rep]) (isl_zeros n)) (lv_cons .nil lv_nil))) rfl rfl rfl ⟨rfl, trivial⟩ trivial
end Go.Proofs.Ytphlaojoehmhaaa
