/- The disk's laws by the machine: DiskSync. -/
import Derived.Test.YtphlaojoehmhaaaE14
import Derived.Test.YtphlaojoehmhaaaDLib20
set_option linter.unusedSimpArgs false
set_option linter.unusedVariables false
namespace Go.Proofs.Ytphlaojoehmhaaa
open Go.RowKit

theorem bsl_take (a : List Bool) (k : Nat) : (bsl a).take k = bsl (a.take k) := by simp [bsl]

set_option maxHeartbeats 1000000 in
theorem sync_law (cells : Int) (hc : -9223372036854775808 ≤ cells ∧ cells ≤ 9223372036854775807) (nl : Nat) (ls : List Int) (hn : ls.length = nl) (h1 : nl ≤ 9223372036854775807) (hr : Rng ls) (nk : Nat) (ks : List Bool) (hk : ks.length = nk) (h2 : nk ≤ 9223372036854775807) :
    Spec Try.prog 6 (inSt [.v (.int .i64 cells), .sl nl (isl ls), .sl nk (bsl ks)] []) (outSt (.v (.bool true)) []) := by
  have hb := built_spec cells hc nl ls hn h1 hr
  have hg := Good.run (around cells 7).toNat (by have := around_lo cells 7 (by omega); have := around_hi cells 7 (by omega); omega) (ls.take 20)
  generalize run (around cells 7).toNat (ls.take 20) = s at *
  have hgn := hg.n
  have hgm := hg.m
  have hA : (app s.1 s.2).length = s.1.length := length_app _ _
  have hq : (ks.take (min nk 8)).length = min nk 8 := by rw [List.length_take]; omega
  refine Spec.ofNI Try.func6 rfl Try.ntmps6 rfl ?_
  refine D_seq fun K1 hK1 => ?_
  refine D_region ?_
  refine DL_c (op_as _ (rfl : _ = AV.v (.bool _))) ?_
  refine DL_nil (hK1 _ ?_)
  clear hK1; try clear K1
  refine D_seq fun K2 hK2 => ?_
  refine D_region ?_
  refine DL_c (op_mv _ (rfl : _ = AV.v (.int _ _))) ?_
  first
    | refine DL_c (op_mv _ (rfl : _ = AV.sl _ _)) ?_
    | refine DL_c (op_mv _ (rfl : _ = AV.ref _ _ _)) ?_
    | refine DL_c (op_mv _ (rfl : _ = AV.v (.slice _ _ _))) ?_
  refine DL_c (op_callH inferInstance (by repeat' (first | exact argsLv_nil | refine argsLv_cons ?_ ?_ | exact Lv.v | exact Lv.sl | exact Lv.fp | exact Lv.nil | refine Lv.agg rfl ?_ | exact lv_nil | refine lv_cons ?_ ?_)) (hb) rfl rfl) ?_
  refine DL_c (op_alloc (7, 0) inferInstance rfl rfl) ?_
  first
    | refine DL_c (op_stB _ _ inferInstance rfl rfl rfl rfl (Nat.le_of_ble_eq_true rfl) rfl) ?_
    | refine DL_c (op_stR _ _ inferInstance rfl rfl rfl rfl rfl (by first | exact Nat.le_of_ble_eq_true rfl | (simp; omega)) rfl) ?_
  refine DL_nil (hK2 _ ?_)
  clear hK2; try clear K2
  refine D_seq fun K3 hK3 => ?_
  refine D_region ?_
  first
    | refine DL_c (op_ldBA _ inferInstance rfl rfl rfl rfl) ?_
    | refine DL_c (op_ldRA _ inferInstance rfl rfl (by first | rfl | assumption) rfl) ?_
    | refine DL_c (op_ldFA _ inferInstance rfl (by first | rfl | assumption) rfl) ?_
  refine DL_c (op_callH inferInstance (by repeat' (first | exact argsLv_nil | refine argsLv_cons ?_ ?_ | exact Lv.v | exact Lv.sl | exact Lv.fp | exact Lv.nil | refine Lv.agg rfl ?_ | exact lv_nil | refine lv_cons ?_ ?_)) (sync_spec _ _ s.1 s.2 rfl rfl (by omega) (by omega) hg.ok) rfl rfl) ?_
  refine DL_c (op_alloc (8, 0) inferInstance rfl rfl) ?_
  first
    | refine DL_c (op_stB _ _ inferInstance rfl rfl rfl rfl (Nat.le_of_ble_eq_true rfl) rfl) ?_
    | refine DL_c (op_stR _ _ inferInstance rfl rfl rfl rfl rfl (by first | exact Nat.le_of_ble_eq_true rfl | (simp; omega)) rfl) ?_
  refine DL_nil (hK3 _ ?_)
  clear hK3; try clear K3
  refine D_seq fun K4 hK4 => ?_
  refine D_region ?_
  refine DL_c (op_bs (15, 0) _ _ inferInstance rfl (by rfl) (by simp <;> rfl) (by decide) rfl rfl) ?_
  first
    | refine DL_c (op_mv _ (rfl : _ = AV.sl _ _)) ?_
    | refine DL_c (op_mv _ (rfl : _ = AV.ref _ _ _)) ?_
    | refine DL_c (op_mv _ (rfl : _ = AV.v (.slice _ _ _))) ?_
  first
    | refine DL_c (op_mv _ (rfl : _ = AV.sl _ _)) ?_
    | refine DL_c (op_mv _ (rfl : _ = AV.ref _ _ _)) ?_
    | refine DL_c (op_mv _ (rfl : _ = AV.v (.slice _ _ _))) ?_
  first
    | refine DL_c (op_lenS _ inferInstance rfl) ?_
    | refine DL_c (op_lenR _ inferInstance rfl rfl) ?_
    | refine DL_c (op_lenN _ inferInstance rfl) ?_
  refine DL_c (op_min _ _ rfl rfl (by omega : min (nk : Int) 8 = ((min nk 8 : Nat) : Int))) ?_
  refine DL_c (op_slS _ _ _ inferInstance rfl 0 (min nk 8) .dflt (.lit rfl rfl) (by omega) (by omega) (by rw [Nat.zero_mul, List.drop_zero, Nat.sub_zero, Nat.mul_one, bsl_take] : _ = bsl (ks.take (min nk 8))) (Nat.sub_zero _)) ?_
  refine DL_c (op_ap (21, 0) _ _ inferInstance rfl rfl rfl (.sl (m := min nk 8) (by simp [hq])) (by omega) rfl (rfl : _ = bsl (ks.take (min nk 8))) (Nat.zero_add _)) ?_
  first
    | refine DL_c (op_as _ (rfl : _ = AV.sl _ _)) ?_
    | refine DL_c (op_as _ (rfl : _ = AV.ref _ _ _)) ?_
    | refine DL_c (op_as _ (rfl : _ = AV.v (.slice _ _ _))) ?_
  refine DL_nil (hK4 _ ?_)
  clear hK4; try clear K4
  refine D_seq fun K5 hK5 => ?_
  refine D_le (Le.frzS 9 (ys := bsl (ks.take (min nk 8))) rfl rfl rfl (by exact List.take_of_length_le (by simp [hq])) (by simp [hq])) ?_
  refine D_anyL 28 [22, 23, 24, 25, 26, 27, 28, 29, 30, 31, 32, 33, 34, 35, 36, 37, 38, 39, 40, 41, 42, 43, 44, 45, 46, 47, 48, 49] [] (by kernel_rfl) (by kernel_rfl) rfl (nodupO_iff rfl) (rfl : _ = [_, _, _, _, _, _, _, _, _, _, _, _, _, _, _, _, _, _, _, _, _, _, _, _, _, _, _, _]) (rfl : _ = [_]) ?_
  first
    | refine any_c (_, none) (fun τ => op_fldP _ inferInstance rfl rfl rfl) ?_
    | refine any_c (_, none) (fun τ => op_fldF _ inferInstance rfl rfl) ?_
  refine any_n (rfl : _ = [_]) ?_
  first
    | refine any_c (_, none) (fun τ => op_ldB _ inferInstance rfl rfl (rfl : _ = some (AV.sl _ _))) ?_
    | refine any_c (_, none) (fun τ => op_ldB _ inferInstance rfl rfl (rfl : _ = some (AV.ref _ _ _))) ?_
    | refine any_c (_, none) (fun τ => op_ldB _ inferInstance rfl rfl (rfl : _ = some (AV.v (.slice _ _ _)))) ?_
    | refine any_c (_, none) (fun τ => op_ldR _ inferInstance rfl rfl (by first | rfl | exact isl_get _ _ (by omega) | exact bsl_get _ _ (by omega) | exact wsl_get0 _ _ (by omega) | exact wsl_get1 _ _ (by omega) | assumption) rfl) ?_
    | refine any_c (_, none) (fun τ => op_ldF _ inferInstance rfl (by first | rfl | exact isl_get _ _ (by omega) | exact bsl_get _ _ (by omega) | exact wsl_get0 _ _ (by omega) | exact wsl_get1 _ _ (by omega) | assumption) rfl) ?_
  refine any_n (rfl : _ = [_, _]) ?_
  first
    | refine any_c (_, none) (fun τ => op_lenS _ inferInstance rfl) ?_
    | refine any_c (_, none) (fun τ => op_lenR _ inferInstance rfl rfl) ?_
    | refine any_c (_, none) (fun τ => op_lenN _ inferInstance rfl) ?_
  refine any_n (rfl : _ = [_, _, _]) ?_
  refine any_c (_, none) (fun τ => op_eql (r := true) _ _ rfl rfl rfl) ?_
  refine any_n (rfl : _ = [_, _, _, _]) ?_
  refine any_c (_, none) (fun τ => op_mv _ (rfl : _ = AV.v (.bool _))) ?_
  refine any_n (rfl : _ = [_, _, _, _, _]) ?_
  first
    | refine any_cy (_, none) rfl (fun τ => rfl) (fun τ => op_ldBA _ inferInstance rfl rfl rfl rfl) ?_
    | refine any_cy (_, none) rfl (fun τ => rfl) (fun τ => op_ldRA _ inferInstance rfl rfl (by first | rfl | assumption) rfl) ?_
    | refine any_cy (_, none) rfl (fun τ => rfl) (fun τ => op_ldFA _ inferInstance rfl (by first | rfl | assumption) rfl) ?_
  refine any_n (rfl : _ = [_, _, _, _, _, _]) ?_
  refine any_cy (_, none) rfl (fun τ => rfl) (fun τ => op_callH inferInstance (by repeat' (first | exact argsLv_nil | refine argsLv_cons ?_ ?_ | exact Lv.v | exact Lv.sl | exact Lv.fp | exact Lv.nil | refine Lv.agg rfl ?_ | exact lv_nil | refine lv_cons ?_ ?_)) (view_spec s.1.length 0 (app s.1 s.2) [] hA rfl (by omega) (by omega) (Ok.nil _)) rfl rfl) ?_
  refine any_n (rfl : _ = [_, _, _, _, _, _, _]) ?_
  first
    | refine any_cy (_, none) rfl (fun τ => rfl) (fun τ => op_ldBA _ inferInstance rfl rfl rfl rfl) ?_
    | refine any_cy (_, none) rfl (fun τ => rfl) (fun τ => op_ldRA _ inferInstance rfl rfl (by first | rfl | assumption) rfl) ?_
    | refine any_cy (_, none) rfl (fun τ => rfl) (fun τ => op_ldFA _ inferInstance rfl (by first | rfl | assumption) rfl) ?_
  refine any_n (rfl : _ = [_, _, _, _, _, _, _, _]) ?_
  refine any_cy (_, none) rfl (fun τ => rfl) (fun τ => op_callH inferInstance (by repeat' (first | exact argsLv_nil | refine argsLv_cons ?_ ?_ | exact Lv.v | exact Lv.sl | exact Lv.fp | exact Lv.nil | refine Lv.agg rfl ?_ | exact lv_nil | refine lv_cons ?_ ?_)) (view_spec _ _ s.1 s.2 rfl rfl (by omega) (by omega) hg.ok) rfl rfl) ?_
  refine any_n (rfl : _ = [_, _, _, _, _, _, _, _, _]) ?_
  refine any_cy (_, none) rfl (fun τ => rfl) (fun τ => op_callH inferInstance (by repeat' (first | exact argsLv_nil | refine argsLv_cons ?_ ?_ | exact Lv.v | exact Lv.sl | exact Lv.fp | exact Lv.nil | refine Lv.agg rfl ?_ | exact lv_nil | refine lv_cons ?_ ?_)) (same_self s.1.length (app s.1 s.2) hA (by omega)) rfl rfl) ?_
  refine any_n (rfl : _ = [_, _, _, _, _, _, _, _, _, _]) ?_
  refine any_c (_, none) (fun τ => op_pick _ _ _ rfl (rfl : _ = AV.v (.bool _))) ?_
  refine any_n (rfl : _ = [_, _, _, _, _, _, _, _, _, _, _]) ?_
  refine any_c (_, none) (fun τ => op_mv _ (rfl : _ = AV.v (.bool _))) ?_
  refine any_n (rfl : _ = [_, _, _, _, _, _, _, _, _, _, _, _]) ?_
  first
    | refine any_cy (_, none) rfl (fun τ => rfl) (fun τ => op_fldP _ inferInstance rfl rfl rfl) ?_
    | refine any_cy (_, none) rfl (fun τ => rfl) (fun τ => op_fldF _ inferInstance rfl rfl) ?_
  refine any_n (rfl : _ = [_, _, _, _, _, _, _, _, _, _, _, _, _]) ?_
  first
    | refine any_cy (_, none) rfl (fun τ => rfl) (fun τ => op_ldB _ inferInstance rfl rfl (rfl : _ = some (AV.sl _ _))) ?_
    | refine any_cy (_, none) rfl (fun τ => rfl) (fun τ => op_ldB _ inferInstance rfl rfl (rfl : _ = some (AV.ref _ _ _))) ?_
    | refine any_cy (_, none) rfl (fun τ => rfl) (fun τ => op_ldB _ inferInstance rfl rfl (rfl : _ = some (AV.v (.slice _ _ _)))) ?_
    | refine any_cy (_, none) rfl (fun τ => rfl) (fun τ => op_ldR _ inferInstance rfl rfl (by first | rfl | exact isl_get _ _ (by omega) | exact bsl_get _ _ (by omega) | exact wsl_get0 _ _ (by omega) | exact wsl_get1 _ _ (by omega) | assumption) rfl) ?_
    | refine any_cy (_, none) rfl (fun τ => rfl) (fun τ => op_ldF _ inferInstance rfl (by first | rfl | exact isl_get _ _ (by omega) | exact bsl_get _ _ (by omega) | exact wsl_get0 _ _ (by omega) | exact wsl_get1 _ _ (by omega) | assumption) rfl) ?_
  refine any_n (rfl : _ = [_, _, _, _, _, _, _, _, _, _, _, _, _, _]) ?_
  first
    | refine any_cy (_, none) rfl (fun τ => rfl) (fun τ => op_ldBA _ inferInstance rfl rfl rfl rfl) ?_
    | refine any_cy (_, none) rfl (fun τ => rfl) (fun τ => op_ldRA _ inferInstance rfl rfl (by first | rfl | assumption) rfl) ?_
    | refine any_cy (_, none) rfl (fun τ => rfl) (fun τ => op_ldFA _ inferInstance rfl (by first | rfl | assumption) rfl) ?_
  refine any_n (rfl : _ = [_, _, _, _, _, _, _, _, _, _, _, _, _, _, _]) ?_
  refine any_cy (_, none) rfl (fun τ => rfl) (fun τ => op_callH inferInstance (by repeat' (first | exact argsLv_nil | refine argsLv_cons ?_ ?_ | exact Lv.v | exact Lv.sl | exact Lv.fp | exact Lv.nil | refine Lv.agg rfl ?_ | exact lv_nil | refine lv_cons ?_ ?_)) (view_spec _ _ s.1 s.2 rfl rfl (by omega) (by omega) hg.ok) rfl rfl) ?_
  refine any_n (rfl : _ = [_, _, _, _, _, _, _, _, _, _, _, _, _, _, _, _]) ?_
  refine any_cy (_, none) rfl (fun τ => rfl) (fun τ => op_callH inferInstance (by repeat' (first | exact argsLv_nil | refine argsLv_cons ?_ ?_ | exact Lv.v | exact Lv.sl | exact Lv.fp | exact Lv.nil | refine Lv.agg rfl ?_ | exact lv_nil | refine lv_cons ?_ ?_)) (same_self s.1.length (app s.1 s.2) hA (by omega)) rfl rfl) ?_
  refine any_n (rfl : _ = [_, _, _, _, _, _, _, _, _, _, _, _, _, _, _, _, _]) ?_
  refine any_c (_, none) (fun τ => op_pick _ _ _ rfl (rfl : _ = AV.v (.bool _))) ?_
  refine any_n (rfl : _ = [_, _, _, _, _, _, _, _, _, _, _, _, _, _, _, _, _, _]) ?_
  refine any_c (_, none) (fun τ => op_mv _ (rfl : _ = AV.v (.bool _))) ?_
  refine any_n (rfl : _ = [_, _, _, _, _, _, _, _, _, _, _, _, _, _, _, _, _, _, _]) ?_
  first
    | refine any_cy (_, none) rfl (fun τ => rfl) (fun τ => op_ldBA _ inferInstance rfl rfl rfl rfl) ?_
    | refine any_cy (_, none) rfl (fun τ => rfl) (fun τ => op_ldRA _ inferInstance rfl rfl (by first | rfl | assumption) rfl) ?_
    | refine any_cy (_, none) rfl (fun τ => rfl) (fun τ => op_ldFA _ inferInstance rfl (by first | rfl | assumption) rfl) ?_
  refine any_n (rfl : _ = [_, _, _, _, _, _, _, _, _, _, _, _, _, _, _, _, _, _, _, _]) ?_
  first
    | refine any_cy (_, none) rfl (fun τ => rfl) (fun τ => op_mv _ (rfl : _ = AV.sl _ _)) ?_
    | refine any_cy (_, none) rfl (fun τ => rfl) (fun τ => op_mv _ (rfl : _ = AV.ref _ _ _)) ?_
    | refine any_cy (_, none) rfl (fun τ => rfl) (fun τ => op_mv _ (rfl : _ = AV.v (.slice _ _ _))) ?_
  refine any_n (rfl : _ = [_, _, _, _, _, _, _, _, _, _, _, _, _, _, _, _, _, _, _, _, _]) ?_
  refine any_cy (_, none) rfl (fun τ => rfl) (fun τ => op_callH inferInstance (by repeat' (first | exact argsLv_nil | refine argsLv_cons ?_ ?_ | exact Lv.v | exact Lv.sl | exact Lv.fp | exact Lv.nil | refine Lv.agg rfl ?_ | exact lv_nil | refine lv_cons ?_ ?_)) (crash_spec s.1.length 0 (min nk 8) (app s.1 s.2) [] (ks.take (min nk 8)) hA rfl hq (by omega) (by omega) (by omega) (Ok.nil _)) rfl rfl) ?_
  refine any_n (rfl : _ = [_, _, _, _, _, _, _, _, _, _, _, _, _, _, _, _, _, _, _, _, _, _]) ?_
  first
    | refine any_cy (_, none) rfl (fun τ => rfl) (fun τ => op_ldBA _ inferInstance rfl rfl rfl rfl) ?_
    | refine any_cy (_, none) rfl (fun τ => rfl) (fun τ => op_ldRA _ inferInstance rfl rfl (by first | rfl | assumption) rfl) ?_
    | refine any_cy (_, none) rfl (fun τ => rfl) (fun τ => op_ldFA _ inferInstance rfl (by first | rfl | assumption) rfl) ?_
  refine any_n (rfl : _ = [_, _, _, _, _, _, _, _, _, _, _, _, _, _, _, _, _, _, _, _, _, _, _]) ?_
  refine any_cy (_, none) rfl (fun τ => rfl) (fun τ => op_callH inferInstance (by repeat' (first | exact argsLv_nil | refine argsLv_cons ?_ ?_ | exact Lv.v | exact Lv.sl | exact Lv.fp | exact Lv.nil | refine Lv.agg rfl ?_ | exact lv_nil | refine lv_cons ?_ ?_)) (same_yes s.1.length 0 (app s.1 s.2) [] hA rfl (by omega) (by omega)) rfl rfl) ?_
  refine any_n (rfl : _ = [_, _, _, _, _, _, _, _, _, _, _, _, _, _, _, _, _, _, _, _, _, _, _, _]) ?_
  refine any_c (_, none) (fun τ => op_pick _ _ _ rfl (rfl : _ = AV.v (.bool _))) ?_
  refine any_n (rfl : _ = [_, _, _, _, _, _, _, _, _, _, _, _, _, _, _, _, _, _, _, _, _, _, _, _, _]) ?_
  refine any_c (_, none) (fun τ => op_mv _ (rfl : _ = AV.v (.bool _))) ?_
  refine any_n (rfl : _ = [_, _, _, _, _, _, _, _, _, _, _, _, _, _, _, _, _, _, _, _, _, _, _, _, _, _]) ?_
  refine any_cy (_, none) rfl (fun τ => rfl) (fun τ => op_callH inferInstance (by repeat' (first | exact argsLv_nil | refine argsLv_cons ?_ ?_ | exact Lv.v | exact Lv.sl | exact Lv.fp | exact Lv.nil | refine Lv.agg rfl ?_ | exact lv_nil | refine lv_cons ?_ ?_)) (lives_spec) rfl rfl) ?_
  refine any_n (rfl : _ = [_, _, _, _, _, _, _, _, _, _, _, _, _, _, _, _, _, _, _, _, _, _, _, _, _, _, _]) ?_
  refine any_c (_, none) (fun τ => op_pick _ _ _ rfl (rfl : _ = AV.v (.bool _))) ?_
  refine any_n (rfl : _ = [_, _, _, _, _, _, _, _, _, _, _, _, _, _, _, _, _, _, _, _, _, _, _, _, _, _, _, _]) ?_
  refine any_end ⟨rfl, ?_⟩
  simp only [List.drop_succ_cons, List.drop_zero, List.drop_nil]
  refine DL_c (op_as _ (rfl : _ = AV.v (.bool _))) ?_
  refine DL_nil (hK5 _ ?_)
  clear hK5; try clear K5
  refine D_ret ?_
  exact ret1 (.inr rfl) rfl (.tmp (rfl : _ = AV.v (.bool true))) (Le.out [] [] .v rfl rfl rfl trivial trivial)
end Go.Proofs.Ytphlaojoehmhaaa
