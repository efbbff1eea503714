/- The law PosetOrder by the machine. -/
import Derived.Test.YtkbkmngbenohkaaA19
set_option linter.unusedSimpArgs false
set_option linter.unusedVariables false
namespace Go.Proofs.Ytkbkmngbenohkaa
open Go.RowKit

theorem order_cyc (n : Int) (m : Nat) (l : List Int) (k : Nat) (E : Prs) (g : Gen n m l k E) (hC : Cyc k E) :
    Spec Try.prog 4 (inSt [.v (.int .i64 n), .sl m (isl l)] []) (outSt (.v (.bool true)) []) := by
  refine Spec.ofN Try.func4 rfl Try.ntmps4 rfl ?_
  refine D_seq fun K1 hK1 => ?_
  refine D_region ?_
  refine DL_c (op_as _ (rfl : _ = AV.v (.bool _))) ?_
  refine DL_nil (hK1 _ ?_)
  clear hK1; try clear K1
  refine D_seq fun K2 hK2 => ?_
  refine D_seq fun K3 hK3 => ?_
  refine D_region ?_
  refine DL_c (op_mv _ (rfl : _ = AV.v (.int _ _))) ?_
  refine DL_c (op_mv _ (rfl : _ = AV.sl _ _)) ?_
  refine DL_c (op_callH inferInstance (by repeat' (first | exact argsLv_nil | refine argsLv_cons ?_ ?_ | exact Lv.v | exact Lv.sl | exact Lv.fp | exact Lv.nil | refine Lv.agg rfl ?_ | refine Lv.fn rfl ?_ rfl ?_ | exact lv_nil | refine lv_cons ?_ ?_ | exact Lv.z0)) (g.yes hC) rfl rfl) ?_
  refine DL_nil (hK3 _ ?_)
  clear hK3; try clear K3
  refine D_cT rfl rfl ?_
  refine D_seq fun K4 hK4 => ?_
  refine D_region ?_
  refine DL_c (op_callH inferInstance (by repeat' (first | exact argsLv_nil | refine argsLv_cons ?_ ?_ | exact Lv.v | exact Lv.sl | exact Lv.fp | exact Lv.nil | refine Lv.agg rfl ?_ | refine Lv.fn rfl ?_ rfl ?_ | exact lv_nil | refine lv_cons ?_ ?_ | exact Lv.z0)) (lives_spec) rfl rfl) ?_
  refine DL_c (op_as _ (rfl : _ = AV.v (.bool _))) ?_
  refine DL_nil (hK4 _ ?_)
  clear hK4; try clear K4
  refine D_ret ?_
  refine ret1 (.inr rfl) rfl (.tmp (rfl : _ = AV.v (.bool _))) (Le.out [] [] (lvB ?_) rfl rfl rfl trivial trivial)
  rfl
theorem order_ok (n : Int) (m : Nat) (l : List Int) (k : Nat) (E : Prs) (g : Gen n m l k E) (hC : ¬ Cyc k E) :
    Spec Try.prog 4 (inSt [.v (.int .i64 n), .sl m (isl l)] []) (outSt (.v (.bool true)) []) := by
  have hk8 := g.kle
  have hE := g.inE
  have hel := g.el
  have hS := spo_cl hC
  refine Spec.ofN Try.func4 rfl Try.ntmps4 rfl ?_
  refine D_seq fun K1 hK1 => ?_
  refine D_region ?_
  refine DL_c (op_as _ (rfl : _ = AV.v (.bool _))) ?_
  refine DL_nil (hK1 _ ?_)
  clear hK1; try clear K1
  refine D_seq fun K2 hK2 => ?_
  refine D_seq fun K3 hK3 => ?_
  refine D_region ?_
  refine DL_c (op_mv _ (rfl : _ = AV.v (.int _ _))) ?_
  refine DL_c (op_mv _ (rfl : _ = AV.sl _ _)) ?_
  refine DL_c (op_callH inferInstance (by repeat' (first | exact argsLv_nil | refine argsLv_cons ?_ ?_ | exact Lv.v | exact Lv.sl | exact Lv.fp | exact Lv.nil | refine Lv.agg rfl ?_ | refine Lv.fn rfl ?_ rfl ?_ | exact lv_nil | refine lv_cons ?_ ?_ | exact Lv.z0)) (g.no hC) rfl rfl) ?_
  refine DL_nil (hK3 _ ?_)
  clear hK3; try clear K3
  refine D_cF rfl rfl ?_
  refine D_skip (hK2 _ ?_)
  clear hK2; try clear K2
  refine D_seq fun K4 hK4 => ?_
  refine D_region ?_
  refine DL_c (op_mv _ (rfl : _ = AV.v (.int _ _))) ?_
  refine DL_c (op_mv _ (rfl : _ = AV.sl _ _)) ?_
  refine DL_c (op_callH inferInstance (by repeat' (first | exact argsLv_nil | refine argsLv_cons ?_ ?_ | exact Lv.v | exact Lv.sl | exact Lv.fp | exact Lv.nil | refine Lv.agg rfl ?_ | refine Lv.fn rfl ?_ rfl ?_ | exact lv_nil | refine lv_cons ?_ ?_ | exact Lv.z0)) (g.made hC) rfl rfl) ?_
  refine DL_c (op_mv _ (rfl : _ = AV.tup _)) ?_
  first
    | refine DL_c (op_ext _ rfl (rfl : _ = some (AV.ptr _ _))) ?_
    | refine DL_c (op_ext _ rfl (rfl : _ = some (AV.fp _ _))) ?_
    | refine DL_c (op_ext _ rfl (rfl : _ = some (AV.v (.pointer _)))) ?_
  first
    | refine DL_c (op_ext _ rfl (rfl : _ = some (AV.agg _))) ?_
    | refine DL_c (op_ext _ rfl (rfl : _ = some (AV.v (.agg _)))) ?_
  refine DL_c (op_alloc (6, 0) inferInstance rfl rfl) ?_
  refine DL_c (op_as _ (rfl : _ = AV.fp _ _)) ?_
  refine DL_c (op_stB _ _ inferInstance rfl rfl rfl rfl (Nat.le_of_ble_eq_true rfl) rfl) ?_
  refine DL_nil (hK4 _ ?_)
  clear hK4; try clear K4
  refine D_seq fun K5 hK5 => ?_
  refine D_seq fun K6 hK6 => ?_
  refine D_region ?_
  refine DL_c (op_mv _ (rfl : _ = AV.fp _ _)) ?_
  refine DL_c (op_eqN _ _ (by kernel_rfl) (.inr ⟨_, _, rfl⟩) rfl) ?_
  refine DL_nil (hK6 _ ?_)
  clear hK6; try clear K6
  refine D_cF rfl rfl ?_
  refine D_skip (hK5 _ ?_)
  clear hK5; try clear K5
  refine D_seq fun K7 hK7 => ?_
  refine D_le (σ' := mkStI 93 [(1, _), (5, _), (6, _)] [((6, 0), _)] [] []) (by
    refine Le.mkJ [] [] rfl ?_ ?_ trivial trivial ?_
    · exact ⟨(iS rfl), (iF rfl), (iP rfl), trivial⟩
    · exact ⟨(obE rfl rfl rfl), trivial⟩
    · kernel_rfl) ?_
  refine D_region ?_
  first
    | refine DL_c (op_fldP _ inferInstance rfl rfl rfl) ?_
    | refine DL_c (op_fldF _ inferInstance rfl rfl) ?_
  first
    | refine DL_c (op_ldB _ inferInstance rfl rfl (rfl : _ = some (AV.v (.int _ _)))) ?_
    | refine DL_c (op_ldR _ inferInstance rfl rfl (by first | rfl | exact isl_get _ _ (by omega) | exact bsl_get _ _ (by omega) | assumption | exact psl_get0 _ _ (by omega) | exact psl_get1 _ _ (by omega) | exact nsl_get _ _ (by omega)) rfl) ?_
  refine DL_c (op_mv _ (rfl : _ = AV.sl _ _)) ?_
  refine DL_c (op_callH inferInstance (by repeat' (first | exact argsLv_nil | refine argsLv_cons ?_ ?_ | exact Lv.v | exact Lv.sl | exact Lv.fp | exact Lv.nil | refine Lv.agg rfl ?_ | refine Lv.fn rfl ?_ rfl ?_ | exact lv_nil | refine lv_cons ?_ ?_ | exact Lv.z0)) (g.pairs) rfl rfl) ?_
  refine DL_c (op_as _ (rfl : _ = AV.sl _ _)) ?_
  refine DL_nil (hK7 _ ?_)
  clear hK7; try clear K7
  refine D_seq fun K8 hK8 => ?_
  refine D_seq fun K9 hK9 => ?_
  refine D_region ?_
  refine DL_c (op_as _ (rfl : _ = AV.v (.int _ _))) ?_
  refine DL_nil (hK9 _ ?_)
  clear hK9; try clear K9
  refine D_block ?_
  refine D_loopL (α := Nat) (fun i => i ≤ E.length) 93 [(5, _), (6, _), (7, _)] [((6, 0), _)] (fun i => [(8, .v (.int .i64 (i : Int)))]) (fun i => []) [] [] (fun i => E.length - i) 0 ?_ (by
    refine Le.mkJ [] [] rfl ?_ ?_ trivial trivial ?_
    · exact ⟨(iF rfl), (iP rfl), (iS rfl), (lvI (by first | rfl | omega | (simp; done) | (simp; omega) | assumption)), trivial⟩
    · exact ⟨(obE rfl rfl rfl), trivial⟩
    · kernel_rfl) ?_
  · first | omega | trivial | exact ⟨by omega, by omega⟩
  intro i hi
  refine D_seq fun K10 hK10 => ?_
  refine D_seq fun K11 hK11 => ?_
  refine D_region ?_
  refine DL_c (op_mv _ (rfl : _ = AV.v (.int _ _))) ?_
  refine DL_c (op_mv _ (rfl : _ = AV.sl _ _)) ?_
  refine DL_c (op_lenS _ inferInstance rfl) ?_
  first
    | refine DL_c (op_lss _ _ rfl rfl (by assumption)) ?_
    | refine DL_c (op_lss _ _ rfl rfl rfl) ?_
  refine DL_nil (hK11 _ ?_)
  clear hK11; try clear K11
  refine D_splitC rfl (fun hc31 => ?_) (fun hc31 => ?_)
  · skip
    have hb := inE_at hE (i := i) (by omega)
    obtain ⟨p, hp⟩ := Int.eq_ofNat_of_zero_le hb.1
    obtain ⟨q, hq⟩ := Int.eq_ofNat_of_zero_le hb.2.2.1
    have hcl : cl E p q = true := cl_iff.2 (.one (by
      have h1 : E.getD i (0, 0) ∈ E := by rw [getD_at _ _ _ (by omega)]; exact List.getElem_mem _
      rw [show ((p : Int), (q : Int)) = E.getD i (0, 0) from Prod.ext hp.symm hq.symm]; exact h1))
    have hls := g.less p q (by omega) (by omega)
    rw [hcl, ← hp, ← hq] at hls
    refine D_skip (hK10 _ ?_)
    clear hK10; try clear K10
    refine D_seq fun K12 hK12 => ?_
    refine D_block ?_
    refine D_seq fun K13 hK13 => ?_
    refine D_le (σ' := mkStI 93 [(5, _), (6, _), (7, _), (8, _)] [((6, 0), _)] [] []) (by
      refine Le.mkJ [] [] rfl ?_ ?_ trivial trivial ?_
      · exact ⟨(iF rfl), (iP rfl), (iS rfl), (iV rfl), trivial⟩
      · exact ⟨(obE rfl rfl rfl), trivial⟩
      · kernel_rfl) ?_
    refine D_anyL 13 [34, 35, 36, 37, 38, 39, 40, 41, 42, 43, 44, 45, 46] [] (by kernel_rfl) (by kernel_rfl) rfl (nodupO_iff rfl) (rfl : _ = [_, _, _, _, _, _, _, _, _, _, _, _, _]) (rfl : _ = []) ?_
    refine any_c (_, []) (fun τ => op_mv _ (rfl : _ = AV.fp _ _)) ?_
    refine any_n (rfl : _ = [_]) ?_
    refine any_c (_, []) (fun τ => op_mv _ (rfl : _ = AV.sl _ _)) ?_
    refine any_n (rfl : _ = [_, _]) ?_
    refine any_c (_, []) (fun τ => op_mv _ (rfl : _ = AV.v (.int _ _))) ?_
    refine any_n (rfl : _ = [_, _, _]) ?_
    first
      | refine any_c (_, []) (fun τ => op_ixS _ _ inferInstance rfl rfl _ rfl (by omega) (by first | assumption | decide | (simp only [isl_len, bsl_len, psl_len, ws_len, mrows_len, nsl_len, List.length_map, nl_len]; omega) | (simp; done) | (simp; omega) | (simp [isl, bsl]; omega)) (by first | exact Nat.mul_one _ | rfl | omega)) ?_
      | refine any_c (_, []) (fun τ => op_ixS _ _ inferInstance rfl rfl (Int.toNat _) (Int.toNat_of_nonneg (by omega)).symm (by omega) (by first | assumption | decide | (simp only [isl_len, bsl_len, psl_len, ws_len, mrows_len, nsl_len, List.length_map, nl_len]; omega) | (simp; done) | (simp; omega) | (simp [isl, bsl]; omega)) (by first | exact Nat.mul_one _ | rfl | omega)) ?_
    refine any_n (rfl : _ = [_, _, _, _]) ?_
    refine any_c (_, []) (fun τ => op_ixAF _ _ inferInstance rfl rfl 0 rfl (by omega) (by first | exact (Nat.zero_add _).trans (Nat.mul_one _) | exact Nat.zero_add _ | rfl | omega)) ?_
    refine any_n (rfl : _ = [_, _, _, _, _]) ?_
    refine any_c (_, []) (fun τ => op_ldF _ inferInstance rfl (by first | rfl | exact isl_get _ _ (by omega) | exact bsl_get _ _ (by omega) | assumption | exact psl_get0 _ _ (by omega) | exact psl_get1 _ _ (by omega) | exact nsl_get _ _ (by omega)) rfl) ?_
    refine any_n (rfl : _ = [_, _, _, _, _, _]) ?_
    refine any_c (_, []) (fun τ => op_mv _ (rfl : _ = AV.sl _ _)) ?_
    refine any_n (rfl : _ = [_, _, _, _, _, _, _]) ?_
    refine any_c (_, []) (fun τ => op_mv _ (rfl : _ = AV.v (.int _ _))) ?_
    refine any_n (rfl : _ = [_, _, _, _, _, _, _, _]) ?_
    first
      | refine any_c (_, []) (fun τ => op_ixS _ _ inferInstance rfl rfl _ rfl (by omega) (by first | assumption | decide | (simp only [isl_len, bsl_len, psl_len, ws_len, mrows_len, nsl_len, List.length_map, nl_len]; omega) | (simp; done) | (simp; omega) | (simp [isl, bsl]; omega)) (by first | exact Nat.mul_one _ | rfl | omega)) ?_
      | refine any_c (_, []) (fun τ => op_ixS _ _ inferInstance rfl rfl (Int.toNat _) (Int.toNat_of_nonneg (by omega)).symm (by omega) (by first | assumption | decide | (simp only [isl_len, bsl_len, psl_len, ws_len, mrows_len, nsl_len, List.length_map, nl_len]; omega) | (simp; done) | (simp; omega) | (simp [isl, bsl]; omega)) (by first | exact Nat.mul_one _ | rfl | omega)) ?_
    refine any_n (rfl : _ = [_, _, _, _, _, _, _, _, _]) ?_
    refine any_c (_, []) (fun τ => op_ixAF _ _ inferInstance rfl rfl 1 rfl (by omega) (by first | exact (Nat.zero_add _).trans (Nat.mul_one _) | exact Nat.zero_add _ | rfl | omega)) ?_
    refine any_n (rfl : _ = [_, _, _, _, _, _, _, _, _, _]) ?_
    refine any_c (_, []) (fun τ => op_ldF _ inferInstance rfl (by first | rfl | exact isl_get _ _ (by omega) | exact bsl_get _ _ (by omega) | assumption | exact psl_get0 _ _ (by omega) | exact psl_get1 _ _ (by omega) | exact nsl_get _ _ (by omega)) rfl) ?_
    refine any_n (rfl : _ = [_, _, _, _, _, _, _, _, _, _, _]) ?_
    refine any_c (_, []) (fun τ => (op_callH inferInstance (by repeat' (first | exact argsLv_nil | refine argsLv_cons ?_ ?_ | exact Lv.v | exact Lv.sl | exact Lv.fp | exact Lv.nil | refine Lv.agg rfl ?_ | refine Lv.fn rfl ?_ rfl ?_ | exact lv_nil | refine lv_cons ?_ ?_ | exact Lv.z0)) (hls) rfl rfl)) ?_
    refine any_n (rfl : _ = [_, _, _, _, _, _, _, _, _, _, _, _]) ?_
    refine any_c (_, []) (fun τ => op_not _ rfl rfl) ?_
    refine any_n (rfl : _ = [_, _, _, _, _, _, _, _, _, _, _, _, _]) ?_
    refine any_end ⟨rfl, ?_⟩
    refine DL_nil (hK13 _ ?_)
    clear hK13; try clear K13
    refine D_cF rfl rfl ?_
    refine D_skip (hK12 _ ?_)
    clear hK12; try clear K12
    refine D_region ?_
    refine DL_c (op_mv _ (rfl : _ = AV.v (.int _ _))) ?_
    first
      | refine DL_c (op_add _ _ rfl rfl (i64w (by omega))) ?_
      | refine DL_c (op_add _ _ rfl rfl rfl) ?_
    refine DL_c (op_as _ (rfl : _ = AV.v (.int _ _))) ?_
    refine DL_nil ?_
    refine ⟨i + 1, ?_, ?_, ?_⟩
    · first | omega | trivial | exact ⟨by omega, by omega⟩
    · skip
      refine Le.mkJ [] [] rfl ?_ ?_ trivial trivial ?_
      · exact ⟨(iF rfl), (iP rfl), (iS rfl), (lvI (by first | rfl | omega | (simp; done) | (simp; omega) | assumption)), trivial⟩
      · exact ⟨(obE rfl rfl rfl), trivial⟩
      · kernel_rfl
    · omega
  · skip
    refine D_exit ?_
    refine id (hK8 _ ?_)
    clear hK8; try clear K8
    refine D_seq fun K14 hK14 => ?_
    refine D_seq fun K15 hK15 => ?_
    refine D_region ?_
    refine DL_c (op_as _ (rfl : _ = AV.v (.int _ _))) ?_
    refine DL_nil (hK15 _ ?_)
    clear hK15; try clear K15
    refine D_block ?_
    refine D_loopL (α := Nat) (fun a => a ≤ k) 93 [(5, _), (6, _)] [((6, 0), _)] (fun a => [(9, .v (.int .i64 (a : Int)))]) (fun a => []) [] [] (fun a => k - a) 0 ?_ (by
      refine Le.mkJ [] [] rfl ?_ ?_ trivial trivial ?_
      · exact ⟨(iF rfl), (iP rfl), (lvI (by first | rfl | omega | (simp; done) | (simp; omega) | assumption)), trivial⟩
      · exact ⟨(obE rfl rfl rfl), trivial⟩
      · kernel_rfl) ?_
    · first | omega | trivial | exact ⟨by omega, by omega⟩
    intro a ha
    refine D_seq fun K16 hK16 => ?_
    refine D_seq fun K17 hK17 => ?_
    refine D_region ?_
    refine DL_c (op_mv _ (rfl : _ = AV.v (.int _ _))) ?_
    first
      | refine DL_c (op_fldP _ inferInstance rfl rfl rfl) ?_
      | refine DL_c (op_fldF _ inferInstance rfl rfl) ?_
    first
      | refine DL_c (op_ldB _ inferInstance rfl rfl (rfl : _ = some (AV.v (.int _ _)))) ?_
      | refine DL_c (op_ldR _ inferInstance rfl rfl (by first | rfl | exact isl_get _ _ (by omega) | exact bsl_get _ _ (by omega) | assumption | exact psl_get0 _ _ (by omega) | exact psl_get1 _ _ (by omega) | exact nsl_get _ _ (by omega)) rfl) ?_
    first
      | refine DL_c (op_lss _ _ rfl rfl (by assumption)) ?_
      | refine DL_c (op_lss _ _ rfl rfl rfl) ?_
    refine DL_nil (hK17 _ ?_)
    clear hK17; try clear K17
    refine D_splitC rfl (fun hc50 => ?_) (fun hc50 => ?_)
    · skip
      refine D_skip (hK16 _ ?_)
      clear hK16; try clear K16
      refine D_seq fun K18 hK18 => ?_
      refine D_block ?_
      refine D_seq fun K19 hK19 => ?_
      refine D_region ?_
      refine DL_c (op_as _ (rfl : _ = AV.v (.int _ _))) ?_
      refine DL_nil (hK19 _ ?_)
      clear hK19; try clear K19
      refine D_block ?_
      refine D_loopL (α := Nat) (fun b => b ≤ k) 93 [(5, _), (6, _), (9, _)] [((6, 0), _)] (fun b => [(10, .v (.int .i64 (b : Int)))]) (fun b => []) [] [] (fun b => k - b) 0 ?_ (by
        refine Le.mkJ [] [] rfl ?_ ?_ trivial trivial ?_
        · exact ⟨(iF rfl), (iP rfl), (iV rfl), (lvI (by first | rfl | omega | (simp; done) | (simp; omega) | assumption)), trivial⟩
        · exact ⟨(obE rfl rfl rfl), trivial⟩
        · kernel_rfl) ?_
      · first | omega | trivial | exact ⟨by omega, by omega⟩
      intro b hb
      refine D_seq fun K20 hK20 => ?_
      refine D_seq fun K21 hK21 => ?_
      refine D_region ?_
      refine DL_c (op_mv _ (rfl : _ = AV.v (.int _ _))) ?_
      first
        | refine DL_c (op_fldP _ inferInstance rfl rfl rfl) ?_
        | refine DL_c (op_fldF _ inferInstance rfl rfl) ?_
      first
        | refine DL_c (op_ldB _ inferInstance rfl rfl (rfl : _ = some (AV.v (.int _ _)))) ?_
        | refine DL_c (op_ldR _ inferInstance rfl rfl (by first | rfl | exact isl_get _ _ (by omega) | exact bsl_get _ _ (by omega) | assumption | exact psl_get0 _ _ (by omega) | exact psl_get1 _ _ (by omega) | exact nsl_get _ _ (by omega)) rfl) ?_
      first
        | refine DL_c (op_lss _ _ rfl rfl (by assumption)) ?_
        | refine DL_c (op_lss _ _ rfl rfl rfl) ?_
      refine DL_nil (hK21 _ ?_)
      clear hK21; try clear K21
      refine D_splitC rfl (fun hc56 => ?_) (fun hc56 => ?_)
      · skip
        refine D_skip (hK20 _ ?_)
        clear hK20; try clear K20
        refine D_seq fun K22 hK22 => ?_
        refine D_block ?_
        refine D_seq fun K23 hK23 => ?_
        refine D_seq fun K24 hK24 => ?_
        refine D_region ?_
        refine DL_c (op_mv _ (rfl : _ = AV.fp _ _)) ?_
        refine DL_c (op_mv _ (rfl : _ = AV.v (.int _ _))) ?_
        refine DL_c (op_mv _ (rfl : _ = AV.v (.int _ _))) ?_
        refine DL_c (op_callH inferInstance (by repeat' (first | exact argsLv_nil | refine argsLv_cons ?_ ?_ | exact Lv.v | exact Lv.sl | exact Lv.fp | exact Lv.nil | refine Lv.agg rfl ?_ | refine Lv.fn rfl ?_ rfl ?_ | exact lv_nil | refine lv_cons ?_ ?_ | exact Lv.z0)) (g.less a b (by omega) (by omega)) rfl rfl) ?_
        refine DL_c (op_mv _ (rfl : _ = AV.v (.bool _))) ?_
        refine DL_caseC (fun hg63 => ?_) (fun hg63 => ?_)
        · skip
          refine DL_cy rfl rfl (op_mv _ (rfl : _ = AV.fp _ _)) ?_
          refine DL_cy rfl rfl (op_mv _ (rfl : _ = AV.v (.int _ _))) ?_
          refine DL_cy rfl rfl (op_mv _ (rfl : _ = AV.v (.int _ _))) ?_
          refine DL_cy rfl rfl (op_callH inferInstance (by repeat' (first | exact argsLv_nil | refine argsLv_cons ?_ ?_ | exact Lv.v | exact Lv.sl | exact Lv.fp | exact Lv.nil | refine Lv.agg rfl ?_ | refine Lv.fn rfl ?_ rfl ?_ | exact lv_nil | refine lv_cons ?_ ?_ | exact Lv.z0)) (g.less b a (by omega) (by omega)) rfl rfl) ?_
          refine DL_c (op_pick _ _ _ rfl (rfl : _ = AV.v (.bool _))) ?_
          refine DL_nil (hK24 _ ?_)
          clear hK24; try clear K24
          refine D_splitC rfl (fun hc68 => ?_) (fun hc68 => ?_)
          · skip
            exact absurd  (hS.tr a b a (by omega) (by omega) (by omega) hg63 hc68) (by rw [hS.irr a (by omega)]; decide)
          · skip
            refine D_skip (hK23 _ ?_)
            clear hK23; try clear K23
            refine D_seq fun K25 hK25 => ?_
            refine D_region ?_
            refine DL_c (op_as _ (rfl : _ = AV.v (.int _ _))) ?_
            refine DL_nil (hK25 _ ?_)
            clear hK25; try clear K25
            refine D_block ?_
            refine D_loopL (α := Nat) (fun c => c ≤ k) 93 [(5, _), (6, _), (9, _), (10, _)] [((6, 0), _)] (fun c => [(11, .v (.int .i64 (c : Int)))]) (fun c => []) [] [] (fun c => k - c) 0 ?_ (by
              refine Le.mkJ [] [] rfl ?_ ?_ trivial trivial ?_
              · exact ⟨(iF rfl), (iP rfl), (iV rfl), (iV rfl), (lvI (by first | rfl | omega | (simp; done) | (simp; omega) | assumption)), trivial⟩
              · exact ⟨(obE rfl rfl rfl), trivial⟩
              · kernel_rfl) ?_
            · first | omega | trivial | exact ⟨by omega, by omega⟩
            intro c hc
            refine D_seq fun K26 hK26 => ?_
            refine D_seq fun K27 hK27 => ?_
            refine D_region ?_
            refine DL_c (op_mv _ (rfl : _ = AV.v (.int _ _))) ?_
            first
              | refine DL_c (op_fldP _ inferInstance rfl rfl rfl) ?_
              | refine DL_c (op_fldF _ inferInstance rfl rfl) ?_
            first
              | refine DL_c (op_ldB _ inferInstance rfl rfl (rfl : _ = some (AV.v (.int _ _)))) ?_
              | refine DL_c (op_ldR _ inferInstance rfl rfl (by first | rfl | exact isl_get _ _ (by omega) | exact bsl_get _ _ (by omega) | assumption | exact psl_get0 _ _ (by omega) | exact psl_get1 _ _ (by omega) | exact nsl_get _ _ (by omega)) rfl) ?_
            first
              | refine DL_c (op_lss _ _ rfl rfl (by assumption)) ?_
              | refine DL_c (op_lss _ _ rfl rfl rfl) ?_
            refine DL_nil (hK27 _ ?_)
            clear hK27; try clear K27
            refine D_splitC rfl (fun hc72 => ?_) (fun hc72 => ?_)
            · skip
              refine D_skip (hK26 _ ?_)
              clear hK26; try clear K26
              refine D_seq fun K28 hK28 => ?_
              refine D_block ?_
              refine D_seq fun K29 hK29 => ?_
              refine D_region ?_
              refine DL_c (op_mv _ (rfl : _ = AV.fp _ _)) ?_
              refine DL_c (op_mv _ (rfl : _ = AV.v (.int _ _))) ?_
              refine DL_c (op_mv _ (rfl : _ = AV.v (.int _ _))) ?_
              refine DL_c (op_callH inferInstance (by repeat' (first | exact argsLv_nil | refine argsLv_cons ?_ ?_ | exact Lv.v | exact Lv.sl | exact Lv.fp | exact Lv.nil | refine Lv.agg rfl ?_ | refine Lv.fn rfl ?_ rfl ?_ | exact lv_nil | refine lv_cons ?_ ?_ | exact Lv.z0)) (g.less a b (by omega) (by omega)) rfl rfl) ?_
              refine DL_c (op_mv _ (rfl : _ = AV.v (.bool _))) ?_
              refine DL_caseC (fun hg79 => ?_) (fun hg79 => ?_)
              · skip
                refine DL_cy rfl rfl (op_mv _ (rfl : _ = AV.fp _ _)) ?_
                refine DL_cy rfl rfl (op_mv _ (rfl : _ = AV.v (.int _ _))) ?_
                refine DL_cy rfl rfl (op_mv _ (rfl : _ = AV.v (.int _ _))) ?_
                refine DL_cy rfl rfl (op_callH inferInstance (by repeat' (first | exact argsLv_nil | refine argsLv_cons ?_ ?_ | exact Lv.v | exact Lv.sl | exact Lv.fp | exact Lv.nil | refine Lv.agg rfl ?_ | refine Lv.fn rfl ?_ rfl ?_ | exact lv_nil | refine lv_cons ?_ ?_ | exact Lv.z0)) (g.less b c (by omega) (by omega)) rfl rfl) ?_
                refine DL_c (op_pick _ _ _ rfl (rfl : _ = AV.v (.bool _))) ?_
                refine DL_c (op_mv _ (rfl : _ = AV.v (.bool _))) ?_
                refine DL_caseC (fun hg85 => ?_) (fun hg85 => ?_)
                · skip
                  refine DL_cy rfl rfl (op_mv _ (rfl : _ = AV.fp _ _)) ?_
                  refine DL_cy rfl rfl (op_mv _ (rfl : _ = AV.v (.int _ _))) ?_
                  refine DL_cy rfl rfl (op_mv _ (rfl : _ = AV.v (.int _ _))) ?_
                  refine DL_cy rfl rfl (op_callH inferInstance (by repeat' (first | exact argsLv_nil | refine argsLv_cons ?_ ?_ | exact Lv.v | exact Lv.sl | exact Lv.fp | exact Lv.nil | refine Lv.agg rfl ?_ | refine Lv.fn rfl ?_ rfl ?_ | exact lv_nil | refine lv_cons ?_ ?_ | exact Lv.z0)) (g.less a c (by omega) (by omega)) rfl rfl) ?_
                  refine DL_cy rfl rfl (op_not _ rfl rfl) ?_
                  refine DL_c (op_pick _ _ _ rfl (rfl : _ = AV.v (.bool _))) ?_
                  refine DL_nil (hK29 _ ?_)
                  clear hK29; try clear K29
                  refine D_splitC rfl (fun hc91 => ?_) (fun hc91 => ?_)
                  · skip
                    exact absurd  (hS.tr a b c (by omega) (by omega) (by omega) hg79 hg85) (by rw [hc91]; decide)
                  · skip
                    refine D_skip (hK28 _ ?_)
                    clear hK28; try clear K28
                    refine D_le (σ' := mkStI 93 [(5, _), (6, _), (9, _), (10, _), (11, _)] [((6, 0), _)] [] []) (by
                      refine Le.mkJ [] [] rfl ?_ ?_ trivial trivial ?_
                      · exact ⟨(iF rfl), (iP rfl), (iV rfl), (iV rfl), (iV rfl), trivial⟩
                      · exact ⟨(obE rfl rfl rfl), trivial⟩
                      · kernel_rfl) ?_
                    refine D_region ?_
                    refine DL_c (op_mv _ (rfl : _ = AV.v (.int _ _))) ?_
                    first
                      | refine DL_c (op_add _ _ rfl rfl (i64w (by omega))) ?_
                      | refine DL_c (op_add _ _ rfl rfl rfl) ?_
                    refine DL_c (op_as _ (rfl : _ = AV.v (.int _ _))) ?_
                    refine DL_nil ?_
                    refine ⟨c + 1, ?_, ?_, ?_⟩
                    · first | omega | trivial | exact ⟨by omega, by omega⟩
                    · skip
                      refine Le.mkJ [] [] rfl ?_ ?_ trivial trivial ?_
                      · exact ⟨(iF rfl), (iP rfl), (iV rfl), (iV rfl), (lvI (by first | rfl | omega | (simp; done) | (simp; omega) | assumption)), trivial⟩
                      · exact ⟨(obE rfl rfl rfl), trivial⟩
                      · kernel_rfl
                    · omega
                · skip
                  refine DL_cn rfl rfl (by decide) ?_
                  refine DL_cn rfl rfl (by decide) ?_
                  refine DL_cn rfl rfl (by decide) ?_
                  refine DL_cn rfl rfl (by decide) ?_
                  refine DL_cn rfl rfl (by decide) ?_
                  refine DL_c (op_pick _ _ _ rfl (rfl : _ = AV.v (.bool _))) ?_
                  refine DL_nil (hK29 _ ?_)
                  clear hK29; try clear K29
                  refine D_cF rfl rfl ?_
                  refine D_skip (hK28 _ ?_)
                  clear hK28; try clear K28
                  refine D_le (σ' := mkStI 93 [(5, _), (6, _), (9, _), (10, _), (11, _)] [((6, 0), _)] [] []) (by
                    refine Le.mkJ [] [] rfl ?_ ?_ trivial trivial ?_
                    · exact ⟨(iF rfl), (iP rfl), (iV rfl), (iV rfl), (iV rfl), trivial⟩
                    · exact ⟨(obE rfl rfl rfl), trivial⟩
                    · kernel_rfl) ?_
                  refine D_region ?_
                  refine DL_c (op_mv _ (rfl : _ = AV.v (.int _ _))) ?_
                  first
                    | refine DL_c (op_add _ _ rfl rfl (i64w (by omega))) ?_
                    | refine DL_c (op_add _ _ rfl rfl rfl) ?_
                  refine DL_c (op_as _ (rfl : _ = AV.v (.int _ _))) ?_
                  refine DL_nil ?_
                  refine ⟨c + 1, ?_, ?_, ?_⟩
                  · first | omega | trivial | exact ⟨by omega, by omega⟩
                  · skip
                    refine Le.mkJ [] [] rfl ?_ ?_ trivial trivial ?_
                    · exact ⟨(iF rfl), (iP rfl), (iV rfl), (iV rfl), (lvI (by first | rfl | omega | (simp; done) | (simp; omega) | assumption)), trivial⟩
                    · exact ⟨(obE rfl rfl rfl), trivial⟩
                    · kernel_rfl
                  · omega
              · skip
                refine DL_cn rfl rfl (by decide) ?_
                refine DL_cn rfl rfl (by decide) ?_
                refine DL_cn rfl rfl (by decide) ?_
                refine DL_cn rfl rfl (by decide) ?_
                refine DL_c (op_pick _ _ _ rfl (rfl : _ = AV.v (.bool _))) ?_
                refine DL_c (op_mv _ (rfl : _ = AV.v (.bool _))) ?_
                refine DL_cn rfl rfl (by decide) ?_
                refine DL_cn rfl rfl (by decide) ?_
                refine DL_cn rfl rfl (by decide) ?_
                refine DL_cn rfl rfl (by decide) ?_
                refine DL_cn rfl rfl (by decide) ?_
                refine DL_c (op_pick _ _ _ rfl (rfl : _ = AV.v (.bool _))) ?_
                refine DL_nil (hK29 _ ?_)
                clear hK29; try clear K29
                refine D_cF rfl rfl ?_
                refine D_skip (hK28 _ ?_)
                clear hK28; try clear K28
                refine D_le (σ' := mkStI 93 [(5, _), (6, _), (9, _), (10, _), (11, _)] [((6, 0), _)] [] []) (by
                  refine Le.mkJ [] [] rfl ?_ ?_ trivial trivial ?_
                  · exact ⟨(iF rfl), (iP rfl), (iV rfl), (iV rfl), (iV rfl), trivial⟩
                  · exact ⟨(obE rfl rfl rfl), trivial⟩
                  · kernel_rfl) ?_
                refine D_region ?_
                refine DL_c (op_mv _ (rfl : _ = AV.v (.int _ _))) ?_
                first
                  | refine DL_c (op_add _ _ rfl rfl (i64w (by omega))) ?_
                  | refine DL_c (op_add _ _ rfl rfl rfl) ?_
                refine DL_c (op_as _ (rfl : _ = AV.v (.int _ _))) ?_
                refine DL_nil ?_
                refine ⟨c + 1, ?_, ?_, ?_⟩
                · first | omega | trivial | exact ⟨by omega, by omega⟩
                · skip
                  refine Le.mkJ [] [] rfl ?_ ?_ trivial trivial ?_
                  · exact ⟨(iF rfl), (iP rfl), (iV rfl), (iV rfl), (lvI (by first | rfl | omega | (simp; done) | (simp; omega) | assumption)), trivial⟩
                  · exact ⟨(obE rfl rfl rfl), trivial⟩
                  · kernel_rfl
                · omega
            · skip
              refine D_exit ?_
              refine id (hK22 _ ?_)
              clear hK22; try clear K22
              refine D_region ?_
              refine DL_c (op_mv _ (rfl : _ = AV.v (.int _ _))) ?_
              first
                | refine DL_c (op_add _ _ rfl rfl (i64w (by omega))) ?_
                | refine DL_c (op_add _ _ rfl rfl rfl) ?_
              refine DL_c (op_as _ (rfl : _ = AV.v (.int _ _))) ?_
              refine DL_nil ?_
              refine ⟨b + 1, ?_, ?_, ?_⟩
              · first | omega | trivial | exact ⟨by omega, by omega⟩
              · skip
                refine Le.mkJ [] [] rfl ?_ ?_ trivial trivial ?_
                · exact ⟨(iF rfl), (iP rfl), (iV rfl), (lvI (by first | rfl | omega | (simp; done) | (simp; omega) | assumption)), trivial⟩
                · exact ⟨(obE rfl rfl rfl), trivial⟩
                · kernel_rfl
              · omega
        · skip
          refine DL_cn rfl rfl (by decide) ?_
          refine DL_cn rfl rfl (by decide) ?_
          refine DL_cn rfl rfl (by decide) ?_
          refine DL_cn rfl rfl (by decide) ?_
          refine DL_c (op_pick _ _ _ rfl (rfl : _ = AV.v (.bool _))) ?_
          refine DL_nil (hK24 _ ?_)
          clear hK24; try clear K24
          refine D_cF rfl rfl ?_
          refine D_skip (hK23 _ ?_)
          clear hK23; try clear K23
          refine D_seq fun K30 hK30 => ?_
          refine D_region ?_
          refine DL_c (op_as _ (rfl : _ = AV.v (.int _ _))) ?_
          refine DL_nil (hK30 _ ?_)
          clear hK30; try clear K30
          refine D_block ?_
          refine D_loopL (α := Nat) (fun c => c ≤ k) 93 [(5, _), (6, _), (9, _), (10, _)] [((6, 0), _)] (fun c => [(11, .v (.int .i64 (c : Int)))]) (fun c => []) [] [] (fun c => k - c) 0 ?_ (by
            refine Le.mkJ [] [] rfl ?_ ?_ trivial trivial ?_
            · exact ⟨(iF rfl), (iP rfl), (iV rfl), (iV rfl), (lvI (by first | rfl | omega | (simp; done) | (simp; omega) | assumption)), trivial⟩
            · exact ⟨(obE rfl rfl rfl), trivial⟩
            · kernel_rfl) ?_
          · first | omega | trivial | exact ⟨by omega, by omega⟩
          intro c hc
          refine D_seq fun K31 hK31 => ?_
          refine D_seq fun K32 hK32 => ?_
          refine D_region ?_
          refine DL_c (op_mv _ (rfl : _ = AV.v (.int _ _))) ?_
          first
            | refine DL_c (op_fldP _ inferInstance rfl rfl rfl) ?_
            | refine DL_c (op_fldF _ inferInstance rfl rfl) ?_
          first
            | refine DL_c (op_ldB _ inferInstance rfl rfl (rfl : _ = some (AV.v (.int _ _)))) ?_
            | refine DL_c (op_ldR _ inferInstance rfl rfl (by first | rfl | exact isl_get _ _ (by omega) | exact bsl_get _ _ (by omega) | assumption | exact psl_get0 _ _ (by omega) | exact psl_get1 _ _ (by omega) | exact nsl_get _ _ (by omega)) rfl) ?_
          first
            | refine DL_c (op_lss _ _ rfl rfl (by assumption)) ?_
            | refine DL_c (op_lss _ _ rfl rfl rfl) ?_
          refine DL_nil (hK32 _ ?_)
          clear hK32; try clear K32
          refine D_splitC rfl (fun hc72 => ?_) (fun hc72 => ?_)
          · skip
            refine D_skip (hK31 _ ?_)
            clear hK31; try clear K31
            refine D_seq fun K33 hK33 => ?_
            refine D_block ?_
            refine D_seq fun K34 hK34 => ?_
            refine D_region ?_
            refine DL_c (op_mv _ (rfl : _ = AV.fp _ _)) ?_
            refine DL_c (op_mv _ (rfl : _ = AV.v (.int _ _))) ?_
            refine DL_c (op_mv _ (rfl : _ = AV.v (.int _ _))) ?_
            refine DL_c (op_callH inferInstance (by repeat' (first | exact argsLv_nil | refine argsLv_cons ?_ ?_ | exact Lv.v | exact Lv.sl | exact Lv.fp | exact Lv.nil | refine Lv.agg rfl ?_ | refine Lv.fn rfl ?_ rfl ?_ | exact lv_nil | refine lv_cons ?_ ?_ | exact Lv.z0)) (g.less a b (by omega) (by omega)) rfl rfl) ?_
            refine DL_c (op_mv _ (rfl : _ = AV.v (.bool _))) ?_
            refine DL_caseC (fun hg79 => ?_) (fun hg79 => ?_)
            · skip
              refine DL_cy rfl rfl (op_mv _ (rfl : _ = AV.fp _ _)) ?_
              refine DL_cy rfl rfl (op_mv _ (rfl : _ = AV.v (.int _ _))) ?_
              refine DL_cy rfl rfl (op_mv _ (rfl : _ = AV.v (.int _ _))) ?_
              refine DL_cy rfl rfl (op_callH inferInstance (by repeat' (first | exact argsLv_nil | refine argsLv_cons ?_ ?_ | exact Lv.v | exact Lv.sl | exact Lv.fp | exact Lv.nil | refine Lv.agg rfl ?_ | refine Lv.fn rfl ?_ rfl ?_ | exact lv_nil | refine lv_cons ?_ ?_ | exact Lv.z0)) (g.less b c (by omega) (by omega)) rfl rfl) ?_
              refine DL_c (op_pick _ _ _ rfl (rfl : _ = AV.v (.bool _))) ?_
              refine DL_c (op_mv _ (rfl : _ = AV.v (.bool _))) ?_
              refine DL_caseC (fun hg85 => ?_) (fun hg85 => ?_)
              · skip
                refine DL_cy rfl rfl (op_mv _ (rfl : _ = AV.fp _ _)) ?_
                refine DL_cy rfl rfl (op_mv _ (rfl : _ = AV.v (.int _ _))) ?_
                refine DL_cy rfl rfl (op_mv _ (rfl : _ = AV.v (.int _ _))) ?_
                refine DL_cy rfl rfl (op_callH inferInstance (by repeat' (first | exact argsLv_nil | refine argsLv_cons ?_ ?_ | exact Lv.v | exact Lv.sl | exact Lv.fp | exact Lv.nil | refine Lv.agg rfl ?_ | refine Lv.fn rfl ?_ rfl ?_ | exact lv_nil | refine lv_cons ?_ ?_ | exact Lv.z0)) (g.less a c (by omega) (by omega)) rfl rfl) ?_
                refine DL_cy rfl rfl (op_not _ rfl rfl) ?_
                refine DL_c (op_pick _ _ _ rfl (rfl : _ = AV.v (.bool _))) ?_
                refine DL_nil (hK34 _ ?_)
                clear hK34; try clear K34
                refine D_splitC rfl (fun hc91 => ?_) (fun hc91 => ?_)
                · skip
                  exact absurd  (hS.tr a b c (by omega) (by omega) (by omega) hg79 hg85) (by rw [hc91]; decide)
                · skip
                  refine D_skip (hK33 _ ?_)
                  clear hK33; try clear K33
                  refine D_le (σ' := mkStI 93 [(5, _), (6, _), (9, _), (10, _), (11, _)] [((6, 0), _)] [] []) (by
                    refine Le.mkJ [] [] rfl ?_ ?_ trivial trivial ?_
                    · exact ⟨(iF rfl), (iP rfl), (iV rfl), (iV rfl), (iV rfl), trivial⟩
                    · exact ⟨(obE rfl rfl rfl), trivial⟩
                    · kernel_rfl) ?_
                  refine D_region ?_
                  refine DL_c (op_mv _ (rfl : _ = AV.v (.int _ _))) ?_
                  first
                    | refine DL_c (op_add _ _ rfl rfl (i64w (by omega))) ?_
                    | refine DL_c (op_add _ _ rfl rfl rfl) ?_
                  refine DL_c (op_as _ (rfl : _ = AV.v (.int _ _))) ?_
                  refine DL_nil ?_
                  refine ⟨c + 1, ?_, ?_, ?_⟩
                  · first | omega | trivial | exact ⟨by omega, by omega⟩
                  · skip
                    refine Le.mkJ [] [] rfl ?_ ?_ trivial trivial ?_
                    · exact ⟨(iF rfl), (iP rfl), (iV rfl), (iV rfl), (lvI (by first | rfl | omega | (simp; done) | (simp; omega) | assumption)), trivial⟩
                    · exact ⟨(obE rfl rfl rfl), trivial⟩
                    · kernel_rfl
                  · omega
              · skip
                refine DL_cn rfl rfl (by decide) ?_
                refine DL_cn rfl rfl (by decide) ?_
                refine DL_cn rfl rfl (by decide) ?_
                refine DL_cn rfl rfl (by decide) ?_
                refine DL_cn rfl rfl (by decide) ?_
                refine DL_c (op_pick _ _ _ rfl (rfl : _ = AV.v (.bool _))) ?_
                refine DL_nil (hK34 _ ?_)
                clear hK34; try clear K34
                refine D_cF rfl rfl ?_
                refine D_skip (hK33 _ ?_)
                clear hK33; try clear K33
                refine D_le (σ' := mkStI 93 [(5, _), (6, _), (9, _), (10, _), (11, _)] [((6, 0), _)] [] []) (by
                  refine Le.mkJ [] [] rfl ?_ ?_ trivial trivial ?_
                  · exact ⟨(iF rfl), (iP rfl), (iV rfl), (iV rfl), (iV rfl), trivial⟩
                  · exact ⟨(obE rfl rfl rfl), trivial⟩
                  · kernel_rfl) ?_
                refine D_region ?_
                refine DL_c (op_mv _ (rfl : _ = AV.v (.int _ _))) ?_
                first
                  | refine DL_c (op_add _ _ rfl rfl (i64w (by omega))) ?_
                  | refine DL_c (op_add _ _ rfl rfl rfl) ?_
                refine DL_c (op_as _ (rfl : _ = AV.v (.int _ _))) ?_
                refine DL_nil ?_
                refine ⟨c + 1, ?_, ?_, ?_⟩
                · first | omega | trivial | exact ⟨by omega, by omega⟩
                · skip
                  refine Le.mkJ [] [] rfl ?_ ?_ trivial trivial ?_
                  · exact ⟨(iF rfl), (iP rfl), (iV rfl), (iV rfl), (lvI (by first | rfl | omega | (simp; done) | (simp; omega) | assumption)), trivial⟩
                  · exact ⟨(obE rfl rfl rfl), trivial⟩
                  · kernel_rfl
                · omega
            · skip
              refine DL_cn rfl rfl (by decide) ?_
              refine DL_cn rfl rfl (by decide) ?_
              refine DL_cn rfl rfl (by decide) ?_
              refine DL_cn rfl rfl (by decide) ?_
              refine DL_c (op_pick _ _ _ rfl (rfl : _ = AV.v (.bool _))) ?_
              refine DL_c (op_mv _ (rfl : _ = AV.v (.bool _))) ?_
              refine DL_cn rfl rfl (by decide) ?_
              refine DL_cn rfl rfl (by decide) ?_
              refine DL_cn rfl rfl (by decide) ?_
              refine DL_cn rfl rfl (by decide) ?_
              refine DL_cn rfl rfl (by decide) ?_
              refine DL_c (op_pick _ _ _ rfl (rfl : _ = AV.v (.bool _))) ?_
              refine DL_nil (hK34 _ ?_)
              clear hK34; try clear K34
              refine D_cF rfl rfl ?_
              refine D_skip (hK33 _ ?_)
              clear hK33; try clear K33
              refine D_le (σ' := mkStI 93 [(5, _), (6, _), (9, _), (10, _), (11, _)] [((6, 0), _)] [] []) (by
                refine Le.mkJ [] [] rfl ?_ ?_ trivial trivial ?_
                · exact ⟨(iF rfl), (iP rfl), (iV rfl), (iV rfl), (iV rfl), trivial⟩
                · exact ⟨(obE rfl rfl rfl), trivial⟩
                · kernel_rfl) ?_
              refine D_region ?_
              refine DL_c (op_mv _ (rfl : _ = AV.v (.int _ _))) ?_
              first
                | refine DL_c (op_add _ _ rfl rfl (i64w (by omega))) ?_
                | refine DL_c (op_add _ _ rfl rfl rfl) ?_
              refine DL_c (op_as _ (rfl : _ = AV.v (.int _ _))) ?_
              refine DL_nil ?_
              refine ⟨c + 1, ?_, ?_, ?_⟩
              · first | omega | trivial | exact ⟨by omega, by omega⟩
              · skip
                refine Le.mkJ [] [] rfl ?_ ?_ trivial trivial ?_
                · exact ⟨(iF rfl), (iP rfl), (iV rfl), (iV rfl), (lvI (by first | rfl | omega | (simp; done) | (simp; omega) | assumption)), trivial⟩
                · exact ⟨(obE rfl rfl rfl), trivial⟩
                · kernel_rfl
              · omega
          · skip
            refine D_exit ?_
            refine id (hK22 _ ?_)
            clear hK22; try clear K22
            refine D_region ?_
            refine DL_c (op_mv _ (rfl : _ = AV.v (.int _ _))) ?_
            first
              | refine DL_c (op_add _ _ rfl rfl (i64w (by omega))) ?_
              | refine DL_c (op_add _ _ rfl rfl rfl) ?_
            refine DL_c (op_as _ (rfl : _ = AV.v (.int _ _))) ?_
            refine DL_nil ?_
            refine ⟨b + 1, ?_, ?_, ?_⟩
            · first | omega | trivial | exact ⟨by omega, by omega⟩
            · skip
              refine Le.mkJ [] [] rfl ?_ ?_ trivial trivial ?_
              · exact ⟨(iF rfl), (iP rfl), (iV rfl), (lvI (by first | rfl | omega | (simp; done) | (simp; omega) | assumption)), trivial⟩
              · exact ⟨(obE rfl rfl rfl), trivial⟩
              · kernel_rfl
            · omega
      · skip
        refine D_exit ?_
        refine id (hK18 _ ?_)
        clear hK18; try clear K18
        refine D_region ?_
        refine DL_c (op_mv _ (rfl : _ = AV.v (.int _ _))) ?_
        first
          | refine DL_c (op_add _ _ rfl rfl (i64w (by omega))) ?_
          | refine DL_c (op_add _ _ rfl rfl rfl) ?_
        refine DL_c (op_as _ (rfl : _ = AV.v (.int _ _))) ?_
        refine DL_nil ?_
        refine ⟨a + 1, ?_, ?_, ?_⟩
        · first | omega | trivial | exact ⟨by omega, by omega⟩
        · skip
          refine Le.mkJ [] [] rfl ?_ ?_ trivial trivial ?_
          · exact ⟨(iF rfl), (iP rfl), (lvI (by first | rfl | omega | (simp; done) | (simp; omega) | assumption)), trivial⟩
          · exact ⟨(obE rfl rfl rfl), trivial⟩
          · kernel_rfl
        · omega
    · skip
      refine D_exit ?_
      refine id (hK14 _ ?_)
      clear hK14; try clear K14
      refine D_seq fun K35 hK35 => ?_
      refine D_region ?_
      refine DL_c (op_callH inferInstance (by repeat' (first | exact argsLv_nil | refine argsLv_cons ?_ ?_ | exact Lv.v | exact Lv.sl | exact Lv.fp | exact Lv.nil | refine Lv.agg rfl ?_ | refine Lv.fn rfl ?_ rfl ?_ | exact lv_nil | refine lv_cons ?_ ?_ | exact Lv.z0)) (lives_spec) rfl rfl) ?_
      refine DL_c (op_as _ (rfl : _ = AV.v (.bool _))) ?_
      refine DL_nil (hK35 _ ?_)
      clear hK35; try clear K35
      refine D_ret ?_
      refine ret1 (.inr rfl) rfl (.tmp (rfl : _ = AV.v (.bool _))) (Le.out [] [] (lvB ?_) rfl rfl rfl trivial trivial)
      rfl
theorem order_law (n : Int) (hn : -9223372036854775808 ≤ n ∧ n ≤ 9223372036854775807) (m : Nat) (l : List Int) (hm : l.length = m) (h1 : m ≤ 4611686018427387904) (hr : Rng l) :
    Spec Try.prog 4 (inSt [.v (.int .i64 n), .sl m (isl l)] []) (outSt (.v (.bool true)) []) := by
  obtain ⟨k, E, g⟩ := Gen.of n hn m l hm h1 hr
  by_cases hC : Cyc k E
  · exact order_cyc n m l k E g hC
  · exact order_ok n m l k E g hC

end Go.Proofs.Ytkbkmngbenohkaa
