/- The law PosetCovers by the machine. -/
import Derived.Test.YtkbkmngbenohkaaA19
set_option linter.unusedSimpArgs false
set_option linter.unusedVariables false
namespace Go.Proofs.Ytkbkmngbenohkaa
open Go.RowKit

theorem covers_cyc (n : Int) (m : Nat) (l : List Int) (k : Nat) (E : Prs) (g : Gen n m l k E) (hC : Cyc k E) (at_ : Int) :
    Spec Try.prog 5 (inSt [.v (.int .i64 n), .sl m (isl l), .v (.int .i64 at_)] []) (outSt (.v (.bool true)) []) := by
  refine Spec.ofN Try.func5 rfl Try.ntmps5 rfl ?_
  refine D_seq fun K1 hK1 => ?_
  refine D_region ?_
  refine DL_c (op_as _ (rfl : _ = AV.v (.bool _))) ?_
  refine DL_nil (hK1 _ ?_)
  clear hK1; try clear K1
  refine D_seq fun K2 hK2 => ?_
  refine D_seq fun K3 hK3 => ?_
  refine D_region ?_
  refine DL_c (op_mv _ (rfl : _ = AV.v (.int _ _))) ?_
  refine DL_c (op_mv _ (rfl : _ = AV.sl _ _)) ?_
  refine DL_c (op_callH inferInstance (by repeat' (first | exact argsLv_nil | refine argsLv_cons ?_ ?_ | exact Lv.v | exact Lv.sl | exact Lv.fp | exact Lv.nil | refine Lv.agg rfl ?_ | refine Lv.fn rfl ?_ rfl ?_ | exact lv_nil | refine lv_cons ?_ ?_ | exact Lv.z0)) (g.yes hC) rfl rfl) ?_
  refine DL_nil (hK3 _ ?_)
  clear hK3; try clear K3
  refine D_cT rfl rfl ?_
  refine D_seq fun K4 hK4 => ?_
  refine D_region ?_
  refine DL_c (op_callH inferInstance (by repeat' (first | exact argsLv_nil | refine argsLv_cons ?_ ?_ | exact Lv.v | exact Lv.sl | exact Lv.fp | exact Lv.nil | refine Lv.agg rfl ?_ | refine Lv.fn rfl ?_ rfl ?_ | exact lv_nil | refine lv_cons ?_ ?_ | exact Lv.z0)) (lives_spec) rfl rfl) ?_
  refine DL_c (op_as _ (rfl : _ = AV.v (.bool _))) ?_
  refine DL_nil (hK4 _ ?_)
  clear hK4; try clear K4
  refine D_ret ?_
  refine ret1 (.inr rfl) rfl (.tmp (rfl : _ = AV.v (.bool _))) (Le.out [] [] (lvB ?_) rfl rfl rfl trivial trivial)
  rfl
set_option maxHeartbeats 1000000 in
theorem covers_ok (n : Int) (m : Nat) (l : List Int) (k : Nat) (E : Prs) (g : Gen n m l k E) (hC : ¬ Cyc k E) (at_ : Int) (h2 : -9223372036854775808 ≤ at_) (h3 : at_ ≤ 9223372036854775807) :
    Spec Try.prog 5 (inSt [.v (.int .i64 n), .sl m (isl l), .v (.int .i64 at_)] []) (outSt (.v (.bool true)) []) := by
  have hk8 := g.kle
  have hE := g.inE
  have hcs := g.covers
  have hrc := g.rcovers
  have hSi := covA_in k (cl E)
  have hSc := cov_cyc hC
  have hScl := cl_cov hE hC
  have hSl := covA_small k (cl E) k (by omega) (by omega)
  have hno := fun (j : Nat) (hj : j < (covA k (cl E) k).length) (a b : Nat) => less1_no hE hC hj (a := a) (b := b)
  obtain ⟨S, hS⟩ : ∃ S, S = covA k (cl E) k := ⟨_, rfl⟩
  rw [← hS] at hcs hrc hSi hSc hScl hSl hno
  have hnw := new_spec k (by omega) _ S rfl (by omega)
  rw [newR_ok hSi hSc] at hnw
  have hl2 : ∀ a b : Nat, a < k → b < k → Spec Try.prog 33 (inSt [.fp 0 (ord k (cloW k S)), .v (.int .i64 (a : Int)), .v (.int .i64 (b : Int))] []) (outSt (.v (.bool (cl E a b))) []) := by
    intro a b ha hb
    have := lessN_spec k _ (cloW_words (n := k) (E := S) (by omega)) a b ha hb
    rw [wlt_clo hSi, hScl] at this; exact this
  refine Spec.ofN Try.func5 rfl Try.ntmps5 rfl ?_
  refine D_seq fun K1 hK1 => ?_
  refine D_region ?_
  refine DL_c (op_as _ (rfl : _ = AV.v (.bool _))) ?_
  refine DL_nil (hK1 _ ?_)
  clear hK1; try clear K1
  refine D_seq fun K2 hK2 => ?_
  refine D_seq fun K3 hK3 => ?_
  refine D_region ?_
  refine DL_c (op_mv _ (rfl : _ = AV.v (.int _ _))) ?_
  refine DL_c (op_mv _ (rfl : _ = AV.sl _ _)) ?_
  refine DL_c (op_callH inferInstance (by repeat' (first | exact argsLv_nil | refine argsLv_cons ?_ ?_ | exact Lv.v | exact Lv.sl | exact Lv.fp | exact Lv.nil | refine Lv.agg rfl ?_ | refine Lv.fn rfl ?_ rfl ?_ | exact lv_nil | refine lv_cons ?_ ?_ | exact Lv.z0)) (g.no hC) rfl rfl) ?_
  refine DL_nil (hK3 _ ?_)
  clear hK3; try clear K3
  refine D_cF rfl rfl ?_
  refine D_skip (hK2 _ ?_)
  clear hK2; try clear K2
  refine D_seq fun K4 hK4 => ?_
  refine D_region ?_
  refine DL_c (op_mv _ (rfl : _ = AV.v (.int _ _))) ?_
  refine DL_c (op_mv _ (rfl : _ = AV.sl _ _)) ?_
  refine DL_c (op_callH inferInstance (by repeat' (first | exact argsLv_nil | refine argsLv_cons ?_ ?_ | exact Lv.v | exact Lv.sl | exact Lv.fp | exact Lv.nil | refine Lv.agg rfl ?_ | refine Lv.fn rfl ?_ rfl ?_ | exact lv_nil | refine lv_cons ?_ ?_ | exact Lv.z0)) (g.made hC) rfl rfl) ?_
  refine DL_c (op_mv _ (rfl : _ = AV.tup _)) ?_
  first
    | refine DL_c (op_ext _ rfl (rfl : _ = some (AV.ptr _ _))) ?_
    | refine DL_c (op_ext _ rfl (rfl : _ = some (AV.fp _ _))) ?_
    | refine DL_c (op_ext _ rfl (rfl : _ = some (AV.v (.pointer _)))) ?_
  first
    | refine DL_c (op_ext _ rfl (rfl : _ = some (AV.agg _))) ?_
    | refine DL_c (op_ext _ rfl (rfl : _ = some (AV.v (.agg _)))) ?_
  refine DL_c (op_alloc (8, 0) inferInstance rfl rfl) ?_
  refine DL_c (op_as _ (rfl : _ = AV.fp _ _)) ?_
  refine DL_c (op_stB _ _ inferInstance rfl rfl rfl rfl (Nat.le_of_ble_eq_true rfl) rfl) ?_
  refine DL_nil (hK4 _ ?_)
  clear hK4; try clear K4
  refine D_seq fun K5 hK5 => ?_
  refine D_seq fun K6 hK6 => ?_
  refine D_region ?_
  refine DL_c (op_mv _ (rfl : _ = AV.fp _ _)) ?_
  refine DL_c (op_eqN _ _ (by kernel_rfl) (.inr ⟨_, _, rfl⟩) rfl) ?_
  refine DL_nil (hK6 _ ?_)
  clear hK6; try clear K6
  refine D_cF rfl rfl ?_
  refine D_skip (hK5 _ ?_)
  clear hK5; try clear K5
  refine D_seq fun K7 hK7 => ?_
  refine D_le (σ' := mkStI 120 [(2, _), (7, _), (8, _)] [((8, 0), _)] [] []) (by
    refine Le.mkJ [] [] rfl ?_ ?_ trivial trivial ?_
    · exact ⟨(iV rfl), (iF rfl), (iP rfl), trivial⟩
    · exact ⟨(obE rfl rfl rfl), trivial⟩
    · kernel_rfl) ?_
  refine D_region ?_
  refine DL_c (op_mv _ (rfl : _ = AV.fp _ _)) ?_
  refine DL_c (op_callH inferInstance (by repeat' (first | exact argsLv_nil | refine argsLv_cons ?_ ?_ | exact Lv.v | exact Lv.sl | exact Lv.fp | exact Lv.nil | refine Lv.agg rfl ?_ | refine Lv.fn rfl ?_ rfl ?_ | exact lv_nil | refine lv_cons ?_ ?_ | exact Lv.z0)) (hcs) rfl rfl) ?_
  refine DL_c (op_as _ (rfl : _ = AV.sl _ _)) ?_
  refine DL_nil (hK7 _ ?_)
  clear hK7; try clear K7
  refine D_seq fun K8 hK8 => ?_
  refine D_seq fun K9 hK9 => ?_
  refine D_region ?_
  refine DL_c (op_mv _ (rfl : _ = AV.sl _ _)) ?_
  first
    | refine DL_c (op_ldBA _ inferInstance rfl rfl rfl rfl) ?_
    | refine DL_c (op_ldRA _ inferInstance rfl rfl (by first | rfl | assumption | exact psl_geta _ _ (by omega)) rfl) ?_
    | refine DL_c (op_ldFA _ inferInstance rfl (by first | rfl | assumption | exact psl_geta _ _ (by omega)) rfl) ?_
  refine DL_c (op_callH inferInstance (by repeat' (first | exact argsLv_nil | refine argsLv_cons ?_ ?_ | exact Lv.v | exact Lv.sl | exact Lv.fp | exact Lv.nil | refine Lv.agg rfl ?_ | refine Lv.fn rfl ?_ rfl ?_ | exact lv_nil | refine lv_cons ?_ ?_ | exact Lv.z0)) (hrc) rfl rfl) ?_
  refine DL_c (op_callH inferInstance (by repeat' (first | exact argsLv_nil | refine argsLv_cons ?_ ?_ | exact Lv.v | exact Lv.sl | exact Lv.fp | exact Lv.nil | refine Lv.agg rfl ?_ | refine Lv.fn rfl ?_ rfl ?_ | exact lv_nil | refine lv_cons ?_ ?_ | exact Lv.z0)) (samepairs_true _ S rfl (by omega)) rfl rfl) ?_
  refine DL_c (op_not _ rfl rfl) ?_
  refine DL_nil (hK9 _ ?_)
  clear hK9; try clear K9
  refine D_cF rfl rfl ?_
  refine D_skip (hK8 _ ?_)
  clear hK8; try clear K8
  refine D_seq fun K10 hK10 => ?_
  refine D_region ?_
  first
    | refine DL_c (op_fldP _ inferInstance rfl rfl rfl) ?_
    | refine DL_c (op_fldF _ inferInstance rfl rfl) ?_
  first
    | refine DL_c (op_ldB _ inferInstance rfl rfl (rfl : _ = some (AV.v (.int _ _)))) ?_
    | refine DL_c (op_ldR _ inferInstance rfl rfl (by first | rfl | exact isl_get _ _ (by omega) | exact bsl_get _ _ (by omega) | assumption | exact psl_get0 _ _ (by omega) | exact psl_get1 _ _ (by omega) | exact nsl_get _ _ (by omega)) rfl) ?_
  refine DL_c (op_mv _ (rfl : _ = AV.sl _ _)) ?_
  refine DL_c (op_callH inferInstance (by repeat' (first | exact argsLv_nil | refine argsLv_cons ?_ ?_ | exact Lv.v | exact Lv.sl | exact Lv.fp | exact Lv.nil | refine Lv.agg rfl ?_ | refine Lv.fn rfl ?_ rfl ?_ | exact lv_nil | refine lv_cons ?_ ?_ | exact Lv.z0)) (hnw) rfl rfl) ?_
  refine DL_c (op_mv _ (rfl : _ = AV.tup _)) ?_
  first
    | refine DL_c (op_ext _ rfl (rfl : _ = some (AV.ptr _ _))) ?_
    | refine DL_c (op_ext _ rfl (rfl : _ = some (AV.fp _ _))) ?_
    | refine DL_c (op_ext _ rfl (rfl : _ = some (AV.v (.pointer _)))) ?_
  refine DL_c (op_ext _ rfl (rfl : _ = some (AV.v (.int _ _)))) ?_
  refine DL_c (op_as _ (rfl : _ = AV.fp _ _)) ?_
  refine DL_c (op_as _ (rfl : _ = AV.v (.int _ _))) ?_
  refine DL_nil (hK10 _ ?_)
  clear hK10; try clear K10
  refine D_seq fun K11 hK11 => ?_
  refine D_seq fun K12 hK12 => ?_
  refine D_le (σ' := mkStI 120 [(2, _), (7, _), (8, _), (9, _), (10, _), (11, _)] [((8, 0), _)] [] []) (by
    refine Le.mkJ [] [] rfl ?_ ?_ trivial trivial ?_
    · exact ⟨(iV rfl), (iF rfl), (iP rfl), (iS rfl), (iF rfl), (iV rfl), trivial⟩
    · exact ⟨(obE rfl rfl rfl), trivial⟩
    · kernel_rfl) ?_
  refine D_region ?_
  refine DL_c (op_mv _ (rfl : _ = AV.fp _ _)) ?_
  refine DL_c (op_eqN _ _ (by kernel_rfl) (.inr ⟨_, _, rfl⟩) rfl) ?_
  refine DL_c (op_mv _ (rfl : _ = AV.v (.bool _))) ?_
  refine DL_cy rfl rfl (op_mv _ (rfl : _ = AV.v (.int _ _))) ?_
  refine DL_cy rfl rfl (op_neq (r := false) _ _ rfl rfl rfl) ?_
  refine DL_c (op_pick _ _ _ rfl (rfl : _ = AV.v (.bool _))) ?_
  refine DL_nil (hK12 _ ?_)
  clear hK12; try clear K12
  refine D_cF rfl rfl ?_
  refine D_skip (hK11 _ ?_)
  clear hK11; try clear K11
  refine D_seq fun K13 hK13 => ?_
  refine D_seq fun K14 hK14 => ?_
  refine D_region ?_
  refine DL_c (op_as _ (rfl : _ = AV.v (.int _ _))) ?_
  refine DL_nil (hK14 _ ?_)
  clear hK14; try clear K14
  refine D_block ?_
  refine D_loopL (α := Nat) (fun a => a ≤ k) 120 [(2, _), (7, _), (8, _), (9, _), (10, _)] [((8, 0), _)] (fun a => [(12, .v (.int .i64 (a : Int)))]) (fun a => []) [] [] (fun a => k - a) 0 ?_ (by
    refine Le.mkJ [] [] rfl ?_ ?_ trivial trivial ?_
    · exact ⟨(iV rfl), (iF rfl), (iP rfl), (iS rfl), (iF rfl), (lvI (by first | rfl | omega | (simp; done) | (simp; omega) | assumption)), trivial⟩
    · exact ⟨(obE rfl rfl rfl), trivial⟩
    · kernel_rfl) ?_
  · first | omega | trivial | exact ⟨by omega, by omega⟩
  intro a ha
  refine D_seq fun K15 hK15 => ?_
  refine D_seq fun K16 hK16 => ?_
  refine D_region ?_
  refine DL_c (op_mv _ (rfl : _ = AV.v (.int _ _))) ?_
  first
    | refine DL_c (op_fldP _ inferInstance rfl rfl rfl) ?_
    | refine DL_c (op_fldF _ inferInstance rfl rfl) ?_
  first
    | refine DL_c (op_ldB _ inferInstance rfl rfl (rfl : _ = some (AV.v (.int _ _)))) ?_
    | refine DL_c (op_ldR _ inferInstance rfl rfl (by first | rfl | exact isl_get _ _ (by omega) | exact bsl_get _ _ (by omega) | assumption | exact psl_get0 _ _ (by omega) | exact psl_get1 _ _ (by omega) | exact nsl_get _ _ (by omega)) rfl) ?_
  first
    | refine DL_c (op_lss _ _ rfl rfl (by assumption)) ?_
    | refine DL_c (op_lss _ _ rfl rfl rfl) ?_
  refine DL_nil (hK16 _ ?_)
  clear hK16; try clear K16
  refine D_splitC rfl (fun hc53 => ?_) (fun hc53 => ?_)
  · skip
    refine D_skip (hK15 _ ?_)
    clear hK15; try clear K15
    refine D_seq fun K17 hK17 => ?_
    refine D_block ?_
    refine D_seq fun K18 hK18 => ?_
    refine D_region ?_
    refine DL_c (op_as _ (rfl : _ = AV.v (.int _ _))) ?_
    refine DL_nil (hK18 _ ?_)
    clear hK18; try clear K18
    refine D_block ?_
    refine D_loopL (α := Nat) (fun b => b ≤ k) 120 [(2, _), (7, _), (8, _), (9, _), (10, _), (12, _)] [((8, 0), _)] (fun b => [(13, .v (.int .i64 (b : Int)))]) (fun b => []) [] [] (fun b => k - b) 0 ?_ (by
      refine Le.mkJ [] [] rfl ?_ ?_ trivial trivial ?_
      · exact ⟨(iV rfl), (iF rfl), (iP rfl), (iS rfl), (iF rfl), (iV rfl), (lvI (by first | rfl | omega | (simp; done) | (simp; omega) | assumption)), trivial⟩
      · exact ⟨(obE rfl rfl rfl), trivial⟩
      · kernel_rfl) ?_
    · first | omega | trivial | exact ⟨by omega, by omega⟩
    intro b hb
    refine D_seq fun K19 hK19 => ?_
    refine D_seq fun K20 hK20 => ?_
    refine D_region ?_
    refine DL_c (op_mv _ (rfl : _ = AV.v (.int _ _))) ?_
    first
      | refine DL_c (op_fldP _ inferInstance rfl rfl rfl) ?_
      | refine DL_c (op_fldF _ inferInstance rfl rfl) ?_
    first
      | refine DL_c (op_ldB _ inferInstance rfl rfl (rfl : _ = some (AV.v (.int _ _)))) ?_
      | refine DL_c (op_ldR _ inferInstance rfl rfl (by first | rfl | exact isl_get _ _ (by omega) | exact bsl_get _ _ (by omega) | assumption | exact psl_get0 _ _ (by omega) | exact psl_get1 _ _ (by omega) | exact nsl_get _ _ (by omega)) rfl) ?_
    first
      | refine DL_c (op_lss _ _ rfl rfl (by assumption)) ?_
      | refine DL_c (op_lss _ _ rfl rfl rfl) ?_
    refine DL_nil (hK20 _ ?_)
    clear hK20; try clear K20
    refine D_splitC rfl (fun hc59 => ?_) (fun hc59 => ?_)
    · skip
      refine D_skip (hK19 _ ?_)
      clear hK19; try clear K19
      refine D_seq fun K21 hK21 => ?_
      refine D_block ?_
      refine D_seq fun K22 hK22 => ?_
      refine D_region ?_
      refine DL_c (op_mv _ (rfl : _ = AV.fp _ _)) ?_
      refine DL_c (op_mv _ (rfl : _ = AV.v (.int _ _))) ?_
      refine DL_c (op_mv _ (rfl : _ = AV.v (.int _ _))) ?_
      refine DL_c (op_callH inferInstance (by repeat' (first | exact argsLv_nil | refine argsLv_cons ?_ ?_ | exact Lv.v | exact Lv.sl | exact Lv.fp | exact Lv.nil | refine Lv.agg rfl ?_ | refine Lv.fn rfl ?_ rfl ?_ | exact lv_nil | refine lv_cons ?_ ?_ | exact Lv.z0)) (hl2 a b (by omega) (by omega)) rfl rfl) ?_
      refine DL_c (op_mv _ (rfl : _ = AV.fp _ _)) ?_
      refine DL_c (op_mv _ (rfl : _ = AV.v (.int _ _))) ?_
      refine DL_c (op_mv _ (rfl : _ = AV.v (.int _ _))) ?_
      refine DL_c (op_callH inferInstance (by repeat' (first | exact argsLv_nil | refine argsLv_cons ?_ ?_ | exact Lv.v | exact Lv.sl | exact Lv.fp | exact Lv.nil | refine Lv.agg rfl ?_ | refine Lv.fn rfl ?_ rfl ?_ | exact lv_nil | refine lv_cons ?_ ?_ | exact Lv.z0)) (g.less a b (by omega) (by omega)) rfl rfl) ?_
      refine DL_c (op_neB (r := false) _ _ rfl rfl Try.underlying4 (by simp)) ?_
      refine DL_nil (hK22 _ ?_)
      clear hK22; try clear K22
      refine D_cF rfl rfl ?_
      refine D_skip (hK21 _ ?_)
      clear hK21; try clear K21
      refine D_region ?_
      refine DL_c (op_mv _ (rfl : _ = AV.v (.int _ _))) ?_
      first
        | refine DL_c (op_add _ _ rfl rfl (i64w (by omega))) ?_
        | refine DL_c (op_add _ _ rfl rfl rfl) ?_
      refine DL_c (op_as _ (rfl : _ = AV.v (.int _ _))) ?_
      refine DL_nil ?_
      refine ⟨b + 1, ?_, ?_, ?_⟩
      · first | omega | trivial | exact ⟨by omega, by omega⟩
      · skip
        refine Le.mkJ [] [] rfl ?_ ?_ trivial trivial ?_
        · exact ⟨(iV rfl), (iF rfl), (iP rfl), (iS rfl), (iF rfl), (iV rfl), (lvI (by first | rfl | omega | (simp; done) | (simp; omega) | assumption)), trivial⟩
        · exact ⟨(obE rfl rfl rfl), trivial⟩
        · kernel_rfl
      · omega
    · skip
      refine D_exit ?_
      refine id (hK17 _ ?_)
      clear hK17; try clear K17
      refine D_region ?_
      refine DL_c (op_mv _ (rfl : _ = AV.v (.int _ _))) ?_
      first
        | refine DL_c (op_add _ _ rfl rfl (i64w (by omega))) ?_
        | refine DL_c (op_add _ _ rfl rfl rfl) ?_
      refine DL_c (op_as _ (rfl : _ = AV.v (.int _ _))) ?_
      refine DL_nil ?_
      refine ⟨a + 1, ?_, ?_, ?_⟩
      · first | omega | trivial | exact ⟨by omega, by omega⟩
      · skip
        refine Le.mkJ [] [] rfl ?_ ?_ trivial trivial ?_
        · exact ⟨(iV rfl), (iF rfl), (iP rfl), (iS rfl), (iF rfl), (lvI (by first | rfl | omega | (simp; done) | (simp; omega) | assumption)), trivial⟩
        · exact ⟨(obE rfl rfl rfl), trivial⟩
        · kernel_rfl
      · omega
  · skip
    refine D_exit ?_
    refine id (hK13 _ ?_)
    clear hK13; try clear K13
    refine D_seq fun K23 hK23 => ?_
    refine D_seq fun K24 hK24 => ?_
    refine D_region ?_
    refine DL_c (op_mv _ (rfl : _ = AV.sl _ _)) ?_
    refine DL_c (op_lenS _ inferInstance rfl) ?_
    first
      | refine DL_c (op_eql _ _ rfl rfl (by assumption)) ?_
      | refine DL_c (op_eql _ _ rfl rfl rfl) ?_
    refine DL_nil (hK24 _ ?_)
    clear hK24; try clear K24
    refine D_splitC rfl (fun hc73 => ?_) (fun hc73 => ?_)
    · skip
      refine D_seq fun K25 hK25 => ?_
      refine D_region ?_
      refine DL_c (op_callH inferInstance (by repeat' (first | exact argsLv_nil | refine argsLv_cons ?_ ?_ | exact Lv.v | exact Lv.sl | exact Lv.fp | exact Lv.nil | refine Lv.agg rfl ?_ | refine Lv.fn rfl ?_ rfl ?_ | exact lv_nil | refine lv_cons ?_ ?_ | exact Lv.z0)) (lives_spec) rfl rfl) ?_
      refine DL_c (op_as _ (rfl : _ = AV.v (.bool _))) ?_
      refine DL_nil (hK25 _ ?_)
      clear hK25; try clear K25
      refine D_ret ?_
      refine ret1 (.inr rfl) rfl (.tmp (rfl : _ = AV.v (.bool _))) (Le.out [] [] (lvB ?_) rfl rfl rfl trivial trivial)
      rfl
    · skip
      obtain ⟨j, hj⟩ := Int.eq_ofNat_of_zero_le (around_lo at_ S.length (by omega))
      have hjl := around_hi at_ S.length (by omega)
      have har := around_spec at_ S.length (by omega) (by omega) h2 h3
      rw [hj] at har hjl
      have hjn : j < S.length := by omega
      have hb := inE_at hSi hjn
      have hn1 := new_spec k (by omega) (less1 S j).length (less1 S j) rfl (by unfold less1; simp; omega)
      rw [newR_ok (less1_in hSi j) (less1_cyc hSc j)] at hn1
      have hlen : (less1 S j).length = j + (S.length - (j + 1)) := by unfold less1; simp; omega
      rw [hlen] at hn1
      have hls : Spec Try.prog 33 (inSt [.fp 0 (ord k (cloW k (less1 S j))), .v (.int .i64 (S.getD j (0, 0)).1), .v (.int .i64 (S.getD j (0, 0)).2)] []) (outSt (.v (.bool false)) []) := by
        obtain ⟨p, hp⟩ := Int.eq_ofNat_of_zero_le hb.1
        obtain ⟨q, hq⟩ := Int.eq_ofNat_of_zero_le hb.2.2.1
        have := lessN_spec k _ (cloW_words (n := k) (E := less1 S j) (by omega)) p q (by omega) (by omega)
        have hx : S[j] = ((p : Int), (q : Int)) := by rw [← getD_at S j (0, 0) hjn]; exact Prod.ext hp hq
        rw [wlt_clo (less1_in hSi j), hno j hjn p q (by subst hS; exact hx), ← hp, ← hq] at this
        exact this
      refine D_skip (hK23 _ ?_)
      clear hK23; try clear K23
      refine D_seq fun K26 hK26 => ?_
      refine D_region ?_
      refine DL_c (op_mv _ (rfl : _ = AV.v (.int _ _))) ?_
      refine DL_c (op_mv _ (rfl : _ = AV.sl _ _)) ?_
      refine DL_c (op_lenS _ inferInstance rfl) ?_
      refine DL_c (op_callH inferInstance (by repeat' (first | exact argsLv_nil | refine argsLv_cons ?_ ?_ | exact Lv.v | exact Lv.sl | exact Lv.fp | exact Lv.nil | refine Lv.agg rfl ?_ | refine Lv.fn rfl ?_ rfl ?_ | exact lv_nil | refine lv_cons ?_ ?_ | exact Lv.z0)) (har) rfl rfl) ?_
      refine DL_c (op_as _ (rfl : _ = AV.v (.int _ _))) ?_
      refine DL_nil (hK26 _ ?_)
      clear hK26; try clear K26
      refine D_seq fun K27 hK27 => ?_
      refine D_region ?_
      refine DL_c (op_asN (15, 0) _ 38 2 rfl rfl) ?_
      refine DL_nil (hK27 _ ?_)
      clear hK27; try clear K27
      refine D_seq fun K28 hK28 => ?_
      refine D_region ?_
      refine DL_c (op_mv _ (rfl : _ = AV.ref _ _ _)) ?_
      refine DL_c (op_mv _ (rfl : _ = AV.sl _ _)) ?_
      refine DL_c (op_mv _ (rfl : _ = AV.v (.int _ _))) ?_
      refine DL_c (op_slS _ _ _ inferInstance rfl 0 _ .dflt (.lit rfl rfl) (by omega) (by omega) (by first | exact isl_pre _ _ | exact psl_pre _ _ | exact bsl_pre _ _) (Nat.sub_zero _)) ?_
      refine DL_c (op_ap (83, 0) _ _ inferInstance rfl rfl rfl (.sl (by simp; omega)) (by omega) rfl (List.nil_append _) (Nat.zero_add _)) ?_
      refine DL_c (op_as _ (rfl : _ = AV.ref _ _ _)) ?_
      refine DL_nil (hK28 _ ?_)
      clear hK28; try clear K28
      refine D_seq fun K29 hK29 => ?_
      refine D_le (σ' := mkStI 120 [(8, _), (9, _), (14, _), (15, _)] [((8, 0), _), ((83, 0), _)] [] []) (by
        refine Le.mkJ [] [] rfl ?_ ?_ trivial trivial ?_
        · exact ⟨(iP rfl), (iS rfl), (iV rfl), (iR rfl), trivial⟩
        · exact ⟨(obE rfl rfl rfl), (obE rfl rfl rfl), trivial⟩
        · kernel_rfl) ?_
      refine D_anyL 14 [85, 86, 87, 88, 89, 90, 91, 92, 93, 84, 94, 95, 16, 17] [(83, 0), (92, 0)] (by kernel_rfl) (by kernel_rfl) rfl (nodupO_iff rfl) (rfl : _ = [_, _, _, _, _, _, _, _, _, _, _, _, _, _]) (rfl : _ = []) ?_
      first
        | refine any_c (_, []) (fun τ => op_fldP _ inferInstance rfl rfl rfl) ?_
        | refine any_c (_, []) (fun τ => op_fldF _ inferInstance rfl rfl) ?_
      refine any_n (rfl : _ = [_]) ?_
      first
        | refine any_c (_, []) (fun τ => op_ldB _ inferInstance rfl rfl (rfl : _ = some (AV.v (.int _ _)))) ?_
        | refine any_c (_, []) (fun τ => op_ldR _ inferInstance rfl rfl (by first | rfl | exact isl_get _ _ (by omega) | exact bsl_get _ _ (by omega) | assumption | exact psl_get0 _ _ (by omega) | exact psl_get1 _ _ (by omega) | exact nsl_get _ _ (by omega)) rfl) ?_
      refine any_n (rfl : _ = [_, _]) ?_
      refine any_c (_, []) (fun τ => op_mv _ (rfl : _ = AV.ref _ _ _)) ?_
      refine any_n (rfl : _ = [_, _, _]) ?_
      refine any_c (_, []) (fun τ => op_mv _ (rfl : _ = AV.sl _ _)) ?_
      refine any_n (rfl : _ = [_, _, _, _]) ?_
      refine any_c (_, []) (fun τ => op_mv _ (rfl : _ = AV.v (.int _ _))) ?_
      refine any_n (rfl : _ = [_, _, _, _, _]) ?_
      first
        | refine any_c (_, []) (fun τ => op_add _ _ rfl rfl (i64w (by omega))) ?_
        | refine any_c (_, []) (fun τ => op_add _ _ rfl rfl rfl) ?_
      refine any_n (rfl : _ = [_, _, _, _, _, _]) ?_
      refine any_c (_, []) (fun τ => op_slS _ _ _ inferInstance rfl (j + 1) S.length (.lit rfl (by omega)) .dflt (by omega) (by omega) (psl_suf _ _ _ rfl) rfl) ?_
      refine any_n (rfl : _ = [_, _, _, _, _, _, _]) ?_
      refine any_c (_, [((83, 0), .gone), ((92, 0), .gone)]) (fun τ => op_apF (92, 0) _ _ inferInstance rfl (mix_own rfl (by exact inO_head) rfl) (by simp; omega) (.sl (by simp; omega)) (by omega) rfl rfl rfl (by exact psl_append (S.take j) (S.drop (j + 1))) rfl) ?_
      refine any_n (rfl : _ = [_, _, _, _, _, _, _, _]) ?_
      refine any_c (_, []) (fun τ => (op_callH inferInstance (by repeat' (first | exact argsLv_nil | refine argsLv_cons ?_ ?_ | exact Lv.v | exact Lv.sl | exact Lv.fp | exact Lv.nil | refine Lv.agg rfl ?_ | refine Lv.fn rfl ?_ rfl ?_ | exact lv_nil | refine lv_cons ?_ ?_ | exact Lv.z0)) (hn1) rfl rfl)) ?_
      refine any_n (rfl : _ = [_, _, _, _, _, _, _, _, _]) ?_
      refine any_c (_, []) (fun τ => op_mv _ (rfl : _ = AV.tup _)) ?_
      refine any_n (rfl : _ = [_, _, _, _, _, _, _, _, _, _]) ?_
      first
        | refine any_c (_, []) (fun τ => op_ext _ rfl (rfl : _ = some (AV.ptr _ _))) ?_
        | refine any_c (_, []) (fun τ => op_ext _ rfl (rfl : _ = some (AV.fp _ _))) ?_
        | refine any_c (_, []) (fun τ => op_ext _ rfl (rfl : _ = some (AV.v (.pointer _)))) ?_
      refine any_n (rfl : _ = [_, _, _, _, _, _, _, _, _, _, _]) ?_
      refine any_c (_, []) (fun τ => op_ext _ rfl (rfl : _ = some (AV.v (.int _ _)))) ?_
      refine any_n (rfl : _ = [_, _, _, _, _, _, _, _, _, _, _, _]) ?_
      refine any_c (_, []) (fun τ => op_as _ (rfl : _ = AV.fp _ _)) ?_
      refine any_n (rfl : _ = [_, _, _, _, _, _, _, _, _, _, _, _, _]) ?_
      refine any_c (_, []) (fun τ => op_as _ (rfl : _ = AV.v (.int _ _))) ?_
      refine any_n (rfl : _ = [_, _, _, _, _, _, _, _, _, _, _, _, _, _]) ?_
      refine any_end ⟨rfl, ?_⟩
      refine DL_nil (hK29 _ ?_)
      clear hK29; try clear K29
      refine D_seq fun K30 hK30 => ?_
      refine D_le (σ' := mkStI 120 [(9, _), (14, _), (16, _), (17, _)] [] [] []) (by
        refine Le.mkJ [] [] rfl ?_ ?_ trivial trivial ?_
        · exact ⟨(iS rfl), (iV rfl), (iF rfl), (iV rfl), trivial⟩
        · exact trivial
        · kernel_rfl) ?_
      refine D_anyL 25 [96, 97, 98, 99, 100, 101, 102, 103, 104, 105, 106, 107, 108, 109, 110, 111, 112, 113, 114, 115, 116, 117, 118, 119, 6] [] (by kernel_rfl) (by kernel_rfl) rfl (nodupO_iff rfl) (rfl : _ = [_, _, _, _, _, _, _, _, _, _, _, _, _, _, _, _, _, _, _, _, _, _, _, _, _]) (rfl : _ = []) ?_
      refine any_c (_, []) (fun τ => op_mv _ (rfl : _ = AV.fp _ _)) ?_
      refine any_n (rfl : _ = [_]) ?_
      refine any_c (_, []) (fun τ => op_neN _ _ (by kernel_rfl) (.inr ⟨_, _, rfl⟩) rfl) ?_
      refine any_n (rfl : _ = [_, _]) ?_
      refine any_c (_, []) (fun τ => op_mv _ (rfl : _ = AV.v (.bool _))) ?_
      refine any_n (rfl : _ = [_, _, _]) ?_
      refine any_cy (_, []) rfl (fun τ => rfl) (fun τ => op_mv _ (rfl : _ = AV.v (.int _ _))) ?_
      refine any_n (rfl : _ = [_, _, _, _]) ?_
      refine any_cy (_, []) rfl (fun τ => rfl) (fun τ => op_eql (r := true) _ _ rfl rfl rfl) ?_
      refine any_n (rfl : _ = [_, _, _, _, _]) ?_
      refine any_c (_, []) (fun τ => op_pick _ _ _ rfl (rfl : _ = AV.v (.bool _))) ?_
      refine any_n (rfl : _ = [_, _, _, _, _, _]) ?_
      refine any_c (_, []) (fun τ => op_mv _ (rfl : _ = AV.v (.bool _))) ?_
      refine any_n (rfl : _ = [_, _, _, _, _, _, _]) ?_
      refine any_cy (_, []) rfl (fun τ => rfl) (fun τ => op_mv _ (rfl : _ = AV.fp _ _)) ?_
      refine any_n (rfl : _ = [_, _, _, _, _, _, _, _]) ?_
      refine any_cy (_, []) rfl (fun τ => rfl) (fun τ => op_mv _ (rfl : _ = AV.sl _ _)) ?_
      refine any_n (rfl : _ = [_, _, _, _, _, _, _, _, _]) ?_
      refine any_cy (_, []) rfl (fun τ => rfl) (fun τ => op_mv _ (rfl : _ = AV.v (.int _ _))) ?_
      refine any_n (rfl : _ = [_, _, _, _, _, _, _, _, _, _]) ?_
      first
        | refine any_cy (_, []) rfl (fun τ => rfl) (fun τ => op_ixS _ _ inferInstance rfl rfl _ rfl (by omega) (by first | assumption | decide | (simp only [isl_len, bsl_len, psl_len, ws_len, mrows_len, nsl_len, List.length_map, nl_len]; omega) | (simp; done) | (simp; omega) | (simp [isl, bsl]; omega)) (by first | exact Nat.mul_one _ | rfl | omega)) ?_
        | refine any_cy (_, []) rfl (fun τ => rfl) (fun τ => op_ixS _ _ inferInstance rfl rfl (Int.toNat _) (Int.toNat_of_nonneg (by omega)).symm (by omega) (by first | assumption | decide | (simp only [isl_len, bsl_len, psl_len, ws_len, mrows_len, nsl_len, List.length_map, nl_len]; omega) | (simp; done) | (simp; omega) | (simp [isl, bsl]; omega)) (by first | exact Nat.mul_one _ | rfl | omega)) ?_
      refine any_n (rfl : _ = [_, _, _, _, _, _, _, _, _, _, _]) ?_
      refine any_cy (_, []) rfl (fun τ => rfl) (fun τ => op_ixAF _ _ inferInstance rfl rfl 0 rfl (by omega) (by first | exact (Nat.zero_add _).trans (Nat.mul_one _) | exact Nat.zero_add _ | rfl | omega)) ?_
      refine any_n (rfl : _ = [_, _, _, _, _, _, _, _, _, _, _, _]) ?_
      refine any_cy (_, []) rfl (fun τ => rfl) (fun τ => op_ldF _ inferInstance rfl (by first | rfl | exact isl_get _ _ (by omega) | exact bsl_get _ _ (by omega) | assumption | exact psl_get0 _ _ (by omega) | exact psl_get1 _ _ (by omega) | exact nsl_get _ _ (by omega)) rfl) ?_
      refine any_n (rfl : _ = [_, _, _, _, _, _, _, _, _, _, _, _, _]) ?_
      refine any_cy (_, []) rfl (fun τ => rfl) (fun τ => op_mv _ (rfl : _ = AV.sl _ _)) ?_
      refine any_n (rfl : _ = [_, _, _, _, _, _, _, _, _, _, _, _, _, _]) ?_
      refine any_cy (_, []) rfl (fun τ => rfl) (fun τ => op_mv _ (rfl : _ = AV.v (.int _ _))) ?_
      refine any_n (rfl : _ = [_, _, _, _, _, _, _, _, _, _, _, _, _, _, _]) ?_
      first
        | refine any_cy (_, []) rfl (fun τ => rfl) (fun τ => op_ixS _ _ inferInstance rfl rfl _ rfl (by omega) (by first | assumption | decide | (simp only [isl_len, bsl_len, psl_len, ws_len, mrows_len, nsl_len, List.length_map, nl_len]; omega) | (simp; done) | (simp; omega) | (simp [isl, bsl]; omega)) (by first | exact Nat.mul_one _ | rfl | omega)) ?_
        | refine any_cy (_, []) rfl (fun τ => rfl) (fun τ => op_ixS _ _ inferInstance rfl rfl (Int.toNat _) (Int.toNat_of_nonneg (by omega)).symm (by omega) (by first | assumption | decide | (simp only [isl_len, bsl_len, psl_len, ws_len, mrows_len, nsl_len, List.length_map, nl_len]; omega) | (simp; done) | (simp; omega) | (simp [isl, bsl]; omega)) (by first | exact Nat.mul_one _ | rfl | omega)) ?_
      refine any_n (rfl : _ = [_, _, _, _, _, _, _, _, _, _, _, _, _, _, _, _]) ?_
      refine any_cy (_, []) rfl (fun τ => rfl) (fun τ => op_ixAF _ _ inferInstance rfl rfl 1 rfl (by omega) (by first | exact (Nat.zero_add _).trans (Nat.mul_one _) | exact Nat.zero_add _ | rfl | omega)) ?_
      refine any_n (rfl : _ = [_, _, _, _, _, _, _, _, _, _, _, _, _, _, _, _, _]) ?_
      refine any_cy (_, []) rfl (fun τ => rfl) (fun τ => op_ldF _ inferInstance rfl (by first | rfl | exact isl_get _ _ (by omega) | exact bsl_get _ _ (by omega) | assumption | exact psl_get0 _ _ (by omega) | exact psl_get1 _ _ (by omega) | exact nsl_get _ _ (by omega)) rfl) ?_
      refine any_n (rfl : _ = [_, _, _, _, _, _, _, _, _, _, _, _, _, _, _, _, _, _]) ?_
      refine any_cy (_, []) rfl (fun τ => rfl) (fun τ => (op_callH inferInstance (by repeat' (first | exact argsLv_nil | refine argsLv_cons ?_ ?_ | exact Lv.v | exact Lv.sl | exact Lv.fp | exact Lv.nil | refine Lv.agg rfl ?_ | refine Lv.fn rfl ?_ rfl ?_ | exact lv_nil | refine lv_cons ?_ ?_ | exact Lv.z0)) (hls) rfl rfl)) ?_
      refine any_n (rfl : _ = [_, _, _, _, _, _, _, _, _, _, _, _, _, _, _, _, _, _, _]) ?_
      refine any_cy (_, []) rfl (fun τ => rfl) (fun τ => op_not _ rfl rfl) ?_
      refine any_n (rfl : _ = [_, _, _, _, _, _, _, _, _, _, _, _, _, _, _, _, _, _, _, _]) ?_
      refine any_c (_, []) (fun τ => op_pick _ _ _ rfl (rfl : _ = AV.v (.bool _))) ?_
      refine any_n (rfl : _ = [_, _, _, _, _, _, _, _, _, _, _, _, _, _, _, _, _, _, _, _, _]) ?_
      refine any_c (_, []) (fun τ => op_mv _ (rfl : _ = AV.v (.bool _))) ?_
      refine any_n (rfl : _ = [_, _, _, _, _, _, _, _, _, _, _, _, _, _, _, _, _, _, _, _, _, _]) ?_
      refine any_cy (_, []) rfl (fun τ => rfl) (fun τ => (op_callH inferInstance (by repeat' (first | exact argsLv_nil | refine argsLv_cons ?_ ?_ | exact Lv.v | exact Lv.sl | exact Lv.fp | exact Lv.nil | refine Lv.agg rfl ?_ | refine Lv.fn rfl ?_ rfl ?_ | exact lv_nil | refine lv_cons ?_ ?_ | exact Lv.z0)) (lives_spec) rfl rfl)) ?_
      refine any_n (rfl : _ = [_, _, _, _, _, _, _, _, _, _, _, _, _, _, _, _, _, _, _, _, _, _, _]) ?_
      refine any_c (_, []) (fun τ => op_pick _ _ _ rfl (rfl : _ = AV.v (.bool _))) ?_
      refine any_n (rfl : _ = [_, _, _, _, _, _, _, _, _, _, _, _, _, _, _, _, _, _, _, _, _, _, _, _]) ?_
      refine any_c (_, []) (fun τ => op_as _ (rfl : _ = AV.v (.bool _))) ?_
      refine any_n (rfl : _ = [_, _, _, _, _, _, _, _, _, _, _, _, _, _, _, _, _, _, _, _, _, _, _, _, _]) ?_
      refine any_end ⟨rfl, ?_⟩
      refine DL_nil (hK30 _ ?_)
      clear hK30; try clear K30
      refine D_ret ?_
      refine ret1 (.inr rfl) rfl (.tmp (rfl : _ = AV.v (.bool _))) (Le.out [] [] (lvB ?_) rfl rfl rfl trivial trivial)
      rfl
theorem covers_law (n : Int) (hn : -9223372036854775808 ≤ n ∧ n ≤ 9223372036854775807) (m : Nat) (l : List Int) (hm : l.length = m) (h1 : m ≤ 4611686018427387904) (hr : Rng l) (at_ : Int) (ha : -9223372036854775808 ≤ at_ ∧ at_ ≤ 9223372036854775807) :
    Spec Try.prog 5 (inSt [.v (.int .i64 n), .sl m (isl l), .v (.int .i64 at_)] []) (outSt (.v (.bool true)) []) := by
  obtain ⟨k, E, g⟩ := Gen.of n hn m l hm h1 hr
  by_cases hC : Cyc k E
  · exact covers_cyc n m l k E g hC at_
  · exact covers_ok n m l k E g hC at_ ha.1 ha.2
end Go.Proofs.Ytkbkmngbenohkaa
