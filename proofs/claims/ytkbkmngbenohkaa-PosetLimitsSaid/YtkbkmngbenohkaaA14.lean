/- The reference's All by the machine. -/
import Derived.Test.YtkbkmngbenohkaaA13
import Derived.Test.YtkbkmngbenohkaaB7
set_option linter.unusedSimpArgs false
set_option linter.unusedVariables false
namespace Go.Proofs.Ytkbkmngbenohkaa
open Go.RowKit

def arows (L : List (List Nat)) : List PV := L.map fun r => .sl r.length (nsl r)
theorem arows_app (a b : List (List Nat)) : arows a ++ arows b = arows (a ++ b) := by simp [arows]
@[simp] theorem arows_len (a : List (List Nat)) : (arows a).length = a.length := by simp [arows]
theorem all_last (n : Nat) (M : List (List Bool)) (hM : Mat n M) (l : List Nat) (hl : l.length = n) :
    Spec Try.prog 52 (inSt [.agg (rord n M), .sl l.length (nsl l)] []) (outSt (.sl 1 (arows [l])) []) := by
  have hle := hM.le
  refine Spec.ofN Try.func52 rfl Try.ntmps52 rfl ?_
  refine D_seq fun K1 hK1 => ?_
  refine D_region ?_
  refine DL_c (op_box (2, 0) _ rfl rfl) ?_
  first
    | refine DL_c (op_as _ (rfl : _ = AV.sl _ _)) ?_
    | refine DL_c (op_as _ (rfl : _ = AV.ref _ _ _)) ?_
    | refine DL_c (op_as _ (rfl : _ = AV.v (.slice _ _ _))) ?_
    | refine DL_c (op_as _ (rfl : _ = AV.z)) ?_
  refine DL_nil (hK1 _ ?_)
  clear hK1; try clear K1
  refine D_seq fun K2 hK2 => ?_
  refine D_seq fun K3 hK3 => ?_
  refine D_region ?_
  refine DL_c (op_mv _ (rfl : _ = AV.sl _ _)) ?_
  refine DL_c (op_lenS _ inferInstance rfl) ?_
  first
    | refine DL_c (op_fldP _ inferInstance rfl rfl rfl) ?_
    | refine DL_c (op_fldF _ inferInstance rfl rfl) ?_
  first
    | refine DL_c (op_ldB _ inferInstance rfl rfl (rfl : _ = some (AV.v (.int _ _)))) ?_
    | refine DL_c (op_ldR _ inferInstance rfl rfl (by first | rfl | exact isl_get _ _ (by omega) | exact bsl_get _ _ (by omega) | assumption | exact mrows_get _ _ (by omega) | exact nsl_get _ _ (by omega)) rfl) ?_
  first
    | refine DL_c (op_eql _ _ rfl rfl (by assumption)) ?_
    | refine DL_c (op_eql _ _ rfl rfl rfl) ?_
  refine DL_nil (hK3 _ ?_)
  clear hK3; try clear K3
  refine D_splitC rfl (fun hc15 => ?_) (fun hc15 => ?_)
  · skip
    refine D_seq fun K4 hK4 => ?_
    refine D_region ?_
    refine DL_c (op_mv _ (rfl : _ = AV.sl _ _)) ?_
    refine DL_c (op_bsF _ _ inferInstance rfl (by rfl) (by simp <;> rfl) (by decide) rfl) ?_
    refine DL_c (op_as _ (rfl : _ = AV.sl _ _)) ?_
    refine DL_nil (hK4 _ ?_)
    clear hK4; try clear K4
    refine D_ret ?_
    refine ret1 (.inr rfl) rfl (.tmp (rfl : _ = AV.sl _ _)) (Le.out [] [] (lvS ?_ ?_) rfl rfl rfl trivial trivial)
    all_goals rfl
  · skip
    exact absurd  hc15 (by omega)
theorem all_step (n : Nat) (hn : n ≤ 6) (M : List (List Bool)) (hM : Mat n M) (d : Nat)
    (ih : ∀ l : List Nat, l.length + d = n → Spec Try.prog 52 (inSt [.agg (rord n M), .sl l.length (nsl l)] []) (outSt (.sl (allE n (mlt M) d l).length (arows (allE n (mlt M) d l))) []))
    (l : List Nat) (hl : l.length + (d + 1) = n) :
    Spec Try.prog 52 (inSt [.agg (rord n M), .sl l.length (nsl l)] []) (outSt (.sl (allE n (mlt M) (d + 1) l).length (arows (allE n (mlt M) (d + 1) l))) []) := by
  have hle := hM.le
  have hml := hM.len
  refine Spec.ofN Try.func52 rfl Try.ntmps52 rfl ?_
  refine D_seq fun K1 hK1 => ?_
  refine D_region ?_
  refine DL_c (op_box (2, 0) _ rfl rfl) ?_
  first
    | refine DL_c (op_as _ (rfl : _ = AV.sl _ _)) ?_
    | refine DL_c (op_as _ (rfl : _ = AV.ref _ _ _)) ?_
    | refine DL_c (op_as _ (rfl : _ = AV.v (.slice _ _ _))) ?_
    | refine DL_c (op_as _ (rfl : _ = AV.z)) ?_
  refine DL_nil (hK1 _ ?_)
  clear hK1; try clear K1
  refine D_seq fun K2 hK2 => ?_
  refine D_seq fun K3 hK3 => ?_
  refine D_region ?_
  refine DL_c (op_mv _ (rfl : _ = AV.sl _ _)) ?_
  refine DL_c (op_lenS _ inferInstance rfl) ?_
  first
    | refine DL_c (op_fldP _ inferInstance rfl rfl rfl) ?_
    | refine DL_c (op_fldF _ inferInstance rfl rfl) ?_
  first
    | refine DL_c (op_ldB _ inferInstance rfl rfl (rfl : _ = some (AV.v (.int _ _)))) ?_
    | refine DL_c (op_ldR _ inferInstance rfl rfl (by first | rfl | exact isl_get _ _ (by omega) | exact bsl_get _ _ (by omega) | assumption | exact mrows_get _ _ (by omega) | exact nsl_get _ _ (by omega)) rfl) ?_
  first
    | refine DL_c (op_eql _ _ rfl rfl (by assumption)) ?_
    | refine DL_c (op_eql _ _ rfl rfl rfl) ?_
  refine DL_nil (hK3 _ ?_)
  clear hK3; try clear K3
  refine D_splitC rfl (fun hc15 => ?_) (fun hc15 => ?_)
  · skip
    exact absurd  hc15 (by omega)
  · skip
    refine D_skip (hK2 _ ?_)
    clear hK2; try clear K2
    refine D_seq fun K4 hK4 => ?_
    refine D_region ?_
    refine DL_c (op_asN (5, 0) _ 29 1 rfl rfl) ?_
    refine DL_nil (hK4 _ ?_)
    clear hK4; try clear K4
    refine D_seq fun K5 hK5 => ?_
    refine D_seq fun K6 hK6 => ?_
    refine D_region ?_
    refine DL_c (op_as _ (rfl : _ = AV.v (.int _ _))) ?_
    refine DL_nil (hK6 _ ?_)
    clear hK6; try clear K6
    refine D_block ?_
    refine D_loopL (α := Nat) (fun a => a ≤ n) 62 [(1, _), (2, _)] [((2, 0), _)] (fun a => [(6, .v (.int .i64 (a : Int))), (5, .ref (5, 0) 0 (allK n (mlt M) d l a).length)]) (fun a => [((5, 0), .row 29 1 (arows (allK n (mlt M) d l a)))]) [] [] (fun a => n - a) 0 ?_ (by
      refine Le.mkJ [] [] rfl ?_ ?_ trivial trivial ?_
      · exact ⟨(iS rfl), (iP rfl), (lvI (by first | rfl | omega | (simp; done) | (simp; omega) | assumption)), (lvRr rfl (by first | rfl | omega | (simp; done) | (simp; omega) | assumption)), trivial⟩
      · exact ⟨(obE rfl rfl rfl), (obR rfl rfl rfl (by first | rfl | omega | (simp; done) | (simp; omega) | assumption)), trivial⟩
      · kernel_rfl) ?_
    · first | omega | trivial | exact ⟨by omega, by omega⟩
    intro a ha
    refine D_seq fun K7 hK7 => ?_
    refine D_seq fun K8 hK8 => ?_
    refine D_region ?_
    refine DL_c (op_mv _ (rfl : _ = AV.v (.int _ _))) ?_
    first
      | refine DL_c (op_fldP _ inferInstance rfl rfl rfl) ?_
      | refine DL_c (op_fldF _ inferInstance rfl rfl) ?_
    first
      | refine DL_c (op_ldB _ inferInstance rfl rfl (rfl : _ = some (AV.v (.int _ _)))) ?_
      | refine DL_c (op_ldR _ inferInstance rfl rfl (by first | rfl | exact isl_get _ _ (by omega) | exact bsl_get _ _ (by omega) | assumption | exact mrows_get _ _ (by omega) | exact nsl_get _ _ (by omega)) rfl) ?_
    first
      | refine DL_c (op_lss _ _ rfl rfl (by assumption)) ?_
      | refine DL_c (op_lss _ _ rfl rfl rfl) ?_
    refine DL_nil (hK8 _ ?_)
    clear hK8; try clear K8
    refine D_splitC rfl (fun hc21 => ?_) (fun hc21 => ?_)
    · skip
      refine D_skip (hK7 _ ?_)
      clear hK7; try clear K7
      refine D_seq fun K9 hK9 => ?_
      refine D_block ?_
      refine D_seq fun K10 hK10 => ?_
      refine D_region ?_
      refine DL_c (op_mv _ (rfl : _ = AV.sl _ _)) ?_
      refine DL_c (op_mv _ (rfl : _ = AV.v (.int _ _))) ?_
      refine DL_c (op_callH inferInstance (by repeat' (first | exact argsLv_nil | refine argsLv_cons ?_ ?_ | exact Lv.v | exact Lv.sl | exact Lv.fp | exact Lv.nil | refine Lv.agg rfl ?_ | refine Lv.fn rfl ?_ rfl ?_ | exact lv_nil | refine lv_cons ?_ ?_ | exact Lv.z0)) (hasN_spec l.length l a rfl (by omega)) rfl rfl) ?_
      refine DL_c (op_not _ rfl rfl) ?_
      refine DL_c (op_as _ (rfl : _ = AV.v (.bool _))) ?_
      refine DL_nil (hK10 _ ?_)
      clear hK10; try clear K10
      refine D_seq fun K11 hK11 => ?_
      refine D_seq fun K12 hK12 => ?_
      refine D_region ?_
      refine DL_c (op_as _ (rfl : _ = AV.v (.int _ _))) ?_
      refine DL_nil (hK12 _ ?_)
      clear hK12; try clear K12
      refine D_block ?_
      refine D_loopL (α := Nat) (fun b => b ≤ n) 62 [(1, _), (2, _), (5, _), (6, _)] [((2, 0), _), ((5, 0), _)] (fun b => [(8, .v (.int .i64 (b : Int))), (7, .v (.bool (frk (mlt M) l a b)))]) (fun b => []) [] [] (fun b => n - b) 0 ?_ (by
        refine Le.mkJ [] [] rfl ?_ ?_ trivial trivial ?_
        · exact ⟨(iS rfl), (iP rfl), (iR rfl), (iV rfl), (lvI (by first | rfl | omega | (simp [frk]) | (simp; done) | (simp; omega) | assumption)), (lvB (by first | rfl | omega | (simp [frk]) | (simp; done) | (simp; omega) | assumption)), trivial⟩
        · exact ⟨(obE rfl rfl rfl), (obE rfl rfl rfl), trivial⟩
        · kernel_rfl) ?_
      · first | omega | trivial | exact ⟨by omega, by omega⟩
      intro b hb
      refine D_seq fun K13 hK13 => ?_
      refine D_seq fun K14 hK14 => ?_
      refine D_region ?_
      refine DL_c (op_mv _ (rfl : _ = AV.v (.int _ _))) ?_
      first
        | refine DL_c (op_fldP _ inferInstance rfl rfl rfl) ?_
        | refine DL_c (op_fldF _ inferInstance rfl rfl) ?_
      first
        | refine DL_c (op_ldB _ inferInstance rfl rfl (rfl : _ = some (AV.v (.int _ _)))) ?_
        | refine DL_c (op_ldR _ inferInstance rfl rfl (by first | rfl | exact isl_get _ _ (by omega) | exact bsl_get _ _ (by omega) | assumption | exact mrows_get _ _ (by omega) | exact nsl_get _ _ (by omega)) rfl) ?_
      first
        | refine DL_c (op_lss _ _ rfl rfl (by assumption)) ?_
        | refine DL_c (op_lss _ _ rfl rfl rfl) ?_
      refine DL_nil (hK14 _ ?_)
      clear hK14; try clear K14
      refine D_splitC rfl (fun hc31 => ?_) (fun hc31 => ?_)
      · skip
        have hrb := hM.row b (by omega)
        refine D_skip (hK13 _ ?_)
        clear hK13; try clear K13
        refine D_seq fun K15 hK15 => ?_
        refine D_block ?_
        refine D_seq fun K16 hK16 => ?_
        refine D_region ?_
        first
          | refine DL_c (op_fldP _ inferInstance rfl rfl rfl) ?_
          | refine DL_c (op_fldF _ inferInstance rfl rfl) ?_
        first
          | refine DL_c (op_ldB _ inferInstance rfl rfl (rfl : _ = some (AV.sl _ _))) ?_
          | refine DL_c (op_ldR _ inferInstance rfl rfl (by first | rfl | exact isl_get _ _ (by omega) | exact bsl_get _ _ (by omega) | assumption | exact mrows_get _ _ (by omega) | exact nsl_get _ _ (by omega)) rfl) ?_
        refine DL_c (op_mv _ (rfl : _ = AV.v (.int _ _))) ?_
        first
          | refine DL_c (op_ixS _ _ inferInstance rfl rfl _ rfl (by omega) (by first | assumption | decide | (simp only [isl_len, bsl_len, psl_len, mrows_len, nsl_len, ws_len, List.length_map, mzero_len]; omega) | (simp; done) | (simp; omega) | (simp [isl, bsl]; omega)) (by first | exact Nat.mul_one _ | rfl | omega)) ?_
          | refine DL_c (op_ixS _ _ inferInstance rfl rfl (Int.toNat _) (Int.toNat_of_nonneg (by omega)).symm (by omega) (by first | assumption | decide | (simp only [isl_len, bsl_len, psl_len, mrows_len, nsl_len, ws_len, List.length_map, mzero_len]; omega) | (simp; done) | (simp; omega) | (simp [isl, bsl]; omega)) (by first | exact Nat.mul_one _ | rfl | omega)) ?_
        refine DL_c (op_ldF _ inferInstance rfl (by first | rfl | exact isl_get _ _ (by omega) | exact bsl_get _ _ (by omega) | assumption | exact mrows_get _ _ (by omega) | exact nsl_get _ _ (by omega)) rfl) ?_
        refine DL_c (op_mv _ (rfl : _ = AV.v (.int _ _))) ?_
        first
          | refine DL_c (op_ixS _ _ inferInstance rfl rfl _ rfl (by omega) (by first | assumption | decide | (simp only [isl_len, bsl_len, psl_len, mrows_len, nsl_len, ws_len, List.length_map, mzero_len]; omega) | (simp; done) | (simp; omega) | (simp [isl, bsl]; omega)) (by first | exact Nat.mul_one _ | rfl | omega)) ?_
          | refine DL_c (op_ixS _ _ inferInstance rfl rfl (Int.toNat _) (Int.toNat_of_nonneg (by omega)).symm (by omega) (by first | assumption | decide | (simp only [isl_len, bsl_len, psl_len, mrows_len, nsl_len, ws_len, List.length_map, mzero_len]; omega) | (simp; done) | (simp; omega) | (simp [isl, bsl]; omega)) (by first | exact Nat.mul_one _ | rfl | omega)) ?_
          | refine DL_c (op_ixR _ _ inferInstance rfl rfl rfl _ rfl (by omega) (by first | exact (Nat.zero_add _).trans (Nat.mul_one _) | exact Nat.zero_add _ | rfl | omega)) ?_
          | refine DL_c (op_ixR _ _ inferInstance rfl rfl rfl (Int.toNat _) (Int.toNat_of_nonneg (by omega)).symm (by omega) (by first | exact (Nat.zero_add _).trans (Nat.mul_one _) | exact Nat.zero_add _ | rfl | omega)) ?_
          | refine DL_c (op_ixB _ _ inferInstance rfl rfl rfl _ rfl (by omega) (by first | exact (Nat.zero_add _).trans (Nat.mul_one _) | exact Nat.zero_add _ | rfl | omega)) ?_
          | refine DL_c (op_ixB _ _ inferInstance rfl rfl rfl (Int.toNat _) (Int.toNat_of_nonneg (by omega)).symm (by omega) (by first | exact (Nat.zero_add _).trans (Nat.mul_one _) | exact Nat.zero_add _ | rfl | omega)) ?_
        first
          | refine DL_c (op_ldB _ inferInstance rfl rfl (rfl : _ = some (AV.v (.bool _)))) ?_
          | refine DL_c (op_ldR _ inferInstance rfl rfl (by first | rfl | exact isl_get _ _ (by omega) | exact bsl_get _ _ (by omega) | assumption | exact mrows_get _ _ (by omega) | exact nsl_get _ _ (by omega)) rfl) ?_
          | refine DL_c (op_ldF _ inferInstance rfl (by first | rfl | exact isl_get _ _ (by omega) | exact bsl_get _ _ (by omega) | assumption | exact mrows_get _ _ (by omega) | exact nsl_get _ _ (by omega)) rfl) ?_
        refine DL_c (op_mv _ (rfl : _ = AV.v (.bool _))) ?_
        refine DL_caseC (fun hg42 => ?_) (fun hg42 => ?_)
        · skip
          refine DL_cy rfl rfl (op_mv _ (rfl : _ = AV.sl _ _)) ?_
          refine DL_cy rfl rfl (op_mv _ (rfl : _ = AV.v (.int _ _))) ?_
          refine DL_cy rfl rfl (op_callH inferInstance (by repeat' (first | exact argsLv_nil | refine argsLv_cons ?_ ?_ | exact Lv.v | exact Lv.sl | exact Lv.fp | exact Lv.nil | refine Lv.agg rfl ?_ | refine Lv.fn rfl ?_ rfl ?_ | exact lv_nil | refine lv_cons ?_ ?_ | exact Lv.z0)) (hasN_spec l.length l b rfl (by omega)) rfl rfl) ?_
          refine DL_cy rfl rfl (op_not _ rfl rfl) ?_
          refine DL_c (op_pick _ _ _ rfl (rfl : _ = AV.v (.bool _))) ?_
          refine DL_nil (hK16 _ ?_)
          clear hK16; try clear K16
          refine D_splitC rfl (fun hc47 => ?_) (fun hc47 => ?_)
          · skip
            refine D_le (σ' := mkStI 62 [(1, _), (2, _), (5, _), (6, _), (8, _)] [((2, 0), _), ((5, 0), _)] [] []) (by
              refine Le.mkJ [] [] rfl ?_ ?_ trivial trivial ?_
              · exact ⟨(iS rfl), (iP rfl), (iR rfl), (iV rfl), (iV rfl), trivial⟩
              · exact ⟨(obE rfl rfl rfl), (obE rfl rfl rfl), trivial⟩
              · kernel_rfl) ?_
            refine D_region ?_
            refine DL_c (op_as _ (rfl : _ = AV.v (.bool _))) ?_
            refine DL_nil (hK15 _ ?_)
            clear hK15; try clear K15
            refine D_region ?_
            refine DL_c (op_mv _ (rfl : _ = AV.v (.int _ _))) ?_
            first
              | refine DL_c (op_add _ _ rfl rfl (i64w (by omega))) ?_
              | refine DL_c (op_add _ _ rfl rfl rfl) ?_
            refine DL_c (op_as _ (rfl : _ = AV.v (.int _ _))) ?_
            refine DL_nil ?_
            refine ⟨b + 1, ?_, ?_, ?_⟩
            · first | omega | trivial | exact ⟨by omega, by omega⟩
            · skip
              refine Le.mkJ [] [] rfl ?_ ?_ trivial trivial ?_
              · exact ⟨(iS rfl), (iP rfl), (iR rfl), (iV rfl), (lvI (by first | rfl | omega | (rw [frk_succ, show mlt M b a = true from hg42, hc47]; simp) | (simp; done) | (simp; omega) | assumption)), (lvB (by first | rfl | omega | (rw [frk_succ, show mlt M b a = true from hg42, hc47]; simp) | (simp; done) | (simp; omega) | assumption)), trivial⟩
              · exact ⟨(obE rfl rfl rfl), (obE rfl rfl rfl), trivial⟩
              · kernel_rfl
            · omega
          · skip
            refine D_skip (hK15 _ ?_)
            clear hK15; try clear K15
            refine D_le (σ' := mkStI 62 [(1, _), (2, _), (5, _), (6, _), (7, _), (8, _)] [((2, 0), _), ((5, 0), _)] [] []) (by
              refine Le.mkJ [] [] rfl ?_ ?_ trivial trivial ?_
              · exact ⟨(iS rfl), (iP rfl), (iR rfl), (iV rfl), (iV rfl), (iV rfl), trivial⟩
              · exact ⟨(obE rfl rfl rfl), (obE rfl rfl rfl), trivial⟩
              · kernel_rfl) ?_
            refine D_region ?_
            refine DL_c (op_mv _ (rfl : _ = AV.v (.int _ _))) ?_
            first
              | refine DL_c (op_add _ _ rfl rfl (i64w (by omega))) ?_
              | refine DL_c (op_add _ _ rfl rfl rfl) ?_
            refine DL_c (op_as _ (rfl : _ = AV.v (.int _ _))) ?_
            refine DL_nil ?_
            refine ⟨b + 1, ?_, ?_, ?_⟩
            · first | omega | trivial | exact ⟨by omega, by omega⟩
            · skip
              refine Le.mkJ [] [] rfl ?_ ?_ trivial trivial ?_
              · exact ⟨(iS rfl), (iP rfl), (iR rfl), (iV rfl), (lvI (by first | rfl | omega | (rw [frk_succ, show mlt M b a = true from hg42, hc47]; simp) | (simp; done) | (simp; omega) | assumption)), (lvB (by first | rfl | omega | (rw [frk_succ, show mlt M b a = true from hg42, hc47]; simp) | (simp; done) | (simp; omega) | assumption)), trivial⟩
              · exact ⟨(obE rfl rfl rfl), (obE rfl rfl rfl), trivial⟩
              · kernel_rfl
            · omega
        · skip
          refine DL_cn rfl rfl (by decide) ?_
          refine DL_cn rfl rfl (by decide) ?_
          refine DL_cn rfl rfl (by decide) ?_
          refine DL_cn rfl rfl (by decide) ?_
          refine DL_c (op_pick _ _ _ rfl (rfl : _ = AV.v (.bool _))) ?_
          refine DL_nil (hK16 _ ?_)
          clear hK16; try clear K16
          refine D_cF rfl rfl ?_
          refine D_skip (hK15 _ ?_)
          clear hK15; try clear K15
          refine D_le (σ' := mkStI 62 [(1, _), (2, _), (5, _), (6, _), (7, _), (8, _)] [((2, 0), _), ((5, 0), _)] [] []) (by
            refine Le.mkJ [] [] rfl ?_ ?_ trivial trivial ?_
            · exact ⟨(iS rfl), (iP rfl), (iR rfl), (iV rfl), (iV rfl), (iV rfl), trivial⟩
            · exact ⟨(obE rfl rfl rfl), (obE rfl rfl rfl), trivial⟩
            · kernel_rfl) ?_
          refine D_region ?_
          refine DL_c (op_mv _ (rfl : _ = AV.v (.int _ _))) ?_
          first
            | refine DL_c (op_add _ _ rfl rfl (i64w (by omega))) ?_
            | refine DL_c (op_add _ _ rfl rfl rfl) ?_
          refine DL_c (op_as _ (rfl : _ = AV.v (.int _ _))) ?_
          refine DL_nil ?_
          refine ⟨b + 1, ?_, ?_, ?_⟩
          · first | omega | trivial | exact ⟨by omega, by omega⟩
          · skip
            refine Le.mkJ [] [] rfl ?_ ?_ trivial trivial ?_
            · exact ⟨(iS rfl), (iP rfl), (iR rfl), (iV rfl), (lvI (by first | rfl | omega | (rw [frk_succ, show mlt M b a = false from hg42]; simp) | (simp; done) | (simp; omega) | assumption)), (lvB (by first | rfl | omega | (rw [frk_succ, show mlt M b a = false from hg42]; simp) | (simp; done) | (simp; omega) | assumption)), trivial⟩
            · exact ⟨(obE rfl rfl rfl), (obE rfl rfl rfl), trivial⟩
            · kernel_rfl
          · omega
      · skip
        obtain rfl : n = b := by omega
        refine D_exit ?_
        refine id (hK11 _ ?_)
        clear hK11; try clear K11
        refine D_seq fun K17 hK17 => ?_
        refine D_region ?_
        refine DL_c (op_mv _ (rfl : _ = AV.v (.bool _))) ?_
        refine DL_nil (hK17 _ ?_)
        clear hK17; try clear K17
        refine D_splitC rfl (fun hc48 => ?_) (fun hc48 => ?_)
        · skip
          have hb1 := allE_len n (mlt M) d (l ++ [a])
          have hb2 := allK_len n (mlt M) d l a
          have hb3 := pow_small hn (show d ≤ 5 by omega)
          have hb4 : a * n ^ d ≤ 6 * 7776 := Nat.mul_le_mul (by omega) hb3
          have hky := allK_yes (d := d) (show isfree n (mlt M) l a = true from hc48)
          have hky1 : (allK n (mlt M) d l (a + 1)).length = (allK n (mlt M) d l a).length + (allE n (mlt M) d (l ++ [a])).length := by rw [hky, List.length_append]
          have hky2 : arows (allK n (mlt M) d l (a + 1)) = arows (allK n (mlt M) d l a) ++ arows (allE n (mlt M) d (l ++ [a])) := by rw [hky, arows_app]
          have ih2 := ih (l ++ [a]) (by simp; omega)
          rw [List.length_append, List.length_singleton] at ih2
          refine D_seq fun K18 hK18 => ?_
          refine D_region ?_
          first
            | refine DL_c (op_as _ (rfl : _ = AV.sl _ _)) ?_
            | refine DL_c (op_as _ (rfl : _ = AV.ref _ _ _)) ?_
            | refine DL_c (op_as _ (rfl : _ = AV.v (.slice _ _ _))) ?_
            | refine DL_c (op_as _ (rfl : _ = AV.z)) ?_
          refine DL_nil (hK18 _ ?_)
          clear hK18; try clear K18
          refine D_seq fun K19 hK19 => ?_
          refine D_region ?_
          first
            | refine DL_c (op_mv _ (rfl : _ = AV.sl _ _)) ?_
            | refine DL_c (op_mv _ (rfl : _ = AV.ref _ _ _)) ?_
            | refine DL_c (op_mv _ (rfl : _ = AV.v (.slice _ _ _))) ?_
            | refine DL_c (op_mv _ (rfl : _ = AV.z)) ?_
          refine DL_c (op_mv _ (rfl : _ = AV.sl _ _)) ?_
          first
            | refine DL_c (op_ap (51, 0) _ _ inferInstance rfl rfl (by first | rfl | omega | (simp only [isl_len, bsl_len, psl_len, mrows_len, nsl_len, ws_len, List.length_map, mzero_len]; omega) | (simp; done) | (simp; omega)) (by first | exact .nil | (refine .sl ?_; first | (simp [isl]; done) | (simp [isl]; omega)) | (refine .ref rfl rfl ?_; first | (simp; done) | (simp; omega))) (by omega) rfl (rfl) (rfl)) ?_
            | refine DL_c (op_ap0 (51, 0) _ _ inferInstance rfl (by first | exact .nil | (refine .sl ?_; first | (simp [isl]; done) | (simp [isl]; omega)) | (refine .ref rfl rfl ?_; first | (simp; done) | (simp; omega))) (by omega) rfl) ?_
          refine DL_c (op_as _ (rfl : _ = AV.ref _ _ _)) ?_
          refine DL_nil (hK19 _ ?_)
          clear hK19; try clear K19
          refine D_seq fun K20 hK20 => ?_
          refine D_le (σ' := mkStI 62 [(1, _), (2, _), (5, _), (6, _), (9, _)] [((2, 0), _), ((5, 0), _), ((51, 0), _)] [] []) (by
            refine Le.mkJ [] [] rfl ?_ ?_ trivial trivial ?_
            · exact ⟨(iS rfl), (iP rfl), (iR rfl), (iV rfl), (iR rfl), trivial⟩
            · exact ⟨(obE rfl rfl rfl), (obE rfl rfl rfl), (obE rfl rfl rfl), trivial⟩
            · kernel_rfl) ?_
          refine D_anyL 5 [52, 53, 54, 55, 56] [(51, 0), (56, 0)] (by kernel_rfl) (by kernel_rfl) rfl (nodupO_iff rfl) (rfl : _ = [_, _, _, _, _]) (rfl : _ = [_, _]) ?_
          first
            | refine any_c (_, []) (fun τ => op_ldBA _ inferInstance rfl rfl rfl rfl) ?_
            | refine any_c (_, []) (fun τ => op_ldRA _ inferInstance rfl rfl (by first | rfl | assumption) rfl) ?_
            | refine any_c (_, []) (fun τ => op_ldFA _ inferInstance rfl (by first | rfl | assumption) rfl) ?_
          refine any_n (rfl : _ = [_]) ?_
          refine any_c (_, []) (fun τ => op_mv _ (rfl : _ = AV.ref _ _ _)) ?_
          refine any_n (rfl : _ = [_, _]) ?_
          refine any_c (_, []) (fun τ => op_mv _ (rfl : _ = AV.v (.int _ _))) ?_
          refine any_n (rfl : _ = [_, _, _]) ?_
          refine any_c (_, []) (fun τ => op_bsF _ _ inferInstance rfl (by rfl) (by simp <;> rfl) (by decide) rfl) ?_
          refine any_n (rfl : _ = [_, _, _, _]) ?_
          refine any_c (_, [((51, 0), .gone), ((56, 0), _)]) (fun τ => op_apN (56, 0) _ _ inferInstance rfl (mix_own rfl (by exact inO_head) rfl) (by first | rfl | omega | (simp only [isl_len, bsl_len, psl_len, mrows_len, nsl_len, ws_len, List.length_map, mzero_len]; omega) | (simp; done) | (simp; omega)) (by first | exact .nil | (refine .sl ?_; first | (simp [isl]; done) | (simp [isl]; omega)) | (refine .ref rfl rfl ?_; first | (simp; done) | (simp; omega))) (by omega) rfl rfl rfl (rfl) (rfl)) ?_
          refine any_n (rfl : _ = [_, _, _, _, _]) ?_
          refine any_end ⟨rfl, ?_⟩
          refine DL_le (Le.frzS (ys := nsl (l ++ [a])) 56 rfl rfl rfl (by rw [List.drop_zero, Nat.mul_one, ← nsl_append]; exact List.take_of_length_le (by simp)) (by simp)) ?_
          refine DL_c (op_callH inferInstance (by repeat' (first | exact argsLv_nil | refine argsLv_cons ?_ ?_ | exact Lv.v | exact Lv.sl | exact Lv.fp | exact Lv.nil | refine Lv.agg rfl ?_ | refine Lv.fn rfl ?_ rfl ?_ | exact lv_nil | refine lv_cons ?_ ?_ | exact Lv.z0)) (ih2) rfl rfl) ?_
          refine DL_c (op_as _ (rfl : _ = AV.sl _ _)) ?_
          refine DL_nil (hK20 _ ?_)
          clear hK20; try clear K20
          refine D_region ?_
          refine DL_c (op_mv _ (rfl : _ = AV.ref _ _ _)) ?_
          refine DL_c (op_mv _ (rfl : _ = AV.sl _ _)) ?_
          refine DL_c (op_ap (60, 0) _ _ inferInstance rfl rfl (by first | rfl | omega | (simp only [isl_len, bsl_len, psl_len, mrows_len, nsl_len, ws_len, List.length_map, mzero_len]; omega) | (simp; done) | (simp; omega)) (by first | exact .nil | (refine .sl ?_; first | (simp [isl]; done) | (simp [isl]; omega)) | (refine .ref rfl rfl ?_; first | (simp; done) | (simp; omega))) (by omega) rfl (rfl) (rfl)) ?_
          refine DL_c (op_as _ (rfl : _ = AV.ref _ _ _)) ?_
          refine DL_nil (hK9 _ ?_)
          clear hK9; try clear K9
          refine D_region ?_
          refine DL_c (op_mv _ (rfl : _ = AV.v (.int _ _))) ?_
          first
            | refine DL_c (op_add _ _ rfl rfl (i64w (by omega))) ?_
            | refine DL_c (op_add _ _ rfl rfl rfl) ?_
          refine DL_c (op_as _ (rfl : _ = AV.v (.int _ _))) ?_
          refine DL_nil ?_
          refine ⟨a + 1, ?_, ?_, ?_⟩
          · first | omega | trivial | exact ⟨by omega, by omega⟩
          · skip
            refine Le.mkJ [((5, 0), (60, 0))] [] rfl ?_ ?_ trivial trivial ?_
            · exact ⟨(by repeat' (first | exact Lv.v | exact Lv.sl | exact Lv.fp | exact lvRr (id := (2, 0)) rfl rfl | exact lvPr (id := (2, 0)) rfl | exact lvRr (id := (56, 0)) rfl rfl | exact lvPr (id := (56, 0)) rfl | exact lvRr (id := (5, 0)) rfl rfl | exact lvPr (id := (5, 0)) rfl | exact lvRr rfl rfl | exact lvPr rfl | exact Lv.mp | exact Lv.nil | exact Lv.z | exact Lv.dead | refine Lv.agg rfl ?_ | refine Lv.fn rfl ?_ rfl ?_ | refine Lv.tup rfl ?_ | refine Lv.ifc ?_ | exact lv_nil | refine lv_cons ?_ ?_)), (lvPr (id := (2, 0)) rfl), (lvI (by first | rfl | omega | (simp; done) | (simp; omega) | assumption)), (lvRr rfl (by first | rfl | omega | (simp; done) | (simp; omega) | assumption)), trivial⟩
            · exact ⟨(obB rfl rfl rfl rfl (by repeat' (first | exact Lv.v | exact Lv.sl | exact Lv.fp | exact lvRr (id := (2, 0)) rfl rfl | exact lvPr (id := (2, 0)) rfl | exact lvRr (id := (56, 0)) rfl rfl | exact lvPr (id := (56, 0)) rfl | exact lvRr (id := (5, 0)) rfl rfl | exact lvPr (id := (5, 0)) rfl | exact lvRr rfl rfl | exact lvPr rfl | exact Lv.mp | exact Lv.nil | exact Lv.z | exact Lv.dead | refine Lv.agg rfl ?_ | refine Lv.fn rfl ?_ rfl ?_ | refine Lv.tup rfl ?_ | refine Lv.ifc ?_ | exact lv_nil | refine lv_cons ?_ ?_))), (obR rfl rfl rfl (by first | rfl | omega | (simp; done) | (simp; omega) | assumption)), trivial⟩
            · kernel_rfl
          · omega
        · skip
          have hkn := allK_no (d := d) (show isfree n (mlt M) l a = false from hc48)
          refine D_skip (hK9 _ ?_)
          clear hK9; try clear K9
          refine D_region ?_
          refine DL_c (op_mv _ (rfl : _ = AV.v (.int _ _))) ?_
          first
            | refine DL_c (op_add _ _ rfl rfl (i64w (by omega))) ?_
            | refine DL_c (op_add _ _ rfl rfl rfl) ?_
          refine DL_c (op_as _ (rfl : _ = AV.v (.int _ _))) ?_
          refine DL_nil ?_
          refine ⟨a + 1, ?_, ?_, ?_⟩
          · first | omega | trivial | exact ⟨by omega, by omega⟩
          · skip
            refine Le.mkJ [] [] rfl ?_ ?_ trivial trivial ?_
            · exact ⟨(iS rfl), (iP rfl), (lvI (by first | rfl | omega | (rw [hkn]) | (simp; done) | (simp; omega) | assumption)), (lvRr rfl (by first | rfl | omega | (rw [hkn]) | (simp; done) | (simp; omega) | assumption)), trivial⟩
            · exact ⟨(obE rfl rfl rfl), (obR rfl rfl rfl (by first | rfl | omega | (rw [hkn]) | (simp; done) | (simp; omega) | assumption)), trivial⟩
            · kernel_rfl
          · omega
    · skip
      obtain rfl : n = a := by omega
      refine D_exit ?_
      refine id (hK5 _ ?_)
      clear hK5; try clear K5
      refine D_seq fun K21 hK21 => ?_
      refine D_region ?_
      refine DL_c (op_mv _ (rfl : _ = AV.ref _ _ _)) ?_
      refine DL_c (op_as _ (rfl : _ = AV.ref _ _ _)) ?_
      refine DL_nil (hK21 _ ?_)
      clear hK21; try clear K21
      refine D_ret ?_
      exact ret1 (.inr rfl) rfl (.tmp (rfl : _ = AV.ref _ _ _)) (Le.out [] [(5, 0)] (frz0 rfl rfl (by (rw [allE_K]; simp)) (by rw [allE_K])) rfl rfl rfl ⟨rfl, trivial⟩ trivial)
theorem all_spec (n : Nat) (hn : n ≤ 6) (M : List (List Bool)) (hM : Mat n M) : ∀ (d : Nat) (l : List Nat), l.length + d = n →
    Spec Try.prog 52 (inSt [.agg (rord n M), .sl l.length (nsl l)] []) (outSt (.sl (allE n (mlt M) d l).length (arows (allE n (mlt M) d l))) [])
  | 0, l, h => all_last n M hM l h
  | d + 1, l, h => all_step n hn M hM d (fun l h => all_spec n hn M hM d l h) l h
end Go.Proofs.Ytkbkmngbenohkaa
