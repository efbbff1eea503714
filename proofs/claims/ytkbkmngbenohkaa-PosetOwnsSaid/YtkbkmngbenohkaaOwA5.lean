/- Linear extensions by the machine: the order's Linear and the reference's. -/
import Derived.Test.YtkbkmngbenohkaaOwB1
set_option linter.unusedSimpArgs false
set_option linter.unusedVariables false
namespace Go.Proofs.Ytkbkmngbenohkaa
open Go.RowKit

theorem hasN_spec (n : Nat) (l : List Nat) (x : Nat) (hn : l.length = n) (h1 : n ≤ 4611686018427387904) :
    Spec Try.prog 42 (inSt [.sl n (nsl l), .v (.int .i64 (x : Int))] []) (outSt (.v (.bool (l.contains x))) []) := by
  have := has_spec n (l.map fun (x : Nat) => (x : Int)) (x : Int) (by simpa using hn) h1
  have e : decide ((x : Int) ∈ l.map fun (x : Nat) => (x : Int)) = l.contains x := by
    rw [Bool.eq_iff_iff, decide_eq_true_iff, List.contains_iff_mem, List.mem_map]
    exact ⟨fun ⟨a, h, e⟩ => by have : a = x := by omega
                               exact this ▸ h, fun h => ⟨x, h, rfl⟩⟩
  rw [← e]; exact this

/-- free, with the first k looked at. -/
def frk (lt : Lt) (out : List Nat) (a k : Nat) : Bool := !out.contains a && (List.range k).all fun b => !lt b a || out.contains b
theorem frk_succ (lt : Lt) (out : List Nat) (a k : Nat) : frk lt out a (k + 1) = (frk lt out a k && (!lt k a || out.contains k)) := by
  simp [frk, List.range_succ, Bool.and_assoc]
theorem rlinear_own (n : Nat) (M : List (List Bool)) (hM : Mat n M) (hS : Spo n (mlt M)) :
    Spec Try.prog 45 (inSt [.agg (rord n M)] []) (outSt (.ref (0, 8) 0 n) [((0, 8), .row 3 1 (nsl (lin n (mlt M) n)))]) := by
  have hle := hM.le
  have hl := hM.len
  refine Spec.ofN Try.func45 rfl Try.ntmps45 rfl ?_
  refine D_seq fun K1 hK1 => ?_
  refine D_region ?_
  refine DL_c (op_box (1, 0) _ rfl rfl) ?_
  first
    | refine DL_c (op_as _ (rfl : _ = AV.sl _ _)) ?_
    | refine DL_c (op_as _ (rfl : _ = AV.ref _ _ _)) ?_
    | refine DL_c (op_as _ (rfl : _ = AV.v (.slice _ _ _))) ?_
    | refine DL_c (op_as _ (rfl : _ = AV.z)) ?_
  refine DL_nil (hK1 _ ?_)
  clear hK1; try clear K1
  refine D_seq fun K2 hK2 => ?_
  refine D_region ?_
  refine DL_c (op_asN (3, 0) _ 3 1 rfl rfl) ?_
  refine DL_nil (hK2 _ ?_)
  clear hK2; try clear K2
  refine D_seq fun K3 hK3 => ?_
  refine D_block ?_
  refine D_loopL (α := Nat) (fun k => k ≤ n) 48 [(1, _)] [((1, 0), _)] (fun k => [(3, .ref (3, 0) 0 k)]) (fun k => [((3, 0), .row 3 1 (nsl (lin n (mlt M) k)))]) [] [] (fun k => n - k) 0 ?_ (by
    refine Le.mkJ [] [] rfl ?_ ?_ trivial trivial ?_
    · exact ⟨(iP rfl), (lvRr rfl (by first | rfl | omega | (simp; done) | (simp; omega) | assumption)), trivial⟩
    · exact ⟨(obE rfl rfl rfl), (obR rfl rfl rfl (by first | rfl | omega | (simp; done) | (simp; omega) | assumption)), trivial⟩
    · kernel_rfl) ?_
  · first | omega | trivial | exact ⟨by omega, by omega⟩
  intro k hk
  refine D_seq fun K4 hK4 => ?_
  refine D_seq fun K5 hK5 => ?_
  refine D_region ?_
  refine DL_c (op_mv _ (rfl : _ = AV.ref _ _ _)) ?_
  first
    | refine DL_c (op_lenR _ inferInstance rfl rfl) ?_
    | refine DL_c (op_lenB _ inferInstance rfl rfl) ?_
  first
    | refine DL_c (op_fldP _ inferInstance rfl rfl rfl) ?_
    | refine DL_c (op_fldF _ inferInstance rfl rfl) ?_
  first
    | refine DL_c (op_ldB _ inferInstance rfl rfl (rfl : _ = some (AV.v (.int _ _)))) ?_
    | refine DL_c (op_ldR _ inferInstance rfl rfl (by first | rfl | exact isl_get _ _ (by omega) | exact bsl_get _ _ (by omega) | assumption | exact mrows_get _ _ (by omega) | exact nsl_get _ _ (by omega)) rfl) ?_
  first
    | refine DL_c (op_lss _ _ rfl rfl (by assumption)) ?_
    | refine DL_c (op_lss _ _ rfl rfl rfl) ?_
  refine DL_nil (hK5 _ ?_)
  clear hK5; try clear K5
  refine D_splitC rfl (fun hc11 => ?_) (fun hc11 => ?_)
  · skip
    have hfx := free_ex hS (lin n (mlt M) k) (by rw [lin_len]; omega)
    have hll := lin_len n (mlt M) k
    refine D_skip (hK4 _ ?_)
    clear hK4; try clear K4
    refine D_block ?_
    refine D_seq fun K6 hK6 => ?_
    refine D_region ?_
    refine DL_c (op_as _ (rfl : _ = AV.v (.int _ _))) ?_
    refine DL_nil (hK6 _ ?_)
    clear hK6; try clear K6
    refine D_block ?_
    refine D_loopL (α := Nat) (fun a => a ≤ n ∧ ∀ b, b < a → isfree n (mlt M) (lin n (mlt M) k) b = false) 48 [(1, _), (3, _)] [((1, 0), _), ((3, 0), _)] (fun a => [(4, .v (.int .i64 (a : Int)))]) (fun a => []) [] [] (fun a => n - a) 0 ?_ (by
      refine Le.mkJ [] [] rfl ?_ ?_ trivial trivial ?_
      · exact ⟨(iP rfl), (iR rfl), (lvI (by first | rfl | omega | (simp; done) | (simp; omega) | assumption)), trivial⟩
      · exact ⟨(obE rfl rfl rfl), (obE rfl rfl rfl), trivial⟩
      · kernel_rfl) ?_
    · exact ⟨by omega, fun b hb => by omega⟩
    intro a ha
    obtain ⟨ha, hna⟩ := ha
    refine D_seq fun K7 hK7 => ?_
    refine D_seq fun K8 hK8 => ?_
    refine D_region ?_
    refine DL_c (op_mv _ (rfl : _ = AV.v (.int _ _))) ?_
    first
      | refine DL_c (op_fldP _ inferInstance rfl rfl rfl) ?_
      | refine DL_c (op_fldF _ inferInstance rfl rfl) ?_
    first
      | refine DL_c (op_ldB _ inferInstance rfl rfl (rfl : _ = some (AV.v (.int _ _)))) ?_
      | refine DL_c (op_ldR _ inferInstance rfl rfl (by first | rfl | exact isl_get _ _ (by omega) | exact bsl_get _ _ (by omega) | assumption | exact mrows_get _ _ (by omega) | exact nsl_get _ _ (by omega)) rfl) ?_
    first
      | refine DL_c (op_lss _ _ rfl rfl (by assumption)) ?_
      | refine DL_c (op_lss _ _ rfl rfl rfl) ?_
    refine DL_nil (hK8 _ ?_)
    clear hK8; try clear K8
    refine D_splitC rfl (fun hc15 => ?_) (fun hc15 => ?_)
    · skip
      refine D_skip (hK7 _ ?_)
      clear hK7; try clear K7
      refine D_seq fun K9 hK9 => ?_
      refine D_block ?_
      refine D_seq fun K10 hK10 => ?_
      refine D_region ?_
      refine DL_c (op_mv _ (rfl : _ = AV.ref _ _ _)) ?_
      refine DL_c (op_mv _ (rfl : _ = AV.v (.int _ _))) ?_
      refine DL_c (op_callBH inferInstance (by repeat' (first | exact argsLv_nil | refine argsLv_cons ?_ ?_ | exact Lv.v | exact lvI (by omega) | exact Lv.sl | exact Lv.fp | exact Lv.nil | refine Lv.agg rfl ?_ | refine Lv.fn rfl ?_ rfl ?_ | exact lv_nil | refine lv_cons ?_ ?_ | (refine frz0 rfl rfl ?_ rfl; first | (simp; done) | (simp; omega) | omega) | exact Lv.frzP rfl rfl rfl)) (hasN_spec k (lin n (mlt M) k) a hll (by omega)) rfl) ?_
      refine DL_c (op_not _ rfl rfl) ?_
      refine DL_c (op_as _ (rfl : _ = AV.v (.bool _))) ?_
      refine DL_nil (hK10 _ ?_)
      clear hK10; try clear K10
      refine D_seq fun K11 hK11 => ?_
      refine D_seq fun K12 hK12 => ?_
      refine D_region ?_
      refine DL_c (op_as _ (rfl : _ = AV.v (.int _ _))) ?_
      refine DL_nil (hK12 _ ?_)
      clear hK12; try clear K12
      refine D_block ?_
      refine D_loopL (α := Nat) (fun b => b ≤ n) 48 [(1, _), (3, _), (4, _)] [((1, 0), _), ((3, 0), _)] (fun b => [(6, .v (.int .i64 (b : Int))), (5, .v (.bool (frk (mlt M) (lin n (mlt M) k) a b)))]) (fun b => []) [] [] (fun b => n - b) 0 ?_ (by
        refine Le.mkJ [] [] rfl ?_ ?_ trivial trivial ?_
        · exact ⟨(iP rfl), (iR rfl), (iV rfl), (lvI (by first | rfl | omega | (simp [frk]) | (simp; done) | (simp; omega) | assumption)), (lvB (by first | rfl | omega | (simp [frk]) | (simp; done) | (simp; omega) | assumption)), trivial⟩
        · exact ⟨(obE rfl rfl rfl), (obE rfl rfl rfl), trivial⟩
        · kernel_rfl) ?_
      · first | omega | trivial | exact ⟨by omega, by omega⟩
      intro b hb
      refine D_seq fun K13 hK13 => ?_
      refine D_seq fun K14 hK14 => ?_
      refine D_region ?_
      refine DL_c (op_mv _ (rfl : _ = AV.v (.int _ _))) ?_
      first
        | refine DL_c (op_fldP _ inferInstance rfl rfl rfl) ?_
        | refine DL_c (op_fldF _ inferInstance rfl rfl) ?_
      first
        | refine DL_c (op_ldB _ inferInstance rfl rfl (rfl : _ = some (AV.v (.int _ _)))) ?_
        | refine DL_c (op_ldR _ inferInstance rfl rfl (by first | rfl | exact isl_get _ _ (by omega) | exact bsl_get _ _ (by omega) | assumption | exact mrows_get _ _ (by omega) | exact nsl_get _ _ (by omega)) rfl) ?_
      first
        | refine DL_c (op_lss _ _ rfl rfl (by assumption)) ?_
        | refine DL_c (op_lss _ _ rfl rfl rfl) ?_
      refine DL_nil (hK14 _ ?_)
      clear hK14; try clear K14
      refine D_splitC rfl (fun hc25 => ?_) (fun hc25 => ?_)
      · skip
        have hrb := hM.row b (by omega)
        refine D_skip (hK13 _ ?_)
        clear hK13; try clear K13
        refine D_seq fun K15 hK15 => ?_
        refine D_block ?_
        refine D_seq fun K16 hK16 => ?_
        refine D_region ?_
        first
          | refine DL_c (op_fldP _ inferInstance rfl rfl rfl) ?_
          | refine DL_c (op_fldF _ inferInstance rfl rfl) ?_
        first
          | refine DL_c (op_ldB _ inferInstance rfl rfl (rfl : _ = some (AV.sl _ _))) ?_
          | refine DL_c (op_ldR _ inferInstance rfl rfl (by first | rfl | exact isl_get _ _ (by omega) | exact bsl_get _ _ (by omega) | assumption | exact mrows_get _ _ (by omega) | exact nsl_get _ _ (by omega)) rfl) ?_
        refine DL_c (op_mv _ (rfl : _ = AV.v (.int _ _))) ?_
        first
          | refine DL_c (op_ixS _ _ inferInstance rfl rfl _ rfl (by omega) (by first | assumption | decide | (simp only [isl_len, bsl_len, psl_len, mrows_len, nsl_len, ws_len]; omega) | (simp; done) | (simp; omega) | (simp [isl, bsl]; omega)) (by first | exact Nat.mul_one _ | rfl | omega)) ?_
          | refine DL_c (op_ixS _ _ inferInstance rfl rfl (Int.toNat _) (Int.toNat_of_nonneg (by omega)).symm (by omega) (by first | assumption | decide | (simp only [isl_len, bsl_len, psl_len, mrows_len, nsl_len, ws_len]; omega) | (simp; done) | (simp; omega) | (simp [isl, bsl]; omega)) (by first | exact Nat.mul_one _ | rfl | omega)) ?_
        refine DL_c (op_ldF _ inferInstance rfl (by first | rfl | exact isl_get _ _ (by omega) | exact bsl_get _ _ (by omega) | assumption | exact mrows_get _ _ (by omega) | exact nsl_get _ _ (by omega)) rfl) ?_
        refine DL_c (op_mv _ (rfl : _ = AV.v (.int _ _))) ?_
        first
          | refine DL_c (op_ixS _ _ inferInstance rfl rfl _ rfl (by omega) (by first | assumption | decide | (simp only [isl_len, bsl_len, psl_len, mrows_len, nsl_len, ws_len]; omega) | (simp; done) | (simp; omega) | (simp [isl, bsl]; omega)) (by first | exact Nat.mul_one _ | rfl | omega)) ?_
          | refine DL_c (op_ixS _ _ inferInstance rfl rfl (Int.toNat _) (Int.toNat_of_nonneg (by omega)).symm (by omega) (by first | assumption | decide | (simp only [isl_len, bsl_len, psl_len, mrows_len, nsl_len, ws_len]; omega) | (simp; done) | (simp; omega) | (simp [isl, bsl]; omega)) (by first | exact Nat.mul_one _ | rfl | omega)) ?_
          | refine DL_c (op_ixR _ _ inferInstance rfl rfl rfl _ rfl (by omega) (by first | exact (Nat.zero_add _).trans (Nat.mul_one _) | exact Nat.zero_add _ | rfl | omega)) ?_
          | refine DL_c (op_ixR _ _ inferInstance rfl rfl rfl (Int.toNat _) (Int.toNat_of_nonneg (by omega)).symm (by omega) (by first | exact (Nat.zero_add _).trans (Nat.mul_one _) | exact Nat.zero_add _ | rfl | omega)) ?_
          | refine DL_c (op_ixB _ _ inferInstance rfl rfl rfl _ rfl (by omega) (by first | exact (Nat.zero_add _).trans (Nat.mul_one _) | exact Nat.zero_add _ | rfl | omega)) ?_
          | refine DL_c (op_ixB _ _ inferInstance rfl rfl rfl (Int.toNat _) (Int.toNat_of_nonneg (by omega)).symm (by omega) (by first | exact (Nat.zero_add _).trans (Nat.mul_one _) | exact Nat.zero_add _ | rfl | omega)) ?_
        first
          | refine DL_c (op_ldB _ inferInstance rfl rfl (rfl : _ = some (AV.v (.bool _)))) ?_
          | refine DL_c (op_ldR _ inferInstance rfl rfl (by first | rfl | exact isl_get _ _ (by omega) | exact bsl_get _ _ (by omega) | assumption | exact mrows_get _ _ (by omega) | exact nsl_get _ _ (by omega)) rfl) ?_
          | refine DL_c (op_ldF _ inferInstance rfl (by first | rfl | exact isl_get _ _ (by omega) | exact bsl_get _ _ (by omega) | assumption | exact mrows_get _ _ (by omega) | exact nsl_get _ _ (by omega)) rfl) ?_
        refine DL_c (op_mv _ (rfl : _ = AV.v (.bool _))) ?_
        refine DL_caseC (fun hg36 => ?_) (fun hg36 => ?_)
        · skip
          refine DL_cy rfl rfl (op_mv _ (rfl : _ = AV.ref _ _ _)) ?_
          refine DL_cy rfl rfl (op_mv _ (rfl : _ = AV.v (.int _ _))) ?_
          refine DL_cy rfl rfl (op_callBH inferInstance (by repeat' (first | exact argsLv_nil | refine argsLv_cons ?_ ?_ | exact Lv.v | exact lvI (by omega) | exact Lv.sl | exact Lv.fp | exact Lv.nil | refine Lv.agg rfl ?_ | refine Lv.fn rfl ?_ rfl ?_ | exact lv_nil | refine lv_cons ?_ ?_ | (refine frz0 rfl rfl ?_ rfl; first | (simp; done) | (simp; omega) | omega) | exact Lv.frzP rfl rfl rfl)) (hasN_spec k (lin n (mlt M) k) b hll (by omega)) rfl) ?_
          refine DL_cy rfl rfl (op_not _ rfl rfl) ?_
          refine DL_c (op_pick _ _ _ rfl (rfl : _ = AV.v (.bool _))) ?_
          refine DL_nil (hK16 _ ?_)
          clear hK16; try clear K16
          refine D_splitC rfl (fun hc41 => ?_) (fun hc41 => ?_)
          · skip
            refine D_le (σ' := mkStI 48 [(1, _), (3, _), (4, _), (6, _)] [((1, 0), _), ((3, 0), _)] [] []) (by
              refine Le.mkJ [] [] rfl ?_ ?_ trivial trivial ?_
              · exact ⟨(iP rfl), (iR rfl), (iV rfl), (iV rfl), trivial⟩
              · exact ⟨(obE rfl rfl rfl), (obE rfl rfl rfl), trivial⟩
              · kernel_rfl) ?_
            refine D_region ?_
            refine DL_c (op_as _ (rfl : _ = AV.v (.bool _))) ?_
            refine DL_nil (hK15 _ ?_)
            clear hK15; try clear K15
            refine D_region ?_
            refine DL_c (op_mv _ (rfl : _ = AV.v (.int _ _))) ?_
            first
              | refine DL_c (op_add _ _ rfl rfl (i64w (by omega))) ?_
              | refine DL_c (op_add _ _ rfl rfl rfl) ?_
            refine DL_c (op_as _ (rfl : _ = AV.v (.int _ _))) ?_
            refine DL_nil ?_
            refine ⟨b + 1, ?_, ?_, ?_⟩
            · first | omega | trivial | exact ⟨by omega, by omega⟩
            · skip
              refine Le.mkJ [] [] rfl ?_ ?_ trivial trivial ?_
              · exact ⟨(iP rfl), (iR rfl), (iV rfl), (lvI (by first | rfl | omega | (rw [frk_succ, show mlt M b a = true from hg36, hc41]; simp) | (simp; done) | (simp; omega) | assumption)), (lvB (by first | rfl | omega | (rw [frk_succ, show mlt M b a = true from hg36, hc41]; simp) | (simp; done) | (simp; omega) | assumption)), trivial⟩
              · exact ⟨(obE rfl rfl rfl), (obE rfl rfl rfl), trivial⟩
              · kernel_rfl
            · omega
          · skip
            refine D_skip (hK15 _ ?_)
            clear hK15; try clear K15
            refine D_le (σ' := mkStI 48 [(1, _), (3, _), (4, _), (5, _), (6, _)] [((1, 0), _), ((3, 0), _)] [] []) (by
              refine Le.mkJ [] [] rfl ?_ ?_ trivial trivial ?_
              · exact ⟨(iP rfl), (iR rfl), (iV rfl), (iV rfl), (iV rfl), trivial⟩
              · exact ⟨(obE rfl rfl rfl), (obE rfl rfl rfl), trivial⟩
              · kernel_rfl) ?_
            refine D_region ?_
            refine DL_c (op_mv _ (rfl : _ = AV.v (.int _ _))) ?_
            first
              | refine DL_c (op_add _ _ rfl rfl (i64w (by omega))) ?_
              | refine DL_c (op_add _ _ rfl rfl rfl) ?_
            refine DL_c (op_as _ (rfl : _ = AV.v (.int _ _))) ?_
            refine DL_nil ?_
            refine ⟨b + 1, ?_, ?_, ?_⟩
            · first | omega | trivial | exact ⟨by omega, by omega⟩
            · skip
              refine Le.mkJ [] [] rfl ?_ ?_ trivial trivial ?_
              · exact ⟨(iP rfl), (iR rfl), (iV rfl), (lvI (by first | rfl | omega | (rw [frk_succ, show mlt M b a = true from hg36, hc41]; simp) | (simp; done) | (simp; omega) | assumption)), (lvB (by first | rfl | omega | (rw [frk_succ, show mlt M b a = true from hg36, hc41]; simp) | (simp; done) | (simp; omega) | assumption)), trivial⟩
              · exact ⟨(obE rfl rfl rfl), (obE rfl rfl rfl), trivial⟩
              · kernel_rfl
            · omega
        · skip
          refine DL_cn rfl rfl (by decide) ?_
          refine DL_cn rfl rfl (by decide) ?_
          refine DL_cn rfl rfl (by decide) ?_
          refine DL_cn rfl rfl (by decide) ?_
          refine DL_c (op_pick _ _ _ rfl (rfl : _ = AV.v (.bool _))) ?_
          refine DL_nil (hK16 _ ?_)
          clear hK16; try clear K16
          refine D_cF rfl rfl ?_
          refine D_skip (hK15 _ ?_)
          clear hK15; try clear K15
          refine D_le (σ' := mkStI 48 [(1, _), (3, _), (4, _), (5, _), (6, _)] [((1, 0), _), ((3, 0), _)] [] []) (by
            refine Le.mkJ [] [] rfl ?_ ?_ trivial trivial ?_
            · exact ⟨(iP rfl), (iR rfl), (iV rfl), (iV rfl), (iV rfl), trivial⟩
            · exact ⟨(obE rfl rfl rfl), (obE rfl rfl rfl), trivial⟩
            · kernel_rfl) ?_
          refine D_region ?_
          refine DL_c (op_mv _ (rfl : _ = AV.v (.int _ _))) ?_
          first
            | refine DL_c (op_add _ _ rfl rfl (i64w (by omega))) ?_
            | refine DL_c (op_add _ _ rfl rfl rfl) ?_
          refine DL_c (op_as _ (rfl : _ = AV.v (.int _ _))) ?_
          refine DL_nil ?_
          refine ⟨b + 1, ?_, ?_, ?_⟩
          · first | omega | trivial | exact ⟨by omega, by omega⟩
          · skip
            refine Le.mkJ [] [] rfl ?_ ?_ trivial trivial ?_
            · exact ⟨(iP rfl), (iR rfl), (iV rfl), (lvI (by first | rfl | omega | (rw [frk_succ, show mlt M b a = false from hg36]; simp) | (simp; done) | (simp; omega) | assumption)), (lvB (by first | rfl | omega | (rw [frk_succ, show mlt M b a = false from hg36]; simp) | (simp; done) | (simp; omega) | assumption)), trivial⟩
            · exact ⟨(obE rfl rfl rfl), (obE rfl rfl rfl), trivial⟩
            · kernel_rfl
          · omega
      · skip
        obtain rfl : n = b := by omega
        refine D_exit ?_
        refine id (hK11 _ ?_)
        clear hK11; try clear K11
        refine D_seq fun K17 hK17 => ?_
        refine D_region ?_
        refine DL_c (op_mv _ (rfl : _ = AV.v (.bool _))) ?_
        refine DL_nil (hK17 _ ?_)
        clear hK17; try clear K17
        refine D_splitC rfl (fun hc42 => ?_) (fun hc42 => ?_)
        · skip
          have hnx := nextf_eq (by omega) hc42 hna
          refine D_seq fun K18 hK18 => ?_
          refine D_region ?_
          refine DL_c (op_mv _ (rfl : _ = AV.ref _ _ _)) ?_
          refine DL_c (op_mv _ (rfl : _ = AV.v (.int _ _))) ?_
          refine DL_c (op_bsF _ _ inferInstance rfl (by rfl) (by simp <;> rfl) (by decide) rfl) ?_
          refine DL_c (op_ap (46, 0) _ _ inferInstance rfl rfl (by first | rfl | omega | (simp only [isl_len, bsl_len, psl_len, mrows_len, nsl_len, ws_len]; omega) | (simp; done) | (simp; omega)) (by first | exact .nil | (refine .sl ?_; first | (simp [isl]; done) | (simp [isl]; omega)) | (refine .ref rfl rfl ?_; first | (simp; done) | (simp; omega))) (by omega) rfl (rfl) (rfl)) ?_
          refine DL_c (op_as _ (rfl : _ = AV.ref _ _ _)) ?_
          refine DL_nil (hK18 _ ?_)
          clear hK18; try clear K18
          refine D_exit ?_
          refine id ?_
          refine ⟨k + 1, ?_, ?_, ?_⟩
          · first | omega | trivial | exact ⟨by omega, by omega⟩
          · skip
            refine Le.mkJ [((3, 0), (46, 0))] [] rfl ?_ ?_ trivial trivial ?_
            · exact ⟨(lvPr (id := (1, 0)) rfl), (lvRr rfl (by first | rfl | omega | (simp; done) | (simp; omega) | assumption)), trivial⟩
            · exact ⟨(obB rfl rfl rfl rfl (by repeat' (first | exact Lv.v | exact Lv.sl | exact Lv.fp | exact lvRr (id := (1, 0)) rfl rfl | exact lvPr (id := (1, 0)) rfl | exact lvRr (id := (3, 0)) rfl rfl | exact lvPr (id := (3, 0)) rfl | exact lvRr rfl rfl | exact lvPr rfl | exact Lv.mp | exact Lv.nil | exact Lv.z | exact Lv.dead | refine Lv.agg rfl ?_ | refine Lv.fn rfl ?_ rfl ?_ | refine Lv.tup rfl ?_ | refine Lv.ifc ?_ | exact lv_nil | refine lv_cons ?_ ?_))), (obR rfl rfl rfl (by rw [lin, hnx, ← nsl_append]; rfl)), trivial⟩
            · kernel_rfl
          · omega
        · skip
          have hno := hc42
          refine D_skip (hK9 _ ?_)
          clear hK9; try clear K9
          refine D_region ?_
          refine DL_c (op_mv _ (rfl : _ = AV.v (.int _ _))) ?_
          first
            | refine DL_c (op_add _ _ rfl rfl (i64w (by omega))) ?_
            | refine DL_c (op_add _ _ rfl rfl rfl) ?_
          refine DL_c (op_as _ (rfl : _ = AV.v (.int _ _))) ?_
          refine DL_nil ?_
          refine ⟨a + 1, ?_, ?_, ?_⟩
          · refine ⟨by omega, fun b hb => ?_⟩
            rcases Nat.lt_or_ge b a with h | h
            · exact hna b h
            · obtain rfl : b = a := by omega
              exact hno
          · skip
            refine Le.mkJ [] [] rfl ?_ ?_ trivial trivial ?_
            · exact ⟨(iP rfl), (iR rfl), (lvI (by first | rfl | omega | (simp; done) | (simp; omega) | assumption)), trivial⟩
            · exact ⟨(obE rfl rfl rfl), (obE rfl rfl rfl), trivial⟩
            · kernel_rfl
          · omega
    · skip
      exact absurd  hfx fun ⟨x, h1, h2⟩ => by have := hna x (by omega); rw [h2] at this; cases this
  · skip
    obtain rfl : n = k := by omega
    refine D_exit ?_
    refine id (hK3 _ ?_)
    clear hK3; try clear K3
    refine D_seq fun K19 hK19 => ?_
    refine D_region ?_
    refine DL_c (op_mv _ (rfl : _ = AV.ref _ _ _)) ?_
    refine DL_c (op_as _ (rfl : _ = AV.ref _ _ _)) ?_
    refine DL_nil (hK19 _ ?_)
    clear hK19; try clear K19
    refine D_ret ?_
    exact ret1 (.inr rfl) rfl (.tmp (rfl : _ = AV.ref _ _ _)) (Le.out [((0, 8), (3, 0))] [] (lvRr rfl (by first | rfl | omega | simp)) rfl rfl rfl trivial ⟨⟨rfl, ⟨_, rfl, .rowE (by first | rfl | simp)⟩, rfl⟩, trivial⟩)

theorem linear_own (n : Nat) (ab : List Nat) (hW : Words n ab) (hS : Spo n (wlt ab)) :
    Spec Try.prog 44 (inSt [.fp 0 (ord n ab)] []) (outSt (.ref (0, 8) 0 n) [((0, 8), .row 3 1 (nsl (lin n (wlt ab) n)))]) := by
  have hle := hW.le
  have hl := hW.len
  have hb0 := below_own n ab hW
  have e0 : isl (cntA n (wlt ab) n 0) = nsl (wtL n (wlt ab) []) := by
    rw [nsl, cntA_zero, wtL, List.map_map]
    congr 1
    refine List.map_congr_left fun b _ => ?_
    rw [Function.comp, wt_nil]
  rw [e0] at hb0
  refine Spec.ofN Try.func44 rfl Try.ntmps44 rfl ?_
  refine D_seq fun K1 hK1 => ?_
  refine D_region ?_
  first
    | refine DL_c (op_as _ (rfl : _ = AV.sl _ _)) ?_
    | refine DL_c (op_as _ (rfl : _ = AV.ref _ _ _)) ?_
    | refine DL_c (op_as _ (rfl : _ = AV.v (.slice _ _ _))) ?_
    | refine DL_c (op_as _ (rfl : _ = AV.z)) ?_
  refine DL_nil (hK1 _ ?_)
  clear hK1; try clear K1
  refine D_seq fun K2 hK2 => ?_
  refine D_region ?_
  refine DL_c (op_mv _ (rfl : _ = AV.fp _ _)) ?_
  refine DL_c (op_callR inferInstance [((0, 8), (50, 0))] ?_ (hb0.toI) trivial ⟨rfl, trivial⟩ (by kernel_rfl)) ?_
  · repeat' (first | exact argsR_nil | refine argsR_cons ?_ ?_ | exact Lv.v | exact lvI (by assumption) | exact lvI (by omega) | exact Lv.sl | exact Lv.fp | exact Lv.nil | exact lvRr rfl rfl | exact lvPr rfl | refine Lv.agg rfl ?_ | refine Lv.fn rfl ?_ rfl ?_ | refine Lv.ifc ?_ | exact lv_nil | refine lv_cons ?_ ?_)
  refine DL_c (op_as _ (rfl : _ = AV.ref _ _ _)) ?_
  refine DL_nil (hK2 _ ?_)
  clear hK2; try clear K2
  refine D_seq fun K3 hK3 => ?_
  refine D_region ?_
  refine DL_c (op_mv _ (rfl : _ = AV.fp _ _)) ?_
  refine DL_c (op_nilc _ rfl) ?_
  first
    | refine DL_c (op_fldP _ inferInstance rfl rfl rfl) ?_
    | refine DL_c (op_fldF _ inferInstance rfl rfl) ?_
  refine DL_c (op_ldF _ inferInstance rfl (rfl : _ = some (PV.v (.int .i64 (n : Int)))) rfl) ?_
  refine DL_c (op_mk (14, 0) _ _ inferInstance rfl rfl n rfl rfl (by omega) rfl (bsl_falses n)) ?_
  refine DL_c (op_as _ (rfl : _ = AV.ref _ _ _)) ?_
  refine DL_nil (hK3 _ ?_)
  clear hK3; try clear K3
  refine D_seq fun K4 hK4 => ?_
  refine D_region ?_
  refine DL_c (op_asN (5, 0) _ 3 1 rfl rfl) ?_
  refine DL_nil (hK4 _ ?_)
  clear hK4; try clear K4
  refine D_seq fun K5 hK5 => ?_
  refine D_seq fun K6 hK6 => ?_
  refine D_region ?_
  refine DL_c (op_mv _ (rfl : _ = AV.fp _ _)) ?_
  refine DL_c (op_nilc _ rfl) ?_
  first
    | refine DL_c (op_fldP _ inferInstance rfl rfl rfl) ?_
    | refine DL_c (op_fldF _ inferInstance rfl rfl) ?_
  refine DL_c (op_ldF _ inferInstance rfl (rfl : _ = some (PV.v (.int .i64 (n : Int)))) rfl) ?_
  refine DL_c (op_mv _ (rfl : _ = AV.v (.int _ _))) ?_
  refine DL_nil (hK6 _ ?_)
  clear hK6; try clear K6
  refine D_block ?_
  refine D_loopL (α := Nat) (fun k => k ≤ n) 61 [(0, _), (3, _), (4, _), (18, _)] [] (fun k => [(19, .v (.int .i64 (k : Int))), (5, .ref (5, 0) 0 k)]) (fun k => [((5, 0), .row 3 1 (nsl (lin n (wlt ab) k))), ((50, 0), .row 3 1 (nsl (wtL n (wlt ab) (lin n (wlt ab) k)))), ((14, 0), .row 4 1 (bsl (doneL n (lin n (wlt ab) k))))]) [] [] (fun k => n - k) 0 ?_ (by
    refine Le.mkJ [] [] rfl ?_ ?_ trivial trivial ?_
    · exact ⟨(iF rfl), (iR rfl), (iR rfl), (iV rfl), (lvI (by first | rfl | omega | (simp; done) | (simp; omega) | assumption)), (lvRr rfl (by first | rfl | omega | (simp; done) | (simp; omega) | assumption)), trivial⟩
    · exact ⟨(obR rfl rfl rfl (by first | rfl | omega | (simp; done) | (simp; omega) | assumption)), (obR rfl rfl rfl (by first | rfl | omega | (simp; done) | (simp; omega) | assumption)), (obR rfl rfl rfl (by show bsl (doneL n []) = _; rw [doneL_nil])), trivial⟩
    · kernel_rfl) ?_
  · first | omega | trivial | exact ⟨by omega, by omega⟩
  intro k hk
  refine D_seq fun K7 hK7 => ?_
  refine D_region ?_
  first
    | refine DL_c (op_lss _ _ rfl rfl (by assumption)) ?_
    | refine DL_c (op_lss _ _ rfl rfl rfl) ?_
  refine DL_nil (hK7 _ ?_)
  clear hK7; try clear K7
  refine D_seq fun K8 hK8 => ?_
  refine D_splitC rfl (fun hc20 => ?_) (fun hc20 => ?_)
  · skip
    have hll := lin_len n (wlt ab) k
    have hfx := free_ex hS (lin n (wlt ab) k) (by rw [lin_len]; omega)
    have hwl := wtL_len n (wlt ab) (lin n (wlt ab) k)
    have hdl := doneL_len n (lin n (wlt ab) k)
    refine D_skip (hK8 _ ?_)
    clear hK8; try clear K8
    refine D_seq fun K9 hK9 => ?_
    refine D_block ?_
    refine D_seq fun K10 hK10 => ?_
    refine D_region ?_
    refine DL_c (op_as _ (rfl : _ = AV.v (.int _ _))) ?_
    refine DL_nil (hK10 _ ?_)
    clear hK10; try clear K10
    refine D_seq fun K11 hK11 => ?_
    refine D_block ?_
    refine D_loopL (α := Nat) (fun a => a < n ∧ ∀ b, b < a → isfree n (wlt ab) (lin n (wlt ab) k) b = false) 61 [(0, _), (3, _), (4, _), (5, _), (18, _), (19, _)] [((5, 0), _), ((50, 0), _), ((14, 0), _)] (fun a => [(6, .v (.int .i64 (a : Int)))]) (fun a => []) [] [] (fun a => n - a) 0 ?_ (by
      refine Le.mkJ [] [] rfl ?_ ?_ trivial trivial ?_
      · exact ⟨(iF rfl), (iR rfl), (iR rfl), (iR rfl), (iV rfl), (iV rfl), (lvI (by first | rfl | omega | (simp; done) | (simp; omega) | assumption)), trivial⟩
      · exact ⟨(obE rfl rfl rfl), (obE rfl rfl rfl), (obE rfl rfl rfl), trivial⟩
      · kernel_rfl) ?_
    · exact ⟨by omega, fun b hb => by omega⟩
    intro a ha
    obtain ⟨ha, hna⟩ := ha
    have hwg := wtL_get n (wlt ab) (lin n (wlt ab) k) a ha
    have hdg := doneL_get n (lin n (wlt ab) k) a ha
    have hfi := free_iff (n := n) (lt := wlt ab) (out := lin n (wlt ab) k) (a := a)
    refine D_seq fun K12 hK12 => ?_
    refine D_seq fun K13 hK13 => ?_
    refine D_region ?_
    refine DL_c (op_mv _ (rfl : _ = AV.ref _ _ _)) ?_
    refine DL_c (op_mv _ (rfl : _ = AV.v (.int _ _))) ?_
    first
      | refine DL_c (op_ixR _ _ inferInstance rfl rfl rfl _ rfl (by omega) (by first | exact (Nat.zero_add _).trans (Nat.mul_one _) | exact Nat.zero_add _ | rfl | omega)) ?_
      | refine DL_c (op_ixR _ _ inferInstance rfl rfl rfl (Int.toNat _) (Int.toNat_of_nonneg (by omega)).symm (by omega) (by first | exact (Nat.zero_add _).trans (Nat.mul_one _) | exact Nat.zero_add _ | rfl | omega)) ?_
    first
      | refine DL_c (op_ldR _ inferInstance rfl rfl (by first | rfl | exact isl_get _ _ (by omega) | exact bsl_get _ _ (by omega) | assumption | exact mrows_get _ _ (by omega) | exact nsl_get _ _ (by omega)) rfl) ?_
      | refine DL_c (op_ldB _ inferInstance rfl rfl (rfl : _ = some (AV.v (.bool _)))) ?_
    refine DL_c (op_mv _ (rfl : _ = AV.v (.bool _))) ?_
    refine DL_caseC (fun hg25 => ?_) (fun hg25 => ?_)
    · skip
      have hno : isfree n (wlt ab) (lin n (wlt ab) k) a = false := by rw [hfi, ← hdg, hg25]; rfl
      refine DL_cn rfl rfl (by decide) ?_
      refine DL_cn rfl rfl (by decide) ?_
      refine DL_cn rfl rfl (by decide) ?_
      refine DL_cn rfl rfl (by decide) ?_
      refine DL_cn rfl rfl (by decide) ?_
      refine DL_c (op_pick _ _ _ rfl (rfl : _ = AV.v (.bool _))) ?_
      refine DL_nil (hK13 _ ?_)
      clear hK13; try clear K13
      refine D_cT rfl rfl ?_
      refine D_skip (hK12 _ ?_)
      clear hK12; try clear K12
      refine D_block ?_
      refine D_region ?_
      refine DL_c (op_mv _ (rfl : _ = AV.v (.int _ _))) ?_
      first
        | refine DL_c (op_add _ _ rfl rfl (i64w (by omega))) ?_
        | refine DL_c (op_add _ _ rfl rfl rfl) ?_
      refine DL_c (op_as _ (rfl : _ = AV.v (.int _ _))) ?_
      refine DL_nil ?_
      refine ⟨a + 1, ?_, ?_, ?_⟩
      · have h2 : ∀ b, b < a + 1 → isfree n (wlt ab) (lin n (wlt ab) k) b = false := by
          intro b hb
          rcases Nat.lt_or_ge b a with h | h
          · exact hna b h
          · obtain rfl : b = a := by omega
            exact hno
        refine ⟨?_, h2⟩
        obtain ⟨x, h3, h4⟩ := hfx
        apply Classical.byContradiction
        intro h5
        have := h2 x (by omega)
        rw [h4] at this; cases this
      · skip
        refine Le.mkJ [] [] rfl ?_ ?_ trivial trivial ?_
        · exact ⟨(iF rfl), (iR rfl), (iR rfl), (iR rfl), (iV rfl), (iV rfl), (lvI (by first | rfl | omega | (simp; done) | (simp; omega) | assumption)), trivial⟩
        · exact ⟨(obE rfl rfl rfl), (obE rfl rfl rfl), (obE rfl rfl rfl), trivial⟩
        · kernel_rfl
      · omega
    · skip
      refine DL_cy rfl rfl (op_mv _ (rfl : _ = AV.ref _ _ _)) ?_
      refine DL_cy rfl rfl (op_mv _ (rfl : _ = AV.v (.int _ _))) ?_
      first
        | refine DL_cy rfl rfl (op_ixR _ _ inferInstance rfl rfl rfl _ rfl (by omega) (by first | exact (Nat.zero_add _).trans (Nat.mul_one _) | exact Nat.zero_add _ | rfl | omega)) ?_
        | refine DL_cy rfl rfl (op_ixR _ _ inferInstance rfl rfl rfl (Int.toNat _) (Int.toNat_of_nonneg (by omega)).symm (by omega) (by first | exact (Nat.zero_add _).trans (Nat.mul_one _) | exact Nat.zero_add _ | rfl | omega)) ?_
      first
        | refine DL_cy rfl rfl (op_ldR _ inferInstance rfl rfl (by first | rfl | exact isl_get _ _ (by omega) | exact bsl_get _ _ (by omega) | assumption | exact mrows_get _ _ (by omega) | exact nsl_get _ _ (by omega)) rfl) ?_
        | refine DL_cy rfl rfl (op_ldB _ inferInstance rfl rfl (rfl : _ = some (AV.v (.int _ _)))) ?_
      first
        | refine DL_cy rfl rfl (op_gtr _ _ rfl rfl (by assumption)) ?_
        | refine DL_cy rfl rfl (op_gtr _ _ rfl rfl rfl) ?_
      refine DL_c (op_pick _ _ _ rfl (rfl : _ = AV.v (.bool _))) ?_
      refine DL_nil (hK13 _ ?_)
      clear hK13; try clear K13
      refine D_splitC rfl (fun hc31 => ?_) (fun hc31 => ?_)
      · skip
        have hno : isfree n (wlt ab) (lin n (wlt ab) k) a = false := by rw [hfi, decide_eq_false (by omega)]; simp
        refine D_skip (hK12 _ ?_)
        clear hK12; try clear K12
        refine D_block ?_
        refine D_region ?_
        refine DL_c (op_mv _ (rfl : _ = AV.v (.int _ _))) ?_
        first
          | refine DL_c (op_add _ _ rfl rfl (i64w (by omega))) ?_
          | refine DL_c (op_add _ _ rfl rfl rfl) ?_
        refine DL_c (op_as _ (rfl : _ = AV.v (.int _ _))) ?_
        refine DL_nil ?_
        refine ⟨a + 1, ?_, ?_, ?_⟩
        · have h2 : ∀ b, b < a + 1 → isfree n (wlt ab) (lin n (wlt ab) k) b = false := by
            intro b hb
            rcases Nat.lt_or_ge b a with h | h
            · exact hna b h
            · obtain rfl : b = a := by omega
              exact hno
          refine ⟨?_, h2⟩
          obtain ⟨x, h3, h4⟩ := hfx
          apply Classical.byContradiction
          intro h5
          have := h2 x (by omega)
          rw [h4] at this; cases this
        · skip
          refine Le.mkJ [] [] rfl ?_ ?_ trivial trivial ?_
          · exact ⟨(iF rfl), (iR rfl), (iR rfl), (iR rfl), (iV rfl), (iV rfl), (lvI (by first | rfl | omega | (simp; done) | (simp; omega) | assumption)), trivial⟩
          · exact ⟨(obE rfl rfl rfl), (obE rfl rfl rfl), (obE rfl rfl rfl), trivial⟩
          · kernel_rfl
        · omega
      · skip
        have hyes : isfree n (wlt ab) (lin n (wlt ab) k) a = true := by rw [hfi, ← hdg, hg25, decide_eq_true (by omega)]; rfl
        have hnx := nextf_eq ha hyes hna
        have hnot : a ∉ lin n (wlt ab) k := by rw [hdg] at hg25; simpa using hg25
        refine D_exit ?_
        refine id (hK11 _ ?_)
        clear hK11; try clear K11
        refine D_seq fun K14 hK14 => ?_
        refine D_region ?_
        refine DL_c (op_mv _ (rfl : _ = AV.ref _ _ _)) ?_
        refine DL_c (op_mv _ (rfl : _ = AV.v (.int _ _))) ?_
        first
          | refine DL_c (op_ixR _ _ inferInstance rfl rfl rfl _ rfl (by omega) (by first | exact (Nat.zero_add _).trans (Nat.mul_one _) | exact Nat.zero_add _ | rfl | omega)) ?_
          | refine DL_c (op_ixR _ _ inferInstance rfl rfl rfl (Int.toNat _) (Int.toNat_of_nonneg (by omega)).symm (by omega) (by first | exact (Nat.zero_add _).trans (Nat.mul_one _) | exact Nat.zero_add _ | rfl | omega)) ?_
        first
          | refine DL_c (op_stB _ _ inferInstance rfl rfl rfl rfl (Nat.le_of_ble_eq_true rfl) rfl) ?_
          | refine DL_c (op_stR _ _ inferInstance rfl rfl rfl rfl rfl (by first | exact Nat.le_of_ble_eq_true rfl | (simp only [isl_len, bsl_len, psl_len, mrows_len, nsl_len, ws_len, List.length_cons, List.length_nil]; omega) | (simp; done) | (simp; omega)) rfl) ?_
        refine DL_nil (hK14 _ ?_)
        clear hK14; try clear K14
        refine D_seq fun K15 hK15 => ?_
        refine D_le (σ' := mkStI 61 [(0, _), (3, _), (4, _), (5, _), (6, _), (18, _), (19, _)] [((5, 0), _), ((50, 0), _), ((14, 0), _)] [] []) (by
          refine Le.mkJ [] [] rfl ?_ ?_ trivial trivial ?_
          · exact ⟨(iF rfl), (iR rfl), (iR rfl), (iR rfl), (iV rfl), (iV rfl), (iV rfl), trivial⟩
          · exact ⟨(obE rfl rfl rfl), (obE rfl rfl rfl), (obE rfl rfl rfl), trivial⟩
          · kernel_rfl) ?_
        refine D_region ?_
        refine DL_c (op_mv _ (rfl : _ = AV.ref _ _ _)) ?_
        refine DL_c (op_mv _ (rfl : _ = AV.v (.int _ _))) ?_
        refine DL_c (op_bsF _ _ inferInstance rfl (by rfl) (by simp <;> rfl) (by decide) rfl) ?_
        refine DL_c (op_ap (40, 0) _ _ inferInstance rfl rfl (by first | rfl | omega | (simp only [isl_len, bsl_len, psl_len, mrows_len, nsl_len, ws_len]; omega) | (simp; done) | (simp; omega)) (by first | exact .nil | (refine .sl ?_; first | (simp [isl]; done) | (simp [isl]; omega)) | (refine .ref rfl rfl ?_; first | (simp; done) | (simp; omega))) (by omega) rfl (rfl) (rfl)) ?_
        refine DL_c (op_as _ (rfl : _ = AV.ref _ _ _)) ?_
        refine DL_nil (hK15 _ ?_)
        clear hK15; try clear K15
        refine D_seq fun K16 hK16 => ?_
        refine D_region ?_
        refine DL_c (op_mv _ (rfl : _ = AV.fp _ _)) ?_
        refine DL_c (op_nilc _ rfl) ?_
        first
          | refine DL_c (op_fldP _ inferInstance rfl rfl rfl) ?_
          | refine DL_c (op_fldF _ inferInstance rfl rfl) ?_
        refine DL_c (op_ldF _ inferInstance rfl (rfl : _ = some (PV.v (.int .i64 (n : Int)))) rfl) ?_
        refine DL_c (op_mv _ (rfl : _ = AV.v (.int _ _))) ?_
        refine DL_nil (hK16 _ ?_)
        clear hK16; try clear K16
        refine D_block ?_
        refine D_loopL (α := Nat) (fun b => b ≤ n) 61 [(0, _), (3, _), (4, _), (5, _), (6, _), (18, _), (19, _), (44, _)] [((14, 0), _), ((40, 0), _)] (fun b => [(45, .v (.int .i64 (b : Int)))]) (fun b => [((50, 0), .row 3 1 (nsl (wtM n (wlt ab) (lin n (wlt ab) k) a b)))]) [] [] (fun b => n - b) 0 ?_ (by
          refine Le.mkJ [] [] rfl ?_ ?_ trivial trivial ?_
          · exact ⟨(iF rfl), (iR rfl), (iR rfl), (iR rfl), (iV rfl), (iV rfl), (iV rfl), (iV rfl), (lvI (by first | rfl | omega | (simp; done) | (simp; omega) | assumption)), trivial⟩
          · exact ⟨(obE rfl rfl rfl), (obE rfl rfl rfl), (obR rfl rfl rfl (by rw [wtM_zero])), trivial⟩
          · kernel_rfl) ?_
        · first | omega | trivial | exact ⟨by omega, by omega⟩
        intro b hb
        refine D_seq fun K17 hK17 => ?_
        refine D_region ?_
        first
          | refine DL_c (op_lss _ _ rfl rfl (by assumption)) ?_
          | refine DL_c (op_lss _ _ rfl rfl rfl) ?_
        refine DL_nil (hK17 _ ?_)
        clear hK17; try clear K17
        refine D_seq fun K18 hK18 => ?_
        refine D_splitC rfl (fun hc46 => ?_) (fun hc46 => ?_)
        · skip
          have hml := wtM_len n (wlt ab) (lin n (wlt ab) k) a b
          have hmg := wtM_get n (wlt ab) (lin n (wlt ab) k) a b b (by omega)
          have hle1 := wt_le n (wlt ab) (lin n (wlt ab) k) b
          rw [if_neg (by omega)] at hmg
          refine D_skip (hK18 _ ?_)
          clear hK18; try clear K18
          refine D_seq fun K19 hK19 => ?_
          refine D_block ?_
          refine D_seq fun K20 hK20 => ?_
          refine D_region ?_
          refine DL_c (op_mv _ (rfl : _ = AV.v (.int _ _))) ?_
          refine DL_c (op_as _ (rfl : _ = AV.v (.int _ _))) ?_
          refine DL_nil (hK20 _ ?_)
          clear hK20; try clear K20
          refine D_seq fun K21 hK21 => ?_
          refine D_region ?_
          refine DL_c (op_mv _ (rfl : _ = AV.fp _ _)) ?_
          refine DL_c (op_mv _ (rfl : _ = AV.v (.int _ _))) ?_
          refine DL_c (op_mv _ (rfl : _ = AV.v (.int _ _))) ?_
          refine DL_c (op_callH inferInstance (by repeat' (first | exact argsLv_nil | refine argsLv_cons ?_ ?_ | exact Lv.v | exact lvI (by omega) | exact Lv.sl | exact Lv.fp | exact Lv.nil | refine Lv.agg rfl ?_ | refine Lv.fn rfl ?_ rfl ?_ | exact lv_nil | refine lv_cons ?_ ?_ | exact Lv.z0)) (lessN_spec n ab hW a b (by omega) (by omega)) rfl rfl) ?_
          refine DL_nil (hK21 _ ?_)
          clear hK21; try clear K21
          refine D_splitC rfl (fun hc51 => ?_) (fun hc51 => ?_)
          · skip
            have hwy := wt_yes ha hnot hc51
            refine D_region ?_
            refine DL_c (op_mv _ (rfl : _ = AV.ref _ _ _)) ?_
            refine DL_c (op_mv _ (rfl : _ = AV.v (.int _ _))) ?_
            first
              | refine DL_c (op_ixR _ _ inferInstance rfl rfl rfl _ rfl (by omega) (by first | exact (Nat.zero_add _).trans (Nat.mul_one _) | exact Nat.zero_add _ | rfl | omega)) ?_
              | refine DL_c (op_ixR _ _ inferInstance rfl rfl rfl (Int.toNat _) (Int.toNat_of_nonneg (by omega)).symm (by omega) (by first | exact (Nat.zero_add _).trans (Nat.mul_one _) | exact Nat.zero_add _ | rfl | omega)) ?_
            first
              | refine DL_c (op_ldR _ inferInstance rfl rfl (by first | rfl | exact isl_get _ _ (by omega) | exact bsl_get _ _ (by omega) | assumption | exact mrows_get _ _ (by omega) | exact nsl_get _ _ (by omega)) rfl) ?_
              | refine DL_c (op_ldB _ inferInstance rfl rfl (rfl : _ = some (AV.v (.int _ _)))) ?_
            first
              | refine DL_c (op_sub _ _ rfl rfl (i64w (by omega))) ?_
              | refine DL_c (op_sub _ _ rfl rfl rfl) ?_
            first
              | refine DL_c (op_ixR _ _ inferInstance rfl rfl rfl _ rfl (by omega) (by first | exact (Nat.zero_add _).trans (Nat.mul_one _) | exact Nat.zero_add _ | rfl | omega)) ?_
              | refine DL_c (op_ixR _ _ inferInstance rfl rfl rfl (Int.toNat _) (Int.toNat_of_nonneg (by omega)).symm (by omega) (by first | exact (Nat.zero_add _).trans (Nat.mul_one _) | exact Nat.zero_add _ | rfl | omega)) ?_
            first
              | refine DL_c (op_stB _ _ inferInstance rfl rfl rfl rfl (Nat.le_of_ble_eq_true rfl) rfl) ?_
              | refine DL_c (op_stR _ _ inferInstance rfl rfl rfl rfl rfl (by first | exact Nat.le_of_ble_eq_true rfl | (simp only [isl_len, bsl_len, psl_len, mrows_len, nsl_len, ws_len, List.length_cons, List.length_nil]; omega) | (simp; done) | (simp; omega)) rfl) ?_
            refine DL_nil (hK19 _ ?_)
            clear hK19; try clear K19
            refine D_region ?_
            first
              | refine DL_c (op_add _ _ rfl rfl (i64w (by omega))) ?_
              | refine DL_c (op_add _ _ rfl rfl rfl) ?_
            refine DL_c (op_mv _ (rfl : _ = AV.v (.int _ _))) ?_
            refine DL_nil ?_
            refine ⟨b + 1, ?_, ?_, ?_⟩
            · first | omega | trivial | exact ⟨by omega, by omega⟩
            · skip
              refine Le.mkJ [] [] rfl ?_ ?_ trivial trivial ?_
              · exact ⟨(iF rfl), (iR rfl), (iR rfl), (iR rfl), (iV rfl), (iV rfl), (iV rfl), (iV rfl), (lvI (by first | rfl | omega | (simp; done) | (simp; omega) | assumption)), trivial⟩
              · exact ⟨(obE rfl rfl rfl), (obE rfl rfl rfl), (obR rfl rfl rfl (by rw [wtM_yes (by omega) ha hnot hc51, show (wtM n (wlt ab) (lin n (wlt ab) k) a b).getD b 0 - 1 = (((wtM n (wlt ab) (lin n (wlt ab) k) a b).getD b 0 : Int) - 1).toNat by omega]; exact nsl_put _ _ _ (by omega) (by omega))), trivial⟩
              · kernel_rfl
            · omega
          · skip
            refine D_skip (hK19 _ ?_)
            clear hK19; try clear K19
            refine D_region ?_
            first
              | refine DL_c (op_add _ _ rfl rfl (i64w (by omega))) ?_
              | refine DL_c (op_add _ _ rfl rfl rfl) ?_
            refine DL_c (op_mv _ (rfl : _ = AV.v (.int _ _))) ?_
            refine DL_nil ?_
            refine ⟨b + 1, ?_, ?_, ?_⟩
            · first | omega | trivial | exact ⟨by omega, by omega⟩
            · skip
              refine Le.mkJ [] [] rfl ?_ ?_ trivial trivial ?_
              · exact ⟨(iF rfl), (iR rfl), (iR rfl), (iR rfl), (iV rfl), (iV rfl), (iV rfl), (iV rfl), (lvI (by first | rfl | omega | (simp; done) | (simp; omega) | assumption)), trivial⟩
              · exact ⟨(obE rfl rfl rfl), (obE rfl rfl rfl), (obR rfl rfl rfl (by rw [wtM_no hc51])), trivial⟩
              · kernel_rfl
            · omega
        · skip
          obtain rfl : n = b := by omega
          refine D_exit ?_
          refine id (hK9 _ ?_)
          clear hK9; try clear K9
          refine D_region ?_
          first
            | refine DL_c (op_add _ _ rfl rfl (i64w (by omega))) ?_
            | refine DL_c (op_add _ _ rfl rfl rfl) ?_
          refine DL_c (op_mv _ (rfl : _ = AV.v (.int _ _))) ?_
          refine DL_nil ?_
          refine ⟨k + 1, ?_, ?_, ?_⟩
          · first | omega | trivial | exact ⟨by omega, by omega⟩
          · skip
            refine Le.mkJ [((5, 0), (40, 0))] [] rfl ?_ ?_ trivial trivial ?_
            · exact ⟨(by repeat' (first | exact Lv.v | exact Lv.sl | exact Lv.fp | exact lvRr (id := (14, 0)) rfl rfl | exact lvPr (id := (14, 0)) rfl | exact lvRr (id := (5, 0)) rfl rfl | exact lvPr (id := (5, 0)) rfl | exact lvRr (id := (50, 0)) rfl rfl | exact lvPr (id := (50, 0)) rfl | exact lvRr rfl rfl | exact lvPr rfl | exact Lv.mp | exact Lv.nil | exact Lv.z | exact Lv.dead | refine Lv.agg rfl ?_ | refine Lv.fn rfl ?_ rfl ?_ | refine Lv.tup rfl ?_ | refine Lv.ifc ?_ | exact lv_nil | refine lv_cons ?_ ?_)), (lvRr (id := (50, 0)) rfl rfl), (lvRr (id := (14, 0)) rfl rfl), (by repeat' (first | exact Lv.v | exact Lv.sl | exact Lv.fp | exact lvRr (id := (14, 0)) rfl rfl | exact lvPr (id := (14, 0)) rfl | exact lvRr (id := (5, 0)) rfl rfl | exact lvPr (id := (5, 0)) rfl | exact lvRr (id := (50, 0)) rfl rfl | exact lvPr (id := (50, 0)) rfl | exact lvRr rfl rfl | exact lvPr rfl | exact Lv.mp | exact Lv.nil | exact Lv.z | exact Lv.dead | refine Lv.agg rfl ?_ | refine Lv.fn rfl ?_ rfl ?_ | refine Lv.tup rfl ?_ | refine Lv.ifc ?_ | exact lv_nil | refine lv_cons ?_ ?_)), (lvI (by first | rfl | omega | (simp; done) | (simp; omega) | assumption)), (lvRr rfl (by first | rfl | omega | (simp; done) | (simp; omega) | assumption)), trivial⟩
            · exact ⟨(obR rfl rfl rfl (by rw [lin, hnx, ← nsl_append]; rfl)), (obR rfl rfl rfl (by rw [wtM_full, lin, hnx])), (obR rfl rfl rfl (by rw [lin, hnx, ← doneL_add n _ a ha, ← bsl_put _ _ _ (by omega)])), trivial⟩
            · kernel_rfl
          · omega
  · skip
    obtain rfl : n = k := by omega
    refine D_exit ?_
    refine id (hK5 _ ?_)
    clear hK5; try clear K5
    refine D_seq fun K22 hK22 => ?_
    refine D_region ?_
    refine DL_c (op_mv _ (rfl : _ = AV.ref _ _ _)) ?_
    refine DL_c (op_as _ (rfl : _ = AV.ref _ _ _)) ?_
    refine DL_nil (hK22 _ ?_)
    clear hK22; try clear K22
    refine D_ret ?_
    exact ret1 (.inr rfl) rfl (.tmp (rfl : _ = AV.ref _ _ _)) (Le.out [((0, 8), (5, 0))] [] (lvRr rfl (by first | rfl | omega | simp)) rfl rfl rfl trivial ⟨⟨rfl, ⟨_, rfl, .rowE (by first | rfl | simp)⟩, rfl⟩, trivial⟩)
end Go.Proofs.Ytkbkmngbenohkaa
