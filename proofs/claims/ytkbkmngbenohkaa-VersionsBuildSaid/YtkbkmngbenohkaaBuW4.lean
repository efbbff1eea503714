/- The reference's Ancestors, New by the machine. -/
import Derived.Test.YtkbkmngbenohkaaBuW3
set_option linter.unusedSimpArgs false
set_option linter.unusedVariables false
namespace Go.Proofs.Ytkbkmngbenohkaa
open Go.RowKit

def rat (Ps : List (List Int)) (v : Int) : List Int := if 0 ≤ v ∧ v < (Ps.length : Int) then ssrt (abv Ps [v]) else []
theorem rat_els {Ps : List (List Int)} (hV : Valid Ps) (h64 : Ps.length ≤ 64) (v : Int) : rat Ps v = (wat Ps.length (ancW Ps.length (edg Ps Ps.length 0)) v).map fun (x : Nat) => (x : Int) := by
  unfold rat wat
  by_cases h : 0 ≤ v ∧ v < (Ps.length : Int)
  · obtain ⟨a, rfl⟩ := Int.eq_ofNat_of_zero_le h.1
    rw [if_pos h, if_pos h, Int.toNat_natCast, ancW_get (by omega), anc_els hV h64 (by omega)]
  · rw [if_neg h, if_neg h]; rfl
theorem abv_len {Ps : List (List Int)} (hV : Valid Ps) {l : List Int} (hl : OkP Ps.length l) : (abv Ps l).length ≤ Ps.length := ints_len (abv_ok hV hl).1.1 (abv_ok hV hl).1.2
theorem rancestors_spec (n : Nat) (Ps : List (List Int)) (hPs : Ps.length = n) (hn1 : n ≤ 1000) (hV : Valid Ps) (hm : ∀ v, (Ps.getD v []).length ≤ 1000) (v : Int) :
    Spec Try.prog 66 (inSt [.sl n (nrows Ps), .v (.int .i64 v)] []) (outSt (.sl (rat Ps v).length (isl (rat Ps v))) []) := by
  refine Spec.ofN Try.func66 rfl Try.ntmps66 rfl ?_
  refine D_seq fun K1 hK1 => ?_
  refine D_region ?_
  first
    | refine DL_c (op_as _ (rfl : _ = AV.sl _ _)) ?_
    | refine DL_c (op_as _ (rfl : _ = AV.ref _ _ _)) ?_
    | refine DL_c (op_as _ (rfl : _ = AV.v (.slice _ _ _))) ?_
    | refine DL_c (op_as _ (rfl : _ = AV.z)) ?_
  refine DL_nil (hK1 _ ?_)
  clear hK1; try clear K1
  refine D_seq fun K2 hK2 => ?_
  refine D_seq fun K3 hK3 => ?_
  refine D_region ?_
  refine DL_c (op_mv _ (rfl : _ = AV.v (.int _ _))) ?_
  first
    | refine DL_c (op_lss _ _ rfl rfl (by assumption)) ?_
    | refine DL_c (op_lss _ _ rfl rfl rfl) ?_
  refine DL_c (op_mv _ (rfl : _ = AV.v (.bool _))) ?_
  refine DL_caseC (fun hg7 => ?_) (fun hg7 => ?_)
  · skip
    refine DL_cn rfl rfl (by decide) ?_
    refine DL_cn rfl rfl (by decide) ?_
    refine DL_cn rfl rfl (by decide) ?_
    refine DL_cn rfl rfl (by decide) ?_
    refine DL_c (op_pick _ _ _ rfl (rfl : _ = AV.v (.bool _))) ?_
    refine DL_nil (hK3 _ ?_)
    clear hK3; try clear K3
    refine D_cT rfl rfl ?_
    refine D_seq fun K4 hK4 => ?_
    refine D_region ?_
    first
      | refine DL_c (op_as _ (rfl : _ = AV.sl _ _)) ?_
      | refine DL_c (op_as _ (rfl : _ = AV.ref _ _ _)) ?_
      | refine DL_c (op_as _ (rfl : _ = AV.v (.slice _ _ _))) ?_
      | refine DL_c (op_as _ (rfl : _ = AV.z)) ?_
    refine DL_nil (hK4 _ ?_)
    clear hK4; try clear K4
    refine D_ret ?_
    rw [show rat Ps v = [] from if_neg (by omega)]
    exact ret1 (.inr rfl) rfl (.tmp (rfl : _ = AV.v _)) (Le.out [] [] .nil rfl rfl rfl trivial trivial)
  · skip
    have hvn := hg7
    refine DL_cy rfl rfl (op_mv _ (rfl : _ = AV.v (.int _ _))) ?_
    refine DL_cy rfl rfl (op_mv _ (rfl : _ = AV.sl _ _)) ?_
    refine DL_cy rfl rfl (op_lenS _ inferInstance rfl) ?_
    first
      | refine DL_cy rfl rfl (op_geq _ _ rfl rfl (by assumption)) ?_
      | refine DL_cy rfl rfl (op_geq _ _ rfl rfl rfl) ?_
    refine DL_c (op_pick _ _ _ rfl (rfl : _ = AV.v (.bool _))) ?_
    refine DL_nil (hK3 _ ?_)
    clear hK3; try clear K3
    refine D_splitC rfl (fun hc12 => ?_) (fun hc12 => ?_)
    · skip
      refine D_seq fun K5 hK5 => ?_
      refine D_region ?_
      first
        | refine DL_c (op_as _ (rfl : _ = AV.sl _ _)) ?_
        | refine DL_c (op_as _ (rfl : _ = AV.ref _ _ _)) ?_
        | refine DL_c (op_as _ (rfl : _ = AV.v (.slice _ _ _))) ?_
        | refine DL_c (op_as _ (rfl : _ = AV.z)) ?_
      refine DL_nil (hK5 _ ?_)
      clear hK5; try clear K5
      refine D_ret ?_
      rw [show rat Ps v = [] from if_neg (by omega)]
      exact ret1 (.inr rfl) rfl (.tmp (rfl : _ = AV.v _)) (Le.out [] [] .nil rfl rfl rfl trivial trivial)
    · skip
      have hal : (abv Ps [v]).length ≤ n := hPs ▸ abv_len hV ⟨by simp, fun p hp => by simp at hp; omega⟩
      refine D_skip (hK2 _ ?_)
      clear hK2; try clear K2
      refine D_seq fun K6 hK6 => ?_
      refine D_region ?_
      refine DL_c (op_mv _ (rfl : _ = AV.sl _ _)) ?_
      refine DL_c (op_mv _ (rfl : _ = AV.v (.int _ _))) ?_
      refine DL_c (op_bsF _ _ inferInstance rfl (by rfl) (by simp <;> rfl) (by decide) rfl) ?_
      refine DL_c (op_callH inferInstance (by repeat' (first | exact argsLv_nil | refine argsLv_cons ?_ ?_ | exact Lv.v | exact lvI (by omega) | exact Lv.sl | exact Lv.fp | exact Lv.nil | refine Lv.agg rfl ?_ | refine Lv.fn rfl ?_ rfl ?_ | exact lv_nil | refine lv_cons ?_ ?_ | exact Lv.z0)) (above_spec n Ps hPs hn1 hV hm 1 [v] rfl (by omega) ⟨by simp, fun p hp => by simp at hp; omega⟩) rfl rfl) ?_
      refine DL_c (op_callH inferInstance (by repeat' (first | exact argsLv_nil | refine argsLv_cons ?_ ?_ | exact Lv.v | exact lvI (by omega) | exact Lv.sl | exact Lv.fp | exact Lv.nil | refine Lv.agg rfl ?_ | refine Lv.fn rfl ?_ rfl ?_ | exact lv_nil | refine lv_cons ?_ ?_ | exact Lv.z0)) (sorted_spec _ (abv Ps [v]) rfl (by omega)) rfl rfl) ?_
      first
        | refine DL_c (op_as _ (rfl : _ = AV.sl _ _)) ?_
        | refine DL_c (op_as _ (rfl : _ = AV.ref _ _ _)) ?_
        | refine DL_c (op_as _ (rfl : _ = AV.v (.slice _ _ _))) ?_
        | refine DL_c (op_as _ (rfl : _ = AV.z)) ?_
      refine DL_nil (hK6 _ ?_)
      clear hK6; try clear K6
      refine D_ret ?_
      rw [show rat Ps v = ssrt (abv Ps [v]) from if_pos (by omega), ssrt_len]
      exact ret1 (.inr rfl) rfl (.tmp (rfl : _ = AV.sl _ _)) (Le.out [] [] .sl rfl rfl rfl trivial trivial)
open Classical in
/-- What the reference's New answers. -/
noncomputable def newRr (Ps : List (List Int)) : Int :=
  if 64 < Ps.length then 2
  else if ¬ Valid Ps then 1
  else if ∃ a, a < Ps.length ∧ Clo (edg Ps Ps.length 0) a a then 9
  else 0
theorem rnew32_spec (n : Nat) (Ps : List (List Int)) (hPs : Ps.length = n) (hn1 : n ≤ 1000) (hm : ∀ v, (Ps.getD v []).length ≤ 1000) :
    Spec Try.prog 63 (inSt [.sl n (nrows Ps)] []) (outSt (.v (.int .i64 (newRr Ps))) []) := by
  have hnr : (nrows Ps).length = n := by simp [nrows, hPs]
  refine Spec.ofN Try.func63 rfl Try.ntmps63 rfl ?_
  refine D_seq fun K1 hK1 => ?_
  refine D_region ?_
  refine DL_c (op_as _ (rfl : _ = AV.v (.int _ _))) ?_
  refine DL_nil (hK1 _ ?_)
  clear hK1; try clear K1
  refine D_seq fun K2 hK2 => ?_
  refine D_seq fun K3 hK3 => ?_
  refine D_region ?_
  refine DL_c (op_mv _ (rfl : _ = AV.sl _ _)) ?_
  refine DL_c (op_lenS _ inferInstance rfl) ?_
  first
    | refine DL_c (op_gtr _ _ rfl rfl (by assumption)) ?_
    | refine DL_c (op_gtr _ _ rfl rfl rfl) ?_
  refine DL_nil (hK3 _ ?_)
  clear hK3; try clear K3
  refine D_splitC rfl (fun hc9 => ?_) (fun hc9 => ?_)
  · skip
    refine D_seq fun K4 hK4 => ?_
    refine D_region ?_
    refine DL_c (op_as _ (rfl : _ = AV.v (.int _ _))) ?_
    refine DL_nil (hK4 _ ?_)
    clear hK4; try clear K4
    refine D_ret ?_
    refine ret1 (.inr rfl) rfl (.tmp (rfl : _ = AV.v (.int _ _))) (Le.out [] [] (lvI ?_) rfl rfl rfl trivial trivial)
    rw [show newRr Ps = 2 from if_pos (by omega)]
  · skip
    refine D_skip (hK2 _ ?_)
    clear hK2; try clear K2
    refine D_seq fun K5 hK5 => ?_
    refine D_seq fun K6 hK6 => ?_
    refine D_region ?_
    refine DL_c (op_as _ (rfl : _ = AV.v (.int _ _))) ?_
    refine DL_nil (hK6 _ ?_)
    clear hK6; try clear K6
    refine D_block ?_
    refine D_loopL (α := Nat) (fun v => v ≤ n ∧ ∀ u, u < v → OkP n (Ps.getD u [])) 64 [(0, _)] [] (fun v => [(3, .v (.int .i64 (v : Int)))]) (fun v => []) [] [] (fun v => n - v) 0 ?_ (by
      refine Le.mkJ [] [] rfl ?_ ?_ trivial trivial ?_
      · exact ⟨(iS rfl), (lvI (by first | rfl | omega | (simp; done) | (simp; omega) | assumption)), trivial⟩
      · exact trivial
      · kernel_rfl) ?_
    · exact ⟨by omega, fun u hu => by omega⟩
    intro v hv
    obtain ⟨hv, hok⟩ := hv
    refine D_seq fun K7 hK7 => ?_
    refine D_seq fun K8 hK8 => ?_
    refine D_region ?_
    refine DL_c (op_mv _ (rfl : _ = AV.v (.int _ _))) ?_
    refine DL_c (op_mv _ (rfl : _ = AV.sl _ _)) ?_
    refine DL_c (op_lenS _ inferInstance rfl) ?_
    first
      | refine DL_c (op_lss _ _ rfl rfl (by assumption)) ?_
      | refine DL_c (op_lss _ _ rfl rfl rfl) ?_
    refine DL_nil (hK8 _ ?_)
    clear hK8; try clear K8
    refine D_splitC rfl (fun hc13 => ?_) (fun hc13 => ?_)
    · skip
      have hvl := hm v
      have hok0 : OkP n ((Ps.getD v []).take 0) := ⟨by simp, fun p hp => by simp at hp⟩
      refine D_skip (hK7 _ ?_)
      clear hK7; try clear K7
      refine D_seq fun K9 hK9 => ?_
      refine D_block ?_
      refine D_seq fun K10 hK10 => ?_
      refine D_region ?_
      refine DL_c (op_as _ (rfl : _ = AV.v (.int _ _))) ?_
      refine DL_nil (hK10 _ ?_)
      clear hK10; try clear K10
      refine D_block ?_
      refine D_loopL (α := Nat) (fun j => j ≤ (Ps.getD v []).length ∧ OkP n ((Ps.getD v []).take j)) 64 [(0, _), (3, _)] [] (fun j => [(4, .v (.int .i64 (j : Int)))]) (fun j => []) [] [] (fun j => (Ps.getD v []).length - j) 0 ?_ (by
        refine Le.mkJ [] [] rfl ?_ ?_ trivial trivial ?_
        · exact ⟨(iS rfl), (iV rfl), (lvI (by first | rfl | omega | (simp; done) | (simp; omega) | assumption)), trivial⟩
        · exact trivial
        · kernel_rfl) ?_
      · exact ⟨by omega, hok0⟩
      intro j hj
      obtain ⟨hj, hoj⟩ := hj
      refine D_seq fun K11 hK11 => ?_
      refine D_seq fun K12 hK12 => ?_
      refine D_region ?_
      refine DL_c (op_mv _ (rfl : _ = AV.v (.int _ _))) ?_
      refine DL_c (op_mv _ (rfl : _ = AV.sl _ _)) ?_
      refine DL_c (op_mv _ (rfl : _ = AV.v (.int _ _))) ?_
      refine DL_c (op_ixS _ _ inferInstance rfl rfl v rfl (by omega) (by omega) (Nat.mul_one _)) ?_
      refine DL_c (op_ldF _ inferInstance rfl (by exact nrows_get _ _ (by omega)) rfl) ?_
      first
        | refine DL_c (op_lenS _ inferInstance rfl) ?_
        | refine DL_c (op_lenR _ inferInstance rfl rfl) ?_
        | refine DL_c (op_lenN _ inferInstance rfl) ?_
        | refine DL_c (op_lenB _ inferInstance rfl rfl) ?_
        | refine DL_c (op_lenZ _ inferInstance rfl) ?_
      first
        | refine DL_c (op_lss _ _ rfl rfl (by assumption)) ?_
        | refine DL_c (op_lss _ _ rfl rfl rfl) ?_
      refine DL_nil (hK12 _ ?_)
      clear hK12; try clear K12
      refine D_splitC rfl (fun hc22 => ?_) (fun hc22 => ?_)
      · skip
        refine D_skip (hK11 _ ?_)
        clear hK11; try clear K11
        refine D_seq fun K13 hK13 => ?_
        refine D_block ?_
        refine D_seq fun K14 hK14 => ?_
        refine D_region ?_
        refine DL_c (op_mv _ (rfl : _ = AV.sl _ _)) ?_
        refine DL_c (op_mv _ (rfl : _ = AV.v (.int _ _))) ?_
        refine DL_c (op_ixS _ _ inferInstance rfl rfl v rfl (by omega) (by omega) (Nat.mul_one _)) ?_
        refine DL_c (op_ldF _ inferInstance rfl (by exact nrows_get _ _ (by omega)) rfl) ?_
        refine DL_c (op_mv _ (rfl : _ = AV.v (.int _ _))) ?_
        first
          | refine DL_c (op_ixS _ _ inferInstance rfl rfl _ rfl (by omega) (by first | assumption | decide | (simp only [isl_len, bsl_len, psl_len, mrows_len, nsl_len, ws_len, List.length_map, ul_len, psl_len, isl_len]; omega) | (simp; done) | (simp; omega) | (simp [isl, bsl]; omega)) (by first | exact Nat.mul_one _ | rfl | omega)) ?_
          | refine DL_c (op_ixS _ _ inferInstance rfl rfl (Int.toNat _) (Int.toNat_of_nonneg (by omega)).symm (by omega) (by first | assumption | decide | (simp only [isl_len, bsl_len, psl_len, mrows_len, nsl_len, ws_len, List.length_map, ul_len, psl_len, isl_len]; omega) | (simp; done) | (simp; omega) | (simp [isl, bsl]; omega)) (by first | exact Nat.mul_one _ | rfl | omega)) ?_
          | refine DL_c (op_ixR _ _ inferInstance rfl rfl rfl _ rfl (by omega) (by first | exact (Nat.zero_add _).trans (Nat.mul_one _) | exact Nat.zero_add _ | rfl | omega)) ?_
          | refine DL_c (op_ixR _ _ inferInstance rfl rfl rfl (Int.toNat _) (Int.toNat_of_nonneg (by omega)).symm (by omega) (by first | exact (Nat.zero_add _).trans (Nat.mul_one _) | exact Nat.zero_add _ | rfl | omega)) ?_
          | refine DL_c (op_ixB _ _ inferInstance rfl rfl rfl _ rfl (by omega) (by first | exact (Nat.zero_add _).trans (Nat.mul_one _) | exact Nat.zero_add _ | rfl | omega)) ?_
          | refine DL_c (op_ixB _ _ inferInstance rfl rfl rfl (Int.toNat _) (Int.toNat_of_nonneg (by omega)).symm (by omega) (by first | exact (Nat.zero_add _).trans (Nat.mul_one _) | exact Nat.zero_add _ | rfl | omega)) ?_
        first
          | refine DL_c (op_ldB _ inferInstance rfl rfl (rfl : _ = some (AV.v (.int _ _)))) ?_
          | refine DL_c (op_ldR _ inferInstance rfl rfl (by first | rfl | exact isl_get _ _ (by omega) | exact bsl_get _ _ (by omega) | assumption | exact isl_get _ _ (by omega) | exact nsl_get _ _ (by omega) | exact nrows_get _ _ (by omega)) rfl) ?_
          | refine DL_c (op_ldF _ inferInstance rfl (by first | rfl | exact isl_get _ _ (by omega) | exact bsl_get _ _ (by omega) | assumption | exact isl_get _ _ (by omega) | exact nsl_get _ _ (by omega) | exact nrows_get _ _ (by omega)) rfl) ?_
        refine DL_c (op_as _ (rfl : _ = AV.v (.int _ _))) ?_
        refine DL_nil (hK14 _ ?_)
        clear hK14; try clear K14
        refine D_seq fun K15 hK15 => ?_
        refine D_le (σ' := mkStI 64 [(0, _), (3, _), (4, _), (5, _)] [] [] []) (by
          refine Le.mkJ [] [] rfl ?_ ?_ trivial trivial ?_
          · exact ⟨(iS rfl), (iV rfl), (iV rfl), (iV rfl), trivial⟩
          · exact trivial
          · kernel_rfl) ?_
        refine D_region ?_
        refine DL_c (op_mv _ (rfl : _ = AV.v (.int _ _))) ?_
        first
          | refine DL_c (op_lss _ _ rfl rfl (by assumption)) ?_
          | refine DL_c (op_lss _ _ rfl rfl rfl) ?_
        refine DL_c (op_mv _ (rfl : _ = AV.v (.bool _))) ?_
        refine DL_caseC (fun hg34 => ?_) (fun hg34 => ?_)
        · skip
          have hbad : ¬ Valid Ps := fun hV => by have := (hV v (by omega)).2 _ (getD_memI (show j < (Ps.getD v []).length by omega)); omega
          refine DL_cn rfl rfl (by decide) ?_
          refine DL_cn rfl rfl (by decide) ?_
          refine DL_cn rfl rfl (by decide) ?_
          refine DL_cn rfl rfl (by decide) ?_
          refine DL_c (op_pick _ _ _ rfl (rfl : _ = AV.v (.bool _))) ?_
          refine DL_c (op_mv _ (rfl : _ = AV.v (.bool _))) ?_
          refine DL_cn rfl rfl (by decide) ?_
          refine DL_cn rfl rfl (by decide) ?_
          refine DL_cn rfl rfl (by decide) ?_
          refine DL_cn rfl rfl (by decide) ?_
          refine DL_cn rfl rfl (by decide) ?_
          refine DL_cn rfl rfl (by decide) ?_
          refine DL_cn rfl rfl (by decide) ?_
          refine DL_cn rfl rfl (by decide) ?_
          refine DL_c (op_pick _ _ _ rfl (rfl : _ = AV.v (.bool _))) ?_
          refine DL_nil (hK15 _ ?_)
          clear hK15; try clear K15
          refine D_cT rfl rfl ?_
          refine D_seq fun K16 hK16 => ?_
          refine D_le (σ' := mkStI 64 [] [] [] []) (by
            refine Le.mkJ [] [] rfl ?_ ?_ trivial trivial ?_
            · exact trivial
            · exact trivial
            · kernel_rfl) ?_
          refine D_region ?_
          refine DL_c (op_as _ (rfl : _ = AV.v (.int _ _))) ?_
          refine DL_nil (hK16 _ ?_)
          clear hK16; try clear K16
          refine D_ret ?_
          refine ret1 (.inr rfl) rfl (.tmp (rfl : _ = AV.v (.int _ _))) (Le.out [] [] (lvI ?_) rfl rfl rfl trivial trivial)
          rw [show newRr Ps = 1 from by unfold newRr; rw [if_neg (by omega), if_pos hbad]]
        · skip
          refine DL_cy rfl rfl (op_mv _ (rfl : _ = AV.v (.int _ _))) ?_
          refine DL_cy rfl rfl (op_mv _ (rfl : _ = AV.sl _ _)) ?_
          refine DL_cy rfl rfl (op_lenS _ inferInstance rfl) ?_
          first
            | refine DL_cy rfl rfl (op_geq _ _ rfl rfl (by assumption)) ?_
            | refine DL_cy rfl rfl (op_geq _ _ rfl rfl rfl) ?_
          refine DL_c (op_pick _ _ _ rfl (rfl : _ = AV.v (.bool _))) ?_
          refine DL_c (op_mv _ (rfl : _ = AV.v (.bool _))) ?_
          refine DL_caseC (fun hg40 => ?_) (fun hg40 => ?_)
          · skip
            have hbad : ¬ Valid Ps := fun hV => by have := (hV v (by omega)).2 _ (getD_memI (show j < (Ps.getD v []).length by omega)); omega
            refine DL_cn rfl rfl (by decide) ?_
            refine DL_cn rfl rfl (by decide) ?_
            refine DL_cn rfl rfl (by decide) ?_
            refine DL_cn rfl rfl (by decide) ?_
            refine DL_cn rfl rfl (by decide) ?_
            refine DL_cn rfl rfl (by decide) ?_
            refine DL_cn rfl rfl (by decide) ?_
            refine DL_cn rfl rfl (by decide) ?_
            refine DL_c (op_pick _ _ _ rfl (rfl : _ = AV.v (.bool _))) ?_
            refine DL_nil (hK15 _ ?_)
            clear hK15; try clear K15
            refine D_cT rfl rfl ?_
            refine D_seq fun K17 hK17 => ?_
            refine D_le (σ' := mkStI 64 [] [] [] []) (by
              refine Le.mkJ [] [] rfl ?_ ?_ trivial trivial ?_
              · exact trivial
              · exact trivial
              · kernel_rfl) ?_
            refine D_region ?_
            refine DL_c (op_as _ (rfl : _ = AV.v (.int _ _))) ?_
            refine DL_nil (hK17 _ ?_)
            clear hK17; try clear K17
            refine D_ret ?_
            refine ret1 (.inr rfl) rfl (.tmp (rfl : _ = AV.v (.int _ _))) (Le.out [] [] (lvI ?_) rfl rfl rfl trivial trivial)
            rw [show newRr Ps = 1 from by unfold newRr; rw [if_neg (by omega), if_pos hbad]]
          · skip
            refine DL_cy rfl rfl (op_mv _ (rfl : _ = AV.sl _ _)) ?_
            refine DL_cy rfl rfl (op_mv _ (rfl : _ = AV.v (.int _ _))) ?_
            refine DL_cy rfl rfl (op_ixS _ _ inferInstance rfl rfl v rfl (by omega) (by omega) (Nat.mul_one _)) ?_
            refine DL_cy rfl rfl (op_ldF _ inferInstance rfl (by exact nrows_get _ _ (by omega)) rfl) ?_
            refine DL_cy rfl rfl (op_mv _ (rfl : _ = AV.v (.int _ _))) ?_
            first
              | refine DL_cy rfl rfl (op_slS _ _ _ inferInstance rfl 0 _ .dflt (.lit rfl rfl) (by omega) (by omega) (by first | exact isl_pre _ _ | exact psl_pre _ _ | exact bsl_pre _ _) (Nat.sub_zero _)) ?_
              | refine DL_cy rfl rfl (op_slR _ _ _ inferInstance rfl rfl 0 _ .dflt (.lit rfl rfl) (by omega) (by omega) (by first | exact (Nat.zero_add _).trans (Nat.mul_one _) | exact Nat.zero_add _ | rfl | omega) (Nat.sub_zero _)) ?_
            refine DL_cy rfl rfl (op_mv _ (rfl : _ = AV.v (.int _ _))) ?_
            refine DL_cy rfl rfl (op_callH inferInstance (by repeat' (first | exact argsLv_nil | refine argsLv_cons ?_ ?_ | exact Lv.v | exact lvI (by omega) | exact Lv.sl | exact Lv.fp | exact Lv.nil | refine Lv.agg rfl ?_ | refine Lv.fn rfl ?_ rfl ?_ | exact lv_nil | refine lv_cons ?_ ?_ | exact Lv.z0)) (has_spec j ((Ps.getD v []).take j) ((Ps.getD v []).getD j 0) (by rw [List.length_take]; omega) (by omega)) rfl rfl) ?_
            refine DL_c (op_pick _ _ _ rfl (rfl : _ = AV.v (.bool _))) ?_
            refine DL_nil (hK15 _ ?_)
            clear hK15; try clear K15
            refine D_splitC rfl (fun hc49 => ?_) (fun hc49 => ?_)
            · skip
              have hbad : ¬ Valid Ps := fun hV => by
                have h1 := (hV v (by omega)).1
                rw [← List.take_append_drop j (Ps.getD v []), List.nodup_append, drop1 (by omega)] at h1
                exact h1.2.2 _ hc49 _ List.mem_cons_self rfl
              refine D_seq fun K18 hK18 => ?_
              refine D_le (σ' := mkStI 64 [] [] [] []) (by
                refine Le.mkJ [] [] rfl ?_ ?_ trivial trivial ?_
                · exact trivial
                · exact trivial
                · kernel_rfl) ?_
              refine D_region ?_
              refine DL_c (op_as _ (rfl : _ = AV.v (.int _ _))) ?_
              refine DL_nil (hK18 _ ?_)
              clear hK18; try clear K18
              refine D_ret ?_
              refine ret1 (.inr rfl) rfl (.tmp (rfl : _ = AV.v (.int _ _))) (Le.out [] [] (lvI ?_) rfl rfl rfl trivial trivial)
              rw [show newRr Ps = 1 from by unfold newRr; rw [if_neg (by omega), if_pos hbad]]
            · skip
              refine D_skip (hK13 _ ?_)
              clear hK13; try clear K13
              refine D_le (σ' := mkStI 64 [(0, _), (3, _), (4, _)] [] [] []) (by
                refine Le.mkJ [] [] rfl ?_ ?_ trivial trivial ?_
                · exact ⟨(iS rfl), (iV rfl), (iV rfl), trivial⟩
                · exact trivial
                · kernel_rfl) ?_
              refine D_region ?_
              refine DL_c (op_mv _ (rfl : _ = AV.v (.int _ _))) ?_
              first
                | refine DL_c (op_add _ _ rfl rfl (i64w (by omega))) ?_
                | refine DL_c (op_add _ _ rfl rfl rfl) ?_
              refine DL_c (op_as _ (rfl : _ = AV.v (.int _ _))) ?_
              refine DL_nil ?_
              refine ⟨j + 1, ?_, ?_, ?_⟩
              · exact ⟨by omega, by rw [take1 0 (by omega)]; exact okp_snoc hoj (by omega) (by omega) hc49⟩
              · skip
                refine Le.mkJ [] [] rfl ?_ ?_ trivial trivial ?_
                · exact ⟨(iS rfl), (iV rfl), (lvI (by first | rfl | omega | (simp; done) | (simp; omega) | assumption)), trivial⟩
                · exact trivial
                · kernel_rfl
              · omega
      · skip
        have hokv : OkP n (Ps.getD v []) := by
          have := hoj
          rw [List.take_of_length_le (by omega)] at this
          exact this
        refine D_exit ?_
        refine id (hK9 _ ?_)
        clear hK9; try clear K9
        refine D_region ?_
        refine DL_c (op_mv _ (rfl : _ = AV.v (.int _ _))) ?_
        first
          | refine DL_c (op_add _ _ rfl rfl (i64w (by omega))) ?_
          | refine DL_c (op_add _ _ rfl rfl rfl) ?_
        refine DL_c (op_as _ (rfl : _ = AV.v (.int _ _))) ?_
        refine DL_nil ?_
        refine ⟨v + 1, ?_, ?_, ?_⟩
        · exact ⟨by omega, fun u hu => by
            by_cases h : u < v
            · exact hok u h
            · have : u = v := by omega
              subst this; exact hokv⟩
        · skip
          refine Le.mkJ [] [] rfl ?_ ?_ trivial trivial ?_
          · exact ⟨(iS rfl), (lvI (by first | rfl | omega | (simp; done) | (simp; omega) | assumption)), trivial⟩
          · exact trivial
          · kernel_rfl
        · omega
    · skip
      obtain rfl : v = n := by omega
      have hV : Valid Ps := fun u hu => by rw [hPs] at hu ⊢; exact hok u hu
      refine D_exit ?_
      refine id (hK5 _ ?_)
      clear hK5; try clear K5
      refine D_seq fun K19 hK19 => ?_
      refine D_seq fun K20 hK20 => ?_
      refine D_region ?_
      refine DL_c (op_as _ (rfl : _ = AV.v (.int _ _))) ?_
      refine DL_nil (hK20 _ ?_)
      clear hK20; try clear K20
      refine D_block ?_
      refine D_loopL (α := Nat) (fun u => u ≤ v ∧ ∀ a, a < u → ¬ Clo (edg Ps v 0) a a) 64 [(0, _)] [] (fun u => [(6, .v (.int .i64 (u : Int)))]) (fun u => []) [] [] (fun u => v - u) 0 ?_ (by
        refine Le.mkJ [] [] rfl ?_ ?_ trivial trivial ?_
        · exact ⟨(iS rfl), (lvI (by first | rfl | omega | (simp; done) | (simp; omega) | assumption)), trivial⟩
        · exact trivial
        · kernel_rfl) ?_
      · exact ⟨by omega, fun a ha => by omega⟩
      intro u hu
      obtain ⟨hu, hnc⟩ := hu
      refine D_seq fun K21 hK21 => ?_
      refine D_seq fun K22 hK22 => ?_
      refine D_region ?_
      refine DL_c (op_mv _ (rfl : _ = AV.v (.int _ _))) ?_
      refine DL_c (op_mv _ (rfl : _ = AV.sl _ _)) ?_
      refine DL_c (op_lenS _ inferInstance rfl) ?_
      first
        | refine DL_c (op_lss _ _ rfl rfl (by assumption)) ?_
        | refine DL_c (op_lss _ _ rfl rfl rfl) ?_
      refine DL_nil (hK22 _ ?_)
      clear hK22; try clear K22
      refine D_splitC rfl (fun hc53 => ?_) (fun hc53 => ?_)
      · skip
        have hal : (abv Ps (Ps.getD u [])).length ≤ v := hPs ▸ abv_len hV (hPs ▸ hok u (by omega))
        have hul := hm u
        have hiff : (u : Int) ∈ abv Ps (Ps.getD u []) ↔ Clo (edg Ps v 0) u u := by
          rw [(abv_ok hV (hPs ▸ hok u (by omega))).2 u, hPs]
          constructor
          · rintro (h | ⟨f, h1, h2⟩)
            · exact .one ((edg_par (by omega)).2 h)
            · exact h2.trans (.one ((edg_par (by omega)).2 h1))
          · intro h
            obtain ⟨p, h1, h2⟩ := h.last
            have h3 := (edg_par (by omega)).1 h1
            rcases h2 with rfl | h2
            · exact .inl h3
            · exact .inr ⟨p, h3, h2⟩
        refine D_skip (hK21 _ ?_)
        clear hK21; try clear K21
        refine D_seq fun K23 hK23 => ?_
        refine D_block ?_
        refine D_seq fun K24 hK24 => ?_
        refine D_region ?_
        refine DL_c (op_mv _ (rfl : _ = AV.sl _ _)) ?_
        refine DL_c (op_mv _ (rfl : _ = AV.sl _ _)) ?_
        refine DL_c (op_mv _ (rfl : _ = AV.v (.int _ _))) ?_
        refine DL_c (op_ixS _ _ inferInstance rfl rfl u rfl (by omega) (by omega) (Nat.mul_one _)) ?_
        refine DL_c (op_ldF _ inferInstance rfl (by exact nrows_get _ _ (by omega)) rfl) ?_
        refine DL_c (op_callH inferInstance (by repeat' (first | exact argsLv_nil | refine argsLv_cons ?_ ?_ | exact Lv.v | exact lvI (by omega) | exact Lv.sl | exact Lv.fp | exact Lv.nil | refine Lv.agg rfl ?_ | refine Lv.fn rfl ?_ rfl ?_ | exact lv_nil | refine lv_cons ?_ ?_ | exact Lv.z0)) (above_spec v Ps hPs hn1 hV hm _ (Ps.getD u []) rfl (by omega) (hok u (by omega))) rfl rfl) ?_
        refine DL_c (op_mv _ (rfl : _ = AV.v (.int _ _))) ?_
        refine DL_c (op_callH inferInstance (by repeat' (first | exact argsLv_nil | refine argsLv_cons ?_ ?_ | exact Lv.v | exact lvI (by omega) | exact Lv.sl | exact Lv.fp | exact Lv.nil | refine Lv.agg rfl ?_ | refine Lv.fn rfl ?_ rfl ?_ | exact lv_nil | refine lv_cons ?_ ?_ | exact Lv.z0)) (has_spec _ (abv Ps (Ps.getD u [])) (u : Int) rfl (by omega)) rfl rfl) ?_
        refine DL_nil (hK24 _ ?_)
        clear hK24; try clear K24
        refine D_splitC rfl (fun hc63 => ?_) (fun hc63 => ?_)
        · skip
          refine D_seq fun K25 hK25 => ?_
          refine D_region ?_
          refine DL_c (op_as _ (rfl : _ = AV.v (.int _ _))) ?_
          refine DL_nil (hK25 _ ?_)
          clear hK25; try clear K25
          refine D_ret ?_
          refine ret1 (.inr rfl) rfl (.tmp (rfl : _ = AV.v (.int _ _))) (Le.out [] [] (lvI ?_) rfl rfl rfl trivial trivial)
          rw [show newRr Ps = 9 from by unfold newRr; rw [if_neg (by omega), if_neg (fun h => h hV), hPs, if_pos ⟨u, by omega, hiff.1 hc63⟩]]
        · skip
          refine D_skip (hK23 _ ?_)
          clear hK23; try clear K23
          refine D_region ?_
          refine DL_c (op_mv _ (rfl : _ = AV.v (.int _ _))) ?_
          first
            | refine DL_c (op_add _ _ rfl rfl (i64w (by omega))) ?_
            | refine DL_c (op_add _ _ rfl rfl rfl) ?_
          refine DL_c (op_as _ (rfl : _ = AV.v (.int _ _))) ?_
          refine DL_nil ?_
          refine ⟨u + 1, ?_, ?_, ?_⟩
          · exact ⟨by omega, fun a ha hc => by
              by_cases h : a < u
              · exact hnc a h hc
              · have : a = u := by omega
                subst this; exact hc63 (hiff.2 hc)⟩
          · skip
            refine Le.mkJ [] [] rfl ?_ ?_ trivial trivial ?_
            · exact ⟨(iS rfl), (lvI (by first | rfl | omega | (simp; done) | (simp; omega) | assumption)), trivial⟩
            · exact trivial
            · kernel_rfl
          · omega
      · skip
        refine D_exit ?_
        refine id (hK19 _ ?_)
        clear hK19; try clear K19
        refine D_seq fun K26 hK26 => ?_
        refine D_region ?_
        refine DL_c (op_as _ (rfl : _ = AV.v (.int _ _))) ?_
        refine DL_nil (hK26 _ ?_)
        clear hK26; try clear K26
        refine D_ret ?_
        refine ret1 (.inr rfl) rfl (.tmp (rfl : _ = AV.v (.int _ _))) (Le.out [] [] (lvI ?_) rfl rfl rfl trivial trivial)
        rw [show newRr Ps = 0 from by unfold newRr; rw [if_neg (by omega), if_neg (fun h => h hV), hPs, if_neg (fun ⟨a, h1, h2⟩ => hnc a (by omega) h2)]]
end Go.Proofs.Ytkbkmngbenohkaa
