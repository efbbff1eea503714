/- Around, SameInts, Has by the machine. -/
import Derived.Test.YtkbkmngbenohkaaVoM6
import Derived.Test.YtkbkmngbenohkaaVoFacts2
import Derived.Test.YtkbkmngbenohkaaVoM5
set_option linter.unusedSimpArgs false
set_option linter.unusedVariables false
namespace Go.Proofs.Ytkbkmngbenohkaa
open Go.RowKit
def around (n m : Int) : Int := (if n < 0 then -(n + 1) else n) % m
theorem around_lo (n m : Int) (h : 0 < m) : 0 ≤ around n m := Int.emod_nonneg _ (by omega)
theorem around_hi (n m : Int) (h : 0 < m) : around n m < m := Int.emod_lt_of_pos _ h
theorem around_spec (n m : Int) (hm : 1 ≤ m) (h1 : m ≤ 4611686018427387904) (h2 : -9223372036854775808 ≤ n) (h3 : n ≤ 9223372036854775807) :
    Spec Try.prog 37 (inSt [.v (.int .i64 n), .v (.int .i64 m)] []) (outSt (.v (.int .i64 (around n m))) []) := by
  refine Spec.ofN Try.func37 rfl Try.ntmps37 rfl ?_
  refine D_seq fun K1 hK1 => ?_
  refine D_region ?_
  refine DL_c (op_as _ (rfl : _ = AV.v (.int _ _))) ?_
  refine DL_nil (hK1 _ ?_)
  clear hK1; try clear K1
  refine D_seq fun K2 hK2 => ?_
  refine D_seq fun K3 hK3 => ?_
  refine D_region ?_
  refine DL_c (op_mv _ (rfl : _ = AV.v (.int _ _))) ?_
  first
    | refine DL_c (op_lss _ _ rfl rfl (by assumption)) ?_
    | refine DL_c (op_lss _ _ rfl rfl rfl) ?_
  refine DL_nil (hK3 _ ?_)
  clear hK3; try clear K3
  refine D_splitC rfl (fun hc6 => ?_) (fun hc6 => ?_)
  · skip
    refine D_region ?_
    refine DL_c (op_mv _ (rfl : _ = AV.v (.int _ _))) ?_
    first
      | refine DL_c (op_add _ _ rfl rfl (i64w (by omega))) ?_
      | refine DL_c (op_add _ _ rfl rfl rfl) ?_
    first
      | refine DL_c (op_neg _ rfl (i64w (by omega))) ?_
      | refine DL_c (op_neg _ rfl rfl) ?_
    refine DL_c (op_as _ (rfl : _ = AV.v (.int _ _))) ?_
    refine DL_nil (hK2 _ ?_)
    clear hK2; try clear K2
    refine D_seq fun K4 hK4 => ?_
    refine D_region ?_
    refine DL_c (op_mv _ (rfl : _ = AV.v (.int _ _))) ?_
    refine DL_c (op_mv _ (rfl : _ = AV.v (.int _ _))) ?_
    first
      | refine DL_c (op_rem _ _ rfl rfl (by omega) (Int.tmod_eq_emod_of_nonneg (by omega))) ?_
      | refine DL_c (op_rem _ _ rfl rfl (by omega) rfl) ?_
    refine DL_c (op_as _ (rfl : _ = AV.v (.int _ _))) ?_
    refine DL_nil (hK4 _ ?_)
    clear hK4; try clear K4
    refine D_ret ?_
    refine ret1 (.inr rfl) rfl (.tmp (rfl : _ = AV.v (.int _ _))) (Le.out [] [] (lvI ?_) rfl rfl rfl trivial trivial)
    unfold around
    first | rw [if_pos hc6] | rw [if_neg (by omega)]
  · skip
    refine D_skip (hK2 _ ?_)
    clear hK2; try clear K2
    refine D_seq fun K5 hK5 => ?_
    refine D_region ?_
    refine DL_c (op_mv _ (rfl : _ = AV.v (.int _ _))) ?_
    refine DL_c (op_mv _ (rfl : _ = AV.v (.int _ _))) ?_
    first
      | refine DL_c (op_rem _ _ rfl rfl (by omega) (Int.tmod_eq_emod_of_nonneg (by omega))) ?_
      | refine DL_c (op_rem _ _ rfl rfl (by omega) rfl) ?_
    refine DL_c (op_as _ (rfl : _ = AV.v (.int _ _))) ?_
    refine DL_nil (hK5 _ ?_)
    clear hK5; try clear K5
    refine D_ret ?_
    refine ret1 (.inr rfl) rfl (.tmp (rfl : _ = AV.v (.int _ _))) (Le.out [] [] (lvI ?_) rfl rfl rfl trivial trivial)
    unfold around
    first | rw [if_pos hc6] | rw [if_neg (by omega)]

theorem same_spec (n m : Nat) (xs ys : List Int) (hn : xs.length = n) (hm : ys.length = m) (h1 : n ≤ 4611686018427387904) (h2 : m ≤ 4611686018427387904) :
    Spec Try.prog 40 (inSt [.sl n (isl xs), .sl m (isl ys)] []) (outSt (.v (.bool (decide (xs = ys)))) []) := by
  subst hn; subst hm
  refine Spec.ofN Try.func40 rfl Try.ntmps40 rfl ?_
  refine D_seq fun K1 hK1 => ?_
  refine D_region ?_
  refine DL_c (op_as _ (rfl : _ = AV.v (.bool _))) ?_
  refine DL_nil (hK1 _ ?_)
  clear hK1; try clear K1
  refine D_seq fun K2 hK2 => ?_
  refine D_seq fun K3 hK3 => ?_
  refine D_region ?_
  first
    | refine DL_c (op_mv _ (rfl : _ = AV.sl _ _)) ?_
    | refine DL_c (op_mv _ (rfl : _ = AV.ref _ _ _)) ?_
    | refine DL_c (op_mv _ (rfl : _ = AV.v (.slice _ _ _))) ?_
    | refine DL_c (op_mv _ (rfl : _ = AV.z)) ?_
  first
    | refine DL_c (op_lenS _ inferInstance rfl) ?_
    | refine DL_c (op_lenR _ inferInstance rfl rfl) ?_
    | refine DL_c (op_lenN _ inferInstance rfl) ?_
    | refine DL_c (op_lenB _ inferInstance rfl rfl) ?_
    | refine DL_c (op_lenZ _ inferInstance rfl) ?_
  first
    | refine DL_c (op_mv _ (rfl : _ = AV.sl _ _)) ?_
    | refine DL_c (op_mv _ (rfl : _ = AV.ref _ _ _)) ?_
    | refine DL_c (op_mv _ (rfl : _ = AV.v (.slice _ _ _))) ?_
    | refine DL_c (op_mv _ (rfl : _ = AV.z)) ?_
  first
    | refine DL_c (op_lenS _ inferInstance rfl) ?_
    | refine DL_c (op_lenR _ inferInstance rfl rfl) ?_
    | refine DL_c (op_lenN _ inferInstance rfl) ?_
    | refine DL_c (op_lenB _ inferInstance rfl rfl) ?_
    | refine DL_c (op_lenZ _ inferInstance rfl) ?_
  first
    | refine DL_c (op_neq _ _ rfl rfl (by assumption)) ?_
    | refine DL_c (op_neq _ _ rfl rfl rfl) ?_
  refine DL_nil (hK3 _ ?_)
  clear hK3; try clear K3
  refine D_splitC rfl (fun hc10 => ?_) (fun hc10 => ?_)
  · skip
    refine D_seq fun K4 hK4 => ?_
    refine D_region ?_
    refine DL_c (op_as _ (rfl : _ = AV.v (.bool _))) ?_
    refine DL_nil (hK4 _ ?_)
    clear hK4; try clear K4
    refine D_ret ?_
    refine ret1 (.inr rfl) rfl (.tmp (rfl : _ = AV.v (.bool _))) (Le.out [] [] (lvB ?_) rfl rfl rfl trivial trivial)
    exact decide_eq_false fun h => by subst h; omega
  · skip
    refine D_skip (hK2 _ ?_)
    clear hK2; try clear K2
    refine D_seq fun K5 hK5 => ?_
    refine D_seq fun K6 hK6 => ?_
    refine D_region ?_
    refine DL_c (op_as _ (rfl : _ = AV.v (.int _ _))) ?_
    refine DL_nil (hK6 _ ?_)
    clear hK6; try clear K6
    refine D_block ?_
    refine D_loopL (α := Nat) (fun k => k ≤ xs.length ∧ xs.length = ys.length ∧ xs.take k = ys.take k) 26 [(0, _), (1, _)] [] (fun k => [(5, .v (.int .i64 (k : Int)))]) (fun k => []) [] [] (fun k => xs.length - k) 0 ?_ (by
      refine Le.mkJ [] [] rfl ?_ ?_ trivial trivial ?_
      · exact ⟨(by first | exact iS rfl | exact iR rfl | exact iV rfl | exact iZ rfl | exact iD rfl), (by first | exact iS rfl | exact iR rfl | exact iV rfl | exact iZ rfl | exact iD rfl), (lvI (by first | rfl | omega | (simp; done) | (simp; omega) | assumption)), trivial⟩
      · exact trivial
      · kernel_rfl) ?_
    · exact ⟨by omega, by omega, rfl⟩
    intro k hk
    obtain ⟨hk, hl, ht⟩ := hk
    refine D_seq fun K7 hK7 => ?_
    refine D_seq fun K8 hK8 => ?_
    refine D_region ?_
    refine DL_c (op_mv _ (rfl : _ = AV.v (.int _ _))) ?_
    first
      | refine DL_c (op_mv _ (rfl : _ = AV.sl _ _)) ?_
      | refine DL_c (op_mv _ (rfl : _ = AV.ref _ _ _)) ?_
      | refine DL_c (op_mv _ (rfl : _ = AV.v (.slice _ _ _))) ?_
      | refine DL_c (op_mv _ (rfl : _ = AV.z)) ?_
    first
      | refine DL_c (op_lenS _ inferInstance rfl) ?_
      | refine DL_c (op_lenR _ inferInstance rfl rfl) ?_
      | refine DL_c (op_lenN _ inferInstance rfl) ?_
      | refine DL_c (op_lenB _ inferInstance rfl rfl) ?_
      | refine DL_c (op_lenZ _ inferInstance rfl) ?_
    first
      | refine DL_c (op_lss _ _ rfl rfl (by assumption)) ?_
      | refine DL_c (op_lss _ _ rfl rfl rfl) ?_
    refine DL_nil (hK8 _ ?_)
    clear hK8; try clear K8
    refine D_splitC rfl (fun hc14 => ?_) (fun hc14 => ?_)
    · skip
      have hkx : k < xs.length := by omega
      have hky : k < ys.length := by omega
      refine D_skip (hK7 _ ?_)
      clear hK7; try clear K7
      refine D_seq fun K9 hK9 => ?_
      refine D_block ?_
      refine D_seq fun K10 hK10 => ?_
      refine D_le (σ' := mkStI 26 [(0, _), (1, _), (5, _)] [] [] []) (by
        refine Le.mkJ [] [] rfl ?_ ?_ trivial trivial ?_
        · exact ⟨(by first | exact iS rfl | exact iR rfl | exact iV rfl | exact iZ rfl | exact iD rfl), (by first | exact iS rfl | exact iR rfl | exact iV rfl | exact iZ rfl | exact iD rfl), (iV rfl), trivial⟩
        · exact trivial
        · kernel_rfl) ?_
      refine D_anyL 9 [17, 18, 19, 20, 21, 22, 23, 24, 25] [] (by kernel_rfl) (by kernel_rfl) rfl (nodupO_iff rfl) (rfl : _ = [_, _, _, _, _, _, _, _, _]) (rfl : _ = []) ?_
      first
        | refine any_c (_, []) (fun τ => op_mv _ (rfl : _ = AV.sl _ _)) ?_
        | refine any_c (_, []) (fun τ => op_mv _ (rfl : _ = AV.ref _ _ _)) ?_
        | refine any_c (_, []) (fun τ => op_mv _ (rfl : _ = AV.v (.slice _ _ _))) ?_
        | refine any_c (_, []) (fun τ => op_mv _ (rfl : _ = AV.z)) ?_
      refine any_n (rfl : _ = [_]) ?_
      refine any_c (_, []) (fun τ => op_mv _ (rfl : _ = AV.v (.int _ _))) ?_
      refine any_n (rfl : _ = [_, _]) ?_
      first
        | refine any_c (_, []) (fun τ => op_ixS _ _ inferInstance rfl rfl _ rfl (by omega) (by first | assumption | decide | (simp only [isl_len, bsl_len, psl_len]; omega) | (simp; done) | (simp; omega) | (simp [isl, bsl]; omega)) (by first | exact Nat.mul_one _ | rfl | omega)) ?_
        | refine any_c (_, []) (fun τ => op_ixS _ _ inferInstance rfl rfl (Int.toNat _) (Int.toNat_of_nonneg (by omega)).symm (by omega) (by first | assumption | decide | (simp only [isl_len, bsl_len, psl_len]; omega) | (simp; done) | (simp; omega) | (simp [isl, bsl]; omega)) (by first | exact Nat.mul_one _ | rfl | omega)) ?_
        | refine any_c (_, []) (fun τ => op_ixR _ _ inferInstance rfl rfl rfl _ rfl (by omega) (by first | exact (Nat.zero_add _).trans (Nat.mul_one _) | exact Nat.zero_add _ | rfl | omega)) ?_
        | refine any_c (_, []) (fun τ => op_ixR _ _ inferInstance rfl rfl rfl (Int.toNat _) (Int.toNat_of_nonneg (by omega)).symm (by omega) (by first | exact (Nat.zero_add _).trans (Nat.mul_one _) | exact Nat.zero_add _ | rfl | omega)) ?_
        | refine any_c (_, []) (fun τ => op_ixB _ _ inferInstance rfl rfl rfl _ rfl (by omega) (by first | exact (Nat.zero_add _).trans (Nat.mul_one _) | exact Nat.zero_add _ | rfl | omega)) ?_
        | refine any_c (_, []) (fun τ => op_ixB _ _ inferInstance rfl rfl rfl (Int.toNat _) (Int.toNat_of_nonneg (by omega)).symm (by omega) (by first | exact (Nat.zero_add _).trans (Nat.mul_one _) | exact Nat.zero_add _ | rfl | omega)) ?_
      refine any_n (rfl : _ = [_, _, _]) ?_
      first
        | refine any_c (_, []) (fun τ => op_ldB _ inferInstance rfl rfl (rfl : _ = some (AV.v (.int _ _)))) ?_
        | refine any_c (_, []) (fun τ => op_ldR _ inferInstance rfl rfl (by first | rfl | exact isl_get _ _ (by omega) | exact bsl_get _ _ (by omega) | assumption) rfl) ?_
        | refine any_c (_, []) (fun τ => op_ldF _ inferInstance rfl (by first | rfl | exact isl_get _ _ (by omega) | exact bsl_get _ _ (by omega) | assumption) rfl) ?_
      refine any_n (rfl : _ = [_, _, _, _]) ?_
      first
        | refine any_c (_, []) (fun τ => op_mv _ (rfl : _ = AV.sl _ _)) ?_
        | refine any_c (_, []) (fun τ => op_mv _ (rfl : _ = AV.ref _ _ _)) ?_
        | refine any_c (_, []) (fun τ => op_mv _ (rfl : _ = AV.v (.slice _ _ _))) ?_
        | refine any_c (_, []) (fun τ => op_mv _ (rfl : _ = AV.z)) ?_
      refine any_n (rfl : _ = [_, _, _, _, _]) ?_
      refine any_c (_, []) (fun τ => op_mv _ (rfl : _ = AV.v (.int _ _))) ?_
      refine any_n (rfl : _ = [_, _, _, _, _, _]) ?_
      first
        | refine any_c (_, []) (fun τ => op_ixS _ _ inferInstance rfl rfl _ rfl (by omega) (by first | assumption | decide | (simp only [isl_len, bsl_len, psl_len]; omega) | (simp; done) | (simp; omega) | (simp [isl, bsl]; omega)) (by first | exact Nat.mul_one _ | rfl | omega)) ?_
        | refine any_c (_, []) (fun τ => op_ixS _ _ inferInstance rfl rfl (Int.toNat _) (Int.toNat_of_nonneg (by omega)).symm (by omega) (by first | assumption | decide | (simp only [isl_len, bsl_len, psl_len]; omega) | (simp; done) | (simp; omega) | (simp [isl, bsl]; omega)) (by first | exact Nat.mul_one _ | rfl | omega)) ?_
        | refine any_c (_, []) (fun τ => op_ixR _ _ inferInstance rfl rfl rfl _ rfl (by omega) (by first | exact (Nat.zero_add _).trans (Nat.mul_one _) | exact Nat.zero_add _ | rfl | omega)) ?_
        | refine any_c (_, []) (fun τ => op_ixR _ _ inferInstance rfl rfl rfl (Int.toNat _) (Int.toNat_of_nonneg (by omega)).symm (by omega) (by first | exact (Nat.zero_add _).trans (Nat.mul_one _) | exact Nat.zero_add _ | rfl | omega)) ?_
        | refine any_c (_, []) (fun τ => op_ixB _ _ inferInstance rfl rfl rfl _ rfl (by omega) (by first | exact (Nat.zero_add _).trans (Nat.mul_one _) | exact Nat.zero_add _ | rfl | omega)) ?_
        | refine any_c (_, []) (fun τ => op_ixB _ _ inferInstance rfl rfl rfl (Int.toNat _) (Int.toNat_of_nonneg (by omega)).symm (by omega) (by first | exact (Nat.zero_add _).trans (Nat.mul_one _) | exact Nat.zero_add _ | rfl | omega)) ?_
      refine any_n (rfl : _ = [_, _, _, _, _, _, _]) ?_
      first
        | refine any_c (_, []) (fun τ => op_ldB _ inferInstance rfl rfl (rfl : _ = some (AV.v (.int _ _)))) ?_
        | refine any_c (_, []) (fun τ => op_ldR _ inferInstance rfl rfl (by first | rfl | exact isl_get _ _ (by omega) | exact bsl_get _ _ (by omega) | assumption) rfl) ?_
        | refine any_c (_, []) (fun τ => op_ldF _ inferInstance rfl (by first | rfl | exact isl_get _ _ (by omega) | exact bsl_get _ _ (by omega) | assumption) rfl) ?_
      refine any_n (rfl : _ = [_, _, _, _, _, _, _, _]) ?_
      first
        | refine any_c (_, []) (fun τ => op_neq _ _ rfl rfl (by assumption)) ?_
        | refine any_c (_, []) (fun τ => op_neq _ _ rfl rfl rfl) ?_
      refine any_n (rfl : _ = [_, _, _, _, _, _, _, _, _]) ?_
      refine any_end ⟨rfl, ?_⟩
      refine DL_nil (hK10 _ ?_)
      clear hK10; try clear K10
      refine D_splitC rfl (fun hc25 => ?_) (fun hc25 => ?_)
      · skip
        refine D_seq fun K11 hK11 => ?_
        refine D_region ?_
        refine DL_c (op_as _ (rfl : _ = AV.v (.bool _))) ?_
        refine DL_nil (hK11 _ ?_)
        clear hK11; try clear K11
        refine D_ret ?_
        refine ret1 (.inr rfl) rfl (.tmp (rfl : _ = AV.v (.bool _))) (Le.out [] [] (lvB ?_) rfl rfl rfl trivial trivial)
        exact decide_eq_false fun h => by subst h; exact hc25 rfl
      · skip
        refine D_skip (hK9 _ ?_)
        clear hK9; try clear K9
        refine D_region ?_
        refine DL_c (op_mv _ (rfl : _ = AV.v (.int _ _))) ?_
        first
          | refine DL_c (op_add _ _ rfl rfl (i64w (by omega))) ?_
          | refine DL_c (op_add _ _ rfl rfl rfl) ?_
        refine DL_c (op_as _ (rfl : _ = AV.v (.int _ _))) ?_
        refine DL_nil ?_
        refine ⟨k + 1, ?_, ?_, ?_⟩
        · refine ⟨by omega, hl, ?_⟩
          rw [getD_at _ _ _ hkx, getD_at _ _ _ hky] at hc25
          rw [List.take_succ_eq_append_getElem hkx, List.take_succ_eq_append_getElem hky, ht, hc25]
        · skip
          refine Le.mkJ [] [] rfl ?_ ?_ trivial trivial ?_
          · exact ⟨(by first | exact iS rfl | exact iR rfl | exact iV rfl | exact iZ rfl | exact iD rfl), (by first | exact iS rfl | exact iR rfl | exact iV rfl | exact iZ rfl | exact iD rfl), (lvI (by first | rfl | omega | (simp; done) | (simp; omega) | assumption)), trivial⟩
          · exact trivial
          · kernel_rfl
        · omega
    · skip
      refine D_exit ?_
      refine id (hK5 _ ?_)
      clear hK5; try clear K5
      refine D_seq fun K12 hK12 => ?_
      refine D_region ?_
      refine DL_c (op_as _ (rfl : _ = AV.v (.bool _))) ?_
      refine DL_nil (hK12 _ ?_)
      clear hK12; try clear K12
      refine D_ret ?_
      refine ret1 (.inr rfl) rfl (.tmp (rfl : _ = AV.v (.bool _))) (Le.out [] [] (lvB ?_) rfl rfl rfl trivial trivial)
      rw [List.take_of_length_le (by omega), List.take_of_length_le (by omega)] at ht
      exact decide_eq_true ht
end Go.Proofs.Ytkbkmngbenohkaa
