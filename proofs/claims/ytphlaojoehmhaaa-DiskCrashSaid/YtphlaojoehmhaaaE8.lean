/- The disk's functions by the machine: the reference's Crash, Resize; Same. -/
import Derived.Test.YtphlaojoehmhaaaE7
set_option linter.unusedSimpArgs false
set_option linter.unusedVariables false
namespace Go.Proofs.Ytphlaojoehmhaaa
open Go.RowKit

theorem kept_len (ps : List (Int × Int)) (bs : List Bool) : (kept ps bs).length ≤ ps.length := by
  induction ps generalizing bs with
  | nil => simp [kept]
  | cons q ps ih =>
    cases bs with
    | nil => simp [kept]
    | cons b bs =>
      have := ih bs
      cases b
      · simp [kept]; omega
      · simpa [kept] using this
theorem Ok.kept {n : Nat} {ps : List (Int × Int)} (h : Ok n ps) (bs : List Bool) : Ok n (kept ps bs) := fun p hp => h p (kept_sub ps bs p hp)

theorem rcrash_spec (n m q : Nat) (cs : List Int) (ps : List (Int × Int)) (bs : List Bool) (hn : cs.length = n) (hm : ps.length = m) (hq : bs.length = q) (h1 : n ≤ 1000000) (h2 : m ≤ 1000000) (h3 : q ≤ 9223372036854775807) (hok : Ok n ps) :
    Spec Try.prog 30 (inSt [.agg [.sl n (isl cs), .sl m (wsl ps)], .sl q (bsl bs)] []) (outSt (.agg [.sl n (isl (app cs (kept ps bs))), .sl 0 []]) []) := by
  refine Spec.ofNI Try.func30 rfl Try.ntmps30 rfl ?_
  refine D_seq fun K1 hK1 => ?_
  refine D_region ?_
  refine DL_c (op_box (2, 0) _ rfl rfl) ?_
  refine DL_c (op_alloc (4, 0) inferInstance rfl rfl) ?_
  refine DL_nil (hK1 _ ?_)
  clear hK1; try clear K1
  refine D_seq fun K2 hK2 => ?_
  refine D_region ?_
  first
    | refine DL_c (op_asN (5, 0) _ 46 2 rfl rfl) ?_
    | refine DL_c (op_as _ (rfl : _ = AV.ref _ _ _)) ?_
  refine DL_nil (hK2 _ ?_)
  clear hK2; try clear K2
  refine D_seq fun K3 hK3 => ?_
  refine D_seq fun K4 hK4 => ?_
  refine D_region ?_
  refine DL_c (op_as _ (rfl : _ = AV.v (.int _ _))) ?_
  refine DL_nil (hK4 _ ?_)
  clear hK4; try clear K4
  refine D_block ?_
  refine D_loopP (fun k : Nat => k ≤ m) (fun k => mkStI 37 [(1, .sl q (bsl bs)), (2, .ptr (2, 0) 0), (4, .ptr (4, 0) 0), (5, .ref (5, 0) 0 (kept (ps.take k) bs).length), (6, .v (.int .i64 (k : Int)))] [((2, 0), .box 26 [.sl n (isl cs), .sl m (wsl ps)]), ((4, 0), .box 26 [.v (.slice none 0 0), .v (.slice none 0 0)]), ((5, 0), .row 46 2 (wsl (kept (ps.take k) bs)))] [] []) (fun k => m - k) 0 ?_ ?_ ?_
  · omega
  · exact Le.mkI [] [] rfl ⟨.sl, .ptr, .ptr, .ref, .v, trivial⟩ rfl rfl rfl trivial ⟨⟨rfl, ⟨_, rfl, .box rfl (lv_cons .sl (lv_cons .sl lv_nil))⟩, rfl⟩, ⟨rfl, ⟨_, rfl, .box rfl (lv_cons .v (lv_cons .v lv_nil))⟩, rfl⟩, ⟨rfl, ⟨_, rfl, .rowE rfl⟩, rfl⟩, trivial⟩ trivial rfl
  · rintro k hk
    have hkl := kept_len (ps.take k) bs
    have hkl' : (ps.take k).length ≤ 1000000 := by rw [List.length_take]; omega
    refine D_seq fun K5 hK5 => ?_
    refine D_seq fun K6 hK6 => ?_
    by_cases hx3 : (k : Int) < (m : Int)
    · have hb_3 : decide ((k : Int) < (m : Int)) = true := decide_eq_true hx3
      refine D_region ?_
      refine DL_c (op_mv _ (rfl : _ = AV.v (.int _ _))) ?_
      first
        | refine DL_c (op_fldP _ inferInstance rfl rfl rfl) ?_
        | refine DL_c (op_fldF _ inferInstance rfl rfl) ?_
      first
        | refine DL_c (op_ldB _ inferInstance rfl rfl (rfl : _ = some (AV.sl _ _))) ?_
        | refine DL_c (op_ldB _ inferInstance rfl rfl (rfl : _ = some (AV.ref _ _ _))) ?_
        | refine DL_c (op_ldB _ inferInstance rfl rfl (rfl : _ = some (AV.v (.slice _ _ _)))) ?_
        | refine DL_c (op_ldR _ inferInstance rfl rfl (by first | rfl | exact isl_get _ _ (by omega) | exact bsl_get _ _ (by omega) | exact wsl_get0 _ _ (by omega) | exact wsl_get1 _ _ (by omega) | assumption) rfl) ?_
        | refine DL_c (op_ldF _ inferInstance rfl (by first | rfl | exact isl_get _ _ (by omega) | exact bsl_get _ _ (by omega) | exact wsl_get0 _ _ (by omega) | exact wsl_get1 _ _ (by omega) | assumption) rfl) ?_
      first
        | refine DL_c (op_lenS _ inferInstance rfl) ?_
        | refine DL_c (op_lenR _ inferInstance rfl rfl) ?_
        | refine DL_c (op_lenN _ inferInstance rfl) ?_
      refine DL_c (op_lss _ _ rfl rfl hb_3) ?_
      refine DL_c (op_mv _ (rfl : _ = AV.v (.bool _))) ?_
      refine DL_cy rfl rfl (op_mv _ (rfl : _ = AV.v (.int _ _))) ?_
      first
        | refine DL_cy rfl rfl (op_mv _ (rfl : _ = AV.sl _ _)) ?_
        | refine DL_cy rfl rfl (op_mv _ (rfl : _ = AV.ref _ _ _)) ?_
        | refine DL_cy rfl rfl (op_mv _ (rfl : _ = AV.v (.slice _ _ _))) ?_
      first
        | refine DL_cy rfl rfl (op_lenS _ inferInstance rfl) ?_
        | refine DL_cy rfl rfl (op_lenR _ inferInstance rfl rfl) ?_
        | refine DL_cy rfl rfl (op_lenN _ inferInstance rfl) ?_
      refine DL_cy rfl rfl (op_lss _ _ rfl rfl rfl) ?_
      refine DL_c (op_pick _ _ _ rfl (rfl : _ = AV.v (.bool _))) ?_
      refine DL_nil (hK6 _ ?_)
      clear hK6; try clear K6
      refine D_split rfl (fun hc17 => ?_) (fun hc17 => ?_)
      · try simp only [decide_eq_true_eq, decide_eq_false_iff_not, bne_iff_ne, bne_eq_false_iff_eq, beq_iff_eq, beq_eq_false_iff_ne, Bool.not_eq_true', Bool.not_eq_false', ne_eq, Int.not_lt, Int.not_le] at hc17
        refine D_skip (hK5 _ ?_)
        clear hK5; try clear K5
        refine D_seq fun K7 hK7 => ?_
        refine D_block ?_
        refine D_seq fun K8 hK8 => ?_
        refine D_region ?_
        first
          | refine DL_c (op_mv _ (rfl : _ = AV.sl _ _)) ?_
          | refine DL_c (op_mv _ (rfl : _ = AV.ref _ _ _)) ?_
          | refine DL_c (op_mv _ (rfl : _ = AV.v (.slice _ _ _))) ?_
        refine DL_c (op_mv _ (rfl : _ = AV.v (.int _ _))) ?_
        first
          | refine DL_c (op_ixS _ _ inferInstance rfl rfl _ rfl (by omega) (by first | assumption | decide | (simp [isl]; omega)) (by first | exact Nat.mul_one _ | rfl)) ?_
          | refine DL_c (op_ixS _ _ inferInstance rfl rfl 0 rfl (by omega) (by first | assumption | decide | (simp [isl]; omega)) (by first | exact Nat.mul_one _ | rfl)) ?_
          | refine DL_c (op_ixS _ _ inferInstance rfl rfl 1 rfl (by omega) (by first | assumption | decide | (simp [isl]; omega)) (by first | exact Nat.mul_one _ | rfl)) ?_
          | refine DL_c (op_ixS _ _ inferInstance rfl rfl (Int.toNat _) (Int.toNat_of_nonneg (by omega)).symm (by omega) (by first | assumption | decide | (simp [isl]; omega)) (by first | exact Nat.mul_one _ | rfl)) ?_
          | refine DL_c (op_ixR _ _ inferInstance rfl rfl rfl _ rfl (by omega) (by first | exact Nat.mul_one _ | rfl)) ?_
          | refine DL_c (op_ixR _ _ inferInstance rfl rfl rfl 0 rfl (by omega) (by first | exact Nat.mul_one _ | rfl)) ?_
          | refine DL_c (op_ixR _ _ inferInstance rfl rfl rfl 1 rfl (by omega) (by first | exact Nat.mul_one _ | rfl)) ?_
          | refine DL_c (op_ixR _ _ inferInstance rfl rfl rfl (Int.toNat _) (Int.toNat_of_nonneg (by omega)).symm (by omega) (by first | exact Nat.mul_one _ | rfl)) ?_
        first
          | refine DL_c (op_ldB _ inferInstance rfl rfl (rfl : _ = some (AV.v (.bool _)))) ?_
          | refine DL_c (op_ldR _ inferInstance rfl rfl (by first | rfl | exact isl_get _ _ (by omega) | exact bsl_get _ _ (by omega) | exact wsl_get0 _ _ (by omega) | exact wsl_get1 _ _ (by omega) | assumption) rfl) ?_
          | refine DL_c (op_ldF _ inferInstance rfl (by first | rfl | exact isl_get _ _ (by omega) | exact bsl_get _ _ (by omega) | exact wsl_get0 _ _ (by omega) | exact wsl_get1 _ _ (by omega) | assumption) rfl) ?_
        refine DL_nil (hK8 _ ?_)
        clear hK8; try clear K8
        refine D_split rfl (fun hc23 => ?_) (fun hc23 => ?_)
        · try simp only [decide_eq_true_eq, decide_eq_false_iff_not, bne_iff_ne, bne_eq_false_iff_eq, beq_iff_eq, beq_eq_false_iff_ne, Bool.not_eq_true', Bool.not_eq_false', ne_eq, Int.not_lt, Int.not_le] at hc23
          refine D_region ?_
          first
            | refine DL_c (op_mv _ (rfl : _ = AV.sl _ _)) ?_
            | refine DL_c (op_mv _ (rfl : _ = AV.ref _ _ _)) ?_
            | refine DL_c (op_mv _ (rfl : _ = AV.v (.slice _ _ _))) ?_
          first
            | refine DL_c (op_fldP _ inferInstance rfl rfl rfl) ?_
            | refine DL_c (op_fldF _ inferInstance rfl rfl) ?_
          first
            | refine DL_c (op_ldB _ inferInstance rfl rfl (rfl : _ = some (AV.sl _ _))) ?_
            | refine DL_c (op_ldB _ inferInstance rfl rfl (rfl : _ = some (AV.ref _ _ _))) ?_
            | refine DL_c (op_ldB _ inferInstance rfl rfl (rfl : _ = some (AV.v (.slice _ _ _)))) ?_
            | refine DL_c (op_ldR _ inferInstance rfl rfl (by first | rfl | exact isl_get _ _ (by omega) | exact bsl_get _ _ (by omega) | exact wsl_get0 _ _ (by omega) | exact wsl_get1 _ _ (by omega) | assumption) rfl) ?_
            | refine DL_c (op_ldF _ inferInstance rfl (by first | rfl | exact isl_get _ _ (by omega) | exact bsl_get _ _ (by omega) | exact wsl_get0 _ _ (by omega) | exact wsl_get1 _ _ (by omega) | assumption) rfl) ?_
          refine DL_c (op_mv _ (rfl : _ = AV.v (.int _ _))) ?_
          first
            | refine DL_c (op_ixS _ _ inferInstance rfl rfl _ rfl (by omega) (by first | assumption | decide | (simp [isl]; omega)) (by first | exact Nat.mul_one _ | rfl)) ?_
            | refine DL_c (op_ixS _ _ inferInstance rfl rfl 0 rfl (by omega) (by first | assumption | decide | (simp [isl]; omega)) (by first | exact Nat.mul_one _ | rfl)) ?_
            | refine DL_c (op_ixS _ _ inferInstance rfl rfl 1 rfl (by omega) (by first | assumption | decide | (simp [isl]; omega)) (by first | exact Nat.mul_one _ | rfl)) ?_
            | refine DL_c (op_ixS _ _ inferInstance rfl rfl (Int.toNat _) (Int.toNat_of_nonneg (by omega)).symm (by omega) (by first | assumption | decide | (simp [isl]; omega)) (by first | exact Nat.mul_one _ | rfl)) ?_
            | refine DL_c (op_ixR _ _ inferInstance rfl rfl rfl _ rfl (by omega) (by first | exact Nat.mul_one _ | rfl)) ?_
            | refine DL_c (op_ixR _ _ inferInstance rfl rfl rfl 0 rfl (by omega) (by first | exact Nat.mul_one _ | rfl)) ?_
            | refine DL_c (op_ixR _ _ inferInstance rfl rfl rfl 1 rfl (by omega) (by first | exact Nat.mul_one _ | rfl)) ?_
            | refine DL_c (op_ixR _ _ inferInstance rfl rfl rfl (Int.toNat _) (Int.toNat_of_nonneg (by omega)).symm (by omega) (by first | exact Nat.mul_one _ | rfl)) ?_
          refine DL_c (op_ldFA _ inferInstance rfl (by exact wsl_at _ _ (by omega)) rfl) ?_
          first
            | refine DL_c (op_bsF _ _ inferInstance rfl (by rfl) (by simp <;> rfl) (by decide) rfl) ?_
            | refine DL_c (op_bs (30, 0) _ _ inferInstance rfl (by rfl) (by simp <;> rfl) (by decide) rfl rfl) ?_
          refine DL_c (op_ap (31, 0) _ _ inferInstance rfl rfl (by simp) (.sl (m := 1) rfl) (by omega) rfl (wsl_append _ [ps.getD k (0, 0)]) rfl) ?_
          first
            | refine DL_c (op_asN (5, 0) _ 46 2 rfl rfl) ?_
            | refine DL_c (op_as _ (rfl : _ = AV.ref _ _ _)) ?_
          refine DL_nil (hK7 _ ?_)
          clear hK7; try clear K7
          refine D_region ?_
          refine DL_c (op_mv _ (rfl : _ = AV.v (.int _ _))) ?_
          first
            | refine DL_c (op_add _ _ rfl rfl (i64w (by omega))) ?_
            | refine DL_c (op_add _ _ rfl rfl rfl) ?_
          refine DL_c (op_as _ (rfl : _ = AV.v (.int _ _))) ?_
          refine DL_nil ?_
          refine ⟨k + 1, by omega, Le.mkI [((5, 0), (31, 0))] [] rfl ⟨.sl, .ptr, .ptr, lvR ?_, lvI (by omega), trivial⟩ rfl rfl rfl trivial ⟨⟨rfl, ⟨_, rfl, .box rfl (lv_cons .sl (lv_cons .sl lv_nil))⟩, rfl⟩, ⟨rfl, ⟨_, rfl, .box rfl (lv_cons .v (lv_cons .v lv_nil))⟩, rfl⟩, ⟨rfl, ⟨_, rfl, .rowE ?_⟩, rfl⟩, trivial⟩ trivial rfl, by omega⟩
          · rw [kept_yes ps bs k (by omega) (by omega) hc23, List.length_append]; rfl
          · rw [kept_yes ps bs k (by omega) (by omega) hc23]
        · try simp only [decide_eq_true_eq, decide_eq_false_iff_not, bne_iff_ne, bne_eq_false_iff_eq, beq_iff_eq, beq_eq_false_iff_ne, Bool.not_eq_true', Bool.not_eq_false', ne_eq, Int.not_lt, Int.not_le] at hc23
          refine D_skip (hK7 _ ?_)
          clear hK7; try clear K7
          refine D_region ?_
          refine DL_c (op_mv _ (rfl : _ = AV.v (.int _ _))) ?_
          first
            | refine DL_c (op_add _ _ rfl rfl (i64w (by omega))) ?_
            | refine DL_c (op_add _ _ rfl rfl rfl) ?_
          refine DL_c (op_as _ (rfl : _ = AV.v (.int _ _))) ?_
          refine DL_nil ?_
          refine ⟨k + 1, by omega, Le.mkI [] [] rfl ⟨.sl, .ptr, .ptr, lvR ?_, lvI (by omega), trivial⟩ rfl rfl rfl trivial ⟨⟨rfl, ⟨_, rfl, .box rfl (lv_cons .sl (lv_cons .sl lv_nil))⟩, rfl⟩, ⟨rfl, ⟨_, rfl, .box rfl (lv_cons .v (lv_cons .v lv_nil))⟩, rfl⟩, ⟨rfl, ⟨_, rfl, .rowE ?_⟩, rfl⟩, trivial⟩ trivial rfl, by omega⟩
          · rw [kept_no ps bs k (by omega) (fun _ => hc23)]
          · rw [kept_no ps bs k (by omega) (fun _ => hc23)]
      · try simp only [decide_eq_true_eq, decide_eq_false_iff_not, bne_iff_ne, bne_eq_false_iff_eq, beq_iff_eq, beq_eq_false_iff_ne, Bool.not_eq_true', Bool.not_eq_false', ne_eq, Int.not_lt, Int.not_le] at hc17
        have hend : kept (ps.take k) bs = kept ps bs := kept_end ps bs k (by omega)
        refine D_exit ?_
        refine id (hK3 _ ?_)
        clear hK3; try clear K3
        refine D_seq fun K9 hK9 => ?_
        refine D_le (Le.frzS 5 (ys := wsl (kept (ps.take k) bs)) rfl rfl rfl (by exact List.take_of_length_le (by simp)) (by simp)) ?_
        refine D_region ?_
        first
          | refine DL_c (op_fldP _ inferInstance rfl rfl rfl) ?_
          | refine DL_c (op_fldF _ inferInstance rfl rfl) ?_
        first
          | refine DL_c (op_ldB _ inferInstance rfl rfl (rfl : _ = some (AV.sl _ _))) ?_
          | refine DL_c (op_ldB _ inferInstance rfl rfl (rfl : _ = some (AV.ref _ _ _))) ?_
          | refine DL_c (op_ldB _ inferInstance rfl rfl (rfl : _ = some (AV.v (.slice _ _ _)))) ?_
          | refine DL_c (op_ldR _ inferInstance rfl rfl (by first | rfl | exact isl_get _ _ (by omega) | exact bsl_get _ _ (by omega) | exact wsl_get0 _ _ (by omega) | exact wsl_get1 _ _ (by omega) | assumption) rfl) ?_
          | refine DL_c (op_ldF _ inferInstance rfl (by first | rfl | exact isl_get _ _ (by omega) | exact bsl_get _ _ (by omega) | exact wsl_get0 _ _ (by omega) | exact wsl_get1 _ _ (by omega) | assumption) rfl) ?_
        first
          | refine DL_c (op_mv _ (rfl : _ = AV.sl _ _)) ?_
          | refine DL_c (op_mv _ (rfl : _ = AV.ref _ _ _)) ?_
          | refine DL_c (op_mv _ (rfl : _ = AV.v (.slice _ _ _))) ?_
        refine DL_c (op_callH inferInstance (by repeat' (first | exact argsLv_nil | refine argsLv_cons ?_ ?_ | exact Lv.v | exact Lv.sl | exact Lv.fp | exact Lv.nil | refine Lv.agg rfl ?_ | exact lv_nil | refine lv_cons ?_ ?_)) (after_spec n (kept (ps.take k) bs).length cs (kept (ps.take k) bs) hn rfl h1 (by omega) (fun p hp => hok p (List.mem_of_mem_take (kept_sub _ _ p hp)))) rfl rfl) ?_
        refine DL_c (op_build _ inferInstance rfl (by exact (rfl : _ = some [_, _]))) ?_
        first
          | refine DL_c (op_stB _ _ inferInstance rfl rfl rfl rfl (Nat.le_of_ble_eq_true rfl) rfl) ?_
          | refine DL_c (op_stR _ _ inferInstance rfl rfl rfl rfl rfl (by first | exact Nat.le_of_ble_eq_true rfl | (simp; omega)) rfl) ?_
        refine DL_nil (hK9 _ ?_)
        clear hK9; try clear K9
        refine D_ret ?_
        refine ret1 (.inr rfl) rfl (.cellA inferInstance rfl rfl rfl) ?_
        refine Le.out [] [] (.agg rfl (lv_cons (lvS rfl ?_) (lv_cons .nil lv_nil))) rfl rfl rfl trivial trivial
        first
         | rw [List.take_of_length_le (by omega)]
         | rw [kept_end ps bs k (by omega)]
    · have hb_3 : decide ((k : Int) < (m : Int)) = false := decide_eq_false hx3
      refine D_region ?_
      refine DL_c (op_mv _ (rfl : _ = AV.v (.int _ _))) ?_
      first
        | refine DL_c (op_fldP _ inferInstance rfl rfl rfl) ?_
        | refine DL_c (op_fldF _ inferInstance rfl rfl) ?_
      first
        | refine DL_c (op_ldB _ inferInstance rfl rfl (rfl : _ = some (AV.sl _ _))) ?_
        | refine DL_c (op_ldB _ inferInstance rfl rfl (rfl : _ = some (AV.ref _ _ _))) ?_
        | refine DL_c (op_ldB _ inferInstance rfl rfl (rfl : _ = some (AV.v (.slice _ _ _)))) ?_
        | refine DL_c (op_ldR _ inferInstance rfl rfl (by first | rfl | exact isl_get _ _ (by omega) | exact bsl_get _ _ (by omega) | exact wsl_get0 _ _ (by omega) | exact wsl_get1 _ _ (by omega) | assumption) rfl) ?_
        | refine DL_c (op_ldF _ inferInstance rfl (by first | rfl | exact isl_get _ _ (by omega) | exact bsl_get _ _ (by omega) | exact wsl_get0 _ _ (by omega) | exact wsl_get1 _ _ (by omega) | assumption) rfl) ?_
      first
        | refine DL_c (op_lenS _ inferInstance rfl) ?_
        | refine DL_c (op_lenR _ inferInstance rfl rfl) ?_
        | refine DL_c (op_lenN _ inferInstance rfl) ?_
      refine DL_c (op_lss _ _ rfl rfl hb_3) ?_
      refine DL_c (op_mv _ (rfl : _ = AV.v (.bool _))) ?_
      refine DL_cn rfl rfl (by decide) ?_
      refine DL_cn rfl rfl (by decide) ?_
      refine DL_cn rfl rfl (by decide) ?_
      refine DL_cn rfl rfl (by decide) ?_
      refine DL_c (op_pick _ _ _ rfl (rfl : _ = AV.v (.bool _))) ?_
      refine DL_nil (hK6 _ ?_)
      clear hK6; try clear K6
      refine D_cF rfl rfl ?_
      refine D_exit ?_
      refine id (hK3 _ ?_)
      clear hK3; try clear K3
      refine D_seq fun K10 hK10 => ?_
      refine D_le (Le.frzS 5 (ys := wsl (kept (ps.take k) bs)) rfl rfl rfl (by exact List.take_of_length_le (by simp)) (by simp)) ?_
      refine D_region ?_
      first
        | refine DL_c (op_fldP _ inferInstance rfl rfl rfl) ?_
        | refine DL_c (op_fldF _ inferInstance rfl rfl) ?_
      first
        | refine DL_c (op_ldB _ inferInstance rfl rfl (rfl : _ = some (AV.sl _ _))) ?_
        | refine DL_c (op_ldB _ inferInstance rfl rfl (rfl : _ = some (AV.ref _ _ _))) ?_
        | refine DL_c (op_ldB _ inferInstance rfl rfl (rfl : _ = some (AV.v (.slice _ _ _)))) ?_
        | refine DL_c (op_ldR _ inferInstance rfl rfl (by first | rfl | exact isl_get _ _ (by omega) | exact bsl_get _ _ (by omega) | exact wsl_get0 _ _ (by omega) | exact wsl_get1 _ _ (by omega) | assumption) rfl) ?_
        | refine DL_c (op_ldF _ inferInstance rfl (by first | rfl | exact isl_get _ _ (by omega) | exact bsl_get _ _ (by omega) | exact wsl_get0 _ _ (by omega) | exact wsl_get1 _ _ (by omega) | assumption) rfl) ?_
      first
        | refine DL_c (op_mv _ (rfl : _ = AV.sl _ _)) ?_
        | refine DL_c (op_mv _ (rfl : _ = AV.ref _ _ _)) ?_
        | refine DL_c (op_mv _ (rfl : _ = AV.v (.slice _ _ _))) ?_
      refine DL_c (op_callH inferInstance (by repeat' (first | exact argsLv_nil | refine argsLv_cons ?_ ?_ | exact Lv.v | exact Lv.sl | exact Lv.fp | exact Lv.nil | refine Lv.agg rfl ?_ | exact lv_nil | refine lv_cons ?_ ?_)) (after_spec n (kept (ps.take k) bs).length cs (kept (ps.take k) bs) hn rfl h1 (by omega) (fun p hp => hok p (List.mem_of_mem_take (kept_sub _ _ p hp)))) rfl rfl) ?_
      refine DL_c (op_build _ inferInstance rfl (by exact (rfl : _ = some [_, _]))) ?_
      first
        | refine DL_c (op_stB _ _ inferInstance rfl rfl rfl rfl (Nat.le_of_ble_eq_true rfl) rfl) ?_
        | refine DL_c (op_stR _ _ inferInstance rfl rfl rfl rfl rfl (by first | exact Nat.le_of_ble_eq_true rfl | (simp; omega)) rfl) ?_
      refine DL_nil (hK10 _ ?_)
      clear hK10; try clear K10
      refine D_ret ?_
      refine ret1 (.inr rfl) rfl (.cellA inferInstance rfl rfl rfl) ?_
      refine Le.out [] [] (.agg rfl (lv_cons (lvS rfl ?_) (lv_cons .nil lv_nil))) rfl rfl rfl trivial trivial
      first
       | rw [List.take_of_length_le (by omega)]
       | rw [kept_end ps bs k (by omega)]

theorem fit_app (a : List Int) (k j : Nat) (h1 : k ≤ a.length + j) (h2 : j ≤ k - a.length) : (a ++ List.replicate j 0).take k = fit a k := by
  rw [fit, List.take_append]
  congr 1
  rw [List.take_replicate, show min (k - a.length) j = k - a.length by omega]
theorem rresize_spec (n m k : Nat) (cs : List Int) (ps : List (Int × Int)) (hn : cs.length = n) (hm : ps.length = m) (h1 : n ≤ 1000000) (h2 : m ≤ 1000000) (h3 : k ≤ 1000000) (hok : Ok n ps) :
    Spec Try.prog 31 (inSt [.agg [.sl n (isl cs), .sl m (wsl ps)], .v (.int .i64 (k : Int))] []) (outSt (.agg [.sl k (isl (fit (app cs ps) k)), .sl 0 []]) []) := by
  have hal : (app cs ps).length = n := by rw [length_app, hn]
  refine Spec.ofNI Try.func31 rfl Try.ntmps31 rfl ?_
  refine D_seq fun K1 hK1 => ?_
  refine D_region ?_
  refine DL_c (op_box (2, 0) _ rfl rfl) ?_
  refine DL_c (op_alloc (4, 0) inferInstance rfl rfl) ?_
  refine DL_nil (hK1 _ ?_)
  clear hK1; try clear K1
  refine D_seq fun K2 hK2 => ?_
  refine D_region ?_
  first
    | refine DL_c (op_ldBA _ inferInstance rfl rfl rfl rfl) ?_
    | refine DL_c (op_ldRA _ inferInstance rfl rfl (by first | rfl | assumption) rfl) ?_
    | refine DL_c (op_ldFA _ inferInstance rfl (by first | rfl | assumption) rfl) ?_
  refine DL_c (op_callR inferInstance [((0, 8), (7, 0))] ?_ (rview_own n m cs ps hn hm h1 h2 hok) trivial ⟨rfl, trivial⟩ rfl) ?_
  · repeat' (first | exact argsR_nil | refine argsR_cons ?_ ?_ | exact Lv.v | exact Lv.sl | exact Lv.fp | exact Lv.nil | exact Lv.ref | exact Lv.ptr | refine Lv.agg rfl ?_ | exact lv_nil | refine lv_cons ?_ ?_)
  first
    | refine DL_c (op_as _ (rfl : _ = AV.sl _ _)) ?_
    | refine DL_c (op_as _ (rfl : _ = AV.ref _ _ _)) ?_
    | refine DL_c (op_as _ (rfl : _ = AV.v (.slice _ _ _))) ?_
  refine DL_nil (hK2 _ ?_)
  clear hK2; try clear K2
  refine D_seq fun K3 hK3 => ?_
  refine D_block ?_
  refine D_loopP (fun j : Nat => j ≤ k - n) (fun j => mkStI 19 [(1, .v (.int .i64 (k : Int))), (4, .ptr (4, 0) 0), (5, .ref (7, 0) 0 (n + j))] [((4, 0), .box 26 [.v (.slice none 0 0), .v (.slice none 0 0)]), ((7, 0), .row 3 1 (isl (app cs ps ++ List.replicate j 0)))] [] []) (fun j => k - n - j) 0 ?_ ?_ ?_
  · omega
  · exact Le.mkI [] [] rfl ⟨.v, .ptr, .ref, trivial⟩ rfl rfl rfl trivial ⟨⟨rfl, ⟨_, rfl, .box rfl (lv_cons .v (lv_cons .v lv_nil))⟩, rfl⟩, ⟨rfl, ⟨_, rfl, .rowE (by simp)⟩, rfl⟩, trivial⟩ trivial rfl
  · rintro j hj
    refine D_seq fun K4 hK4 => ?_
    refine D_seq fun K5 hK5 => ?_
    refine D_region ?_
    first
      | refine DL_c (op_mv _ (rfl : _ = AV.sl _ _)) ?_
      | refine DL_c (op_mv _ (rfl : _ = AV.ref _ _ _)) ?_
      | refine DL_c (op_mv _ (rfl : _ = AV.v (.slice _ _ _))) ?_
    first
      | refine DL_c (op_lenS _ inferInstance rfl) ?_
      | refine DL_c (op_lenR _ inferInstance rfl rfl) ?_
      | refine DL_c (op_lenN _ inferInstance rfl) ?_
    refine DL_c (op_mv _ (rfl : _ = AV.v (.int _ _))) ?_
    refine DL_c (op_lss _ _ rfl rfl rfl) ?_
    refine DL_nil (hK5 _ ?_)
    clear hK5; try clear K5
    refine D_split rfl (fun hc11 => ?_) (fun hc11 => ?_)
    · try simp only [decide_eq_true_eq, decide_eq_false_iff_not, bne_iff_ne, bne_eq_false_iff_eq, beq_iff_eq, beq_eq_false_iff_ne, Bool.not_eq_true', Bool.not_eq_false', ne_eq, Int.not_lt, Int.not_le] at hc11
      refine D_skip (hK4 _ ?_)
      clear hK4; try clear K4
      refine D_block ?_
      refine D_region ?_
      first
        | refine DL_c (op_mv _ (rfl : _ = AV.sl _ _)) ?_
        | refine DL_c (op_mv _ (rfl : _ = AV.ref _ _ _)) ?_
        | refine DL_c (op_mv _ (rfl : _ = AV.v (.slice _ _ _))) ?_
      first
        | refine DL_c (op_bsF _ _ inferInstance rfl (by rfl) (by simp <;> rfl) (by decide) rfl) ?_
        | refine DL_c (op_bs (13, 0) _ _ inferInstance rfl (by rfl) (by simp <;> rfl) (by decide) rfl rfl) ?_
      refine DL_c (op_ap (14, 0) _ _ inferInstance rfl rfl (by simp [hal]) (.sl (m := 1) rfl) (by omega) rfl (rfl : _ = isl (app cs ps ++ List.replicate j 0) ++ isl [0]) rfl) ?_
      first
        | refine DL_c (op_as _ (rfl : _ = AV.sl _ _)) ?_
        | refine DL_c (op_as _ (rfl : _ = AV.ref _ _ _)) ?_
        | refine DL_c (op_as _ (rfl : _ = AV.v (.slice _ _ _))) ?_
      refine DL_nil ?_
      refine ⟨j + 1, by omega, Le.mkI [((7, 0), (14, 0))] [] rfl ⟨.v, .ptr, lvR (by omega), trivial⟩ rfl rfl rfl trivial ⟨⟨rfl, ⟨_, rfl, .box rfl (lv_cons .v (lv_cons .v lv_nil))⟩, rfl⟩, ⟨rfl, ⟨_, rfl, .rowE ?_⟩, rfl⟩, trivial⟩ trivial rfl, by omega⟩
      rw [isl_append, List.append_assoc, List.replicate_succ']
    · try simp only [decide_eq_true_eq, decide_eq_false_iff_not, bne_iff_ne, bne_eq_false_iff_eq, beq_iff_eq, beq_eq_false_iff_ne, Bool.not_eq_true', Bool.not_eq_false', ne_eq, Int.not_lt, Int.not_le] at hc11
      refine D_exit ?_
      refine id (hK3 _ ?_)
      clear hK3; try clear K3
      refine D_seq fun K6 hK6 => ?_
      refine D_region ?_
      first
        | refine DL_c (op_mv _ (rfl : _ = AV.sl _ _)) ?_
        | refine DL_c (op_mv _ (rfl : _ = AV.ref _ _ _)) ?_
        | refine DL_c (op_mv _ (rfl : _ = AV.v (.slice _ _ _))) ?_
      refine DL_c (op_mv _ (rfl : _ = AV.v (.int _ _))) ?_
      refine DL_c (op_slR _ _ _ inferInstance rfl rfl 0 k .dflt (.lit rfl rfl) (by omega) (by omega) rfl rfl) ?_
      refine DL_c (op_build _ inferInstance rfl (by exact (rfl : _ = some [_, _]))) ?_
      first
        | refine DL_c (op_stB _ _ inferInstance rfl rfl rfl rfl (Nat.le_of_ble_eq_true rfl) rfl) ?_
        | refine DL_c (op_stR _ _ inferInstance rfl rfl rfl rfl rfl (by first | exact Nat.le_of_ble_eq_true rfl | (simp; omega)) rfl) ?_
      refine DL_nil (hK6 _ ?_)
      clear hK6; try clear K6
      refine D_ret ?_
      refine ret1 (.inr rfl) rfl (.cellA inferInstance rfl rfl rfl) ?_
      refine Le.out [] [(7, 0)] (.agg rfl (lv_cons (.frz rfl rfl ?_ (by simp [hal]; omega)) (lv_cons .nil lv_nil))) rfl rfl rfl ⟨rfl, trivial⟩ trivial
      rw [Nat.zero_mul, List.drop_zero, isl_take, Nat.mul_one]
      exact congrArg isl (fit_app (app cs ps) k j (by omega) (by omega))
end Go.Proofs.Ytphlaojoehmhaaa
