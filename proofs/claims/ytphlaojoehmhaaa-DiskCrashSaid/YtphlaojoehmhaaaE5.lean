/- The disk's functions by the machine: Crash, Resize; the reference's. -/
import Derived.Test.YtphlaojoehmhaaaE4
import Derived.Test.YtphlaojoehmhaaaDLib15
set_option linter.unusedSimpArgs false
set_option linter.unusedVariables false
namespace Go.Proofs.Ytphlaojoehmhaaa
open Go.RowKit

def bsl (l : List Bool) : List PV := l.map fun x => .v (.bool x)
@[simp] theorem bsl_len (l : List Bool) : (bsl l).length = l.length := by simp [bsl]
theorem bsl_get (l : List Bool) (k : Nat) (h : k < l.length) : (bsl l)[k]? = some (.v (.bool (l.getD k false))) := by simp [bsl, h]
theorem kept_yes (ps : List (Int × Int)) (bs : List Bool) (k : Nat) (h : k < ps.length) (hb : k < bs.length) (ht : bs.getD k false = true) : kept (ps.take (k + 1)) bs = kept (ps.take k) bs ++ [ps.getD k (0, 0)] := by
  rw [kept_take_succ _ _ _ h, getD_at _ _ _ h]
  rw [getD_at _ _ _ hb] at ht
  rw [if_pos (by rw [List.getElem?_eq_getElem hb, ht])]
theorem kept_no (ps : List (Int × Int)) (bs : List Bool) (k : Nat) (h : k < ps.length) (ht : k < bs.length → bs.getD k false = false) : kept (ps.take (k + 1)) bs = kept (ps.take k) bs := by
  rw [kept_take_succ _ _ _ h, if_neg, List.append_nil]
  intro hc
  have hb : k < bs.length := by
    by_cases hb : k < bs.length
    · exact hb
    · rw [List.getElem?_eq_none (by omega)] at hc; cases hc
  have := ht hb
  rw [getD_at _ _ _ hb] at this
  rw [List.getElem?_eq_getElem hb, this] at hc
  cases hc
theorem kept_end (ps : List (Int × Int)) (bs : List Bool) (k : Nat) (h : bs.length ≤ k) : kept (ps.take k) bs = kept ps bs := by
  have key : ∀ j, kept (ps.take (k + j)) bs = kept (ps.take k) bs := by
    intro j
    induction j with
    | zero => rfl
    | succ j ih =>
      by_cases hj : k + j < ps.length
      · rw [← Nat.add_assoc, kept_no ps bs (k + j) hj (fun hb => by omega), ih]
      · rw [← ih, List.take_of_length_le (by omega), List.take_of_length_le (by omega)]
  have := key ps.length
  rw [List.take_of_length_le (by omega)] at this
  exact this.symm

theorem crash_own (n m q : Nat) (cs : List Int) (ps : List (Int × Int)) (bs : List Bool) (hn : cs.length = n) (hm : ps.length = m) (hq : bs.length = q) (h1 : n ≤ 1000000) (h2 : m ≤ 1000000) (h3 : q ≤ 9223372036854775807) (hok : Ok n ps) :
    Spec Try.prog 24 (inStI [.agg [.sl n (isl cs), .sl m (wsl ps)], .sl q (bsl bs)] []) (outStI (.agg [.ref (0, 8) 0 n, .v (.slice none 0 0)]) [((0, 8), .row 3 1 (isl (app cs (kept ps bs))))] [] []) := by
  refine Spec.ofNI Try.func24 rfl Try.ntmps24 rfl ?_
  refine D_seq fun K1 hK1 => ?_
  refine D_region ?_
  refine DL_c (op_box (2, 0) _ rfl rfl) ?_
  refine DL_c (op_alloc (4, 0) inferInstance rfl rfl) ?_
  refine DL_nil (hK1 _ ?_)
  clear hK1; try clear K1
  refine D_seq fun K2 hK2 => ?_
  refine D_region ?_
  first
    | refine DL_c (op_ldBA _ inferInstance rfl rfl rfl rfl) ?_
    | refine DL_c (op_ldRA _ inferInstance rfl rfl (by first | rfl | assumption) rfl) ?_
    | refine DL_c (op_ldFA _ inferInstance rfl (by first | rfl | assumption) rfl) ?_
  refine DL_c (op_callR inferInstance [((0, 8), (50, 0))] ?_ (own_specF n m cs ps hn hm h1 h2) trivial ⟨rfl, trivial⟩ rfl) ?_
  · repeat' (first | exact argsR_nil | refine argsR_cons ?_ ?_ | exact Lv.v | exact Lv.sl | exact Lv.fp | exact Lv.nil | exact Lv.ref | exact Lv.ptr | refine Lv.agg rfl ?_ | exact lv_nil | refine lv_cons ?_ ?_)
  refine DL_c (op_alloc (5, 0) inferInstance rfl rfl) ?_
  first
    | refine DL_c (op_stB _ _ inferInstance rfl rfl rfl rfl (Nat.le_of_ble_eq_true rfl) rfl) ?_
    | refine DL_c (op_stR _ _ inferInstance rfl rfl rfl rfl rfl (by first | exact Nat.le_of_ble_eq_true rfl | (simp; omega)) rfl) ?_
  refine DL_nil (hK2 _ ?_)
  clear hK2; try clear K2
  refine D_seq fun K3 hK3 => ?_
  refine D_seq fun K4 hK4 => ?_
  refine D_region ?_
  first
    | refine DL_c (op_fldP _ inferInstance rfl rfl rfl) ?_
    | refine DL_c (op_fldF _ inferInstance rfl rfl) ?_
  first
    | refine DL_c (op_ldB _ inferInstance rfl rfl (rfl : _ = some (AV.sl _ _))) ?_
    | refine DL_c (op_ldB _ inferInstance rfl rfl (rfl : _ = some (AV.ref _ _ _))) ?_
    | refine DL_c (op_ldB _ inferInstance rfl rfl (rfl : _ = some (AV.v (.slice _ _ _)))) ?_
    | refine DL_c (op_ldR _ inferInstance rfl rfl (by first | rfl | exact isl_get _ _ (by omega) | exact bsl_get _ _ (by omega) | exact wsl_get0 _ _ (by omega) | exact wsl_get1 _ _ (by omega) | assumption) rfl) ?_
    | refine DL_c (op_ldF _ inferInstance rfl (by first | rfl | exact isl_get _ _ (by omega) | exact bsl_get _ _ (by omega) | exact wsl_get0 _ _ (by omega) | exact wsl_get1 _ _ (by omega) | assumption) rfl) ?_
  first
    | refine DL_c (op_lenS _ inferInstance rfl) ?_
    | refine DL_c (op_lenR _ inferInstance rfl rfl) ?_
    | refine DL_c (op_lenN _ inferInstance rfl) ?_
  refine DL_c (op_mv _ (rfl : _ = AV.v (.int _ _))) ?_
  refine DL_nil (hK4 _ ?_)
  clear hK4; try clear K4
  refine D_block ?_
  refine D_loopP (fun k : Nat => k ≤ m) (fun k => mkStI 36 [(1, .sl q (bsl bs)), (4, .ptr (4, 0) 0), (5, .ptr (5, 0) 0), (11, .sl m (wsl ps)), (12, .v (.int .i64 (m : Int))), (13, .v (.int .i64 (k : Int)))] [((4, 0), .box 26 [.v (.slice none 0 0), .v (.slice none 0 0)]), ((5, 0), .box 26 [.ref (50, 0) 0 n, .sl m (wsl ps)]), ((50, 0), .row 3 1 (isl (app cs (kept (ps.take k) bs))))] [] []) (fun k => m - k) 0 ?_ ?_ ?_
  · omega
  · exact Le.mkI [] [] rfl ⟨.sl, .ptr, .ptr, .sl, .v, .v, trivial⟩ rfl rfl rfl trivial ⟨⟨rfl, ⟨_, rfl, .box rfl (lv_cons .v (lv_cons .v lv_nil))⟩, rfl⟩, ⟨rfl, ⟨_, rfl, .box rfl (lv_cons .ref (lv_cons .sl lv_nil))⟩, rfl⟩, ⟨rfl, ⟨_, rfl, .rowE rfl⟩, rfl⟩, trivial⟩ trivial rfl
  · rintro k hk
    refine D_seq fun K5 hK5 => ?_
    refine D_region ?_
    refine DL_c (op_lss _ _ rfl rfl rfl) ?_
    refine DL_nil (hK5 _ ?_)
    clear hK5; try clear K5
    refine D_seq fun K6 hK6 => ?_
    refine D_split rfl (fun hc14 => ?_) (fun hc14 => ?_)
    · try simp only [decide_eq_true_eq, decide_eq_false_iff_not, bne_iff_ne, bne_eq_false_iff_eq, beq_iff_eq, beq_eq_false_iff_ne, Bool.not_eq_true', Bool.not_eq_false', ne_eq, Int.not_lt, Int.not_le] at hc14
      have hkm : k < ps.length := by omega
      have hlen : (app cs (kept (ps.take k) bs)).length = n := by rw [length_app, hn]
      have hok1 : Ok n [ps.getD k (0, 0)] := by intro p hp; simp only [List.mem_singleton] at hp; subst hp; rw [getD_at _ _ _ hkm]; exact hok.at k hkm
      refine D_skip (hK6 _ ?_)
      clear hK6; try clear K6
      refine D_seq fun K7 hK7 => ?_
      refine D_block ?_
      refine D_seq fun K8 hK8 => ?_
      refine D_region ?_
      refine DL_c (op_mv _ (rfl : _ = AV.v (.int _ _))) ?_
      first
        | refine DL_c (op_ixS _ _ inferInstance rfl rfl _ rfl (by omega) (by first | assumption | decide | (simp [isl]; omega)) (by first | exact Nat.mul_one _ | rfl)) ?_
        | refine DL_c (op_ixS _ _ inferInstance rfl rfl 0 rfl (by omega) (by first | assumption | decide | (simp [isl]; omega)) (by first | exact Nat.mul_one _ | rfl)) ?_
        | refine DL_c (op_ixS _ _ inferInstance rfl rfl 1 rfl (by omega) (by first | assumption | decide | (simp [isl]; omega)) (by first | exact Nat.mul_one _ | rfl)) ?_
        | refine DL_c (op_ixS _ _ inferInstance rfl rfl (Int.toNat _) (Int.toNat_of_nonneg (by omega)).symm (by omega) (by first | assumption | decide | (simp [isl]; omega)) (by first | exact Nat.mul_one _ | rfl)) ?_
        | refine DL_c (op_ixR _ _ inferInstance rfl rfl rfl _ rfl (by omega) (by first | exact Nat.mul_one _ | rfl)) ?_
        | refine DL_c (op_ixR _ _ inferInstance rfl rfl rfl 0 rfl (by omega) (by first | exact Nat.mul_one _ | rfl)) ?_
        | refine DL_c (op_ixR _ _ inferInstance rfl rfl rfl 1 rfl (by omega) (by first | exact Nat.mul_one _ | rfl)) ?_
        | refine DL_c (op_ixR _ _ inferInstance rfl rfl rfl (Int.toNat _) (Int.toNat_of_nonneg (by omega)).symm (by omega) (by first | exact Nat.mul_one _ | rfl)) ?_
      refine DL_c (op_ldFA _ inferInstance rfl (by exact wsl_at _ _ (by omega)) rfl) ?_
      refine DL_c (op_alloc (7, 0) inferInstance rfl rfl) ?_
      refine DL_c (op_as _ (rfl : _ = AV.v (.int _ _))) ?_
      first
        | refine DL_c (op_stB _ _ inferInstance rfl rfl rfl rfl (Nat.le_of_ble_eq_true rfl) rfl) ?_
        | refine DL_c (op_stR _ _ inferInstance rfl rfl rfl rfl rfl (by first | exact Nat.le_of_ble_eq_true rfl | (simp; omega)) rfl) ?_
      refine DL_nil (hK8 _ ?_)
      clear hK8; try clear K8
      refine D_seq fun K9 hK9 => ?_
      by_cases hx5 : (k : Int) < (q : Int)
      · have hb_5 : decide ((k : Int) < (q : Int)) = true := decide_eq_true hx5
        refine D_region ?_
        refine DL_c (op_mv _ (rfl : _ = AV.v (.int _ _))) ?_
        first
          | refine DL_c (op_mv _ (rfl : _ = AV.sl _ _)) ?_
          | refine DL_c (op_mv _ (rfl : _ = AV.ref _ _ _)) ?_
          | refine DL_c (op_mv _ (rfl : _ = AV.v (.slice _ _ _))) ?_
        first
          | refine DL_c (op_lenS _ inferInstance rfl) ?_
          | refine DL_c (op_lenR _ inferInstance rfl rfl) ?_
          | refine DL_c (op_lenN _ inferInstance rfl) ?_
        refine DL_c (op_lss _ _ rfl rfl hb_5) ?_
        refine DL_c (op_mv _ (rfl : _ = AV.v (.bool _))) ?_
        first
          | refine DL_cy rfl rfl (op_mv _ (rfl : _ = AV.sl _ _)) ?_
          | refine DL_cy rfl rfl (op_mv _ (rfl : _ = AV.ref _ _ _)) ?_
          | refine DL_cy rfl rfl (op_mv _ (rfl : _ = AV.v (.slice _ _ _))) ?_
        refine DL_cy rfl rfl (op_mv _ (rfl : _ = AV.v (.int _ _))) ?_
        first
          | refine DL_cy rfl rfl (op_ixS _ _ inferInstance rfl rfl _ rfl (by omega) (by first | assumption | decide | (simp [isl]; omega)) (by first | exact Nat.mul_one _ | rfl)) ?_
          | refine DL_cy rfl rfl (op_ixS _ _ inferInstance rfl rfl 0 rfl (by omega) (by first | assumption | decide | (simp [isl]; omega)) (by first | exact Nat.mul_one _ | rfl)) ?_
          | refine DL_cy rfl rfl (op_ixS _ _ inferInstance rfl rfl 1 rfl (by omega) (by first | assumption | decide | (simp [isl]; omega)) (by first | exact Nat.mul_one _ | rfl)) ?_
          | refine DL_cy rfl rfl (op_ixS _ _ inferInstance rfl rfl (Int.toNat _) (Int.toNat_of_nonneg (by omega)).symm (by omega) (by first | assumption | decide | (simp [isl]; omega)) (by first | exact Nat.mul_one _ | rfl)) ?_
          | refine DL_cy rfl rfl (op_ixR _ _ inferInstance rfl rfl rfl _ rfl (by omega) (by first | exact Nat.mul_one _ | rfl)) ?_
          | refine DL_cy rfl rfl (op_ixR _ _ inferInstance rfl rfl rfl 0 rfl (by omega) (by first | exact Nat.mul_one _ | rfl)) ?_
          | refine DL_cy rfl rfl (op_ixR _ _ inferInstance rfl rfl rfl 1 rfl (by omega) (by first | exact Nat.mul_one _ | rfl)) ?_
          | refine DL_cy rfl rfl (op_ixR _ _ inferInstance rfl rfl rfl (Int.toNat _) (Int.toNat_of_nonneg (by omega)).symm (by omega) (by first | exact Nat.mul_one _ | rfl)) ?_
        first
          | refine DL_cy rfl rfl (op_ldB _ inferInstance rfl rfl (rfl : _ = some (AV.v (.bool _)))) ?_
          | refine DL_cy rfl rfl (op_ldR _ inferInstance rfl rfl (by first | rfl | exact isl_get _ _ (by omega) | exact bsl_get _ _ (by omega) | exact wsl_get0 _ _ (by omega) | exact wsl_get1 _ _ (by omega) | assumption) rfl) ?_
          | refine DL_cy rfl rfl (op_ldF _ inferInstance rfl (by first | rfl | exact isl_get _ _ (by omega) | exact bsl_get _ _ (by omega) | exact wsl_get0 _ _ (by omega) | exact wsl_get1 _ _ (by omega) | assumption) rfl) ?_
        refine DL_c (op_pick _ _ _ rfl (rfl : _ = AV.v (.bool _))) ?_
        refine DL_nil (hK9 _ ?_)
        clear hK9; try clear K9
        refine D_split rfl (fun hc27 => ?_) (fun hc27 => ?_)
        · try simp only [decide_eq_true_eq, decide_eq_false_iff_not, bne_iff_ne, bne_eq_false_iff_eq, beq_iff_eq, beq_eq_false_iff_ne, Bool.not_eq_true', Bool.not_eq_false', ne_eq, Int.not_lt, Int.not_le] at hc27
          refine D_region ?_
          first
            | refine DL_c (op_fldP _ inferInstance rfl rfl rfl) ?_
            | refine DL_c (op_fldF _ inferInstance rfl rfl) ?_
          first
            | refine DL_c (op_ldB _ inferInstance rfl rfl (rfl : _ = some (AV.sl _ _))) ?_
            | refine DL_c (op_ldB _ inferInstance rfl rfl (rfl : _ = some (AV.ref _ _ _))) ?_
            | refine DL_c (op_ldB _ inferInstance rfl rfl (rfl : _ = some (AV.v (.slice _ _ _)))) ?_
            | refine DL_c (op_ldR _ inferInstance rfl rfl (by first | rfl | exact isl_get _ _ (by omega) | exact bsl_get _ _ (by omega) | exact wsl_get0 _ _ (by omega) | exact wsl_get1 _ _ (by omega) | assumption) rfl) ?_
            | refine DL_c (op_ldF _ inferInstance rfl (by first | rfl | exact isl_get _ _ (by omega) | exact bsl_get _ _ (by omega) | exact wsl_get0 _ _ (by omega) | exact wsl_get1 _ _ (by omega) | assumption) rfl) ?_
          first
            | refine DL_c (op_ldBA _ inferInstance rfl rfl rfl rfl) ?_
            | refine DL_c (op_ldRA _ inferInstance rfl rfl (by first | rfl | assumption) rfl) ?_
            | refine DL_c (op_ldFA _ inferInstance rfl (by first | rfl | assumption) rfl) ?_
          first
            | refine DL_c (op_bsF _ _ inferInstance rfl (by rfl) (by simp <;> rfl) (by decide) rfl) ?_
            | refine DL_c (op_bs (31, 0) _ _ inferInstance rfl (by rfl) (by simp <;> rfl) (by decide) rfl rfl) ?_
          refine DL_c (op_callR inferInstance [((0, 9), (50, 0))] ?_ (apply_spec n 1 _ [ps.getD k (0, 0)] hlen rfl h1 (by omega) hok1) ⟨⟨rfl, ⟨_, rfl, .rowE rfl⟩, rfl⟩, trivial⟩ ⟨rfl, trivial⟩ rfl) ?_
          · repeat' (first | exact argsR_nil | refine argsR_cons ?_ ?_ | exact Lv.v | exact Lv.sl | exact Lv.fp | exact Lv.nil | exact Lv.ref | exact Lv.ptr | refine Lv.agg rfl ?_ | exact lv_nil | refine lv_cons ?_ ?_)
          refine DL_nil (hK7 _ ?_)
          clear hK7; try clear K7
          refine D_region ?_
          first
            | refine DL_c (op_add _ _ rfl rfl (i64w (by omega))) ?_
            | refine DL_c (op_add _ _ rfl rfl rfl) ?_
          refine DL_c (op_mv _ (rfl : _ = AV.v (.int _ _))) ?_
          refine DL_nil ?_
          refine ⟨k + 1, by omega, Le.mkI [] [] rfl ⟨.sl, .ptr, .ptr, .sl, .v, lvI (by omega), trivial⟩ rfl rfl rfl trivial ⟨⟨rfl, ⟨_, rfl, .box rfl (lv_cons .v (lv_cons .v lv_nil))⟩, rfl⟩, ⟨rfl, ⟨_, rfl, .box rfl (lv_cons .ref (lv_cons .sl lv_nil))⟩, rfl⟩, ⟨rfl, ⟨_, rfl, .rowE ?_⟩, rfl⟩, trivial⟩ trivial rfl, by omega⟩
          first
           | (rw [kept_yes ps bs k hkm (by omega) hc27, app_snoc]; done)
           | (rw [kept_no ps bs k hkm (fun _ => hc27)]; done)
           | (rw [kept_no ps bs k hkm (fun hb => by omega)]; done)
        · try simp only [decide_eq_true_eq, decide_eq_false_iff_not, bne_iff_ne, bne_eq_false_iff_eq, beq_iff_eq, beq_eq_false_iff_ne, Bool.not_eq_true', Bool.not_eq_false', ne_eq, Int.not_lt, Int.not_le] at hc27
          refine D_skip (hK7 _ ?_)
          clear hK7; try clear K7
          refine D_region ?_
          first
            | refine DL_c (op_add _ _ rfl rfl (i64w (by omega))) ?_
            | refine DL_c (op_add _ _ rfl rfl rfl) ?_
          refine DL_c (op_mv _ (rfl : _ = AV.v (.int _ _))) ?_
          refine DL_nil ?_
          refine ⟨k + 1, by omega, Le.mkI [] [] rfl ⟨.sl, .ptr, .ptr, .sl, .v, lvI (by omega), trivial⟩ rfl rfl rfl trivial ⟨⟨rfl, ⟨_, rfl, .box rfl (lv_cons .v (lv_cons .v lv_nil))⟩, rfl⟩, ⟨rfl, ⟨_, rfl, .box rfl (lv_cons .ref (lv_cons .sl lv_nil))⟩, rfl⟩, ⟨rfl, ⟨_, rfl, .rowE ?_⟩, rfl⟩, trivial⟩ trivial rfl, by omega⟩
          first
           | (rw [kept_yes ps bs k hkm (by omega) hc27, app_snoc]; done)
           | (rw [kept_no ps bs k hkm (fun _ => hc27)]; done)
           | (rw [kept_no ps bs k hkm (fun hb => by omega)]; done)
      · have hb_5 : decide ((k : Int) < (q : Int)) = false := decide_eq_false hx5
        refine D_region ?_
        refine DL_c (op_mv _ (rfl : _ = AV.v (.int _ _))) ?_
        first
          | refine DL_c (op_mv _ (rfl : _ = AV.sl _ _)) ?_
          | refine DL_c (op_mv _ (rfl : _ = AV.ref _ _ _)) ?_
          | refine DL_c (op_mv _ (rfl : _ = AV.v (.slice _ _ _))) ?_
        first
          | refine DL_c (op_lenS _ inferInstance rfl) ?_
          | refine DL_c (op_lenR _ inferInstance rfl rfl) ?_
          | refine DL_c (op_lenN _ inferInstance rfl) ?_
        refine DL_c (op_lss _ _ rfl rfl hb_5) ?_
        refine DL_c (op_mv _ (rfl : _ = AV.v (.bool _))) ?_
        refine DL_cn rfl rfl (by decide) ?_
        refine DL_cn rfl rfl (by decide) ?_
        refine DL_cn rfl rfl (by decide) ?_
        refine DL_cn rfl rfl (by decide) ?_
        refine DL_c (op_pick _ _ _ rfl (rfl : _ = AV.v (.bool _))) ?_
        refine DL_nil (hK9 _ ?_)
        clear hK9; try clear K9
        refine D_cF rfl rfl ?_
        refine D_skip (hK7 _ ?_)
        clear hK7; try clear K7
        refine D_region ?_
        first
          | refine DL_c (op_add _ _ rfl rfl (i64w (by omega))) ?_
          | refine DL_c (op_add _ _ rfl rfl rfl) ?_
        refine DL_c (op_mv _ (rfl : _ = AV.v (.int _ _))) ?_
        refine DL_nil ?_
        refine ⟨k + 1, by omega, Le.mkI [] [] rfl ⟨.sl, .ptr, .ptr, .sl, .v, lvI (by omega), trivial⟩ rfl rfl rfl trivial ⟨⟨rfl, ⟨_, rfl, .box rfl (lv_cons .v (lv_cons .v lv_nil))⟩, rfl⟩, ⟨rfl, ⟨_, rfl, .box rfl (lv_cons .ref (lv_cons .sl lv_nil))⟩, rfl⟩, ⟨rfl, ⟨_, rfl, .rowE ?_⟩, rfl⟩, trivial⟩ trivial rfl, by omega⟩
        first
         | (rw [kept_yes ps bs k hkm (by omega) hc27, app_snoc]; done)
         | (rw [kept_no ps bs k hkm (fun _ => hc27)]; done)
         | (rw [kept_no ps bs k hkm (fun hb => by omega)]; done)
    · try simp only [decide_eq_true_eq, decide_eq_false_iff_not, bne_iff_ne, bne_eq_false_iff_eq, beq_iff_eq, beq_eq_false_iff_ne, Bool.not_eq_true', Bool.not_eq_false', ne_eq, Int.not_lt, Int.not_le] at hc14
      have hkm : k = m := by omega
      refine D_exit ?_
      refine id (hK3 _ ?_)
      clear hK3; try clear K3
      refine D_seq fun K10 hK10 => ?_
      refine D_region ?_
      first
        | refine DL_c (op_fldP _ inferInstance rfl rfl rfl) ?_
        | refine DL_c (op_fldF _ inferInstance rfl rfl) ?_
      first
        | refine DL_c (op_stB _ _ inferInstance rfl rfl rfl rfl (Nat.le_of_ble_eq_true rfl) rfl) ?_
        | refine DL_c (op_stR _ _ inferInstance rfl rfl rfl rfl rfl (by first | exact Nat.le_of_ble_eq_true rfl | (simp; omega)) rfl) ?_
      refine DL_nil (hK10 _ ?_)
      clear hK10; try clear K10
      refine D_seq fun K11 hK11 => ?_
      refine D_region ?_
      first
        | refine DL_c (op_ldBA _ inferInstance rfl rfl rfl rfl) ?_
        | refine DL_c (op_ldRA _ inferInstance rfl rfl (by first | rfl | assumption) rfl) ?_
        | refine DL_c (op_ldFA _ inferInstance rfl (by first | rfl | assumption) rfl) ?_
      first
        | refine DL_c (op_stB _ _ inferInstance rfl rfl rfl rfl (Nat.le_of_ble_eq_true rfl) rfl) ?_
        | refine DL_c (op_stR _ _ inferInstance rfl rfl rfl rfl rfl (by first | exact Nat.le_of_ble_eq_true rfl | (simp; omega)) rfl) ?_
      refine DL_nil (hK11 _ ?_)
      clear hK11; try clear K11
      refine D_ret ?_
      refine ret1 (.inr rfl) rfl (.cellA inferInstance rfl rfl rfl) ?_
      refine Le.outI [((0, 8), (50, 0))] [] (.agg rfl (lv_cons .ref (lv_cons .v lv_nil))) rfl rfl rfl trivial ⟨⟨rfl, ⟨_, rfl, .rowE ?_⟩, rfl⟩, trivial⟩ trivial rfl
      rw [List.take_of_length_le (by omega)]
end Go.Proofs.Ytphlaojoehmhaaa
