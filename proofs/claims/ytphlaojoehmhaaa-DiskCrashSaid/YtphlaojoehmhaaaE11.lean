/- The disk's functions by the machine: Ops. -/
import Derived.Test.YtphlaojoehmhaaaE10
set_option linter.unusedSimpArgs false
set_option linter.unusedVariables false
namespace Go.Proofs.Ytphlaojoehmhaaa
open Go.RowKit

def bits (n : Int) (j : Nat) : List Bool := (List.range j).map fun i => (n / 1000 / 2 ^ i) % 2 == 1
theorem bits_len (n : Int) (j : Nat) : (bits n j).length = j := by simp [bits]
theorem bits_snoc (n : Int) (j : Nat) : bsl (bits n j) ++ [.v (.bool ((n / 1000 / 2 ^ j) % 2 == 1))] = bsl (bits n (j + 1)) := by
  simp [bits, bsl, List.range_succ]
def opD (n : Int) : Int := if n % 16 = 0 then 1 else if n % 16 = 1 ∨ n % 16 = 2 then 2 else if n % 16 = 3 then 3 else 0
def opC (n : Int) : Int := if n % 16 = 3 then n / 16 % 17 else n / 16 % 7 - 1
def opV (n : Int) : Int := n / 112 % 9 - 4
def opB (n : Int) : List Bool := if n % 16 = 1 ∨ n % 16 = 2 then bits n (n / 16 % 6).toNat else []
def opc (n : Int) : List PV := [.v (.int .i64 (opD n)), .v (.int .i64 (opC n)), .v (.int .i64 (opV n)), .sl (opB n).length (bsl (opB n))]
def opl (l : List Int) : List PV := l.flatMap fun x => opc (around x 1000000)
@[simp] theorem opl_len (l : List Int) : (opl l).length = l.length * 4 := by
  induction l with
  | nil => rfl
  | cons p l ih => simp only [opl, opc, List.flatMap_cons, List.length_append, List.length_cons, List.length_nil] at *; omega
theorem opl_snoc (l : List Int) (k : Nat) (h : k < l.length) : opl (l.take (k + 1)) = opl (l.take k) ++ opc (around (l.getD k 0) 1000000) := by
  rw [getD_at _ _ _ h, List.take_succ_eq_append_getElem h]; simp only [opl, List.flatMap_append, List.flatMap_cons, List.flatMap_nil, List.append_nil]
def Rng (l : List Int) : Prop := ∀ x ∈ l, -9223372036854775808 ≤ x ∧ x ≤ 9223372036854775807
theorem Rng.at {l : List Int} (h : Rng l) (k : Nat) (hk : k < l.length) : -9223372036854775808 ≤ l.getD k 0 ∧ l.getD k 0 ≤ 9223372036854775807 := by
  rw [getD_at _ _ _ hk]; exact h _ (List.getElem_mem hk)
theorem op_five (n : Int) : n % 16 = 0 ∨ n % 16 = 1 ∨ n % 16 = 2 ∨ n % 16 = 3 ∨ (n % 16 ≠ 0 ∧ n % 16 ≠ 1 ∧ n % 16 ≠ 2 ∧ n % 16 ≠ 3) := by omega
theorem shr_at (a : Int) (j : Nat) (hj : j ≤ 60) : a.fdiv (2 ^ min (Int.toNat (j : Int)) IntKind.i64.bits) = a / 2 ^ j := by
  rw [Int.toNat_natCast, show IntKind.i64.bits = 64 from rfl, Nat.min_eq_left (by omega), Int.fdiv_eq_ediv_of_nonneg]
  exact Int.pow_nonneg (by decide)

theorem ops_spec (nl : Nat) (ls : List Int) (hn : ls.length = nl) (h1 : nl ≤ 9223372036854775807) (hr : Rng ls) :
    Spec Try.prog 16 (inSt [.sl nl (isl ls)] []) (outSt (.sl (ls.take 20).length (opl (ls.take 20))) []) := by
  refine Spec.ofNI Try.func16 rfl Try.ntmps16 rfl ?_
  refine D_seq fun K1 hK1 => ?_
  refine D_region ?_
  first
    | refine DL_c (op_as _ (rfl : _ = AV.sl _ _)) ?_
    | refine DL_c (op_as _ (rfl : _ = AV.ref _ _ _)) ?_
    | refine DL_c (op_as _ (rfl : _ = AV.v (.slice _ _ _))) ?_
  refine DL_nil (hK1 _ ?_)
  clear hK1; try clear K1
  refine D_seq fun K2 hK2 => ?_
  refine D_region ?_
  first
    | refine DL_c (op_asN (3, 0) _ 37 4 rfl rfl) ?_
    | refine DL_c (op_as _ (rfl : _ = AV.ref _ _ _)) ?_
  refine DL_nil (hK2 _ ?_)
  clear hK2; try clear K2
  refine D_seq fun K3 hK3 => ?_
  refine D_seq fun K4 hK4 => ?_
  refine D_region ?_
  refine DL_c (op_as _ (rfl : _ = AV.v (.int _ _))) ?_
  refine DL_nil (hK4 _ ?_)
  clear hK4; try clear K4
  refine D_block ?_
  refine D_loopP (fun k : Nat => k ≤ nl ∧ k ≤ 20) (fun k => mkStI 77 [(0, .sl nl (isl ls)), (3, .ref (3, 0) 0 k), (4, .v (.int .i64 (k : Int)))] [((3, 0), .row 37 4 (opl (ls.take k)))] [] []) (fun k => nl - k) 0 ?_ ?_ ?_
  · exact ⟨by omega, by omega⟩
  · exact Le.mkI [] [] rfl ⟨.sl, .ref, .v, trivial⟩ rfl rfl rfl trivial ⟨⟨rfl, ⟨_, rfl, .rowE rfl⟩, rfl⟩, trivial⟩ trivial rfl
  · rintro k ⟨hk, hk2⟩
    refine D_seq fun K5 hK5 => ?_
    refine D_seq fun K6 hK6 => ?_
    by_cases hx3 : (k : Int) < (nl : Int)
    · have hb_3 : decide ((k : Int) < (nl : Int)) = true := decide_eq_true hx3
      refine D_region ?_
      refine DL_c (op_mv _ (rfl : _ = AV.v (.int _ _))) ?_
      first
        | refine DL_c (op_mv _ (rfl : _ = AV.sl _ _)) ?_
        | refine DL_c (op_mv _ (rfl : _ = AV.ref _ _ _)) ?_
        | refine DL_c (op_mv _ (rfl : _ = AV.v (.slice _ _ _))) ?_
      first
        | refine DL_c (op_lenS _ inferInstance rfl) ?_
        | refine DL_c (op_lenR _ inferInstance rfl rfl) ?_
        | refine DL_c (op_lenN _ inferInstance rfl) ?_
      refine DL_c (op_lss _ _ rfl rfl hb_3) ?_
      refine DL_c (op_mv _ (rfl : _ = AV.v (.bool _))) ?_
      refine DL_cy rfl rfl (op_mv _ (rfl : _ = AV.v (.int _ _))) ?_
      refine DL_cy rfl rfl (op_lss _ _ rfl rfl rfl) ?_
      refine DL_c (op_pick _ _ _ rfl (rfl : _ = AV.v (.bool _))) ?_
      refine DL_nil (hK6 _ ?_)
      clear hK6; try clear K6
      refine D_split rfl (fun hc15 => ?_) (fun hc15 => ?_)
      · try simp only [decide_eq_true_eq, decide_eq_false_iff_not, bne_iff_ne, bne_eq_false_iff_eq, beq_iff_eq, beq_eq_false_iff_ne, Bool.not_eq_true', Bool.not_eq_false', ne_eq, Int.not_lt, Int.not_le] at hc15
        have hkx : k < ls.length := by omega
        have hxr := hr.at k hkx
        have hv0 := around_lo (ls.getD k 0) 1000000 (by omega)
        have hv1 := around_hi (ls.getD k 0) 1000000 (by omega)
        have hsn := opl_snoc ls k hkx
        have har := around_spec (ls.getD k 0) 1000000 (by omega) (by omega) hxr.1 hxr.2
        generalize around (ls.getD k 0) 1000000 = n at *
        refine D_skip (hK5 _ ?_)
        clear hK5; try clear K5
        refine D_seq fun K7 hK7 => ?_
        refine D_block ?_
        refine D_seq fun K8 hK8 => ?_
        refine D_region ?_
        first
          | refine DL_c (op_mv _ (rfl : _ = AV.sl _ _)) ?_
          | refine DL_c (op_mv _ (rfl : _ = AV.ref _ _ _)) ?_
          | refine DL_c (op_mv _ (rfl : _ = AV.v (.slice _ _ _))) ?_
        refine DL_c (op_mv _ (rfl : _ = AV.v (.int _ _))) ?_
        first
          | refine DL_c (op_ixS _ _ inferInstance rfl rfl _ rfl (by omega) (by first | assumption | decide | (simp [isl]; omega)) (by first | exact Nat.mul_one _ | rfl)) ?_
          | refine DL_c (op_ixS _ _ inferInstance rfl rfl 0 rfl (by omega) (by first | assumption | decide | (simp [isl]; omega)) (by first | exact Nat.mul_one _ | rfl)) ?_
          | refine DL_c (op_ixS _ _ inferInstance rfl rfl 1 rfl (by omega) (by first | assumption | decide | (simp [isl]; omega)) (by first | exact Nat.mul_one _ | rfl)) ?_
          | refine DL_c (op_ixS _ _ inferInstance rfl rfl (Int.toNat _) (Int.toNat_of_nonneg (by omega)).symm (by omega) (by first | assumption | decide | (simp [isl]; omega)) (by first | exact Nat.mul_one _ | rfl)) ?_
          | refine DL_c (op_ixR _ _ inferInstance rfl rfl rfl _ rfl (by omega) (by first | exact Nat.mul_one _ | rfl)) ?_
          | refine DL_c (op_ixR _ _ inferInstance rfl rfl rfl 0 rfl (by omega) (by first | exact Nat.mul_one _ | rfl)) ?_
          | refine DL_c (op_ixR _ _ inferInstance rfl rfl rfl 1 rfl (by omega) (by first | exact Nat.mul_one _ | rfl)) ?_
          | refine DL_c (op_ixR _ _ inferInstance rfl rfl rfl (Int.toNat _) (Int.toNat_of_nonneg (by omega)).symm (by omega) (by first | exact Nat.mul_one _ | rfl)) ?_
        first
          | refine DL_c (op_ldB _ inferInstance rfl rfl (rfl : _ = some (AV.v (.int _ _)))) ?_
          | refine DL_c (op_ldR _ inferInstance rfl rfl (by first | rfl | exact isl_get _ _ (by omega) | exact bsl_get _ _ (by omega) | exact wsl_get0 _ _ (by omega) | exact wsl_get1 _ _ (by omega) | assumption) rfl) ?_
          | refine DL_c (op_ldF _ inferInstance rfl (by first | rfl | exact isl_get _ _ (by omega) | exact bsl_get _ _ (by omega) | exact wsl_get0 _ _ (by omega) | exact wsl_get1 _ _ (by omega) | assumption) rfl) ?_
        refine DL_c (op_callH inferInstance (by repeat' (first | exact argsLv_nil | refine argsLv_cons ?_ ?_ | exact Lv.v | exact Lv.sl | exact Lv.fp | exact Lv.nil | refine Lv.agg rfl ?_ | exact lv_nil | refine lv_cons ?_ ?_)) (har) rfl rfl) ?_
        refine DL_c (op_as _ (rfl : _ = AV.v (.int _ _))) ?_
        refine DL_nil (hK8 _ ?_)
        clear hK8; try clear K8
        refine D_seq fun K9 hK9 => ?_
        rcases op_five n with h | h | h | h | h
        · skip
          have b0 : (n % 16 == 0) = true := by simp; omega
          have b1 : (n % 16 == 1) = false := by simp; omega
          have b2 : (n % 16 == 2) = false := by simp; omega
          have b3 : (n % 16 == 3) = false := by simp; omega
          refine D_region ?_
          refine DL_c (op_mv _ (rfl : _ = AV.v (.int _ _))) ?_
          first
            | refine DL_c (op_quo _ _ rfl rfl (by omega) (IntWalk.i64_quo _ _ (by omega))) ?_
            | refine DL_c (op_quo _ _ rfl rfl (by omega) rfl) ?_
          first
            | refine DL_c (op_rem _ _ rfl rfl (by omega) (Int.tmod_eq_emod_of_nonneg (by omega))) ?_
            | refine DL_c (op_rem _ _ rfl rfl (by omega) rfl) ?_
          first
            | refine DL_c (op_sub _ _ rfl rfl (i64w (by omega))) ?_
            | refine DL_c (op_sub _ _ rfl rfl rfl) ?_
          refine DL_c (op_mv _ (rfl : _ = AV.v (.int _ _))) ?_
          first
            | refine DL_c (op_quo _ _ rfl rfl (by omega) (IntWalk.i64_quo _ _ (by omega))) ?_
            | refine DL_c (op_quo _ _ rfl rfl (by omega) rfl) ?_
          first
            | refine DL_c (op_rem _ _ rfl rfl (by omega) (Int.tmod_eq_emod_of_nonneg (by omega))) ?_
            | refine DL_c (op_rem _ _ rfl rfl (by omega) rfl) ?_
          first
            | refine DL_c (op_sub _ _ rfl rfl (i64w (by omega))) ?_
            | refine DL_c (op_sub _ _ rfl rfl rfl) ?_
          refine DL_c (op_build _ inferInstance rfl (by exact (rfl : _ = some [_, _, _, _]))) ?_
          refine DL_c (op_alloc (6, 0) inferInstance rfl rfl) ?_
          first
            | refine DL_c (op_stB _ _ inferInstance rfl rfl rfl rfl (Nat.le_of_ble_eq_true rfl) rfl) ?_
            | refine DL_c (op_stR _ _ inferInstance rfl rfl rfl rfl rfl (by first | exact Nat.le_of_ble_eq_true rfl | (simp; omega)) rfl) ?_
          refine DL_nil (hK9 _ ?_)
          clear hK9; try clear K9
          refine D_seq fun K10 hK10 => ?_
          refine D_seq fun K11 hK11 => ?_
          refine D_region ?_
          refine DL_c (op_mv _ (rfl : _ = AV.v (.int _ _))) ?_
          first
            | refine DL_c (op_rem _ _ rfl rfl (by omega) (Int.tmod_eq_emod_of_nonneg (by omega))) ?_
            | refine DL_c (op_rem _ _ rfl rfl (by omega) rfl) ?_
          refine DL_c (op_eql _ _ rfl rfl b0) ?_
          refine DL_nil (hK11 _ ?_)
          clear hK11; try clear K11
          refine D_cT rfl rfl ?_
          refine D_region ?_
          first
            | refine DL_c (op_fldP _ inferInstance rfl rfl rfl) ?_
            | refine DL_c (op_fldF _ inferInstance rfl rfl) ?_
          first
            | refine DL_c (op_stB _ _ inferInstance rfl rfl rfl rfl (Nat.le_of_ble_eq_true rfl) rfl) ?_
            | refine DL_c (op_stR _ _ inferInstance rfl rfl rfl rfl rfl (by first | exact Nat.le_of_ble_eq_true rfl | (simp; omega)) rfl) ?_
          refine DL_nil (hK10 _ ?_)
          clear hK10; try clear K10
          refine D_seq fun K12 hK12 => ?_
          refine D_seq fun K13 hK13 => ?_
          refine D_region ?_
          refine DL_c (op_mv _ (rfl : _ = AV.v (.int _ _))) ?_
          first
            | refine DL_c (op_rem _ _ rfl rfl (by omega) (Int.tmod_eq_emod_of_nonneg (by omega))) ?_
            | refine DL_c (op_rem _ _ rfl rfl (by omega) rfl) ?_
          refine DL_c (op_eql _ _ rfl rfl b1) ?_
          refine DL_c (op_mv _ (rfl : _ = AV.v (.bool _))) ?_
          refine DL_cy rfl rfl (op_mv _ (rfl : _ = AV.v (.int _ _))) ?_
          first
            | refine DL_cy rfl rfl (op_rem _ _ rfl rfl (by omega) (Int.tmod_eq_emod_of_nonneg (by omega))) ?_
            | refine DL_cy rfl rfl (op_rem _ _ rfl rfl (by omega) rfl) ?_
          refine DL_cy rfl rfl (op_eql _ _ rfl rfl b2) ?_
          refine DL_c (op_pick _ _ _ rfl (rfl : _ = AV.v (.bool _))) ?_
          refine DL_nil (hK13 _ ?_)
          clear hK13; try clear K13
          refine D_cF rfl rfl ?_
          refine D_skip (hK12 _ ?_)
          clear hK12; try clear K12
          refine D_seq fun K14 hK14 => ?_
          refine D_seq fun K15 hK15 => ?_
          refine D_region ?_
          refine DL_c (op_mv _ (rfl : _ = AV.v (.int _ _))) ?_
          first
            | refine DL_c (op_rem _ _ rfl rfl (by omega) (Int.tmod_eq_emod_of_nonneg (by omega))) ?_
            | refine DL_c (op_rem _ _ rfl rfl (by omega) rfl) ?_
          refine DL_c (op_eql _ _ rfl rfl b3) ?_
          refine DL_nil (hK15 _ ?_)
          clear hK15; try clear K15
          refine D_cF rfl rfl ?_
          refine D_skip (hK14 _ ?_)
          clear hK14; try clear K14
          refine D_region ?_
          first
            | refine DL_c (op_mv _ (rfl : _ = AV.sl _ _)) ?_
            | refine DL_c (op_mv _ (rfl : _ = AV.ref _ _ _)) ?_
            | refine DL_c (op_mv _ (rfl : _ = AV.v (.slice _ _ _))) ?_
          refine DL_le (Le.nil0 (6, 0) 3 rfl rfl) ?_
          first
            | refine DL_c (op_ldBA _ inferInstance rfl rfl rfl rfl) ?_
            | refine DL_c (op_ldRA _ inferInstance rfl rfl (by first | rfl | assumption) rfl) ?_
            | refine DL_c (op_ldFA _ inferInstance rfl (by first | rfl | assumption) rfl) ?_
          first
            | refine DL_c (op_bsF _ _ inferInstance rfl (by rfl) (by simp <;> rfl) (by decide) rfl) ?_
            | refine DL_c (op_bs (74, 0) _ _ inferInstance rfl (by rfl) (by simp <;> rfl) (by decide) rfl rfl) ?_
          refine DL_c (op_ap (75, 0) _ _ inferInstance rfl rfl (by simp; omega) (.sl (m := 1) rfl) (by omega) rfl rfl rfl) ?_
          first
            | refine DL_c (op_asN (3, 0) _ 37 4 rfl rfl) ?_
            | refine DL_c (op_as _ (rfl : _ = AV.ref _ _ _)) ?_
          refine DL_nil (hK7 _ ?_)
          clear hK7; try clear K7
          refine D_region ?_
          refine DL_c (op_mv _ (rfl : _ = AV.v (.int _ _))) ?_
          first
            | refine DL_c (op_add _ _ rfl rfl (i64w (by omega))) ?_
            | refine DL_c (op_add _ _ rfl rfl rfl) ?_
          refine DL_c (op_as _ (rfl : _ = AV.v (.int _ _))) ?_
          refine DL_nil ?_
          refine ⟨k + 1, ⟨by omega, by omega⟩, Le.mkI [((3, 0), (75, 0))] [] rfl ⟨.sl, .ref, lvI (by omega), trivial⟩ rfl rfl rfl trivial ⟨⟨rfl, ⟨_, rfl, .rowE ?_⟩, rfl⟩, trivial⟩ trivial rfl, by omega⟩
          rw [hsn]
          simp [opc, opD, opC, opV, opB, h, bits_len, bsl]
        · skip
          have b0 : (n % 16 == 0) = false := by simp; omega
          have b1 : (n % 16 == 1) = true := by simp; omega
          have b3 : (n % 16 == 3) = false := by simp; omega
          refine D_region ?_
          refine DL_c (op_mv _ (rfl : _ = AV.v (.int _ _))) ?_
          first
            | refine DL_c (op_quo _ _ rfl rfl (by omega) (IntWalk.i64_quo _ _ (by omega))) ?_
            | refine DL_c (op_quo _ _ rfl rfl (by omega) rfl) ?_
          first
            | refine DL_c (op_rem _ _ rfl rfl (by omega) (Int.tmod_eq_emod_of_nonneg (by omega))) ?_
            | refine DL_c (op_rem _ _ rfl rfl (by omega) rfl) ?_
          first
            | refine DL_c (op_sub _ _ rfl rfl (i64w (by omega))) ?_
            | refine DL_c (op_sub _ _ rfl rfl rfl) ?_
          refine DL_c (op_mv _ (rfl : _ = AV.v (.int _ _))) ?_
          first
            | refine DL_c (op_quo _ _ rfl rfl (by omega) (IntWalk.i64_quo _ _ (by omega))) ?_
            | refine DL_c (op_quo _ _ rfl rfl (by omega) rfl) ?_
          first
            | refine DL_c (op_rem _ _ rfl rfl (by omega) (Int.tmod_eq_emod_of_nonneg (by omega))) ?_
            | refine DL_c (op_rem _ _ rfl rfl (by omega) rfl) ?_
          first
            | refine DL_c (op_sub _ _ rfl rfl (i64w (by omega))) ?_
            | refine DL_c (op_sub _ _ rfl rfl rfl) ?_
          refine DL_c (op_build _ inferInstance rfl (by exact (rfl : _ = some [_, _, _, _]))) ?_
          refine DL_c (op_alloc (6, 0) inferInstance rfl rfl) ?_
          first
            | refine DL_c (op_stB _ _ inferInstance rfl rfl rfl rfl (Nat.le_of_ble_eq_true rfl) rfl) ?_
            | refine DL_c (op_stR _ _ inferInstance rfl rfl rfl rfl rfl (by first | exact Nat.le_of_ble_eq_true rfl | (simp; omega)) rfl) ?_
          refine DL_nil (hK9 _ ?_)
          clear hK9; try clear K9
          refine D_seq fun K16 hK16 => ?_
          refine D_seq fun K17 hK17 => ?_
          refine D_region ?_
          refine DL_c (op_mv _ (rfl : _ = AV.v (.int _ _))) ?_
          first
            | refine DL_c (op_rem _ _ rfl rfl (by omega) (Int.tmod_eq_emod_of_nonneg (by omega))) ?_
            | refine DL_c (op_rem _ _ rfl rfl (by omega) rfl) ?_
          refine DL_c (op_eql _ _ rfl rfl b0) ?_
          refine DL_nil (hK17 _ ?_)
          clear hK17; try clear K17
          refine D_cF rfl rfl ?_
          refine D_skip (hK16 _ ?_)
          clear hK16; try clear K16
          refine D_seq fun K18 hK18 => ?_
          refine D_seq fun K19 hK19 => ?_
          refine D_region ?_
          refine DL_c (op_mv _ (rfl : _ = AV.v (.int _ _))) ?_
          first
            | refine DL_c (op_rem _ _ rfl rfl (by omega) (Int.tmod_eq_emod_of_nonneg (by omega))) ?_
            | refine DL_c (op_rem _ _ rfl rfl (by omega) rfl) ?_
          refine DL_c (op_eql _ _ rfl rfl b1) ?_
          refine DL_c (op_mv _ (rfl : _ = AV.v (.bool _))) ?_
          refine DL_cn rfl rfl (by decide) ?_
          refine DL_cn rfl rfl (by decide) ?_
          refine DL_cn rfl rfl (by decide) ?_
          refine DL_c (op_pick _ _ _ rfl (rfl : _ = AV.v (.bool _))) ?_
          refine DL_nil (hK19 _ ?_)
          clear hK19; try clear K19
          refine D_cT rfl rfl ?_
          refine D_seq fun K20 hK20 => ?_
          refine D_region ?_
          first
            | refine DL_c (op_fldP _ inferInstance rfl rfl rfl) ?_
            | refine DL_c (op_fldF _ inferInstance rfl rfl) ?_
          first
            | refine DL_c (op_stB _ _ inferInstance rfl rfl rfl rfl (Nat.le_of_ble_eq_true rfl) rfl) ?_
            | refine DL_c (op_stR _ _ inferInstance rfl rfl rfl rfl rfl (by first | exact Nat.le_of_ble_eq_true rfl | (simp; omega)) rfl) ?_
          refine DL_nil (hK20 _ ?_)
          clear hK20; try clear K20
          refine D_seq fun K21 hK21 => ?_
          refine D_le (Le.nilB (6, 0) 3 (60, 0) 4 1 rfl rfl rfl) ?_
          refine D_region ?_
          refine DL_c (op_as _ (rfl : _ = AV.v (.int _ _))) ?_
          refine DL_nil (hK21 _ ?_)
          clear hK21; try clear K21
          refine D_block ?_
          refine D_loopP (fun j : Nat => (j : Int) ≤ n / 16 % 6) (fun j => mkStI 77 [(0, .sl nl (isl ls)), (3, .ref (3, 0) 0 k), (4, .v (.int .i64 (k : Int))), (5, .v (.int .i64 n)), (6, .ptr (6, 0) 0), (7, .v (.int .i64 (j : Int)))] [((3, 0), .row 37 4 (opl (ls.take k))), ((6, 0), .box 37 [.v (.int .i64 2), .v (.int .i64 (n / 16 % 7 - 1)), .v (.int .i64 (n / 112 % 9 - 4)), .ref (60, 0) 0 j]), ((60, 0), .row 4 1 (bsl (bits n j)))] [] []) (fun j => 6 - j) 0 ?_ ?_ ?_
          · omega
          · exact Le.mkI [] [] rfl ⟨.sl, .ref, .v, .v, .ptr, .v, trivial⟩ rfl rfl rfl trivial ⟨⟨rfl, ⟨_, rfl, .rowE rfl⟩, rfl⟩, ⟨rfl, ⟨_, rfl, .box rfl (lv_cons .v (lv_cons .v (lv_cons .v (lv_cons .ref lv_nil))))⟩, rfl⟩, ⟨rfl, ⟨_, rfl, .rowE rfl⟩, rfl⟩, trivial⟩ trivial rfl
          · rintro j hj
            refine D_seq fun K22 hK22 => ?_
            refine D_seq fun K23 hK23 => ?_
            refine D_region ?_
            refine DL_c (op_mv _ (rfl : _ = AV.v (.int _ _))) ?_
            refine DL_c (op_mv _ (rfl : _ = AV.v (.int _ _))) ?_
            first
              | refine DL_c (op_quo _ _ rfl rfl (by omega) (IntWalk.i64_quo _ _ (by omega))) ?_
              | refine DL_c (op_quo _ _ rfl rfl (by omega) rfl) ?_
            first
              | refine DL_c (op_rem _ _ rfl rfl (by omega) (Int.tmod_eq_emod_of_nonneg (by omega))) ?_
              | refine DL_c (op_rem _ _ rfl rfl (by omega) rfl) ?_
            refine DL_c (op_lss _ _ rfl rfl rfl) ?_
            refine DL_nil (hK23 _ ?_)
            clear hK23; try clear K23
            refine D_split rfl (fun hc49 => ?_) (fun hc49 => ?_)
            · try simp only [decide_eq_true_eq, decide_eq_false_iff_not, bne_iff_ne, bne_eq_false_iff_eq, beq_iff_eq, beq_eq_false_iff_ne, Bool.not_eq_true', Bool.not_eq_false', ne_eq, Int.not_lt, Int.not_le] at hc49
              refine D_skip (hK22 _ ?_)
              clear hK22; try clear K22
              refine D_seq fun K24 hK24 => ?_
              refine D_block ?_
              refine D_region ?_
              first
                | refine DL_c (op_fldP _ inferInstance rfl rfl rfl) ?_
                | refine DL_c (op_fldF _ inferInstance rfl rfl) ?_
              first
                | refine DL_c (op_ldB _ inferInstance rfl rfl (rfl : _ = some (AV.sl _ _))) ?_
                | refine DL_c (op_ldB _ inferInstance rfl rfl (rfl : _ = some (AV.ref _ _ _))) ?_
                | refine DL_c (op_ldB _ inferInstance rfl rfl (rfl : _ = some (AV.v (.slice _ _ _)))) ?_
                | refine DL_c (op_ldR _ inferInstance rfl rfl (by first | rfl | exact isl_get _ _ (by omega) | exact bsl_get _ _ (by omega) | exact wsl_get0 _ _ (by omega) | exact wsl_get1 _ _ (by omega) | assumption) rfl) ?_
                | refine DL_c (op_ldF _ inferInstance rfl (by first | rfl | exact isl_get _ _ (by omega) | exact bsl_get _ _ (by omega) | exact wsl_get0 _ _ (by omega) | exact wsl_get1 _ _ (by omega) | assumption) rfl) ?_
              refine DL_c (op_mv _ (rfl : _ = AV.v (.int _ _))) ?_
              first
                | refine DL_c (op_quo _ _ rfl rfl (by omega) (IntWalk.i64_quo _ _ (by omega))) ?_
                | refine DL_c (op_quo _ _ rfl rfl (by omega) rfl) ?_
              refine DL_c (op_mv _ (rfl : _ = AV.v (.int _ _))) ?_
              first
                | refine DL_c (op_conv _ Try.underlying3 Try.underlying51 rfl (i64w (by omega))) ?_
                | refine DL_c (op_conv _ Try.underlying3 Try.underlying51 rfl (u64w (by omega))) ?_
                | refine DL_c (op_conv _ Try.underlying3 Try.underlying51 rfl rfl) ?_
              refine DL_c (op_shr _ _ rfl rfl (by omega) (shr_at _ _ (by omega))) ?_
              refine DL_c (op_rem _ _ rfl rfl (by omega) (Int.tmod_eq_emod_of_nonneg (Int.ediv_nonneg (by omega) (Int.pow_nonneg (by decide))))) ?_
              refine DL_c (op_eql _ _ rfl rfl rfl) ?_
              first
                | refine DL_c (op_bsF _ _ inferInstance rfl (by rfl) (by simp <;> rfl) (by decide) rfl) ?_
                | refine DL_c (op_bs (61, 0) _ _ inferInstance rfl (by rfl) (by simp <;> rfl) (by decide) rfl rfl) ?_
              refine DL_c (op_ap (62, 0) _ _ inferInstance rfl rfl (by simp [bits_len]) (.sl (m := 1) rfl) (by omega) rfl (bits_snoc n j) rfl) ?_
              first
                | refine DL_c (op_fldP _ inferInstance rfl rfl rfl) ?_
                | refine DL_c (op_fldF _ inferInstance rfl rfl) ?_
              first
                | refine DL_c (op_stB _ _ inferInstance rfl rfl rfl rfl (Nat.le_of_ble_eq_true rfl) rfl) ?_
                | refine DL_c (op_stR _ _ inferInstance rfl rfl rfl rfl rfl (by first | exact Nat.le_of_ble_eq_true rfl | (simp; omega)) rfl) ?_
              refine DL_nil (hK24 _ ?_)
              clear hK24; try clear K24
              refine D_region ?_
              refine DL_c (op_mv _ (rfl : _ = AV.v (.int _ _))) ?_
              first
                | refine DL_c (op_add _ _ rfl rfl (i64w (by omega))) ?_
                | refine DL_c (op_add _ _ rfl rfl rfl) ?_
              refine DL_c (op_as _ (rfl : _ = AV.v (.int _ _))) ?_
              refine DL_nil ?_
              exact ⟨j + 1, by omega, Le.mkI [((60, 0), (62, 0))] [] rfl ⟨.sl, .ref, .v, .v, .ptr, lvI (by omega), trivial⟩ rfl rfl rfl trivial ⟨⟨rfl, ⟨_, rfl, .rowE rfl⟩, rfl⟩, ⟨rfl, ⟨_, rfl, .box rfl (lv_cons .v (lv_cons .v (lv_cons .v (lv_cons .ref lv_nil))))⟩, rfl⟩, ⟨rfl, ⟨_, rfl, .rowE rfl⟩, rfl⟩, trivial⟩ trivial rfl, by omega⟩
            · try simp only [decide_eq_true_eq, decide_eq_false_iff_not, bne_iff_ne, bne_eq_false_iff_eq, beq_iff_eq, beq_eq_false_iff_ne, Bool.not_eq_true', Bool.not_eq_false', ne_eq, Int.not_lt, Int.not_le] at hc49
              have hjq : j = (n / 16 % 6).toNat := by omega
              refine D_exit ?_
              refine id (hK18 _ ?_)
              clear hK18; try clear K18
              refine D_seq fun K25 hK25 => ?_
              refine D_seq fun K26 hK26 => ?_
              refine D_region ?_
              refine DL_c (op_mv _ (rfl : _ = AV.v (.int _ _))) ?_
              first
                | refine DL_c (op_rem _ _ rfl rfl (by omega) (Int.tmod_eq_emod_of_nonneg (by omega))) ?_
                | refine DL_c (op_rem _ _ rfl rfl (by omega) rfl) ?_
              refine DL_c (op_eql _ _ rfl rfl b3) ?_
              refine DL_nil (hK26 _ ?_)
              clear hK26; try clear K26
              refine D_cF rfl rfl ?_
              refine D_skip (hK25 _ ?_)
              clear hK25; try clear K25
              refine D_region ?_
              first
                | refine DL_c (op_mv _ (rfl : _ = AV.sl _ _)) ?_
                | refine DL_c (op_mv _ (rfl : _ = AV.ref _ _ _)) ?_
                | refine DL_c (op_mv _ (rfl : _ = AV.v (.slice _ _ _))) ?_
              refine DL_le (Le.frzB (6, 0) 3 (ys := bsl (bits n j)) rfl rfl rfl rfl (by exact List.take_of_length_le (by simp [bits_len])) (by simp [bits_len])) ?_
              first
                | refine DL_c (op_ldBA _ inferInstance rfl rfl rfl rfl) ?_
                | refine DL_c (op_ldRA _ inferInstance rfl rfl (by first | rfl | assumption) rfl) ?_
                | refine DL_c (op_ldFA _ inferInstance rfl (by first | rfl | assumption) rfl) ?_
              first
                | refine DL_c (op_bsF _ _ inferInstance rfl (by rfl) (by simp <;> rfl) (by decide) rfl) ?_
                | refine DL_c (op_bs (74, 0) _ _ inferInstance rfl (by rfl) (by simp <;> rfl) (by decide) rfl rfl) ?_
              refine DL_c (op_ap (75, 0) _ _ inferInstance rfl rfl (by simp; omega) (.sl (m := 1) rfl) (by omega) rfl rfl rfl) ?_
              first
                | refine DL_c (op_asN (3, 0) _ 37 4 rfl rfl) ?_
                | refine DL_c (op_as _ (rfl : _ = AV.ref _ _ _)) ?_
              refine DL_nil (hK7 _ ?_)
              clear hK7; try clear K7
              refine D_region ?_
              refine DL_c (op_mv _ (rfl : _ = AV.v (.int _ _))) ?_
              first
                | refine DL_c (op_add _ _ rfl rfl (i64w (by omega))) ?_
                | refine DL_c (op_add _ _ rfl rfl rfl) ?_
              refine DL_c (op_as _ (rfl : _ = AV.v (.int _ _))) ?_
              refine DL_nil ?_
              refine ⟨k + 1, ⟨by omega, by omega⟩, Le.mkI [((3, 0), (75, 0))] [] rfl ⟨.sl, .ref, lvI (by omega), trivial⟩ rfl rfl rfl trivial ⟨⟨rfl, ⟨_, rfl, .rowE ?_⟩, rfl⟩, trivial⟩ trivial rfl, by omega⟩
              rw [hsn, hjq]
              simp [opc, opD, opC, opV, opB, h, bits_len]
        · skip
          have b0 : (n % 16 == 0) = false := by simp; omega
          have b1 : (n % 16 == 1) = false := by simp; omega
          have b2 : (n % 16 == 2) = true := by simp; omega
          have b3 : (n % 16 == 3) = false := by simp; omega
          refine D_region ?_
          refine DL_c (op_mv _ (rfl : _ = AV.v (.int _ _))) ?_
          first
            | refine DL_c (op_quo _ _ rfl rfl (by omega) (IntWalk.i64_quo _ _ (by omega))) ?_
            | refine DL_c (op_quo _ _ rfl rfl (by omega) rfl) ?_
          first
            | refine DL_c (op_rem _ _ rfl rfl (by omega) (Int.tmod_eq_emod_of_nonneg (by omega))) ?_
            | refine DL_c (op_rem _ _ rfl rfl (by omega) rfl) ?_
          first
            | refine DL_c (op_sub _ _ rfl rfl (i64w (by omega))) ?_
            | refine DL_c (op_sub _ _ rfl rfl rfl) ?_
          refine DL_c (op_mv _ (rfl : _ = AV.v (.int _ _))) ?_
          first
            | refine DL_c (op_quo _ _ rfl rfl (by omega) (IntWalk.i64_quo _ _ (by omega))) ?_
            | refine DL_c (op_quo _ _ rfl rfl (by omega) rfl) ?_
          first
            | refine DL_c (op_rem _ _ rfl rfl (by omega) (Int.tmod_eq_emod_of_nonneg (by omega))) ?_
            | refine DL_c (op_rem _ _ rfl rfl (by omega) rfl) ?_
          first
            | refine DL_c (op_sub _ _ rfl rfl (i64w (by omega))) ?_
            | refine DL_c (op_sub _ _ rfl rfl rfl) ?_
          refine DL_c (op_build _ inferInstance rfl (by exact (rfl : _ = some [_, _, _, _]))) ?_
          refine DL_c (op_alloc (6, 0) inferInstance rfl rfl) ?_
          first
            | refine DL_c (op_stB _ _ inferInstance rfl rfl rfl rfl (Nat.le_of_ble_eq_true rfl) rfl) ?_
            | refine DL_c (op_stR _ _ inferInstance rfl rfl rfl rfl rfl (by first | exact Nat.le_of_ble_eq_true rfl | (simp; omega)) rfl) ?_
          refine DL_nil (hK9 _ ?_)
          clear hK9; try clear K9
          refine D_seq fun K27 hK27 => ?_
          refine D_seq fun K28 hK28 => ?_
          refine D_region ?_
          refine DL_c (op_mv _ (rfl : _ = AV.v (.int _ _))) ?_
          first
            | refine DL_c (op_rem _ _ rfl rfl (by omega) (Int.tmod_eq_emod_of_nonneg (by omega))) ?_
            | refine DL_c (op_rem _ _ rfl rfl (by omega) rfl) ?_
          refine DL_c (op_eql _ _ rfl rfl b0) ?_
          refine DL_nil (hK28 _ ?_)
          clear hK28; try clear K28
          refine D_cF rfl rfl ?_
          refine D_skip (hK27 _ ?_)
          clear hK27; try clear K27
          refine D_seq fun K29 hK29 => ?_
          refine D_seq fun K30 hK30 => ?_
          refine D_region ?_
          refine DL_c (op_mv _ (rfl : _ = AV.v (.int _ _))) ?_
          first
            | refine DL_c (op_rem _ _ rfl rfl (by omega) (Int.tmod_eq_emod_of_nonneg (by omega))) ?_
            | refine DL_c (op_rem _ _ rfl rfl (by omega) rfl) ?_
          refine DL_c (op_eql _ _ rfl rfl b1) ?_
          refine DL_c (op_mv _ (rfl : _ = AV.v (.bool _))) ?_
          refine DL_cy rfl rfl (op_mv _ (rfl : _ = AV.v (.int _ _))) ?_
          first
            | refine DL_cy rfl rfl (op_rem _ _ rfl rfl (by omega) (Int.tmod_eq_emod_of_nonneg (by omega))) ?_
            | refine DL_cy rfl rfl (op_rem _ _ rfl rfl (by omega) rfl) ?_
          refine DL_cy rfl rfl (op_eql _ _ rfl rfl b2) ?_
          refine DL_c (op_pick _ _ _ rfl (rfl : _ = AV.v (.bool _))) ?_
          refine DL_nil (hK30 _ ?_)
          clear hK30; try clear K30
          refine D_cT rfl rfl ?_
          refine D_seq fun K31 hK31 => ?_
          refine D_region ?_
          first
            | refine DL_c (op_fldP _ inferInstance rfl rfl rfl) ?_
            | refine DL_c (op_fldF _ inferInstance rfl rfl) ?_
          first
            | refine DL_c (op_stB _ _ inferInstance rfl rfl rfl rfl (Nat.le_of_ble_eq_true rfl) rfl) ?_
            | refine DL_c (op_stR _ _ inferInstance rfl rfl rfl rfl rfl (by first | exact Nat.le_of_ble_eq_true rfl | (simp; omega)) rfl) ?_
          refine DL_nil (hK31 _ ?_)
          clear hK31; try clear K31
          refine D_seq fun K32 hK32 => ?_
          refine D_le (Le.nilB (6, 0) 3 (60, 0) 4 1 rfl rfl rfl) ?_
          refine D_region ?_
          refine DL_c (op_as _ (rfl : _ = AV.v (.int _ _))) ?_
          refine DL_nil (hK32 _ ?_)
          clear hK32; try clear K32
          refine D_block ?_
          refine D_loopP (fun j : Nat => (j : Int) ≤ n / 16 % 6) (fun j => mkStI 77 [(0, .sl nl (isl ls)), (3, .ref (3, 0) 0 k), (4, .v (.int .i64 (k : Int))), (5, .v (.int .i64 n)), (6, .ptr (6, 0) 0), (7, .v (.int .i64 (j : Int)))] [((3, 0), .row 37 4 (opl (ls.take k))), ((6, 0), .box 37 [.v (.int .i64 2), .v (.int .i64 (n / 16 % 7 - 1)), .v (.int .i64 (n / 112 % 9 - 4)), .ref (60, 0) 0 j]), ((60, 0), .row 4 1 (bsl (bits n j)))] [] []) (fun j => 6 - j) 0 ?_ ?_ ?_
          · omega
          · exact Le.mkI [] [] rfl ⟨.sl, .ref, .v, .v, .ptr, .v, trivial⟩ rfl rfl rfl trivial ⟨⟨rfl, ⟨_, rfl, .rowE rfl⟩, rfl⟩, ⟨rfl, ⟨_, rfl, .box rfl (lv_cons .v (lv_cons .v (lv_cons .v (lv_cons .ref lv_nil))))⟩, rfl⟩, ⟨rfl, ⟨_, rfl, .rowE rfl⟩, rfl⟩, trivial⟩ trivial rfl
          · rintro j hj
            refine D_seq fun K33 hK33 => ?_
            refine D_seq fun K34 hK34 => ?_
            refine D_region ?_
            refine DL_c (op_mv _ (rfl : _ = AV.v (.int _ _))) ?_
            refine DL_c (op_mv _ (rfl : _ = AV.v (.int _ _))) ?_
            first
              | refine DL_c (op_quo _ _ rfl rfl (by omega) (IntWalk.i64_quo _ _ (by omega))) ?_
              | refine DL_c (op_quo _ _ rfl rfl (by omega) rfl) ?_
            first
              | refine DL_c (op_rem _ _ rfl rfl (by omega) (Int.tmod_eq_emod_of_nonneg (by omega))) ?_
              | refine DL_c (op_rem _ _ rfl rfl (by omega) rfl) ?_
            refine DL_c (op_lss _ _ rfl rfl rfl) ?_
            refine DL_nil (hK34 _ ?_)
            clear hK34; try clear K34
            refine D_split rfl (fun hc49 => ?_) (fun hc49 => ?_)
            · try simp only [decide_eq_true_eq, decide_eq_false_iff_not, bne_iff_ne, bne_eq_false_iff_eq, beq_iff_eq, beq_eq_false_iff_ne, Bool.not_eq_true', Bool.not_eq_false', ne_eq, Int.not_lt, Int.not_le] at hc49
              refine D_skip (hK33 _ ?_)
              clear hK33; try clear K33
              refine D_seq fun K35 hK35 => ?_
              refine D_block ?_
              refine D_region ?_
              first
                | refine DL_c (op_fldP _ inferInstance rfl rfl rfl) ?_
                | refine DL_c (op_fldF _ inferInstance rfl rfl) ?_
              first
                | refine DL_c (op_ldB _ inferInstance rfl rfl (rfl : _ = some (AV.sl _ _))) ?_
                | refine DL_c (op_ldB _ inferInstance rfl rfl (rfl : _ = some (AV.ref _ _ _))) ?_
                | refine DL_c (op_ldB _ inferInstance rfl rfl (rfl : _ = some (AV.v (.slice _ _ _)))) ?_
                | refine DL_c (op_ldR _ inferInstance rfl rfl (by first | rfl | exact isl_get _ _ (by omega) | exact bsl_get _ _ (by omega) | exact wsl_get0 _ _ (by omega) | exact wsl_get1 _ _ (by omega) | assumption) rfl) ?_
                | refine DL_c (op_ldF _ inferInstance rfl (by first | rfl | exact isl_get _ _ (by omega) | exact bsl_get _ _ (by omega) | exact wsl_get0 _ _ (by omega) | exact wsl_get1 _ _ (by omega) | assumption) rfl) ?_
              refine DL_c (op_mv _ (rfl : _ = AV.v (.int _ _))) ?_
              first
                | refine DL_c (op_quo _ _ rfl rfl (by omega) (IntWalk.i64_quo _ _ (by omega))) ?_
                | refine DL_c (op_quo _ _ rfl rfl (by omega) rfl) ?_
              refine DL_c (op_mv _ (rfl : _ = AV.v (.int _ _))) ?_
              first
                | refine DL_c (op_conv _ Try.underlying3 Try.underlying51 rfl (i64w (by omega))) ?_
                | refine DL_c (op_conv _ Try.underlying3 Try.underlying51 rfl (u64w (by omega))) ?_
                | refine DL_c (op_conv _ Try.underlying3 Try.underlying51 rfl rfl) ?_
              refine DL_c (op_shr _ _ rfl rfl (by omega) (shr_at _ _ (by omega))) ?_
              refine DL_c (op_rem _ _ rfl rfl (by omega) (Int.tmod_eq_emod_of_nonneg (Int.ediv_nonneg (by omega) (Int.pow_nonneg (by decide))))) ?_
              refine DL_c (op_eql _ _ rfl rfl rfl) ?_
              first
                | refine DL_c (op_bsF _ _ inferInstance rfl (by rfl) (by simp <;> rfl) (by decide) rfl) ?_
                | refine DL_c (op_bs (61, 0) _ _ inferInstance rfl (by rfl) (by simp <;> rfl) (by decide) rfl rfl) ?_
              refine DL_c (op_ap (62, 0) _ _ inferInstance rfl rfl (by simp [bits_len]) (.sl (m := 1) rfl) (by omega) rfl (bits_snoc n j) rfl) ?_
              first
                | refine DL_c (op_fldP _ inferInstance rfl rfl rfl) ?_
                | refine DL_c (op_fldF _ inferInstance rfl rfl) ?_
              first
                | refine DL_c (op_stB _ _ inferInstance rfl rfl rfl rfl (Nat.le_of_ble_eq_true rfl) rfl) ?_
                | refine DL_c (op_stR _ _ inferInstance rfl rfl rfl rfl rfl (by first | exact Nat.le_of_ble_eq_true rfl | (simp; omega)) rfl) ?_
              refine DL_nil (hK35 _ ?_)
              clear hK35; try clear K35
              refine D_region ?_
              refine DL_c (op_mv _ (rfl : _ = AV.v (.int _ _))) ?_
              first
                | refine DL_c (op_add _ _ rfl rfl (i64w (by omega))) ?_
                | refine DL_c (op_add _ _ rfl rfl rfl) ?_
              refine DL_c (op_as _ (rfl : _ = AV.v (.int _ _))) ?_
              refine DL_nil ?_
              exact ⟨j + 1, by omega, Le.mkI [((60, 0), (62, 0))] [] rfl ⟨.sl, .ref, .v, .v, .ptr, lvI (by omega), trivial⟩ rfl rfl rfl trivial ⟨⟨rfl, ⟨_, rfl, .rowE rfl⟩, rfl⟩, ⟨rfl, ⟨_, rfl, .box rfl (lv_cons .v (lv_cons .v (lv_cons .v (lv_cons .ref lv_nil))))⟩, rfl⟩, ⟨rfl, ⟨_, rfl, .rowE rfl⟩, rfl⟩, trivial⟩ trivial rfl, by omega⟩
            · try simp only [decide_eq_true_eq, decide_eq_false_iff_not, bne_iff_ne, bne_eq_false_iff_eq, beq_iff_eq, beq_eq_false_iff_ne, Bool.not_eq_true', Bool.not_eq_false', ne_eq, Int.not_lt, Int.not_le] at hc49
              have hjq : j = (n / 16 % 6).toNat := by omega
              refine D_exit ?_
              refine id (hK29 _ ?_)
              clear hK29; try clear K29
              refine D_seq fun K36 hK36 => ?_
              refine D_seq fun K37 hK37 => ?_
              refine D_region ?_
              refine DL_c (op_mv _ (rfl : _ = AV.v (.int _ _))) ?_
              first
                | refine DL_c (op_rem _ _ rfl rfl (by omega) (Int.tmod_eq_emod_of_nonneg (by omega))) ?_
                | refine DL_c (op_rem _ _ rfl rfl (by omega) rfl) ?_
              refine DL_c (op_eql _ _ rfl rfl b3) ?_
              refine DL_nil (hK37 _ ?_)
              clear hK37; try clear K37
              refine D_cF rfl rfl ?_
              refine D_skip (hK36 _ ?_)
              clear hK36; try clear K36
              refine D_region ?_
              first
                | refine DL_c (op_mv _ (rfl : _ = AV.sl _ _)) ?_
                | refine DL_c (op_mv _ (rfl : _ = AV.ref _ _ _)) ?_
                | refine DL_c (op_mv _ (rfl : _ = AV.v (.slice _ _ _))) ?_
              refine DL_le (Le.frzB (6, 0) 3 (ys := bsl (bits n j)) rfl rfl rfl rfl (by exact List.take_of_length_le (by simp [bits_len])) (by simp [bits_len])) ?_
              first
                | refine DL_c (op_ldBA _ inferInstance rfl rfl rfl rfl) ?_
                | refine DL_c (op_ldRA _ inferInstance rfl rfl (by first | rfl | assumption) rfl) ?_
                | refine DL_c (op_ldFA _ inferInstance rfl (by first | rfl | assumption) rfl) ?_
              first
                | refine DL_c (op_bsF _ _ inferInstance rfl (by rfl) (by simp <;> rfl) (by decide) rfl) ?_
                | refine DL_c (op_bs (74, 0) _ _ inferInstance rfl (by rfl) (by simp <;> rfl) (by decide) rfl rfl) ?_
              refine DL_c (op_ap (75, 0) _ _ inferInstance rfl rfl (by simp; omega) (.sl (m := 1) rfl) (by omega) rfl rfl rfl) ?_
              first
                | refine DL_c (op_asN (3, 0) _ 37 4 rfl rfl) ?_
                | refine DL_c (op_as _ (rfl : _ = AV.ref _ _ _)) ?_
              refine DL_nil (hK7 _ ?_)
              clear hK7; try clear K7
              refine D_region ?_
              refine DL_c (op_mv _ (rfl : _ = AV.v (.int _ _))) ?_
              first
                | refine DL_c (op_add _ _ rfl rfl (i64w (by omega))) ?_
                | refine DL_c (op_add _ _ rfl rfl rfl) ?_
              refine DL_c (op_as _ (rfl : _ = AV.v (.int _ _))) ?_
              refine DL_nil ?_
              refine ⟨k + 1, ⟨by omega, by omega⟩, Le.mkI [((3, 0), (75, 0))] [] rfl ⟨.sl, .ref, lvI (by omega), trivial⟩ rfl rfl rfl trivial ⟨⟨rfl, ⟨_, rfl, .rowE ?_⟩, rfl⟩, trivial⟩ trivial rfl, by omega⟩
              rw [hsn, hjq]
              simp [opc, opD, opC, opV, opB, h, bits_len]
        · skip
          have b0 : (n % 16 == 0) = false := by simp; omega
          have b1 : (n % 16 == 1) = false := by simp; omega
          have b2 : (n % 16 == 2) = false := by simp; omega
          have b3 : (n % 16 == 3) = true := by simp; omega
          refine D_region ?_
          refine DL_c (op_mv _ (rfl : _ = AV.v (.int _ _))) ?_
          first
            | refine DL_c (op_quo _ _ rfl rfl (by omega) (IntWalk.i64_quo _ _ (by omega))) ?_
            | refine DL_c (op_quo _ _ rfl rfl (by omega) rfl) ?_
          first
            | refine DL_c (op_rem _ _ rfl rfl (by omega) (Int.tmod_eq_emod_of_nonneg (by omega))) ?_
            | refine DL_c (op_rem _ _ rfl rfl (by omega) rfl) ?_
          first
            | refine DL_c (op_sub _ _ rfl rfl (i64w (by omega))) ?_
            | refine DL_c (op_sub _ _ rfl rfl rfl) ?_
          refine DL_c (op_mv _ (rfl : _ = AV.v (.int _ _))) ?_
          first
            | refine DL_c (op_quo _ _ rfl rfl (by omega) (IntWalk.i64_quo _ _ (by omega))) ?_
            | refine DL_c (op_quo _ _ rfl rfl (by omega) rfl) ?_
          first
            | refine DL_c (op_rem _ _ rfl rfl (by omega) (Int.tmod_eq_emod_of_nonneg (by omega))) ?_
            | refine DL_c (op_rem _ _ rfl rfl (by omega) rfl) ?_
          first
            | refine DL_c (op_sub _ _ rfl rfl (i64w (by omega))) ?_
            | refine DL_c (op_sub _ _ rfl rfl rfl) ?_
          refine DL_c (op_build _ inferInstance rfl (by exact (rfl : _ = some [_, _, _, _]))) ?_
          refine DL_c (op_alloc (6, 0) inferInstance rfl rfl) ?_
          first
            | refine DL_c (op_stB _ _ inferInstance rfl rfl rfl rfl (Nat.le_of_ble_eq_true rfl) rfl) ?_
            | refine DL_c (op_stR _ _ inferInstance rfl rfl rfl rfl rfl (by first | exact Nat.le_of_ble_eq_true rfl | (simp; omega)) rfl) ?_
          refine DL_nil (hK9 _ ?_)
          clear hK9; try clear K9
          refine D_seq fun K38 hK38 => ?_
          refine D_seq fun K39 hK39 => ?_
          refine D_region ?_
          refine DL_c (op_mv _ (rfl : _ = AV.v (.int _ _))) ?_
          first
            | refine DL_c (op_rem _ _ rfl rfl (by omega) (Int.tmod_eq_emod_of_nonneg (by omega))) ?_
            | refine DL_c (op_rem _ _ rfl rfl (by omega) rfl) ?_
          refine DL_c (op_eql _ _ rfl rfl b0) ?_
          refine DL_nil (hK39 _ ?_)
          clear hK39; try clear K39
          refine D_cF rfl rfl ?_
          refine D_skip (hK38 _ ?_)
          clear hK38; try clear K38
          refine D_seq fun K40 hK40 => ?_
          refine D_seq fun K41 hK41 => ?_
          refine D_region ?_
          refine DL_c (op_mv _ (rfl : _ = AV.v (.int _ _))) ?_
          first
            | refine DL_c (op_rem _ _ rfl rfl (by omega) (Int.tmod_eq_emod_of_nonneg (by omega))) ?_
            | refine DL_c (op_rem _ _ rfl rfl (by omega) rfl) ?_
          refine DL_c (op_eql _ _ rfl rfl b1) ?_
          refine DL_c (op_mv _ (rfl : _ = AV.v (.bool _))) ?_
          refine DL_cy rfl rfl (op_mv _ (rfl : _ = AV.v (.int _ _))) ?_
          first
            | refine DL_cy rfl rfl (op_rem _ _ rfl rfl (by omega) (Int.tmod_eq_emod_of_nonneg (by omega))) ?_
            | refine DL_cy rfl rfl (op_rem _ _ rfl rfl (by omega) rfl) ?_
          refine DL_cy rfl rfl (op_eql _ _ rfl rfl b2) ?_
          refine DL_c (op_pick _ _ _ rfl (rfl : _ = AV.v (.bool _))) ?_
          refine DL_nil (hK41 _ ?_)
          clear hK41; try clear K41
          refine D_cF rfl rfl ?_
          refine D_skip (hK40 _ ?_)
          clear hK40; try clear K40
          refine D_seq fun K42 hK42 => ?_
          refine D_seq fun K43 hK43 => ?_
          refine D_region ?_
          refine DL_c (op_mv _ (rfl : _ = AV.v (.int _ _))) ?_
          first
            | refine DL_c (op_rem _ _ rfl rfl (by omega) (Int.tmod_eq_emod_of_nonneg (by omega))) ?_
            | refine DL_c (op_rem _ _ rfl rfl (by omega) rfl) ?_
          refine DL_c (op_eql _ _ rfl rfl b3) ?_
          refine DL_nil (hK43 _ ?_)
          clear hK43; try clear K43
          refine D_cT rfl rfl ?_
          refine D_seq fun K44 hK44 => ?_
          refine D_region ?_
          first
            | refine DL_c (op_fldP _ inferInstance rfl rfl rfl) ?_
            | refine DL_c (op_fldF _ inferInstance rfl rfl) ?_
          first
            | refine DL_c (op_stB _ _ inferInstance rfl rfl rfl rfl (Nat.le_of_ble_eq_true rfl) rfl) ?_
            | refine DL_c (op_stR _ _ inferInstance rfl rfl rfl rfl rfl (by first | exact Nat.le_of_ble_eq_true rfl | (simp; omega)) rfl) ?_
          refine DL_nil (hK44 _ ?_)
          clear hK44; try clear K44
          refine D_region ?_
          refine DL_c (op_mv _ (rfl : _ = AV.v (.int _ _))) ?_
          first
            | refine DL_c (op_quo _ _ rfl rfl (by omega) (IntWalk.i64_quo _ _ (by omega))) ?_
            | refine DL_c (op_quo _ _ rfl rfl (by omega) rfl) ?_
          first
            | refine DL_c (op_rem _ _ rfl rfl (by omega) (Int.tmod_eq_emod_of_nonneg (by omega))) ?_
            | refine DL_c (op_rem _ _ rfl rfl (by omega) rfl) ?_
          first
            | refine DL_c (op_fldP _ inferInstance rfl rfl rfl) ?_
            | refine DL_c (op_fldF _ inferInstance rfl rfl) ?_
          first
            | refine DL_c (op_stB _ _ inferInstance rfl rfl rfl rfl (Nat.le_of_ble_eq_true rfl) rfl) ?_
            | refine DL_c (op_stR _ _ inferInstance rfl rfl rfl rfl rfl (by first | exact Nat.le_of_ble_eq_true rfl | (simp; omega)) rfl) ?_
          refine DL_nil (hK42 _ ?_)
          clear hK42; try clear K42
          refine D_region ?_
          first
            | refine DL_c (op_mv _ (rfl : _ = AV.sl _ _)) ?_
            | refine DL_c (op_mv _ (rfl : _ = AV.ref _ _ _)) ?_
            | refine DL_c (op_mv _ (rfl : _ = AV.v (.slice _ _ _))) ?_
          refine DL_le (Le.nil0 (6, 0) 3 rfl rfl) ?_
          first
            | refine DL_c (op_ldBA _ inferInstance rfl rfl rfl rfl) ?_
            | refine DL_c (op_ldRA _ inferInstance rfl rfl (by first | rfl | assumption) rfl) ?_
            | refine DL_c (op_ldFA _ inferInstance rfl (by first | rfl | assumption) rfl) ?_
          first
            | refine DL_c (op_bsF _ _ inferInstance rfl (by rfl) (by simp <;> rfl) (by decide) rfl) ?_
            | refine DL_c (op_bs (74, 0) _ _ inferInstance rfl (by rfl) (by simp <;> rfl) (by decide) rfl rfl) ?_
          refine DL_c (op_ap (75, 0) _ _ inferInstance rfl rfl (by simp; omega) (.sl (m := 1) rfl) (by omega) rfl rfl rfl) ?_
          first
            | refine DL_c (op_asN (3, 0) _ 37 4 rfl rfl) ?_
            | refine DL_c (op_as _ (rfl : _ = AV.ref _ _ _)) ?_
          refine DL_nil (hK7 _ ?_)
          clear hK7; try clear K7
          refine D_region ?_
          refine DL_c (op_mv _ (rfl : _ = AV.v (.int _ _))) ?_
          first
            | refine DL_c (op_add _ _ rfl rfl (i64w (by omega))) ?_
            | refine DL_c (op_add _ _ rfl rfl rfl) ?_
          refine DL_c (op_as _ (rfl : _ = AV.v (.int _ _))) ?_
          refine DL_nil ?_
          refine ⟨k + 1, ⟨by omega, by omega⟩, Le.mkI [((3, 0), (75, 0))] [] rfl ⟨.sl, .ref, lvI (by omega), trivial⟩ rfl rfl rfl trivial ⟨⟨rfl, ⟨_, rfl, .rowE ?_⟩, rfl⟩, trivial⟩ trivial rfl, by omega⟩
          rw [hsn]
          simp [opc, opD, opC, opV, opB, h, bits_len, bsl]
        · skip
          have b0 : (n % 16 == 0) = false := by simp; omega
          have b1 : (n % 16 == 1) = false := by simp; omega
          have b2 : (n % 16 == 2) = false := by simp; omega
          have b3 : (n % 16 == 3) = false := by simp; omega
          refine D_region ?_
          refine DL_c (op_mv _ (rfl : _ = AV.v (.int _ _))) ?_
          first
            | refine DL_c (op_quo _ _ rfl rfl (by omega) (IntWalk.i64_quo _ _ (by omega))) ?_
            | refine DL_c (op_quo _ _ rfl rfl (by omega) rfl) ?_
          first
            | refine DL_c (op_rem _ _ rfl rfl (by omega) (Int.tmod_eq_emod_of_nonneg (by omega))) ?_
            | refine DL_c (op_rem _ _ rfl rfl (by omega) rfl) ?_
          first
            | refine DL_c (op_sub _ _ rfl rfl (i64w (by omega))) ?_
            | refine DL_c (op_sub _ _ rfl rfl rfl) ?_
          refine DL_c (op_mv _ (rfl : _ = AV.v (.int _ _))) ?_
          first
            | refine DL_c (op_quo _ _ rfl rfl (by omega) (IntWalk.i64_quo _ _ (by omega))) ?_
            | refine DL_c (op_quo _ _ rfl rfl (by omega) rfl) ?_
          first
            | refine DL_c (op_rem _ _ rfl rfl (by omega) (Int.tmod_eq_emod_of_nonneg (by omega))) ?_
            | refine DL_c (op_rem _ _ rfl rfl (by omega) rfl) ?_
          first
            | refine DL_c (op_sub _ _ rfl rfl (i64w (by omega))) ?_
            | refine DL_c (op_sub _ _ rfl rfl rfl) ?_
          refine DL_c (op_build _ inferInstance rfl (by exact (rfl : _ = some [_, _, _, _]))) ?_
          refine DL_c (op_alloc (6, 0) inferInstance rfl rfl) ?_
          first
            | refine DL_c (op_stB _ _ inferInstance rfl rfl rfl rfl (Nat.le_of_ble_eq_true rfl) rfl) ?_
            | refine DL_c (op_stR _ _ inferInstance rfl rfl rfl rfl rfl (by first | exact Nat.le_of_ble_eq_true rfl | (simp; omega)) rfl) ?_
          refine DL_nil (hK9 _ ?_)
          clear hK9; try clear K9
          refine D_seq fun K45 hK45 => ?_
          refine D_seq fun K46 hK46 => ?_
          refine D_region ?_
          refine DL_c (op_mv _ (rfl : _ = AV.v (.int _ _))) ?_
          first
            | refine DL_c (op_rem _ _ rfl rfl (by omega) (Int.tmod_eq_emod_of_nonneg (by omega))) ?_
            | refine DL_c (op_rem _ _ rfl rfl (by omega) rfl) ?_
          refine DL_c (op_eql _ _ rfl rfl b0) ?_
          refine DL_nil (hK46 _ ?_)
          clear hK46; try clear K46
          refine D_cF rfl rfl ?_
          refine D_skip (hK45 _ ?_)
          clear hK45; try clear K45
          refine D_seq fun K47 hK47 => ?_
          refine D_seq fun K48 hK48 => ?_
          refine D_region ?_
          refine DL_c (op_mv _ (rfl : _ = AV.v (.int _ _))) ?_
          first
            | refine DL_c (op_rem _ _ rfl rfl (by omega) (Int.tmod_eq_emod_of_nonneg (by omega))) ?_
            | refine DL_c (op_rem _ _ rfl rfl (by omega) rfl) ?_
          refine DL_c (op_eql _ _ rfl rfl b1) ?_
          refine DL_c (op_mv _ (rfl : _ = AV.v (.bool _))) ?_
          refine DL_cy rfl rfl (op_mv _ (rfl : _ = AV.v (.int _ _))) ?_
          first
            | refine DL_cy rfl rfl (op_rem _ _ rfl rfl (by omega) (Int.tmod_eq_emod_of_nonneg (by omega))) ?_
            | refine DL_cy rfl rfl (op_rem _ _ rfl rfl (by omega) rfl) ?_
          refine DL_cy rfl rfl (op_eql _ _ rfl rfl b2) ?_
          refine DL_c (op_pick _ _ _ rfl (rfl : _ = AV.v (.bool _))) ?_
          refine DL_nil (hK48 _ ?_)
          clear hK48; try clear K48
          refine D_cF rfl rfl ?_
          refine D_skip (hK47 _ ?_)
          clear hK47; try clear K47
          refine D_seq fun K49 hK49 => ?_
          refine D_seq fun K50 hK50 => ?_
          refine D_region ?_
          refine DL_c (op_mv _ (rfl : _ = AV.v (.int _ _))) ?_
          first
            | refine DL_c (op_rem _ _ rfl rfl (by omega) (Int.tmod_eq_emod_of_nonneg (by omega))) ?_
            | refine DL_c (op_rem _ _ rfl rfl (by omega) rfl) ?_
          refine DL_c (op_eql _ _ rfl rfl b3) ?_
          refine DL_nil (hK50 _ ?_)
          clear hK50; try clear K50
          refine D_cF rfl rfl ?_
          refine D_skip (hK49 _ ?_)
          clear hK49; try clear K49
          refine D_region ?_
          first
            | refine DL_c (op_mv _ (rfl : _ = AV.sl _ _)) ?_
            | refine DL_c (op_mv _ (rfl : _ = AV.ref _ _ _)) ?_
            | refine DL_c (op_mv _ (rfl : _ = AV.v (.slice _ _ _))) ?_
          refine DL_le (Le.nil0 (6, 0) 3 rfl rfl) ?_
          first
            | refine DL_c (op_ldBA _ inferInstance rfl rfl rfl rfl) ?_
            | refine DL_c (op_ldRA _ inferInstance rfl rfl (by first | rfl | assumption) rfl) ?_
            | refine DL_c (op_ldFA _ inferInstance rfl (by first | rfl | assumption) rfl) ?_
          first
            | refine DL_c (op_bsF _ _ inferInstance rfl (by rfl) (by simp <;> rfl) (by decide) rfl) ?_
            | refine DL_c (op_bs (74, 0) _ _ inferInstance rfl (by rfl) (by simp <;> rfl) (by decide) rfl rfl) ?_
          refine DL_c (op_ap (75, 0) _ _ inferInstance rfl rfl (by simp; omega) (.sl (m := 1) rfl) (by omega) rfl rfl rfl) ?_
          first
            | refine DL_c (op_asN (3, 0) _ 37 4 rfl rfl) ?_
            | refine DL_c (op_as _ (rfl : _ = AV.ref _ _ _)) ?_
          refine DL_nil (hK7 _ ?_)
          clear hK7; try clear K7
          refine D_region ?_
          refine DL_c (op_mv _ (rfl : _ = AV.v (.int _ _))) ?_
          first
            | refine DL_c (op_add _ _ rfl rfl (i64w (by omega))) ?_
            | refine DL_c (op_add _ _ rfl rfl rfl) ?_
          refine DL_c (op_as _ (rfl : _ = AV.v (.int _ _))) ?_
          refine DL_nil ?_
          refine ⟨k + 1, ⟨by omega, by omega⟩, Le.mkI [((3, 0), (75, 0))] [] rfl ⟨.sl, .ref, lvI (by omega), trivial⟩ rfl rfl rfl trivial ⟨⟨rfl, ⟨_, rfl, .rowE ?_⟩, rfl⟩, trivial⟩ trivial rfl, by omega⟩
          rw [hsn]
          simp [opc, opD, opC, opV, opB, h, bits_len, bsl]
      · try simp only [decide_eq_true_eq, decide_eq_false_iff_not, bne_iff_ne, bne_eq_false_iff_eq, beq_iff_eq, beq_eq_false_iff_ne, Bool.not_eq_true', Bool.not_eq_false', ne_eq, Int.not_lt, Int.not_le] at hc15
        refine D_exit ?_
        refine id (hK3 _ ?_)
        clear hK3; try clear K3
        refine D_seq fun K51 hK51 => ?_
        refine D_region ?_
        first
          | refine DL_c (op_mv _ (rfl : _ = AV.sl _ _)) ?_
          | refine DL_c (op_mv _ (rfl : _ = AV.ref _ _ _)) ?_
          | refine DL_c (op_mv _ (rfl : _ = AV.v (.slice _ _ _))) ?_
        first
          | refine DL_c (op_as _ (rfl : _ = AV.sl _ _)) ?_
          | refine DL_c (op_as _ (rfl : _ = AV.ref _ _ _)) ?_
          | refine DL_c (op_as _ (rfl : _ = AV.v (.slice _ _ _))) ?_
        refine DL_nil (hK51 _ ?_)
        clear hK51; try clear K51
        refine D_ret ?_
        refine ret1 (.inr rfl) rfl (.tmp (rfl : _ = AV.ref _ _ _)) ?_
        have htk : ls.take k = ls.take 20 := by
         by_cases h20 : k = 20
         · rw [h20]
         · rw [List.take_of_length_le (by omega), List.take_of_length_le (by omega)]
        rw [← htk, show (ls.take k).length = k by rw [List.length_take]; omega]
        exact Le.out [] [(3, 0)] (frz0 rfl rfl (by simp; omega) rfl) rfl rfl rfl ⟨rfl, trivial⟩ trivial
    · have hb_3 : decide ((k : Int) < (nl : Int)) = false := decide_eq_false hx3
      refine D_region ?_
      refine DL_c (op_mv _ (rfl : _ = AV.v (.int _ _))) ?_
      first
        | refine DL_c (op_mv _ (rfl : _ = AV.sl _ _)) ?_
        | refine DL_c (op_mv _ (rfl : _ = AV.ref _ _ _)) ?_
        | refine DL_c (op_mv _ (rfl : _ = AV.v (.slice _ _ _))) ?_
      first
        | refine DL_c (op_lenS _ inferInstance rfl) ?_
        | refine DL_c (op_lenR _ inferInstance rfl rfl) ?_
        | refine DL_c (op_lenN _ inferInstance rfl) ?_
      refine DL_c (op_lss _ _ rfl rfl hb_3) ?_
      refine DL_c (op_mv _ (rfl : _ = AV.v (.bool _))) ?_
      refine DL_cn rfl rfl (by decide) ?_
      refine DL_cn rfl rfl (by decide) ?_
      refine DL_c (op_pick _ _ _ rfl (rfl : _ = AV.v (.bool _))) ?_
      refine DL_nil (hK6 _ ?_)
      clear hK6; try clear K6
      refine D_cF rfl rfl ?_
      refine D_exit ?_
      refine id (hK3 _ ?_)
      clear hK3; try clear K3
      refine D_seq fun K52 hK52 => ?_
      refine D_region ?_
      first
        | refine DL_c (op_mv _ (rfl : _ = AV.sl _ _)) ?_
        | refine DL_c (op_mv _ (rfl : _ = AV.ref _ _ _)) ?_
        | refine DL_c (op_mv _ (rfl : _ = AV.v (.slice _ _ _))) ?_
      first
        | refine DL_c (op_as _ (rfl : _ = AV.sl _ _)) ?_
        | refine DL_c (op_as _ (rfl : _ = AV.ref _ _ _)) ?_
        | refine DL_c (op_as _ (rfl : _ = AV.v (.slice _ _ _))) ?_
      refine DL_nil (hK52 _ ?_)
      clear hK52; try clear K52
      refine D_ret ?_
      refine ret1 (.inr rfl) rfl (.tmp (rfl : _ = AV.ref _ _ _)) ?_
      have htk : ls.take k = ls.take 20 := by
       by_cases h20 : k = 20
       · rw [h20]
       · rw [List.take_of_length_le (by omega), List.take_of_length_le (by omega)]
      rw [← htk, show (ls.take k).length = k by rw [List.length_take]; omega]
      exact Le.out [] [(3, 0)] (frz0 rfl rfl (by simp; omega) rfl) rfl rfl rfl ⟨rfl, trivial⟩ trivial
end Go.Proofs.Ytphlaojoehmhaaa
