/- An order's functions by the machine: join, below, Covers; lists of pairs. -/
import Derived.Test.YtkbkmngbenohkaaOrA2
import Derived.Test.YtkbkmngbenohkaaFacts3
set_option linter.unusedSimpArgs false
set_option linter.unusedVariables false
namespace Go.Proofs.Ytkbkmngbenohkaa
open Go.RowKit

theorem join_spec (s t : Nat) (hs : s < 18446744073709551616) (ht : t < 18446744073709551616) :
    Spec Try.prog 82 (inStI [.ref (0, 9) 0 1, .sl 1 (ul [t])] [((0, 9), .row 124 1 (ul [s]))]) (outStI (.tup []) [((0, 9), .row 124 1 (ul [s ||| t]))] [(0, 9)] [(0, 9)]) := by
  refine Spec.ofNI Try.func82 rfl Try.ntmps82 rfl ?_
  refine D_seq fun K1 hK1 => ?_
  refine D_region ?_
  refine DL_c (op_mv _ (rfl : _ = AV.sl _ _)) ?_
  refine DL_c (op_lenS _ inferInstance rfl) ?_
  refine DL_c (op_mv _ (rfl : _ = AV.v (.int _ _))) ?_
  refine DL_nil (hK1 _ ?_)
  clear hK1; try clear K1
  refine D_block ?_
  refine D_loopL (α := Nat) (fun k => k ≤ 1) 21 [(0, _), (6, _), (7, _)] [] (fun k => [(8, .v (.int .i64 (k : Int)))]) (fun k => [((0, 9), .row 124 1 (ul [if k = 0 then s else s ||| t]))]) [(0, 9)] [(0, 9)] (fun k => 1 - k) 0 ?_ (by
    refine Le.mkJ [] [] rfl ?_ ?_ trivial ⟨rfl, trivial⟩ ?_
    · exact ⟨(iR rfl), (iS rfl), (iV rfl), (lvI (by first | rfl | omega | (simp; done) | (simp; omega) | assumption)), trivial⟩
    · exact ⟨(obR rfl rfl rfl (by first | rfl | omega | (simp; done) | (simp; omega) | assumption)), trivial⟩
    · kernel_rfl) ?_
  · first | omega | trivial | exact ⟨by omega, by omega⟩
  intro k hk
  refine D_seq fun K2 hK2 => ?_
  refine D_region ?_
  first
    | refine DL_c (op_lss _ _ rfl rfl (by assumption)) ?_
    | refine DL_c (op_lss _ _ rfl rfl rfl) ?_
  refine DL_nil (hK2 _ ?_)
  clear hK2; try clear K2
  refine D_seq fun K3 hK3 => ?_
  refine D_splitC rfl (fun hc9 => ?_) (fun hc9 => ?_)
  · skip
    obtain rfl : k = 0 := by omega
    refine D_skip (hK3 _ ?_)
    clear hK3; try clear K3
    refine D_seq fun K4 hK4 => ?_
    refine D_block ?_
    refine D_seq fun K5 hK5 => ?_
    refine D_region ?_
    refine DL_c (op_mv _ (rfl : _ = AV.v (.int _ _))) ?_
    first
      | refine DL_c (op_ixS _ _ inferInstance rfl rfl _ rfl (by omega) (by first | assumption | decide | (simp only [isl_len, bsl_len, psl_len]; omega) | (simp; done) | (simp; omega) | (simp [isl, bsl]; omega)) (by first | exact Nat.mul_one _ | rfl | omega)) ?_
      | refine DL_c (op_ixS _ _ inferInstance rfl rfl (Int.toNat _) (Int.toNat_of_nonneg (by omega)).symm (by omega) (by first | assumption | decide | (simp only [isl_len, bsl_len, psl_len]; omega) | (simp; done) | (simp; omega) | (simp [isl, bsl]; omega)) (by first | exact Nat.mul_one _ | rfl | omega)) ?_
    refine DL_c (op_ldF _ inferInstance rfl (rfl : _ = some (PV.v (.int .u64 (t : Int)))) rfl) ?_
    refine DL_c (op_as _ (rfl : _ = AV.v (.int _ _))) ?_
    refine DL_c (op_as _ (rfl : _ = AV.v (.int _ _))) ?_
    refine DL_nil (hK5 _ ?_)
    clear hK5; try clear K5
    refine D_region ?_
    refine DL_c (op_mv _ (rfl : _ = AV.ref _ _ _)) ?_
    refine DL_c (op_mv _ (rfl : _ = AV.v (.int _ _))) ?_
    first
      | refine DL_c (op_ixR _ _ inferInstance rfl rfl rfl _ rfl (by omega) (by first | exact (Nat.zero_add _).trans (Nat.mul_one _) | exact Nat.zero_add _ | rfl | omega)) ?_
      | refine DL_c (op_ixR _ _ inferInstance rfl rfl rfl (Int.toNat _) (Int.toNat_of_nonneg (by omega)).symm (by omega) (by first | exact (Nat.zero_add _).trans (Nat.mul_one _) | exact Nat.zero_add _ | rfl | omega)) ?_
    refine DL_c (op_ldR _ inferInstance rfl rfl (rfl : _ = some (PV.v (.int .u64 (s : Int)))) rfl) ?_
    refine DL_c (op_mv _ (rfl : _ = AV.v (.int _ _))) ?_
    refine DL_c (op_or _ _ rfl rfl (u64_or s t hs ht)) ?_
    first
      | refine DL_c (op_ixR _ _ inferInstance rfl rfl rfl _ rfl (by omega) (by first | exact (Nat.zero_add _).trans (Nat.mul_one _) | exact Nat.zero_add _ | rfl | omega)) ?_
      | refine DL_c (op_ixR _ _ inferInstance rfl rfl rfl (Int.toNat _) (Int.toNat_of_nonneg (by omega)).symm (by omega) (by first | exact (Nat.zero_add _).trans (Nat.mul_one _) | exact Nat.zero_add _ | rfl | omega)) ?_
    first
      | refine DL_c (op_stB _ _ inferInstance rfl rfl rfl rfl (Nat.le_of_ble_eq_true rfl) rfl) ?_
      | refine DL_c (op_stR _ _ inferInstance rfl rfl rfl rfl rfl (by first | exact Nat.le_of_ble_eq_true rfl | (simp only [isl_len, bsl_len, psl_len, List.length_cons, List.length_nil]; omega) | (simp; done) | (simp; omega)) rfl) ?_
    refine DL_nil (hK4 _ ?_)
    clear hK4; try clear K4
    refine D_region ?_
    first
      | refine DL_c (op_add _ _ rfl rfl (i64w (by omega))) ?_
      | refine DL_c (op_add _ _ rfl rfl rfl) ?_
    refine DL_c (op_mv _ (rfl : _ = AV.v (.int _ _))) ?_
    refine DL_nil ?_
    refine ⟨1, ?_, ?_, ?_⟩
    · first | omega | trivial | exact ⟨by omega, by omega⟩
    · skip
      refine Le.mkJ [] [] rfl ?_ ?_ trivial ⟨rfl, trivial⟩ ?_
      · exact ⟨(iR rfl), (iS rfl), (iV rfl), (lvI (by first | rfl | omega | (simp; done) | (simp; omega) | assumption)), trivial⟩
      · exact ⟨(obR rfl rfl rfl (by first | rfl | omega | (simp; done) | (simp; omega) | assumption)), trivial⟩
      · kernel_rfl
    · omega
  · skip
    obtain rfl : k = 1 := by omega
    refine D_exit ?_
    refine id ?_
    exact ret0 (.inl rfl) rfl (Le.outI [] [] (.tup rfl lv_nil) rfl rfl rfl trivial ⟨⟨rfl, ⟨_, rfl, .rowE rfl⟩, rfl⟩, trivial⟩ ⟨rfl, trivial⟩ rfl)

abbrev Lt := Nat → Nat → Bool
def wlt (ab : List Nat) : Lt := fun i j => (ab.getD i 0).testBit j
theorem oless_nat (n : Nat) (ab : List Nat) (a b : Nat) (ha : a < n) (hb : b < n) : oless n ab a b = wlt ab a b := by
  have h1 : inn n a = true := inn_iff.2 (by omega)
  have h2 : inn n b = true := inn_iff.2 (by omega)
  simp [oless, h1, h2, wlt]
/-- For each element how many are less. -/
def cnt (n : Nat) (lt : Lt) (b : Nat) : Nat := ((List.range n).filter fun a => lt a b).length
theorem words1 (n : Nat) (h1 : 1 ≤ n) (h2 : n ≤ 64) : IntKind.i64.wrap (((n : Int) + 63).tdiv 64) = 1 := by
  rw [Int.tdiv_eq_ediv_of_nonneg (by omega), show ((n : Int) + 63) / 64 = 1 by omega]; rfl

end Go.Proofs.Ytkbkmngbenohkaa
