/- An order's functions by the machine: join, below, Covers; lists of pairs. -/
import Derived.Test.YtkbkmngbenohkaaOwA2
import Derived.Test.YtkbkmngbenohkaaOwFacts3
set_option linter.unusedSimpArgs false
set_option linter.unusedVariables false
namespace Go.Proofs.Ytkbkmngbenohkaa
open Go.RowKit

theorem samepairs_spec (n m : Nat) (xs ys : List (Int × Int)) (hn : xs.length = n) (hm : ys.length = m) (h1 : n ≤ 4611686018427387904) (h2 : m ≤ 4611686018427387904) :
    Spec Try.prog 35 (inSt [.sl n (psl xs), .sl m (psl ys)] []) (outSt (.v (.bool (decide (xs = ys)))) []) := by
  subst hn; subst hm
  refine Spec.ofN Try.func35 rfl Try.ntmps35 rfl ?_
  refine D_seq fun K1 hK1 => ?_
  refine D_region ?_
  refine DL_c (op_as _ (rfl : _ = AV.v (.bool _))) ?_
  refine DL_nil (hK1 _ ?_)
  clear hK1; try clear K1
  refine D_seq fun K2 hK2 => ?_
  refine D_seq fun K3 hK3 => ?_
  refine D_region ?_
  first
    | refine DL_c (op_mv _ (rfl : _ = AV.sl _ _)) ?_
    | refine DL_c (op_mv _ (rfl : _ = AV.ref _ _ _)) ?_
    | refine DL_c (op_mv _ (rfl : _ = AV.v (.slice _ _ _))) ?_
    | refine DL_c (op_mv _ (rfl : _ = AV.z)) ?_
  first
    | refine DL_c (op_lenS _ inferInstance rfl) ?_
    | refine DL_c (op_lenR _ inferInstance rfl rfl) ?_
    | refine DL_c (op_lenN _ inferInstance rfl) ?_
    | refine DL_c (op_lenB _ inferInstance rfl rfl) ?_
    | refine DL_c (op_lenZ _ inferInstance rfl) ?_
  first
    | refine DL_c (op_mv _ (rfl : _ = AV.sl _ _)) ?_
    | refine DL_c (op_mv _ (rfl : _ = AV.ref _ _ _)) ?_
    | refine DL_c (op_mv _ (rfl : _ = AV.v (.slice _ _ _))) ?_
    | refine DL_c (op_mv _ (rfl : _ = AV.z)) ?_
  first
    | refine DL_c (op_lenS _ inferInstance rfl) ?_
    | refine DL_c (op_lenR _ inferInstance rfl rfl) ?_
    | refine DL_c (op_lenN _ inferInstance rfl) ?_
    | refine DL_c (op_lenB _ inferInstance rfl rfl) ?_
    | refine DL_c (op_lenZ _ inferInstance rfl) ?_
  first
    | refine DL_c (op_neq _ _ rfl rfl (by assumption)) ?_
    | refine DL_c (op_neq _ _ rfl rfl rfl) ?_
  refine DL_nil (hK3 _ ?_)
  clear hK3; try clear K3
  refine D_splitC rfl (fun hc10 => ?_) (fun hc10 => ?_)
  · skip
    refine D_seq fun K4 hK4 => ?_
    refine D_region ?_
    refine DL_c (op_as _ (rfl : _ = AV.v (.bool _))) ?_
    refine DL_nil (hK4 _ ?_)
    clear hK4; try clear K4
    refine D_ret ?_
    refine ret1 (.inr rfl) rfl (.tmp (rfl : _ = AV.v (.bool _))) (Le.out [] [] (lvB ?_) rfl rfl rfl trivial trivial)
    exact decide_eq_false fun h => by subst h; omega
  · skip
    refine D_skip (hK2 _ ?_)
    clear hK2; try clear K2
    refine D_seq fun K5 hK5 => ?_
    refine D_seq fun K6 hK6 => ?_
    refine D_region ?_
    refine DL_c (op_as _ (rfl : _ = AV.v (.int _ _))) ?_
    refine DL_nil (hK6 _ ?_)
    clear hK6; try clear K6
    refine D_block ?_
    refine D_loopL (α := Nat) (fun k => k ≤ xs.length ∧ xs.length = ys.length ∧ xs.take k = ys.take k) 26 [(0, _), (1, _)] [] (fun k => [(5, .v (.int .i64 (k : Int)))]) (fun k => []) [] [] (fun k => xs.length - k) 0 ?_ (by
      refine Le.mkJ [] [] rfl ?_ ?_ trivial trivial ?_
      · exact ⟨(by first | exact iS rfl | exact iR rfl | exact iV rfl | exact iZ rfl | exact iD rfl), (by first | exact iS rfl | exact iR rfl | exact iV rfl | exact iZ rfl | exact iD rfl), (lvI (by first | rfl | omega | (simp; done) | (simp; omega) | assumption)), trivial⟩
      · exact trivial
      · kernel_rfl) ?_
    · exact ⟨by omega, by omega, rfl⟩
    intro k hk
    obtain ⟨hk, hl, ht⟩ := hk
    refine D_seq fun K7 hK7 => ?_
    refine D_seq fun K8 hK8 => ?_
    refine D_region ?_
    refine DL_c (op_mv _ (rfl : _ = AV.v (.int _ _))) ?_
    first
      | refine DL_c (op_mv _ (rfl : _ = AV.sl _ _)) ?_
      | refine DL_c (op_mv _ (rfl : _ = AV.ref _ _ _)) ?_
      | refine DL_c (op_mv _ (rfl : _ = AV.v (.slice _ _ _))) ?_
      | refine DL_c (op_mv _ (rfl : _ = AV.z)) ?_
    first
      | refine DL_c (op_lenS _ inferInstance rfl) ?_
      | refine DL_c (op_lenR _ inferInstance rfl rfl) ?_
      | refine DL_c (op_lenN _ inferInstance rfl) ?_
      | refine DL_c (op_lenB _ inferInstance rfl rfl) ?_
      | refine DL_c (op_lenZ _ inferInstance rfl) ?_
    first
      | refine DL_c (op_lss _ _ rfl rfl (by assumption)) ?_
      | refine DL_c (op_lss _ _ rfl rfl rfl) ?_
    refine DL_nil (hK8 _ ?_)
    clear hK8; try clear K8
    refine D_splitC rfl (fun hc14 => ?_) (fun hc14 => ?_)
    · skip
      have hkx : k < xs.length := by omega
      have hky : k < ys.length := by omega
      refine D_skip (hK7 _ ?_)
      clear hK7; try clear K7
      refine D_seq fun K9 hK9 => ?_
      refine D_block ?_
      refine D_seq fun K10 hK10 => ?_
      refine D_le (σ' := mkStI 26 [(0, _), (1, _), (5, _)] [] [] []) (by
        refine Le.mkJ [] [] rfl ?_ ?_ trivial trivial ?_
        · exact ⟨(by first | exact iS rfl | exact iR rfl | exact iV rfl | exact iZ rfl | exact iD rfl), (by first | exact iS rfl | exact iR rfl | exact iV rfl | exact iZ rfl | exact iD rfl), (iV rfl), trivial⟩
        · exact trivial
        · kernel_rfl) ?_
      refine D_anyL 9 [17, 18, 19, 20, 21, 22, 23, 24, 25] [] (by kernel_rfl) (by kernel_rfl) rfl (nodupO_iff rfl) (rfl : _ = [_, _, _, _, _, _, _, _, _]) (rfl : _ = []) ?_
      first
        | refine any_c (_, []) (fun τ => op_mv _ (rfl : _ = AV.sl _ _)) ?_
        | refine any_c (_, []) (fun τ => op_mv _ (rfl : _ = AV.ref _ _ _)) ?_
        | refine any_c (_, []) (fun τ => op_mv _ (rfl : _ = AV.v (.slice _ _ _))) ?_
        | refine any_c (_, []) (fun τ => op_mv _ (rfl : _ = AV.z)) ?_
      refine any_n (rfl : _ = [_]) ?_
      refine any_c (_, []) (fun τ => op_mv _ (rfl : _ = AV.v (.int _ _))) ?_
      refine any_n (rfl : _ = [_, _]) ?_
      first
        | refine any_c (_, []) (fun τ => op_ixS _ _ inferInstance rfl rfl _ rfl (by omega) (by first | assumption | decide | (simp only [isl_len, bsl_len, psl_len]; omega) | (simp; done) | (simp; omega) | (simp [isl, bsl]; omega)) (by first | exact Nat.mul_one _ | rfl | omega)) ?_
        | refine any_c (_, []) (fun τ => op_ixS _ _ inferInstance rfl rfl (Int.toNat _) (Int.toNat_of_nonneg (by omega)).symm (by omega) (by first | assumption | decide | (simp only [isl_len, bsl_len, psl_len]; omega) | (simp; done) | (simp; omega) | (simp [isl, bsl]; omega)) (by first | exact Nat.mul_one _ | rfl | omega)) ?_
        | refine any_c (_, []) (fun τ => op_ixR _ _ inferInstance rfl rfl rfl _ rfl (by omega) (by first | exact (Nat.zero_add _).trans (Nat.mul_one _) | exact Nat.zero_add _ | rfl | omega)) ?_
        | refine any_c (_, []) (fun τ => op_ixR _ _ inferInstance rfl rfl rfl (Int.toNat _) (Int.toNat_of_nonneg (by omega)).symm (by omega) (by first | exact (Nat.zero_add _).trans (Nat.mul_one _) | exact Nat.zero_add _ | rfl | omega)) ?_
        | refine any_c (_, []) (fun τ => op_ixB _ _ inferInstance rfl rfl rfl _ rfl (by omega) (by first | exact (Nat.zero_add _).trans (Nat.mul_one _) | exact Nat.zero_add _ | rfl | omega)) ?_
        | refine any_c (_, []) (fun τ => op_ixB _ _ inferInstance rfl rfl rfl (Int.toNat _) (Int.toNat_of_nonneg (by omega)).symm (by omega) (by first | exact (Nat.zero_add _).trans (Nat.mul_one _) | exact Nat.zero_add _ | rfl | omega)) ?_
      refine any_n (rfl : _ = [_, _, _]) ?_
      refine any_c (_, []) (fun τ => op_ldFA _ inferInstance rfl (by exact psl_geta _ _ (by omega)) rfl) ?_
      refine any_n (rfl : _ = [_, _, _, _]) ?_
      first
        | refine any_c (_, []) (fun τ => op_mv _ (rfl : _ = AV.sl _ _)) ?_
        | refine any_c (_, []) (fun τ => op_mv _ (rfl : _ = AV.ref _ _ _)) ?_
        | refine any_c (_, []) (fun τ => op_mv _ (rfl : _ = AV.v (.slice _ _ _))) ?_
        | refine any_c (_, []) (fun τ => op_mv _ (rfl : _ = AV.z)) ?_
      refine any_n (rfl : _ = [_, _, _, _, _]) ?_
      refine any_c (_, []) (fun τ => op_mv _ (rfl : _ = AV.v (.int _ _))) ?_
      refine any_n (rfl : _ = [_, _, _, _, _, _]) ?_
      first
        | refine any_c (_, []) (fun τ => op_ixS _ _ inferInstance rfl rfl _ rfl (by omega) (by first | assumption | decide | (simp only [isl_len, bsl_len, psl_len]; omega) | (simp; done) | (simp; omega) | (simp [isl, bsl]; omega)) (by first | exact Nat.mul_one _ | rfl | omega)) ?_
        | refine any_c (_, []) (fun τ => op_ixS _ _ inferInstance rfl rfl (Int.toNat _) (Int.toNat_of_nonneg (by omega)).symm (by omega) (by first | assumption | decide | (simp only [isl_len, bsl_len, psl_len]; omega) | (simp; done) | (simp; omega) | (simp [isl, bsl]; omega)) (by first | exact Nat.mul_one _ | rfl | omega)) ?_
        | refine any_c (_, []) (fun τ => op_ixR _ _ inferInstance rfl rfl rfl _ rfl (by omega) (by first | exact (Nat.zero_add _).trans (Nat.mul_one _) | exact Nat.zero_add _ | rfl | omega)) ?_
        | refine any_c (_, []) (fun τ => op_ixR _ _ inferInstance rfl rfl rfl (Int.toNat _) (Int.toNat_of_nonneg (by omega)).symm (by omega) (by first | exact (Nat.zero_add _).trans (Nat.mul_one _) | exact Nat.zero_add _ | rfl | omega)) ?_
        | refine any_c (_, []) (fun τ => op_ixB _ _ inferInstance rfl rfl rfl _ rfl (by omega) (by first | exact (Nat.zero_add _).trans (Nat.mul_one _) | exact Nat.zero_add _ | rfl | omega)) ?_
        | refine any_c (_, []) (fun τ => op_ixB _ _ inferInstance rfl rfl rfl (Int.toNat _) (Int.toNat_of_nonneg (by omega)).symm (by omega) (by first | exact (Nat.zero_add _).trans (Nat.mul_one _) | exact Nat.zero_add _ | rfl | omega)) ?_
      refine any_n (rfl : _ = [_, _, _, _, _, _, _]) ?_
      refine any_c (_, []) (fun τ => op_ldFA _ inferInstance rfl (by exact psl_geta _ _ (by omega)) rfl) ?_
      refine any_n (rfl : _ = [_, _, _, _, _, _, _, _]) ?_
      refine any_c (_, []) (fun τ => op_neA2 _ _ Try.underlying38 (by kernel_rfl) Try.underlying3 (by kernel_rfl) (by kernel_rfl) rfl rfl rfl) ?_
      refine any_n (rfl : _ = [_, _, _, _, _, _, _, _, _]) ?_
      refine any_end ⟨rfl, ?_⟩
      refine DL_nil (hK10 _ ?_)
      clear hK10; try clear K10
      refine D_splitC rfl (fun hc25 => ?_) (fun hc25 => ?_)
      · skip
        refine D_seq fun K11 hK11 => ?_
        refine D_region ?_
        refine DL_c (op_as _ (rfl : _ = AV.v (.bool _))) ?_
        refine DL_nil (hK11 _ ?_)
        clear hK11; try clear K11
        refine D_ret ?_
        refine ret1 (.inr rfl) rfl (.tmp (rfl : _ = AV.v (.bool _))) (Le.out [] [] (lvB ?_) rfl rfl rfl trivial trivial)
        exact decide_eq_false fun h => by subst h; simp at hc25
      · skip
        refine D_skip (hK9 _ ?_)
        clear hK9; try clear K9
        refine D_region ?_
        refine DL_c (op_mv _ (rfl : _ = AV.v (.int _ _))) ?_
        first
          | refine DL_c (op_add _ _ rfl rfl (i64w (by omega))) ?_
          | refine DL_c (op_add _ _ rfl rfl rfl) ?_
        refine DL_c (op_as _ (rfl : _ = AV.v (.int _ _))) ?_
        refine DL_nil ?_
        refine ⟨k + 1, ?_, ?_, ?_⟩
        · refine ⟨by omega, hl, ?_⟩
          rw [List.take_succ_eq_append_getElem hkx, List.take_succ_eq_append_getElem hky, ht]
          rw [getD_at _ _ _ hkx, getD_at _ _ _ hky] at hc25
          rw [Prod.ext hc25.1 hc25.2]
        · skip
          refine Le.mkJ [] [] rfl ?_ ?_ trivial trivial ?_
          · exact ⟨(by first | exact iS rfl | exact iR rfl | exact iV rfl | exact iZ rfl | exact iD rfl), (by first | exact iS rfl | exact iR rfl | exact iV rfl | exact iZ rfl | exact iD rfl), (lvI (by first | rfl | omega | (simp; done) | (simp; omega) | assumption)), trivial⟩
          · exact trivial
          · kernel_rfl
        · omega
    · skip
      refine D_exit ?_
      refine id (hK5 _ ?_)
      clear hK5; try clear K5
      refine D_seq fun K12 hK12 => ?_
      refine D_region ?_
      refine DL_c (op_as _ (rfl : _ = AV.v (.bool _))) ?_
      refine DL_nil (hK12 _ ?_)
      clear hK12; try clear K12
      refine D_ret ?_
      refine ret1 (.inr rfl) rfl (.tmp (rfl : _ = AV.v (.bool _))) (Le.out [] [] (lvB ?_) rfl rfl rfl trivial trivial)
      rw [List.take_of_length_le (by omega), List.take_of_length_le (by omega)] at ht
      exact decide_eq_true ht

theorem join_spec (s t : Nat) (hs : s < 18446744073709551616) (ht : t < 18446744073709551616) :
    Spec Try.prog 82 (inStI [.ref (0, 9) 0 1, .sl 1 (ul [t])] [((0, 9), .row 124 1 (ul [s]))]) (outStI (.tup []) [((0, 9), .row 124 1 (ul [s ||| t]))] [(0, 9)] [(0, 9)]) := by
  refine Spec.ofNI Try.func82 rfl Try.ntmps82 rfl ?_
  refine D_seq fun K1 hK1 => ?_
  refine D_region ?_
  refine DL_c (op_mv _ (rfl : _ = AV.sl _ _)) ?_
  refine DL_c (op_lenS _ inferInstance rfl) ?_
  refine DL_c (op_mv _ (rfl : _ = AV.v (.int _ _))) ?_
  refine DL_nil (hK1 _ ?_)
  clear hK1; try clear K1
  refine D_block ?_
  refine D_loopL (α := Nat) (fun k => k ≤ 1) 21 [(0, _), (6, _), (7, _)] [] (fun k => [(8, .v (.int .i64 (k : Int)))]) (fun k => [((0, 9), .row 124 1 (ul [if k = 0 then s else s ||| t]))]) [(0, 9)] [(0, 9)] (fun k => 1 - k) 0 ?_ (by
    refine Le.mkJ [] [] rfl ?_ ?_ trivial ⟨rfl, trivial⟩ ?_
    · exact ⟨(iR rfl), (iS rfl), (iV rfl), (lvI (by first | rfl | omega | (simp; done) | (simp; omega) | assumption)), trivial⟩
    · exact ⟨(obR rfl rfl rfl (by first | rfl | omega | (simp; done) | (simp; omega) | assumption)), trivial⟩
    · kernel_rfl) ?_
  · first | omega | trivial | exact ⟨by omega, by omega⟩
  intro k hk
  refine D_seq fun K2 hK2 => ?_
  refine D_region ?_
  first
    | refine DL_c (op_lss _ _ rfl rfl (by assumption)) ?_
    | refine DL_c (op_lss _ _ rfl rfl rfl) ?_
  refine DL_nil (hK2 _ ?_)
  clear hK2; try clear K2
  refine D_seq fun K3 hK3 => ?_
  refine D_splitC rfl (fun hc9 => ?_) (fun hc9 => ?_)
  · skip
    obtain rfl : k = 0 := by omega
    refine D_skip (hK3 _ ?_)
    clear hK3; try clear K3
    refine D_seq fun K4 hK4 => ?_
    refine D_block ?_
    refine D_seq fun K5 hK5 => ?_
    refine D_region ?_
    refine DL_c (op_mv _ (rfl : _ = AV.v (.int _ _))) ?_
    first
      | refine DL_c (op_ixS _ _ inferInstance rfl rfl _ rfl (by omega) (by first | assumption | decide | (simp only [isl_len, bsl_len, psl_len]; omega) | (simp; done) | (simp; omega) | (simp [isl, bsl]; omega)) (by first | exact Nat.mul_one _ | rfl | omega)) ?_
      | refine DL_c (op_ixS _ _ inferInstance rfl rfl (Int.toNat _) (Int.toNat_of_nonneg (by omega)).symm (by omega) (by first | assumption | decide | (simp only [isl_len, bsl_len, psl_len]; omega) | (simp; done) | (simp; omega) | (simp [isl, bsl]; omega)) (by first | exact Nat.mul_one _ | rfl | omega)) ?_
    refine DL_c (op_ldF _ inferInstance rfl (rfl : _ = some (PV.v (.int .u64 (t : Int)))) rfl) ?_
    refine DL_c (op_as _ (rfl : _ = AV.v (.int _ _))) ?_
    refine DL_c (op_as _ (rfl : _ = AV.v (.int _ _))) ?_
    refine DL_nil (hK5 _ ?_)
    clear hK5; try clear K5
    refine D_region ?_
    refine DL_c (op_mv _ (rfl : _ = AV.ref _ _ _)) ?_
    refine DL_c (op_mv _ (rfl : _ = AV.v (.int _ _))) ?_
    first
      | refine DL_c (op_ixR _ _ inferInstance rfl rfl rfl _ rfl (by omega) (by first | exact (Nat.zero_add _).trans (Nat.mul_one _) | exact Nat.zero_add _ | rfl | omega)) ?_
      | refine DL_c (op_ixR _ _ inferInstance rfl rfl rfl (Int.toNat _) (Int.toNat_of_nonneg (by omega)).symm (by omega) (by first | exact (Nat.zero_add _).trans (Nat.mul_one _) | exact Nat.zero_add _ | rfl | omega)) ?_
    refine DL_c (op_ldR _ inferInstance rfl rfl (rfl : _ = some (PV.v (.int .u64 (s : Int)))) rfl) ?_
    refine DL_c (op_mv _ (rfl : _ = AV.v (.int _ _))) ?_
    refine DL_c (op_or _ _ rfl rfl (u64_or s t hs ht)) ?_
    first
      | refine DL_c (op_ixR _ _ inferInstance rfl rfl rfl _ rfl (by omega) (by first | exact (Nat.zero_add _).trans (Nat.mul_one _) | exact Nat.zero_add _ | rfl | omega)) ?_
      | refine DL_c (op_ixR _ _ inferInstance rfl rfl rfl (Int.toNat _) (Int.toNat_of_nonneg (by omega)).symm (by omega) (by first | exact (Nat.zero_add _).trans (Nat.mul_one _) | exact Nat.zero_add _ | rfl | omega)) ?_
    first
      | refine DL_c (op_stB _ _ inferInstance rfl rfl rfl rfl (Nat.le_of_ble_eq_true rfl) rfl) ?_
      | refine DL_c (op_stR _ _ inferInstance rfl rfl rfl rfl rfl (by first | exact Nat.le_of_ble_eq_true rfl | (simp only [isl_len, bsl_len, psl_len, List.length_cons, List.length_nil]; omega) | (simp; done) | (simp; omega)) rfl) ?_
    refine DL_nil (hK4 _ ?_)
    clear hK4; try clear K4
    refine D_region ?_
    first
      | refine DL_c (op_add _ _ rfl rfl (i64w (by omega))) ?_
      | refine DL_c (op_add _ _ rfl rfl rfl) ?_
    refine DL_c (op_mv _ (rfl : _ = AV.v (.int _ _))) ?_
    refine DL_nil ?_
    refine ⟨1, ?_, ?_, ?_⟩
    · first | omega | trivial | exact ⟨by omega, by omega⟩
    · skip
      refine Le.mkJ [] [] rfl ?_ ?_ trivial ⟨rfl, trivial⟩ ?_
      · exact ⟨(iR rfl), (iS rfl), (iV rfl), (lvI (by first | rfl | omega | (simp; done) | (simp; omega) | assumption)), trivial⟩
      · exact ⟨(obR rfl rfl rfl (by first | rfl | omega | (simp; done) | (simp; omega) | assumption)), trivial⟩
      · kernel_rfl
    · omega
  · skip
    obtain rfl : k = 1 := by omega
    refine D_exit ?_
    refine id ?_
    exact ret0 (.inl rfl) rfl (Le.outI [] [] (.tup rfl lv_nil) rfl rfl rfl trivial ⟨⟨rfl, ⟨_, rfl, .rowE rfl⟩, rfl⟩, trivial⟩ ⟨rfl, trivial⟩ rfl)

abbrev Lt := Nat → Nat → Bool
def wlt (ab : List Nat) : Lt := fun i j => (ab.getD i 0).testBit j
theorem oless_nat (n : Nat) (ab : List Nat) (a b : Nat) (ha : a < n) (hb : b < n) : oless n ab a b = wlt ab a b := by
  have h1 : inn n a = true := inn_iff.2 (by omega)
  have h2 : inn n b = true := inn_iff.2 (by omega)
  simp [oless, h1, h2, wlt]
theorem lessN_spec (n : Nat) (ab : List Nat) (hW : Words n ab) (a b : Nat) (ha : a < n) (hb : b < n) :
    Spec Try.prog 33 (inSt [.fp 0 (ord n ab), .v (.int .i64 (a : Int)), .v (.int .i64 (b : Int))] []) (outSt (.v (.bool (wlt ab a b))) []) := by
  rw [← oless_nat n ab a b ha hb]; exact less_spec n ab hW a b
/-- For each element how many are less. -/
def cnt (n : Nat) (lt : Lt) (b : Nat) : Nat := ((List.range n).filter fun a => lt a b).length
def cntA (n : Nat) (lt : Lt) (a k : Nat) : List Int := (List.range n).map fun b => ((cnt a lt b + (if b < k ∧ lt a b = true then 1 else 0) : Nat) : Int)
theorem cnt_succ (lt : Lt) (a b : Nat) : cnt (a + 1) lt b = cnt a lt b + (if lt a b = true then 1 else 0) := by
  simp only [cnt, List.range_succ, List.filter_append, List.length_append]
  congr 1
  cases h : lt a b <;> simp [h]
theorem cnt_le (n : Nat) (lt : Lt) (b : Nat) : cnt n lt b ≤ n := by
  have := List.length_filter_le (fun a => lt a b) (List.range n)
  simpa [cnt] using this
theorem cntA_len (n : Nat) (lt : Lt) (a k : Nat) : (cntA n lt a k).length = n := by simp [cntA]
theorem cntA_zero (n : Nat) (lt : Lt) (a : Nat) : cntA n lt a 0 = (List.range n).map fun b => ((cnt a lt b : Nat) : Int) := by simp [cntA]
theorem cntA_full (n : Nat) (lt : Lt) (a : Nat) : cntA n lt a n = cntA n lt (a + 1) 0 := by
  simp only [cntA]
  refine List.map_congr_left fun b hb => ?_
  have := List.mem_range.1 hb
  rw [cnt_succ]
  by_cases h : lt a b = true <;> simp [h, this]
theorem cntA_start (n : Nat) (lt : Lt) : cntA n lt 0 0 = List.replicate n 0 := by
  rw [cntA_zero]
  apply List.ext_getElem
  · simp
  · intro i h1 h2; simp [cnt]
theorem cntA_no (n : Nat) (lt : Lt) (a k : Nat) (h : lt a k = false) : cntA n lt a (k + 1) = cntA n lt a k := by
  simp only [cntA]
  refine List.map_congr_left fun b hb => ?_
  by_cases hb : b = k
  · subst hb; simp [h]
  · have : (b < k + 1) = (b < k) := by apply propext; omega
    simp only [this]
theorem cntA_get (n : Nat) (lt : Lt) (a k b : Nat) (h : b < n) : (cntA n lt a k).getD b 0 = ((cnt a lt b + (if b < k ∧ lt a b = true then 1 else 0) : Nat) : Int) := by
  simp [cntA, h]
theorem cntA_bd (n : Nat) (lt : Lt) (a k b : Nat) (h : b < n) : 0 ≤ (cntA n lt a k).getD b 0 ∧ (cntA n lt a k).getD b 0 ≤ a + 1 := by
  rw [cntA_get _ _ _ _ _ h]
  have := cnt_le a lt b
  split <;> omega
theorem cntA_yes (n : Nat) (lt : Lt) (a k : Nat) (hk : k < n) (h : lt a k = true) : (cntA n lt a k).set k ((cntA n lt a k).getD k 0 + 1) = cntA n lt a (k + 1) := by
  apply List.ext_getElem
  · simp [cntA]
  · intro i h1 h2
    simp only [List.length_set, cntA_len] at h1
    rw [List.getElem_set]
    by_cases hi : k = i
    · subst hi
      rw [if_pos rfl, cntA_get _ _ _ _ _ hk]
      simp [cntA, h]
    · rw [if_neg hi]
      simp only [cntA, List.getElem_map, List.getElem_range]
      have : (i < k + 1) = (i < k) := by apply propext; omega
      simp only [this]

theorem below_own (n : Nat) (ab : List Nat) (hW : Words n ab) :
    Spec Try.prog 87 (inSt [.fp 0 (ord n ab)] []) (outSt (.ref (0, 8) 0 n) [((0, 8), .row 3 1 (isl (cntA n (wlt ab) n 0)))]) := by
  have hle := hW.le
  have hl := hW.len
  refine Spec.ofN Try.func87 rfl Try.ntmps87 rfl ?_
  refine D_seq fun K1 hK1 => ?_
  refine D_region ?_
  first
    | refine DL_c (op_as _ (rfl : _ = AV.sl _ _)) ?_
    | refine DL_c (op_as _ (rfl : _ = AV.ref _ _ _)) ?_
    | refine DL_c (op_as _ (rfl : _ = AV.v (.slice _ _ _))) ?_
    | refine DL_c (op_as _ (rfl : _ = AV.z)) ?_
  refine DL_nil (hK1 _ ?_)
  clear hK1; try clear K1
  refine D_seq fun K2 hK2 => ?_
  refine D_region ?_
  refine DL_c (op_mv _ (rfl : _ = AV.fp _ _)) ?_
  refine DL_c (op_nilc _ rfl) ?_
  first
    | refine DL_c (op_fldP _ inferInstance rfl rfl rfl) ?_
    | refine DL_c (op_fldF _ inferInstance rfl rfl) ?_
  refine DL_c (op_ldF _ inferInstance rfl (rfl : _ = some (PV.v (.int .i64 (n : Int)))) rfl) ?_
  refine DL_c (op_mk (10, 0) _ _ inferInstance rfl rfl n rfl rfl (by omega) rfl (isl_zeros n)) ?_
  refine DL_c (op_as _ (rfl : _ = AV.ref _ _ _)) ?_
  refine DL_nil (hK2 _ ?_)
  clear hK2; try clear K2
  refine D_seq fun K3 hK3 => ?_
  refine D_seq fun K4 hK4 => ?_
  refine D_region ?_
  refine DL_c (op_mv _ (rfl : _ = AV.fp _ _)) ?_
  refine DL_c (op_nilc _ rfl) ?_
  first
    | refine DL_c (op_fldP _ inferInstance rfl rfl rfl) ?_
    | refine DL_c (op_fldF _ inferInstance rfl rfl) ?_
  refine DL_c (op_ldF _ inferInstance rfl (rfl : _ = some (PV.v (.int .i64 (n : Int)))) rfl) ?_
  refine DL_c (op_mv _ (rfl : _ = AV.v (.int _ _))) ?_
  refine DL_nil (hK4 _ ?_)
  clear hK4; try clear K4
  refine D_block ?_
  refine D_loopL (α := Nat) (fun a => a ≤ n) 38 [(0, _), (3, _), (14, _)] [] (fun a => [(15, .v (.int .i64 (a : Int)))]) (fun a => [((10, 0), .row 3 1 (isl (cntA n (wlt ab) a 0)))]) [] [] (fun a => n - a) 0 ?_ (by
    refine Le.mkJ [] [] rfl ?_ ?_ trivial trivial ?_
    · exact ⟨(iF rfl), (iR rfl), (iV rfl), (lvI (by first | rfl | omega | (simp; done) | (simp; omega) | assumption)), trivial⟩
    · exact ⟨(obR rfl rfl rfl (by rw [cntA_start])), trivial⟩
    · kernel_rfl) ?_
  · first | omega | trivial | exact ⟨by omega, by omega⟩
  intro a ha
  refine D_seq fun K5 hK5 => ?_
  refine D_region ?_
  first
    | refine DL_c (op_lss _ _ rfl rfl (by assumption)) ?_
    | refine DL_c (op_lss _ _ rfl rfl rfl) ?_
  refine DL_nil (hK5 _ ?_)
  clear hK5; try clear K5
  refine D_seq fun K6 hK6 => ?_
  refine D_splitC rfl (fun hc16 => ?_) (fun hc16 => ?_)
  · skip
    refine D_skip (hK6 _ ?_)
    clear hK6; try clear K6
    refine D_seq fun K7 hK7 => ?_
    refine D_block ?_
    refine D_seq fun K8 hK8 => ?_
    refine D_region ?_
    refine DL_c (op_mv _ (rfl : _ = AV.v (.int _ _))) ?_
    refine DL_c (op_as _ (rfl : _ = AV.v (.int _ _))) ?_
    refine DL_nil (hK8 _ ?_)
    clear hK8; try clear K8
    refine D_seq fun K9 hK9 => ?_
    refine D_region ?_
    refine DL_c (op_mv _ (rfl : _ = AV.fp _ _)) ?_
    refine DL_c (op_nilc _ rfl) ?_
    first
      | refine DL_c (op_fldP _ inferInstance rfl rfl rfl) ?_
      | refine DL_c (op_fldF _ inferInstance rfl rfl) ?_
    refine DL_c (op_ldF _ inferInstance rfl (rfl : _ = some (PV.v (.int .i64 (n : Int)))) rfl) ?_
    refine DL_c (op_mv _ (rfl : _ = AV.v (.int _ _))) ?_
    refine DL_nil (hK9 _ ?_)
    clear hK9; try clear K9
    refine D_block ?_
    refine D_loopL (α := Nat) (fun b => b ≤ n) 38 [(0, _), (3, _), (4, _), (14, _), (15, _), (21, _)] [] (fun b => [(22, .v (.int .i64 (b : Int)))]) (fun b => [((10, 0), .row 3 1 (isl (cntA n (wlt ab) a b)))]) [] [] (fun b => n - b) 0 ?_ (by
      refine Le.mkJ [] [] rfl ?_ ?_ trivial trivial ?_
      · exact ⟨(iF rfl), (iR rfl), (iV rfl), (iV rfl), (iV rfl), (iV rfl), (lvI (by first | rfl | omega | (simp; done) | (simp; omega) | assumption)), trivial⟩
      · exact ⟨(obR rfl rfl rfl (by first | rfl | omega | (simp; done) | (simp; omega) | assumption)), trivial⟩
      · kernel_rfl) ?_
    · first | omega | trivial | exact ⟨by omega, by omega⟩
    intro b hb
    refine D_seq fun K10 hK10 => ?_
    refine D_region ?_
    first
      | refine DL_c (op_lss _ _ rfl rfl (by assumption)) ?_
      | refine DL_c (op_lss _ _ rfl rfl rfl) ?_
    refine DL_nil (hK10 _ ?_)
    clear hK10; try clear K10
    refine D_seq fun K11 hK11 => ?_
    refine D_splitC rfl (fun hc23 => ?_) (fun hc23 => ?_)
    · skip
      have hcl := cntA_len n (wlt ab) a b
      have hcg := cntA_bd n (wlt ab) a b b (by omega)
      refine D_skip (hK11 _ ?_)
      clear hK11; try clear K11
      refine D_seq fun K12 hK12 => ?_
      refine D_block ?_
      refine D_seq fun K13 hK13 => ?_
      refine D_region ?_
      refine DL_c (op_mv _ (rfl : _ = AV.v (.int _ _))) ?_
      refine DL_c (op_as _ (rfl : _ = AV.v (.int _ _))) ?_
      refine DL_nil (hK13 _ ?_)
      clear hK13; try clear K13
      refine D_seq fun K14 hK14 => ?_
      refine D_region ?_
      refine DL_c (op_mv _ (rfl : _ = AV.fp _ _)) ?_
      refine DL_c (op_mv _ (rfl : _ = AV.v (.int _ _))) ?_
      refine DL_c (op_mv _ (rfl : _ = AV.v (.int _ _))) ?_
      refine DL_c (op_callH inferInstance (by repeat' (first | exact argsLv_nil | refine argsLv_cons ?_ ?_ | exact Lv.v | exact lvI (by omega) | exact Lv.sl | exact Lv.fp | exact Lv.nil | refine Lv.agg rfl ?_ | refine Lv.fn rfl ?_ rfl ?_ | exact lv_nil | refine lv_cons ?_ ?_ | exact Lv.z0)) (lessN_spec n ab hW a b (by omega) (by omega)) rfl rfl) ?_
      refine DL_nil (hK14 _ ?_)
      clear hK14; try clear K14
      refine D_splitC rfl (fun hc28 => ?_) (fun hc28 => ?_)
      · skip
        refine D_region ?_
        refine DL_c (op_mv _ (rfl : _ = AV.ref _ _ _)) ?_
        refine DL_c (op_mv _ (rfl : _ = AV.v (.int _ _))) ?_
        first
          | refine DL_c (op_ixR _ _ inferInstance rfl rfl rfl _ rfl (by omega) (by first | exact (Nat.zero_add _).trans (Nat.mul_one _) | exact Nat.zero_add _ | rfl | omega)) ?_
          | refine DL_c (op_ixR _ _ inferInstance rfl rfl rfl (Int.toNat _) (Int.toNat_of_nonneg (by omega)).symm (by omega) (by first | exact (Nat.zero_add _).trans (Nat.mul_one _) | exact Nat.zero_add _ | rfl | omega)) ?_
        refine DL_c (op_ldR _ inferInstance rfl rfl (by exact isl_get _ _ (by omega)) rfl) ?_
        first
          | refine DL_c (op_add _ _ rfl rfl (i64w (by omega))) ?_
          | refine DL_c (op_add _ _ rfl rfl rfl) ?_
        first
          | refine DL_c (op_ixR _ _ inferInstance rfl rfl rfl _ rfl (by omega) (by first | exact (Nat.zero_add _).trans (Nat.mul_one _) | exact Nat.zero_add _ | rfl | omega)) ?_
          | refine DL_c (op_ixR _ _ inferInstance rfl rfl rfl (Int.toNat _) (Int.toNat_of_nonneg (by omega)).symm (by omega) (by first | exact (Nat.zero_add _).trans (Nat.mul_one _) | exact Nat.zero_add _ | rfl | omega)) ?_
        first
          | refine DL_c (op_stB _ _ inferInstance rfl rfl rfl rfl (Nat.le_of_ble_eq_true rfl) rfl) ?_
          | refine DL_c (op_stR _ _ inferInstance rfl rfl rfl rfl rfl (by first | exact Nat.le_of_ble_eq_true rfl | (simp only [isl_len, bsl_len, psl_len, List.length_cons, List.length_nil]; omega) | (simp; done) | (simp; omega)) rfl) ?_
        refine DL_nil (hK12 _ ?_)
        clear hK12; try clear K12
        refine D_region ?_
        first
          | refine DL_c (op_add _ _ rfl rfl (i64w (by omega))) ?_
          | refine DL_c (op_add _ _ rfl rfl rfl) ?_
        refine DL_c (op_mv _ (rfl : _ = AV.v (.int _ _))) ?_
        refine DL_nil ?_
        refine ⟨b + 1, ?_, ?_, ?_⟩
        · first | omega | trivial | exact ⟨by omega, by omega⟩
        · skip
          refine Le.mkJ [] [] rfl ?_ ?_ trivial trivial ?_
          · exact ⟨(iF rfl), (iR rfl), (iV rfl), (iV rfl), (iV rfl), (iV rfl), (lvI (by first | rfl | omega | (simp; done) | (simp; omega) | assumption)), trivial⟩
          · exact ⟨(obR rfl rfl rfl (by rw [isl_put _ _ _ (by omega), cntA_yes _ _ _ _ (by omega) hc28])), trivial⟩
          · kernel_rfl
        · omega
      · skip
        refine D_skip (hK12 _ ?_)
        clear hK12; try clear K12
        refine D_region ?_
        first
          | refine DL_c (op_add _ _ rfl rfl (i64w (by omega))) ?_
          | refine DL_c (op_add _ _ rfl rfl rfl) ?_
        refine DL_c (op_mv _ (rfl : _ = AV.v (.int _ _))) ?_
        refine DL_nil ?_
        refine ⟨b + 1, ?_, ?_, ?_⟩
        · first | omega | trivial | exact ⟨by omega, by omega⟩
        · skip
          refine Le.mkJ [] [] rfl ?_ ?_ trivial trivial ?_
          · exact ⟨(iF rfl), (iR rfl), (iV rfl), (iV rfl), (iV rfl), (iV rfl), (lvI (by first | rfl | omega | (simp; done) | (simp; omega) | assumption)), trivial⟩
          · exact ⟨(obR rfl rfl rfl (by rw [cntA_no _ _ _ _ hc28])), trivial⟩
          · kernel_rfl
        · omega
    · skip
      obtain rfl : n = b := by omega
      rw [cntA_full]
      refine D_exit ?_
      refine id (hK7 _ ?_)
      clear hK7; try clear K7
      refine D_region ?_
      first
        | refine DL_c (op_add _ _ rfl rfl (i64w (by omega))) ?_
        | refine DL_c (op_add _ _ rfl rfl rfl) ?_
      refine DL_c (op_mv _ (rfl : _ = AV.v (.int _ _))) ?_
      refine DL_nil ?_
      refine ⟨a + 1, ?_, ?_, ?_⟩
      · first | omega | trivial | exact ⟨by omega, by omega⟩
      · skip
        refine Le.mkJ [] [] rfl ?_ ?_ trivial trivial ?_
        · exact ⟨(iF rfl), (iR rfl), (iV rfl), (lvI (by first | rfl | omega | (simp; done) | (simp; omega) | assumption)), trivial⟩
        · exact ⟨(obR rfl rfl rfl (by first | rfl | omega | (simp; done) | (simp; omega) | assumption)), trivial⟩
        · kernel_rfl
      · omega
  · skip
    obtain rfl : n = a := by omega
    refine D_exit ?_
    refine id (hK3 _ ?_)
    clear hK3; try clear K3
    refine D_seq fun K15 hK15 => ?_
    refine D_region ?_
    refine DL_c (op_mv _ (rfl : _ = AV.ref _ _ _)) ?_
    refine DL_c (op_as _ (rfl : _ = AV.ref _ _ _)) ?_
    refine DL_nil (hK15 _ ?_)
    clear hK15; try clear K15
    refine D_ret ?_
    exact ret1 (.inr rfl) rfl (.tmp (rfl : _ = AV.ref _ _ _)) (Le.out [((0, 8), (10, 0))] [] (lvRr rfl (by first | rfl | omega | simp)) rfl rfl rfl trivial ⟨⟨rfl, ⟨_, rfl, .rowE (by first | rfl | simp)⟩, rfl⟩, trivial⟩)

def covW (ab : List Nat) (a : Nat) : Nat → Nat
  | 0 => 0
  | b + 1 => if wlt ab a b = true then covW ab a b ||| ab.getD b 0 else covW ab a b
theorem covW_lt (n : Nat) (ab : List Nat) (hW : Words n ab) (a : Nat) : ∀ k, covW ab a k < 18446744073709551616
  | 0 => by simp [covW]
  | k + 1 => by
    simp only [covW]
    split
    · exact Nat.or_lt_two_pow (n := 64) (covW_lt n ab hW a k) (hW.at k)
    · exact covW_lt n ab hW a k
theorem covW_bit (ab : List Nat) (a c : Nat) : ∀ k, (covW ab a k).testBit c = (List.range k).any fun b => wlt ab a b && wlt ab b c
  | 0 => by simp [covW]
  | k + 1 => by
    rw [List.range_succ, List.any_append, ← covW_bit ab a c k]
    simp only [covW, List.any_cons, List.any_nil, Bool.or_false]
    split
    · rename_i h
      rw [Nat.testBit_or, h, Bool.true_and]; rfl
    · rename_i h
      rw [Bool.eq_false_iff.2 h, Bool.false_and, Bool.or_false]
def cov (n : Nat) (lt : Lt) (a b : Nat) : Bool := lt a b && !(List.range n).any fun c => lt a c && lt c b
def covB (n : Nat) (lt : Lt) (a k : Nat) : List (Int × Int) := ((List.range k).filter (cov n lt a)).map fun (b : Nat) => ((a : Int), (b : Int))
def covA (n : Nat) (lt : Lt) : Nat → List (Int × Int)
  | 0 => []
  | a + 1 => covA n lt a ++ covB n lt a n
theorem covB_len (n : Nat) (lt : Lt) (a k : Nat) : (covB n lt a k).length ≤ k := by
  have := List.length_filter_le (cov n lt a) (List.range k)
  simpa [covB] using this
theorem covA_len (n : Nat) (lt : Lt) : ∀ a, (covA n lt a).length ≤ a * n
  | 0 => by simp [covA]
  | a + 1 => by
    have h1 := covA_len n lt a
    have h2 := covB_len n lt a n
    rw [covA, List.length_append, Nat.add_mul]; omega
theorem covA_small (n : Nat) (lt : Lt) (a : Nat) (h : a ≤ n) (hn : n ≤ 64) : (covA n lt a).length ≤ 4096 := by
  have h1 := covA_len n lt a
  have h2 := Nat.mul_le_mul (show a ≤ 64 by omega) hn
  omega
theorem covB_yes (n : Nat) (lt : Lt) (a k : Nat) (h : cov n lt a k = true) : covB n lt a (k + 1) = covB n lt a k ++ [((a : Int), (k : Int))] := by
  simp [covB, List.range_succ, h]
theorem covB_no (n : Nat) (lt : Lt) (a k : Nat) (h : cov n lt a k = false) : covB n lt a (k + 1) = covB n lt a k := by
  simp [covB, List.range_succ, h]
theorem words1 (n : Nat) (h1 : 1 ≤ n) (h2 : n ≤ 64) : IntKind.i64.wrap (((n : Int) + 63).tdiv 64) = 1 := by
  rw [Int.tdiv_eq_ediv_of_nonneg (by omega), show ((n : Int) + 63) / 64 = 1 by omega]; rfl

theorem covers_own (n : Nat) (ab : List Nat) (hW : Words n ab) :
    Spec Try.prog 34 (inSt [.fp 0 (ord n ab)] []) (outSt (.ref (0, 8) 0 (covA n (wlt ab) n).length) [((0, 8), .row 38 2 (psl (covA n (wlt ab) n)))]) := by
  have hle := hW.le
  have hl := hW.len
  refine Spec.ofN Try.func34 rfl Try.ntmps34 rfl ?_
  refine D_seq fun K1 hK1 => ?_
  refine D_region ?_
  first
    | refine DL_c (op_as _ (rfl : _ = AV.sl _ _)) ?_
    | refine DL_c (op_as _ (rfl : _ = AV.ref _ _ _)) ?_
    | refine DL_c (op_as _ (rfl : _ = AV.v (.slice _ _ _))) ?_
    | refine DL_c (op_as _ (rfl : _ = AV.z)) ?_
  refine DL_nil (hK1 _ ?_)
  clear hK1; try clear K1
  refine D_seq fun K2 hK2 => ?_
  refine D_region ?_
  refine DL_c (op_asN (3, 0) _ 38 2 rfl rfl) ?_
  refine DL_nil (hK2 _ ?_)
  clear hK2; try clear K2
  refine D_seq fun K3 hK3 => ?_
  refine D_seq fun K4 hK4 => ?_
  refine D_region ?_
  refine DL_c (op_mv _ (rfl : _ = AV.fp _ _)) ?_
  refine DL_c (op_nilc _ rfl) ?_
  first
    | refine DL_c (op_fldP _ inferInstance rfl rfl rfl) ?_
    | refine DL_c (op_fldF _ inferInstance rfl rfl) ?_
  refine DL_c (op_ldF _ inferInstance rfl (rfl : _ = some (PV.v (.int .i64 (n : Int)))) rfl) ?_
  refine DL_c (op_mv _ (rfl : _ = AV.v (.int _ _))) ?_
  refine DL_nil (hK4 _ ?_)
  clear hK4; try clear K4
  refine D_block ?_
  refine D_loopL (α := Nat) (fun a => a ≤ n) 69 [(0, _), (11, _)] [] (fun a => [(12, .v (.int .i64 (a : Int))), (3, .ref (3, 0) 0 (covA n (wlt ab) a).length)]) (fun a => [((3, 0), .row 38 2 (psl (covA n (wlt ab) a)))]) [] [] (fun a => n - a) 0 ?_ (by
    refine Le.mkJ [] [] rfl ?_ ?_ trivial trivial ?_
    · exact ⟨(iF rfl), (iV rfl), (lvI (by first | rfl | omega | (simp; done) | (simp; omega) | assumption)), (lvRr rfl (by first | rfl | omega | (simp; done) | (simp; omega) | assumption)), trivial⟩
    · exact ⟨(obR rfl rfl rfl (by first | rfl | omega | (simp; done) | (simp; omega) | assumption)), trivial⟩
    · kernel_rfl) ?_
  · first | omega | trivial | exact ⟨by omega, by omega⟩
  intro a ha
  refine D_seq fun K5 hK5 => ?_
  refine D_region ?_
  first
    | refine DL_c (op_lss _ _ rfl rfl (by assumption)) ?_
    | refine DL_c (op_lss _ _ rfl rfl rfl) ?_
  refine DL_nil (hK5 _ ?_)
  clear hK5; try clear K5
  refine D_seq fun K6 hK6 => ?_
  refine D_splitC rfl (fun hc13 => ?_) (fun hc13 => ?_)
  · skip
    have hcs := covA_small n (wlt ab) a (by omega) (by omega)
    have hcs' : (covB n (wlt ab) a 0) = [] := rfl
    refine D_skip (hK6 _ ?_)
    clear hK6; try clear K6
    refine D_seq fun K7 hK7 => ?_
    refine D_block ?_
    refine D_seq fun K8 hK8 => ?_
    refine D_region ?_
    refine DL_c (op_mv _ (rfl : _ = AV.v (.int _ _))) ?_
    refine DL_c (op_as _ (rfl : _ = AV.v (.int _ _))) ?_
    refine DL_nil (hK8 _ ?_)
    clear hK8; try clear K8
    refine D_seq fun K9 hK9 => ?_
    refine D_region ?_
    refine DL_c (op_mv _ (rfl : _ = AV.fp _ _)) ?_
    refine DL_c (op_nilc _ rfl) ?_
    first
      | refine DL_c (op_fldP _ inferInstance rfl rfl rfl) ?_
      | refine DL_c (op_fldF _ inferInstance rfl rfl) ?_
    refine DL_c (op_ldF _ inferInstance rfl (rfl : _ = some (PV.v (.int .i64 (n : Int)))) rfl) ?_
    first
      | refine DL_c (op_add _ _ rfl rfl (i64w (by omega))) ?_
      | refine DL_c (op_add _ _ rfl rfl rfl) ?_
    refine DL_c (op_quo _ _ rfl rfl (by omega) (words1 n (by omega) (by omega))) ?_
    refine DL_c (op_mk (xs := ul [0]) (21, 0) _ _ inferInstance rfl rfl 1 rfl rfl (by omega) rfl (by rfl)) ?_
    refine DL_c (op_as _ (rfl : _ = AV.ref _ _ _)) ?_
    refine DL_nil (hK9 _ ?_)
    clear hK9; try clear K9
    refine D_seq fun K10 hK10 => ?_
    refine D_seq fun K11 hK11 => ?_
    refine D_region ?_
    refine DL_c (op_mv _ (rfl : _ = AV.fp _ _)) ?_
    refine DL_c (op_nilc _ rfl) ?_
    first
      | refine DL_c (op_fldP _ inferInstance rfl rfl rfl) ?_
      | refine DL_c (op_fldF _ inferInstance rfl rfl) ?_
    refine DL_c (op_ldF _ inferInstance rfl (rfl : _ = some (PV.v (.int .i64 (n : Int)))) rfl) ?_
    refine DL_c (op_mv _ (rfl : _ = AV.v (.int _ _))) ?_
    refine DL_nil (hK11 _ ?_)
    clear hK11; try clear K11
    refine D_block ?_
    refine D_loopL (α := Nat) (fun b => b ≤ n) 69 [(0, _), (3, _), (4, _), (5, _), (11, _), (12, _), (25, _)] [((3, 0), _)] (fun b => [(26, .v (.int .i64 (b : Int)))]) (fun b => [((21, 0), .row 124 1 (ul [covW ab a b]))]) [] [] (fun b => n - b) 0 ?_ (by
      refine Le.mkJ [] [] rfl ?_ ?_ trivial trivial ?_
      · exact ⟨(iF rfl), (iR rfl), (iV rfl), (iR rfl), (iV rfl), (iV rfl), (iV rfl), (lvI (by first | rfl | omega | (simp; done) | (simp; omega) | assumption)), trivial⟩
      · exact ⟨(obE rfl rfl rfl), (obR rfl rfl rfl (by first | rfl | omega | (simp; done) | (simp; omega) | assumption)), trivial⟩
      · kernel_rfl) ?_
    · first | omega | trivial | exact ⟨by omega, by omega⟩
    intro b hb
    refine D_seq fun K12 hK12 => ?_
    refine D_region ?_
    first
      | refine DL_c (op_lss _ _ rfl rfl (by assumption)) ?_
      | refine DL_c (op_lss _ _ rfl rfl rfl) ?_
    refine DL_nil (hK12 _ ?_)
    clear hK12; try clear K12
    refine D_seq fun K13 hK13 => ?_
    refine D_splitC rfl (fun hc27 => ?_) (fun hc27 => ?_)
    · skip
      refine D_skip (hK13 _ ?_)
      clear hK13; try clear K13
      refine D_seq fun K14 hK14 => ?_
      refine D_block ?_
      refine D_seq fun K15 hK15 => ?_
      refine D_region ?_
      refine DL_c (op_mv _ (rfl : _ = AV.v (.int _ _))) ?_
      refine DL_c (op_as _ (rfl : _ = AV.v (.int _ _))) ?_
      refine DL_nil (hK15 _ ?_)
      clear hK15; try clear K15
      refine D_seq fun K16 hK16 => ?_
      refine D_region ?_
      refine DL_c (op_mv _ (rfl : _ = AV.fp _ _)) ?_
      refine DL_c (op_mv _ (rfl : _ = AV.v (.int _ _))) ?_
      refine DL_c (op_mv _ (rfl : _ = AV.v (.int _ _))) ?_
      refine DL_c (op_callH inferInstance (by repeat' (first | exact argsLv_nil | refine argsLv_cons ?_ ?_ | exact Lv.v | exact lvI (by omega) | exact Lv.sl | exact Lv.fp | exact Lv.nil | refine Lv.agg rfl ?_ | refine Lv.fn rfl ?_ rfl ?_ | exact lv_nil | refine lv_cons ?_ ?_ | exact Lv.z0)) (lessN_spec n ab hW a b (by omega) (by omega)) rfl rfl) ?_
      refine DL_nil (hK16 _ ?_)
      clear hK16; try clear K16
      refine D_splitC rfl (fun hc32 => ?_) (fun hc32 => ?_)
      · skip
        refine D_region ?_
        refine DL_c (op_mv _ (rfl : _ = AV.ref _ _ _)) ?_
        refine DL_c (op_mv _ (rfl : _ = AV.fp _ _)) ?_
        refine DL_c (op_nilc _ rfl) ?_
        first
          | refine DL_c (op_fldP _ inferInstance rfl rfl rfl) ?_
          | refine DL_c (op_fldF _ inferInstance rfl rfl) ?_
        refine DL_c (op_ldF _ inferInstance rfl (rfl : _ = some (PV.sl ab.length (ws ab))) rfl) ?_
        refine DL_c (op_mv _ (rfl : _ = AV.v (.int _ _))) ?_
        first
          | refine DL_c (op_ixS _ _ inferInstance rfl rfl _ rfl (by omega) (by first | assumption | decide | (simp only [isl_len, bsl_len, psl_len]; omega) | (simp; done) | (simp; omega) | (simp [isl, bsl]; omega)) (by first | exact Nat.mul_one _ | rfl | omega)) ?_
          | refine DL_c (op_ixS _ _ inferInstance rfl rfl (Int.toNat _) (Int.toNat_of_nonneg (by omega)).symm (by omega) (by first | assumption | decide | (simp only [isl_len, bsl_len, psl_len]; omega) | (simp; done) | (simp; omega) | (simp [isl, bsl]; omega)) (by first | exact Nat.mul_one _ | rfl | omega)) ?_
          | refine DL_c (op_ixR _ _ inferInstance rfl rfl rfl _ rfl (by omega) (by first | exact (Nat.zero_add _).trans (Nat.mul_one _) | exact Nat.zero_add _ | rfl | omega)) ?_
          | refine DL_c (op_ixR _ _ inferInstance rfl rfl rfl (Int.toNat _) (Int.toNat_of_nonneg (by omega)).symm (by omega) (by first | exact (Nat.zero_add _).trans (Nat.mul_one _) | exact Nat.zero_add _ | rfl | omega)) ?_
          | refine DL_c (op_ixB _ _ inferInstance rfl rfl rfl _ rfl (by omega) (by first | exact (Nat.zero_add _).trans (Nat.mul_one _) | exact Nat.zero_add _ | rfl | omega)) ?_
          | refine DL_c (op_ixB _ _ inferInstance rfl rfl rfl (Int.toNat _) (Int.toNat_of_nonneg (by omega)).symm (by omega) (by first | exact (Nat.zero_add _).trans (Nat.mul_one _) | exact Nat.zero_add _ | rfl | omega)) ?_
        first
          | refine DL_c (op_ldB _ inferInstance rfl rfl (rfl : _ = some (AV.sl _ _))) ?_
          | refine DL_c (op_ldB _ inferInstance rfl rfl (rfl : _ = some (AV.ref _ _ _))) ?_
          | refine DL_c (op_ldB _ inferInstance rfl rfl (rfl : _ = some (AV.v (.slice _ _ _)))) ?_
          | refine DL_c (op_ldB _ inferInstance rfl rfl (rfl : _ = some (AV.z))) ?_
          | refine DL_c (op_ldR _ inferInstance rfl rfl (by first | rfl | exact isl_get _ _ (by omega) | exact bsl_get _ _ (by omega) | assumption | exact ul_get _ _ (by omega) | exact ws_get _ _ (by omega) | exact psl_get0 _ _ (by omega) | exact psl_get1 _ _ (by omega)) rfl) ?_
          | refine DL_c (op_ldF _ inferInstance rfl (by first | rfl | exact isl_get _ _ (by omega) | exact bsl_get _ _ (by omega) | assumption | exact ul_get _ _ (by omega) | exact ws_get _ _ (by omega) | exact psl_get0 _ _ (by omega) | exact psl_get1 _ _ (by omega)) rfl) ?_
        refine DL_c (op_callR inferInstance [((0, 9), (21, 0))] ?_ (join_spec (covW ab a b) (ab.getD b 0) (covW_lt n ab hW a b) (hW.at b)) ⟨⟨rfl, ⟨_, rfl, .rowE rfl⟩, rfl⟩, trivial⟩ ⟨rfl, trivial⟩ (by kernel_rfl)) ?_
        · repeat' (first | exact argsR_nil | refine argsR_cons ?_ ?_ | exact Lv.v | exact lvI (by assumption) | exact lvI (by omega) | exact Lv.sl | exact Lv.fp | exact Lv.nil | exact lvRr rfl rfl | exact lvPr rfl | refine Lv.agg rfl ?_ | refine Lv.fn rfl ?_ rfl ?_ | refine Lv.ifc ?_ | exact lv_nil | refine lv_cons ?_ ?_)
        refine DL_nil (hK14 _ ?_)
        clear hK14; try clear K14
        refine D_le (σ' := mkStI 69 [(0, _), (3, _), (4, _), (5, _), (11, _), (12, _), (25, _), (26, _)] [((3, 0), _), ((21, 0), _)] [] []) (by
          refine Le.mkJ [] [] rfl ?_ ?_ trivial trivial ?_
          · exact ⟨(iF rfl), (iR rfl), (iV rfl), (iR rfl), (iV rfl), (iV rfl), (iV rfl), (iV rfl), trivial⟩
          · exact ⟨(obE rfl rfl rfl), (obE rfl rfl rfl), trivial⟩
          · kernel_rfl) ?_
        refine D_region ?_
        first
          | refine DL_c (op_add _ _ rfl rfl (i64w (by omega))) ?_
          | refine DL_c (op_add _ _ rfl rfl rfl) ?_
        refine DL_c (op_mv _ (rfl : _ = AV.v (.int _ _))) ?_
        refine DL_nil ?_
        refine ⟨b + 1, ?_, ?_, ?_⟩
        · first | omega | trivial | exact ⟨by omega, by omega⟩
        · skip
          refine Le.mkJ [] [] rfl ?_ ?_ trivial trivial ?_
          · exact ⟨(iF rfl), (iR rfl), (iV rfl), (iR rfl), (iV rfl), (iV rfl), (iV rfl), (lvI (by first | rfl | omega | (simp; done) | (simp; omega) | assumption)), trivial⟩
          · exact ⟨(obE rfl rfl rfl), (obR rfl rfl rfl (by rw [covW, if_pos hc32])), trivial⟩
          · kernel_rfl
        · omega
      · skip
        refine D_skip (hK14 _ ?_)
        clear hK14; try clear K14
        refine D_region ?_
        first
          | refine DL_c (op_add _ _ rfl rfl (i64w (by omega))) ?_
          | refine DL_c (op_add _ _ rfl rfl rfl) ?_
        refine DL_c (op_mv _ (rfl : _ = AV.v (.int _ _))) ?_
        refine DL_nil ?_
        refine ⟨b + 1, ?_, ?_, ?_⟩
        · first | omega | trivial | exact ⟨by omega, by omega⟩
        · skip
          refine Le.mkJ [] [] rfl ?_ ?_ trivial trivial ?_
          · exact ⟨(iF rfl), (iR rfl), (iV rfl), (iR rfl), (iV rfl), (iV rfl), (iV rfl), (lvI (by first | rfl | omega | (simp; done) | (simp; omega) | assumption)), trivial⟩
          · exact ⟨(obE rfl rfl rfl), (obR rfl rfl rfl (by rw [covW, if_neg (by rw [hc32]; decide)])), trivial⟩
          · kernel_rfl
        · omega
    · skip
      obtain rfl : n = b := by omega
      refine D_exit ?_
      refine id (hK10 _ ?_)
      clear hK10; try clear K10
      refine D_seq fun K17 hK17 => ?_
      refine D_region ?_
      refine DL_c (op_mv _ (rfl : _ = AV.fp _ _)) ?_
      refine DL_c (op_nilc _ rfl) ?_
      first
        | refine DL_c (op_fldP _ inferInstance rfl rfl rfl) ?_
        | refine DL_c (op_fldF _ inferInstance rfl rfl) ?_
      refine DL_c (op_ldF _ inferInstance rfl (rfl : _ = some (PV.v (.int .i64 (n : Int)))) rfl) ?_
      refine DL_c (op_mv _ (rfl : _ = AV.v (.int _ _))) ?_
      refine DL_nil (hK17 _ ?_)
      clear hK17; try clear K17
      refine D_block ?_
      refine D_loopL (α := Nat) (fun c => c ≤ n) 69 [(0, _), (4, _), (5, _), (11, _), (12, _), (46, _)] [((21, 0), _)] (fun c => [(47, .v (.int .i64 (c : Int))), (3, .ref (3, 0) 0 (covA n (wlt ab) a ++ covB n (wlt ab) a c).length)]) (fun c => [((3, 0), .row 38 2 (psl (covA n (wlt ab) a ++ covB n (wlt ab) a c)))]) [] [] (fun c => n - c) 0 ?_ (by
        refine Le.mkJ [] [] rfl ?_ ?_ trivial trivial ?_
        · exact ⟨(iF rfl), (iV rfl), (iR rfl), (iV rfl), (iV rfl), (iV rfl), (lvI (by first | rfl | omega | (rw [hcs', List.append_nil]) | (simp; done) | (simp; omega) | assumption)), (lvRr rfl (by first | rfl | omega | (rw [hcs', List.append_nil]) | (simp; done) | (simp; omega) | assumption)), trivial⟩
        · exact ⟨(obE rfl rfl rfl), (obR rfl rfl rfl (by first | rfl | omega | (rw [hcs', List.append_nil]) | (simp; done) | (simp; omega) | assumption)), trivial⟩
        · kernel_rfl) ?_
      · first | omega | trivial | exact ⟨by omega, by omega⟩
      intro c hc
      refine D_seq fun K18 hK18 => ?_
      refine D_region ?_
      first
        | refine DL_c (op_lss _ _ rfl rfl (by assumption)) ?_
        | refine DL_c (op_lss _ _ rfl rfl rfl) ?_
      refine DL_nil (hK18 _ ?_)
      clear hK18; try clear K18
      refine D_seq fun K19 hK19 => ?_
      refine D_splitC rfl (fun hc48 => ?_) (fun hc48 => ?_)
      · skip
        have hcb := covB_len n (wlt ab) a c
        have hll : (covA n (wlt ab) a ++ covB n (wlt ab) a c).length = _ := List.length_append
        refine D_skip (hK19 _ ?_)
        clear hK19; try clear K19
        refine D_seq fun K20 hK20 => ?_
        refine D_block ?_
        refine D_seq fun K21 hK21 => ?_
        refine D_region ?_
        refine DL_c (op_mv _ (rfl : _ = AV.v (.int _ _))) ?_
        refine DL_c (op_as _ (rfl : _ = AV.v (.int _ _))) ?_
        refine DL_nil (hK21 _ ?_)
        clear hK21; try clear K21
        refine D_seq fun K22 hK22 => ?_
        refine D_region ?_
        refine DL_c (op_mv _ (rfl : _ = AV.fp _ _)) ?_
        refine DL_c (op_mv _ (rfl : _ = AV.v (.int _ _))) ?_
        refine DL_c (op_mv _ (rfl : _ = AV.v (.int _ _))) ?_
        refine DL_c (op_callH inferInstance (by repeat' (first | exact argsLv_nil | refine argsLv_cons ?_ ?_ | exact Lv.v | exact lvI (by omega) | exact Lv.sl | exact Lv.fp | exact Lv.nil | refine Lv.agg rfl ?_ | refine Lv.fn rfl ?_ rfl ?_ | exact lv_nil | refine lv_cons ?_ ?_ | exact Lv.z0)) (lessN_spec n ab hW a c (by omega) (by omega)) rfl rfl) ?_
        refine DL_c (op_mv _ (rfl : _ = AV.v (.bool _))) ?_
        refine DL_caseC (fun hg54 => ?_) (fun hg54 => ?_)
        · skip
          refine DL_cy rfl rfl (op_mv _ (rfl : _ = AV.ref _ _ _)) ?_
          refine DL_cy rfl rfl (op_mv _ (rfl : _ = AV.v (.int _ _))) ?_
          refine DL_cy rfl rfl (op_callBH inferInstance (by repeat' (first | exact argsLv_nil | refine argsLv_cons ?_ ?_ | exact Lv.v | exact lvI (by omega) | exact Lv.sl | exact Lv.fp | exact Lv.nil | refine Lv.agg rfl ?_ | refine Lv.fn rfl ?_ rfl ?_ | exact lv_nil | refine lv_cons ?_ ?_ | (refine frz0 rfl rfl ?_ rfl; first | (simp; done) | (simp; omega) | omega) | exact Lv.frzP rfl rfl rfl)) (pset_has_spec (covW ab a n) c (covW_lt n ab hW a n) (by omega)) rfl) ?_
          refine DL_cy rfl rfl (op_not _ rfl rfl) ?_
          refine DL_c (op_pick _ _ _ rfl (rfl : _ = AV.v (.bool _))) ?_
          refine DL_nil (hK22 _ ?_)
          clear hK22; try clear K22
          refine D_splitC rfl (fun hc59 => ?_) (fun hc59 => ?_)
          · skip
            have hcv : cov n (wlt ab) a c = true := by simp only [cov, ← covW_bit]; simp [*]
            have hcy := covB_yes n (wlt ab) a c hcv
            refine D_region ?_
            refine DL_c (op_mv _ (rfl : _ = AV.ref _ _ _)) ?_
            refine DL_c (op_mv _ (rfl : _ = AV.v (.int _ _))) ?_
            refine DL_c (op_mv _ (rfl : _ = AV.v (.int _ _))) ?_
            refine DL_c (op_build _ inferInstance rfl (by exact (rfl : _ = some [_, _]))) ?_
            refine DL_c (op_bsF _ _ inferInstance rfl (by rfl) (by simp <;> rfl) (by decide) rfl) ?_
            refine DL_c (op_ap (65, 0) _ _ inferInstance rfl rfl (by first | rfl | omega | (simp only [isl_len, bsl_len, psl_len]; omega) | (simp; done) | (simp; omega)) (by first | exact .nil | (refine .sl ?_; first | (simp [isl]; done) | (simp [isl]; omega)) | (refine .ref rfl rfl ?_; first | (simp; done) | (simp; omega))) (by omega) rfl (rfl) (rfl)) ?_
            refine DL_c (op_as _ (rfl : _ = AV.ref _ _ _)) ?_
            refine DL_nil (hK20 _ ?_)
            clear hK20; try clear K20
            refine D_le (σ' := mkStI 69 [(0, _), (3, _), (4, _), (5, _), (11, _), (12, _), (46, _), (47, _)] [((21, 0), _), ((65, 0), _)] [] []) (by
              refine Le.mkJ [] [] rfl ?_ ?_ trivial trivial ?_
              · exact ⟨(iF rfl), (iR rfl), (iV rfl), (iR rfl), (iV rfl), (iV rfl), (iV rfl), (iV rfl), trivial⟩
              · exact ⟨(obE rfl rfl rfl), (obE rfl rfl rfl), trivial⟩
              · kernel_rfl) ?_
            refine D_region ?_
            first
              | refine DL_c (op_add _ _ rfl rfl (i64w (by omega))) ?_
              | refine DL_c (op_add _ _ rfl rfl rfl) ?_
            refine DL_c (op_mv _ (rfl : _ = AV.v (.int _ _))) ?_
            refine DL_nil ?_
            refine ⟨c + 1, ?_, ?_, ?_⟩
            · first | omega | trivial | exact ⟨by omega, by omega⟩
            · skip
              refine Le.mkJ [((3, 0), (65, 0))] [] rfl ?_ ?_ trivial trivial ?_
              · exact ⟨(by repeat' (first | exact Lv.v | exact Lv.sl | exact Lv.fp | exact lvRr (id := (21, 0)) rfl rfl | exact lvPr (id := (21, 0)) rfl | exact lvRr (id := (3, 0)) rfl rfl | exact lvPr (id := (3, 0)) rfl | exact lvRr rfl rfl | exact lvPr rfl | exact Lv.mp | exact Lv.nil | exact Lv.z | exact Lv.dead | refine Lv.agg rfl ?_ | refine Lv.fn rfl ?_ rfl ?_ | refine Lv.tup rfl ?_ | refine Lv.ifc ?_ | exact lv_nil | refine lv_cons ?_ ?_)), (by repeat' (first | exact Lv.v | exact Lv.sl | exact Lv.fp | exact lvRr (id := (21, 0)) rfl rfl | exact lvPr (id := (21, 0)) rfl | exact lvRr (id := (3, 0)) rfl rfl | exact lvPr (id := (3, 0)) rfl | exact lvRr rfl rfl | exact lvPr rfl | exact Lv.mp | exact Lv.nil | exact Lv.z | exact Lv.dead | refine Lv.agg rfl ?_ | refine Lv.fn rfl ?_ rfl ?_ | refine Lv.tup rfl ?_ | refine Lv.ifc ?_ | exact lv_nil | refine lv_cons ?_ ?_)), (lvRr (id := (21, 0)) rfl rfl), (by repeat' (first | exact Lv.v | exact Lv.sl | exact Lv.fp | exact lvRr (id := (21, 0)) rfl rfl | exact lvPr (id := (21, 0)) rfl | exact lvRr (id := (3, 0)) rfl rfl | exact lvPr (id := (3, 0)) rfl | exact lvRr rfl rfl | exact lvPr rfl | exact Lv.mp | exact Lv.nil | exact Lv.z | exact Lv.dead | refine Lv.agg rfl ?_ | refine Lv.fn rfl ?_ rfl ?_ | refine Lv.tup rfl ?_ | refine Lv.ifc ?_ | exact lv_nil | refine lv_cons ?_ ?_)), (by repeat' (first | exact Lv.v | exact Lv.sl | exact Lv.fp | exact lvRr (id := (21, 0)) rfl rfl | exact lvPr (id := (21, 0)) rfl | exact lvRr (id := (3, 0)) rfl rfl | exact lvPr (id := (3, 0)) rfl | exact lvRr rfl rfl | exact lvPr rfl | exact Lv.mp | exact Lv.nil | exact Lv.z | exact Lv.dead | refine Lv.agg rfl ?_ | refine Lv.fn rfl ?_ rfl ?_ | refine Lv.tup rfl ?_ | refine Lv.ifc ?_ | exact lv_nil | refine lv_cons ?_ ?_)), (by repeat' (first | exact Lv.v | exact Lv.sl | exact Lv.fp | exact lvRr (id := (21, 0)) rfl rfl | exact lvPr (id := (21, 0)) rfl | exact lvRr (id := (3, 0)) rfl rfl | exact lvPr (id := (3, 0)) rfl | exact lvRr rfl rfl | exact lvPr rfl | exact Lv.mp | exact Lv.nil | exact Lv.z | exact Lv.dead | refine Lv.agg rfl ?_ | refine Lv.fn rfl ?_ rfl ?_ | refine Lv.tup rfl ?_ | refine Lv.ifc ?_ | exact lv_nil | refine lv_cons ?_ ?_)), (lvI (by first | rfl | omega | (first | (rw [hcy, ← List.append_assoc, List.length_append]; rfl) | (rw [hcy, ← List.append_assoc, ← psl_append]; rfl)) | (simp; done) | (simp; omega) | assumption)), (lvRr rfl (by first | rfl | omega | (first | (rw [hcy, ← List.append_assoc, List.length_append]; rfl) | (rw [hcy, ← List.append_assoc, ← psl_append]; rfl)) | (simp; done) | (simp; omega) | assumption)), trivial⟩
              · exact ⟨(obR rfl rfl rfl rfl), (obR rfl rfl rfl (by first | rfl | omega | (first | (rw [hcy, ← List.append_assoc, List.length_append]; rfl) | (rw [hcy, ← List.append_assoc, ← psl_append]; rfl)) | (simp; done) | (simp; omega) | assumption)), trivial⟩
              · kernel_rfl
            · omega
          · skip
            have hcv : cov n (wlt ab) a c = false := by simp only [cov, ← covW_bit]; simp [*]
            have hcy := covB_no n (wlt ab) a c hcv
            refine D_skip (hK20 _ ?_)
            clear hK20; try clear K20
            refine D_region ?_
            first
              | refine DL_c (op_add _ _ rfl rfl (i64w (by omega))) ?_
              | refine DL_c (op_add _ _ rfl rfl rfl) ?_
            refine DL_c (op_mv _ (rfl : _ = AV.v (.int _ _))) ?_
            refine DL_nil ?_
            refine ⟨c + 1, ?_, ?_, ?_⟩
            · first | omega | trivial | exact ⟨by omega, by omega⟩
            · skip
              refine Le.mkJ [] [] rfl ?_ ?_ trivial trivial ?_
              · exact ⟨(iF rfl), (iV rfl), (iR rfl), (iV rfl), (iV rfl), (iV rfl), (lvI (by first | rfl | omega | (rw [hcy]) | (simp; done) | (simp; omega) | assumption)), (lvRr rfl (by first | rfl | omega | (rw [hcy]) | (simp; done) | (simp; omega) | assumption)), trivial⟩
              · exact ⟨(obE rfl rfl rfl), (obR rfl rfl rfl (by first | rfl | omega | (rw [hcy]) | (simp; done) | (simp; omega) | assumption)), trivial⟩
              · kernel_rfl
            · omega
        · skip
          have hcv : cov n (wlt ab) a c = false := by simp only [cov, ← covW_bit]; simp [*]
          have hcy := covB_no n (wlt ab) a c hcv
          refine DL_cn rfl rfl (by decide) ?_
          refine DL_cn rfl rfl (by decide) ?_
          refine DL_cn rfl rfl (by decide) ?_
          refine DL_cn rfl rfl (by decide) ?_
          refine DL_c (op_pick _ _ _ rfl (rfl : _ = AV.v (.bool _))) ?_
          refine DL_nil (hK22 _ ?_)
          clear hK22; try clear K22
          refine D_cF rfl rfl ?_
          refine D_skip (hK20 _ ?_)
          clear hK20; try clear K20
          refine D_region ?_
          first
            | refine DL_c (op_add _ _ rfl rfl (i64w (by omega))) ?_
            | refine DL_c (op_add _ _ rfl rfl rfl) ?_
          refine DL_c (op_mv _ (rfl : _ = AV.v (.int _ _))) ?_
          refine DL_nil ?_
          refine ⟨c + 1, ?_, ?_, ?_⟩
          · first | omega | trivial | exact ⟨by omega, by omega⟩
          · skip
            refine Le.mkJ [] [] rfl ?_ ?_ trivial trivial ?_
            · exact ⟨(iF rfl), (iV rfl), (iR rfl), (iV rfl), (iV rfl), (iV rfl), (lvI (by first | rfl | omega | (rw [hcy]) | (simp; done) | (simp; omega) | assumption)), (lvRr rfl (by first | rfl | omega | (rw [hcy]) | (simp; done) | (simp; omega) | assumption)), trivial⟩
            · exact ⟨(obE rfl rfl rfl), (obR rfl rfl rfl (by first | rfl | omega | (rw [hcy]) | (simp; done) | (simp; omega) | assumption)), trivial⟩
            · kernel_rfl
          · omega
      · skip
        obtain rfl : n = c := by omega
        refine D_exit ?_
        refine id (hK7 _ ?_)
        clear hK7; try clear K7
        refine D_region ?_
        first
          | refine DL_c (op_add _ _ rfl rfl (i64w (by omega))) ?_
          | refine DL_c (op_add _ _ rfl rfl rfl) ?_
        refine DL_c (op_mv _ (rfl : _ = AV.v (.int _ _))) ?_
        refine DL_nil ?_
        refine ⟨a + 1, ?_, ?_, ?_⟩
        · first | omega | trivial | exact ⟨by omega, by omega⟩
        · skip
          refine Le.mkJ [] [] rfl ?_ ?_ trivial trivial ?_
          · exact ⟨(iF rfl), (iV rfl), (lvI (by first | rfl | omega | (simp; done) | (simp; omega) | assumption)), (lvRr rfl (by first | rfl | omega | (simp; done) | (simp; omega) | assumption)), trivial⟩
          · exact ⟨(obR rfl rfl rfl (by first | rfl | omega | (simp; done) | (simp; omega) | assumption)), trivial⟩
          · kernel_rfl
        · omega
  · skip
    obtain rfl : n = a := by omega
    refine D_exit ?_
    refine id (hK3 _ ?_)
    clear hK3; try clear K3
    refine D_seq fun K23 hK23 => ?_
    refine D_region ?_
    refine DL_c (op_mv _ (rfl : _ = AV.ref _ _ _)) ?_
    refine DL_c (op_as _ (rfl : _ = AV.ref _ _ _)) ?_
    refine DL_nil (hK23 _ ?_)
    clear hK23; try clear K23
    refine D_ret ?_
    exact ret1 (.inr rfl) rfl (.tmp (rfl : _ = AV.ref _ _ _)) (Le.out [((0, 8), (3, 0))] [] (lvRr rfl (by first | rfl | omega | simp)) rfl rfl rfl trivial ⟨⟨rfl, ⟨_, rfl, .rowE (by first | rfl | simp)⟩, rfl⟩, trivial⟩)
end Go.Proofs.Ytkbkmngbenohkaa
