/- Bits of a word; sets of small numbers; Has; an order's Len, Less, Concurrent by the machine. -/
import Derived.Test.YtkbkmngbenohkaaVoA1
set_option linter.unusedSimpArgs false
set_option linter.unusedVariables false
namespace Go.Proofs.Ytkbkmngbenohkaa
open Go.RowKit

theorem has_spec (n : Nat) (xs : List Int) (x : Int) (hn : xs.length = n) (h1 : n ≤ 4611686018427387904) :
    Spec Try.prog 42 (inSt [.sl n (isl xs), .v (.int .i64 x)] []) (outSt (.v (.bool (decide (x ∈ xs)))) []) := by
  subst hn
  refine Spec.ofN Try.func42 rfl Try.ntmps42 rfl ?_
  refine D_seq fun K1 hK1 => ?_
  refine D_region ?_
  refine DL_c (op_as _ (rfl : _ = AV.v (.bool _))) ?_
  refine DL_nil (hK1 _ ?_)
  clear hK1; try clear K1
  refine D_seq fun K2 hK2 => ?_
  refine D_seq fun K3 hK3 => ?_
  refine D_region ?_
  refine DL_c (op_as _ (rfl : _ = AV.v (.int _ _))) ?_
  refine DL_nil (hK3 _ ?_)
  clear hK3; try clear K3
  refine D_block ?_
  refine D_loopL (α := Nat) (fun k => k ≤ xs.length ∧ x ∉ xs.take k) 18 [(0, _), (1, _)] [] (fun k => [(5, .v (.int .i64 (k : Int)))]) (fun k => []) [] [] (fun k => xs.length - k) 0 ?_ (by
    refine Le.mkJ [] [] rfl ?_ ?_ trivial trivial ?_
    · exact ⟨(by first | exact iS rfl | exact iR rfl | exact iV rfl | exact iZ rfl | exact iD rfl), (iV rfl), (lvI (by first | rfl | omega | (simp; done) | (simp; omega) | assumption)), trivial⟩
    · exact trivial
    · kernel_rfl) ?_
  · exact ⟨by omega, by simp⟩
  intro k hk
  obtain ⟨hk, ht⟩ := hk
  refine D_seq fun K4 hK4 => ?_
  refine D_seq fun K5 hK5 => ?_
  refine D_region ?_
  refine DL_c (op_mv _ (rfl : _ = AV.v (.int _ _))) ?_
  first
    | refine DL_c (op_mv _ (rfl : _ = AV.sl _ _)) ?_
    | refine DL_c (op_mv _ (rfl : _ = AV.ref _ _ _)) ?_
    | refine DL_c (op_mv _ (rfl : _ = AV.v (.slice _ _ _))) ?_
    | refine DL_c (op_mv _ (rfl : _ = AV.z)) ?_
  first
    | refine DL_c (op_lenS _ inferInstance rfl) ?_
    | refine DL_c (op_lenR _ inferInstance rfl rfl) ?_
    | refine DL_c (op_lenN _ inferInstance rfl) ?_
    | refine DL_c (op_lenB _ inferInstance rfl rfl) ?_
    | refine DL_c (op_lenZ _ inferInstance rfl) ?_
  first
    | refine DL_c (op_lss _ _ rfl rfl (by assumption)) ?_
    | refine DL_c (op_lss _ _ rfl rfl rfl) ?_
  refine DL_nil (hK5 _ ?_)
  clear hK5; try clear K5
  refine D_splitC rfl (fun hc9 => ?_) (fun hc9 => ?_)
  · skip
    have hkx : k < xs.length := by omega
    refine D_skip (hK4 _ ?_)
    clear hK4; try clear K4
    refine D_seq fun K6 hK6 => ?_
    refine D_block ?_
    refine D_seq fun K7 hK7 => ?_
    refine D_region ?_
    first
      | refine DL_c (op_mv _ (rfl : _ = AV.sl _ _)) ?_
      | refine DL_c (op_mv _ (rfl : _ = AV.ref _ _ _)) ?_
      | refine DL_c (op_mv _ (rfl : _ = AV.v (.slice _ _ _))) ?_
      | refine DL_c (op_mv _ (rfl : _ = AV.z)) ?_
    refine DL_c (op_mv _ (rfl : _ = AV.v (.int _ _))) ?_
    first
      | refine DL_c (op_ixS _ _ inferInstance rfl rfl _ rfl (by omega) (by first | assumption | decide | (simp only [isl_len, bsl_len, psl_len]; omega) | (simp; done) | (simp; omega) | (simp [isl, bsl]; omega)) (by first | exact Nat.mul_one _ | rfl | omega)) ?_
      | refine DL_c (op_ixS _ _ inferInstance rfl rfl (Int.toNat _) (Int.toNat_of_nonneg (by omega)).symm (by omega) (by first | assumption | decide | (simp only [isl_len, bsl_len, psl_len]; omega) | (simp; done) | (simp; omega) | (simp [isl, bsl]; omega)) (by first | exact Nat.mul_one _ | rfl | omega)) ?_
      | refine DL_c (op_ixR _ _ inferInstance rfl rfl rfl _ rfl (by omega) (by first | exact (Nat.zero_add _).trans (Nat.mul_one _) | exact Nat.zero_add _ | rfl | omega)) ?_
      | refine DL_c (op_ixR _ _ inferInstance rfl rfl rfl (Int.toNat _) (Int.toNat_of_nonneg (by omega)).symm (by omega) (by first | exact (Nat.zero_add _).trans (Nat.mul_one _) | exact Nat.zero_add _ | rfl | omega)) ?_
      | refine DL_c (op_ixB _ _ inferInstance rfl rfl rfl _ rfl (by omega) (by first | exact (Nat.zero_add _).trans (Nat.mul_one _) | exact Nat.zero_add _ | rfl | omega)) ?_
      | refine DL_c (op_ixB _ _ inferInstance rfl rfl rfl (Int.toNat _) (Int.toNat_of_nonneg (by omega)).symm (by omega) (by first | exact (Nat.zero_add _).trans (Nat.mul_one _) | exact Nat.zero_add _ | rfl | omega)) ?_
    first
      | refine DL_c (op_ldB _ inferInstance rfl rfl (rfl : _ = some (AV.v (.int _ _)))) ?_
      | refine DL_c (op_ldR _ inferInstance rfl rfl (by first | rfl | exact isl_get _ _ (by omega) | exact bsl_get _ _ (by omega) | assumption | exact ul_get _ _ (by omega) | exact ws_get _ _ (by omega)) rfl) ?_
      | refine DL_c (op_ldF _ inferInstance rfl (by first | rfl | exact isl_get _ _ (by omega) | exact bsl_get _ _ (by omega) | assumption | exact ul_get _ _ (by omega) | exact ws_get _ _ (by omega)) rfl) ?_
    refine DL_c (op_mv _ (rfl : _ = AV.v (.int _ _))) ?_
    first
      | refine DL_c (op_eql _ _ rfl rfl (by assumption)) ?_
      | refine DL_c (op_eql _ _ rfl rfl rfl) ?_
    refine DL_nil (hK7 _ ?_)
    clear hK7; try clear K7
    refine D_splitC rfl (fun hc17 => ?_) (fun hc17 => ?_)
    · skip
      refine D_seq fun K8 hK8 => ?_
      refine D_region ?_
      refine DL_c (op_as _ (rfl : _ = AV.v (.bool _))) ?_
      refine DL_nil (hK8 _ ?_)
      clear hK8; try clear K8
      refine D_ret ?_
      refine ret1 (.inr rfl) rfl (.tmp (rfl : _ = AV.v (.bool _))) (Le.out [] [] (lvB ?_) rfl rfl rfl trivial trivial)
      rw [getD_at _ _ _ hkx] at hc17
      exact (decide_eq_true (hc17 ▸ List.getElem_mem hkx))
    · skip
      refine D_skip (hK6 _ ?_)
      clear hK6; try clear K6
      refine D_region ?_
      refine DL_c (op_mv _ (rfl : _ = AV.v (.int _ _))) ?_
      first
        | refine DL_c (op_add _ _ rfl rfl (i64w (by omega))) ?_
        | refine DL_c (op_add _ _ rfl rfl rfl) ?_
      refine DL_c (op_as _ (rfl : _ = AV.v (.int _ _))) ?_
      refine DL_nil ?_
      refine ⟨k + 1, ?_, ?_, ?_⟩
      · rw [getD_at _ _ _ hkx] at hc17
        rw [List.take_succ_eq_append_getElem hkx]
        simp only [List.mem_append, List.mem_singleton, not_or]
        exact ⟨by omega, ht, fun e => hc17 e.symm⟩
      · skip
        refine Le.mkJ [] [] rfl ?_ ?_ trivial trivial ?_
        · exact ⟨(by first | exact iS rfl | exact iR rfl | exact iV rfl | exact iZ rfl | exact iD rfl), (iV rfl), (lvI (by first | rfl | omega | (simp; done) | (simp; omega) | assumption)), trivial⟩
        · exact trivial
        · kernel_rfl
      · omega
  · skip
    refine D_exit ?_
    refine id (hK2 _ ?_)
    clear hK2; try clear K2
    refine D_seq fun K9 hK9 => ?_
    refine D_region ?_
    refine DL_c (op_as _ (rfl : _ = AV.v (.bool _))) ?_
    refine DL_nil (hK9 _ ?_)
    clear hK9; try clear K9
    refine D_ret ?_
    refine ret1 (.inr rfl) rfl (.tmp (rfl : _ = AV.v (.bool _))) (Le.out [] [] (lvB ?_) rfl rfl rfl trivial trivial)
    rw [List.take_of_length_le (by omega)] at ht
    exact decide_eq_false ht

theorem u64_of {n : Nat} (h : n < 18446744073709551616) : BitVec.ofInt 64 (n : Int) = BitVec.ofNat 64 n := by
  rw [BitVec.ofInt_natCast]
theorem u64_and (a b : Nat) (ha : a < 18446744073709551616) (hb : b < 18446744073709551616) : IntKind.u64.wrap (BitVec.ofInt IntKind.u64.bits (a : Int) &&& BitVec.ofInt IntKind.u64.bits (b : Int)).toNat = ((a &&& b : Nat) : Int) := by
  show IntKind.u64.wrap (BitVec.ofInt 64 (a : Int) &&& BitVec.ofInt 64 (b : Int)).toNat = _
  rw [u64_of ha, u64_of hb]
  have h : (BitVec.ofNat 64 a &&& BitVec.ofNat 64 b).toNat = a &&& b := by
    rw [BitVec.toNat_and, BitVec.toNat_ofNat, BitVec.toNat_ofNat, Nat.mod_eq_of_lt (by omega), Nat.mod_eq_of_lt (by omega)]
  rw [h, u64w]
  have := Nat.and_le_left (n := a) (m := b)
  omega
theorem u64_or (a b : Nat) (ha : a < 18446744073709551616) (hb : b < 18446744073709551616) : IntKind.u64.wrap (BitVec.ofInt IntKind.u64.bits (a : Int) ||| BitVec.ofInt IntKind.u64.bits (b : Int)).toNat = ((a ||| b : Nat) : Int) := by
  show IntKind.u64.wrap (BitVec.ofInt 64 (a : Int) ||| BitVec.ofInt 64 (b : Int)).toNat = _
  rw [u64_of ha, u64_of hb]
  have h : (BitVec.ofNat 64 a ||| BitVec.ofNat 64 b).toNat = a ||| b := by
    rw [BitVec.toNat_or, BitVec.toNat_ofNat, BitVec.toNat_ofNat, Nat.mod_eq_of_lt (by omega), Nat.mod_eq_of_lt (by omega)]
  rw [h, u64w]
  have := Nat.or_lt_two_pow (x := a) (y := b) (n := 64) (by omega) (by omega)
  omega
theorem u64_shr (a i : Nat) (ha : a < 18446744073709551616) (hi : i < 64) : (a : Int).fdiv (2 ^ min (i : Int).toNat IntKind.u64.bits) = ((a >>> i : Nat) : Int) := by
  have : min (i : Int).toNat IntKind.u64.bits = i := by show min _ 64 = i; rw [Int.toNat_natCast]; omega
  rw [this, Nat.shiftRight_eq_div_pow, Int.fdiv_eq_ediv_of_nonneg _ (by exact Int.le_of_lt (Int.pow_pos (by decide)))]
  simp
theorem u64_shl (i : Nat) (hi : i < 64) : IntKind.u64.wrap (1 * 2 ^ min (i : Int).toNat IntKind.u64.bits) = ((2 ^ i : Nat) : Int) := by
  have : min (i : Int).toNat IntKind.u64.bits = i := by show min _ 64 = i; rw [Int.toNat_natCast]; omega
  rw [this, u64w]
  · simp
  · have h := Nat.pow_lt_pow_right (a := 2) (n := 64) (by omega) hi
    have h' : (1 : Int) * 2 ^ i = ((2 ^ i : Nat) : Int) := by simp
    rw [h']
    generalize 2 ^ i = q at *
    omega
theorem bit_lt (i : Nat) (hi : i < 64) : 2 ^ i < 18446744073709551616 := Nat.pow_lt_pow_right (a := 2) (n := 64) (by omega) hi
theorem shr_le (a i : Nat) : a >>> i ≤ a := by rw [Nat.shiftRight_eq_div_pow]; exact Nat.div_le_self _ _
theorem and_one (a : Nat) (i : Nat) : (((a >>> i &&& 1 : Nat) : Int) == 1) = a.testBit i := by
  rw [Nat.testBit, Nat.and_comm]
  have : 1 &&& (a >>> i) < 2 := by have := Nat.and_le_left (n := 1) (m := a >>> i); omega
  generalize 1 &&& (a >>> i) = b at *
  match b, this with
  | 0, _ => rfl
  | 1, _ => rfl
/-- Has, as the code reckons it. -/
theorem u64_has (w i : Nat) (hw : w < 18446744073709551616) (hi : i < 64) : (IntKind.u64.wrap (BitVec.ofInt IntKind.u64.bits ((w : Int).fdiv (2 ^ min (i : Int).toNat IntKind.u64.bits)) &&& BitVec.ofInt IntKind.u64.bits 1).toNat == 1) = w.testBit i := by
  rw [u64_shr w i hw hi]
  have := u64_and (w >>> i) 1 (by have := shr_le w i; omega) (by omega)
  rw [show ((1 : Nat) : Int) = 1 from rfl] at this
  rw [this]
  exact and_one w i

def ul (l : List Nat) : List PV := l.map fun (x : Nat) => .v (.int .u64 (x : Int))
@[simp] theorem ul_len (l : List Nat) : (ul l).length = l.length := by simp [ul]
theorem ul_get (l : List Nat) (k : Nat) (h : k < l.length) : (ul l)[k]? = some (.v (.int .u64 ((l.getD k 0 : Nat) : Int))) := by simp [ul, h]
/-- The order's two fields: how many; for each element the word of the greater ones. -/
def ws (l : List Nat) : List PV := l.map fun w => .sl 1 (ul [w])
@[simp] theorem ws_len (l : List Nat) : (ws l).length = l.length := by simp [ws]
theorem ws_get (l : List Nat) (k : Nat) (h : k < l.length) : (ws l)[k]? = some (.sl 1 (ul [l.getD k 0])) := by simp [ws, h]
/-- An order's words. -/
structure Words (n : Nat) (ab : List Nat) : Prop where
  len : ab.length = n
  le : n ≤ 64
  lt : ∀ w ∈ ab, w < 18446744073709551616
theorem Words.at {n : Nat} {ab : List Nat} (h : Words n ab) (i : Nat) : ab.getD i 0 < 18446744073709551616 := by
  by_cases hi : i < ab.length
  · rw [getD_at _ _ _ hi]; exact h.lt _ (List.getElem_mem hi)
  · rw [List.getD_eq_getElem?_getD, List.getElem?_eq_none (by omega)]; decide
end Go.Proofs.Ytkbkmngbenohkaa
