/- Lists as data in the machine; Around, SameInts. -/
import Derived.Test.YtphlaojoehmhaaaFacts2
import Derived.Test.YtphlaojoehmhaaaSpec
set_option linter.unusedSimpArgs false
set_option linter.unusedVariables false
namespace Go.Proofs.Ytphlaojoehmhaaa
open Go.RowKit
def isl (l : List Int) : List PV := l.map fun x => .v (.int .i64 x)
@[simp] theorem isl_len (l : List Int) : (isl l).length = l.length := by simp [isl]
theorem isl_get (l : List Int) (k : Nat) (h : k < l.length) : (isl l)[k]? = some (.v (.int .i64 (l.getD k 0))) := by simp [isl, h]
theorem isl_append (a b : List Int) : isl a ++ isl b = isl (a ++ b) := by simp [isl]
theorem isl_take (a : List Int) (k : Nat) : (isl a).take k = isl (a.take k) := by simp [isl]
theorem isl_drop (a : List Int) (k : Nat) : (isl a).drop k = isl (a.drop k) := by simp [isl]
theorem isl_put (a : List Int) (k : Nat) (x : Int) (h : k < a.length) : putL (isl a) k [.v (.int .i64 x)] = isl (a.set k x) := by rw [putL_one _ _ _ (by simpa using h)]; simp [isl, List.map_set]
theorem isl_zeros (n : Nat) : (rep n [Value.int .i64 0]).map PV.v = isl (List.replicate n 0) := by rw [rep_one]; simp [isl]
theorem getD_at {α : Type} (l : List α) (k : Nat) (d : α) (h : k < l.length) : l.getD k d = l[k] := by simp [h]

def wsl (l : List (Int × Int)) : List PV := l.flatMap fun p => [.v (.int .i64 p.1), .v (.int .i64 p.2)]
@[simp] theorem wsl_len (l : List (Int × Int)) : (wsl l).length = l.length * 2 := by
  induction l with
  | nil => rfl
  | cons p l ih => simp only [wsl, List.flatMap_cons, List.length_append, List.length_cons, List.length_nil] at *; omega
theorem wsl_append (a b : List (Int × Int)) : wsl a ++ wsl b = wsl (a ++ b) := by simp [wsl]
theorem wsl_drop (l : List (Int × Int)) : ∀ k, (wsl l).drop (k * 2) = wsl (l.drop k) := by
  induction l with
  | nil => intro k; simp [wsl]
  | cons p l ih =>
    intro k
    cases k with
    | zero => simp
    | succ k =>
      have : wsl (p :: l) = [PV.v (.int .i64 p.1), .v (.int .i64 p.2)] ++ wsl l := rfl
      rw [this, show (k + 1) * 2 = 2 + k * 2 by omega, ← List.drop_drop]
      simpa using ih k
theorem wsl_take (l : List (Int × Int)) : ∀ k, (wsl l).take (k * 2) = wsl (l.take k) := by
  induction l with
  | nil => intro k; simp [wsl]
  | cons p l ih =>
    intro k
    cases k with
    | zero => simp [wsl]
    | succ k =>
      have : wsl (p :: l) = .v (.int .i64 p.1) :: .v (.int .i64 p.2) :: wsl l := rfl
      rw [this, show (k + 1) * 2 = k * 2 + 1 + 1 by omega, List.take_succ_cons, List.take_succ_cons, ih k]
      rfl
theorem wsl_at (l : List (Int × Int)) (k : Nat) (h : k < l.length) : PV.ups (((wsl l).drop (k * 2)).take 2) = [AV.v (.int .i64 (l.getD k (0, 0)).1), .v (.int .i64 (l.getD k (0, 0)).2)] := by
  rw [wsl_drop, List.drop_eq_getElem_cons h, getD_at l k _ h]; rfl
theorem wsl_get0 (l : List (Int × Int)) (k : Nat) (h : k < l.length) : (wsl l)[k * 2]? = some (.v (.int .i64 (l.getD k (0, 0)).1)) := by
  have := congrArg (fun m => m[0]?) (wsl_drop l k)
  simp only [List.getElem?_drop] at this
  rw [show k * 2 = k * 2 + 0 by omega, this, List.drop_eq_getElem_cons h, getD_at l k _ h]; rfl
theorem wsl_get1 (l : List (Int × Int)) (k : Nat) (h : k < l.length) : (wsl l)[k * 2 + 1]? = some (.v (.int .i64 (l.getD k (0, 0)).2)) := by
  have := congrArg (fun m => m[1]?) (wsl_drop l k)
  simp only [List.getElem?_drop] at this
  rw [this, List.drop_eq_getElem_cons h, getD_at l k _ h]; rfl

def around (n m : Int) : Int := (if n < 0 then -(n + 1) else n) % m
theorem around_lo (n m : Int) (h : 0 < m) : 0 ≤ around n m := Int.emod_nonneg _ (by omega)
theorem around_hi (n m : Int) (h : 0 < m) : around n m < m := Int.emod_lt_of_pos _ h
theorem around_spec (n m : Int) (hm : 1 ≤ m) (h1 : m ≤ 4611686018427387904) (h2 : -9223372036854775808 ≤ n) (h3 : n ≤ 9223372036854775807) :
    Spec Try.prog 10 (inSt [.v (.int .i64 n), .v (.int .i64 m)] []) (outSt (.v (.int .i64 (around n m))) []) := by
  refine Spec.ofN Try.func10 rfl Try.ntmps10 rfl ?_
  refine D_seq fun K1 hK1 => ?_
  refine D_region ?_
  refine DL_c (op_as _ (rfl : _ = AV.v (.int _ _))) ?_
  refine DL_nil (hK1 _ ?_)
  clear hK1; try clear K1
  refine D_seq fun K2 hK2 => ?_
  refine D_seq fun K3 hK3 => ?_
  refine D_region ?_
  refine DL_c (op_mv _ (rfl : _ = AV.v (.int _ _))) ?_
  refine DL_c (op_lss _ _ rfl rfl rfl) ?_
  refine DL_nil (hK3 _ ?_)
  clear hK3; try clear K3
  refine D_split rfl (fun hc6 => ?_) (fun hc6 => ?_)
  · try simp only [decide_eq_true_eq, decide_eq_false_iff_not, bne_iff_ne, bne_eq_false_iff_eq, beq_iff_eq, beq_eq_false_iff_ne, Bool.not_eq_true', Bool.not_eq_false', ne_eq, Int.not_lt, Int.not_le] at hc6
    refine D_region ?_
    refine DL_c (op_mv _ (rfl : _ = AV.v (.int _ _))) ?_
    first
      | refine DL_c (op_add _ _ rfl rfl (i64w (by omega))) ?_
      | refine DL_c (op_add _ _ rfl rfl rfl) ?_
    first
      | refine DL_c (op_neg _ rfl (i64w (by omega))) ?_
      | refine DL_c (op_neg _ rfl rfl) ?_
    refine DL_c (op_as _ (rfl : _ = AV.v (.int _ _))) ?_
    refine DL_nil (hK2 _ ?_)
    clear hK2; try clear K2
    refine D_seq fun K4 hK4 => ?_
    refine D_region ?_
    refine DL_c (op_mv _ (rfl : _ = AV.v (.int _ _))) ?_
    refine DL_c (op_mv _ (rfl : _ = AV.v (.int _ _))) ?_
    first
      | refine DL_c (op_rem _ _ rfl rfl (by omega) (Int.tmod_eq_emod_of_nonneg (by omega))) ?_
      | refine DL_c (op_rem _ _ rfl rfl (by omega) rfl) ?_
    refine DL_c (op_as _ (rfl : _ = AV.v (.int _ _))) ?_
    refine DL_nil (hK4 _ ?_)
    clear hK4; try clear K4
    refine D_ret ?_
    refine ret1 (.inr rfl) rfl (.tmp (rfl : _ = AV.v (.int _ _))) ?_
    refine Le.out [] [] (lvI ?_) rfl rfl rfl trivial trivial
    unfold around
    first | rw [if_pos hc6] | rw [if_neg (by omega)]
  · try simp only [decide_eq_true_eq, decide_eq_false_iff_not, bne_iff_ne, bne_eq_false_iff_eq, beq_iff_eq, beq_eq_false_iff_ne, Bool.not_eq_true', Bool.not_eq_false', ne_eq, Int.not_lt, Int.not_le] at hc6
    refine D_skip (hK2 _ ?_)
    clear hK2; try clear K2
    refine D_seq fun K5 hK5 => ?_
    refine D_region ?_
    refine DL_c (op_mv _ (rfl : _ = AV.v (.int _ _))) ?_
    refine DL_c (op_mv _ (rfl : _ = AV.v (.int _ _))) ?_
    first
      | refine DL_c (op_rem _ _ rfl rfl (by omega) (Int.tmod_eq_emod_of_nonneg (by omega))) ?_
      | refine DL_c (op_rem _ _ rfl rfl (by omega) rfl) ?_
    refine DL_c (op_as _ (rfl : _ = AV.v (.int _ _))) ?_
    refine DL_nil (hK5 _ ?_)
    clear hK5; try clear K5
    refine D_ret ?_
    refine ret1 (.inr rfl) rfl (.tmp (rfl : _ = AV.v (.int _ _))) ?_
    refine Le.out [] [] (lvI ?_) rfl rfl rfl trivial trivial
    unfold around
    first | rw [if_pos hc6] | rw [if_neg (by omega)]

theorem same_spec (n m : Nat) (xs ys : List Int) (hn : xs.length = n) (hm : ys.length = m) (h1 : n ≤ 4611686018427387904) (h2 : m ≤ 4611686018427387904) :
    Spec Try.prog 13 (inSt [.sl n (isl xs), .sl m (isl ys)] []) (outSt (.v (.bool (decide (xs = ys)))) []) := by
  subst hn; subst hm
  refine Spec.ofN Try.func13 rfl Try.ntmps13 rfl ?_
  refine D_seq fun K1 hK1 => ?_
  refine D_region ?_
  refine DL_c (op_as _ (rfl : _ = AV.v (.bool _))) ?_
  refine DL_nil (hK1 _ ?_)
  clear hK1; try clear K1
  refine D_seq fun K2 hK2 => ?_
  refine D_seq fun K3 hK3 => ?_
  refine D_region ?_
  first
    | refine DL_c (op_mv _ (rfl : _ = AV.sl _ _)) ?_
    | refine DL_c (op_mv _ (rfl : _ = AV.ref _ _ _)) ?_
    | refine DL_c (op_mv _ (rfl : _ = AV.v (.slice _ _ _))) ?_
  first
    | refine DL_c (op_lenS _ inferInstance rfl) ?_
    | refine DL_c (op_lenR _ inferInstance rfl rfl) ?_
    | refine DL_c (op_lenN _ inferInstance rfl) ?_
  first
    | refine DL_c (op_mv _ (rfl : _ = AV.sl _ _)) ?_
    | refine DL_c (op_mv _ (rfl : _ = AV.ref _ _ _)) ?_
    | refine DL_c (op_mv _ (rfl : _ = AV.v (.slice _ _ _))) ?_
  first
    | refine DL_c (op_lenS _ inferInstance rfl) ?_
    | refine DL_c (op_lenR _ inferInstance rfl rfl) ?_
    | refine DL_c (op_lenN _ inferInstance rfl) ?_
  refine DL_c (op_neq _ _ rfl rfl rfl) ?_
  refine DL_nil (hK3 _ ?_)
  clear hK3; try clear K3
  refine D_split rfl (fun hc10 => ?_) (fun hc10 => ?_)
  · try simp only [decide_eq_true_eq, decide_eq_false_iff_not, bne_iff_ne, bne_eq_false_iff_eq, beq_iff_eq, beq_eq_false_iff_ne, Bool.not_eq_true', Bool.not_eq_false', ne_eq, Int.not_lt, Int.not_le] at hc10
    refine D_seq fun K4 hK4 => ?_
    refine D_region ?_
    refine DL_c (op_as _ (rfl : _ = AV.v (.bool _))) ?_
    refine DL_nil (hK4 _ ?_)
    clear hK4; try clear K4
    refine D_ret ?_
    refine ret1 (.inr rfl) rfl (.tmp (rfl : _ = AV.v (.bool _))) ?_
    refine Le.out [] [] (lvB ?_) rfl rfl rfl trivial trivial
    exact decide_eq_false fun h => by subst h; omega
  · try simp only [decide_eq_true_eq, decide_eq_false_iff_not, bne_iff_ne, bne_eq_false_iff_eq, beq_iff_eq, beq_eq_false_iff_ne, Bool.not_eq_true', Bool.not_eq_false', ne_eq, Int.not_lt, Int.not_le] at hc10
    refine D_skip (hK2 _ ?_)
    clear hK2; try clear K2
    refine D_seq fun K5 hK5 => ?_
    refine D_seq fun K6 hK6 => ?_
    refine D_region ?_
    refine DL_c (op_as _ (rfl : _ = AV.v (.int _ _))) ?_
    refine DL_nil (hK6 _ ?_)
    clear hK6; try clear K6
    refine D_block ?_
    refine D_loopP (fun k : Nat => k ≤ xs.length ∧ xs.length = ys.length ∧ xs.take k = ys.take k) (fun k => mkSt 26 [(0, .sl xs.length (isl xs)), (1, .sl ys.length (isl ys)), (4, .v (.bool false)), (5, .v (.int .i64 (k : Int)))] []) (fun k => xs.length - k) 0 ?_ ?_ ?_
    · exact ⟨by omega, by omega, rfl⟩
    · exact Le.mk [] [] rfl ⟨.sl, .sl, .v, .v, trivial⟩ rfl rfl rfl trivial trivial
    · rintro k ⟨hk, hl, ht⟩
      refine D_seq fun K7 hK7 => ?_
      refine D_seq fun K8 hK8 => ?_
      refine D_region ?_
      refine DL_c (op_mv _ (rfl : _ = AV.v (.int _ _))) ?_
      first
        | refine DL_c (op_mv _ (rfl : _ = AV.sl _ _)) ?_
        | refine DL_c (op_mv _ (rfl : _ = AV.ref _ _ _)) ?_
        | refine DL_c (op_mv _ (rfl : _ = AV.v (.slice _ _ _))) ?_
      first
        | refine DL_c (op_lenS _ inferInstance rfl) ?_
        | refine DL_c (op_lenR _ inferInstance rfl rfl) ?_
        | refine DL_c (op_lenN _ inferInstance rfl) ?_
      refine DL_c (op_lss _ _ rfl rfl rfl) ?_
      refine DL_nil (hK8 _ ?_)
      clear hK8; try clear K8
      refine D_split rfl (fun hc14 => ?_) (fun hc14 => ?_)
      · try simp only [decide_eq_true_eq, decide_eq_false_iff_not, bne_iff_ne, bne_eq_false_iff_eq, beq_iff_eq, beq_eq_false_iff_ne, Bool.not_eq_true', Bool.not_eq_false', ne_eq, Int.not_lt, Int.not_le] at hc14
        have hkx : k < xs.length := by omega
        have hky : k < ys.length := by omega
        refine D_skip (hK7 _ ?_)
        clear hK7; try clear K7
        refine D_seq fun K9 hK9 => ?_
        refine D_block ?_
        refine D_seq fun K10 hK10 => ?_
        refine D_any 9 [17, 18, 19, 20, 21, 22, 23, 24, 25] [] (by kernel_rfl) (by kernel_rfl) rfl (nodupO_iff rfl) ?_
        first
          | refine any_c (_, none) (fun τ => op_mv _ (rfl : _ = AV.sl _ _)) ?_
          | refine any_c (_, none) (fun τ => op_mv _ (rfl : _ = AV.ref _ _ _)) ?_
          | refine any_c (_, none) (fun τ => op_mv _ (rfl : _ = AV.v (.slice _ _ _))) ?_
        refine any_c (_, none) (fun τ => op_mv _ (rfl : _ = AV.v (.int _ _))) ?_
        first
          | refine any_c (_, none) (fun τ => op_ixS _ _ inferInstance rfl rfl _ rfl (by omega) (by first | assumption | decide | (simp [isl]; omega)) (by first | exact Nat.mul_one _ | rfl)) ?_
          | refine any_c (_, none) (fun τ => op_ixS _ _ inferInstance rfl rfl 0 rfl (by omega) (by first | assumption | decide | (simp [isl]; omega)) (by first | exact Nat.mul_one _ | rfl)) ?_
          | refine any_c (_, none) (fun τ => op_ixS _ _ inferInstance rfl rfl 1 rfl (by omega) (by first | assumption | decide | (simp [isl]; omega)) (by first | exact Nat.mul_one _ | rfl)) ?_
          | refine any_c (_, none) (fun τ => op_ixS _ _ inferInstance rfl rfl (Int.toNat _) (Int.toNat_of_nonneg (by omega)).symm (by omega) (by first | assumption | decide | (simp [isl]; omega)) (by first | exact Nat.mul_one _ | rfl)) ?_
          | refine any_c (_, none) (fun τ => op_ixR _ _ inferInstance rfl rfl rfl _ rfl (by omega) (by first | exact Nat.mul_one _ | rfl)) ?_
          | refine any_c (_, none) (fun τ => op_ixR _ _ inferInstance rfl rfl rfl 0 rfl (by omega) (by first | exact Nat.mul_one _ | rfl)) ?_
          | refine any_c (_, none) (fun τ => op_ixR _ _ inferInstance rfl rfl rfl 1 rfl (by omega) (by first | exact Nat.mul_one _ | rfl)) ?_
          | refine any_c (_, none) (fun τ => op_ixR _ _ inferInstance rfl rfl rfl (Int.toNat _) (Int.toNat_of_nonneg (by omega)).symm (by omega) (by first | exact Nat.mul_one _ | rfl)) ?_
        first
          | refine any_c (_, none) (fun τ => op_ldB _ inferInstance rfl rfl (rfl : _ = some (AV.v (.int _ _)))) ?_
          | refine any_c (_, none) (fun τ => op_ldR _ inferInstance rfl rfl (by first | rfl | exact isl_get _ _ (by omega) | exact bsl_get _ _ (by omega) | exact wsl_get0 _ _ (by omega) | exact wsl_get1 _ _ (by omega) | assumption) rfl) ?_
          | refine any_c (_, none) (fun τ => op_ldF _ inferInstance rfl (by first | rfl | exact isl_get _ _ (by omega) | exact bsl_get _ _ (by omega) | exact wsl_get0 _ _ (by omega) | exact wsl_get1 _ _ (by omega) | assumption) rfl) ?_
        first
          | refine any_c (_, none) (fun τ => op_mv _ (rfl : _ = AV.sl _ _)) ?_
          | refine any_c (_, none) (fun τ => op_mv _ (rfl : _ = AV.ref _ _ _)) ?_
          | refine any_c (_, none) (fun τ => op_mv _ (rfl : _ = AV.v (.slice _ _ _))) ?_
        refine any_c (_, none) (fun τ => op_mv _ (rfl : _ = AV.v (.int _ _))) ?_
        first
          | refine any_c (_, none) (fun τ => op_ixS _ _ inferInstance rfl rfl _ rfl (by omega) (by first | assumption | decide | (simp [isl]; omega)) (by first | exact Nat.mul_one _ | rfl)) ?_
          | refine any_c (_, none) (fun τ => op_ixS _ _ inferInstance rfl rfl 0 rfl (by omega) (by first | assumption | decide | (simp [isl]; omega)) (by first | exact Nat.mul_one _ | rfl)) ?_
          | refine any_c (_, none) (fun τ => op_ixS _ _ inferInstance rfl rfl 1 rfl (by omega) (by first | assumption | decide | (simp [isl]; omega)) (by first | exact Nat.mul_one _ | rfl)) ?_
          | refine any_c (_, none) (fun τ => op_ixS _ _ inferInstance rfl rfl (Int.toNat _) (Int.toNat_of_nonneg (by omega)).symm (by omega) (by first | assumption | decide | (simp [isl]; omega)) (by first | exact Nat.mul_one _ | rfl)) ?_
          | refine any_c (_, none) (fun τ => op_ixR _ _ inferInstance rfl rfl rfl _ rfl (by omega) (by first | exact Nat.mul_one _ | rfl)) ?_
          | refine any_c (_, none) (fun τ => op_ixR _ _ inferInstance rfl rfl rfl 0 rfl (by omega) (by first | exact Nat.mul_one _ | rfl)) ?_
          | refine any_c (_, none) (fun τ => op_ixR _ _ inferInstance rfl rfl rfl 1 rfl (by omega) (by first | exact Nat.mul_one _ | rfl)) ?_
          | refine any_c (_, none) (fun τ => op_ixR _ _ inferInstance rfl rfl rfl (Int.toNat _) (Int.toNat_of_nonneg (by omega)).symm (by omega) (by first | exact Nat.mul_one _ | rfl)) ?_
        first
          | refine any_c (_, none) (fun τ => op_ldB _ inferInstance rfl rfl (rfl : _ = some (AV.v (.int _ _)))) ?_
          | refine any_c (_, none) (fun τ => op_ldR _ inferInstance rfl rfl (by first | rfl | exact isl_get _ _ (by omega) | exact bsl_get _ _ (by omega) | exact wsl_get0 _ _ (by omega) | exact wsl_get1 _ _ (by omega) | assumption) rfl) ?_
          | refine any_c (_, none) (fun τ => op_ldF _ inferInstance rfl (by first | rfl | exact isl_get _ _ (by omega) | exact bsl_get _ _ (by omega) | exact wsl_get0 _ _ (by omega) | exact wsl_get1 _ _ (by omega) | assumption) rfl) ?_
        refine any_c (_, none) (fun τ => op_neq _ _ rfl rfl rfl) ?_
        refine any_end ⟨rfl, ?_⟩
        simp only [List.drop_succ_cons, List.drop_zero, List.drop_nil]
        refine DL_nil (hK10 _ ?_)
        clear hK10; try clear K10
        refine D_split rfl (fun hc25 => ?_) (fun hc25 => ?_)
        · try simp only [decide_eq_true_eq, decide_eq_false_iff_not, bne_iff_ne, bne_eq_false_iff_eq, beq_iff_eq, beq_eq_false_iff_ne, Bool.not_eq_true', Bool.not_eq_false', ne_eq, Int.not_lt, Int.not_le] at hc25
          refine D_seq fun K11 hK11 => ?_
          refine D_region ?_
          refine DL_c (op_as _ (rfl : _ = AV.v (.bool _))) ?_
          refine DL_nil (hK11 _ ?_)
          clear hK11; try clear K11
          refine D_ret ?_
          refine ret1 (.inr rfl) rfl (.tmp (rfl : _ = AV.v (.bool _))) ?_
          refine Le.out [] [] (lvB ?_) rfl rfl rfl trivial trivial
          exact decide_eq_false fun h => by subst h; exact hc25 rfl
        · try simp only [decide_eq_true_eq, decide_eq_false_iff_not, bne_iff_ne, bne_eq_false_iff_eq, beq_iff_eq, beq_eq_false_iff_ne, Bool.not_eq_true', Bool.not_eq_false', ne_eq, Int.not_lt, Int.not_le] at hc25
          refine D_skip (hK9 _ ?_)
          clear hK9; try clear K9
          refine D_region ?_
          refine DL_c (op_mv _ (rfl : _ = AV.v (.int _ _))) ?_
          first
            | refine DL_c (op_add _ _ rfl rfl (i64w (by omega))) ?_
            | refine DL_c (op_add _ _ rfl rfl rfl) ?_
          refine DL_c (op_as _ (rfl : _ = AV.v (.int _ _))) ?_
          refine DL_nil ?_
          refine ⟨k + 1, ⟨by omega, hl, ?_⟩, Le.mk [] [] rfl ⟨.sl, .sl, .v, lvI (by omega), trivial⟩ rfl rfl rfl trivial trivial, by omega⟩
          rw [getD_at _ _ _ hkx, getD_at _ _ _ hky] at hc25
          rw [List.take_succ_eq_append_getElem hkx, List.take_succ_eq_append_getElem hky, ht, hc25]
      · try simp only [decide_eq_true_eq, decide_eq_false_iff_not, bne_iff_ne, bne_eq_false_iff_eq, beq_iff_eq, beq_eq_false_iff_ne, Bool.not_eq_true', Bool.not_eq_false', ne_eq, Int.not_lt, Int.not_le] at hc14
        refine D_exit ?_
        refine id (hK5 _ ?_)
        clear hK5; try clear K5
        refine D_seq fun K12 hK12 => ?_
        refine D_region ?_
        refine DL_c (op_as _ (rfl : _ = AV.v (.bool _))) ?_
        refine DL_nil (hK12 _ ?_)
        clear hK12; try clear K12
        refine D_ret ?_
        refine ret1 (.inr rfl) rfl (.tmp (rfl : _ = AV.v (.bool _))) ?_
        refine Le.out [] [] (lvB ?_) rfl rfl rfl trivial trivial
        rw [List.take_of_length_le (by omega), List.take_of_length_le (by omega)] at ht
        exact decide_eq_true ht
end Go.Proofs.Ytphlaojoehmhaaa
