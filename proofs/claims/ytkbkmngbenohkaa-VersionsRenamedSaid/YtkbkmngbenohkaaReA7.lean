/- Down by the machine: the order's and the reference's; a search through a slice by a function. -/
import Derived.Test.YtkbkmngbenohkaaReA6
set_option linter.unusedSimpArgs false
set_option linter.unusedVariables false
namespace Go.Proofs.Ytkbkmngbenohkaa
open Go.RowKit

def firstI (p : Int → Bool) : List Int → Int
  | [] => -1
  | x :: l => if p x = true then 0 else (let r := firstI p l; if r < 0 then -1 else r + 1)
theorem firstI_none {p : Int → Bool} : ∀ {l : List Int}, (∀ i, i < l.length → p (l.getD i 0) = false) → firstI p l = -1
  | [], _ => rfl
  | x :: l, h => by
    have h0 : p x = false := h 0 (by simp)
    have h1 : firstI p l = -1 := firstI_none fun i hi => by simpa using h (i + 1) (by simpa using hi)
    simp [firstI, h0, h1]
theorem firstI_at {p : Int → Bool} : ∀ {l : List Int} {i : Nat}, i < l.length → (∀ j, j < i → p (l.getD j 0) = false) → p (l.getD i 0) = true → firstI p l = (i : Int)
  | [], i, h, _, _ => by simp at h
  | x :: l, 0, _, _, h => by
    have : p x = true := by simpa using h
    simp [firstI, this]
  | x :: l, i + 1, h, hn, hy => by
    have h0 : p x = false := by simpa using hn 0 (by omega)
    have h1 : firstI p l = (i : Int) := firstI_at (by simpa using h) (fun j hj => by simpa using hn (j + 1) (by omega)) (by simpa using hy)
    simp only [firstI, h0, h1]
    rw [if_neg (by decide), if_neg (by omega)]; omega
theorem firstI_any {p : Int → Bool} : ∀ {l : List Int}, decide (0 ≤ firstI p l) = l.any p
  | [] => by simp [firstI]
  | x :: l => by
    have ih := firstI_any (p := p) (l := l)
    rw [List.any_cons, ← ih]
    cases h : p x
    · simp only [firstI, h]
      by_cases h2 : firstI p l < 0
      · have h3 : ¬ 0 ≤ firstI p l := by omega
        simp [h2, h3]
      · have h3 : 0 ≤ firstI p l := by omega
        simp [h2, h3]; omega
    · simp [firstI, h]
theorem indexf_spec (f : FuncId) (C : Cbl Try.prog f) (caps : List AV) (hcp : AV.pures caps = true) (hcw : ∀ ids, AV.withins ids caps = true) (n : Nat) (xs : List Int) (hn : xs.length = n) (h1 : n ≤ 4611686018427387904) (p : Int → Bool)
    (hp : ∀ i, i < xs.length → Spec Try.prog f (inSt (.v (.int .i64 (xs.getD i 0)) :: caps) []) (outSt (.v (.bool (p (xs.getD i 0)))) [])) :
    Spec Try.prog 120 (inSt [.sl n (isl xs), .fn (.func f) [] caps] []) (outSt (.v (.int .i64 (firstI p xs))) []) := by
  refine Spec.ofN Try.func120 rfl Try.ntmps120 rfl ?_
  refine D_seq fun K1 hK1 => ?_
  refine D_region ?_
  refine DL_c (op_as _ (rfl : _ = AV.v (.int _ _))) ?_
  refine DL_nil (hK1 _ ?_)
  clear hK1; try clear K1
  refine D_seq fun K2 hK2 => ?_
  refine D_seq fun K3 hK3 => ?_
  refine D_region ?_
  refine DL_c (op_mv _ (rfl : _ = AV.sl _ _)) ?_
  refine DL_c (op_lenS _ inferInstance rfl) ?_
  refine DL_c (op_mv _ (rfl : _ = AV.v (.int _ _))) ?_
  refine DL_nil (hK3 _ ?_)
  clear hK3; try clear K3
  refine D_block ?_
  refine D_loopL (α := Nat) (fun i => i ≤ n ∧ ∀ j, j < i → p (xs.getD j 0) = false) 19 [(0, _), (1, _), (7, _)] [] (fun i => [(8, .v (.int .i64 (i : Int)))]) (fun i => []) [] [] (fun i => n - i) 0 ?_ (by
    refine Le.mkJ [] [] rfl ?_ ?_ trivial trivial ?_
    · exact ⟨(iS rfl), (by first | exact iN rfl | exact iV rfl | exact iD rfl), (iV rfl), (lvI (by first | rfl | omega | (simp; done) | (simp; omega) | assumption)), trivial⟩
    · exact trivial
    · simp [slotsWithin, AV.within, AV.withins, obsWithin, hcw, nodupO, subO]) ?_
  · exact ⟨by omega, fun j hj => by omega⟩
  intro i hi
  obtain ⟨hi, hno⟩ := hi
  refine D_seq fun K4 hK4 => ?_
  refine D_region ?_
  first
    | refine DL_c (op_lss _ _ rfl rfl (by assumption)) ?_
    | refine DL_c (op_lss _ _ rfl rfl rfl) ?_
  refine DL_nil (hK4 _ ?_)
  clear hK4; try clear K4
  refine D_seq fun K5 hK5 => ?_
  refine D_splitC rfl (fun hc9 => ?_) (fun hc9 => ?_)
  · skip
    refine D_skip (hK5 _ ?_)
    clear hK5; try clear K5
    refine D_seq fun K6 hK6 => ?_
    refine D_block ?_
    refine D_seq fun K7 hK7 => ?_
    refine D_region ?_
    refine DL_c (op_mv _ (rfl : _ = AV.v (.int _ _))) ?_
    refine DL_c (op_as _ (rfl : _ = AV.v (.int _ _))) ?_
    refine DL_nil (hK7 _ ?_)
    clear hK7; try clear K7
    refine D_seq fun K8 hK8 => ?_
    refine D_region ?_
    first
      | refine DL_c (op_mv _ (rfl : _ = AV.fn _ _ _)) ?_
      | refine DL_c (op_mv _ (rfl : _ = AV.v _)) ?_
    refine DL_c (op_mv _ (rfl : _ = AV.sl _ _)) ?_
    refine DL_c (op_mv _ (rfl : _ = AV.v (.int _ _))) ?_
    first
      | refine DL_c (op_ixS _ _ inferInstance rfl rfl _ rfl (by omega) (by first | assumption | decide | (simp only [isl_len, bsl_len, psl_len, mrows_len, nsl_len, ws_len]; omega) | (simp; done) | (simp; omega) | (simp [isl, bsl]; omega)) (by first | exact Nat.mul_one _ | rfl | omega)) ?_
      | refine DL_c (op_ixS _ _ inferInstance rfl rfl (Int.toNat _) (Int.toNat_of_nonneg (by omega)).symm (by omega) (by first | assumption | decide | (simp only [isl_len, bsl_len, psl_len, mrows_len, nsl_len, ws_len]; omega) | (simp; done) | (simp; omega) | (simp [isl, bsl]; omega)) (by first | exact Nat.mul_one _ | rfl | omega)) ?_
    refine DL_c (op_ldF _ inferInstance rfl (by first | rfl | exact isl_get _ _ (by omega) | exact bsl_get _ _ (by omega) | assumption | exact mrows_get _ _ (by omega) | exact nsl_get _ _ (by omega)) rfl) ?_
    refine DL_c (op_callHV (first := []) (caps := caps) rfl C (argsLv_cons .v (argsLv_pures caps hcp)) (hp i (by omega)) (by simp [AV.pures, AV.pure, hcp]) rfl) ?_
    refine DL_nil (hK8 _ ?_)
    clear hK8; try clear K8
    refine D_splitC rfl (fun hc16 => ?_) (fun hc16 => ?_)
    · skip
      refine D_seq fun K9 hK9 => ?_
      refine D_region ?_
      refine DL_c (op_mv _ (rfl : _ = AV.v (.int _ _))) ?_
      refine DL_c (op_as _ (rfl : _ = AV.v (.int _ _))) ?_
      refine DL_nil (hK9 _ ?_)
      clear hK9; try clear K9
      refine D_ret ?_
      refine ret1 (.inr rfl) rfl (.tmp (rfl : _ = AV.v (.int _ _))) (Le.out [] [] (lvI ?_) rfl rfl rfl trivial trivial)
      exact firstI_at (by omega) hno hc16
    · skip
      refine D_skip (hK6 _ ?_)
      clear hK6; try clear K6
      refine D_region ?_
      first
        | refine DL_c (op_add _ _ rfl rfl (i64w (by omega))) ?_
        | refine DL_c (op_add _ _ rfl rfl rfl) ?_
      refine DL_c (op_mv _ (rfl : _ = AV.v (.int _ _))) ?_
      refine DL_nil ?_
      refine ⟨i + 1, ?_, ?_, ?_⟩
      · exact ⟨by omega, all_succ hno hc16⟩
      · skip
        refine Le.mkJ [] [] rfl ?_ ?_ trivial trivial ?_
        · exact ⟨(iS rfl), (by first | exact iN rfl | exact iV rfl | exact iD rfl), (iV rfl), (lvI (by first | rfl | omega | (simp; done) | (simp; omega) | assumption)), trivial⟩
        · exact trivial
        · simp [slotsWithin, AV.within, AV.withins, obsWithin, hcw, nodupO, subO]
      · omega
  · skip
    refine D_exit ?_
    refine id (hK2 _ ?_)
    clear hK2; try clear K2
    refine D_seq fun K10 hK10 => ?_
    refine D_region ?_
    refine DL_c (op_as _ (rfl : _ = AV.v (.int _ _))) ?_
    refine DL_nil (hK10 _ ?_)
    clear hK10; try clear K10
    refine D_ret ?_
    refine ret1 (.inr rfl) rfl (.tmp (rfl : _ = AV.v (.int _ _))) (Le.out [] [] (lvI ?_) rfl rfl rfl trivial trivial)
    exact firstI_none fun j hj => hno j (by omega)
theorem containsf_spec (f : FuncId) (C : Cbl Try.prog f) (caps : List AV) (hcp : AV.pures caps = true) (hcw : ∀ ids, AV.withins ids caps = true) (n : Nat) (xs : List Int) (hn : xs.length = n) (h1 : n ≤ 4611686018427387904) (p : Int → Bool)
    (hp : ∀ i, i < xs.length → Spec Try.prog f (inSt (.v (.int .i64 (xs.getD i 0)) :: caps) []) (outSt (.v (.bool (p (xs.getD i 0)))) [])) :
    Spec Try.prog 85 (inSt [.sl n (isl xs), .fn (.func f) [] caps] []) (outSt (.v (.bool (xs.any p))) []) := by
  refine Spec.ofN Try.func85 rfl Try.ntmps85 rfl ?_
  refine D_seq fun K1 hK1 => ?_
  refine D_region ?_
  refine DL_c (op_as _ (rfl : _ = AV.v (.bool _))) ?_
  refine DL_nil (hK1 _ ?_)
  clear hK1; try clear K1
  refine D_seq fun K2 hK2 => ?_
  refine D_region ?_
  refine DL_c (op_mv _ (rfl : _ = AV.sl _ _)) ?_
  first
    | refine DL_c (op_mv _ (rfl : _ = AV.fn _ _ _)) ?_
    | refine DL_c (op_mv _ (rfl : _ = AV.v _)) ?_
  refine DL_c (op_callH inferInstance (argsLv_pures [.sl n (isl xs), .fn (.func f) [] caps] (by simp [AV.pures, AV.pure, hcp])) (indexf_spec f C caps hcp hcw n xs hn h1 p hp) (by simp [AV.pures, AV.pure, hcp]) rfl) ?_
  first
    | refine DL_c (op_geq _ _ rfl rfl (by assumption)) ?_
    | refine DL_c (op_geq _ _ rfl rfl rfl) ?_
  refine DL_c (op_as _ (rfl : _ = AV.v (.bool _))) ?_
  refine DL_nil (hK2 _ ?_)
  clear hK2; try clear K2
  refine D_ret ?_
  refine ret1 (.inr rfl) rfl (.tmp (rfl : _ = AV.v (.bool _))) (Le.out [] [] (lvB ?_) rfl rfl rfl trivial trivial)
  exact firstI_any.symm

end Go.Proofs.Ytkbkmngbenohkaa
