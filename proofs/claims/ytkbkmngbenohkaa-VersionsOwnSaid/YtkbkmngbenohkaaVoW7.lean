/- Laws on versions: Pick, same, lives by the machine. -/
import Derived.Test.YtkbkmngbenohkaaVoW6
set_option linter.unusedSimpArgs false
set_option linter.unusedVariables false
namespace Go.Proofs.Ytkbkmngbenohkaa
open Go.RowKit

def pk (l : List Int) (i : Nat) (n : Int) : Int := if i < l.length then around (l.getD i 0) n else 0
theorem pick_spec (m : Nat) (l : List Int) (hm : l.length = m) (h1 : m ≤ 4611686018427387904) (hr : Rng l) (i : Nat) (n : Int) (hn : 1 ≤ n) (hn1 : n ≤ 4611686018427387904) :
    Spec Try.prog 96 (inSt [.sl m (isl l), .v (.int .i64 (i : Int)), .v (.int .i64 n)] []) (outSt (.v (.int .i64 (pk l i n))) []) := by
  have hrg := rngd hr i
  refine Spec.ofN Try.func96 rfl Try.ntmps96 rfl ?_
  refine D_seq fun K1 hK1 => ?_
  refine D_region ?_
  refine DL_c (op_as _ (rfl : _ = AV.v (.int _ _))) ?_
  refine DL_nil (hK1 _ ?_)
  clear hK1; try clear K1
  refine D_seq fun K2 hK2 => ?_
  refine D_seq fun K3 hK3 => ?_
  refine D_region ?_
  refine DL_c (op_mv _ (rfl : _ = AV.v (.int _ _))) ?_
  first
    | refine DL_c (op_lss _ _ rfl rfl (by assumption)) ?_
    | refine DL_c (op_lss _ _ rfl rfl rfl) ?_
  refine DL_c (op_mv _ (rfl : _ = AV.v (.bool _))) ?_
  refine DL_caseC (fun hg9 => ?_) (fun hg9 => ?_)
  · skip
    refine DL_cn rfl rfl (by decide) ?_
    refine DL_cn rfl rfl (by decide) ?_
    refine DL_cn rfl rfl (by decide) ?_
    refine DL_cn rfl rfl (by decide) ?_
    refine DL_c (op_pick _ _ _ rfl (rfl : _ = AV.v (.bool _))) ?_
    refine DL_nil (hK3 _ ?_)
    clear hK3; try clear K3
    refine D_cT rfl rfl ?_
    refine D_seq fun K4 hK4 => ?_
    refine D_region ?_
    refine DL_c (op_as _ (rfl : _ = AV.v (.int _ _))) ?_
    refine DL_nil (hK4 _ ?_)
    clear hK4; try clear K4
    refine D_ret ?_
    exact absurd hg9 (by omega)
  · skip
    refine DL_cy rfl rfl (op_mv _ (rfl : _ = AV.v (.int _ _))) ?_
    refine DL_cy rfl rfl (op_mv _ (rfl : _ = AV.sl _ _)) ?_
    refine DL_cy rfl rfl (op_lenS _ inferInstance rfl) ?_
    first
      | refine DL_cy rfl rfl (op_geq _ _ rfl rfl (by assumption)) ?_
      | refine DL_cy rfl rfl (op_geq _ _ rfl rfl rfl) ?_
    refine DL_c (op_pick _ _ _ rfl (rfl : _ = AV.v (.bool _))) ?_
    refine DL_nil (hK3 _ ?_)
    clear hK3; try clear K3
    refine D_splitC rfl (fun hc14 => ?_) (fun hc14 => ?_)
    · skip
      refine D_seq fun K5 hK5 => ?_
      refine D_region ?_
      refine DL_c (op_as _ (rfl : _ = AV.v (.int _ _))) ?_
      refine DL_nil (hK5 _ ?_)
      clear hK5; try clear K5
      refine D_ret ?_
      refine ret1 (.inr rfl) rfl (.tmp (rfl : _ = AV.v (.int _ _))) (Le.out [] [] (lvI ?_) rfl rfl rfl trivial trivial)
      unfold pk; first | rw [if_neg (by omega)] | rw [if_pos (by omega)]
    · skip
      refine D_skip (hK2 _ ?_)
      clear hK2; try clear K2
      refine D_seq fun K6 hK6 => ?_
      refine D_region ?_
      refine DL_c (op_mv _ (rfl : _ = AV.sl _ _)) ?_
      refine DL_c (op_mv _ (rfl : _ = AV.v (.int _ _))) ?_
      first
        | refine DL_c (op_ixS _ _ inferInstance rfl rfl _ rfl (by omega) (by first | assumption | decide | (simp only [isl_len, bsl_len, psl_len, mrows_len, nsl_len, ws_len, List.length_map, ul_len, psl_len, isl_len, nrows_len, prL_len, blR_len]; omega) | (simp; done) | (simp; omega) | (simp [isl, bsl]; omega)) (by first | exact Nat.mul_one _ | rfl | omega)) ?_
        | refine DL_c (op_ixS _ _ inferInstance rfl rfl (Int.toNat _) (Int.toNat_of_nonneg (by omega)).symm (by omega) (by first | assumption | decide | (simp only [isl_len, bsl_len, psl_len, mrows_len, nsl_len, ws_len, List.length_map, ul_len, psl_len, isl_len, nrows_len, prL_len, blR_len]; omega) | (simp; done) | (simp; omega) | (simp [isl, bsl]; omega)) (by first | exact Nat.mul_one _ | rfl | omega)) ?_
      refine DL_c (op_ldF _ inferInstance rfl (by first | rfl | exact isl_get _ _ (by omega) | exact bsl_get _ _ (by omega) | assumption | exact isl_get _ _ (by omega) | exact nsl_get _ _ (by omega) | exact ul_get _ _ (by omega) | exact nrows_get _ _ (by omega) | exact blR_get0 _ _ (by omega) | exact blR_get1 _ _ (by omega)) rfl) ?_
      refine DL_c (op_mv _ (rfl : _ = AV.v (.int _ _))) ?_
      refine DL_c (op_callH inferInstance (by repeat' (first | exact argsLv_nil | refine argsLv_cons ?_ ?_ | exact Lv.v | exact lvI (by omega) | exact Lv.sl | exact Lv.fp | exact Lv.nil | refine Lv.agg rfl ?_ | refine Lv.fn rfl ?_ rfl ?_ | exact lv_nil | refine lv_cons ?_ ?_ | exact Lv.z0)) (around_spec (l.getD i 0) n hn hn1 hrg.1 hrg.2) rfl rfl) ?_
      refine DL_c (op_as _ (rfl : _ = AV.v (.int _ _))) ?_
      refine DL_nil (hK6 _ ?_)
      clear hK6; try clear K6
      refine D_ret ?_
      refine ret1 (.inr rfl) rfl (.tmp (rfl : _ = AV.v (.int _ _))) (Le.out [] [] (lvI ?_) rfl rfl rfl trivial trivial)
      unfold pk; first | rw [if_neg (by omega)] | rw [if_pos (by omega)]
theorem blR_get0 (L : List (Nat × List Nat)) : ∀ (i : Nat), i < L.length → (blR L)[i * 2]? = some (.v (.int .i64 (((L.getD i (0, [])).1 : Nat) : Int))) := by
  induction L with
  | nil => intro i h; simp at h
  | cons b L ih =>
    intro i h
    have e : blR (b :: L) = .v (.int .i64 (b.1 : Int)) :: .sl b.2.length (nsl b.2) :: blR L := rfl
    cases i with
    | zero => simp [e]
    | succ i => rw [e, show (i + 1) * 2 = i * 2 + 1 + 1 by omega, List.getElem?_cons_succ, List.getElem?_cons_succ, ih i (by simpa using h)]; rfl
theorem blR_get1 (L : List (Nat × List Nat)) : ∀ (i : Nat), i < L.length → (blR L)[i * 2 + 1]? = some (.sl (L.getD i (0, [])).2.length (nsl (L.getD i (0, [])).2)) := by
  induction L with
  | nil => intro i h; simp at h
  | cons b L ih =>
    intro i h
    have e : blR (b :: L) = .v (.int .i64 (b.1 : Int)) :: .sl b.2.length (nsl b.2) :: blR L := rfl
    cases i with
    | zero => simp [e]
    | succ i => rw [e, show (i + 1) * 2 + 1 = i * 2 + 1 + 1 + 1 by omega, List.getElem?_cons_succ, List.getElem?_cons_succ, ih i (by simpa using h)]; rfl
theorem cast_inj {a b : List Nat} : a.map (fun (x : Nat) => (x : Int)) = b.map (fun (x : Nat) => (x : Int)) ↔ a = b := by
  constructor
  · intro h
    apply List.ext_getElem
    · simpa using congrArg List.length h
    · intro i h1 h2
      have := congrArg (fun l => l[i]?) h
      simp only [List.getElem?_map, List.getElem?_eq_getElem h1, List.getElem?_eq_getElem h2, Option.map_some, Option.some.injEq] at this
      omega
  · intro h; rw [h]
theorem samebl_spec (n m : Nat) (L M : List (Nat × List Nat)) (hL : L.length = n) (hM : M.length = m) (h1 : n ≤ 1000) (h2 : m ≤ 1000) (h3 : ∀ i, (L.getD i (0, [])).2.length ≤ 1000) (h4 : ∀ i, (M.getD i (0, [])).2.length ≤ 1000) :
    Spec Try.prog 61 (inSt [.sl n (blR L), .sl m (blR M)] []) (outSt (.v (.bool (decide (L = M)))) []) := by
  subst hL; subst hM
  refine Spec.ofN Try.func61 rfl Try.ntmps61 rfl ?_
  refine D_seq fun K1 hK1 => ?_
  refine D_region ?_
  refine DL_c (op_as _ (rfl : _ = AV.v (.bool _))) ?_
  refine DL_nil (hK1 _ ?_)
  clear hK1; try clear K1
  refine D_seq fun K2 hK2 => ?_
  refine D_seq fun K3 hK3 => ?_
  refine D_region ?_
  refine DL_c (op_mv _ (rfl : _ = AV.sl _ _)) ?_
  refine DL_c (op_lenS _ inferInstance rfl) ?_
  refine DL_c (op_mv _ (rfl : _ = AV.sl _ _)) ?_
  refine DL_c (op_lenS _ inferInstance rfl) ?_
  first
    | refine DL_c (op_neq _ _ rfl rfl (by assumption)) ?_
    | refine DL_c (op_neq _ _ rfl rfl rfl) ?_
  refine DL_nil (hK3 _ ?_)
  clear hK3; try clear K3
  refine D_splitC rfl (fun hc10 => ?_) (fun hc10 => ?_)
  · skip
    refine D_seq fun K4 hK4 => ?_
    refine D_region ?_
    refine DL_c (op_as _ (rfl : _ = AV.v (.bool _))) ?_
    refine DL_nil (hK4 _ ?_)
    clear hK4; try clear K4
    refine D_ret ?_
    refine ret1 (.inr rfl) rfl (.tmp (rfl : _ = AV.v (.bool _))) (Le.out [] [] (lvB ?_) rfl rfl rfl trivial trivial)
    exact decide_eq_false fun h => by subst h; omega
  · skip
    refine D_skip (hK2 _ ?_)
    clear hK2; try clear K2
    refine D_seq fun K5 hK5 => ?_
    refine D_seq fun K6 hK6 => ?_
    refine D_region ?_
    refine DL_c (op_as _ (rfl : _ = AV.v (.int _ _))) ?_
    refine DL_nil (hK6 _ ?_)
    clear hK6; try clear K6
    refine D_block ?_
    refine D_loopL (α := Nat) (fun k => k ≤ L.length ∧ L.length = M.length ∧ L.take k = M.take k) 42 [(0, _), (1, _)] [] (fun k => [(5, .v (.int .i64 (k : Int)))]) (fun k => []) [] [] (fun k => L.length - k) 0 ?_ (by
      refine Le.mkJ [] [] rfl ?_ ?_ trivial trivial ?_
      · exact ⟨(iS rfl), (iS rfl), (lvI (by first | rfl | omega | (simp; done) | (simp; omega) | assumption)), trivial⟩
      · exact trivial
      · kernel_rfl) ?_
    · exact ⟨by omega, by omega, rfl⟩
    intro k hk
    obtain ⟨hk, hl, ht⟩ := hk
    refine D_seq fun K7 hK7 => ?_
    refine D_seq fun K8 hK8 => ?_
    refine D_region ?_
    refine DL_c (op_mv _ (rfl : _ = AV.v (.int _ _))) ?_
    refine DL_c (op_mv _ (rfl : _ = AV.sl _ _)) ?_
    refine DL_c (op_lenS _ inferInstance rfl) ?_
    first
      | refine DL_c (op_lss _ _ rfl rfl (by assumption)) ?_
      | refine DL_c (op_lss _ _ rfl rfl rfl) ?_
    refine DL_nil (hK8 _ ?_)
    clear hK8; try clear K8
    refine D_splitC rfl (fun hc14 => ?_) (fun hc14 => ?_)
    · skip
      have hkx : k < L.length := by omega
      have hky : k < M.length := by omega
      have h3k := h3 k
      have h4k := h4 k
      refine D_skip (hK7 _ ?_)
      clear hK7; try clear K7
      refine D_seq fun K9 hK9 => ?_
      refine D_block ?_
      refine D_seq fun K10 hK10 => ?_
      refine D_le (σ' := mkStI 42 [(0, _), (1, _), (5, _)] [] [] []) (by
        refine Le.mkJ [] [] rfl ?_ ?_ trivial trivial ?_
        · exact ⟨(iS rfl), (iS rfl), (iV rfl), trivial⟩
        · exact trivial
        · kernel_rfl) ?_
      refine D_anyL 25 [17, 18, 19, 20, 21, 22, 23, 24, 25, 26, 27, 28, 29, 30, 31, 32, 33, 34, 35, 36, 37, 38, 39, 40, 41] [] (by kernel_rfl) (by kernel_rfl) rfl (nodupO_iff rfl) (rfl : _ = [_, _, _, _, _, _, _, _, _, _, _, _, _, _, _, _, _, _, _, _, _, _, _, _, _]) (rfl : _ = []) ?_
      refine any_c (_, []) (fun τ => op_mv _ (rfl : _ = AV.sl _ _)) ?_
      refine any_n (rfl : _ = [_]) ?_
      refine any_c (_, []) (fun τ => op_mv _ (rfl : _ = AV.v (.int _ _))) ?_
      refine any_n (rfl : _ = [_, _]) ?_
      first
        | refine any_c (_, []) (fun τ => op_ixS _ _ inferInstance rfl rfl _ rfl (by omega) (by first | assumption | decide | (simp only [isl_len, bsl_len, psl_len, mrows_len, nsl_len, ws_len, List.length_map, ul_len, psl_len, isl_len, nrows_len, prL_len, blR_len]; omega) | (simp; done) | (simp; omega) | (simp [isl, bsl]; omega)) (by first | exact Nat.mul_one _ | rfl | omega)) ?_
        | refine any_c (_, []) (fun τ => op_ixS _ _ inferInstance rfl rfl (Int.toNat _) (Int.toNat_of_nonneg (by omega)).symm (by omega) (by first | assumption | decide | (simp only [isl_len, bsl_len, psl_len, mrows_len, nsl_len, ws_len, List.length_map, ul_len, psl_len, isl_len, nrows_len, prL_len, blR_len]; omega) | (simp; done) | (simp; omega) | (simp [isl, bsl]; omega)) (by first | exact Nat.mul_one _ | rfl | omega)) ?_
      refine any_n (rfl : _ = [_, _, _]) ?_
      first
        | refine any_c (_, []) (fun τ => op_fldP _ inferInstance rfl rfl rfl) ?_
        | refine any_c (_, []) (fun τ => op_fldF _ inferInstance rfl rfl) ?_
      refine any_n (rfl : _ = [_, _, _, _]) ?_
      refine any_c (_, []) (fun τ => op_ldF _ inferInstance rfl (by first | rfl | exact isl_get _ _ (by omega) | exact bsl_get _ _ (by omega) | assumption | exact isl_get _ _ (by omega) | exact nsl_get _ _ (by omega) | exact ul_get _ _ (by omega) | exact nrows_get _ _ (by omega) | exact blR_get0 _ _ (by omega) | exact blR_get1 _ _ (by omega)) rfl) ?_
      refine any_n (rfl : _ = [_, _, _, _, _]) ?_
      refine any_c (_, []) (fun τ => op_mv _ (rfl : _ = AV.sl _ _)) ?_
      refine any_n (rfl : _ = [_, _, _, _, _, _]) ?_
      refine any_c (_, []) (fun τ => op_mv _ (rfl : _ = AV.v (.int _ _))) ?_
      refine any_n (rfl : _ = [_, _, _, _, _, _, _]) ?_
      first
        | refine any_c (_, []) (fun τ => op_ixS _ _ inferInstance rfl rfl _ rfl (by omega) (by first | assumption | decide | (simp only [isl_len, bsl_len, psl_len, mrows_len, nsl_len, ws_len, List.length_map, ul_len, psl_len, isl_len, nrows_len, prL_len, blR_len]; omega) | (simp; done) | (simp; omega) | (simp [isl, bsl]; omega)) (by first | exact Nat.mul_one _ | rfl | omega)) ?_
        | refine any_c (_, []) (fun τ => op_ixS _ _ inferInstance rfl rfl (Int.toNat _) (Int.toNat_of_nonneg (by omega)).symm (by omega) (by first | assumption | decide | (simp only [isl_len, bsl_len, psl_len, mrows_len, nsl_len, ws_len, List.length_map, ul_len, psl_len, isl_len, nrows_len, prL_len, blR_len]; omega) | (simp; done) | (simp; omega) | (simp [isl, bsl]; omega)) (by first | exact Nat.mul_one _ | rfl | omega)) ?_
      refine any_n (rfl : _ = [_, _, _, _, _, _, _, _]) ?_
      first
        | refine any_c (_, []) (fun τ => op_fldP _ inferInstance rfl rfl rfl) ?_
        | refine any_c (_, []) (fun τ => op_fldF _ inferInstance rfl rfl) ?_
      refine any_n (rfl : _ = [_, _, _, _, _, _, _, _, _]) ?_
      refine any_c (_, []) (fun τ => op_ldF _ inferInstance rfl (by first | rfl | exact isl_get _ _ (by omega) | exact bsl_get _ _ (by omega) | assumption | exact isl_get _ _ (by omega) | exact nsl_get _ _ (by omega) | exact ul_get _ _ (by omega) | exact nrows_get _ _ (by omega) | exact blR_get0 _ _ (by omega) | exact blR_get1 _ _ (by omega)) rfl) ?_
      refine any_n (rfl : _ = [_, _, _, _, _, _, _, _, _, _]) ?_
      first
        | refine any_c (_, []) (fun τ => op_neq _ _ rfl rfl (by assumption)) ?_
        | refine any_c (_, []) (fun τ => op_neq _ _ rfl rfl rfl) ?_
      refine any_n (rfl : _ = [_, _, _, _, _, _, _, _, _, _, _]) ?_
      refine any_c (_, []) (fun τ => op_mv _ (rfl : _ = AV.v (.bool _))) ?_
      refine any_caseC (fun hg28 => ?_) (fun hg28 => ?_)
      · skip
        refine any_n (rfl : _ = [_, _, _, _, _, _, _, _, _, _, _, _]) ?_
        refine any_cn rfl (fun τ => rfl) (by decide) ?_
        refine any_n (rfl : _ = [_, _, _, _, _, _, _, _, _, _, _, _, _]) ?_
        refine any_cn rfl (fun τ => rfl) (by decide) ?_
        refine any_n (rfl : _ = [_, _, _, _, _, _, _, _, _, _, _, _, _, _]) ?_
        refine any_cn rfl (fun τ => rfl) (by decide) ?_
        refine any_n (rfl : _ = [_, _, _, _, _, _, _, _, _, _, _, _, _, _, _]) ?_
        refine any_cn rfl (fun τ => rfl) (by decide) ?_
        refine any_n (rfl : _ = [_, _, _, _, _, _, _, _, _, _, _, _, _, _, _, _]) ?_
        refine any_cn rfl (fun τ => rfl) (by decide) ?_
        refine any_n (rfl : _ = [_, _, _, _, _, _, _, _, _, _, _, _, _, _, _, _, _]) ?_
        refine any_cn rfl (fun τ => rfl) (by decide) ?_
        refine any_n (rfl : _ = [_, _, _, _, _, _, _, _, _, _, _, _, _, _, _, _, _, _]) ?_
        refine any_cn rfl (fun τ => rfl) (by decide) ?_
        refine any_n (rfl : _ = [_, _, _, _, _, _, _, _, _, _, _, _, _, _, _, _, _, _, _]) ?_
        refine any_cn rfl (fun τ => rfl) (by decide) ?_
        refine any_n (rfl : _ = [_, _, _, _, _, _, _, _, _, _, _, _, _, _, _, _, _, _, _, _]) ?_
        refine any_cn rfl (fun τ => rfl) (by decide) ?_
        refine any_n (rfl : _ = [_, _, _, _, _, _, _, _, _, _, _, _, _, _, _, _, _, _, _, _, _]) ?_
        refine any_cn rfl (fun τ => rfl) (by decide) ?_
        refine any_n (rfl : _ = [_, _, _, _, _, _, _, _, _, _, _, _, _, _, _, _, _, _, _, _, _, _]) ?_
        refine any_cn rfl (fun τ => rfl) (by decide) ?_
        refine any_n (rfl : _ = [_, _, _, _, _, _, _, _, _, _, _, _, _, _, _, _, _, _, _, _, _, _, _]) ?_
        refine any_cn rfl (fun τ => rfl) (by decide) ?_
        refine any_n (rfl : _ = [_, _, _, _, _, _, _, _, _, _, _, _, _, _, _, _, _, _, _, _, _, _, _, _]) ?_
        refine any_c (_, []) (fun τ => op_pick _ _ _ rfl (rfl : _ = AV.v (.bool _))) ?_
        refine any_n (rfl : _ = [_, _, _, _, _, _, _, _, _, _, _, _, _, _, _, _, _, _, _, _, _, _, _, _, _]) ?_
        refine any_end ⟨rfl, ?_⟩
        refine DL_nil (hK10 _ ?_)
        clear hK10; try clear K10
        refine D_cT rfl rfl ?_
        refine D_seq fun K11 hK11 => ?_
        refine D_le (σ' := mkStI 42 [] [] [] []) (by
          refine Le.mkJ [] [] rfl ?_ ?_ trivial trivial ?_
          · exact trivial
          · exact trivial
          · kernel_rfl) ?_
        refine D_region ?_
        refine DL_c (op_as _ (rfl : _ = AV.v (.bool _))) ?_
        refine DL_nil (hK11 _ ?_)
        clear hK11; try clear K11
        refine D_ret ?_
        refine ret1 (.inr rfl) rfl (.tmp (rfl : _ = AV.v (.bool _))) (Le.out [] [] (lvB ?_) rfl rfl rfl trivial trivial)
        exact decide_eq_false fun h => by subst h; exact hg28 rfl
      · skip
        refine any_n (rfl : _ = [_, _, _, _, _, _, _, _, _, _, _, _]) ?_
        refine any_cy (_, []) rfl (fun τ => rfl) (fun τ => op_mv _ (rfl : _ = AV.sl _ _)) ?_
        refine any_n (rfl : _ = [_, _, _, _, _, _, _, _, _, _, _, _, _]) ?_
        refine any_cy (_, []) rfl (fun τ => rfl) (fun τ => op_mv _ (rfl : _ = AV.v (.int _ _))) ?_
        refine any_n (rfl : _ = [_, _, _, _, _, _, _, _, _, _, _, _, _, _]) ?_
        first
          | refine any_cy (_, []) rfl (fun τ => rfl) (fun τ => op_ixS _ _ inferInstance rfl rfl _ rfl (by omega) (by first | assumption | decide | (simp only [isl_len, bsl_len, psl_len, mrows_len, nsl_len, ws_len, List.length_map, ul_len, psl_len, isl_len, nrows_len, prL_len, blR_len]; omega) | (simp; done) | (simp; omega) | (simp [isl, bsl]; omega)) (by first | exact Nat.mul_one _ | rfl | omega)) ?_
          | refine any_cy (_, []) rfl (fun τ => rfl) (fun τ => op_ixS _ _ inferInstance rfl rfl (Int.toNat _) (Int.toNat_of_nonneg (by omega)).symm (by omega) (by first | assumption | decide | (simp only [isl_len, bsl_len, psl_len, mrows_len, nsl_len, ws_len, List.length_map, ul_len, psl_len, isl_len, nrows_len, prL_len, blR_len]; omega) | (simp; done) | (simp; omega) | (simp [isl, bsl]; omega)) (by first | exact Nat.mul_one _ | rfl | omega)) ?_
        refine any_n (rfl : _ = [_, _, _, _, _, _, _, _, _, _, _, _, _, _, _]) ?_
        first
          | refine any_cy (_, []) rfl (fun τ => rfl) (fun τ => op_fldP _ inferInstance rfl rfl rfl) ?_
          | refine any_cy (_, []) rfl (fun τ => rfl) (fun τ => op_fldF _ inferInstance rfl rfl) ?_
        refine any_n (rfl : _ = [_, _, _, _, _, _, _, _, _, _, _, _, _, _, _, _]) ?_
        refine any_cy (_, []) rfl (fun τ => rfl) (fun τ => op_ldF _ inferInstance rfl (by first | rfl | exact isl_get _ _ (by omega) | exact bsl_get _ _ (by omega) | assumption | exact isl_get _ _ (by omega) | exact nsl_get _ _ (by omega) | exact ul_get _ _ (by omega) | exact nrows_get _ _ (by omega) | exact blR_get0 _ _ (by omega) | exact blR_get1 _ _ (by omega)) rfl) ?_
        refine any_n (rfl : _ = [_, _, _, _, _, _, _, _, _, _, _, _, _, _, _, _, _]) ?_
        refine any_cy (_, []) rfl (fun τ => rfl) (fun τ => op_mv _ (rfl : _ = AV.sl _ _)) ?_
        refine any_n (rfl : _ = [_, _, _, _, _, _, _, _, _, _, _, _, _, _, _, _, _, _]) ?_
        refine any_cy (_, []) rfl (fun τ => rfl) (fun τ => op_mv _ (rfl : _ = AV.v (.int _ _))) ?_
        refine any_n (rfl : _ = [_, _, _, _, _, _, _, _, _, _, _, _, _, _, _, _, _, _, _]) ?_
        first
          | refine any_cy (_, []) rfl (fun τ => rfl) (fun τ => op_ixS _ _ inferInstance rfl rfl _ rfl (by omega) (by first | assumption | decide | (simp only [isl_len, bsl_len, psl_len, mrows_len, nsl_len, ws_len, List.length_map, ul_len, psl_len, isl_len, nrows_len, prL_len, blR_len]; omega) | (simp; done) | (simp; omega) | (simp [isl, bsl]; omega)) (by first | exact Nat.mul_one _ | rfl | omega)) ?_
          | refine any_cy (_, []) rfl (fun τ => rfl) (fun τ => op_ixS _ _ inferInstance rfl rfl (Int.toNat _) (Int.toNat_of_nonneg (by omega)).symm (by omega) (by first | assumption | decide | (simp only [isl_len, bsl_len, psl_len, mrows_len, nsl_len, ws_len, List.length_map, ul_len, psl_len, isl_len, nrows_len, prL_len, blR_len]; omega) | (simp; done) | (simp; omega) | (simp [isl, bsl]; omega)) (by first | exact Nat.mul_one _ | rfl | omega)) ?_
        refine any_n (rfl : _ = [_, _, _, _, _, _, _, _, _, _, _, _, _, _, _, _, _, _, _, _]) ?_
        first
          | refine any_cy (_, []) rfl (fun τ => rfl) (fun τ => op_fldP _ inferInstance rfl rfl rfl) ?_
          | refine any_cy (_, []) rfl (fun τ => rfl) (fun τ => op_fldF _ inferInstance rfl rfl) ?_
        refine any_n (rfl : _ = [_, _, _, _, _, _, _, _, _, _, _, _, _, _, _, _, _, _, _, _, _]) ?_
        refine any_cy (_, []) rfl (fun τ => rfl) (fun τ => op_ldF _ inferInstance rfl (by first | rfl | exact isl_get _ _ (by omega) | exact bsl_get _ _ (by omega) | assumption | exact isl_get _ _ (by omega) | exact nsl_get _ _ (by omega) | exact ul_get _ _ (by omega) | exact nrows_get _ _ (by omega) | exact blR_get0 _ _ (by omega) | exact blR_get1 _ _ (by omega)) rfl) ?_
        refine any_n (rfl : _ = [_, _, _, _, _, _, _, _, _, _, _, _, _, _, _, _, _, _, _, _, _, _]) ?_
        refine any_cy (_, []) rfl (fun τ => rfl) (fun τ => (op_callH inferInstance (by repeat' (first | exact argsLv_nil | refine argsLv_cons ?_ ?_ | exact Lv.v | exact lvI (by omega) | exact Lv.sl | exact Lv.fp | exact Lv.nil | refine Lv.agg rfl ?_ | refine Lv.fn rfl ?_ rfl ?_ | exact lv_nil | refine lv_cons ?_ ?_ | exact Lv.z0)) (same_spec _ _ ((L.getD k (0, [])).2.map fun (x : Nat) => (x : Int)) ((M.getD k (0, [])).2.map fun (x : Nat) => (x : Int)) (by simp) (by simp) (by omega) (by omega)) rfl rfl)) ?_
        refine any_n (rfl : _ = [_, _, _, _, _, _, _, _, _, _, _, _, _, _, _, _, _, _, _, _, _, _, _]) ?_
        refine any_cy (_, []) rfl (fun τ => rfl) (fun τ => op_not _ rfl rfl) ?_
        refine any_n (rfl : _ = [_, _, _, _, _, _, _, _, _, _, _, _, _, _, _, _, _, _, _, _, _, _, _, _]) ?_
        refine any_c (_, []) (fun τ => op_pick _ _ _ rfl (rfl : _ = AV.v (.bool _))) ?_
        refine any_n (rfl : _ = [_, _, _, _, _, _, _, _, _, _, _, _, _, _, _, _, _, _, _, _, _, _, _, _, _]) ?_
        refine any_end ⟨rfl, ?_⟩
        refine DL_nil (hK10 _ ?_)
        clear hK10; try clear K10
        refine D_splitC rfl (fun hc41 => ?_) (fun hc41 => ?_)
        · skip
          refine D_seq fun K12 hK12 => ?_
          refine D_le (σ' := mkStI 42 [] [] [] []) (by
            refine Le.mkJ [] [] rfl ?_ ?_ trivial trivial ?_
            · exact trivial
            · exact trivial
            · kernel_rfl) ?_
          refine D_region ?_
          refine DL_c (op_as _ (rfl : _ = AV.v (.bool _))) ?_
          refine DL_nil (hK12 _ ?_)
          clear hK12; try clear K12
          refine D_ret ?_
          refine ret1 (.inr rfl) rfl (.tmp (rfl : _ = AV.v (.bool _))) (Le.out [] [] (lvB ?_) rfl rfl rfl trivial trivial)
          exact decide_eq_false fun h => by subst h; exact hc41 rfl
        · skip
          have hek : L.getD k (0, []) = M.getD k (0, []) := Prod.ext (by omega) (cast_inj.1 hc41)
          refine D_skip (hK9 _ ?_)
          clear hK9; try clear K9
          refine D_le (σ' := mkStI 42 [(0, _), (1, _), (5, _)] [] [] []) (by
            refine Le.mkJ [] [] rfl ?_ ?_ trivial trivial ?_
            · exact ⟨(iS rfl), (iS rfl), (iV rfl), trivial⟩
            · exact trivial
            · kernel_rfl) ?_
          refine D_region ?_
          refine DL_c (op_mv _ (rfl : _ = AV.v (.int _ _))) ?_
          first
            | refine DL_c (op_add _ _ rfl rfl (i64w (by omega))) ?_
            | refine DL_c (op_add _ _ rfl rfl rfl) ?_
          refine DL_c (op_as _ (rfl : _ = AV.v (.int _ _))) ?_
          refine DL_nil ?_
          refine ⟨k + 1, ?_, ?_, ?_⟩
          · exact ⟨by omega, hl, by rw [take1 (0, []) hkx, take1 (0, []) hky, ht, hek]⟩
          · skip
            refine Le.mkJ [] [] rfl ?_ ?_ trivial trivial ?_
            · exact ⟨(iS rfl), (iS rfl), (lvI (by first | rfl | omega | (simp; done) | (simp; omega) | assumption)), trivial⟩
            · exact trivial
            · kernel_rfl
          · omega
    · skip
      refine D_exit ?_
      refine id (hK5 _ ?_)
      clear hK5; try clear K5
      refine D_seq fun K13 hK13 => ?_
      refine D_region ?_
      refine DL_c (op_as _ (rfl : _ = AV.v (.bool _))) ?_
      refine DL_nil (hK13 _ ?_)
      clear hK13; try clear K13
      refine D_ret ?_
      refine ret1 (.inr rfl) rfl (.tmp (rfl : _ = AV.v (.bool _))) (Le.out [] [] (lvB ?_) rfl rfl rfl trivial trivial)
      rw [List.take_of_length_le (by omega), List.take_of_length_le (by omega)] at ht; exact decide_eq_true ht
-- lives
abbrev Ps4 : List (List Int) := [[], [0], [0], [1, 2]]
theorem Ps4_near : Near Ps4 := by
  refine ⟨by decide, fun v hv => ?_⟩
  have hv' : v < 4 := hv
  have h : v = 0 ∨ v = 1 ∨ v = 2 ∨ v = 3 := by omega
  rcases h with rfl | rfl | rfl | rfl <;> exact ⟨⟨by decide, by decide⟩, by decide⟩
theorem nxL_se {n : Nat} {E : Prs} (hE : inE n E = true) : SE n E (nxL n E E.length) := ⟨hE, fun a ha x => by rw [nxL_get ha, List.take_length, nxt_mem]⟩
theorem ancW_calc {n : Nat} {Ps : List (List Int)} (hn : n = Ps.length) (h64 : n ≤ 64) (hV : Valid Ps) (hl : ¬ (kahn n (nxL n (edg Ps n 0) (edg Ps n 0).length) n []).length < n) :
    ancW n (edg Ps n 0) = asts n (parE Ps) (kahn n (nxL n (edg Ps n 0) (edg Ps n 0).length) n []) := by
  subst hn
  exact (asts_all (nxL_se (edg_in hV)) hl fun v hv p => parE_mem hV h64 hv p).symm
theorem anc4 : ancW 4 (edg Ps4 4 0) = [1, 3, 5, 15] := by
  rw [ancW_calc (n := 4) rfl (by decide) Ps4_near.valid (by decide)]
  decide
theorem sus4 : susW 4 (edg Ps4 4 0) (whr [0, 2, 0, 1] 2).testBit 3 = 2 := by
  have hP : PW 4 (edg Ps4 4 0) (parW Ps4) := parW_pw Ps4_near.valid (by decide)
  have h := SI.fin hP (v := 3) (by decide) (SI.start (t := whr [0, 2, 0, 1] 2) hP (by decide) (by decide)) (by decide)
  rw [← h]
  decide
theorem min4 : minL 4 (edg Ps4 4 0) [0, 2, 0, 1] (wat 4 (ancW 4 (edg Ps4 4 0)) 3) = [(3, [1])] := by
  rw [anc4]
  have h : wat 4 [1, 3, 5, 15] 3 = [0] ++ [1] ++ [2] ++ [3] := by decide
  have ha : ∀ v, v < 4 → aw1 4 (edg Ps4 4 0) v = [1, 3, 5, 15].getD v 0 := fun v hv => by rw [← ancW_get hv, anc4]
  rw [h, minL_yes (by rw [ha 3 (by decide)]; decide), minL_no (by rw [ha 2 (by decide)]; decide), minL_no (by rw [ha 1 (by decide)]; decide)]
  have h0 : minL 4 (edg Ps4 4 0) [0, 2, 0, 1] [0] = [] := by
    have := minL_no (n := 4) (E := edg Ps4 4 0) (st := [0, 2, 0, 1]) (l := []) (v := 0) (by rw [ha 0 (by decide)]; decide)
    exact this
  rw [h0, sus4]
  decide
theorem new4v : newV Ps4 = .tup [.fp 0 (gra 4 (parW Ps4) (ancW 4 (edg Ps4 4 0))), .v (.int .i64 0)] := newV_ok (by decide) Ps4_near.valid Ps4_near.acyc
theorem livesv_spec : Spec Try.prog 62 (inSt [] []) (outSt (.v (.bool true)) []) := by
  have hS : Valid Ps4 → 4 ≤ 64 → ∀ a, a < 4 → (nxt (edg Ps4 4 0) a).length ≤ 12 := fun hV _ a _ => Nat.le_trans (m := 4) (nxt_edg_len hV a) (by decide)
  have hN := vnew_spec 4 Ps4 rfl (by decide) (fun v => by have := Ps4_near.rows v; omega) hS
  rw [new4v] at hN
  have hM := minimal_spec 4 (edg Ps4 4 0) (parW Ps4) (parW_pw Ps4_near.valid (by decide)) [0, 2, 0, 1] rfl 3
  rw [min4] at hM
  refine Spec.ofN Try.func62 rfl Try.ntmps62 rfl ?_
  refine D_seq fun K1 hK1 => ?_
  refine D_region ?_
  refine DL_c (op_as _ (rfl : _ = AV.v (.bool _))) ?_
  refine DL_nil (hK1 _ ?_)
  clear hK1; try clear K1
  refine D_seq fun K2 hK2 => ?_
  refine D_region ?_
  refine DL_c (op_bsF _ _ inferInstance rfl (by rfl) (by simp <;> rfl) (by decide) rfl) ?_
  refine DL_c (op_bsF _ _ inferInstance rfl (by rfl) (by simp <;> rfl) (by decide) rfl) ?_
  refine DL_c (op_bsF _ _ inferInstance rfl (by rfl) (by simp <;> rfl) (by decide) rfl) ?_
  refine DL_c (op_bsB (8, 0) 4 _ inferInstance (r := [[.v (.slice none 0 0)], [.sl 1 (isl [0])], [.sl 1 (isl [0])], [.sl 2 (isl [1, 2])]]) rfl rfl (by simp) (by decide) (by decide) rfl rfl) ?_
  refine DL_le (Le.trans (Le.mkJ (n := 31) (slots := [(8, .sl 4 (nrows Ps4))]) (obs := []) (I := []) (Pn := []) [] [(8, 0)] rfl ⟨.frzR rfl rfl (by rfl), trivial⟩ trivial ⟨rfl, trivial⟩ trivial (by kernel_rfl)) (Le.nil0 (8, 0) 0 rfl rfl)) ?_
  refine DL_c (op_callH inferInstance (by repeat' (first | exact argsLv_nil | refine argsLv_cons ?_ ?_ | exact Lv.v | exact lvI (by omega) | exact Lv.sl | exact Lv.fp | exact Lv.nil | refine Lv.agg rfl ?_ | refine Lv.fn rfl ?_ rfl ?_ | exact lv_nil | refine lv_cons ?_ ?_ | exact Lv.z0)) (hN) rfl rfl) ?_
  refine DL_c (op_mv _ (rfl : _ = AV.tup _)) ?_
  first
    | refine DL_c (op_ext _ rfl (rfl : _ = some (AV.ptr _ _))) ?_
    | refine DL_c (op_ext _ rfl (rfl : _ = some (AV.fp _ _))) ?_
    | refine DL_c (op_ext _ rfl (rfl : _ = some (AV.v (.pointer _)))) ?_
  refine DL_c (op_ext _ rfl (rfl : _ = some (AV.v (.int _ _)))) ?_
  refine DL_c (op_as _ (rfl : _ = AV.fp _ _)) ?_
  refine DL_c (op_as _ (rfl : _ = AV.v (.int _ _))) ?_
  refine DL_nil (hK2 _ ?_)
  clear hK2; try clear K2
  refine D_seq fun K3 hK3 => ?_
  refine D_seq fun K4 hK4 => ?_
  refine D_region ?_
  refine DL_c (op_mv _ (rfl : _ = AV.fp _ _)) ?_
  refine DL_c (op_eqN _ _ (by kernel_rfl) (.inr ⟨_, _, rfl⟩) rfl) ?_
  refine DL_c (op_mv _ (rfl : _ = AV.v (.bool _))) ?_
  refine DL_cy rfl rfl (op_mv _ (rfl : _ = AV.v (.int _ _))) ?_
  refine DL_cy rfl rfl (op_neq (r := false) _ _ rfl rfl rfl) ?_
  refine DL_c (op_pick _ _ _ rfl (rfl : _ = AV.v (.bool _))) ?_
  refine DL_nil (hK4 _ ?_)
  clear hK4; try clear K4
  refine D_cF rfl rfl ?_
  refine D_skip (hK3 _ ?_)
  clear hK3; try clear K3
  refine D_seq fun K5 hK5 => ?_
  refine D_le (σ' := mkStI 31 [(1, _)] [] [] []) (by
    refine Le.mkJ [] [] rfl ?_ ?_ trivial trivial ?_
    · exact ⟨(iF rfl), trivial⟩
    · exact trivial
    · kernel_rfl) ?_
  refine D_region ?_
  refine DL_c (op_mv _ (rfl : _ = AV.fp _ _)) ?_
  refine DL_c (op_bsF _ _ inferInstance rfl (by rfl) (by simp <;> rfl) (by decide) rfl) ?_
  refine DL_c (op_callH inferInstance (by repeat' (first | exact argsLv_nil | refine argsLv_cons ?_ ?_ | exact Lv.v | exact lvI (by omega) | exact Lv.sl | exact Lv.fp | exact Lv.nil | refine Lv.agg rfl ?_ | refine Lv.fn rfl ?_ rfl ?_ | exact lv_nil | refine lv_cons ?_ ?_ | exact Lv.z0)) (hM) rfl rfl) ?_
  first
    | refine DL_c (op_as _ (rfl : _ = AV.sl _ _)) ?_
    | refine DL_c (op_as _ (rfl : _ = AV.ref _ _ _)) ?_
    | refine DL_c (op_as _ (rfl : _ = AV.v (.slice _ _ _))) ?_
    | refine DL_c (op_as _ (rfl : _ = AV.z)) ?_
  refine DL_nil (hK5 _ ?_)
  clear hK5; try clear K5
  refine D_seq fun K6 hK6 => ?_
  refine D_region ?_
  refine DL_c (op_mv _ (rfl : _ = AV.fp _ _)) ?_
  refine DL_c (op_callH inferInstance (by repeat' (first | exact argsLv_nil | refine argsLv_cons ?_ ?_ | exact Lv.v | exact lvI (by omega) | exact Lv.sl | exact Lv.fp | exact Lv.nil | refine Lv.agg rfl ?_ | refine Lv.fn rfl ?_ rfl ?_ | exact lv_nil | refine lv_cons ?_ ?_ | exact Lv.z0)) (vlen_spec 4 (parW Ps4) (ancW 4 (edg Ps4 4 0))) rfl rfl) ?_
  refine DL_c (op_eql (r := true) _ _ rfl rfl rfl) ?_
  refine DL_c (op_mv _ (rfl : _ = AV.v (.bool _))) ?_
  refine DL_caseC (fun hg24 => ?_) (fun hg24 => ?_)
  · skip
    first
      | refine DL_cy rfl rfl (op_mv _ (rfl : _ = AV.sl _ _)) ?_
      | refine DL_cy rfl rfl (op_mv _ (rfl : _ = AV.ref _ _ _)) ?_
      | refine DL_cy rfl rfl (op_mv _ (rfl : _ = AV.v (.slice _ _ _))) ?_
      | refine DL_cy rfl rfl (op_mv _ (rfl : _ = AV.z)) ?_
    refine DL_cy rfl rfl (op_bsF _ _ inferInstance rfl (by rfl) (by simp <;> rfl) (by decide) rfl) ?_
    refine DL_cy rfl rfl (op_build _ inferInstance rfl (by exact (rfl : _ = some [_, _]))) ?_
    refine DL_cy rfl rfl (op_bsF _ _ inferInstance rfl (by rfl) (by simp <;> rfl) (by decide) rfl) ?_
    refine DL_cy rfl rfl (op_callH inferInstance (by repeat' (first | exact argsLv_nil | refine argsLv_cons ?_ ?_ | exact Lv.v | exact lvI (by omega) | exact Lv.sl | exact Lv.fp | exact Lv.nil | refine Lv.agg rfl ?_ | refine Lv.fn rfl ?_ rfl ?_ | exact lv_nil | refine lv_cons ?_ ?_ | exact Lv.z0)) (samebl_spec 1 1 [(3, [1])] [(3, [1])] rfl rfl (by omega) (by omega) (fun i => by cases i <;> simp) (fun i => by cases i <;> simp)) rfl rfl) ?_
    refine DL_c (op_pick _ _ _ rfl (rfl : _ = AV.v (.bool _))) ?_
    refine DL_c (op_as _ (rfl : _ = AV.v (.bool _))) ?_
    refine DL_nil (hK6 _ ?_)
    clear hK6; try clear K6
    refine D_ret ?_
    refine ret1 (.inr rfl) rfl (.tmp (rfl : _ = AV.v (.bool _))) (Le.out [] [] (lvB ?_) rfl rfl rfl trivial trivial)
    rfl
  · skip
    refine DL_cn rfl rfl (by decide) ?_
    refine DL_cn rfl rfl (by decide) ?_
    refine DL_cn rfl rfl (by decide) ?_
    refine DL_cn rfl rfl (by decide) ?_
    refine DL_cn rfl rfl (by decide) ?_
    refine DL_c (op_pick _ _ _ rfl (rfl : _ = AV.v (.bool _))) ?_
    refine DL_c (op_as _ (rfl : _ = AV.v (.bool _))) ?_
    refine DL_nil (hK6 _ ?_)
    clear hK6; try clear K6
    refine D_ret ?_
    cases hg24
end Go.Proofs.Ytkbkmngbenohkaa
