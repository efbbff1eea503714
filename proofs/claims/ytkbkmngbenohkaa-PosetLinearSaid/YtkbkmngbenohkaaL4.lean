/- The law PosetLinear by the machine. -/
import Derived.Test.YtkbkmngbenohkaaA19
set_option linter.unusedSimpArgs false
set_option linter.unusedVariables false
namespace Go.Proofs.Ytkbkmngbenohkaa
open Go.RowKit

/-- The list that PosetLinear makes of numbers. -/
def lst1 (n : Nat) (o : List Int) (i : Nat) : Int := if i < o.length then around (o.getD i 0) ((n : Int) + 1) else (i : Int)
def lst (n : Nat) (o : List Int) (i : Nat) : List Int := (List.range i).map (lst1 n o)
@[simp] theorem lst_len (n : Nat) (o : List Int) (i : Nat) : (lst n o i).length = i := by simp [lst]
theorem lst_succ (n : Nat) (o : List Int) (i : Nat) : lst n o (i + 1) = lst n o i ++ [lst1 n o i] := by simp [lst, List.range_succ]
theorem linear_cyc (n : Int) (m : Nat) (l : List Int) (k : Nat) (E : Prs) (g : Gen n m l k E) (hC : Cyc k E) (mx : Nat) (x : List Int) :
    Spec Try.prog 9 (inSt [.v (.int .i64 n), .sl m (isl l), .sl mx (isl x)] []) (outSt (.v (.bool true)) []) := by
  refine Spec.ofN Try.func9 rfl Try.ntmps9 rfl ?_
  refine D_seq fun K1 hK1 => ?_
  refine D_region ?_
  refine DL_c (op_as _ (rfl : _ = AV.v (.bool _))) ?_
  refine DL_nil (hK1 _ ?_)
  clear hK1; try clear K1
  refine D_seq fun K2 hK2 => ?_
  refine D_seq fun K3 hK3 => ?_
  refine D_region ?_
  refine DL_c (op_mv _ (rfl : _ = AV.v (.int _ _))) ?_
  refine DL_c (op_mv _ (rfl : _ = AV.sl _ _)) ?_
  refine DL_c (op_callH inferInstance (by repeat' (first | exact argsLv_nil | refine argsLv_cons ?_ ?_ | exact Lv.v | exact Lv.sl | exact Lv.fp | exact Lv.nil | refine Lv.agg rfl ?_ | refine Lv.fn rfl ?_ rfl ?_ | exact lv_nil | refine lv_cons ?_ ?_ | exact Lv.z0)) (g.yes hC) rfl rfl) ?_
  refine DL_nil (hK3 _ ?_)
  clear hK3; try clear K3
  refine D_cT rfl rfl ?_
  refine D_seq fun K4 hK4 => ?_
  refine D_region ?_
  refine DL_c (op_callH inferInstance (by repeat' (first | exact argsLv_nil | refine argsLv_cons ?_ ?_ | exact Lv.v | exact Lv.sl | exact Lv.fp | exact Lv.nil | refine Lv.agg rfl ?_ | refine Lv.fn rfl ?_ rfl ?_ | exact lv_nil | refine lv_cons ?_ ?_ | exact Lv.z0)) (lives_spec) rfl rfl) ?_
  refine DL_c (op_as _ (rfl : _ = AV.v (.bool _))) ?_
  refine DL_nil (hK4 _ ?_)
  clear hK4; try clear K4
  refine D_ret ?_
  refine ret1 (.inr rfl) rfl (.tmp (rfl : _ = AV.v (.bool _))) (Le.out [] [] (lvB ?_) rfl rfl rfl trivial trivial)
  rfl
theorem linear_ok (n : Int) (m : Nat) (l : List Int) (k : Nat) (E : Prs) (g : Gen n m l k E) (hC : ¬ Cyc k E) (mx : Nat) (x : List Int) (hx : x.length = mx) (hx1 : mx ≤ 4611686018427387904) (hxr : Rng x) :
    Spec Try.prog 9 (inSt [.v (.int .i64 n), .sl m (isl l), .sl mx (isl x)] []) (outSt (.v (.bool true)) []) := by
  have hk8 := g.kle
  have hE := g.inE
  have hS := spo_cl hC
  have hil := g.isl k (nl (lin k (cl E) k)) (by simp) (by omega)
  rw [islin_nl.2 (lin_LinN hS)] at hil
  have hia := ints_spec mx x hx hx1 9 (by omega)
  refine Spec.ofN Try.func9 rfl Try.ntmps9 rfl ?_
  refine D_seq fun K1 hK1 => ?_
  refine D_region ?_
  refine DL_c (op_as _ (rfl : _ = AV.v (.bool _))) ?_
  refine DL_nil (hK1 _ ?_)
  clear hK1; try clear K1
  refine D_seq fun K2 hK2 => ?_
  refine D_seq fun K3 hK3 => ?_
  refine D_region ?_
  refine DL_c (op_mv _ (rfl : _ = AV.v (.int _ _))) ?_
  refine DL_c (op_mv _ (rfl : _ = AV.sl _ _)) ?_
  refine DL_c (op_callH inferInstance (by repeat' (first | exact argsLv_nil | refine argsLv_cons ?_ ?_ | exact Lv.v | exact Lv.sl | exact Lv.fp | exact Lv.nil | refine Lv.agg rfl ?_ | refine Lv.fn rfl ?_ rfl ?_ | exact lv_nil | refine lv_cons ?_ ?_ | exact Lv.z0)) (g.no hC) rfl rfl) ?_
  refine DL_nil (hK3 _ ?_)
  clear hK3; try clear K3
  refine D_cF rfl rfl ?_
  refine D_skip (hK2 _ ?_)
  clear hK2; try clear K2
  refine D_seq fun K4 hK4 => ?_
  refine D_region ?_
  refine DL_c (op_mv _ (rfl : _ = AV.v (.int _ _))) ?_
  refine DL_c (op_mv _ (rfl : _ = AV.sl _ _)) ?_
  refine DL_c (op_callH inferInstance (by repeat' (first | exact argsLv_nil | refine argsLv_cons ?_ ?_ | exact Lv.v | exact Lv.sl | exact Lv.fp | exact Lv.nil | refine Lv.agg rfl ?_ | refine Lv.fn rfl ?_ rfl ?_ | exact lv_nil | refine lv_cons ?_ ?_ | exact Lv.z0)) (g.made hC) rfl rfl) ?_
  refine DL_c (op_mv _ (rfl : _ = AV.tup _)) ?_
  first
    | refine DL_c (op_ext _ rfl (rfl : _ = some (AV.ptr _ _))) ?_
    | refine DL_c (op_ext _ rfl (rfl : _ = some (AV.fp _ _))) ?_
    | refine DL_c (op_ext _ rfl (rfl : _ = some (AV.v (.pointer _)))) ?_
  first
    | refine DL_c (op_ext _ rfl (rfl : _ = some (AV.agg _))) ?_
    | refine DL_c (op_ext _ rfl (rfl : _ = some (AV.v (.agg _)))) ?_
  refine DL_c (op_alloc (8, 0) inferInstance rfl rfl) ?_
  refine DL_c (op_as _ (rfl : _ = AV.fp _ _)) ?_
  refine DL_c (op_stB _ _ inferInstance rfl rfl rfl rfl (Nat.le_of_ble_eq_true rfl) rfl) ?_
  refine DL_nil (hK4 _ ?_)
  clear hK4; try clear K4
  refine D_seq fun K5 hK5 => ?_
  refine D_seq fun K6 hK6 => ?_
  refine D_region ?_
  refine DL_c (op_mv _ (rfl : _ = AV.fp _ _)) ?_
  refine DL_c (op_eqN _ _ (by kernel_rfl) (.inr ⟨_, _, rfl⟩) rfl) ?_
  refine DL_nil (hK6 _ ?_)
  clear hK6; try clear K6
  refine D_cF rfl rfl ?_
  refine D_skip (hK5 _ ?_)
  clear hK5; try clear K5
  refine D_seq fun K7 hK7 => ?_
  refine D_le (σ' := mkStI 83 [(2, _), (7, _), (8, _)] [((8, 0), _)] [] []) (by
    refine Le.mkJ [] [] rfl ?_ ?_ trivial trivial ?_
    · exact ⟨(iS rfl), (iF rfl), (iP rfl), trivial⟩
    · exact ⟨(obE rfl rfl rfl), trivial⟩
    · kernel_rfl) ?_
  refine D_region ?_
  refine DL_c (op_mv _ (rfl : _ = AV.fp _ _)) ?_
  refine DL_c (op_callH inferInstance (by repeat' (first | exact argsLv_nil | refine argsLv_cons ?_ ?_ | exact Lv.v | exact Lv.sl | exact Lv.fp | exact Lv.nil | refine Lv.agg rfl ?_ | refine Lv.fn rfl ?_ rfl ?_ | exact lv_nil | refine lv_cons ?_ ?_ | exact Lv.z0)) (g.linear hC) rfl rfl) ?_
  refine DL_c (op_as _ (rfl : _ = AV.sl _ _)) ?_
  refine DL_nil (hK7 _ ?_)
  clear hK7; try clear K7
  refine D_seq fun K8 hK8 => ?_
  refine D_seq fun K9 hK9 => ?_
  refine D_region ?_
  refine DL_c (op_mv _ (rfl : _ = AV.sl _ _)) ?_
  first
    | refine DL_c (op_ldBA _ inferInstance rfl rfl rfl rfl) ?_
    | refine DL_c (op_ldRA _ inferInstance rfl rfl (by first | rfl | assumption | exact psl_geta _ _ (by omega)) rfl) ?_
    | refine DL_c (op_ldFA _ inferInstance rfl (by first | rfl | assumption | exact psl_geta _ _ (by omega)) rfl) ?_
  refine DL_c (op_callH inferInstance (by repeat' (first | exact argsLv_nil | refine argsLv_cons ?_ ?_ | exact Lv.v | exact Lv.sl | exact Lv.fp | exact Lv.nil | refine Lv.agg rfl ?_ | refine Lv.fn rfl ?_ rfl ?_ | exact lv_nil | refine lv_cons ?_ ?_ | exact Lv.z0)) (g.rlinear hC) rfl rfl) ?_
  refine DL_c (op_callH inferInstance (by repeat' (first | exact argsLv_nil | refine argsLv_cons ?_ ?_ | exact Lv.v | exact Lv.sl | exact Lv.fp | exact Lv.nil | refine Lv.agg rfl ?_ | refine Lv.fn rfl ?_ rfl ?_ | exact lv_nil | refine lv_cons ?_ ?_ | exact Lv.z0)) (same_true k (nl (lin k (cl E) k)) (by simp) (by omega)) rfl rfl) ?_
  refine DL_c (op_not _ rfl rfl) ?_
  refine DL_c (op_mv _ (rfl : _ = AV.v (.bool _))) ?_
  refine DL_cy rfl rfl (op_mv _ (rfl : _ = AV.fp _ _)) ?_
  refine DL_cy rfl rfl (op_mv _ (rfl : _ = AV.sl _ _)) ?_
  refine DL_cy rfl rfl (op_callH inferInstance (by repeat' (first | exact argsLv_nil | refine argsLv_cons ?_ ?_ | exact Lv.v | exact Lv.sl | exact Lv.fp | exact Lv.nil | refine Lv.agg rfl ?_ | refine Lv.fn rfl ?_ rfl ?_ | exact lv_nil | refine lv_cons ?_ ?_ | exact Lv.z0)) (hil) rfl rfl) ?_
  refine DL_cy rfl rfl (op_not _ rfl rfl) ?_
  refine DL_c (op_pick _ _ _ rfl (rfl : _ = AV.v (.bool _))) ?_
  refine DL_nil (hK9 _ ?_)
  clear hK9; try clear K9
  refine D_cF rfl rfl ?_
  refine D_skip (hK8 _ ?_)
  clear hK8; try clear K8
  refine D_seq fun K10 hK10 => ?_
  refine D_region ?_
  refine DL_c (op_asN (10, 0) _ 3 1 rfl rfl) ?_
  refine DL_nil (hK10 _ ?_)
  clear hK10; try clear K10
  refine D_seq fun K11 hK11 => ?_
  refine D_seq fun K12 hK12 => ?_
  refine D_le (σ' := mkStI 83 [(2, _), (7, _), (8, _), (10, _)] [((8, 0), _), ((10, 0), _)] [] []) (by
    refine Le.mkJ [] [] rfl ?_ ?_ trivial trivial ?_
    · exact ⟨(iS rfl), (iF rfl), (iP rfl), (iR rfl), trivial⟩
    · exact ⟨(obE rfl rfl rfl), (obE rfl rfl rfl), trivial⟩
    · kernel_rfl) ?_
  refine D_region ?_
  refine DL_c (op_as _ (rfl : _ = AV.v (.int _ _))) ?_
  refine DL_nil (hK12 _ ?_)
  clear hK12; try clear K12
  refine D_block ?_
  refine D_loopL (α := Nat) (fun i => i ≤ k) 83 [(2, _), (7, _), (8, _)] [((8, 0), _)] (fun i => [(11, .v (.int .i64 (i : Int))), (10, .ref (10, 0) 0 i)]) (fun i => [((10, 0), .row 3 1 (isl (lst k x i)))]) [] [] (fun i => k - i) 0 ?_ (by
    refine Le.mkJ [] [] rfl ?_ ?_ trivial trivial ?_
    · exact ⟨(iS rfl), (iF rfl), (iP rfl), (lvI (by first | rfl | omega | (simp; done) | (simp; omega) | assumption)), (lvRr rfl (by first | rfl | omega | (simp; done) | (simp; omega) | assumption)), trivial⟩
    · exact ⟨(obE rfl rfl rfl), (obR rfl rfl rfl (by first | rfl | omega | (simp; done) | (simp; omega) | assumption)), trivial⟩
    · kernel_rfl) ?_
  · first | omega | trivial | exact ⟨by omega, by omega⟩
  intro i hi
  refine D_seq fun K13 hK13 => ?_
  refine D_seq fun K14 hK14 => ?_
  refine D_region ?_
  refine DL_c (op_mv _ (rfl : _ = AV.v (.int _ _))) ?_
  first
    | refine DL_c (op_fldP _ inferInstance rfl rfl rfl) ?_
    | refine DL_c (op_fldF _ inferInstance rfl rfl) ?_
  first
    | refine DL_c (op_ldB _ inferInstance rfl rfl (rfl : _ = some (AV.v (.int _ _)))) ?_
    | refine DL_c (op_ldR _ inferInstance rfl rfl (by first | rfl | exact isl_get _ _ (by omega) | exact bsl_get _ _ (by omega) | assumption | exact psl_get0 _ _ (by omega) | exact psl_get1 _ _ (by omega) | exact nsl_get _ _ (by omega)) rfl) ?_
  first
    | refine DL_c (op_lss _ _ rfl rfl (by assumption)) ?_
    | refine DL_c (op_lss _ _ rfl rfl rfl) ?_
  refine DL_nil (hK14 _ ?_)
  clear hK14; try clear K14
  refine D_splitC rfl (fun hc42 => ?_) (fun hc42 => ?_)
  · skip
    refine D_skip (hK13 _ ?_)
    clear hK13; try clear K13
    refine D_seq fun K15 hK15 => ?_
    refine D_block ?_
    refine D_seq fun K16 hK16 => ?_
    refine D_region ?_
    refine DL_c (op_mv _ (rfl : _ = AV.v (.int _ _))) ?_
    refine DL_c (op_as _ (rfl : _ = AV.v (.int _ _))) ?_
    refine DL_nil (hK16 _ ?_)
    clear hK16; try clear K16
    refine D_seq fun K17 hK17 => ?_
    refine D_seq fun K18 hK18 => ?_
    refine D_region ?_
    refine DL_c (op_mv _ (rfl : _ = AV.v (.int _ _))) ?_
    refine DL_c (op_mv _ (rfl : _ = AV.sl _ _)) ?_
    refine DL_c (op_lenS _ inferInstance rfl) ?_
    first
      | refine DL_c (op_lss _ _ rfl rfl (by assumption)) ?_
      | refine DL_c (op_lss _ _ rfl rfl rfl) ?_
    refine DL_nil (hK18 _ ?_)
    clear hK18; try clear K18
    refine D_splitC rfl (fun hc49 => ?_) (fun hc49 => ?_)
    · skip
      have h1l : lst1 k x i = around (x.getD i 0) ((k : Int) + 1) := by unfold lst1; rw [if_pos (by omega)]
      refine D_le (σ' := mkStI 83 [(2, _), (7, _), (8, _), (10, _), (11, _)] [((8, 0), _), ((10, 0), _)] [] []) (by
        refine Le.mkJ [] [] rfl ?_ ?_ trivial trivial ?_
        · exact ⟨(iS rfl), (iF rfl), (iP rfl), (iR rfl), (iV rfl), trivial⟩
        · exact ⟨(obE rfl rfl rfl), (obE rfl rfl rfl), trivial⟩
        · kernel_rfl) ?_
      refine D_anyL 9 [50, 51, 52, 53, 54, 55, 56, 57, 12] [] (by kernel_rfl) (by kernel_rfl) rfl (nodupO_iff rfl) (rfl : _ = [_, _, _, _, _, _, _, _, _]) (rfl : _ = []) ?_
      refine any_c (_, []) (fun τ => op_mv _ (rfl : _ = AV.sl _ _)) ?_
      refine any_n (rfl : _ = [_]) ?_
      refine any_c (_, []) (fun τ => op_mv _ (rfl : _ = AV.v (.int _ _))) ?_
      refine any_n (rfl : _ = [_, _]) ?_
      first
        | refine any_c (_, []) (fun τ => op_ixS _ _ inferInstance rfl rfl _ rfl (by omega) (by first | assumption | decide | (simp only [isl_len, bsl_len, psl_len, ws_len, mrows_len, nsl_len, List.length_map, nl_len, lst_len]; omega) | (simp; done) | (simp; omega) | (simp [isl, bsl]; omega)) (by first | exact Nat.mul_one _ | rfl | omega)) ?_
        | refine any_c (_, []) (fun τ => op_ixS _ _ inferInstance rfl rfl (Int.toNat _) (Int.toNat_of_nonneg (by omega)).symm (by omega) (by first | assumption | decide | (simp only [isl_len, bsl_len, psl_len, ws_len, mrows_len, nsl_len, List.length_map, nl_len, lst_len]; omega) | (simp; done) | (simp; omega) | (simp [isl, bsl]; omega)) (by first | exact Nat.mul_one _ | rfl | omega)) ?_
      refine any_n (rfl : _ = [_, _, _]) ?_
      refine any_c (_, []) (fun τ => op_ldF _ inferInstance rfl (by first | rfl | exact isl_get _ _ (by omega) | exact bsl_get _ _ (by omega) | assumption | exact psl_get0 _ _ (by omega) | exact psl_get1 _ _ (by omega) | exact nsl_get _ _ (by omega)) rfl) ?_
      refine any_n (rfl : _ = [_, _, _, _]) ?_
      first
        | refine any_c (_, []) (fun τ => op_fldP _ inferInstance rfl rfl rfl) ?_
        | refine any_c (_, []) (fun τ => op_fldF _ inferInstance rfl rfl) ?_
      refine any_n (rfl : _ = [_, _, _, _, _]) ?_
      first
        | refine any_c (_, []) (fun τ => op_ldB _ inferInstance rfl rfl (rfl : _ = some (AV.v (.int _ _)))) ?_
        | refine any_c (_, []) (fun τ => op_ldR _ inferInstance rfl rfl (by first | rfl | exact isl_get _ _ (by omega) | exact bsl_get _ _ (by omega) | assumption | exact psl_get0 _ _ (by omega) | exact psl_get1 _ _ (by omega) | exact nsl_get _ _ (by omega)) rfl) ?_
      refine any_n (rfl : _ = [_, _, _, _, _, _]) ?_
      first
        | refine any_c (_, []) (fun τ => op_add _ _ rfl rfl (i64w (by omega))) ?_
        | refine any_c (_, []) (fun τ => op_add _ _ rfl rfl rfl) ?_
      refine any_n (rfl : _ = [_, _, _, _, _, _, _]) ?_
      refine any_c (_, []) (fun τ => (op_callH inferInstance (by repeat' (first | exact argsLv_nil | refine argsLv_cons ?_ ?_ | exact Lv.v | exact Lv.sl | exact Lv.fp | exact Lv.nil | refine Lv.agg rfl ?_ | refine Lv.fn rfl ?_ rfl ?_ | exact lv_nil | refine lv_cons ?_ ?_ | exact Lv.z0)) (around_spec (x.getD i 0) ((k : Int) + 1) (by omega) (by omega) (rng_at hxr (by omega)).1 (rng_at hxr (by omega)).2) rfl rfl)) ?_
      refine any_n (rfl : _ = [_, _, _, _, _, _, _, _]) ?_
      refine any_c (_, []) (fun τ => op_as _ (rfl : _ = AV.v (.int _ _))) ?_
      refine any_n (rfl : _ = [_, _, _, _, _, _, _, _, _]) ?_
      refine any_end ⟨rfl, ?_⟩
      refine DL_nil (hK17 _ ?_)
      clear hK17; try clear K17
      refine D_region ?_
      refine DL_c (op_mv _ (rfl : _ = AV.ref _ _ _)) ?_
      refine DL_c (op_mv _ (rfl : _ = AV.v (.int _ _))) ?_
      refine DL_c (op_bsF _ _ inferInstance rfl (by rfl) (by simp <;> rfl) (by decide) rfl) ?_
      refine DL_c (op_ap (61, 0) _ _ inferInstance rfl rfl (by first | rfl | omega | (simp only [isl_len, bsl_len, psl_len, ws_len, mrows_len, nsl_len, List.length_map, nl_len, lst_len]; omega) | (simp; done) | (simp; omega)) (by first | exact .nil | (refine .sl ?_; first | (simp [isl]; done) | (simp [isl]; omega)) | (refine .ref rfl rfl ?_; first | (simp; done) | (simp; omega))) (by omega) rfl (rfl) (rfl)) ?_
      refine DL_c (op_as _ (rfl : _ = AV.ref _ _ _)) ?_
      refine DL_nil (hK15 _ ?_)
      clear hK15; try clear K15
      refine D_region ?_
      refine DL_c (op_mv _ (rfl : _ = AV.v (.int _ _))) ?_
      first
        | refine DL_c (op_add _ _ rfl rfl (i64w (by omega))) ?_
        | refine DL_c (op_add _ _ rfl rfl rfl) ?_
      refine DL_c (op_as _ (rfl : _ = AV.v (.int _ _))) ?_
      refine DL_nil ?_
      refine ⟨i + 1, ?_, ?_, ?_⟩
      · first | omega | trivial | exact ⟨by omega, by omega⟩
      · skip
        refine Le.mkJ [((10, 0), (61, 0))] [] rfl ?_ ?_ trivial trivial ?_
        · exact ⟨(by repeat' (first | exact Lv.v | exact Lv.sl | exact Lv.fp | exact lvRr (id := (8, 0)) rfl rfl | exact lvPr (id := (8, 0)) rfl | exact lvRr (id := (10, 0)) rfl rfl | exact lvPr (id := (10, 0)) rfl | exact lvRr rfl rfl | exact lvPr rfl | exact Lv.mp | exact Lv.nil | exact Lv.z | exact Lv.dead | refine Lv.agg rfl ?_ | refine Lv.fn rfl ?_ rfl ?_ | refine Lv.tup rfl ?_ | refine Lv.ifc ?_ | exact lv_nil | refine lv_cons ?_ ?_)), (by repeat' (first | exact Lv.v | exact Lv.sl | exact Lv.fp | exact lvRr (id := (8, 0)) rfl rfl | exact lvPr (id := (8, 0)) rfl | exact lvRr (id := (10, 0)) rfl rfl | exact lvPr (id := (10, 0)) rfl | exact lvRr rfl rfl | exact lvPr rfl | exact Lv.mp | exact Lv.nil | exact Lv.z | exact Lv.dead | refine Lv.agg rfl ?_ | refine Lv.fn rfl ?_ rfl ?_ | refine Lv.tup rfl ?_ | refine Lv.ifc ?_ | exact lv_nil | refine lv_cons ?_ ?_)), (lvPr (id := (8, 0)) rfl), (lvI (by first | rfl | omega | (simp; done) | (simp; omega) | assumption)), (lvRr rfl (by first | rfl | omega | (simp; done) | (simp; omega) | assumption)), trivial⟩
        · exact ⟨(obB rfl rfl rfl rfl (by repeat' (first | exact Lv.v | exact Lv.sl | exact Lv.fp | exact lvRr (id := (8, 0)) rfl rfl | exact lvPr (id := (8, 0)) rfl | exact lvRr (id := (10, 0)) rfl rfl | exact lvPr (id := (10, 0)) rfl | exact lvRr rfl rfl | exact lvPr rfl | exact Lv.mp | exact Lv.nil | exact Lv.z | exact Lv.dead | refine Lv.agg rfl ?_ | refine Lv.fn rfl ?_ rfl ?_ | refine Lv.tup rfl ?_ | refine Lv.ifc ?_ | exact lv_nil | refine lv_cons ?_ ?_))), (obR rfl rfl rfl (by rw [lst_succ, h1l, ← isl_append]; rfl)), trivial⟩
        · kernel_rfl
      · omega
    · skip
      have h1l : lst1 k x i = (i : Int) := by unfold lst1; rw [if_neg (by omega)]
      refine D_skip (hK17 _ ?_)
      clear hK17; try clear K17
      refine D_region ?_
      refine DL_c (op_mv _ (rfl : _ = AV.ref _ _ _)) ?_
      refine DL_c (op_mv _ (rfl : _ = AV.v (.int _ _))) ?_
      refine DL_c (op_bsF _ _ inferInstance rfl (by rfl) (by simp <;> rfl) (by decide) rfl) ?_
      refine DL_c (op_ap (61, 0) _ _ inferInstance rfl rfl (by first | rfl | omega | (simp only [isl_len, bsl_len, psl_len, ws_len, mrows_len, nsl_len, List.length_map, nl_len, lst_len]; omega) | (simp; done) | (simp; omega)) (by first | exact .nil | (refine .sl ?_; first | (simp [isl]; done) | (simp [isl]; omega)) | (refine .ref rfl rfl ?_; first | (simp; done) | (simp; omega))) (by omega) rfl (rfl) (rfl)) ?_
      refine DL_c (op_as _ (rfl : _ = AV.ref _ _ _)) ?_
      refine DL_nil (hK15 _ ?_)
      clear hK15; try clear K15
      refine D_le (σ' := mkStI 83 [(2, _), (7, _), (8, _), (10, _), (11, _)] [((8, 0), _), ((61, 0), _)] [] []) (by
        refine Le.mkJ [] [] rfl ?_ ?_ trivial trivial ?_
        · exact ⟨(iS rfl), (iF rfl), (iP rfl), (iR rfl), (iV rfl), trivial⟩
        · exact ⟨(obE rfl rfl rfl), (obE rfl rfl rfl), trivial⟩
        · kernel_rfl) ?_
      refine D_region ?_
      refine DL_c (op_mv _ (rfl : _ = AV.v (.int _ _))) ?_
      first
        | refine DL_c (op_add _ _ rfl rfl (i64w (by omega))) ?_
        | refine DL_c (op_add _ _ rfl rfl rfl) ?_
      refine DL_c (op_as _ (rfl : _ = AV.v (.int _ _))) ?_
      refine DL_nil ?_
      refine ⟨i + 1, ?_, ?_, ?_⟩
      · first | omega | trivial | exact ⟨by omega, by omega⟩
      · skip
        refine Le.mkJ [((10, 0), (61, 0))] [] rfl ?_ ?_ trivial trivial ?_
        · exact ⟨(by repeat' (first | exact Lv.v | exact Lv.sl | exact Lv.fp | exact lvRr (id := (8, 0)) rfl rfl | exact lvPr (id := (8, 0)) rfl | exact lvRr (id := (10, 0)) rfl rfl | exact lvPr (id := (10, 0)) rfl | exact lvRr rfl rfl | exact lvPr rfl | exact Lv.mp | exact Lv.nil | exact Lv.z | exact Lv.dead | refine Lv.agg rfl ?_ | refine Lv.fn rfl ?_ rfl ?_ | refine Lv.tup rfl ?_ | refine Lv.ifc ?_ | exact lv_nil | refine lv_cons ?_ ?_)), (by repeat' (first | exact Lv.v | exact Lv.sl | exact Lv.fp | exact lvRr (id := (8, 0)) rfl rfl | exact lvPr (id := (8, 0)) rfl | exact lvRr (id := (10, 0)) rfl rfl | exact lvPr (id := (10, 0)) rfl | exact lvRr rfl rfl | exact lvPr rfl | exact Lv.mp | exact Lv.nil | exact Lv.z | exact Lv.dead | refine Lv.agg rfl ?_ | refine Lv.fn rfl ?_ rfl ?_ | refine Lv.tup rfl ?_ | refine Lv.ifc ?_ | exact lv_nil | refine lv_cons ?_ ?_)), (lvPr (id := (8, 0)) rfl), (lvI (by first | rfl | omega | (simp; done) | (simp; omega) | assumption)), (lvRr rfl (by first | rfl | omega | (simp; done) | (simp; omega) | assumption)), trivial⟩
        · exact ⟨(obB rfl rfl rfl rfl (by repeat' (first | exact Lv.v | exact Lv.sl | exact Lv.fp | exact lvRr (id := (8, 0)) rfl rfl | exact lvPr (id := (8, 0)) rfl | exact lvRr (id := (10, 0)) rfl rfl | exact lvPr (id := (10, 0)) rfl | exact lvRr rfl rfl | exact lvPr rfl | exact Lv.mp | exact Lv.nil | exact Lv.z | exact Lv.dead | refine Lv.agg rfl ?_ | refine Lv.fn rfl ?_ rfl ?_ | refine Lv.tup rfl ?_ | refine Lv.ifc ?_ | exact lv_nil | refine lv_cons ?_ ?_))), (obR rfl rfl rfl (by rw [lst_succ, h1l, ← isl_append]; rfl)), trivial⟩
        · kernel_rfl
      · omega
  · skip
    obtain rfl : k = i := by omega
    refine D_exit ?_
    refine id (hK11 _ ?_)
    clear hK11; try clear K11
    refine D_seq fun K19 hK19 => ?_
    refine D_region ?_
    refine DL_c (op_mv _ (rfl : _ = AV.sl _ _)) ?_
    refine DL_c (op_callH inferInstance (by repeat' (first | exact argsLv_nil | refine argsLv_cons ?_ ?_ | exact Lv.v | exact Lv.sl | exact Lv.fp | exact Lv.nil | refine Lv.agg rfl ?_ | refine Lv.fn rfl ?_ rfl ?_ | exact lv_nil | refine lv_cons ?_ ?_ | exact Lv.z0)) (hia) rfl rfl) ?_
    refine DL_c (op_as _ (rfl : _ = AV.sl _ _)) ?_
    refine DL_nil (hK19 _ ?_)
    clear hK19; try clear K19
    refine D_seq fun K20 hK20 => ?_
    refine D_le (σ' := mkStI 83 [(7, _), (8, _), (10, _), (13, _)] [((8, 0), _), ((10, 0), _)] [] []) (by
      refine Le.mkJ [] [] rfl ?_ ?_ trivial trivial ?_
      · exact ⟨(iF rfl), (iP rfl), (iR rfl), (iS rfl), trivial⟩
      · exact ⟨(obE rfl rfl rfl), (obE rfl rfl rfl), trivial⟩
      · kernel_rfl) ?_
    refine D_anyL 20 [64, 65, 66, 67, 68, 69, 70, 71, 72, 73, 74, 75, 76, 77, 78, 79, 80, 81, 82, 6] [] (by kernel_rfl) (by kernel_rfl) rfl (nodupO_iff rfl) (rfl : _ = [_, _, _, _, _, _, _, _, _, _, _, _, _, _, _, _, _, _, _, _]) (rfl : _ = []) ?_
    refine any_c (_, []) (fun τ => op_mv _ (rfl : _ = AV.fp _ _)) ?_
    refine any_n (rfl : _ = [_]) ?_
    refine any_c (_, []) (fun τ => op_mv _ (rfl : _ = AV.ref _ _ _)) ?_
    refine any_n (rfl : _ = [_, _]) ?_
    refine any_c (_, []) (fun τ => (op_callBH inferInstance (by repeat' (first | exact argsLv_nil | refine argsLv_cons ?_ ?_ | exact Lv.v | exact Lv.sl | exact Lv.fp | exact Lv.nil | refine Lv.agg rfl ?_ | refine Lv.fn rfl ?_ rfl ?_ | exact lv_nil | refine lv_cons ?_ ?_ | (refine frz0 rfl rfl ?_ rfl; first | (simp; done) | (simp; omega) | omega) | exact Lv.frzP rfl rfl rfl)) (g.isl k (lst k x k) (by simp) (by omega)) rfl)) ?_
    refine any_n (rfl : _ = [_, _, _]) ?_
    first
      | refine any_c (_, []) (fun τ => op_ldBA _ inferInstance rfl rfl rfl rfl) ?_
      | refine any_c (_, []) (fun τ => op_ldRA _ inferInstance rfl rfl (by first | rfl | assumption | exact psl_geta _ _ (by omega)) rfl) ?_
      | refine any_c (_, []) (fun τ => op_ldFA _ inferInstance rfl (by first | rfl | assumption | exact psl_geta _ _ (by omega)) rfl) ?_
    refine any_n (rfl : _ = [_, _, _, _]) ?_
    refine any_c (_, []) (fun τ => op_mv _ (rfl : _ = AV.ref _ _ _)) ?_
    refine any_n (rfl : _ = [_, _, _, _, _]) ?_
    refine any_c (_, []) (fun τ => (op_callBH inferInstance (by repeat' (first | exact argsLv_nil | refine argsLv_cons ?_ ?_ | exact Lv.v | exact Lv.sl | exact Lv.fp | exact Lv.nil | refine Lv.agg rfl ?_ | refine Lv.fn rfl ?_ rfl ?_ | exact lv_nil | refine lv_cons ?_ ?_ | (refine frz0 rfl rfl ?_ rfl; first | (simp; done) | (simp; omega) | omega) | exact Lv.frzP rfl rfl rfl)) (g.risl k (lst k x k) (by simp) (by omega)) rfl)) ?_
    refine any_n (rfl : _ = [_, _, _, _, _, _]) ?_
    refine any_c (_, []) (fun τ => op_eqB (r := true) _ _ rfl rfl Try.underlying4 (by simp)) ?_
    refine any_n (rfl : _ = [_, _, _, _, _, _, _]) ?_
    refine any_c (_, []) (fun τ => op_mv _ (rfl : _ = AV.v (.bool _))) ?_
    refine any_n (rfl : _ = [_, _, _, _, _, _, _, _]) ?_
    refine any_cy (_, []) rfl (fun τ => rfl) (fun τ => op_mv _ (rfl : _ = AV.fp _ _)) ?_
    refine any_n (rfl : _ = [_, _, _, _, _, _, _, _, _]) ?_
    refine any_cy (_, []) rfl (fun τ => rfl) (fun τ => op_mv _ (rfl : _ = AV.sl _ _)) ?_
    refine any_n (rfl : _ = [_, _, _, _, _, _, _, _, _, _]) ?_
    refine any_cy (_, []) rfl (fun τ => rfl) (fun τ => (op_callH inferInstance (by repeat' (first | exact argsLv_nil | refine argsLv_cons ?_ ?_ | exact Lv.v | exact Lv.sl | exact Lv.fp | exact Lv.nil | refine Lv.agg rfl ?_ | refine Lv.fn rfl ?_ rfl ?_ | exact lv_nil | refine lv_cons ?_ ?_ | exact Lv.z0)) (g.isl (min mx 9) (x.take (min mx 9)) (by simp; omega) (by omega)) rfl rfl)) ?_
    refine any_n (rfl : _ = [_, _, _, _, _, _, _, _, _, _, _]) ?_
    first
      | refine any_cy (_, []) rfl (fun τ => rfl) (fun τ => op_ldBA _ inferInstance rfl rfl rfl rfl) ?_
      | refine any_cy (_, []) rfl (fun τ => rfl) (fun τ => op_ldRA _ inferInstance rfl rfl (by first | rfl | assumption | exact psl_geta _ _ (by omega)) rfl) ?_
      | refine any_cy (_, []) rfl (fun τ => rfl) (fun τ => op_ldFA _ inferInstance rfl (by first | rfl | assumption | exact psl_geta _ _ (by omega)) rfl) ?_
    refine any_n (rfl : _ = [_, _, _, _, _, _, _, _, _, _, _, _]) ?_
    refine any_cy (_, []) rfl (fun τ => rfl) (fun τ => op_mv _ (rfl : _ = AV.sl _ _)) ?_
    refine any_n (rfl : _ = [_, _, _, _, _, _, _, _, _, _, _, _, _]) ?_
    refine any_cy (_, []) rfl (fun τ => rfl) (fun τ => (op_callH inferInstance (by repeat' (first | exact argsLv_nil | refine argsLv_cons ?_ ?_ | exact Lv.v | exact Lv.sl | exact Lv.fp | exact Lv.nil | refine Lv.agg rfl ?_ | refine Lv.fn rfl ?_ rfl ?_ | exact lv_nil | refine lv_cons ?_ ?_ | exact Lv.z0)) (g.risl (min mx 9) (x.take (min mx 9)) (by simp; omega) (by omega)) rfl rfl)) ?_
    refine any_n (rfl : _ = [_, _, _, _, _, _, _, _, _, _, _, _, _, _]) ?_
    refine any_cy (_, []) rfl (fun τ => rfl) (fun τ => op_eqB (r := true) _ _ rfl rfl Try.underlying4 (by simp)) ?_
    refine any_n (rfl : _ = [_, _, _, _, _, _, _, _, _, _, _, _, _, _, _]) ?_
    refine any_c (_, []) (fun τ => op_pick _ _ _ rfl (rfl : _ = AV.v (.bool _))) ?_
    refine any_n (rfl : _ = [_, _, _, _, _, _, _, _, _, _, _, _, _, _, _, _]) ?_
    refine any_c (_, []) (fun τ => op_mv _ (rfl : _ = AV.v (.bool _))) ?_
    refine any_n (rfl : _ = [_, _, _, _, _, _, _, _, _, _, _, _, _, _, _, _, _]) ?_
    refine any_cy (_, []) rfl (fun τ => rfl) (fun τ => (op_callH inferInstance (by repeat' (first | exact argsLv_nil | refine argsLv_cons ?_ ?_ | exact Lv.v | exact Lv.sl | exact Lv.fp | exact Lv.nil | refine Lv.agg rfl ?_ | refine Lv.fn rfl ?_ rfl ?_ | exact lv_nil | refine lv_cons ?_ ?_ | exact Lv.z0)) (lives_spec) rfl rfl)) ?_
    refine any_n (rfl : _ = [_, _, _, _, _, _, _, _, _, _, _, _, _, _, _, _, _, _]) ?_
    refine any_c (_, []) (fun τ => op_pick _ _ _ rfl (rfl : _ = AV.v (.bool _))) ?_
    refine any_n (rfl : _ = [_, _, _, _, _, _, _, _, _, _, _, _, _, _, _, _, _, _, _]) ?_
    refine any_c (_, []) (fun τ => op_as _ (rfl : _ = AV.v (.bool _))) ?_
    refine any_n (rfl : _ = [_, _, _, _, _, _, _, _, _, _, _, _, _, _, _, _, _, _, _, _]) ?_
    refine any_end ⟨rfl, ?_⟩
    refine DL_nil (hK20 _ ?_)
    clear hK20; try clear K20
    refine D_ret ?_
    refine ret1 (.inr rfl) rfl (.tmp (rfl : _ = AV.v (.bool _))) (Le.out [] [] (lvB ?_) rfl rfl rfl trivial trivial)
    rfl
theorem linear_law (n : Int) (hn : -9223372036854775808 ≤ n ∧ n ≤ 9223372036854775807) (m : Nat) (l : List Int) (hm : l.length = m) (h1 : m ≤ 4611686018427387904) (hr : Rng l) (mx : Nat) (x : List Int) (hx : x.length = mx) (hx1 : mx ≤ 4611686018427387904) (hxr : Rng x) :
    Spec Try.prog 9 (inSt [.v (.int .i64 n), .sl m (isl l), .sl mx (isl x)] []) (outSt (.v (.bool true)) []) := by
  obtain ⟨k, E, g⟩ := Gen.of n hn m l hm h1 hr
  by_cases hC : Cyc k E
  · exact linear_cyc n m l k E g hC mx x
  · exact linear_ok n m l k E g hC mx x hx hx1 hxr
end Go.Proofs.Ytkbkmngbenohkaa
