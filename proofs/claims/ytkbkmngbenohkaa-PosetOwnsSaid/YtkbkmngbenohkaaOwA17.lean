/- Extensions by the machine. -/
import Derived.Test.YtkbkmngbenohkaaOwA16
set_option linter.unusedSimpArgs false
set_option linter.unusedVariables false
namespace Go.Proofs.Ytkbkmngbenohkaa
open Go.RowKit

theorem search_spec (n : Nat) (ab : List Nat) (hW : Words n ab) (most : Nat) (hm : most ≤ 4611686018427387904) : ∀ (d c : Nat) (out : List Nat), d ≤ n → c < most →
    Spec Try.prog 89 (inStI (exA n ab most d) (exO n ab most c (doneL n out) (nl (wtL n (wlt ab) out))))
      (outStI (.tup []) (exO n ab most (upto most c (extN n (wlt ab) d out)) (doneL n out) (nl (wtL n (wlt ab) out))) exI exI)
  | 0, c, out, _, hc => by
    have h := search_last n ab hW most c hm hc out
    rw [extN_zero]
    have e : upto most c 1 = c + 1 := by unfold upto; omega
    rw [e]; exact h
  | d + 1, c, out, hd, hc => search_step n ab hW most c hm hc d out (by omega) fun c out hc => search_spec n ab hW most hm d c out (by omega) hc
theorem below_wt {n : Nat} {lt : Lt} : cntA n lt n 0 = nl (wtL n lt []) := by
  rw [cntA_zero]
  simp only [nl, wtL, List.map_map]
  refine List.map_congr_left fun b _ => ?_
  simp [wt_nil]
/-- The number of linear extensions, at most some number. -/
def exts (n : Nat) (lt : Lt) (most : Int) : Int := if most ≤ 0 then 0 else min most (extN n lt n [] : Nat)
theorem ext_spec (n : Nat) (ab : List Nat) (hW : Words n ab) (most : Int) (hm : most ≤ 4611686018427387904) :
    Spec Try.prog 53 (inSt [.fp 0 (ord n ab), .v (.int .i64 most)] []) (outSt (.v (.int .i64 (exts n (wlt ab) most))) []) := by
  have hle := hW.le
  refine Spec.ofN Try.func53 rfl Try.ntmps53 rfl ?_
  refine D_seq fun K1 hK1 => ?_
  refine D_region ?_
  refine DL_c (op_box (2, 0) _ rfl rfl) ?_
  refine DL_c (op_box (3, 0) _ rfl rfl) ?_
  refine DL_c (op_as _ (rfl : _ = AV.v (.int _ _))) ?_
  refine DL_nil (hK1 _ ?_)
  clear hK1; try clear K1
  refine D_seq fun K2 hK2 => ?_
  refine D_seq fun K3 hK3 => ?_
  refine D_region ?_
  first
    | refine DL_c (op_ldB _ inferInstance rfl rfl (rfl : _ = some (AV.v (.int _ _)))) ?_
    | refine DL_c (op_ldR _ inferInstance rfl rfl (by first | rfl | exact isl_get _ _ (by omega) | exact bsl_get _ _ (by omega) | assumption) rfl) ?_
  first
    | refine DL_c (op_leq _ _ rfl rfl (by assumption)) ?_
    | refine DL_c (op_leq _ _ rfl rfl rfl) ?_
  refine DL_nil (hK3 _ ?_)
  clear hK3; try clear K3
  refine D_splitC rfl (fun hc11 => ?_) (fun hc11 => ?_)
  · skip
    refine D_seq fun K4 hK4 => ?_
    refine D_region ?_
    refine DL_c (op_as _ (rfl : _ = AV.v (.int _ _))) ?_
    refine DL_nil (hK4 _ ?_)
    clear hK4; try clear K4
    refine D_ret ?_
    refine ret1 (.inr rfl) rfl (.tmp (rfl : _ = AV.v (.int _ _))) (Le.out [] [] (lvI ?_) rfl rfl rfl trivial trivial)
    unfold exts; rw [if_pos (by omega)]
  · skip
    obtain ⟨M, hM⟩ := Int.eq_ofNat_of_zero_le (show 0 ≤ most by omega)
    subst hM
    have hs := search_spec n ab hW M (by omega) n 0 [] (Nat.le_refl _) (by omega)
    refine D_skip (hK2 _ ?_)
    clear hK2; try clear K2
    refine D_seq fun K5 hK5 => ?_
    refine D_region ?_
    first
      | refine DL_c (op_ldB _ inferInstance rfl rfl (rfl : _ = some (AV.fp _ _))) ?_
      | refine DL_c (op_ldR _ inferInstance rfl rfl (by first | rfl | exact isl_get _ _ (by omega) | exact bsl_get _ _ (by omega) | assumption) rfl) ?_
    refine DL_c (op_callR inferInstance [((0, 8), (50, 0))] ?_ ((below_own n ab hW).toI) trivial ⟨rfl, trivial⟩ (by kernel_rfl)) ?_
    · repeat' (first | exact argsR_nil | refine argsR_cons ?_ ?_ | exact Lv.v | exact lvI (by assumption) | exact lvI (by omega) | exact Lv.sl | exact Lv.fp | exact Lv.nil | exact lvRr rfl rfl | exact lvPr rfl | refine Lv.agg rfl ?_ | refine Lv.fn rfl ?_ rfl ?_ | refine Lv.ifc ?_ | exact lv_nil | refine lv_cons ?_ ?_)
    refine DL_c (op_alloc (5, 0) inferInstance rfl rfl) ?_
    refine DL_c (op_stB _ _ inferInstance rfl rfl rfl rfl (Nat.le_of_ble_eq_true rfl) rfl) ?_
    refine DL_nil (hK5 _ ?_)
    clear hK5; try clear K5
    refine D_seq fun K6 hK6 => ?_
    refine D_region ?_
    first
      | refine DL_c (op_ldB _ inferInstance rfl rfl (rfl : _ = some (AV.fp _ _))) ?_
      | refine DL_c (op_ldR _ inferInstance rfl rfl (by first | rfl | exact isl_get _ _ (by omega) | exact bsl_get _ _ (by omega) | assumption) rfl) ?_
    refine DL_c (op_nilc _ rfl) ?_
    refine DL_c (op_fldF _ inferInstance rfl rfl) ?_
    refine DL_c (op_ldF _ inferInstance rfl (rfl : _ = some (PV.v (.int .i64 (n : Int)))) rfl) ?_
    refine DL_c (op_mk (18, 0) _ _ inferInstance rfl rfl n rfl rfl (by omega) rfl (bsl_falses n)) ?_
    refine DL_c (op_alloc (6, 0) inferInstance rfl rfl) ?_
    refine DL_c (op_stB _ _ inferInstance rfl rfl rfl rfl (Nat.le_of_ble_eq_true rfl) rfl) ?_
    refine DL_nil (hK6 _ ?_)
    clear hK6; try clear K6
    refine D_seq fun K7 hK7 => ?_
    refine D_le (σ' := mkStI 28 [(2, _), (3, _), (5, _), (6, _)] [((2, 0), _), ((3, 0), _), ((50, 0), _), ((5, 0), _), ((18, 0), _), ((6, 0), _)] [] []) (by
      refine Le.mkJ [] [] rfl ?_ ?_ trivial trivial ?_
      · exact ⟨(iP rfl), (iP rfl), (iP rfl), (iP rfl), trivial⟩
      · exact ⟨(obE rfl rfl rfl), (obE rfl rfl rfl), (obE rfl rfl rfl), (obE rfl rfl rfl), (obE rfl rfl rfl), (obE rfl rfl rfl), trivial⟩
      · kernel_rfl) ?_
    refine D_region ?_
    refine DL_c (op_alloc (7, 0) inferInstance rfl rfl) ?_
    refine DL_c (op_stB _ _ inferInstance rfl rfl rfl rfl (Nat.le_of_ble_eq_true rfl) rfl) ?_
    refine DL_nil (hK7 _ ?_)
    clear hK7; try clear K7
    refine D_seq fun K8 hK8 => ?_
    refine D_le (Le.trans (Le.frzPt 3 rfl rfl rfl rfl) (Le.frzPt 2 rfl rfl rfl rfl)) ?_
    refine D_region ?_
    refine DL_c (op_mf _ _ (rfl : _ = []) (rfl : _ = [_, _, _])) ?_
    refine DL_c (op_alloc (8, 0) inferInstance rfl rfl) ?_
    refine DL_c (op_stB _ _ inferInstance rfl rfl rfl rfl (Nat.le_of_ble_eq_true rfl) rfl) ?_
    refine DL_nil (hK8 _ ?_)
    clear hK8; try clear K8
    refine D_seq fun K9 hK9 => ?_
    refine D_region ?_
    refine DL_c (op_alloc (9, 0) inferInstance rfl rfl) ?_
    refine DL_nil (hK9 _ ?_)
    clear hK9; try clear K9
    refine D_seq fun K10 hK10 => ?_
    refine D_region ?_
    refine DL_c (op_mf _ _ (rfl : _ = []) (rfl : _ = [_, _, _, _, _, _, _])) ?_
    refine DL_c (op_stB _ _ inferInstance rfl rfl rfl rfl (Nat.le_of_ble_eq_true rfl) rfl) ?_
    refine DL_nil (hK10 _ ?_)
    clear hK10; try clear K10
    refine D_seq fun K11 hK11 => ?_
    refine D_le (σ' := mkStI 28 [(2, _), (7, _), (9, _)] [((50, 0), _), ((5, 0), _), ((18, 0), _), ((6, 0), _), ((7, 0), _), ((8, 0), _), ((9, 0), _)] [] []) (by
      refine Le.mkJ [] [] rfl ?_ ?_ trivial trivial ?_
      · exact ⟨(iF rfl), (iP rfl), (iP rfl), trivial⟩
      · exact ⟨(obE rfl rfl rfl), (obE rfl rfl rfl), (obE rfl rfl rfl), (obE rfl rfl rfl), (obE rfl rfl rfl), (obE rfl rfl rfl), (obE rfl rfl rfl), trivial⟩
      · kernel_rfl) ?_
    refine D_anyL 5 [21, 22, 23, 24, 25] [] (by kernel_rfl) (by kernel_rfl) rfl (nodupO_iff rfl) (rfl : _ = [_, _, _, _, _]) (rfl : _ = [_]) ?_
    first
      | refine any_c (_, []) (fun τ => op_ldB _ inferInstance rfl rfl (rfl : _ = some (AV.fn _ _ _))) ?_
      | refine any_c (_, []) (fun τ => op_ldR _ inferInstance rfl rfl (by first | rfl | exact isl_get _ _ (by omega) | exact bsl_get _ _ (by omega) | assumption) rfl) ?_
    refine any_n (rfl : _ = [_]) ?_
    refine any_c (_, []) (fun τ => op_ldF _ inferInstance rfl (rfl : _ = some (PV.ptr 0 (ord n ab))) rfl) ?_
    refine any_n (rfl : _ = [_, _]) ?_
    first
      | refine any_c (_, []) (fun τ => op_nilp _ rfl rfl) ?_
      | refine any_c (_, []) (fun τ => op_nilc _ rfl) ?_
    refine any_n (rfl : _ = [_, _, _]) ?_
    first
      | refine any_c (_, []) (fun τ => op_fldP _ inferInstance rfl rfl rfl) ?_
      | refine any_c (_, []) (fun τ => op_fldF _ inferInstance rfl rfl) ?_
    refine any_n (rfl : _ = [_, _, _, _]) ?_
    refine any_c (_, []) (fun τ => op_ldF _ inferInstance rfl (rfl : _ = some (PV.v (.int .i64 (n : Int)))) rfl) ?_
    refine any_n (rfl : _ = [_, _, _, _, _]) ?_
    refine any_end ⟨rfl, ?_⟩
    refine DL_c (op_callRV rfl inferInstance [((0, 9), (7, 0)), ((1, 9), (6, 0)), ((2, 9), (5, 0)), ((3, 9), (8, 0)), ((4, 9), (9, 0)), ((5, 9), (18, 0)), ((6, 9), (50, 0))] ?_ (hs) ⟨⟨rfl, ⟨_, rfl, .box rfl (lv_cons (lvI (by rfl)) lv_nil)⟩, rfl⟩, ⟨rfl, ⟨_, rfl, .box rfl (lv_cons (lvRr rfl rfl) lv_nil)⟩, rfl⟩, ⟨rfl, ⟨_, rfl, .box rfl (lv_cons (lvRr rfl rfl) lv_nil)⟩, rfl⟩, ⟨rfl, ⟨_, rfl, .box rfl (lv_cons (.fn rfl lv_nil rfl (lv_cons (lvPr rfl) (lv_cons .fp (lv_cons (lvPr rfl) lv_nil)))) lv_nil)⟩, rfl⟩, ⟨rfl, ⟨_, rfl, .box rfl (lv_cons (.fn rfl lv_nil rfl (lv_cons (lvPr rfl) (lv_cons .fp (lv_cons .fp (lv_cons (lvPr rfl) (lv_cons (lvPr rfl) (lv_cons (lvPr rfl) (lv_cons (lvPr rfl) lv_nil)))))))) lv_nil)⟩, rfl⟩, ⟨rfl, ⟨_, rfl, .rowE (by rw [doneL_nil])⟩, rfl⟩, ⟨rfl, ⟨_, rfl, .rowE (congrArg isl below_wt)⟩, rfl⟩, trivial⟩ ⟨rfl, rfl, rfl, rfl, rfl, rfl, rfl, trivial⟩ (by kernel_rfl)) ?_
    · repeat' (first | exact argsR_nil | refine argsR_cons ?_ ?_ | exact Lv.v | exact lvI (by assumption) | exact lvI (by omega) | exact Lv.sl | exact Lv.fp | exact Lv.nil | exact lvRr rfl rfl | exact lvPr rfl | refine Lv.agg rfl ?_ | refine Lv.fn rfl ?_ rfl ?_ | refine Lv.ifc ?_ | exact lv_nil | refine lv_cons ?_ ?_)
    refine DL_nil (hK11 _ ?_)
    clear hK11; try clear K11
    refine D_seq fun K12 hK12 => ?_
    refine D_region ?_
    first
      | refine DL_c (op_ldB _ inferInstance rfl rfl (rfl : _ = some (AV.v (.int _ _)))) ?_
      | refine DL_c (op_ldR _ inferInstance rfl rfl (by first | rfl | exact isl_get _ _ (by omega) | exact bsl_get _ _ (by omega) | assumption) rfl) ?_
    refine DL_c (op_as _ (rfl : _ = AV.v (.int _ _))) ?_
    refine DL_nil (hK12 _ ?_)
    clear hK12; try clear K12
    refine D_ret ?_
    refine ret1 (.inr rfl) rfl (.tmp (rfl : _ = AV.v (.int _ _))) (Le.out [] [] (lvI ?_) rfl rfl rfl trivial trivial)
    unfold exts upto; rw [if_neg (by omega)]; omega
end Go.Proofs.Ytkbkmngbenohkaa
