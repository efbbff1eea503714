/- The law PosetSwaps by the machine. -/
import Derived.Test.YtkbkmngbenohkaaA19
set_option linter.unusedSimpArgs false
set_option linter.unusedVariables false
namespace Go.Proofs.Ytkbkmngbenohkaa
open Go.RowKit

/-- Two neighbours exchanged. -/
def swp (l : List Int) (j : Nat) : List Int := l.take j ++ l.getD (j + 1) 0 :: l.getD j 0 :: l.drop (j + 2)
theorem swp_cells (l : List Int) (j : Nat) : (([] ++ isl (l.take j)) ++ [PV.v (.int .i64 (l.getD (j + 1) 0)), PV.v (.int .i64 (l.getD j 0))]) ++ isl (l.drop (j + 2)) = isl (swp l j) := by simp [isl, swp]
def swN (l : List Nat) (j : Nat) : List Nat := l.take j ++ l.getD (j + 1) 0 :: l.getD j 0 :: l.drop (j + 2)
theorem swp_nl (l : List Nat) (j : Nat) : swp (nl l) j = nl (swN l j) := by
  simp only [swp, swN, nl_get]
  simp [nl, List.map_take, List.map_drop]
theorem split2 {l : List Nat} {j : Nat} (h : j + 1 < l.length) : l = l.take j ++ l.getD j 0 :: l.getD (j + 1) 0 :: l.drop (j + 2) := by
  rw [getD_at _ _ _ h, getD_at _ _ _ (by omega), List.getElem_cons_drop, List.getElem_cons_drop, List.take_append_drop]
theorem swp_islin {n : Nat} {lt : Lt} {l : List Nat} {j : Nat} (hl : LinN n lt l) (h : j + 1 < n) : islin n lt (swp (nl l) j) = rconc n lt (l.getD j 0 : Nat) (l.getD (j + 1) 0 : Nat) := by
  have hj : j + 1 < l.length := by rw [hl.len]; exact h
  have e := split2 hj
  have hl' := hl
  rw [e] at hl'
  have hsw := swap_lin hl'
  have h1 := hl.bd (l.getD j 0) (by rw [getD_at _ _ _ (show j < l.length by omega)]; exact List.getElem_mem _)
  have h2 := hl.bd (l.getD (j + 1) 0) (by rw [getD_at _ _ _ hj]; exact List.getElem_mem _)
  have hpw := List.pairwise_append.1 hl'.pw
  have hpw2 := (List.pairwise_cons.1 hpw.2.1).1 _ List.mem_cons_self
  rw [swp_nl, Bool.eq_iff_iff, islin_nl]
  have i1 : inn n ((l.getD j 0 : Nat) : Int) = true := inn_iff.2 (by omega)
  have i2 : inn n ((l.getD (j + 1) 0 : Nat) : Int) = true := inn_iff.2 (by omega)
  have i3 : (((l.getD j 0 : Nat) : Int) != ((l.getD (j + 1) 0 : Nat) : Int)) = true := by rw [bne_iff_ne]; have := hpw2.1; omega
  have hr : rconc n lt (l.getD j 0 : Nat) (l.getD (j + 1) 0 : Nat) = !lt (l.getD j 0) (l.getD (j + 1) 0) := by
    unfold rconc
    rw [i1, i2, i3, Int.toNat_natCast, Int.toNat_natCast, hpw2.2]; simp
  rw [hr, Bool.not_eq_true']
  exact hsw
theorem swN_lin {n : Nat} {lt : Lt} {l : List Nat} {j : Nat} (h : islin n lt (swp (nl l) j) = true) : LinN n lt (swN l j) := by rw [swp_nl] at h; exact islin_nl.1 h

theorem swaps_cyc (n : Int) (m : Nat) (l : List Int) (k : Nat) (E : Prs) (g : Gen n m l k E) (hC : Cyc k E) (mx : Nat) (x : List Int) :
    Spec Try.prog 11 (inSt [.v (.int .i64 n), .sl m (isl l), .sl mx (isl x)] []) (outSt (.v (.bool true)) []) := by
  refine Spec.ofN Try.func11 rfl Try.ntmps11 rfl ?_
  refine D_seq fun K1 hK1 => ?_
  refine D_region ?_
  refine DL_c (op_as _ (rfl : _ = AV.v (.bool _))) ?_
  refine DL_nil (hK1 _ ?_)
  clear hK1; try clear K1
  refine D_seq fun K2 hK2 => ?_
  refine D_seq fun K3 hK3 => ?_
  refine D_region ?_
  refine DL_c (op_mv _ (rfl : _ = AV.v (.int _ _))) ?_
  refine DL_c (op_mv _ (rfl : _ = AV.sl _ _)) ?_
  refine DL_c (op_callH inferInstance (by repeat' (first | exact argsLv_nil | refine argsLv_cons ?_ ?_ | exact Lv.v | exact Lv.sl | exact Lv.fp | exact Lv.nil | refine Lv.agg rfl ?_ | refine Lv.fn rfl ?_ rfl ?_ | exact lv_nil | refine lv_cons ?_ ?_ | exact Lv.z0)) (g.yes hC) rfl rfl) ?_
  refine DL_nil (hK3 _ ?_)
  clear hK3; try clear K3
  refine D_cT rfl rfl ?_
  refine D_seq fun K4 hK4 => ?_
  refine D_region ?_
  refine DL_c (op_callH inferInstance (by repeat' (first | exact argsLv_nil | refine argsLv_cons ?_ ?_ | exact Lv.v | exact Lv.sl | exact Lv.fp | exact Lv.nil | refine Lv.agg rfl ?_ | refine Lv.fn rfl ?_ rfl ?_ | exact lv_nil | refine lv_cons ?_ ?_ | exact Lv.z0)) (lives_spec) rfl rfl) ?_
  refine DL_c (op_as _ (rfl : _ = AV.v (.bool _))) ?_
  refine DL_nil (hK4 _ ?_)
  clear hK4; try clear K4
  refine D_ret ?_
  refine ret1 (.inr rfl) rfl (.tmp (rfl : _ = AV.v (.bool _))) (Le.out [] [] (lvB ?_) rfl rfl rfl trivial trivial)
  rfl
theorem swaps_ok (n : Int) (m : Nat) (l : List Int) (k : Nat) (E : Prs) (g : Gen n m l k E) (hC : ¬ Cyc k E) (mx : Nat) (x : List Int) (hx : x.length = mx) (hx1 : mx ≤ 4611686018427387904) (hxr : Rng x) :
    Spec Try.prog 11 (inSt [.v (.int .i64 n), .sl m (isl l), .sl mx (isl x)] []) (outSt (.v (.bool true)) []) := by
  have hk8 := g.kle
  have hS := spo_cl hC
  refine Spec.ofN Try.func11 rfl Try.ntmps11 rfl ?_
  refine D_seq fun K1 hK1 => ?_
  refine D_region ?_
  refine DL_c (op_as _ (rfl : _ = AV.v (.bool _))) ?_
  refine DL_nil (hK1 _ ?_)
  clear hK1; try clear K1
  refine D_seq fun K2 hK2 => ?_
  refine D_seq fun K3 hK3 => ?_
  refine D_region ?_
  refine DL_c (op_mv _ (rfl : _ = AV.v (.int _ _))) ?_
  refine DL_c (op_mv _ (rfl : _ = AV.sl _ _)) ?_
  refine DL_c (op_callH inferInstance (by repeat' (first | exact argsLv_nil | refine argsLv_cons ?_ ?_ | exact Lv.v | exact Lv.sl | exact Lv.fp | exact Lv.nil | refine Lv.agg rfl ?_ | refine Lv.fn rfl ?_ rfl ?_ | exact lv_nil | refine lv_cons ?_ ?_ | exact Lv.z0)) (g.no hC) rfl rfl) ?_
  refine DL_nil (hK3 _ ?_)
  clear hK3; try clear K3
  refine D_cF rfl rfl ?_
  refine D_skip (hK2 _ ?_)
  clear hK2; try clear K2
  refine D_seq fun K4 hK4 => ?_
  refine D_region ?_
  refine DL_c (op_mv _ (rfl : _ = AV.v (.int _ _))) ?_
  refine DL_c (op_mv _ (rfl : _ = AV.sl _ _)) ?_
  refine DL_c (op_callH inferInstance (by repeat' (first | exact argsLv_nil | refine argsLv_cons ?_ ?_ | exact Lv.v | exact Lv.sl | exact Lv.fp | exact Lv.nil | refine Lv.agg rfl ?_ | refine Lv.fn rfl ?_ rfl ?_ | exact lv_nil | refine lv_cons ?_ ?_ | exact Lv.z0)) (g.made hC) rfl rfl) ?_
  refine DL_c (op_mv _ (rfl : _ = AV.tup _)) ?_
  first
    | refine DL_c (op_ext _ rfl (rfl : _ = some (AV.ptr _ _))) ?_
    | refine DL_c (op_ext _ rfl (rfl : _ = some (AV.fp _ _))) ?_
    | refine DL_c (op_ext _ rfl (rfl : _ = some (AV.v (.pointer _)))) ?_
  first
    | refine DL_c (op_ext _ rfl (rfl : _ = some (AV.agg _))) ?_
    | refine DL_c (op_ext _ rfl (rfl : _ = some (AV.v (.agg _)))) ?_
  refine DL_c (op_alloc (8, 0) inferInstance rfl rfl) ?_
  refine DL_c (op_as _ (rfl : _ = AV.fp _ _)) ?_
  refine DL_c (op_stB _ _ inferInstance rfl rfl rfl rfl (Nat.le_of_ble_eq_true rfl) rfl) ?_
  refine DL_nil (hK4 _ ?_)
  clear hK4; try clear K4
  refine D_seq fun K5 hK5 => ?_
  refine D_seq fun K6 hK6 => ?_
  refine D_region ?_
  refine DL_c (op_mv _ (rfl : _ = AV.fp _ _)) ?_
  refine DL_c (op_eqN _ _ (by kernel_rfl) (.inr ⟨_, _, rfl⟩) rfl) ?_
  refine DL_nil (hK6 _ ?_)
  clear hK6; try clear K6
  refine D_cF rfl rfl ?_
  refine D_skip (hK5 _ ?_)
  clear hK5; try clear K5
  refine D_seq fun K7 hK7 => ?_
  refine D_le (σ' := mkStI 98 [(2, _), (7, _), (8, _)] [((8, 0), _)] [] []) (by
    refine Le.mkJ [] [] rfl ?_ ?_ trivial trivial ?_
    · exact ⟨(iS rfl), (iF rfl), (iP rfl), trivial⟩
    · exact ⟨(obE rfl rfl rfl), trivial⟩
    · kernel_rfl) ?_
  refine D_region ?_
  refine DL_c (op_mv _ (rfl : _ = AV.fp _ _)) ?_
  refine DL_c (op_callH inferInstance (by repeat' (first | exact argsLv_nil | refine argsLv_cons ?_ ?_ | exact Lv.v | exact Lv.sl | exact Lv.fp | exact Lv.nil | refine Lv.agg rfl ?_ | refine Lv.fn rfl ?_ rfl ?_ | exact lv_nil | refine lv_cons ?_ ?_ | exact Lv.z0)) (g.linear hC) rfl rfl) ?_
  refine DL_c (op_as _ (rfl : _ = AV.sl _ _)) ?_
  refine DL_nil (hK7 _ ?_)
  clear hK7; try clear K7
  refine D_seq fun K8 hK8 => ?_
  refine D_seq fun K9 hK9 => ?_
  refine D_region ?_
  refine DL_c (op_mv _ (rfl : _ = AV.sl _ _)) ?_
  refine DL_c (op_lenS _ inferInstance rfl) ?_
  first
    | refine DL_c (op_fldP _ inferInstance rfl rfl rfl) ?_
    | refine DL_c (op_fldF _ inferInstance rfl rfl) ?_
  first
    | refine DL_c (op_ldB _ inferInstance rfl rfl (rfl : _ = some (AV.v (.int _ _)))) ?_
    | refine DL_c (op_ldR _ inferInstance rfl rfl (by first | rfl | exact isl_get _ _ (by omega) | exact bsl_get _ _ (by omega) | assumption | exact psl_get0 _ _ (by omega) | exact psl_get1 _ _ (by omega) | exact nsl_get _ _ (by omega)) rfl) ?_
  refine DL_c (op_neq (r := false) _ _ rfl rfl (by simp)) ?_
  refine DL_nil (hK9 _ ?_)
  clear hK9; try clear K9
  refine D_cF rfl rfl ?_
  refine D_skip (hK8 _ ?_)
  clear hK8; try clear K8
  refine D_seq fun K10 hK10 => ?_
  refine D_seq fun K11 hK11 => ?_
  refine D_region ?_
  refine DL_c (op_as _ (rfl : _ = AV.v (.int _ _))) ?_
  refine DL_nil (hK11 _ ?_)
  clear hK11; try clear K11
  refine D_block ?_
  refine D_loopL (α := Nat × List Nat) (fun z => LinN k (cl E) z.2) 98 [(2, _), (7, _), (8, _)] [((8, 0), _)] (fun z => [(10, .v (.int .i64 (z.1 : Int))), (9, .sl k (isl (nl z.2)))]) (fun z => []) [] [] (fun z => 10 - z.1) (0, lin k (cl E) k) ?_ (by
    refine Le.mkJ [] [] rfl ?_ ?_ trivial trivial ?_
    · exact ⟨(iS rfl), (iF rfl), (iP rfl), (lvI (by first | rfl | omega | (simp; done) | (simp; omega) | assumption)), (lvSr (by first | rfl | omega | (simp; done) | (simp; omega) | assumption) (by first | rfl | omega | (simp; done) | (simp; omega) | assumption)), trivial⟩
    · exact ⟨(obE rfl rfl rfl), trivial⟩
    · kernel_rfl) ?_
  · exact lin_LinN hS
  intro z hz
  have hzl := hz.len
  refine D_seq fun K12 hK12 => ?_
  refine D_seq fun K13 hK13 => ?_
  refine D_region ?_
  refine DL_c (op_mv _ (rfl : _ = AV.v (.int _ _))) ?_
  refine DL_c (op_mv _ (rfl : _ = AV.sl _ _)) ?_
  refine DL_c (op_lenS _ inferInstance rfl) ?_
  first
    | refine DL_c (op_lss _ _ rfl rfl (by assumption)) ?_
    | refine DL_c (op_lss _ _ rfl rfl rfl) ?_
  refine DL_c (op_mv _ (rfl : _ = AV.v (.bool _))) ?_
  refine DL_caseC (fun hg37 => ?_) (fun hg37 => ?_)
  · skip
    refine DL_cy rfl rfl (op_mv _ (rfl : _ = AV.v (.int _ _))) ?_
    first
      | refine DL_cy rfl rfl (op_lss _ _ rfl rfl (by assumption)) ?_
      | refine DL_cy rfl rfl (op_lss _ _ rfl rfl rfl) ?_
    refine DL_c (op_pick _ _ _ rfl (rfl : _ = AV.v (.bool _))) ?_
    refine DL_c (op_mv _ (rfl : _ = AV.v (.bool _))) ?_
    refine DL_caseC (fun hg41 => ?_) (fun hg41 => ?_)
    · skip
      first
        | refine DL_cy rfl rfl (op_fldP _ inferInstance rfl rfl rfl) ?_
        | refine DL_cy rfl rfl (op_fldF _ inferInstance rfl rfl) ?_
      first
        | refine DL_cy rfl rfl (op_ldB _ inferInstance rfl rfl (rfl : _ = some (AV.v (.int _ _)))) ?_
        | refine DL_cy rfl rfl (op_ldR _ inferInstance rfl rfl (by first | rfl | exact isl_get _ _ (by omega) | exact bsl_get _ _ (by omega) | assumption | exact psl_get0 _ _ (by omega) | exact psl_get1 _ _ (by omega) | exact nsl_get _ _ (by omega)) rfl) ?_
      first
        | refine DL_cy rfl rfl (op_gtr _ _ rfl rfl (by assumption)) ?_
        | refine DL_cy rfl rfl (op_gtr _ _ rfl rfl rfl) ?_
      refine DL_c (op_pick _ _ _ rfl (rfl : _ = AV.v (.bool _))) ?_
      refine DL_nil (hK13 _ ?_)
      clear hK13; try clear K13
      refine D_splitC rfl (fun hc45 => ?_) (fun hc45 => ?_)
      · skip
        obtain ⟨j, hj⟩ := Int.eq_ofNat_of_zero_le (around_lo (x.getD z.1 0) ((k : Int) - 1) (by omega))
        have hj1 := around_hi (x.getD z.1 0) ((k : Int) - 1) (by omega)
        have har := around_spec (x.getD z.1 0) ((k : Int) - 1) (by omega) (by omega) (rng_at hxr (by omega)).1 (rng_at hxr (by omega)).2
        rw [hj] at hj1 har
        have hkey := swp_islin hz (show j + 1 < k by omega)
        rw [← nl_get, ← nl_get] at hkey
        have hwl : (nl z.2).length = k := by simp [hzl]
        have hswl : (swp (nl z.2) j).length = k := by simp [swp]; omega
        refine D_skip (hK12 _ ?_)
        clear hK12; try clear K12
        refine D_seq fun K14 hK14 => ?_
        refine D_block ?_
        refine D_seq fun K15 hK15 => ?_
        refine D_le (σ' := mkStI 98 [(2, _), (7, _), (8, _), (9, _), (10, _)] [((8, 0), _)] [] []) (by
          refine Le.mkJ [] [] rfl ?_ ?_ trivial trivial ?_
          · exact ⟨(iS rfl), (iF rfl), (iP rfl), (iS rfl), (iV rfl), trivial⟩
          · exact ⟨(obE rfl rfl rfl), trivial⟩
          · kernel_rfl) ?_
        refine D_anyL 9 [48, 49, 50, 51, 52, 53, 54, 55, 11] [] (by kernel_rfl) (by kernel_rfl) rfl (nodupO_iff rfl) (rfl : _ = [_, _, _, _, _, _, _, _, _]) (rfl : _ = []) ?_
        refine any_c (_, []) (fun τ => op_mv _ (rfl : _ = AV.sl _ _)) ?_
        refine any_n (rfl : _ = [_]) ?_
        refine any_c (_, []) (fun τ => op_mv _ (rfl : _ = AV.v (.int _ _))) ?_
        refine any_n (rfl : _ = [_, _]) ?_
        first
          | refine any_c (_, []) (fun τ => op_ixS _ _ inferInstance rfl rfl _ rfl (by omega) (by first | assumption | decide | (simp only [isl_len, bsl_len, psl_len, ws_len, mrows_len, nsl_len, List.length_map, nl_len]; omega) | (simp; done) | (simp; omega) | (simp [isl, bsl]; omega)) (by first | exact Nat.mul_one _ | rfl | omega)) ?_
          | refine any_c (_, []) (fun τ => op_ixS _ _ inferInstance rfl rfl (Int.toNat _) (Int.toNat_of_nonneg (by omega)).symm (by omega) (by first | assumption | decide | (simp only [isl_len, bsl_len, psl_len, ws_len, mrows_len, nsl_len, List.length_map, nl_len]; omega) | (simp; done) | (simp; omega) | (simp [isl, bsl]; omega)) (by first | exact Nat.mul_one _ | rfl | omega)) ?_
        refine any_n (rfl : _ = [_, _, _]) ?_
        refine any_c (_, []) (fun τ => op_ldF _ inferInstance rfl (by first | rfl | exact isl_get _ _ (by omega) | exact bsl_get _ _ (by omega) | assumption | exact psl_get0 _ _ (by omega) | exact psl_get1 _ _ (by omega) | exact nsl_get _ _ (by omega)) rfl) ?_
        refine any_n (rfl : _ = [_, _, _, _]) ?_
        first
          | refine any_c (_, []) (fun τ => op_fldP _ inferInstance rfl rfl rfl) ?_
          | refine any_c (_, []) (fun τ => op_fldF _ inferInstance rfl rfl) ?_
        refine any_n (rfl : _ = [_, _, _, _, _]) ?_
        first
          | refine any_c (_, []) (fun τ => op_ldB _ inferInstance rfl rfl (rfl : _ = some (AV.v (.int _ _)))) ?_
          | refine any_c (_, []) (fun τ => op_ldR _ inferInstance rfl rfl (by first | rfl | exact isl_get _ _ (by omega) | exact bsl_get _ _ (by omega) | assumption | exact psl_get0 _ _ (by omega) | exact psl_get1 _ _ (by omega) | exact nsl_get _ _ (by omega)) rfl) ?_
        refine any_n (rfl : _ = [_, _, _, _, _, _]) ?_
        first
          | refine any_c (_, []) (fun τ => op_sub _ _ rfl rfl (i64w (by omega))) ?_
          | refine any_c (_, []) (fun τ => op_sub _ _ rfl rfl rfl) ?_
        refine any_n (rfl : _ = [_, _, _, _, _, _, _]) ?_
        refine any_c (_, []) (fun τ => (op_callH inferInstance (by repeat' (first | exact argsLv_nil | refine argsLv_cons ?_ ?_ | exact Lv.v | exact Lv.sl | exact Lv.fp | exact Lv.nil | refine Lv.agg rfl ?_ | refine Lv.fn rfl ?_ rfl ?_ | exact lv_nil | refine lv_cons ?_ ?_ | exact Lv.z0)) (har) rfl rfl)) ?_
        refine any_n (rfl : _ = [_, _, _, _, _, _, _, _]) ?_
        refine any_c (_, []) (fun τ => op_as _ (rfl : _ = AV.v (.int _ _))) ?_
        refine any_n (rfl : _ = [_, _, _, _, _, _, _, _, _]) ?_
        refine any_end ⟨rfl, ?_⟩
        refine DL_nil (hK15 _ ?_)
        clear hK15; try clear K15
        refine D_seq fun K16 hK16 => ?_
        refine D_le (σ' := mkStI 98 [(2, _), (7, _), (8, _), (9, _), (10, _), (11, _)] [((8, 0), _)] [] []) (by
          refine Le.mkJ [] [] rfl ?_ ?_ trivial trivial ?_
          · exact ⟨(iS rfl), (iF rfl), (iP rfl), (iS rfl), (iV rfl), (iV rfl), trivial⟩
          · exact ⟨(obE rfl rfl rfl), trivial⟩
          · kernel_rfl) ?_
        refine D_anyL 12 [56, 57, 58, 59, 60, 61, 62, 63, 64, 65, 66, 12] [] (by kernel_rfl) (by kernel_rfl) rfl (nodupO_iff rfl) (rfl : _ = [_, _, _, _, _, _, _, _, _, _, _, _]) (rfl : _ = []) ?_
        refine any_c (_, []) (fun τ => op_mv _ (rfl : _ = AV.fp _ _)) ?_
        refine any_n (rfl : _ = [_]) ?_
        refine any_c (_, []) (fun τ => op_mv _ (rfl : _ = AV.sl _ _)) ?_
        refine any_n (rfl : _ = [_, _]) ?_
        refine any_c (_, []) (fun τ => op_mv _ (rfl : _ = AV.v (.int _ _))) ?_
        refine any_n (rfl : _ = [_, _, _]) ?_
        refine any_c (_, []) (fun τ => op_ixS _ _ inferInstance rfl rfl j rfl (by omega) (by simp; omega) (Nat.mul_one _)) ?_
        refine any_n (rfl : _ = [_, _, _, _]) ?_
        refine any_c (_, []) (fun τ => op_ldF _ inferInstance rfl (isl_get _ _ (by omega)) rfl) ?_
        refine any_n (rfl : _ = [_, _, _, _, _]) ?_
        refine any_c (_, []) (fun τ => op_mv _ (rfl : _ = AV.sl _ _)) ?_
        refine any_n (rfl : _ = [_, _, _, _, _, _]) ?_
        refine any_c (_, []) (fun τ => op_mv _ (rfl : _ = AV.v (.int _ _))) ?_
        refine any_n (rfl : _ = [_, _, _, _, _, _, _]) ?_
        first
          | refine any_c (_, []) (fun τ => op_add _ _ rfl rfl (i64w (by omega))) ?_
          | refine any_c (_, []) (fun τ => op_add _ _ rfl rfl rfl) ?_
        refine any_n (rfl : _ = [_, _, _, _, _, _, _, _]) ?_
        refine any_c (_, []) (fun τ => op_ixS _ _ inferInstance rfl rfl (j + 1) (by omega) (by omega) (by simp; omega) (Nat.mul_one _)) ?_
        refine any_n (rfl : _ = [_, _, _, _, _, _, _, _, _]) ?_
        refine any_c (_, []) (fun τ => op_ldF _ inferInstance rfl (isl_get _ _ (by omega)) rfl) ?_
        refine any_n (rfl : _ = [_, _, _, _, _, _, _, _, _, _]) ?_
        refine any_c (_, []) (fun τ => (op_callH inferInstance (by repeat' (first | exact argsLv_nil | refine argsLv_cons ?_ ?_ | exact Lv.v | exact Lv.sl | exact Lv.fp | exact Lv.nil | refine Lv.agg rfl ?_ | refine Lv.fn rfl ?_ rfl ?_ | exact lv_nil | refine lv_cons ?_ ?_ | exact Lv.z0)) (g.conc ((nl z.2).getD j 0) ((nl z.2).getD (j + 1) 0)) rfl rfl)) ?_
        refine any_n (rfl : _ = [_, _, _, _, _, _, _, _, _, _, _]) ?_
        refine any_c (_, []) (fun τ => op_as _ (rfl : _ = AV.v (.bool _))) ?_
        refine any_n (rfl : _ = [_, _, _, _, _, _, _, _, _, _, _, _]) ?_
        refine any_end ⟨rfl, ?_⟩
        refine DL_nil (hK16 _ ?_)
        clear hK16; try clear K16
        refine D_seq fun K17 hK17 => ?_
        refine D_region ?_
        refine DL_c (op_asN (13, 0) _ 3 1 rfl rfl) ?_
        refine DL_nil (hK17 _ ?_)
        clear hK17; try clear K17
        refine D_seq fun K18 hK18 => ?_
        refine D_region ?_
        refine DL_c (op_mv _ (rfl : _ = AV.ref _ _ _)) ?_
        refine DL_c (op_mv _ (rfl : _ = AV.sl _ _)) ?_
        refine DL_c (op_mv _ (rfl : _ = AV.v (.int _ _))) ?_
        refine DL_c (op_slS _ _ _ inferInstance rfl 0 _ .dflt (.lit rfl rfl) (by omega) (by omega) (by first | exact isl_pre _ _ | exact psl_pre _ _ | exact bsl_pre _ _) (Nat.sub_zero _)) ?_
        refine DL_c (op_ap (71, 0) _ _ inferInstance rfl rfl rfl (.sl (by simp; omega)) (by omega) rfl rfl rfl) ?_
        refine DL_c (op_as _ (rfl : _ = AV.ref _ _ _)) ?_
        refine DL_nil (hK18 _ ?_)
        clear hK18; try clear K18
        refine D_seq fun K19 hK19 => ?_
        refine D_le (σ' := mkStI 98 [(2, _), (7, _), (8, _), (9, _), (10, _), (11, _), (12, _), (13, _)] [((8, 0), _), ((71, 0), _)] [] []) (by
          refine Le.mkJ [] [] rfl ?_ ?_ trivial trivial ?_
          · exact ⟨(iS rfl), (iF rfl), (iP rfl), (iS rfl), (iV rfl), (iV rfl), (iV rfl), (iR rfl), trivial⟩
          · exact ⟨(obE rfl rfl rfl), (obE rfl rfl rfl), trivial⟩
          · kernel_rfl) ?_
        refine D_anyL 11 [72, 73, 74, 75, 76, 77, 78, 79, 80, 81, 82] [] (by kernel_rfl) (by kernel_rfl) rfl (nodupO_iff rfl) (rfl : _ = [_, _, _, _, _, _, _, _, _, _, _]) (rfl : _ = [_, _]) ?_
        refine any_c (_, []) (fun τ => op_mv _ (rfl : _ = AV.ref _ _ _)) ?_
        refine any_n (rfl : _ = [_]) ?_
        refine any_c (_, []) (fun τ => op_mv _ (rfl : _ = AV.sl _ _)) ?_
        refine any_n (rfl : _ = [_, _]) ?_
        refine any_c (_, []) (fun τ => op_mv _ (rfl : _ = AV.v (.int _ _))) ?_
        refine any_n (rfl : _ = [_, _, _]) ?_
        first
          | refine any_c (_, []) (fun τ => op_add _ _ rfl rfl (i64w (by omega))) ?_
          | refine any_c (_, []) (fun τ => op_add _ _ rfl rfl rfl) ?_
        refine any_n (rfl : _ = [_, _, _, _]) ?_
        refine any_c (_, []) (fun τ => op_ixS _ _ inferInstance rfl rfl (j + 1) (by omega) (by omega) (by simp; omega) (Nat.mul_one _)) ?_
        refine any_n (rfl : _ = [_, _, _, _, _]) ?_
        refine any_c (_, []) (fun τ => op_ldF _ inferInstance rfl (isl_get _ _ (by omega)) rfl) ?_
        refine any_n (rfl : _ = [_, _, _, _, _, _]) ?_
        refine any_c (_, []) (fun τ => op_mv _ (rfl : _ = AV.sl _ _)) ?_
        refine any_n (rfl : _ = [_, _, _, _, _, _, _]) ?_
        refine any_c (_, []) (fun τ => op_mv _ (rfl : _ = AV.v (.int _ _))) ?_
        refine any_n (rfl : _ = [_, _, _, _, _, _, _, _]) ?_
        refine any_c (_, []) (fun τ => op_ixS _ _ inferInstance rfl rfl j rfl (by omega) (by simp; omega) (Nat.mul_one _)) ?_
        refine any_n (rfl : _ = [_, _, _, _, _, _, _, _, _]) ?_
        refine any_c (_, []) (fun τ => op_ldF _ inferInstance rfl (isl_get _ _ (by omega)) rfl) ?_
        refine any_n (rfl : _ = [_, _, _, _, _, _, _, _, _, _]) ?_
        refine any_c (_, []) (fun τ => op_bsF _ _ inferInstance rfl (by rfl) (by simp <;> rfl) (by decide) rfl) ?_
        refine any_n (rfl : _ = [_, _, _, _, _, _, _, _, _, _, _]) ?_
        refine any_end ⟨rfl, ?_⟩
        refine DL_c (op_ap (83, 0) _ _ inferInstance rfl rfl (by first | rfl | omega | (simp only [isl_len, bsl_len, psl_len, ws_len, mrows_len, nsl_len, List.length_map, nl_len]; omega) | (simp; done) | (simp; omega)) (by first | exact .nil | (refine .sl ?_; first | (simp [isl]; done) | (simp [isl]; omega)) | (refine .ref rfl rfl ?_; first | (simp; done) | (simp; omega))) (by omega) rfl (rfl) (rfl)) ?_
        refine DL_c (op_as _ (rfl : _ = AV.ref _ _ _)) ?_
        refine DL_nil (hK19 _ ?_)
        clear hK19; try clear K19
        refine D_seq fun K20 hK20 => ?_
        refine D_region ?_
        refine DL_c (op_mv _ (rfl : _ = AV.ref _ _ _)) ?_
        refine DL_c (op_mv _ (rfl : _ = AV.sl _ _)) ?_
        refine DL_c (op_mv _ (rfl : _ = AV.v (.int _ _))) ?_
        first
          | refine DL_c (op_add _ _ rfl rfl (i64w (by omega))) ?_
          | refine DL_c (op_add _ _ rfl rfl rfl) ?_
        refine DL_c (op_slS _ _ _ inferInstance rfl (j + 2) k (.lit rfl (by omega)) .dflt (by omega) (by omega) (isl_suf _ _ _ (by omega)) rfl) ?_
        refine DL_c (op_ap (89, 0) _ _ inferInstance rfl rfl (by simp; omega) (.sl (by simp; omega)) (by omega) rfl (by exact swp_cells (nl z.2) j) (show 0 + j + 2 + (k - (j + 2)) = k by omega)) ?_
        refine DL_c (op_as _ (rfl : _ = AV.ref _ _ _)) ?_
        refine DL_nil (hK20 _ ?_)
        clear hK20; try clear K20
        refine D_seq fun K21 hK21 => ?_
        refine D_seq fun K22 hK22 => ?_
        refine D_le (σ' := mkStI 98 [(2, _), (7, _), (8, _), (9, _), (10, _), (12, _), (13, _)] [((8, 0), _), ((89, 0), _)] [] []) (by
          refine Le.mkJ [] [] rfl ?_ ?_ trivial trivial ?_
          · exact ⟨(iS rfl), (iF rfl), (iP rfl), (iS rfl), (iV rfl), (iV rfl), (iR rfl), trivial⟩
          · exact ⟨(obE rfl rfl rfl), (obE rfl rfl rfl), trivial⟩
          · kernel_rfl) ?_
        refine D_region ?_
        refine DL_c (op_mv _ (rfl : _ = AV.fp _ _)) ?_
        refine DL_c (op_mv _ (rfl : _ = AV.ref _ _ _)) ?_
        refine DL_c (op_callBH inferInstance (by repeat' (first | exact argsLv_nil | refine argsLv_cons ?_ ?_ | exact Lv.v | exact Lv.sl | exact Lv.fp | exact Lv.nil | refine Lv.agg rfl ?_ | refine Lv.fn rfl ?_ rfl ?_ | exact lv_nil | refine lv_cons ?_ ?_ | (refine frz0 rfl rfl ?_ rfl; first | (simp; done) | (simp; omega) | omega) | exact Lv.frzP rfl rfl rfl)) (g.isl k (swp (nl z.2) j) hswl (by omega)) rfl) ?_
        refine DL_c (op_mv _ (rfl : _ = AV.v (.bool _))) ?_
        refine DL_c (op_neB (r := false) _ _ rfl rfl Try.underlying4 (by rw [hkey]; simp)) ?_
        refine DL_nil (hK22 _ ?_)
        clear hK22; try clear K22
        refine D_cF rfl rfl ?_
        refine D_skip (hK21 _ ?_)
        clear hK21; try clear K21
        refine D_seq fun K23 hK23 => ?_
        refine D_region ?_
        refine DL_c (op_mv _ (rfl : _ = AV.v (.bool _))) ?_
        refine DL_nil (hK23 _ ?_)
        clear hK23; try clear K23
        refine D_splitC rfl (fun hc95 => ?_) (fun hc95 => ?_)
        · skip
          refine D_le (Le.frzS (ys := isl (swp (nl z.2) j)) 13 rfl rfl rfl (by rw [List.drop_zero]; exact List.take_of_length_le (by simp; omega)) (by simp; omega)) ?_
          refine D_region ?_
          refine DL_c (op_mv _ (rfl : _ = AV.sl _ _)) ?_
          refine DL_c (op_as _ (rfl : _ = AV.sl _ _)) ?_
          refine DL_nil (hK14 _ ?_)
          clear hK14; try clear K14
          refine D_region ?_
          refine DL_c (op_mv _ (rfl : _ = AV.v (.int _ _))) ?_
          first
            | refine DL_c (op_add _ _ rfl rfl (i64w (by omega))) ?_
            | refine DL_c (op_add _ _ rfl rfl rfl) ?_
          refine DL_c (op_as _ (rfl : _ = AV.v (.int _ _))) ?_
          refine DL_nil ?_
          refine ⟨(z.1 + 1, swN z.2 j), ?_, ?_, ?_⟩
          · exact swN_lin (hkey.trans hc95)
          · skip
            refine Le.mkJ [] [] rfl ?_ ?_ trivial trivial ?_
            · exact ⟨(iS rfl), (iF rfl), (iP rfl), (lvI (by first | rfl | omega | (rw [swp_nl]) | (simp; done) | (simp; omega) | assumption)), (lvSr (by first | rfl | omega | (rw [swp_nl]) | (simp; done) | (simp; omega) | assumption) (by first | rfl | omega | (rw [swp_nl]) | (simp; done) | (simp; omega) | assumption)), trivial⟩
            · exact ⟨(obE rfl rfl rfl), trivial⟩
            · kernel_rfl
          · simp only; omega
        · skip
          refine D_skip (hK14 _ ?_)
          clear hK14; try clear K14
          refine D_region ?_
          refine DL_c (op_mv _ (rfl : _ = AV.v (.int _ _))) ?_
          first
            | refine DL_c (op_add _ _ rfl rfl (i64w (by omega))) ?_
            | refine DL_c (op_add _ _ rfl rfl rfl) ?_
          refine DL_c (op_as _ (rfl : _ = AV.v (.int _ _))) ?_
          refine DL_nil ?_
          refine ⟨(z.1 + 1, z.2), ?_, ?_, ?_⟩
          · exact hz
          · skip
            refine Le.mkJ [] [] rfl ?_ ?_ trivial trivial ?_
            · exact ⟨(iS rfl), (iF rfl), (iP rfl), (lvI (by first | rfl | omega | (simp; done) | (simp; omega) | assumption)), (lvSr (by first | rfl | omega | (simp; done) | (simp; omega) | assumption) (by first | rfl | omega | (simp; done) | (simp; omega) | assumption)), trivial⟩
            · exact ⟨(obE rfl rfl rfl), trivial⟩
            · kernel_rfl
          · simp only; omega
      · skip
        refine D_exit ?_
        refine id (hK10 _ ?_)
        clear hK10; try clear K10
        refine D_seq fun K24 hK24 => ?_
        refine D_region ?_
        refine DL_c (op_callH inferInstance (by repeat' (first | exact argsLv_nil | refine argsLv_cons ?_ ?_ | exact Lv.v | exact Lv.sl | exact Lv.fp | exact Lv.nil | refine Lv.agg rfl ?_ | refine Lv.fn rfl ?_ rfl ?_ | exact lv_nil | refine lv_cons ?_ ?_ | exact Lv.z0)) (lives_spec) rfl rfl) ?_
        refine DL_c (op_as _ (rfl : _ = AV.v (.bool _))) ?_
        refine DL_nil (hK24 _ ?_)
        clear hK24; try clear K24
        refine D_ret ?_
        refine ret1 (.inr rfl) rfl (.tmp (rfl : _ = AV.v (.bool _))) (Le.out [] [] (lvB ?_) rfl rfl rfl trivial trivial)
        rfl
    · skip
      refine DL_cn rfl rfl (by decide) ?_
      refine DL_cn rfl rfl (by decide) ?_
      refine DL_cn rfl rfl (by decide) ?_
      refine DL_c (op_pick _ _ _ rfl (rfl : _ = AV.v (.bool _))) ?_
      refine DL_nil (hK13 _ ?_)
      clear hK13; try clear K13
      refine D_cF rfl rfl ?_
      refine D_exit ?_
      refine id (hK10 _ ?_)
      clear hK10; try clear K10
      refine D_seq fun K25 hK25 => ?_
      refine D_region ?_
      refine DL_c (op_callH inferInstance (by repeat' (first | exact argsLv_nil | refine argsLv_cons ?_ ?_ | exact Lv.v | exact Lv.sl | exact Lv.fp | exact Lv.nil | refine Lv.agg rfl ?_ | refine Lv.fn rfl ?_ rfl ?_ | exact lv_nil | refine lv_cons ?_ ?_ | exact Lv.z0)) (lives_spec) rfl rfl) ?_
      refine DL_c (op_as _ (rfl : _ = AV.v (.bool _))) ?_
      refine DL_nil (hK25 _ ?_)
      clear hK25; try clear K25
      refine D_ret ?_
      refine ret1 (.inr rfl) rfl (.tmp (rfl : _ = AV.v (.bool _))) (Le.out [] [] (lvB ?_) rfl rfl rfl trivial trivial)
      rfl
  · skip
    refine DL_cn rfl rfl (by decide) ?_
    refine DL_cn rfl rfl (by decide) ?_
    refine DL_c (op_pick _ _ _ rfl (rfl : _ = AV.v (.bool _))) ?_
    refine DL_c (op_mv _ (rfl : _ = AV.v (.bool _))) ?_
    refine DL_cn rfl rfl (by decide) ?_
    refine DL_cn rfl rfl (by decide) ?_
    refine DL_cn rfl rfl (by decide) ?_
    refine DL_c (op_pick _ _ _ rfl (rfl : _ = AV.v (.bool _))) ?_
    refine DL_nil (hK13 _ ?_)
    clear hK13; try clear K13
    refine D_cF rfl rfl ?_
    refine D_exit ?_
    refine id (hK10 _ ?_)
    clear hK10; try clear K10
    refine D_seq fun K26 hK26 => ?_
    refine D_region ?_
    refine DL_c (op_callH inferInstance (by repeat' (first | exact argsLv_nil | refine argsLv_cons ?_ ?_ | exact Lv.v | exact Lv.sl | exact Lv.fp | exact Lv.nil | refine Lv.agg rfl ?_ | refine Lv.fn rfl ?_ rfl ?_ | exact lv_nil | refine lv_cons ?_ ?_ | exact Lv.z0)) (lives_spec) rfl rfl) ?_
    refine DL_c (op_as _ (rfl : _ = AV.v (.bool _))) ?_
    refine DL_nil (hK26 _ ?_)
    clear hK26; try clear K26
    refine D_ret ?_
    refine ret1 (.inr rfl) rfl (.tmp (rfl : _ = AV.v (.bool _))) (Le.out [] [] (lvB ?_) rfl rfl rfl trivial trivial)
    rfl
theorem swaps_law (n : Int) (hn : -9223372036854775808 ≤ n ∧ n ≤ 9223372036854775807) (m : Nat) (l : List Int) (hm : l.length = m) (h1 : m ≤ 4611686018427387904) (hr : Rng l) (mx : Nat) (x : List Int) (hx : x.length = mx) (hx1 : mx ≤ 4611686018427387904) (hxr : Rng x) :
    Spec Try.prog 11 (inSt [.v (.int .i64 n), .sl m (isl l), .sl mx (isl x)] []) (outSt (.v (.bool true)) []) := by
  obtain ⟨k, E, g⟩ := Gen.of n hn m l hm h1 hr
  by_cases hC : Cyc k E
  · exact swaps_cyc n m l k E g hC mx x
  · exact swaps_ok n m l k E g hC mx x hx hx1 hxr
end Go.Proofs.Ytkbkmngbenohkaa
