/- The law VersionsTested by the machine. -/
import Derived.Test.YtkbkmngbenohkaaTeX0
import Derived.Test.YtkbkmngbenohkaaTeV7
set_option linter.unusedSimpArgs false
set_option linter.unusedVariables false
namespace Go.Proofs.Ytkbkmngbenohkaa
open Go.RowKit

theorem tested_law (m : Nat) (l : List Int) (hm : l.length = m) (h1 : m ≤ 4611686018427387904) (hr : Rng l) (ms : Nat) (s : List Int) (hms : s.length = ms) (h2 : ms ≤ 4611686018427387904) (hs : Rng s)
    (head which : Int) (hh0 : -9223372036854775808 ≤ head ∧ head ≤ 9223372036854775807) (hw0 : -9223372036854775808 ≤ which ∧ which ≤ 9223372036854775807) :
    Spec Try.prog 15 (inSt [.sl m (isl l), .sl ms (isl s), .v (.int .i64 head), .v (.int .i64 which)] []) (outSt (.v (.bool true)) []) := by
  have hP := par32_spec m l hm h1 hr
  have hN := par32_near l
  obtain ⟨hn1, hn2⟩ := prM_pos l
  have hPn := par32_len l
  generalize par32 l = Ps at hP hN hPn
  generalize prM l = n at hP hPn hn1 hn2
  have hG : GG n Ps := hPn ▸ hN.gg
  have hst := status32_len Ps s false
  have hSt := status_spec n Ps hG ms s hms h2 hs false
  rw [hPn] at hst
  generalize status32 Ps s false = st at hSt hst
  have hn64 : n ≤ 64 := by omega
  obtain ⟨h, hh⟩ := Int.eq_ofNat_of_zero_le (around_lo head n (by omega))
  have hhn : h < n := by have := around_hi head n (by omega); omega
  obtain ⟨v, hv⟩ := Int.eq_ofNat_of_zero_le (around_lo which n (by omega))
  have hvn : v < n := by have := around_hi which n (by omega); omega
  have hupl := upE_len Ps h
  have hvl := upE_len Ps v
  have hAl := minL_len n (edg Ps n 0) st (upE Ps h)
  have hBl := minL_len n (edg Ps n 0) (st.set v 0) (upE Ps h)
  have hA2 := fun i => minL_len2 n (edg Ps n 0) st (upE Ps h) i
  have hB2 := fun i => minL_len2 n (edg Ps n 0) (st.set v 0) (upE Ps h) i
  have hT := fun h2 => turned_tt hPn hn64 hst hvn h2 (upE Ps h)
  have hminh := minN_spec hG st hst h
  have hmint := minN_spec hG (st.set v 0) (by simpa using hst) h
  generalize hAL : minL n (edg Ps n 0) st (upE Ps h) = AL at hAl hA2 hT hminh
  generalize hBL : minL n (edg Ps n 0) (st.set v 0) (upE Ps h) = BL at hBl hB2 hT hmint
  refine Spec.ofN Try.func15 rfl Try.ntmps15 rfl ?_
  refine D_seq fun K1 hK1 => ?_
  refine D_region ?_
  refine DL_c (op_as _ (rfl : _ = AV.v (.bool _))) ?_
  refine DL_nil (hK1 _ ?_)
  clear hK1; try clear K1
  refine D_seq fun K2 hK2 => ?_
  refine D_region ?_
  refine DL_c (op_mv _ (rfl : _ = AV.sl _ _)) ?_
  refine DL_c (op_callH inferInstance (by repeat' (first | exact argsLv_nil | refine argsLv_cons ?_ ?_ | exact Lv.v | exact lvI (by omega) | exact Lv.sl | exact Lv.fp | exact Lv.nil | refine Lv.agg rfl ?_ | refine Lv.fn rfl ?_ rfl ?_ | exact lv_nil | refine lv_cons ?_ ?_ | exact Lv.z0)) (hP) rfl rfl) ?_
  refine DL_c (op_as _ (rfl : _ = AV.sl _ _)) ?_
  refine DL_nil (hK2 _ ?_)
  clear hK2; try clear K2
  refine D_seq fun K3 hK3 => ?_
  refine D_region ?_
  refine DL_c (op_mv _ (rfl : _ = AV.sl _ _)) ?_
  refine DL_c (op_mv _ (rfl : _ = AV.sl _ _)) ?_
  refine DL_c (op_callH inferInstance (by repeat' (first | exact argsLv_nil | refine argsLv_cons ?_ ?_ | exact Lv.v | exact lvI (by omega) | exact Lv.sl | exact Lv.fp | exact Lv.nil | refine Lv.agg rfl ?_ | refine Lv.fn rfl ?_ rfl ?_ | exact lv_nil | refine lv_cons ?_ ?_ | exact Lv.z0)) (hSt) rfl rfl) ?_
  refine DL_c (op_as _ (rfl : _ = AV.sl _ _)) ?_
  refine DL_nil (hK3 _ ?_)
  clear hK3; try clear K3
  refine D_seq fun K4 hK4 => ?_
  refine D_region ?_
  refine DL_c (op_mv _ (rfl : _ = AV.sl _ _)) ?_
  refine DL_c (op_callH inferInstance (by repeat' (first | exact argsLv_nil | refine argsLv_cons ?_ ?_ | exact Lv.v | exact lvI (by omega) | exact Lv.sl | exact Lv.fp | exact Lv.nil | refine Lv.agg rfl ?_ | refine Lv.fn rfl ?_ rfl ?_ | exact lv_nil | refine lv_cons ?_ ?_ | exact Lv.z0)) (newN_spec hN hPn) rfl rfl) ?_
  refine DL_c (op_mv _ (rfl : _ = AV.tup _)) ?_
  first
    | refine DL_c (op_ext _ rfl (rfl : _ = some (AV.ptr _ _))) ?_
    | refine DL_c (op_ext _ rfl (rfl : _ = some (AV.fp _ _))) ?_
    | refine DL_c (op_ext _ rfl (rfl : _ = some (AV.v (.pointer _)))) ?_
  refine DL_c (op_ext _ rfl (rfl : _ = some (AV.v (.int _ _)))) ?_
  refine DL_c (op_as _ (rfl : _ = AV.fp _ _)) ?_
  refine DL_c (op_as _ (rfl : _ = AV.v (.int _ _))) ?_
  refine DL_nil (hK4 _ ?_)
  clear hK4; try clear K4
  refine D_seq fun K5 hK5 => ?_
  refine D_seq fun K6 hK6 => ?_
  refine D_le (σ' := mkStI 180 [(2, _), (3, _), (9, _), (10, _), (11, _), (12, _)] [] [] []) (by
    refine Le.mkJ [] [] rfl ?_ ?_ trivial trivial ?_
    · exact ⟨(iV rfl), (iV rfl), (iS rfl), (iS rfl), (iF rfl), (iV rfl), trivial⟩
    · exact trivial
    · kernel_rfl) ?_
  refine D_region ?_
  refine DL_c (op_mv _ (rfl : _ = AV.fp _ _)) ?_
  refine DL_c (op_eqN _ _ (by kernel_rfl) (.inr ⟨_, _, rfl⟩) rfl) ?_
  refine DL_c (op_mv _ (rfl : _ = AV.v (.bool _))) ?_
  refine DL_cy rfl rfl (op_mv _ (rfl : _ = AV.v (.int _ _))) ?_
  refine DL_cy rfl rfl (op_neq (r := false) _ _ rfl rfl rfl) ?_
  refine DL_c (op_pick _ _ _ rfl (rfl : _ = AV.v (.bool _))) ?_
  refine DL_nil (hK6 _ ?_)
  clear hK6; try clear K6
  refine D_cF rfl rfl ?_
  refine D_skip (hK5 _ ?_)
  clear hK5; try clear K5
  refine D_seq fun K7 hK7 => ?_
  refine D_region ?_
  refine DL_c (op_mv _ (rfl : _ = AV.v (.int _ _))) ?_
  refine DL_c (op_mv _ (rfl : _ = AV.sl _ _)) ?_
  refine DL_c (op_lenS _ inferInstance rfl) ?_
  refine DL_c (op_callH inferInstance (by repeat' (first | exact argsLv_nil | refine argsLv_cons ?_ ?_ | exact Lv.v | exact lvI (by omega) | exact Lv.sl | exact Lv.fp | exact Lv.nil | refine Lv.agg rfl ?_ | refine Lv.fn rfl ?_ rfl ?_ | exact lv_nil | refine lv_cons ?_ ?_ | exact Lv.z0)) (hh ▸ around_spec head n (by omega) (by omega) hh0.1 hh0.2) rfl rfl) ?_
  refine DL_c (op_as _ (rfl : _ = AV.v (.int _ _))) ?_
  refine DL_nil (hK7 _ ?_)
  clear hK7; try clear K7
  refine D_seq fun K8 hK8 => ?_
  refine D_region ?_
  refine DL_c (op_mv _ (rfl : _ = AV.v (.int _ _))) ?_
  refine DL_c (op_mv _ (rfl : _ = AV.sl _ _)) ?_
  refine DL_c (op_lenS _ inferInstance rfl) ?_
  refine DL_c (op_callH inferInstance (by repeat' (first | exact argsLv_nil | refine argsLv_cons ?_ ?_ | exact Lv.v | exact lvI (by omega) | exact Lv.sl | exact Lv.fp | exact Lv.nil | refine Lv.agg rfl ?_ | refine Lv.fn rfl ?_ rfl ?_ | exact lv_nil | refine lv_cons ?_ ?_ | exact Lv.z0)) (hv ▸ around_spec which n (by omega) (by omega) hw0.1 hw0.2) rfl rfl) ?_
  refine DL_c (op_as _ (rfl : _ = AV.v (.int _ _))) ?_
  refine DL_nil (hK8 _ ?_)
  clear hK8; try clear K8
  refine D_seq fun K9 hK9 => ?_
  refine D_seq fun K10 hK10 => ?_
  refine D_le (σ' := mkStI 180 [(10, _), (11, _), (13, _), (14, _)] [] [] []) (by
    refine Le.mkJ [] [] rfl ?_ ?_ trivial trivial ?_
    · exact ⟨(iS rfl), (iF rfl), (iV rfl), (iV rfl), trivial⟩
    · exact trivial
    · kernel_rfl) ?_
  refine D_region ?_
  refine DL_c (op_mv _ (rfl : _ = AV.sl _ _)) ?_
  refine DL_c (op_mv _ (rfl : _ = AV.v (.int _ _))) ?_
  refine DL_c (op_ixS _ _ inferInstance rfl rfl v rfl (by omega) (by simp; omega) (Nat.mul_one _)) ?_
  refine DL_c (op_ldF _ inferInstance rfl (by first | rfl | exact isl_get _ _ (by omega) | exact bsl_get _ _ (by omega) | assumption | exact isl_get _ _ (by omega) | exact nsl_get _ _ (by omega) | exact nrows_get _ _ (by omega) | exact blR_get0 _ _ (by omega) | exact blR_get1 _ _ (by omega)) rfl) ?_
  first
    | refine DL_c (op_neq _ _ rfl rfl (by assumption)) ?_
    | refine DL_c (op_neq _ _ rfl rfl rfl) ?_
  refine DL_nil (hK10 _ ?_)
  clear hK10; try clear K10
  refine D_splitC rfl (fun hc50 => ?_) (fun hc50 => ?_)
  · skip
    refine D_seq fun K11 hK11 => ?_
    refine D_region ?_
    refine DL_c (op_callH inferInstance (by repeat' (first | exact argsLv_nil | refine argsLv_cons ?_ ?_ | exact Lv.v | exact lvI (by omega) | exact Lv.sl | exact Lv.fp | exact Lv.nil | refine Lv.agg rfl ?_ | refine Lv.fn rfl ?_ rfl ?_ | exact lv_nil | refine lv_cons ?_ ?_ | exact Lv.z0)) (livesv_spec) rfl rfl) ?_
    refine DL_c (op_as _ (rfl : _ = AV.v (.bool _))) ?_
    refine DL_nil (hK11 _ ?_)
    clear hK11; try clear K11
    refine D_ret ?_
    refine ret1 (.inr rfl) rfl (.tmp (rfl : _ = AV.v (.bool _))) (Le.out [] [] (lvB ?_) rfl rfl rfl trivial trivial)
    rfl
  · skip
    have hTT := hT (by omega)
    have hlen := hTT.len
    refine D_skip (hK9 _ ?_)
    clear hK9; try clear K9
    refine D_seq fun K12 hK12 => ?_
    refine D_region ?_
    refine DL_c (op_bs (52, 0) _ _ inferInstance rfl (by rfl) (by simp <;> rfl) (by decide) rfl rfl) ?_
    refine DL_c (op_mv _ (rfl : _ = AV.sl _ _)) ?_
    refine DL_c (op_ap (54, 0) _ _ inferInstance rfl rfl (by rfl) (.sl (by simp; omega)) (by omega) rfl rfl (Nat.zero_add n)) ?_
    refine DL_c (op_as _ (rfl : _ = AV.ref _ _ _)) ?_
    refine DL_nil (hK12 _ ?_)
    clear hK12; try clear K12
    refine D_seq fun K13 hK13 => ?_
    refine D_region ?_
    refine DL_c (op_mv _ (rfl : _ = AV.ref _ _ _)) ?_
    refine DL_c (op_mv _ (rfl : _ = AV.v (.int _ _))) ?_
    refine DL_c (op_ixR _ _ inferInstance rfl rfl rfl v rfl (by omega) (by exact (Nat.zero_add _).trans (Nat.mul_one _))) ?_
    refine DL_c (op_stR _ _ inferInstance rfl rfl rfl rfl rfl (by simp; omega) (isl_put _ _ _ (by omega))) ?_
    refine DL_nil (hK13 _ ?_)
    clear hK13; try clear K13
    refine D_seq fun K14 hK14 => ?_
    refine D_region ?_
    refine DL_c (op_mv _ (rfl : _ = AV.fp _ _)) ?_
    refine DL_c (op_mv _ (rfl : _ = AV.v (.int _ _))) ?_
    refine DL_c (op_mv _ (rfl : _ = AV.sl _ _)) ?_
    refine DL_c (op_callH inferInstance (by repeat' (first | exact argsLv_nil | refine argsLv_cons ?_ ?_ | exact Lv.v | exact lvI (by omega) | exact Lv.sl | exact Lv.fp | exact Lv.nil | refine Lv.agg rfl ?_ | refine Lv.fn rfl ?_ rfl ?_ | exact lv_nil | refine lv_cons ?_ ?_ | exact Lv.z0)) (hminh) rfl rfl) ?_
    refine DL_c (op_as _ (rfl : _ = AV.sl _ _)) ?_
    refine DL_nil (hK14 _ ?_)
    clear hK14; try clear K14
    refine D_seq fun K15 hK15 => ?_
    refine D_le (Le.frzS (ys := isl (st.set v 0)) 15 rfl rfl rfl (by rw [List.drop_zero, Nat.mul_one]; exact List.take_of_length_le (by rw [isl_len, List.length_set]; omega)) (by rw [isl_len, List.length_set]; omega)) ?_
    refine D_region ?_
    refine DL_c (op_mv _ (rfl : _ = AV.fp _ _)) ?_
    refine DL_c (op_mv _ (rfl : _ = AV.v (.int _ _))) ?_
    refine DL_c (op_mv _ (rfl : _ = AV.sl _ _)) ?_
    refine DL_c (op_callH inferInstance (by repeat' (first | exact argsLv_nil | refine argsLv_cons ?_ ?_ | exact Lv.v | exact lvI (by omega) | exact Lv.sl | exact Lv.fp | exact Lv.nil | refine Lv.agg rfl ?_ | refine Lv.fn rfl ?_ rfl ?_ | exact lv_nil | refine lv_cons ?_ ?_ | exact Lv.z0)) (hmint) rfl rfl) ?_
    refine DL_c (op_as _ (rfl : _ = AV.sl _ _)) ?_
    refine DL_nil (hK15 _ ?_)
    clear hK15; try clear K15
    refine D_seq fun K16 hK16 => ?_
    refine D_seq fun K17 hK17 => ?_
    refine D_le (σ' := mkStI 180 [(11, _), (14, _), (16, _), (17, _)] [] [] []) (by
      refine Le.mkJ [] [] rfl ?_ ?_ trivial trivial ?_
      · exact ⟨(iF rfl), (iV rfl), (iS rfl), (iS rfl), trivial⟩
      · exact trivial
      · kernel_rfl) ?_
    refine D_region ?_
    refine DL_c (op_mv _ (rfl : _ = AV.sl _ _)) ?_
    refine DL_c (op_lenS _ inferInstance rfl) ?_
    refine DL_c (op_mv _ (rfl : _ = AV.sl _ _)) ?_
    refine DL_c (op_lenS _ inferInstance rfl) ?_
    first
      | refine DL_c (op_neq _ _ rfl rfl (by assumption)) ?_
      | refine DL_c (op_neq _ _ rfl rfl rfl) ?_
    refine DL_nil (hK17 _ ?_)
    clear hK17; try clear K17
    refine D_splitC rfl (fun hc70 => ?_) (fun hc70 => ?_)
    · skip
      exact absurd  hc70 (by omega)
    · skip
      refine D_skip (hK16 _ ?_)
      clear hK16; try clear K16
      refine D_seq fun K18 hK18 => ?_
      refine D_seq fun K19 hK19 => ?_
      refine D_region ?_
      refine DL_c (op_as _ (rfl : _ = AV.v (.int _ _))) ?_
      refine DL_nil (hK19 _ ?_)
      clear hK19; try clear K19
      refine D_block ?_
      refine D_loopL (α := Nat) (fun i => i ≤ AL.length) 180 [(11, _), (14, _), (16, _), (17, _)] [] (fun i => [(18, .v (.int .i64 (i : Int)))]) (fun i => []) [] [] (fun i => AL.length - i) 0 ?_ (by
        refine Le.mkJ [] [] rfl ?_ ?_ trivial trivial ?_
        · exact ⟨(iF rfl), (iV rfl), (iS rfl), (iS rfl), (lvI (by first | rfl | omega | (simp; done) | (simp; omega) | assumption)), trivial⟩
        · exact trivial
        · kernel_rfl) ?_
      · first | omega | trivial | exact ⟨by omega, by omega⟩
      intro i hi
      refine D_seq fun K20 hK20 => ?_
      refine D_seq fun K21 hK21 => ?_
      refine D_region ?_
      refine DL_c (op_mv _ (rfl : _ = AV.v (.int _ _))) ?_
      refine DL_c (op_mv _ (rfl : _ = AV.sl _ _)) ?_
      refine DL_c (op_lenS _ inferInstance rfl) ?_
      first
        | refine DL_c (op_lss _ _ rfl rfl (by assumption)) ?_
        | refine DL_c (op_lss _ _ rfl rfl rfl) ?_
      refine DL_nil (hK21 _ ?_)
      clear hK21; try clear K21
      refine D_splitC rfl (fun hc74 => ?_) (fun hc74 => ?_)
      · skip
        have hfi := hTT.f i (by omega)
        have hno := hTT.no i (by omega)
        have hsub := hTT.sub i (by omega)
        have heq := hTT.eq i (by omega)
        have hup := hTT.up i (by omega)
        have ha2 := hA2 i
        have hb2 := hB2 i
        refine D_skip (hK20 _ ?_)
        clear hK20; try clear K20
        refine D_seq fun K22 hK22 => ?_
        refine D_block ?_
        refine D_seq fun K23 hK23 => ?_
        refine D_seq fun K24 hK24 => ?_
        refine D_le (σ' := mkStI 180 [(11, _), (14, _), (16, _), (17, _), (18, _)] [] [] []) (by
          refine Le.mkJ [] [] rfl ?_ ?_ trivial trivial ?_
          · exact ⟨(iF rfl), (iV rfl), (iS rfl), (iS rfl), (iV rfl), trivial⟩
          · exact trivial
          · kernel_rfl) ?_
        refine D_anyL 20 [77, 78, 79, 80, 81, 82, 83, 84, 85, 86, 87, 88, 89, 90, 91, 92, 93, 94, 95, 96] [] (by kernel_rfl) (by kernel_rfl) rfl (nodupO_iff rfl) (rfl : _ = [_, _, _, _, _, _, _, _, _, _, _, _, _, _, _, _, _, _, _, _]) (rfl : _ = []) ?_
        refine any_c (_, []) (fun τ => op_mv _ (rfl : _ = AV.sl _ _)) ?_
        refine any_n (rfl : _ = [_]) ?_
        refine any_c (_, []) (fun τ => op_mv _ (rfl : _ = AV.v (.int _ _))) ?_
        refine any_n (rfl : _ = [_, _]) ?_
        first
          | refine any_c (_, []) (fun τ => op_ixS _ _ inferInstance rfl rfl _ rfl (by omega) (by first | assumption | decide | (simp only [isl_len, bsl_len, psl_len, mrows_len, nsl_len, ws_len, List.length_map, ul_len, psl_len, isl_len, nrows_len, prL_len, blR_len, stK_len, inh1_len, st0_len, status32_len]; omega) | (simp; done) | (simp; omega) | (simp [isl, bsl]; omega)) (by first | exact Nat.mul_one _ | rfl | omega)) ?_
          | refine any_c (_, []) (fun τ => op_ixS _ _ inferInstance rfl rfl (Int.toNat _) (Int.toNat_of_nonneg (by omega)).symm (by omega) (by first | assumption | decide | (simp only [isl_len, bsl_len, psl_len, mrows_len, nsl_len, ws_len, List.length_map, ul_len, psl_len, isl_len, nrows_len, prL_len, blR_len, stK_len, inh1_len, st0_len, status32_len]; omega) | (simp; done) | (simp; omega) | (simp [isl, bsl]; omega)) (by first | exact Nat.mul_one _ | rfl | omega)) ?_
        refine any_n (rfl : _ = [_, _, _]) ?_
        first
          | refine any_c (_, []) (fun τ => op_fldP _ inferInstance rfl rfl rfl) ?_
          | refine any_c (_, []) (fun τ => op_fldF _ inferInstance rfl rfl) ?_
        refine any_n (rfl : _ = [_, _, _, _]) ?_
        refine any_c (_, []) (fun τ => op_ldF _ inferInstance rfl (by first | rfl | exact isl_get _ _ (by omega) | exact bsl_get _ _ (by omega) | assumption | exact isl_get _ _ (by omega) | exact nsl_get _ _ (by omega) | exact nrows_get _ _ (by omega) | exact blR_get0 _ _ (by omega) | exact blR_get1 _ _ (by omega)) rfl) ?_
        refine any_n (rfl : _ = [_, _, _, _, _]) ?_
        refine any_c (_, []) (fun τ => op_mv _ (rfl : _ = AV.sl _ _)) ?_
        refine any_n (rfl : _ = [_, _, _, _, _, _]) ?_
        refine any_c (_, []) (fun τ => op_mv _ (rfl : _ = AV.v (.int _ _))) ?_
        refine any_n (rfl : _ = [_, _, _, _, _, _, _]) ?_
        first
          | refine any_c (_, []) (fun τ => op_ixS _ _ inferInstance rfl rfl _ rfl (by omega) (by first | assumption | decide | (simp only [isl_len, bsl_len, psl_len, mrows_len, nsl_len, ws_len, List.length_map, ul_len, psl_len, isl_len, nrows_len, prL_len, blR_len, stK_len, inh1_len, st0_len, status32_len]; omega) | (simp; done) | (simp; omega) | (simp [isl, bsl]; omega)) (by first | exact Nat.mul_one _ | rfl | omega)) ?_
          | refine any_c (_, []) (fun τ => op_ixS _ _ inferInstance rfl rfl (Int.toNat _) (Int.toNat_of_nonneg (by omega)).symm (by omega) (by first | assumption | decide | (simp only [isl_len, bsl_len, psl_len, mrows_len, nsl_len, ws_len, List.length_map, ul_len, psl_len, isl_len, nrows_len, prL_len, blR_len, stK_len, inh1_len, st0_len, status32_len]; omega) | (simp; done) | (simp; omega) | (simp [isl, bsl]; omega)) (by first | exact Nat.mul_one _ | rfl | omega)) ?_
        refine any_n (rfl : _ = [_, _, _, _, _, _, _, _]) ?_
        first
          | refine any_c (_, []) (fun τ => op_fldP _ inferInstance rfl rfl rfl) ?_
          | refine any_c (_, []) (fun τ => op_fldF _ inferInstance rfl rfl) ?_
        refine any_n (rfl : _ = [_, _, _, _, _, _, _, _, _]) ?_
        refine any_c (_, []) (fun τ => op_ldF _ inferInstance rfl (by first | rfl | exact isl_get _ _ (by omega) | exact bsl_get _ _ (by omega) | assumption | exact isl_get _ _ (by omega) | exact nsl_get _ _ (by omega) | exact nrows_get _ _ (by omega) | exact blR_get0 _ _ (by omega) | exact blR_get1 _ _ (by omega)) rfl) ?_
        refine any_n (rfl : _ = [_, _, _, _, _, _, _, _, _, _]) ?_
        first
          | refine any_c (_, []) (fun τ => op_neq _ _ rfl rfl (by assumption)) ?_
          | refine any_c (_, []) (fun τ => op_neq _ _ rfl rfl rfl) ?_
        refine any_n (rfl : _ = [_, _, _, _, _, _, _, _, _, _, _]) ?_
        refine any_c (_, []) (fun τ => op_mv _ (rfl : _ = AV.v (.bool _))) ?_
        refine any_caseC (fun hg88 => ?_) (fun hg88 => ?_)
        · skip
          refine any_n (rfl : _ = [_, _, _, _, _, _, _, _, _, _, _, _]) ?_
          refine any_cn rfl (fun τ => rfl) (by decide) ?_
          refine any_n (rfl : _ = [_, _, _, _, _, _, _, _, _, _, _, _, _]) ?_
          refine any_cn rfl (fun τ => rfl) (by decide) ?_
          refine any_n (rfl : _ = [_, _, _, _, _, _, _, _, _, _, _, _, _, _]) ?_
          refine any_cn rfl (fun τ => rfl) (by decide) ?_
          refine any_n (rfl : _ = [_, _, _, _, _, _, _, _, _, _, _, _, _, _, _]) ?_
          refine any_cn rfl (fun τ => rfl) (by decide) ?_
          refine any_n (rfl : _ = [_, _, _, _, _, _, _, _, _, _, _, _, _, _, _, _]) ?_
          refine any_cn rfl (fun τ => rfl) (by decide) ?_
          refine any_n (rfl : _ = [_, _, _, _, _, _, _, _, _, _, _, _, _, _, _, _, _]) ?_
          refine any_cn rfl (fun τ => rfl) (by decide) ?_
          refine any_n (rfl : _ = [_, _, _, _, _, _, _, _, _, _, _, _, _, _, _, _, _, _]) ?_
          refine any_cn rfl (fun τ => rfl) (by decide) ?_
          refine any_n (rfl : _ = [_, _, _, _, _, _, _, _, _, _, _, _, _, _, _, _, _, _, _]) ?_
          refine any_c (_, []) (fun τ => op_pick _ _ _ rfl (rfl : _ = AV.v (.bool _))) ?_
          refine any_n (rfl : _ = [_, _, _, _, _, _, _, _, _, _, _, _, _, _, _, _, _, _, _, _]) ?_
          refine any_end ⟨rfl, ?_⟩
          refine DL_nil (hK24 _ ?_)
          clear hK24; try clear K24
          refine D_cT rfl rfl ?_
          refine D_seq fun K25 hK25 => ?_
          refine D_le (σ' := mkStI 180 [] [] [] []) (by
            refine Le.mkJ [] [] rfl ?_ ?_ trivial trivial ?_
            · exact trivial
            · exact trivial
            · kernel_rfl) ?_
          refine D_region ?_
          refine DL_c (op_as _ (rfl : _ = AV.v (.bool _))) ?_
          refine DL_nil (hK25 _ ?_)
          clear hK25; try clear K25
          refine D_ret ?_
          exact absurd hg88 (by omega)
        · skip
          refine any_n (rfl : _ = [_, _, _, _, _, _, _, _, _, _, _, _]) ?_
          refine any_cy (_, []) rfl (fun τ => rfl) (fun τ => op_mv _ (rfl : _ = AV.sl _ _)) ?_
          refine any_n (rfl : _ = [_, _, _, _, _, _, _, _, _, _, _, _, _]) ?_
          refine any_cy (_, []) rfl (fun τ => rfl) (fun τ => op_mv _ (rfl : _ = AV.v (.int _ _))) ?_
          refine any_n (rfl : _ = [_, _, _, _, _, _, _, _, _, _, _, _, _, _]) ?_
          first
            | refine any_cy (_, []) rfl (fun τ => rfl) (fun τ => op_ixS _ _ inferInstance rfl rfl _ rfl (by omega) (by first | assumption | decide | (simp only [isl_len, bsl_len, psl_len, mrows_len, nsl_len, ws_len, List.length_map, ul_len, psl_len, isl_len, nrows_len, prL_len, blR_len, stK_len, inh1_len, st0_len, status32_len]; omega) | (simp; done) | (simp; omega) | (simp [isl, bsl]; omega)) (by first | exact Nat.mul_one _ | rfl | omega)) ?_
            | refine any_cy (_, []) rfl (fun τ => rfl) (fun τ => op_ixS _ _ inferInstance rfl rfl (Int.toNat _) (Int.toNat_of_nonneg (by omega)).symm (by omega) (by first | assumption | decide | (simp only [isl_len, bsl_len, psl_len, mrows_len, nsl_len, ws_len, List.length_map, ul_len, psl_len, isl_len, nrows_len, prL_len, blR_len, stK_len, inh1_len, st0_len, status32_len]; omega) | (simp; done) | (simp; omega) | (simp [isl, bsl]; omega)) (by first | exact Nat.mul_one _ | rfl | omega)) ?_
          refine any_n (rfl : _ = [_, _, _, _, _, _, _, _, _, _, _, _, _, _, _]) ?_
          first
            | refine any_cy (_, []) rfl (fun τ => rfl) (fun τ => op_fldP _ inferInstance rfl rfl rfl) ?_
            | refine any_cy (_, []) rfl (fun τ => rfl) (fun τ => op_fldF _ inferInstance rfl rfl) ?_
          refine any_n (rfl : _ = [_, _, _, _, _, _, _, _, _, _, _, _, _, _, _, _]) ?_
          refine any_cy (_, []) rfl (fun τ => rfl) (fun τ => op_ldF _ inferInstance rfl (by first | rfl | exact isl_get _ _ (by omega) | exact bsl_get _ _ (by omega) | assumption | exact isl_get _ _ (by omega) | exact nsl_get _ _ (by omega) | exact nrows_get _ _ (by omega) | exact blR_get0 _ _ (by omega) | exact blR_get1 _ _ (by omega)) rfl) ?_
          refine any_n (rfl : _ = [_, _, _, _, _, _, _, _, _, _, _, _, _, _, _, _, _]) ?_
          refine any_cy (_, []) rfl (fun τ => rfl) (fun τ => op_mv _ (rfl : _ = AV.v (.int _ _))) ?_
          refine any_n (rfl : _ = [_, _, _, _, _, _, _, _, _, _, _, _, _, _, _, _, _, _]) ?_
          refine any_cy (_, []) rfl (fun τ => rfl) (fun τ => (op_callH inferInstance (by repeat' (first | exact argsLv_nil | refine argsLv_cons ?_ ?_ | exact Lv.v | exact lvI (by omega) | exact Lv.sl | exact Lv.fp | exact Lv.nil | refine Lv.agg rfl ?_ | refine Lv.fn rfl ?_ rfl ?_ | exact lv_nil | refine lv_cons ?_ ?_ | exact Lv.z0)) (hasNN_spec _ (BL.getD i (0, [])).2 v rfl (by omega)) rfl rfl)) ?_
          refine any_n (rfl : _ = [_, _, _, _, _, _, _, _, _, _, _, _, _, _, _, _, _, _, _]) ?_
          refine any_c (_, []) (fun τ => op_pick _ _ _ rfl (rfl : _ = AV.v (.bool _))) ?_
          refine any_n (rfl : _ = [_, _, _, _, _, _, _, _, _, _, _, _, _, _, _, _, _, _, _, _]) ?_
          refine any_end ⟨rfl, ?_⟩
          refine DL_nil (hK24 _ ?_)
          clear hK24; try clear K24
          refine D_splitC rfl (fun hc96 => ?_) (fun hc96 => ?_)
          · skip
            exact absurd  hc96 hno
          · skip
            refine D_skip (hK23 _ ?_)
            clear hK23; try clear K23
            refine D_seq fun K26 hK26 => ?_
            refine D_seq fun K27 hK27 => ?_
            refine D_le (σ' := mkStI 180 [(11, _), (14, _), (16, _), (17, _), (18, _)] [] [] []) (by
              refine Le.mkJ [] [] rfl ?_ ?_ trivial trivial ?_
              · exact ⟨(iF rfl), (iV rfl), (iS rfl), (iS rfl), (iV rfl), trivial⟩
              · exact trivial
              · kernel_rfl) ?_
            refine D_region ?_
            refine DL_c (op_as _ (rfl : _ = AV.v (.int _ _))) ?_
            refine DL_nil (hK27 _ ?_)
            clear hK27; try clear K27
            refine D_block ?_
            refine D_loopL (α := Nat) (fun j => j ≤ (BL.getD i (0, [])).2.length) 180 [(11, _), (14, _), (16, _), (17, _), (18, _)] [] (fun j => [(19, .v (.int .i64 (j : Int)))]) (fun j => []) [] [] (fun j => (BL.getD i (0, [])).2.length - j) 0 ?_ (by
              refine Le.mkJ [] [] rfl ?_ ?_ trivial trivial ?_
              · exact ⟨(iF rfl), (iV rfl), (iS rfl), (iS rfl), (iV rfl), (lvI (by first | rfl | omega | (simp; done) | (simp; omega) | assumption)), trivial⟩
              · exact trivial
              · kernel_rfl) ?_
            · first | omega | trivial | exact ⟨by omega, by omega⟩
            intro j hj
            refine D_seq fun K28 hK28 => ?_
            refine D_seq fun K29 hK29 => ?_
            refine D_region ?_
            refine DL_c (op_mv _ (rfl : _ = AV.v (.int _ _))) ?_
            refine DL_c (op_mv _ (rfl : _ = AV.sl _ _)) ?_
            refine DL_c (op_mv _ (rfl : _ = AV.v (.int _ _))) ?_
            first
              | refine DL_c (op_ixS _ _ inferInstance rfl rfl _ rfl (by omega) (by first | assumption | decide | (simp only [isl_len, bsl_len, psl_len, mrows_len, nsl_len, ws_len, List.length_map, ul_len, psl_len, isl_len, nrows_len, prL_len, blR_len, stK_len, inh1_len, st0_len, status32_len]; omega) | (simp; done) | (simp; omega) | (simp [isl, bsl]; omega)) (by first | exact Nat.mul_one _ | rfl | omega)) ?_
              | refine DL_c (op_ixS _ _ inferInstance rfl rfl (Int.toNat _) (Int.toNat_of_nonneg (by omega)).symm (by omega) (by first | assumption | decide | (simp only [isl_len, bsl_len, psl_len, mrows_len, nsl_len, ws_len, List.length_map, ul_len, psl_len, isl_len, nrows_len, prL_len, blR_len, stK_len, inh1_len, st0_len, status32_len]; omega) | (simp; done) | (simp; omega) | (simp [isl, bsl]; omega)) (by first | exact Nat.mul_one _ | rfl | omega)) ?_
            first
              | refine DL_c (op_fldP _ inferInstance rfl rfl rfl) ?_
              | refine DL_c (op_fldF _ inferInstance rfl rfl) ?_
            refine DL_c (op_ldF _ inferInstance rfl (by first | rfl | exact isl_get _ _ (by omega) | exact bsl_get _ _ (by omega) | assumption | exact isl_get _ _ (by omega) | exact nsl_get _ _ (by omega) | exact nrows_get _ _ (by omega) | exact blR_get0 _ _ (by omega) | exact blR_get1 _ _ (by omega)) rfl) ?_
            first
              | refine DL_c (op_lenS _ inferInstance rfl) ?_
              | refine DL_c (op_lenR _ inferInstance rfl rfl) ?_
              | refine DL_c (op_lenN _ inferInstance rfl) ?_
              | refine DL_c (op_lenB _ inferInstance rfl rfl) ?_
              | refine DL_c (op_lenZ _ inferInstance rfl) ?_
            first
              | refine DL_c (op_lss _ _ rfl rfl (by assumption)) ?_
              | refine DL_c (op_lss _ _ rfl rfl rfl) ?_
            refine DL_nil (hK29 _ ?_)
            clear hK29; try clear K29
            refine D_splitC rfl (fun hc104 => ?_) (fun hc104 => ?_)
            · skip
              have hjm := getD_mem (show j < (BL.getD i (0, [])).2.length by omega)
              refine D_skip (hK28 _ ?_)
              clear hK28; try clear K28
              refine D_seq fun K30 hK30 => ?_
              refine D_block ?_
              refine D_seq fun K31 hK31 => ?_
              refine D_le (σ' := mkStI 180 [(11, _), (14, _), (16, _), (17, _), (18, _), (19, _)] [] [] []) (by
                refine Le.mkJ [] [] rfl ?_ ?_ trivial trivial ?_
                · exact ⟨(iF rfl), (iV rfl), (iS rfl), (iS rfl), (iV rfl), (iV rfl), trivial⟩
                · exact trivial
                · kernel_rfl) ?_
              refine D_anyL 15 [107, 108, 109, 110, 111, 112, 113, 114, 115, 116, 117, 118, 119, 120, 121] [] (by kernel_rfl) (by kernel_rfl) rfl (nodupO_iff rfl) (rfl : _ = [_, _, _, _, _, _, _, _, _, _, _, _, _, _, _]) (rfl : _ = []) ?_
              refine any_c (_, []) (fun τ => op_mv _ (rfl : _ = AV.sl _ _)) ?_
              refine any_n (rfl : _ = [_]) ?_
              refine any_c (_, []) (fun τ => op_mv _ (rfl : _ = AV.v (.int _ _))) ?_
              refine any_n (rfl : _ = [_, _]) ?_
              first
                | refine any_c (_, []) (fun τ => op_ixS _ _ inferInstance rfl rfl _ rfl (by omega) (by first | assumption | decide | (simp only [isl_len, bsl_len, psl_len, mrows_len, nsl_len, ws_len, List.length_map, ul_len, psl_len, isl_len, nrows_len, prL_len, blR_len, stK_len, inh1_len, st0_len, status32_len]; omega) | (simp; done) | (simp; omega) | (simp [isl, bsl]; omega)) (by first | exact Nat.mul_one _ | rfl | omega)) ?_
                | refine any_c (_, []) (fun τ => op_ixS _ _ inferInstance rfl rfl (Int.toNat _) (Int.toNat_of_nonneg (by omega)).symm (by omega) (by first | assumption | decide | (simp only [isl_len, bsl_len, psl_len, mrows_len, nsl_len, ws_len, List.length_map, ul_len, psl_len, isl_len, nrows_len, prL_len, blR_len, stK_len, inh1_len, st0_len, status32_len]; omega) | (simp; done) | (simp; omega) | (simp [isl, bsl]; omega)) (by first | exact Nat.mul_one _ | rfl | omega)) ?_
              refine any_n (rfl : _ = [_, _, _]) ?_
              first
                | refine any_c (_, []) (fun τ => op_fldP _ inferInstance rfl rfl rfl) ?_
                | refine any_c (_, []) (fun τ => op_fldF _ inferInstance rfl rfl) ?_
              refine any_n (rfl : _ = [_, _, _, _]) ?_
              refine any_c (_, []) (fun τ => op_ldF _ inferInstance rfl (by first | rfl | exact isl_get _ _ (by omega) | exact bsl_get _ _ (by omega) | assumption | exact isl_get _ _ (by omega) | exact nsl_get _ _ (by omega) | exact nrows_get _ _ (by omega) | exact blR_get0 _ _ (by omega) | exact blR_get1 _ _ (by omega)) rfl) ?_
              refine any_n (rfl : _ = [_, _, _, _, _]) ?_
              refine any_c (_, []) (fun τ => op_mv _ (rfl : _ = AV.sl _ _)) ?_
              refine any_n (rfl : _ = [_, _, _, _, _, _]) ?_
              refine any_c (_, []) (fun τ => op_mv _ (rfl : _ = AV.v (.int _ _))) ?_
              refine any_n (rfl : _ = [_, _, _, _, _, _, _]) ?_
              first
                | refine any_c (_, []) (fun τ => op_ixS _ _ inferInstance rfl rfl _ rfl (by omega) (by first | assumption | decide | (simp only [isl_len, bsl_len, psl_len, mrows_len, nsl_len, ws_len, List.length_map, ul_len, psl_len, isl_len, nrows_len, prL_len, blR_len, stK_len, inh1_len, st0_len, status32_len]; omega) | (simp; done) | (simp; omega) | (simp [isl, bsl]; omega)) (by first | exact Nat.mul_one _ | rfl | omega)) ?_
                | refine any_c (_, []) (fun τ => op_ixS _ _ inferInstance rfl rfl (Int.toNat _) (Int.toNat_of_nonneg (by omega)).symm (by omega) (by first | assumption | decide | (simp only [isl_len, bsl_len, psl_len, mrows_len, nsl_len, ws_len, List.length_map, ul_len, psl_len, isl_len, nrows_len, prL_len, blR_len, stK_len, inh1_len, st0_len, status32_len]; omega) | (simp; done) | (simp; omega) | (simp [isl, bsl]; omega)) (by first | exact Nat.mul_one _ | rfl | omega)) ?_
              refine any_n (rfl : _ = [_, _, _, _, _, _, _, _]) ?_
              first
                | refine any_c (_, []) (fun τ => op_fldP _ inferInstance rfl rfl rfl) ?_
                | refine any_c (_, []) (fun τ => op_fldF _ inferInstance rfl rfl) ?_
              refine any_n (rfl : _ = [_, _, _, _, _, _, _, _, _]) ?_
              refine any_c (_, []) (fun τ => op_ldF _ inferInstance rfl (by first | rfl | exact isl_get _ _ (by omega) | exact bsl_get _ _ (by omega) | assumption | exact isl_get _ _ (by omega) | exact nsl_get _ _ (by omega) | exact nrows_get _ _ (by omega) | exact blR_get0 _ _ (by omega) | exact blR_get1 _ _ (by omega)) rfl) ?_
              refine any_n (rfl : _ = [_, _, _, _, _, _, _, _, _, _]) ?_
              refine any_c (_, []) (fun τ => op_mv _ (rfl : _ = AV.v (.int _ _))) ?_
              refine any_n (rfl : _ = [_, _, _, _, _, _, _, _, _, _, _]) ?_
              first
                | refine any_c (_, []) (fun τ => op_ixS _ _ inferInstance rfl rfl _ rfl (by omega) (by first | assumption | decide | (simp only [isl_len, bsl_len, psl_len, mrows_len, nsl_len, ws_len, List.length_map, ul_len, psl_len, isl_len, nrows_len, prL_len, blR_len, stK_len, inh1_len, st0_len, status32_len]; omega) | (simp; done) | (simp; omega) | (simp [isl, bsl]; omega)) (by first | exact Nat.mul_one _ | rfl | omega)) ?_
                | refine any_c (_, []) (fun τ => op_ixS _ _ inferInstance rfl rfl (Int.toNat _) (Int.toNat_of_nonneg (by omega)).symm (by omega) (by first | assumption | decide | (simp only [isl_len, bsl_len, psl_len, mrows_len, nsl_len, ws_len, List.length_map, ul_len, psl_len, isl_len, nrows_len, prL_len, blR_len, stK_len, inh1_len, st0_len, status32_len]; omega) | (simp; done) | (simp; omega) | (simp [isl, bsl]; omega)) (by first | exact Nat.mul_one _ | rfl | omega)) ?_
                | refine any_c (_, []) (fun τ => op_ixR _ _ inferInstance rfl rfl rfl _ rfl (by omega) (by first | exact (Nat.zero_add _).trans (Nat.mul_one _) | exact Nat.zero_add _ | rfl | omega)) ?_
                | refine any_c (_, []) (fun τ => op_ixR _ _ inferInstance rfl rfl rfl (Int.toNat _) (Int.toNat_of_nonneg (by omega)).symm (by omega) (by first | exact (Nat.zero_add _).trans (Nat.mul_one _) | exact Nat.zero_add _ | rfl | omega)) ?_
                | refine any_c (_, []) (fun τ => op_ixB _ _ inferInstance rfl rfl rfl _ rfl (by omega) (by first | exact (Nat.zero_add _).trans (Nat.mul_one _) | exact Nat.zero_add _ | rfl | omega)) ?_
                | refine any_c (_, []) (fun τ => op_ixB _ _ inferInstance rfl rfl rfl (Int.toNat _) (Int.toNat_of_nonneg (by omega)).symm (by omega) (by first | exact (Nat.zero_add _).trans (Nat.mul_one _) | exact Nat.zero_add _ | rfl | omega)) ?_
              refine any_n (rfl : _ = [_, _, _, _, _, _, _, _, _, _, _, _]) ?_
              first
                | refine any_c (_, []) (fun τ => op_ldB _ inferInstance rfl rfl (rfl : _ = some (AV.v (.int _ _)))) ?_
                | refine any_c (_, []) (fun τ => op_ldR _ inferInstance rfl rfl (by first | rfl | exact isl_get _ _ (by omega) | exact bsl_get _ _ (by omega) | assumption | exact isl_get _ _ (by omega) | exact nsl_get _ _ (by omega) | exact nrows_get _ _ (by omega) | exact blR_get0 _ _ (by omega) | exact blR_get1 _ _ (by omega)) rfl) ?_
                | refine any_c (_, []) (fun τ => op_ldF _ inferInstance rfl (by first | rfl | exact isl_get _ _ (by omega) | exact bsl_get _ _ (by omega) | assumption | exact isl_get _ _ (by omega) | exact nsl_get _ _ (by omega) | exact nrows_get _ _ (by omega) | exact blR_get0 _ _ (by omega) | exact blR_get1 _ _ (by omega)) rfl) ?_
              refine any_n (rfl : _ = [_, _, _, _, _, _, _, _, _, _, _, _, _]) ?_
              refine any_c (_, []) (fun τ => (op_callH inferInstance (by repeat' (first | exact argsLv_nil | refine argsLv_cons ?_ ?_ | exact Lv.v | exact lvI (by omega) | exact Lv.sl | exact Lv.fp | exact Lv.nil | refine Lv.agg rfl ?_ | refine Lv.fn rfl ?_ rfl ?_ | exact lv_nil | refine lv_cons ?_ ?_ | exact Lv.z0)) (hasNN_spec _ (AL.getD i (0, [])).2 ((BL.getD i (0, [])).2.getD j 0) rfl (by omega)) rfl rfl)) ?_
              refine any_n (rfl : _ = [_, _, _, _, _, _, _, _, _, _, _, _, _, _]) ?_
              refine any_c (_, []) (fun τ => op_not _ rfl rfl) ?_
              refine any_n (rfl : _ = [_, _, _, _, _, _, _, _, _, _, _, _, _, _, _]) ?_
              refine any_end ⟨rfl, ?_⟩
              refine DL_nil (hK31 _ ?_)
              clear hK31; try clear K31
              refine D_splitC rfl (fun hc121 => ?_) (fun hc121 => ?_)
              · skip
                exact absurd  hc121 (fun hx => hx (hsub _ hjm))
              · skip
                refine D_skip (hK30 _ ?_)
                clear hK30; try clear K30
                refine D_le (σ' := mkStI 180 [(11, _), (14, _), (16, _), (17, _), (18, _), (19, _)] [] [] []) (by
                  refine Le.mkJ [] [] rfl ?_ ?_ trivial trivial ?_
                  · exact ⟨(iF rfl), (iV rfl), (iS rfl), (iS rfl), (iV rfl), (iV rfl), trivial⟩
                  · exact trivial
                  · kernel_rfl) ?_
                refine D_region ?_
                refine DL_c (op_mv _ (rfl : _ = AV.v (.int _ _))) ?_
                first
                  | refine DL_c (op_add _ _ rfl rfl (i64w (by omega))) ?_
                  | refine DL_c (op_add _ _ rfl rfl rfl) ?_
                refine DL_c (op_as _ (rfl : _ = AV.v (.int _ _))) ?_
                refine DL_nil ?_
                refine ⟨j + 1, ?_, ?_, ?_⟩
                · first | omega | trivial | exact ⟨by omega, by omega⟩
                · skip
                  refine Le.mkJ [] [] rfl ?_ ?_ trivial trivial ?_
                  · exact ⟨(iF rfl), (iV rfl), (iS rfl), (iS rfl), (iV rfl), (lvI (by first | rfl | omega | (simp; done) | (simp; omega) | assumption)), trivial⟩
                  · exact trivial
                  · kernel_rfl
                · omega
            · skip
              refine D_exit ?_
              refine id (hK26 _ ?_)
              clear hK26; try clear K26
              refine D_seq fun K32 hK32 => ?_
              refine D_seq fun K33 hK33 => ?_
              refine D_le (σ' := mkStI 180 [(11, _), (14, _), (16, _), (17, _), (18, _)] [] [] []) (by
                refine Le.mkJ [] [] rfl ?_ ?_ trivial trivial ?_
                · exact ⟨(iF rfl), (iV rfl), (iS rfl), (iS rfl), (iV rfl), trivial⟩
                · exact trivial
                · kernel_rfl) ?_
              refine D_anyL 23 [122, 123, 124, 125, 126, 127, 128, 129, 130, 131, 132, 133, 134, 135, 136, 137, 138, 139, 140, 141, 142, 143, 144] [] (by kernel_rfl) (by kernel_rfl) rfl (nodupO_iff rfl) (rfl : _ = [_, _, _, _, _, _, _, _, _, _, _, _, _, _, _, _, _, _, _, _, _, _, _]) (rfl : _ = []) ?_
              refine any_c (_, []) (fun τ => op_mv _ (rfl : _ = AV.sl _ _)) ?_
              refine any_n (rfl : _ = [_]) ?_
              refine any_c (_, []) (fun τ => op_mv _ (rfl : _ = AV.v (.int _ _))) ?_
              refine any_n (rfl : _ = [_, _]) ?_
              first
                | refine any_c (_, []) (fun τ => op_ixS _ _ inferInstance rfl rfl _ rfl (by omega) (by first | assumption | decide | (simp only [isl_len, bsl_len, psl_len, mrows_len, nsl_len, ws_len, List.length_map, ul_len, psl_len, isl_len, nrows_len, prL_len, blR_len, stK_len, inh1_len, st0_len, status32_len]; omega) | (simp; done) | (simp; omega) | (simp [isl, bsl]; omega)) (by first | exact Nat.mul_one _ | rfl | omega)) ?_
                | refine any_c (_, []) (fun τ => op_ixS _ _ inferInstance rfl rfl (Int.toNat _) (Int.toNat_of_nonneg (by omega)).symm (by omega) (by first | assumption | decide | (simp only [isl_len, bsl_len, psl_len, mrows_len, nsl_len, ws_len, List.length_map, ul_len, psl_len, isl_len, nrows_len, prL_len, blR_len, stK_len, inh1_len, st0_len, status32_len]; omega) | (simp; done) | (simp; omega) | (simp [isl, bsl]; omega)) (by first | exact Nat.mul_one _ | rfl | omega)) ?_
              refine any_n (rfl : _ = [_, _, _]) ?_
              first
                | refine any_c (_, []) (fun τ => op_fldP _ inferInstance rfl rfl rfl) ?_
                | refine any_c (_, []) (fun τ => op_fldF _ inferInstance rfl rfl) ?_
              refine any_n (rfl : _ = [_, _, _, _]) ?_
              refine any_c (_, []) (fun τ => op_ldF _ inferInstance rfl (by first | rfl | exact isl_get _ _ (by omega) | exact bsl_get _ _ (by omega) | assumption | exact isl_get _ _ (by omega) | exact nsl_get _ _ (by omega) | exact nrows_get _ _ (by omega) | exact blR_get0 _ _ (by omega) | exact blR_get1 _ _ (by omega)) rfl) ?_
              refine any_n (rfl : _ = [_, _, _, _, _]) ?_
              refine any_c (_, []) (fun τ => op_mv _ (rfl : _ = AV.v (.int _ _))) ?_
              refine any_n (rfl : _ = [_, _, _, _, _, _]) ?_
              refine any_c (_, []) (fun τ => (op_callH inferInstance (by repeat' (first | exact argsLv_nil | refine argsLv_cons ?_ ?_ | exact Lv.v | exact lvI (by omega) | exact Lv.sl | exact Lv.fp | exact Lv.nil | refine Lv.agg rfl ?_ | refine Lv.fn rfl ?_ rfl ?_ | exact lv_nil | refine lv_cons ?_ ?_ | exact Lv.z0)) (hasNN_spec _ (AL.getD i (0, [])).2 v rfl (by omega)) rfl rfl)) ?_
              refine any_n (rfl : _ = [_, _, _, _, _, _, _]) ?_
              refine any_c (_, []) (fun τ => op_not _ rfl rfl) ?_
              refine any_n (rfl : _ = [_, _, _, _, _, _, _, _]) ?_
              refine any_c (_, []) (fun τ => op_mv _ (rfl : _ = AV.v (.bool _))) ?_
              refine any_caseC (fun hg130 => ?_) (fun hg130 => ?_)
              · skip
                refine any_n (rfl : _ = [_, _, _, _, _, _, _, _, _]) ?_
                refine any_cy (_, []) rfl (fun τ => rfl) (fun τ => op_mv _ (rfl : _ = AV.sl _ _)) ?_
                refine any_n (rfl : _ = [_, _, _, _, _, _, _, _, _, _]) ?_
                refine any_cy (_, []) rfl (fun τ => rfl) (fun τ => op_mv _ (rfl : _ = AV.v (.int _ _))) ?_
                refine any_n (rfl : _ = [_, _, _, _, _, _, _, _, _, _, _]) ?_
                first
                  | refine any_cy (_, []) rfl (fun τ => rfl) (fun τ => op_ixS _ _ inferInstance rfl rfl _ rfl (by omega) (by first | assumption | decide | (simp only [isl_len, bsl_len, psl_len, mrows_len, nsl_len, ws_len, List.length_map, ul_len, psl_len, isl_len, nrows_len, prL_len, blR_len, stK_len, inh1_len, st0_len, status32_len]; omega) | (simp; done) | (simp; omega) | (simp [isl, bsl]; omega)) (by first | exact Nat.mul_one _ | rfl | omega)) ?_
                  | refine any_cy (_, []) rfl (fun τ => rfl) (fun τ => op_ixS _ _ inferInstance rfl rfl (Int.toNat _) (Int.toNat_of_nonneg (by omega)).symm (by omega) (by first | assumption | decide | (simp only [isl_len, bsl_len, psl_len, mrows_len, nsl_len, ws_len, List.length_map, ul_len, psl_len, isl_len, nrows_len, prL_len, blR_len, stK_len, inh1_len, st0_len, status32_len]; omega) | (simp; done) | (simp; omega) | (simp [isl, bsl]; omega)) (by first | exact Nat.mul_one _ | rfl | omega)) ?_
                refine any_n (rfl : _ = [_, _, _, _, _, _, _, _, _, _, _, _]) ?_
                first
                  | refine any_cy (_, []) rfl (fun τ => rfl) (fun τ => op_fldP _ inferInstance rfl rfl rfl) ?_
                  | refine any_cy (_, []) rfl (fun τ => rfl) (fun τ => op_fldF _ inferInstance rfl rfl) ?_
                refine any_n (rfl : _ = [_, _, _, _, _, _, _, _, _, _, _, _, _]) ?_
                refine any_cy (_, []) rfl (fun τ => rfl) (fun τ => op_ldF _ inferInstance rfl (by first | rfl | exact isl_get _ _ (by omega) | exact bsl_get _ _ (by omega) | assumption | exact isl_get _ _ (by omega) | exact nsl_get _ _ (by omega) | exact nrows_get _ _ (by omega) | exact blR_get0 _ _ (by omega) | exact blR_get1 _ _ (by omega)) rfl) ?_
                refine any_n (rfl : _ = [_, _, _, _, _, _, _, _, _, _, _, _, _, _]) ?_
                first
                  | refine any_cy (_, []) rfl (fun τ => rfl) (fun τ => op_lenS _ inferInstance rfl) ?_
                  | refine any_cy (_, []) rfl (fun τ => rfl) (fun τ => op_lenR _ inferInstance rfl rfl) ?_
                  | refine any_cy (_, []) rfl (fun τ => rfl) (fun τ => op_lenN _ inferInstance rfl) ?_
                  | refine any_cy (_, []) rfl (fun τ => rfl) (fun τ => op_lenB _ inferInstance rfl rfl) ?_
                  | refine any_cy (_, []) rfl (fun τ => rfl) (fun τ => op_lenZ _ inferInstance rfl) ?_
                refine any_n (rfl : _ = [_, _, _, _, _, _, _, _, _, _, _, _, _, _, _]) ?_
                refine any_cy (_, []) rfl (fun τ => rfl) (fun τ => op_mv _ (rfl : _ = AV.sl _ _)) ?_
                refine any_n (rfl : _ = [_, _, _, _, _, _, _, _, _, _, _, _, _, _, _, _]) ?_
                refine any_cy (_, []) rfl (fun τ => rfl) (fun τ => op_mv _ (rfl : _ = AV.v (.int _ _))) ?_
                refine any_n (rfl : _ = [_, _, _, _, _, _, _, _, _, _, _, _, _, _, _, _, _]) ?_
                first
                  | refine any_cy (_, []) rfl (fun τ => rfl) (fun τ => op_ixS _ _ inferInstance rfl rfl _ rfl (by omega) (by first | assumption | decide | (simp only [isl_len, bsl_len, psl_len, mrows_len, nsl_len, ws_len, List.length_map, ul_len, psl_len, isl_len, nrows_len, prL_len, blR_len, stK_len, inh1_len, st0_len, status32_len]; omega) | (simp; done) | (simp; omega) | (simp [isl, bsl]; omega)) (by first | exact Nat.mul_one _ | rfl | omega)) ?_
                  | refine any_cy (_, []) rfl (fun τ => rfl) (fun τ => op_ixS _ _ inferInstance rfl rfl (Int.toNat _) (Int.toNat_of_nonneg (by omega)).symm (by omega) (by first | assumption | decide | (simp only [isl_len, bsl_len, psl_len, mrows_len, nsl_len, ws_len, List.length_map, ul_len, psl_len, isl_len, nrows_len, prL_len, blR_len, stK_len, inh1_len, st0_len, status32_len]; omega) | (simp; done) | (simp; omega) | (simp [isl, bsl]; omega)) (by first | exact Nat.mul_one _ | rfl | omega)) ?_
                refine any_n (rfl : _ = [_, _, _, _, _, _, _, _, _, _, _, _, _, _, _, _, _, _]) ?_
                first
                  | refine any_cy (_, []) rfl (fun τ => rfl) (fun τ => op_fldP _ inferInstance rfl rfl rfl) ?_
                  | refine any_cy (_, []) rfl (fun τ => rfl) (fun τ => op_fldF _ inferInstance rfl rfl) ?_
                refine any_n (rfl : _ = [_, _, _, _, _, _, _, _, _, _, _, _, _, _, _, _, _, _, _]) ?_
                refine any_cy (_, []) rfl (fun τ => rfl) (fun τ => op_ldF _ inferInstance rfl (by first | rfl | exact isl_get _ _ (by omega) | exact bsl_get _ _ (by omega) | assumption | exact isl_get _ _ (by omega) | exact nsl_get _ _ (by omega) | exact nrows_get _ _ (by omega) | exact blR_get0 _ _ (by omega) | exact blR_get1 _ _ (by omega)) rfl) ?_
                refine any_n (rfl : _ = [_, _, _, _, _, _, _, _, _, _, _, _, _, _, _, _, _, _, _, _]) ?_
                first
                  | refine any_cy (_, []) rfl (fun τ => rfl) (fun τ => op_lenS _ inferInstance rfl) ?_
                  | refine any_cy (_, []) rfl (fun τ => rfl) (fun τ => op_lenR _ inferInstance rfl rfl) ?_
                  | refine any_cy (_, []) rfl (fun τ => rfl) (fun τ => op_lenN _ inferInstance rfl) ?_
                  | refine any_cy (_, []) rfl (fun τ => rfl) (fun τ => op_lenB _ inferInstance rfl rfl) ?_
                  | refine any_cy (_, []) rfl (fun τ => rfl) (fun τ => op_lenZ _ inferInstance rfl) ?_
                refine any_n (rfl : _ = [_, _, _, _, _, _, _, _, _, _, _, _, _, _, _, _, _, _, _, _, _]) ?_
                first
                  | refine any_cy (_, []) rfl (fun τ => rfl) (fun τ => op_neq _ _ rfl rfl (by assumption)) ?_
                  | refine any_cy (_, []) rfl (fun τ => rfl) (fun τ => op_neq _ _ rfl rfl rfl) ?_
                refine any_n (rfl : _ = [_, _, _, _, _, _, _, _, _, _, _, _, _, _, _, _, _, _, _, _, _, _]) ?_
                refine any_c (_, []) (fun τ => op_pick _ _ _ rfl (rfl : _ = AV.v (.bool _))) ?_
                refine any_n (rfl : _ = [_, _, _, _, _, _, _, _, _, _, _, _, _, _, _, _, _, _, _, _, _, _, _]) ?_
                refine any_end ⟨rfl, ?_⟩
                refine DL_nil (hK33 _ ?_)
                clear hK33; try clear K33
                refine D_splitC rfl (fun hc144 => ?_) (fun hc144 => ?_)
                · skip
                  exact absurd  hc144 (by have := heq (by simpa using hg130); omega)
                · skip
                  refine D_skip (hK32 _ ?_)
                  clear hK32; try clear K32
                  refine D_seq fun K34 hK34 => ?_
                  refine D_le (σ' := mkStI 180 [(11, _), (14, _), (16, _), (17, _), (18, _)] [] [] []) (by
                    refine Le.mkJ [] [] rfl ?_ ?_ trivial trivial ?_
                    · exact ⟨(iF rfl), (iV rfl), (iS rfl), (iS rfl), (iV rfl), trivial⟩
                    · exact trivial
                    · kernel_rfl) ?_
                  refine D_region ?_
                  refine DL_c (op_as _ (rfl : _ = AV.v (.int _ _))) ?_
                  refine DL_nil (hK34 _ ?_)
                  clear hK34; try clear K34
                  refine D_block ?_
                  refine D_loopL (α := Nat) (fun k => k ≤ (AL.getD i (0, [])).2.length) 180 [(11, _), (14, _), (16, _), (17, _), (18, _)] [] (fun k => [(20, .v (.int .i64 (k : Int)))]) (fun k => []) [] [] (fun k => (AL.getD i (0, [])).2.length - k) 0 ?_ (by
                    refine Le.mkJ [] [] rfl ?_ ?_ trivial trivial ?_
                    · exact ⟨(iF rfl), (iV rfl), (iS rfl), (iS rfl), (iV rfl), (lvI (by first | rfl | omega | (simp; done) | (simp; omega) | assumption)), trivial⟩
                    · exact trivial
                    · kernel_rfl) ?_
                  · first | omega | trivial | exact ⟨by omega, by omega⟩
                  intro k hk
                  refine D_seq fun K35 hK35 => ?_
                  refine D_seq fun K36 hK36 => ?_
                  refine D_region ?_
                  refine DL_c (op_mv _ (rfl : _ = AV.v (.int _ _))) ?_
                  refine DL_c (op_mv _ (rfl : _ = AV.sl _ _)) ?_
                  refine DL_c (op_mv _ (rfl : _ = AV.v (.int _ _))) ?_
                  first
                    | refine DL_c (op_ixS _ _ inferInstance rfl rfl _ rfl (by omega) (by first | assumption | decide | (simp only [isl_len, bsl_len, psl_len, mrows_len, nsl_len, ws_len, List.length_map, ul_len, psl_len, isl_len, nrows_len, prL_len, blR_len, stK_len, inh1_len, st0_len, status32_len]; omega) | (simp; done) | (simp; omega) | (simp [isl, bsl]; omega)) (by first | exact Nat.mul_one _ | rfl | omega)) ?_
                    | refine DL_c (op_ixS _ _ inferInstance rfl rfl (Int.toNat _) (Int.toNat_of_nonneg (by omega)).symm (by omega) (by first | assumption | decide | (simp only [isl_len, bsl_len, psl_len, mrows_len, nsl_len, ws_len, List.length_map, ul_len, psl_len, isl_len, nrows_len, prL_len, blR_len, stK_len, inh1_len, st0_len, status32_len]; omega) | (simp; done) | (simp; omega) | (simp [isl, bsl]; omega)) (by first | exact Nat.mul_one _ | rfl | omega)) ?_
                  first
                    | refine DL_c (op_fldP _ inferInstance rfl rfl rfl) ?_
                    | refine DL_c (op_fldF _ inferInstance rfl rfl) ?_
                  refine DL_c (op_ldF _ inferInstance rfl (by first | rfl | exact isl_get _ _ (by omega) | exact bsl_get _ _ (by omega) | assumption | exact isl_get _ _ (by omega) | exact nsl_get _ _ (by omega) | exact nrows_get _ _ (by omega) | exact blR_get0 _ _ (by omega) | exact blR_get1 _ _ (by omega)) rfl) ?_
                  first
                    | refine DL_c (op_lenS _ inferInstance rfl) ?_
                    | refine DL_c (op_lenR _ inferInstance rfl rfl) ?_
                    | refine DL_c (op_lenN _ inferInstance rfl) ?_
                    | refine DL_c (op_lenB _ inferInstance rfl rfl) ?_
                    | refine DL_c (op_lenZ _ inferInstance rfl) ?_
                  first
                    | refine DL_c (op_lss _ _ rfl rfl (by assumption)) ?_
                    | refine DL_c (op_lss _ _ rfl rfl rfl) ?_
                  refine DL_nil (hK36 _ ?_)
                  clear hK36; try clear K36
                  refine D_splitC rfl (fun hc152 => ?_) (fun hc152 => ?_)
                  · skip
                    have hkm := getD_mem (show k < (AL.getD i (0, [])).2.length by omega)
                    have hupk := hup _ hkm
                    refine D_skip (hK35 _ ?_)
                    clear hK35; try clear K35
                    refine D_seq fun K37 hK37 => ?_
                    refine D_block ?_
                    refine D_seq fun K38 hK38 => ?_
                    refine D_region ?_
                    refine DL_c (op_mv _ (rfl : _ = AV.sl _ _)) ?_
                    refine DL_c (op_mv _ (rfl : _ = AV.v (.int _ _))) ?_
                    first
                      | refine DL_c (op_ixS _ _ inferInstance rfl rfl _ rfl (by omega) (by first | assumption | decide | (simp only [isl_len, bsl_len, psl_len, mrows_len, nsl_len, ws_len, List.length_map, ul_len, psl_len, isl_len, nrows_len, prL_len, blR_len, stK_len, inh1_len, st0_len, status32_len]; omega) | (simp; done) | (simp; omega) | (simp [isl, bsl]; omega)) (by first | exact Nat.mul_one _ | rfl | omega)) ?_
                      | refine DL_c (op_ixS _ _ inferInstance rfl rfl (Int.toNat _) (Int.toNat_of_nonneg (by omega)).symm (by omega) (by first | assumption | decide | (simp only [isl_len, bsl_len, psl_len, mrows_len, nsl_len, ws_len, List.length_map, ul_len, psl_len, isl_len, nrows_len, prL_len, blR_len, stK_len, inh1_len, st0_len, status32_len]; omega) | (simp; done) | (simp; omega) | (simp [isl, bsl]; omega)) (by first | exact Nat.mul_one _ | rfl | omega)) ?_
                    first
                      | refine DL_c (op_fldP _ inferInstance rfl rfl rfl) ?_
                      | refine DL_c (op_fldF _ inferInstance rfl rfl) ?_
                    refine DL_c (op_ldF _ inferInstance rfl (by first | rfl | exact isl_get _ _ (by omega) | exact bsl_get _ _ (by omega) | assumption | exact isl_get _ _ (by omega) | exact nsl_get _ _ (by omega) | exact nrows_get _ _ (by omega) | exact blR_get0 _ _ (by omega) | exact blR_get1 _ _ (by omega)) rfl) ?_
                    refine DL_c (op_mv _ (rfl : _ = AV.v (.int _ _))) ?_
                    first
                      | refine DL_c (op_ixS _ _ inferInstance rfl rfl _ rfl (by omega) (by first | assumption | decide | (simp only [isl_len, bsl_len, psl_len, mrows_len, nsl_len, ws_len, List.length_map, ul_len, psl_len, isl_len, nrows_len, prL_len, blR_len, stK_len, inh1_len, st0_len, status32_len]; omega) | (simp; done) | (simp; omega) | (simp [isl, bsl]; omega)) (by first | exact Nat.mul_one _ | rfl | omega)) ?_
                      | refine DL_c (op_ixS _ _ inferInstance rfl rfl (Int.toNat _) (Int.toNat_of_nonneg (by omega)).symm (by omega) (by first | assumption | decide | (simp only [isl_len, bsl_len, psl_len, mrows_len, nsl_len, ws_len, List.length_map, ul_len, psl_len, isl_len, nrows_len, prL_len, blR_len, stK_len, inh1_len, st0_len, status32_len]; omega) | (simp; done) | (simp; omega) | (simp [isl, bsl]; omega)) (by first | exact Nat.mul_one _ | rfl | omega)) ?_
                      | refine DL_c (op_ixR _ _ inferInstance rfl rfl rfl _ rfl (by omega) (by first | exact (Nat.zero_add _).trans (Nat.mul_one _) | exact Nat.zero_add _ | rfl | omega)) ?_
                      | refine DL_c (op_ixR _ _ inferInstance rfl rfl rfl (Int.toNat _) (Int.toNat_of_nonneg (by omega)).symm (by omega) (by first | exact (Nat.zero_add _).trans (Nat.mul_one _) | exact Nat.zero_add _ | rfl | omega)) ?_
                      | refine DL_c (op_ixB _ _ inferInstance rfl rfl rfl _ rfl (by omega) (by first | exact (Nat.zero_add _).trans (Nat.mul_one _) | exact Nat.zero_add _ | rfl | omega)) ?_
                      | refine DL_c (op_ixB _ _ inferInstance rfl rfl rfl (Int.toNat _) (Int.toNat_of_nonneg (by omega)).symm (by omega) (by first | exact (Nat.zero_add _).trans (Nat.mul_one _) | exact Nat.zero_add _ | rfl | omega)) ?_
                    first
                      | refine DL_c (op_ldB _ inferInstance rfl rfl (rfl : _ = some (AV.v (.int _ _)))) ?_
                      | refine DL_c (op_ldR _ inferInstance rfl rfl (by first | rfl | exact isl_get _ _ (by omega) | exact bsl_get _ _ (by omega) | assumption | exact isl_get _ _ (by omega) | exact nsl_get _ _ (by omega) | exact nrows_get _ _ (by omega) | exact blR_get0 _ _ (by omega) | exact blR_get1 _ _ (by omega)) rfl) ?_
                      | refine DL_c (op_ldF _ inferInstance rfl (by first | rfl | exact isl_get _ _ (by omega) | exact bsl_get _ _ (by omega) | assumption | exact isl_get _ _ (by omega) | exact nsl_get _ _ (by omega) | exact nrows_get _ _ (by omega) | exact blR_get0 _ _ (by omega) | exact blR_get1 _ _ (by omega)) rfl) ?_
                    refine DL_c (op_as _ (rfl : _ = AV.v (.int _ _))) ?_
                    refine DL_nil (hK38 _ ?_)
                    clear hK38; try clear K38
                    refine D_seq fun K39 hK39 => ?_
                    refine D_le (σ' := mkStI 180 [(11, _), (14, _), (16, _), (17, _), (18, _), (20, _), (21, _)] [] [] []) (by
                      refine Le.mkJ [] [] rfl ?_ ?_ trivial trivial ?_
                      · exact ⟨(iF rfl), (iV rfl), (iS rfl), (iS rfl), (iV rfl), (iV rfl), (iV rfl), trivial⟩
                      · exact trivial
                      · kernel_rfl) ?_
                    refine D_region ?_
                    refine DL_c (op_mv _ (rfl : _ = AV.sl _ _)) ?_
                    refine DL_c (op_mv _ (rfl : _ = AV.v (.int _ _))) ?_
                    first
                      | refine DL_c (op_ixS _ _ inferInstance rfl rfl _ rfl (by omega) (by first | assumption | decide | (simp only [isl_len, bsl_len, psl_len, mrows_len, nsl_len, ws_len, List.length_map, ul_len, psl_len, isl_len, nrows_len, prL_len, blR_len, stK_len, inh1_len, st0_len, status32_len]; omega) | (simp; done) | (simp; omega) | (simp [isl, bsl]; omega)) (by first | exact Nat.mul_one _ | rfl | omega)) ?_
                      | refine DL_c (op_ixS _ _ inferInstance rfl rfl (Int.toNat _) (Int.toNat_of_nonneg (by omega)).symm (by omega) (by first | assumption | decide | (simp only [isl_len, bsl_len, psl_len, mrows_len, nsl_len, ws_len, List.length_map, ul_len, psl_len, isl_len, nrows_len, prL_len, blR_len, stK_len, inh1_len, st0_len, status32_len]; omega) | (simp; done) | (simp; omega) | (simp [isl, bsl]; omega)) (by first | exact Nat.mul_one _ | rfl | omega)) ?_
                    first
                      | refine DL_c (op_fldP _ inferInstance rfl rfl rfl) ?_
                      | refine DL_c (op_fldF _ inferInstance rfl rfl) ?_
                    refine DL_c (op_ldF _ inferInstance rfl (by first | rfl | exact isl_get _ _ (by omega) | exact bsl_get _ _ (by omega) | assumption | exact isl_get _ _ (by omega) | exact nsl_get _ _ (by omega) | exact nrows_get _ _ (by omega) | exact blR_get0 _ _ (by omega) | exact blR_get1 _ _ (by omega)) rfl) ?_
                    refine DL_c (op_mv _ (rfl : _ = AV.v (.int _ _))) ?_
                    refine DL_c (op_callH inferInstance (by repeat' (first | exact argsLv_nil | refine argsLv_cons ?_ ?_ | exact Lv.v | exact lvI (by omega) | exact Lv.sl | exact Lv.fp | exact Lv.nil | refine Lv.agg rfl ?_ | refine Lv.fn rfl ?_ rfl ?_ | exact lv_nil | refine lv_cons ?_ ?_ | exact Lv.z0)) (hasNN_spec _ (BL.getD i (0, [])).2 ((AL.getD i (0, [])).2.getD k 0) rfl (by omega)) rfl rfl) ?_
                    refine DL_c (op_not _ rfl rfl) ?_
                    refine DL_c (op_mv _ (rfl : _ = AV.v (.bool _))) ?_
                    refine DL_caseC (fun hg171 => ?_) (fun hg171 => ?_)
                    · skip
                      refine DL_cy rfl rfl (op_mv _ (rfl : _ = AV.fp _ _)) ?_
                      refine DL_cy rfl rfl (op_mv _ (rfl : _ = AV.v (.int _ _))) ?_
                      refine DL_cy rfl rfl (op_callH inferInstance (by repeat' (first | exact argsLv_nil | refine argsLv_cons ?_ ?_ | exact Lv.v | exact lvI (by omega) | exact Lv.sl | exact Lv.fp | exact Lv.nil | refine Lv.agg rfl ?_ | refine Lv.fn rfl ?_ rfl ?_ | exact lv_nil | refine lv_cons ?_ ?_ | exact Lv.z0)) (ancsN_spec hPn hn64 (parW Ps) v) rfl rfl) ?_
                      refine DL_cy rfl rfl (op_mv _ (rfl : _ = AV.v (.int _ _))) ?_
                      refine DL_cy rfl rfl (op_callH inferInstance (by repeat' (first | exact argsLv_nil | refine argsLv_cons ?_ ?_ | exact Lv.v | exact lvI (by omega) | exact Lv.sl | exact Lv.fp | exact Lv.nil | refine Lv.agg rfl ?_ | refine Lv.fn rfl ?_ rfl ?_ | exact lv_nil | refine lv_cons ?_ ?_ | exact Lv.z0)) (hasNN_spec _ (upE Ps v) ((AL.getD i (0, [])).2.getD k 0) rfl (by omega)) rfl rfl) ?_
                      refine DL_cy rfl rfl (op_not _ rfl rfl) ?_
                      refine DL_c (op_pick _ _ _ rfl (rfl : _ = AV.v (.bool _))) ?_
                      refine DL_nil (hK39 _ ?_)
                      clear hK39; try clear K39
                      refine D_splitC rfl (fun hc178 => ?_) (fun hc178 => ?_)
                      · skip
                        exact absurd  hc178 (fun hx => hx (hupk (by simpa using hg171)))
                      · skip
                        refine D_skip (hK37 _ ?_)
                        clear hK37; try clear K37
                        refine D_le (σ' := mkStI 180 [(11, _), (14, _), (16, _), (17, _), (18, _), (20, _)] [] [] []) (by
                          refine Le.mkJ [] [] rfl ?_ ?_ trivial trivial ?_
                          · exact ⟨(iF rfl), (iV rfl), (iS rfl), (iS rfl), (iV rfl), (iV rfl), trivial⟩
                          · exact trivial
                          · kernel_rfl) ?_
                        refine D_region ?_
                        refine DL_c (op_mv _ (rfl : _ = AV.v (.int _ _))) ?_
                        first
                          | refine DL_c (op_add _ _ rfl rfl (i64w (by omega))) ?_
                          | refine DL_c (op_add _ _ rfl rfl rfl) ?_
                        refine DL_c (op_as _ (rfl : _ = AV.v (.int _ _))) ?_
                        refine DL_nil ?_
                        refine ⟨k + 1, ?_, ?_, ?_⟩
                        · first | omega | trivial | exact ⟨by omega, by omega⟩
                        · skip
                          refine Le.mkJ [] [] rfl ?_ ?_ trivial trivial ?_
                          · exact ⟨(iF rfl), (iV rfl), (iS rfl), (iS rfl), (iV rfl), (lvI (by first | rfl | omega | (simp; done) | (simp; omega) | assumption)), trivial⟩
                          · exact trivial
                          · kernel_rfl
                        · omega
                    · skip
                      refine DL_cn rfl rfl (by decide) ?_
                      refine DL_cn rfl rfl (by decide) ?_
                      refine DL_cn rfl rfl (by decide) ?_
                      refine DL_cn rfl rfl (by decide) ?_
                      refine DL_cn rfl rfl (by decide) ?_
                      refine DL_cn rfl rfl (by decide) ?_
                      refine DL_c (op_pick _ _ _ rfl (rfl : _ = AV.v (.bool _))) ?_
                      refine DL_nil (hK39 _ ?_)
                      clear hK39; try clear K39
                      refine D_cF rfl rfl ?_
                      refine D_skip (hK37 _ ?_)
                      clear hK37; try clear K37
                      refine D_le (σ' := mkStI 180 [(11, _), (14, _), (16, _), (17, _), (18, _), (20, _)] [] [] []) (by
                        refine Le.mkJ [] [] rfl ?_ ?_ trivial trivial ?_
                        · exact ⟨(iF rfl), (iV rfl), (iS rfl), (iS rfl), (iV rfl), (iV rfl), trivial⟩
                        · exact trivial
                        · kernel_rfl) ?_
                      refine D_region ?_
                      refine DL_c (op_mv _ (rfl : _ = AV.v (.int _ _))) ?_
                      first
                        | refine DL_c (op_add _ _ rfl rfl (i64w (by omega))) ?_
                        | refine DL_c (op_add _ _ rfl rfl rfl) ?_
                      refine DL_c (op_as _ (rfl : _ = AV.v (.int _ _))) ?_
                      refine DL_nil ?_
                      refine ⟨k + 1, ?_, ?_, ?_⟩
                      · first | omega | trivial | exact ⟨by omega, by omega⟩
                      · skip
                        refine Le.mkJ [] [] rfl ?_ ?_ trivial trivial ?_
                        · exact ⟨(iF rfl), (iV rfl), (iS rfl), (iS rfl), (iV rfl), (lvI (by first | rfl | omega | (simp; done) | (simp; omega) | assumption)), trivial⟩
                        · exact trivial
                        · kernel_rfl
                      · omega
                  · skip
                    refine D_exit ?_
                    refine id (hK22 _ ?_)
                    clear hK22; try clear K22
                    refine D_region ?_
                    refine DL_c (op_mv _ (rfl : _ = AV.v (.int _ _))) ?_
                    first
                      | refine DL_c (op_add _ _ rfl rfl (i64w (by omega))) ?_
                      | refine DL_c (op_add _ _ rfl rfl rfl) ?_
                    refine DL_c (op_as _ (rfl : _ = AV.v (.int _ _))) ?_
                    refine DL_nil ?_
                    refine ⟨i + 1, ?_, ?_, ?_⟩
                    · first | omega | trivial | exact ⟨by omega, by omega⟩
                    · skip
                      refine Le.mkJ [] [] rfl ?_ ?_ trivial trivial ?_
                      · exact ⟨(iF rfl), (iV rfl), (iS rfl), (iS rfl), (lvI (by first | rfl | omega | (simp; done) | (simp; omega) | assumption)), trivial⟩
                      · exact trivial
                      · kernel_rfl
                    · omega
              · skip
                refine any_n (rfl : _ = [_, _, _, _, _, _, _, _, _]) ?_
                refine any_cn rfl (fun τ => rfl) (by decide) ?_
                refine any_n (rfl : _ = [_, _, _, _, _, _, _, _, _, _]) ?_
                refine any_cn rfl (fun τ => rfl) (by decide) ?_
                refine any_n (rfl : _ = [_, _, _, _, _, _, _, _, _, _, _]) ?_
                refine any_cn rfl (fun τ => rfl) (by decide) ?_
                refine any_n (rfl : _ = [_, _, _, _, _, _, _, _, _, _, _, _]) ?_
                refine any_cn rfl (fun τ => rfl) (by decide) ?_
                refine any_n (rfl : _ = [_, _, _, _, _, _, _, _, _, _, _, _, _]) ?_
                refine any_cn rfl (fun τ => rfl) (by decide) ?_
                refine any_n (rfl : _ = [_, _, _, _, _, _, _, _, _, _, _, _, _, _]) ?_
                refine any_cn rfl (fun τ => rfl) (by decide) ?_
                refine any_n (rfl : _ = [_, _, _, _, _, _, _, _, _, _, _, _, _, _, _]) ?_
                refine any_cn rfl (fun τ => rfl) (by decide) ?_
                refine any_n (rfl : _ = [_, _, _, _, _, _, _, _, _, _, _, _, _, _, _, _]) ?_
                refine any_cn rfl (fun τ => rfl) (by decide) ?_
                refine any_n (rfl : _ = [_, _, _, _, _, _, _, _, _, _, _, _, _, _, _, _, _]) ?_
                refine any_cn rfl (fun τ => rfl) (by decide) ?_
                refine any_n (rfl : _ = [_, _, _, _, _, _, _, _, _, _, _, _, _, _, _, _, _, _]) ?_
                refine any_cn rfl (fun τ => rfl) (by decide) ?_
                refine any_n (rfl : _ = [_, _, _, _, _, _, _, _, _, _, _, _, _, _, _, _, _, _, _]) ?_
                refine any_cn rfl (fun τ => rfl) (by decide) ?_
                refine any_n (rfl : _ = [_, _, _, _, _, _, _, _, _, _, _, _, _, _, _, _, _, _, _, _]) ?_
                refine any_cn rfl (fun τ => rfl) (by decide) ?_
                refine any_n (rfl : _ = [_, _, _, _, _, _, _, _, _, _, _, _, _, _, _, _, _, _, _, _, _]) ?_
                refine any_cn rfl (fun τ => rfl) (by decide) ?_
                refine any_n (rfl : _ = [_, _, _, _, _, _, _, _, _, _, _, _, _, _, _, _, _, _, _, _, _, _]) ?_
                refine any_c (_, []) (fun τ => op_pick _ _ _ rfl (rfl : _ = AV.v (.bool _))) ?_
                refine any_n (rfl : _ = [_, _, _, _, _, _, _, _, _, _, _, _, _, _, _, _, _, _, _, _, _, _, _]) ?_
                refine any_end ⟨rfl, ?_⟩
                refine DL_nil (hK33 _ ?_)
                clear hK33; try clear K33
                refine D_cF rfl rfl ?_
                refine D_skip (hK32 _ ?_)
                clear hK32; try clear K32
                refine D_seq fun K40 hK40 => ?_
                refine D_le (σ' := mkStI 180 [(11, _), (14, _), (16, _), (17, _), (18, _)] [] [] []) (by
                  refine Le.mkJ [] [] rfl ?_ ?_ trivial trivial ?_
                  · exact ⟨(iF rfl), (iV rfl), (iS rfl), (iS rfl), (iV rfl), trivial⟩
                  · exact trivial
                  · kernel_rfl) ?_
                refine D_region ?_
                refine DL_c (op_as _ (rfl : _ = AV.v (.int _ _))) ?_
                refine DL_nil (hK40 _ ?_)
                clear hK40; try clear K40
                refine D_block ?_
                refine D_loopL (α := Nat) (fun k => k ≤ (AL.getD i (0, [])).2.length) 180 [(11, _), (14, _), (16, _), (17, _), (18, _)] [] (fun k => [(20, .v (.int .i64 (k : Int)))]) (fun k => []) [] [] (fun k => (AL.getD i (0, [])).2.length - k) 0 ?_ (by
                  refine Le.mkJ [] [] rfl ?_ ?_ trivial trivial ?_
                  · exact ⟨(iF rfl), (iV rfl), (iS rfl), (iS rfl), (iV rfl), (lvI (by first | rfl | omega | (simp; done) | (simp; omega) | assumption)), trivial⟩
                  · exact trivial
                  · kernel_rfl) ?_
                · first | omega | trivial | exact ⟨by omega, by omega⟩
                intro k hk
                refine D_seq fun K41 hK41 => ?_
                refine D_seq fun K42 hK42 => ?_
                refine D_region ?_
                refine DL_c (op_mv _ (rfl : _ = AV.v (.int _ _))) ?_
                refine DL_c (op_mv _ (rfl : _ = AV.sl _ _)) ?_
                refine DL_c (op_mv _ (rfl : _ = AV.v (.int _ _))) ?_
                first
                  | refine DL_c (op_ixS _ _ inferInstance rfl rfl _ rfl (by omega) (by first | assumption | decide | (simp only [isl_len, bsl_len, psl_len, mrows_len, nsl_len, ws_len, List.length_map, ul_len, psl_len, isl_len, nrows_len, prL_len, blR_len, stK_len, inh1_len, st0_len, status32_len]; omega) | (simp; done) | (simp; omega) | (simp [isl, bsl]; omega)) (by first | exact Nat.mul_one _ | rfl | omega)) ?_
                  | refine DL_c (op_ixS _ _ inferInstance rfl rfl (Int.toNat _) (Int.toNat_of_nonneg (by omega)).symm (by omega) (by first | assumption | decide | (simp only [isl_len, bsl_len, psl_len, mrows_len, nsl_len, ws_len, List.length_map, ul_len, psl_len, isl_len, nrows_len, prL_len, blR_len, stK_len, inh1_len, st0_len, status32_len]; omega) | (simp; done) | (simp; omega) | (simp [isl, bsl]; omega)) (by first | exact Nat.mul_one _ | rfl | omega)) ?_
                first
                  | refine DL_c (op_fldP _ inferInstance rfl rfl rfl) ?_
                  | refine DL_c (op_fldF _ inferInstance rfl rfl) ?_
                refine DL_c (op_ldF _ inferInstance rfl (by first | rfl | exact isl_get _ _ (by omega) | exact bsl_get _ _ (by omega) | assumption | exact isl_get _ _ (by omega) | exact nsl_get _ _ (by omega) | exact nrows_get _ _ (by omega) | exact blR_get0 _ _ (by omega) | exact blR_get1 _ _ (by omega)) rfl) ?_
                first
                  | refine DL_c (op_lenS _ inferInstance rfl) ?_
                  | refine DL_c (op_lenR _ inferInstance rfl rfl) ?_
                  | refine DL_c (op_lenN _ inferInstance rfl) ?_
                  | refine DL_c (op_lenB _ inferInstance rfl rfl) ?_
                  | refine DL_c (op_lenZ _ inferInstance rfl) ?_
                first
                  | refine DL_c (op_lss _ _ rfl rfl (by assumption)) ?_
                  | refine DL_c (op_lss _ _ rfl rfl rfl) ?_
                refine DL_nil (hK42 _ ?_)
                clear hK42; try clear K42
                refine D_splitC rfl (fun hc152 => ?_) (fun hc152 => ?_)
                · skip
                  have hkm := getD_mem (show k < (AL.getD i (0, [])).2.length by omega)
                  have hupk := hup _ hkm
                  refine D_skip (hK41 _ ?_)
                  clear hK41; try clear K41
                  refine D_seq fun K43 hK43 => ?_
                  refine D_block ?_
                  refine D_seq fun K44 hK44 => ?_
                  refine D_region ?_
                  refine DL_c (op_mv _ (rfl : _ = AV.sl _ _)) ?_
                  refine DL_c (op_mv _ (rfl : _ = AV.v (.int _ _))) ?_
                  first
                    | refine DL_c (op_ixS _ _ inferInstance rfl rfl _ rfl (by omega) (by first | assumption | decide | (simp only [isl_len, bsl_len, psl_len, mrows_len, nsl_len, ws_len, List.length_map, ul_len, psl_len, isl_len, nrows_len, prL_len, blR_len, stK_len, inh1_len, st0_len, status32_len]; omega) | (simp; done) | (simp; omega) | (simp [isl, bsl]; omega)) (by first | exact Nat.mul_one _ | rfl | omega)) ?_
                    | refine DL_c (op_ixS _ _ inferInstance rfl rfl (Int.toNat _) (Int.toNat_of_nonneg (by omega)).symm (by omega) (by first | assumption | decide | (simp only [isl_len, bsl_len, psl_len, mrows_len, nsl_len, ws_len, List.length_map, ul_len, psl_len, isl_len, nrows_len, prL_len, blR_len, stK_len, inh1_len, st0_len, status32_len]; omega) | (simp; done) | (simp; omega) | (simp [isl, bsl]; omega)) (by first | exact Nat.mul_one _ | rfl | omega)) ?_
                  first
                    | refine DL_c (op_fldP _ inferInstance rfl rfl rfl) ?_
                    | refine DL_c (op_fldF _ inferInstance rfl rfl) ?_
                  refine DL_c (op_ldF _ inferInstance rfl (by first | rfl | exact isl_get _ _ (by omega) | exact bsl_get _ _ (by omega) | assumption | exact isl_get _ _ (by omega) | exact nsl_get _ _ (by omega) | exact nrows_get _ _ (by omega) | exact blR_get0 _ _ (by omega) | exact blR_get1 _ _ (by omega)) rfl) ?_
                  refine DL_c (op_mv _ (rfl : _ = AV.v (.int _ _))) ?_
                  first
                    | refine DL_c (op_ixS _ _ inferInstance rfl rfl _ rfl (by omega) (by first | assumption | decide | (simp only [isl_len, bsl_len, psl_len, mrows_len, nsl_len, ws_len, List.length_map, ul_len, psl_len, isl_len, nrows_len, prL_len, blR_len, stK_len, inh1_len, st0_len, status32_len]; omega) | (simp; done) | (simp; omega) | (simp [isl, bsl]; omega)) (by first | exact Nat.mul_one _ | rfl | omega)) ?_
                    | refine DL_c (op_ixS _ _ inferInstance rfl rfl (Int.toNat _) (Int.toNat_of_nonneg (by omega)).symm (by omega) (by first | assumption | decide | (simp only [isl_len, bsl_len, psl_len, mrows_len, nsl_len, ws_len, List.length_map, ul_len, psl_len, isl_len, nrows_len, prL_len, blR_len, stK_len, inh1_len, st0_len, status32_len]; omega) | (simp; done) | (simp; omega) | (simp [isl, bsl]; omega)) (by first | exact Nat.mul_one _ | rfl | omega)) ?_
                    | refine DL_c (op_ixR _ _ inferInstance rfl rfl rfl _ rfl (by omega) (by first | exact (Nat.zero_add _).trans (Nat.mul_one _) | exact Nat.zero_add _ | rfl | omega)) ?_
                    | refine DL_c (op_ixR _ _ inferInstance rfl rfl rfl (Int.toNat _) (Int.toNat_of_nonneg (by omega)).symm (by omega) (by first | exact (Nat.zero_add _).trans (Nat.mul_one _) | exact Nat.zero_add _ | rfl | omega)) ?_
                    | refine DL_c (op_ixB _ _ inferInstance rfl rfl rfl _ rfl (by omega) (by first | exact (Nat.zero_add _).trans (Nat.mul_one _) | exact Nat.zero_add _ | rfl | omega)) ?_
                    | refine DL_c (op_ixB _ _ inferInstance rfl rfl rfl (Int.toNat _) (Int.toNat_of_nonneg (by omega)).symm (by omega) (by first | exact (Nat.zero_add _).trans (Nat.mul_one _) | exact Nat.zero_add _ | rfl | omega)) ?_
                  first
                    | refine DL_c (op_ldB _ inferInstance rfl rfl (rfl : _ = some (AV.v (.int _ _)))) ?_
                    | refine DL_c (op_ldR _ inferInstance rfl rfl (by first | rfl | exact isl_get _ _ (by omega) | exact bsl_get _ _ (by omega) | assumption | exact isl_get _ _ (by omega) | exact nsl_get _ _ (by omega) | exact nrows_get _ _ (by omega) | exact blR_get0 _ _ (by omega) | exact blR_get1 _ _ (by omega)) rfl) ?_
                    | refine DL_c (op_ldF _ inferInstance rfl (by first | rfl | exact isl_get _ _ (by omega) | exact bsl_get _ _ (by omega) | assumption | exact isl_get _ _ (by omega) | exact nsl_get _ _ (by omega) | exact nrows_get _ _ (by omega) | exact blR_get0 _ _ (by omega) | exact blR_get1 _ _ (by omega)) rfl) ?_
                  refine DL_c (op_as _ (rfl : _ = AV.v (.int _ _))) ?_
                  refine DL_nil (hK44 _ ?_)
                  clear hK44; try clear K44
                  refine D_seq fun K45 hK45 => ?_
                  refine D_le (σ' := mkStI 180 [(11, _), (14, _), (16, _), (17, _), (18, _), (20, _), (21, _)] [] [] []) (by
                    refine Le.mkJ [] [] rfl ?_ ?_ trivial trivial ?_
                    · exact ⟨(iF rfl), (iV rfl), (iS rfl), (iS rfl), (iV rfl), (iV rfl), (iV rfl), trivial⟩
                    · exact trivial
                    · kernel_rfl) ?_
                  refine D_region ?_
                  refine DL_c (op_mv _ (rfl : _ = AV.sl _ _)) ?_
                  refine DL_c (op_mv _ (rfl : _ = AV.v (.int _ _))) ?_
                  first
                    | refine DL_c (op_ixS _ _ inferInstance rfl rfl _ rfl (by omega) (by first | assumption | decide | (simp only [isl_len, bsl_len, psl_len, mrows_len, nsl_len, ws_len, List.length_map, ul_len, psl_len, isl_len, nrows_len, prL_len, blR_len, stK_len, inh1_len, st0_len, status32_len]; omega) | (simp; done) | (simp; omega) | (simp [isl, bsl]; omega)) (by first | exact Nat.mul_one _ | rfl | omega)) ?_
                    | refine DL_c (op_ixS _ _ inferInstance rfl rfl (Int.toNat _) (Int.toNat_of_nonneg (by omega)).symm (by omega) (by first | assumption | decide | (simp only [isl_len, bsl_len, psl_len, mrows_len, nsl_len, ws_len, List.length_map, ul_len, psl_len, isl_len, nrows_len, prL_len, blR_len, stK_len, inh1_len, st0_len, status32_len]; omega) | (simp; done) | (simp; omega) | (simp [isl, bsl]; omega)) (by first | exact Nat.mul_one _ | rfl | omega)) ?_
                  first
                    | refine DL_c (op_fldP _ inferInstance rfl rfl rfl) ?_
                    | refine DL_c (op_fldF _ inferInstance rfl rfl) ?_
                  refine DL_c (op_ldF _ inferInstance rfl (by first | rfl | exact isl_get _ _ (by omega) | exact bsl_get _ _ (by omega) | assumption | exact isl_get _ _ (by omega) | exact nsl_get _ _ (by omega) | exact nrows_get _ _ (by omega) | exact blR_get0 _ _ (by omega) | exact blR_get1 _ _ (by omega)) rfl) ?_
                  refine DL_c (op_mv _ (rfl : _ = AV.v (.int _ _))) ?_
                  refine DL_c (op_callH inferInstance (by repeat' (first | exact argsLv_nil | refine argsLv_cons ?_ ?_ | exact Lv.v | exact lvI (by omega) | exact Lv.sl | exact Lv.fp | exact Lv.nil | refine Lv.agg rfl ?_ | refine Lv.fn rfl ?_ rfl ?_ | exact lv_nil | refine lv_cons ?_ ?_ | exact Lv.z0)) (hasNN_spec _ (BL.getD i (0, [])).2 ((AL.getD i (0, [])).2.getD k 0) rfl (by omega)) rfl rfl) ?_
                  refine DL_c (op_not _ rfl rfl) ?_
                  refine DL_c (op_mv _ (rfl : _ = AV.v (.bool _))) ?_
                  refine DL_caseC (fun hg171 => ?_) (fun hg171 => ?_)
                  · skip
                    refine DL_cy rfl rfl (op_mv _ (rfl : _ = AV.fp _ _)) ?_
                    refine DL_cy rfl rfl (op_mv _ (rfl : _ = AV.v (.int _ _))) ?_
                    refine DL_cy rfl rfl (op_callH inferInstance (by repeat' (first | exact argsLv_nil | refine argsLv_cons ?_ ?_ | exact Lv.v | exact lvI (by omega) | exact Lv.sl | exact Lv.fp | exact Lv.nil | refine Lv.agg rfl ?_ | refine Lv.fn rfl ?_ rfl ?_ | exact lv_nil | refine lv_cons ?_ ?_ | exact Lv.z0)) (ancsN_spec hPn hn64 (parW Ps) v) rfl rfl) ?_
                    refine DL_cy rfl rfl (op_mv _ (rfl : _ = AV.v (.int _ _))) ?_
                    refine DL_cy rfl rfl (op_callH inferInstance (by repeat' (first | exact argsLv_nil | refine argsLv_cons ?_ ?_ | exact Lv.v | exact lvI (by omega) | exact Lv.sl | exact Lv.fp | exact Lv.nil | refine Lv.agg rfl ?_ | refine Lv.fn rfl ?_ rfl ?_ | exact lv_nil | refine lv_cons ?_ ?_ | exact Lv.z0)) (hasNN_spec _ (upE Ps v) ((AL.getD i (0, [])).2.getD k 0) rfl (by omega)) rfl rfl) ?_
                    refine DL_cy rfl rfl (op_not _ rfl rfl) ?_
                    refine DL_c (op_pick _ _ _ rfl (rfl : _ = AV.v (.bool _))) ?_
                    refine DL_nil (hK45 _ ?_)
                    clear hK45; try clear K45
                    refine D_splitC rfl (fun hc178 => ?_) (fun hc178 => ?_)
                    · skip
                      exact absurd  hc178 (fun hx => hx (hupk (by simpa using hg171)))
                    · skip
                      refine D_skip (hK43 _ ?_)
                      clear hK43; try clear K43
                      refine D_le (σ' := mkStI 180 [(11, _), (14, _), (16, _), (17, _), (18, _), (20, _)] [] [] []) (by
                        refine Le.mkJ [] [] rfl ?_ ?_ trivial trivial ?_
                        · exact ⟨(iF rfl), (iV rfl), (iS rfl), (iS rfl), (iV rfl), (iV rfl), trivial⟩
                        · exact trivial
                        · kernel_rfl) ?_
                      refine D_region ?_
                      refine DL_c (op_mv _ (rfl : _ = AV.v (.int _ _))) ?_
                      first
                        | refine DL_c (op_add _ _ rfl rfl (i64w (by omega))) ?_
                        | refine DL_c (op_add _ _ rfl rfl rfl) ?_
                      refine DL_c (op_as _ (rfl : _ = AV.v (.int _ _))) ?_
                      refine DL_nil ?_
                      refine ⟨k + 1, ?_, ?_, ?_⟩
                      · first | omega | trivial | exact ⟨by omega, by omega⟩
                      · skip
                        refine Le.mkJ [] [] rfl ?_ ?_ trivial trivial ?_
                        · exact ⟨(iF rfl), (iV rfl), (iS rfl), (iS rfl), (iV rfl), (lvI (by first | rfl | omega | (simp; done) | (simp; omega) | assumption)), trivial⟩
                        · exact trivial
                        · kernel_rfl
                      · omega
                  · skip
                    refine DL_cn rfl rfl (by decide) ?_
                    refine DL_cn rfl rfl (by decide) ?_
                    refine DL_cn rfl rfl (by decide) ?_
                    refine DL_cn rfl rfl (by decide) ?_
                    refine DL_cn rfl rfl (by decide) ?_
                    refine DL_cn rfl rfl (by decide) ?_
                    refine DL_c (op_pick _ _ _ rfl (rfl : _ = AV.v (.bool _))) ?_
                    refine DL_nil (hK45 _ ?_)
                    clear hK45; try clear K45
                    refine D_cF rfl rfl ?_
                    refine D_skip (hK43 _ ?_)
                    clear hK43; try clear K43
                    refine D_le (σ' := mkStI 180 [(11, _), (14, _), (16, _), (17, _), (18, _), (20, _)] [] [] []) (by
                      refine Le.mkJ [] [] rfl ?_ ?_ trivial trivial ?_
                      · exact ⟨(iF rfl), (iV rfl), (iS rfl), (iS rfl), (iV rfl), (iV rfl), trivial⟩
                      · exact trivial
                      · kernel_rfl) ?_
                    refine D_region ?_
                    refine DL_c (op_mv _ (rfl : _ = AV.v (.int _ _))) ?_
                    first
                      | refine DL_c (op_add _ _ rfl rfl (i64w (by omega))) ?_
                      | refine DL_c (op_add _ _ rfl rfl rfl) ?_
                    refine DL_c (op_as _ (rfl : _ = AV.v (.int _ _))) ?_
                    refine DL_nil ?_
                    refine ⟨k + 1, ?_, ?_, ?_⟩
                    · first | omega | trivial | exact ⟨by omega, by omega⟩
                    · skip
                      refine Le.mkJ [] [] rfl ?_ ?_ trivial trivial ?_
                      · exact ⟨(iF rfl), (iV rfl), (iS rfl), (iS rfl), (iV rfl), (lvI (by first | rfl | omega | (simp; done) | (simp; omega) | assumption)), trivial⟩
                      · exact trivial
                      · kernel_rfl
                    · omega
                · skip
                  refine D_exit ?_
                  refine id (hK22 _ ?_)
                  clear hK22; try clear K22
                  refine D_region ?_
                  refine DL_c (op_mv _ (rfl : _ = AV.v (.int _ _))) ?_
                  first
                    | refine DL_c (op_add _ _ rfl rfl (i64w (by omega))) ?_
                    | refine DL_c (op_add _ _ rfl rfl rfl) ?_
                  refine DL_c (op_as _ (rfl : _ = AV.v (.int _ _))) ?_
                  refine DL_nil ?_
                  refine ⟨i + 1, ?_, ?_, ?_⟩
                  · first | omega | trivial | exact ⟨by omega, by omega⟩
                  · skip
                    refine Le.mkJ [] [] rfl ?_ ?_ trivial trivial ?_
                    · exact ⟨(iF rfl), (iV rfl), (iS rfl), (iS rfl), (lvI (by first | rfl | omega | (simp; done) | (simp; omega) | assumption)), trivial⟩
                    · exact trivial
                    · kernel_rfl
                  · omega
      · skip
        refine D_exit ?_
        refine id (hK18 _ ?_)
        clear hK18; try clear K18
        refine D_seq fun K46 hK46 => ?_
        refine D_region ?_
        refine DL_c (op_callH inferInstance (by repeat' (first | exact argsLv_nil | refine argsLv_cons ?_ ?_ | exact Lv.v | exact lvI (by omega) | exact Lv.sl | exact Lv.fp | exact Lv.nil | refine Lv.agg rfl ?_ | refine Lv.fn rfl ?_ rfl ?_ | exact lv_nil | refine lv_cons ?_ ?_ | exact Lv.z0)) (livesv_spec) rfl rfl) ?_
        refine DL_c (op_as _ (rfl : _ = AV.v (.bool _))) ?_
        refine DL_nil (hK46 _ ?_)
        clear hK46; try clear K46
        refine D_ret ?_
        refine ret1 (.inr rfl) rfl (.tmp (rfl : _ = AV.v (.bool _))) (Le.out [] [] (lvB ?_) rfl rfl rfl trivial trivial)
        rfl
end Go.Proofs.Ytkbkmngbenohkaa
