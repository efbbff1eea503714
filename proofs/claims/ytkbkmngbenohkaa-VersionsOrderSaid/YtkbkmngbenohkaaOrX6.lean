/- The law VersionsOrder by the machine. -/
import Derived.Test.YtkbkmngbenohkaaOrV11
set_option linter.unusedSimpArgs false
set_option linter.unusedVariables false
namespace Go.Proofs.Ytkbkmngbenohkaa
open Go.RowKit

theorem swP_succ {Ps : List (List Int)} {v j : Nat} (hj : j < (Ps.getD v []).length) : swP (edg Ps v (j + 1)) = swP (edg Ps v j) ++ [((v : Int), (Ps.getD v []).getD j 0)] := by rw [edg_succ hj, swP_app]; rfl
theorem swP_len (E : Prs) : (swP E).length = E.length := by simp [swP]
theorem order_law (m : Nat) (l : List Int) (hm : l.length = m) (h1 : m ≤ 4611686018427387904) (hr : Rng l) (mp : Nat) (p : List Int) (hmp : p.length = mp) (h3 : mp ≤ 4611686018427387904) (hp : Rng p) :
    Spec Try.prog 20 (inSt [.sl m (isl l), .sl mp (isl p)] []) (outSt (.v (.bool true)) []) := by
  have hP := par32_spec m l hm h1 hr
  have hN := par32_near l
  obtain ⟨hn1, hn2⟩ := prM_pos l
  have hPn := par32_len l
  generalize par32 l = Qs at hP hN hPn
  generalize prM l = n at hP hPn hn1 hn2
  have hR := ren_spec hN hPn mp p hmp h3 hp
  have hpm0 : Pm n (toP p n) := toP_pm p n
  generalize toP p n = to at hR hpm0
  have hpm : Pm Qs.length to := hPn.symm ▸ hpm0
  have hG : GG n (ren32 Qs to) := hPn ▸ ren32_gg hpm hN
  have hNw := newGG_spec hG fun a ha => by have := ren32_nxt hpm hN (a := a) (by omega); rw [hPn] at this; omega
  have hm3 : ∀ v, ((ren32 Qs to).getD v []).length ≤ 3 := fun v => by
    by_cases hv : v < Qs.length
    · rw [ren32_at hpm hv, List.length_map]; exact hN.rows _
    · rw [List.getD_eq_getElem?_getD, List.getElem?_eq_none (by rw [ren32_len]; omega)]; exact Nat.zero_le _
  generalize ren32 Qs to = Ps at hR hG hNw hm3
  have hPs := hG.len
  have hn64 := hG.n64
  have hnr : (nrows Ps).length = n := by simp [hPs]
  have hE : inE n (edg Ps n 0) = true := by have := edg_in hG.V; rw [hPs] at this; exact this
  have hedl := fun v j => edg_len hm3 v j
  have hel := hedl n 0
  have hO := new_spec n hn64 (edg Ps n 0).length (edg Ps n 0) rfl (by omega)
  have hOr : newR n (edg Ps n 0) = .tup [.fp 0 (ord n (cloW n (edg Ps n 0))), .v (.int .i64 0)] := by unfold newR; rw [if_neg (by rw [hE]; simp), if_neg hG.ac]
  rw [hOr] at hO
  have hRe := fun (v : Nat) (hv : v < n) => reach_spec n hn64 (edg Ps n 0).length (swP (edg Ps n 0)) (swP_len _) (by omega) (swP_in hE) (fun a ha => by
    rw [nxt_sw, if_pos ha]
    have h4 := hm3 a
    exact ⟨by omega, (hG.V a (by omega)).1⟩) v hv
  have hRu := fun (v : Nat) (hv : v < n) => reach_up hG hv
  have hLe := fun (u v : Nat) => less_spec n (cloW n (edg Ps n 0)) (cloW_words hn64 _) u v
  have hme := fun (u v : Nat) (hu : u < n) (hv : v < n) => (upE_mem (Ps := Ps) (by omega) (u := u) (v := v) (by omega))
  refine Spec.ofN Try.func20 rfl Try.ntmps20 rfl ?_
  refine D_seq fun K1 hK1 => ?_
  refine D_region ?_
  refine DL_c (op_as _ (rfl : _ = AV.v (.bool _))) ?_
  refine DL_nil (hK1 _ ?_)
  clear hK1; try clear K1
  refine D_seq fun K2 hK2 => ?_
  refine D_region ?_
  refine DL_c (op_mv _ (rfl : _ = AV.sl _ _)) ?_
  refine DL_c (op_callH inferInstance (by repeat' (first | exact argsLv_nil | refine argsLv_cons ?_ ?_ | exact Lv.v | exact lvI (by omega) | exact Lv.sl | exact Lv.fp | exact Lv.nil | refine Lv.agg rfl ?_ | refine Lv.fn rfl ?_ rfl ?_ | exact lv_nil | refine lv_cons ?_ ?_ | exact Lv.z0)) (hP) rfl rfl) ?_
  refine DL_c (op_mv _ (rfl : _ = AV.sl _ _)) ?_
  refine DL_c (op_callH inferInstance (by repeat' (first | exact argsLv_nil | refine argsLv_cons ?_ ?_ | exact Lv.v | exact lvI (by omega) | exact Lv.sl | exact Lv.fp | exact Lv.nil | refine Lv.agg rfl ?_ | refine Lv.fn rfl ?_ rfl ?_ | exact lv_nil | refine lv_cons ?_ ?_ | exact Lv.z0)) (hR) rfl rfl) ?_
  refine DL_c (op_mv _ (rfl : _ = AV.tup _)) ?_
  first
    | refine DL_c (op_ext _ rfl (rfl : _ = some (AV.sl _ _))) ?_
    | refine DL_c (op_ext _ rfl (rfl : _ = some (AV.ref _ _ _))) ?_
    | refine DL_c (op_ext _ rfl (rfl : _ = some (AV.v (.slice _ _ _)))) ?_
    | refine DL_c (op_ext _ rfl (rfl : _ = some (AV.z))) ?_
  first
    | refine DL_c (op_ext _ rfl (rfl : _ = some (AV.sl _ _))) ?_
    | refine DL_c (op_ext _ rfl (rfl : _ = some (AV.ref _ _ _))) ?_
    | refine DL_c (op_ext _ rfl (rfl : _ = some (AV.v (.slice _ _ _)))) ?_
    | refine DL_c (op_ext _ rfl (rfl : _ = some (AV.z))) ?_
  refine DL_c (op_as _ (rfl : _ = AV.sl _ _)) ?_
  refine DL_c (op_as _ (rfl : _ = AV.sl _ _)) ?_
  refine DL_nil (hK2 _ ?_)
  clear hK2; try clear K2
  refine D_seq fun K3 hK3 => ?_
  refine D_region ?_
  refine DL_c (op_mv _ (rfl : _ = AV.sl _ _)) ?_
  refine DL_c (op_callH inferInstance (by repeat' (first | exact argsLv_nil | refine argsLv_cons ?_ ?_ | exact Lv.v | exact lvI (by omega) | exact Lv.sl | exact Lv.fp | exact Lv.nil | refine Lv.agg rfl ?_ | refine Lv.fn rfl ?_ rfl ?_ | exact lv_nil | refine lv_cons ?_ ?_ | exact Lv.z0)) (hNw) rfl rfl) ?_
  refine DL_c (op_mv _ (rfl : _ = AV.tup _)) ?_
  first
    | refine DL_c (op_ext _ rfl (rfl : _ = some (AV.ptr _ _))) ?_
    | refine DL_c (op_ext _ rfl (rfl : _ = some (AV.fp _ _))) ?_
    | refine DL_c (op_ext _ rfl (rfl : _ = some (AV.v (.pointer _)))) ?_
  refine DL_c (op_ext _ rfl (rfl : _ = some (AV.v (.int _ _)))) ?_
  refine DL_c (op_as _ (rfl : _ = AV.fp _ _)) ?_
  refine DL_c (op_as _ (rfl : _ = AV.v (.int _ _))) ?_
  refine DL_nil (hK3 _ ?_)
  clear hK3; try clear K3
  refine D_seq fun K4 hK4 => ?_
  refine D_le (σ' := mkStI 128 [(5, _), (7, _), (8, _)] [] [] []) (by
    refine Le.mkJ [] [] rfl ?_ ?_ trivial trivial ?_
    · exact ⟨(iS rfl), (iF rfl), (iV rfl), trivial⟩
    · exact trivial
    · kernel_rfl) ?_
  refine D_region ?_
  refine DL_c (op_asN (9, 0) _ 38 2 rfl rfl) ?_
  refine DL_nil (hK4 _ ?_)
  clear hK4; try clear K4
  refine D_seq fun K5 hK5 => ?_
  refine D_region ?_
  refine DL_c (op_asN (10, 0) _ 38 2 rfl rfl) ?_
  refine DL_nil (hK5 _ ?_)
  clear hK5; try clear K5
  refine D_seq fun K6 hK6 => ?_
  refine D_seq fun K7 hK7 => ?_
  refine D_region ?_
  refine DL_c (op_as _ (rfl : _ = AV.v (.int _ _))) ?_
  refine DL_nil (hK7 _ ?_)
  clear hK7; try clear K7
  refine D_block ?_
  refine D_loopL (α := Nat) (fun v => v ≤ n) 128 [(5, _), (7, _), (8, _)] [] (fun v => [(11, .v (.int .i64 (v : Int))), (9, .ref (9, 0) 0 (edg Ps v 0).length), (10, .ref (10, 0) 0 (edg Ps v 0).length)]) (fun v => [((9, 0), .row 38 2 (psl (edg Ps v 0))), ((10, 0), .row 38 2 (psl (swP (edg Ps v 0))))]) [] [] (fun v => n - v) 0 ?_ (by
    refine Le.mkJ [] [] rfl ?_ ?_ trivial trivial ?_
    · exact ⟨(iS rfl), (iF rfl), (iV rfl), (lvI (by first | rfl | omega | (simp; done) | (simp; omega) | assumption)), (lvRr rfl (by first | rfl | omega | (simp; done) | (simp; omega) | assumption)), (lvRr rfl (by first | rfl | omega | (simp; done) | (simp; omega) | assumption)), trivial⟩
    · exact ⟨(obR rfl rfl rfl (by first | rfl | omega | (simp; done) | (simp; omega) | assumption)), (obR rfl rfl rfl (by first | rfl | omega | (simp; done) | (simp; omega) | assumption)), trivial⟩
    · kernel_rfl) ?_
  · first | omega | trivial | exact ⟨by omega, by omega⟩
  intro v hv
  refine D_seq fun K8 hK8 => ?_
  refine D_seq fun K9 hK9 => ?_
  refine D_region ?_
  refine DL_c (op_mv _ (rfl : _ = AV.v (.int _ _))) ?_
  refine DL_c (op_mv _ (rfl : _ = AV.sl _ _)) ?_
  refine DL_c (op_lenS _ inferInstance rfl) ?_
  first
    | refine DL_c (op_lss _ _ rfl rfl (by assumption)) ?_
    | refine DL_c (op_lss _ _ rfl rfl rfl) ?_
  refine DL_nil (hK9 _ ?_)
  clear hK9; try clear K9
  refine D_splitC rfl (fun hc33 => ?_) (fun hc33 => ?_)
  · skip
    have hm3v := hm3 v
    refine D_skip (hK8 _ ?_)
    clear hK8; try clear K8
    refine D_seq fun K10 hK10 => ?_
    refine D_block ?_
    refine D_seq fun K11 hK11 => ?_
    refine D_region ?_
    refine DL_c (op_as _ (rfl : _ = AV.v (.int _ _))) ?_
    refine DL_nil (hK11 _ ?_)
    clear hK11; try clear K11
    refine D_block ?_
    refine D_loopL (α := Nat) (fun j => j ≤ (Ps.getD v []).length) 128 [(5, _), (7, _), (8, _), (11, _)] [] (fun j => [(12, .v (.int .i64 (j : Int))), (9, .ref (9, 0) 0 (edg Ps v j).length), (10, .ref (10, 0) 0 (edg Ps v j).length)]) (fun j => [((9, 0), .row 38 2 (psl (edg Ps v j))), ((10, 0), .row 38 2 (psl (swP (edg Ps v j))))]) [] [] (fun j => (Ps.getD v []).length - j) 0 ?_ (by
      refine Le.mkJ [] [] rfl ?_ ?_ trivial trivial ?_
      · exact ⟨(iS rfl), (iF rfl), (iV rfl), (iV rfl), (lvI (by first | rfl | omega | (first | (rw [edg_succ (by omega), List.length_append]; rfl) | (rw [edg_succ (by omega), ← psl_append]; rfl) | (rw [swP_succ (by omega), ← psl_append]; rfl)) | (simp; done) | (simp; omega) | assumption)), (lvRr rfl (by first | rfl | omega | (first | (rw [edg_succ (by omega), List.length_append]; rfl) | (rw [edg_succ (by omega), ← psl_append]; rfl) | (rw [swP_succ (by omega), ← psl_append]; rfl)) | (simp; done) | (simp; omega) | assumption)), (lvRr rfl (by first | rfl | omega | (first | (rw [edg_succ (by omega), List.length_append]; rfl) | (rw [edg_succ (by omega), ← psl_append]; rfl) | (rw [swP_succ (by omega), ← psl_append]; rfl)) | (simp; done) | (simp; omega) | assumption)), trivial⟩
      · exact ⟨(obR rfl rfl rfl (by first | rfl | omega | (first | (rw [edg_succ (by omega), List.length_append]; rfl) | (rw [edg_succ (by omega), ← psl_append]; rfl) | (rw [swP_succ (by omega), ← psl_append]; rfl)) | (simp; done) | (simp; omega) | assumption)), (obR rfl rfl rfl (by first | rfl | omega | (first | (rw [edg_succ (by omega), List.length_append]; rfl) | (rw [edg_succ (by omega), ← psl_append]; rfl) | (rw [swP_succ (by omega), ← psl_append]; rfl)) | (simp; done) | (simp; omega) | assumption)), trivial⟩
      · kernel_rfl) ?_
    · first | omega | trivial | exact ⟨by omega, by omega⟩
    intro j hj
    have hevj := hedl v j
    have hswl := swP_len (edg Ps v j)
    refine D_seq fun K12 hK12 => ?_
    refine D_seq fun K13 hK13 => ?_
    refine D_region ?_
    refine DL_c (op_mv _ (rfl : _ = AV.v (.int _ _))) ?_
    refine DL_c (op_mv _ (rfl : _ = AV.sl _ _)) ?_
    refine DL_c (op_mv _ (rfl : _ = AV.v (.int _ _))) ?_
    refine DL_c (op_ixS _ _ inferInstance rfl rfl v rfl (by omega) (by omega) (Nat.mul_one _)) ?_
    refine DL_c (op_ldF _ inferInstance rfl (by exact nrows_get _ _ (by omega)) rfl) ?_
    first
      | refine DL_c (op_lenS _ inferInstance rfl) ?_
      | refine DL_c (op_lenR _ inferInstance rfl rfl) ?_
      | refine DL_c (op_lenN _ inferInstance rfl) ?_
      | refine DL_c (op_lenB _ inferInstance rfl rfl) ?_
      | refine DL_c (op_lenZ _ inferInstance rfl) ?_
    first
      | refine DL_c (op_lss _ _ rfl rfl (by assumption)) ?_
      | refine DL_c (op_lss _ _ rfl rfl rfl) ?_
    refine DL_nil (hK13 _ ?_)
    clear hK13; try clear K13
    refine D_splitC rfl (fun hc42 => ?_) (fun hc42 => ?_)
    · skip
      refine D_skip (hK12 _ ?_)
      clear hK12; try clear K12
      refine D_seq fun K14 hK14 => ?_
      refine D_block ?_
      refine D_seq fun K15 hK15 => ?_
      refine D_region ?_
      refine DL_c (op_mv _ (rfl : _ = AV.ref _ _ _)) ?_
      refine DL_c (op_mv _ (rfl : _ = AV.sl _ _)) ?_
      refine DL_c (op_mv _ (rfl : _ = AV.v (.int _ _))) ?_
      refine DL_c (op_ixS _ _ inferInstance rfl rfl v rfl (by omega) (by omega) (Nat.mul_one _)) ?_
      refine DL_c (op_ldF _ inferInstance rfl (by exact nrows_get _ _ (by omega)) rfl) ?_
      refine DL_c (op_mv _ (rfl : _ = AV.v (.int _ _))) ?_
      first
        | refine DL_c (op_ixS _ _ inferInstance rfl rfl _ rfl (by omega) (by first | assumption | decide | (simp only [isl_len, bsl_len, psl_len, mrows_len, nsl_len, ws_len, List.length_map, ul_len, psl_len, isl_len, nrows_len, prL_len, ren32_len]; omega) | (simp; done) | (simp; omega) | (simp [isl, bsl]; omega)) (by first | exact Nat.mul_one _ | rfl | omega)) ?_
        | refine DL_c (op_ixS _ _ inferInstance rfl rfl (Int.toNat _) (Int.toNat_of_nonneg (by omega)).symm (by omega) (by first | assumption | decide | (simp only [isl_len, bsl_len, psl_len, mrows_len, nsl_len, ws_len, List.length_map, ul_len, psl_len, isl_len, nrows_len, prL_len, ren32_len]; omega) | (simp; done) | (simp; omega) | (simp [isl, bsl]; omega)) (by first | exact Nat.mul_one _ | rfl | omega)) ?_
        | refine DL_c (op_ixR _ _ inferInstance rfl rfl rfl _ rfl (by omega) (by first | exact (Nat.zero_add _).trans (Nat.mul_one _) | exact Nat.zero_add _ | rfl | omega)) ?_
        | refine DL_c (op_ixR _ _ inferInstance rfl rfl rfl (Int.toNat _) (Int.toNat_of_nonneg (by omega)).symm (by omega) (by first | exact (Nat.zero_add _).trans (Nat.mul_one _) | exact Nat.zero_add _ | rfl | omega)) ?_
        | refine DL_c (op_ixB _ _ inferInstance rfl rfl rfl _ rfl (by omega) (by first | exact (Nat.zero_add _).trans (Nat.mul_one _) | exact Nat.zero_add _ | rfl | omega)) ?_
        | refine DL_c (op_ixB _ _ inferInstance rfl rfl rfl (Int.toNat _) (Int.toNat_of_nonneg (by omega)).symm (by omega) (by first | exact (Nat.zero_add _).trans (Nat.mul_one _) | exact Nat.zero_add _ | rfl | omega)) ?_
      first
        | refine DL_c (op_ldB _ inferInstance rfl rfl (rfl : _ = some (AV.v (.int _ _)))) ?_
        | refine DL_c (op_ldR _ inferInstance rfl rfl (by first | rfl | exact isl_get _ _ (by omega) | exact bsl_get _ _ (by omega) | assumption | exact isl_get _ _ (by omega) | exact nsl_get _ _ (by omega) | exact nrows_get _ _ (by omega)) rfl) ?_
        | refine DL_c (op_ldF _ inferInstance rfl (by first | rfl | exact isl_get _ _ (by omega) | exact bsl_get _ _ (by omega) | assumption | exact isl_get _ _ (by omega) | exact nsl_get _ _ (by omega) | exact nrows_get _ _ (by omega)) rfl) ?_
      refine DL_c (op_mv _ (rfl : _ = AV.v (.int _ _))) ?_
      refine DL_c (op_build _ inferInstance rfl (by exact (rfl : _ = some [_, _]))) ?_
      refine DL_c (op_bsF _ _ inferInstance rfl (by rfl) (by simp <;> rfl) (by decide) rfl) ?_
      refine DL_c (op_ap (56, 0) _ _ inferInstance rfl rfl (by first | rfl | omega | (simp only [isl_len, bsl_len, psl_len, mrows_len, nsl_len, ws_len, List.length_map, ul_len, psl_len, isl_len, nrows_len, prL_len, ren32_len]; omega) | (simp; done) | (simp; omega)) (by first | exact .nil | (refine .sl ?_; first | (simp [isl]; done) | (simp [isl]; omega)) | (refine .ref rfl rfl ?_; first | (simp; done) | (simp; omega))) (by omega) rfl (rfl) (rfl)) ?_
      refine DL_c (op_as _ (rfl : _ = AV.ref _ _ _)) ?_
      refine DL_nil (hK15 _ ?_)
      clear hK15; try clear K15
      refine D_le (σ' := mkStI 128 [(5, _), (7, _), (8, _), (9, _), (10, _), (11, _), (12, _)] [((10, 0), _), ((56, 0), _)] [] []) (by
        refine Le.mkJ [] [] rfl ?_ ?_ trivial trivial ?_
        · exact ⟨(iS rfl), (iF rfl), (iV rfl), (iR rfl), (iR rfl), (iV rfl), (iV rfl), trivial⟩
        · exact ⟨(obE rfl rfl rfl), (obE rfl rfl rfl), trivial⟩
        · kernel_rfl) ?_
      refine D_region ?_
      refine DL_c (op_mv _ (rfl : _ = AV.ref _ _ _)) ?_
      refine DL_c (op_mv _ (rfl : _ = AV.v (.int _ _))) ?_
      refine DL_c (op_mv _ (rfl : _ = AV.sl _ _)) ?_
      refine DL_c (op_mv _ (rfl : _ = AV.v (.int _ _))) ?_
      refine DL_c (op_ixS _ _ inferInstance rfl rfl v rfl (by omega) (by omega) (Nat.mul_one _)) ?_
      refine DL_c (op_ldF _ inferInstance rfl (by exact nrows_get _ _ (by omega)) rfl) ?_
      refine DL_c (op_mv _ (rfl : _ = AV.v (.int _ _))) ?_
      first
        | refine DL_c (op_ixS _ _ inferInstance rfl rfl _ rfl (by omega) (by first | assumption | decide | (simp only [isl_len, bsl_len, psl_len, mrows_len, nsl_len, ws_len, List.length_map, ul_len, psl_len, isl_len, nrows_len, prL_len, ren32_len]; omega) | (simp; done) | (simp; omega) | (simp [isl, bsl]; omega)) (by first | exact Nat.mul_one _ | rfl | omega)) ?_
        | refine DL_c (op_ixS _ _ inferInstance rfl rfl (Int.toNat _) (Int.toNat_of_nonneg (by omega)).symm (by omega) (by first | assumption | decide | (simp only [isl_len, bsl_len, psl_len, mrows_len, nsl_len, ws_len, List.length_map, ul_len, psl_len, isl_len, nrows_len, prL_len, ren32_len]; omega) | (simp; done) | (simp; omega) | (simp [isl, bsl]; omega)) (by first | exact Nat.mul_one _ | rfl | omega)) ?_
        | refine DL_c (op_ixR _ _ inferInstance rfl rfl rfl _ rfl (by omega) (by first | exact (Nat.zero_add _).trans (Nat.mul_one _) | exact Nat.zero_add _ | rfl | omega)) ?_
        | refine DL_c (op_ixR _ _ inferInstance rfl rfl rfl (Int.toNat _) (Int.toNat_of_nonneg (by omega)).symm (by omega) (by first | exact (Nat.zero_add _).trans (Nat.mul_one _) | exact Nat.zero_add _ | rfl | omega)) ?_
        | refine DL_c (op_ixB _ _ inferInstance rfl rfl rfl _ rfl (by omega) (by first | exact (Nat.zero_add _).trans (Nat.mul_one _) | exact Nat.zero_add _ | rfl | omega)) ?_
        | refine DL_c (op_ixB _ _ inferInstance rfl rfl rfl (Int.toNat _) (Int.toNat_of_nonneg (by omega)).symm (by omega) (by first | exact (Nat.zero_add _).trans (Nat.mul_one _) | exact Nat.zero_add _ | rfl | omega)) ?_
      first
        | refine DL_c (op_ldB _ inferInstance rfl rfl (rfl : _ = some (AV.v (.int _ _)))) ?_
        | refine DL_c (op_ldR _ inferInstance rfl rfl (by first | rfl | exact isl_get _ _ (by omega) | exact bsl_get _ _ (by omega) | assumption | exact isl_get _ _ (by omega) | exact nsl_get _ _ (by omega) | exact nrows_get _ _ (by omega)) rfl) ?_
        | refine DL_c (op_ldF _ inferInstance rfl (by first | rfl | exact isl_get _ _ (by omega) | exact bsl_get _ _ (by omega) | assumption | exact isl_get _ _ (by omega) | exact nsl_get _ _ (by omega) | exact nrows_get _ _ (by omega)) rfl) ?_
      refine DL_c (op_build _ inferInstance rfl (by exact (rfl : _ = some [_, _]))) ?_
      refine DL_c (op_bsF _ _ inferInstance rfl (by rfl) (by simp <;> rfl) (by decide) rfl) ?_
      refine DL_c (op_ap (68, 0) _ _ inferInstance rfl rfl (by first | rfl | omega | (simp only [isl_len, bsl_len, psl_len, mrows_len, nsl_len, ws_len, List.length_map, ul_len, psl_len, isl_len, nrows_len, prL_len, ren32_len]; omega) | (simp; done) | (simp; omega)) (by first | exact .nil | (refine .sl ?_; first | (simp [isl]; done) | (simp [isl]; omega)) | (refine .ref rfl rfl ?_; first | (simp; done) | (simp; omega))) (by omega) rfl (rfl) (rfl)) ?_
      refine DL_c (op_as _ (rfl : _ = AV.ref _ _ _)) ?_
      refine DL_nil (hK14 _ ?_)
      clear hK14; try clear K14
      refine D_region ?_
      refine DL_c (op_mv _ (rfl : _ = AV.v (.int _ _))) ?_
      first
        | refine DL_c (op_add _ _ rfl rfl (i64w (by omega))) ?_
        | refine DL_c (op_add _ _ rfl rfl rfl) ?_
      refine DL_c (op_as _ (rfl : _ = AV.v (.int _ _))) ?_
      refine DL_nil ?_
      refine ⟨j + 1, ?_, ?_, ?_⟩
      · first | omega | trivial | exact ⟨by omega, by omega⟩
      · skip
        refine Le.mkJ [((9, 0), (56, 0)), ((10, 0), (68, 0))] [] rfl ?_ ?_ trivial trivial ?_
        · exact ⟨(by repeat' (first | exact Lv.v | exact Lv.sl | exact Lv.fp | exact lvRr (id := (9, 0)) rfl rfl | exact lvPr (id := (9, 0)) rfl | exact lvRr (id := (10, 0)) rfl rfl | exact lvPr (id := (10, 0)) rfl | exact lvRr rfl rfl | exact lvPr rfl | exact Lv.mp | exact Lv.nil | exact Lv.z | exact Lv.dead | refine Lv.agg rfl ?_ | refine Lv.fn rfl ?_ rfl ?_ | refine Lv.tup rfl ?_ | refine Lv.ifc ?_ | exact lv_nil | refine lv_cons ?_ ?_)), (by repeat' (first | exact Lv.v | exact Lv.sl | exact Lv.fp | exact lvRr (id := (9, 0)) rfl rfl | exact lvPr (id := (9, 0)) rfl | exact lvRr (id := (10, 0)) rfl rfl | exact lvPr (id := (10, 0)) rfl | exact lvRr rfl rfl | exact lvPr rfl | exact Lv.mp | exact Lv.nil | exact Lv.z | exact Lv.dead | refine Lv.agg rfl ?_ | refine Lv.fn rfl ?_ rfl ?_ | refine Lv.tup rfl ?_ | refine Lv.ifc ?_ | exact lv_nil | refine lv_cons ?_ ?_)), (by repeat' (first | exact Lv.v | exact Lv.sl | exact Lv.fp | exact lvRr (id := (9, 0)) rfl rfl | exact lvPr (id := (9, 0)) rfl | exact lvRr (id := (10, 0)) rfl rfl | exact lvPr (id := (10, 0)) rfl | exact lvRr rfl rfl | exact lvPr rfl | exact Lv.mp | exact Lv.nil | exact Lv.z | exact Lv.dead | refine Lv.agg rfl ?_ | refine Lv.fn rfl ?_ rfl ?_ | refine Lv.tup rfl ?_ | refine Lv.ifc ?_ | exact lv_nil | refine lv_cons ?_ ?_)), (by repeat' (first | exact Lv.v | exact Lv.sl | exact Lv.fp | exact lvRr (id := (9, 0)) rfl rfl | exact lvPr (id := (9, 0)) rfl | exact lvRr (id := (10, 0)) rfl rfl | exact lvPr (id := (10, 0)) rfl | exact lvRr rfl rfl | exact lvPr rfl | exact Lv.mp | exact Lv.nil | exact Lv.z | exact Lv.dead | refine Lv.agg rfl ?_ | refine Lv.fn rfl ?_ rfl ?_ | refine Lv.tup rfl ?_ | refine Lv.ifc ?_ | exact lv_nil | refine lv_cons ?_ ?_)), (lvI (by first | rfl | omega | (first | (rw [edg_succ (by omega), List.length_append]; rfl) | (rw [edg_succ (by omega), ← psl_append]; rfl) | (rw [swP_succ (by omega), ← psl_append]; rfl)) | (simp; done) | (simp; omega) | assumption)), (lvRr rfl (by first | rfl | omega | (first | (rw [edg_succ (by omega), List.length_append]; rfl) | (rw [edg_succ (by omega), ← psl_append]; rfl) | (rw [swP_succ (by omega), ← psl_append]; rfl)) | (simp; done) | (simp; omega) | assumption)), (lvRr rfl (by first | rfl | omega | (first | (rw [edg_succ (by omega), List.length_append]; rfl) | (rw [edg_succ (by omega), ← psl_append]; rfl) | (rw [swP_succ (by omega), ← psl_append]; rfl)) | (simp; done) | (simp; omega) | assumption)), trivial⟩
        · exact ⟨(obR rfl rfl rfl (by first | rfl | omega | (first | (rw [edg_succ (by omega), List.length_append]; rfl) | (rw [edg_succ (by omega), ← psl_append]; rfl) | (rw [swP_succ (by omega), ← psl_append]; rfl)) | (simp; done) | (simp; omega) | assumption)), (obR rfl rfl rfl (by first | rfl | omega | (first | (rw [edg_succ (by omega), List.length_append]; rfl) | (rw [edg_succ (by omega), ← psl_append]; rfl) | (rw [swP_succ (by omega), ← psl_append]; rfl)) | (simp; done) | (simp; omega) | assumption)), trivial⟩
        · kernel_rfl
      · omega
    · skip
      have hjl : j = (Ps.getD v []).length := by omega
      refine D_exit ?_
      refine id (hK10 _ ?_)
      clear hK10; try clear K10
      refine D_region ?_
      refine DL_c (op_mv _ (rfl : _ = AV.v (.int _ _))) ?_
      first
        | refine DL_c (op_add _ _ rfl rfl (i64w (by omega))) ?_
        | refine DL_c (op_add _ _ rfl rfl rfl) ?_
      refine DL_c (op_as _ (rfl : _ = AV.v (.int _ _))) ?_
      refine DL_nil ?_
      refine ⟨v + 1, ?_, ?_, ?_⟩
      · first | omega | trivial | exact ⟨by omega, by omega⟩
      · skip
        refine Le.mkJ [] [] rfl ?_ ?_ trivial trivial ?_
        · exact ⟨(iS rfl), (iF rfl), (iV rfl), (lvI (by first | rfl | omega | (simp; done) | (simp; omega) | assumption)), (lvRr rfl (by rw [hjl, edg_next])), (lvRr rfl (by rw [hjl, edg_next])), trivial⟩
        · exact ⟨(obR rfl rfl rfl (by rw [hjl, edg_next])), (obR rfl rfl rfl (by rw [hjl, edg_next])), trivial⟩
        · kernel_rfl
      · omega
  · skip
    obtain rfl : v = n := by omega
    have hps1 : (psl (edg Ps v 0)).length = (edg Ps v 0).length * 2 := by rw [psl_len]; omega
    have hps2 : (psl (swP (edg Ps v 0))).length = (edg Ps v 0).length * 2 := by rw [psl_len, swP_len]; omega
    refine D_exit ?_
    refine id (hK6 _ ?_)
    clear hK6; try clear K6
    refine D_seq fun K16 hK16 => ?_
    refine D_le (Le.trans (Le.frzS (ys := psl (edg Ps v 0)) 9 rfl rfl rfl (by rw [List.drop_zero]; exact List.take_of_length_le (by omega)) (by omega)) (Le.frzS (ys := psl (swP (edg Ps v 0))) 10 rfl rfl rfl (by rw [List.drop_zero]; exact List.take_of_length_le (by omega)) (by omega))) ?_
    refine D_region ?_
    refine DL_c (op_mv _ (rfl : _ = AV.sl _ _)) ?_
    refine DL_c (op_lenS _ inferInstance rfl) ?_
    refine DL_c (op_mv _ (rfl : _ = AV.sl _ _)) ?_
    refine DL_c (op_callH inferInstance (by repeat' (first | exact argsLv_nil | refine argsLv_cons ?_ ?_ | exact Lv.v | exact lvI (by omega) | exact Lv.sl | exact Lv.fp | exact Lv.nil | refine Lv.agg rfl ?_ | refine Lv.fn rfl ?_ rfl ?_ | exact lv_nil | refine lv_cons ?_ ?_ | exact Lv.z0)) (hO) rfl rfl) ?_
    refine DL_c (op_mv _ (rfl : _ = AV.tup _)) ?_
    first
      | refine DL_c (op_ext _ rfl (rfl : _ = some (AV.ptr _ _))) ?_
      | refine DL_c (op_ext _ rfl (rfl : _ = some (AV.fp _ _))) ?_
      | refine DL_c (op_ext _ rfl (rfl : _ = some (AV.v (.pointer _)))) ?_
    refine DL_c (op_ext _ rfl (rfl : _ = some (AV.v (.int _ _)))) ?_
    refine DL_c (op_as _ (rfl : _ = AV.fp _ _)) ?_
    refine DL_c (op_as _ (rfl : _ = AV.v (.int _ _))) ?_
    refine DL_nil (hK16 _ ?_)
    clear hK16; try clear K16
    refine D_seq fun K17 hK17 => ?_
    refine D_seq fun K18 hK18 => ?_
    refine D_region ?_
    refine DL_c (op_mv _ (rfl : _ = AV.fp _ _)) ?_
    refine DL_c (op_eqN _ _ (by kernel_rfl) (.inr ⟨_, _, rfl⟩) rfl) ?_
    refine DL_c (op_mv _ (rfl : _ = AV.v (.bool _))) ?_
    refine DL_cy rfl rfl (op_mv _ (rfl : _ = AV.fp _ _)) ?_
    refine DL_cy rfl rfl (op_eqN _ _ (by kernel_rfl) (.inr ⟨_, _, rfl⟩) rfl) ?_
    refine DL_c (op_pick _ _ _ rfl (rfl : _ = AV.v (.bool _))) ?_
    refine DL_c (op_mv _ (rfl : _ = AV.v (.bool _))) ?_
    refine DL_cy rfl rfl (op_mv _ (rfl : _ = AV.v (.int _ _))) ?_
    refine DL_cy rfl rfl (op_neq (r := false) _ _ rfl rfl rfl) ?_
    refine DL_c (op_pick _ _ _ rfl (rfl : _ = AV.v (.bool _))) ?_
    refine DL_c (op_mv _ (rfl : _ = AV.v (.bool _))) ?_
    refine DL_caseC (fun hg86 => ?_) (fun hg86 => ?_)
    · skip
      refine DL_cn rfl rfl (by decide) ?_
      refine DL_cn rfl rfl (by decide) ?_
      refine DL_c (op_pick _ _ _ rfl (rfl : _ = AV.v (.bool _))) ?_
      refine DL_nil (hK18 _ ?_)
      clear hK18; try clear K18
      refine D_cT rfl rfl ?_
      refine D_seq fun K19 hK19 => ?_
      refine D_le (σ' := mkStI 128 [] [] [] []) (by
        refine Le.mkJ [] [] rfl ?_ ?_ trivial trivial ?_
        · exact trivial
        · exact trivial
        · kernel_rfl) ?_
      refine D_region ?_
      refine DL_c (op_as _ (rfl : _ = AV.v (.bool _))) ?_
      refine DL_nil (hK19 _ ?_)
      clear hK19; try clear K19
      refine D_ret ?_
      exact absurd hg86 (by simp)
    · skip
      refine DL_cy rfl rfl (op_mv _ (rfl : _ = AV.v (.int _ _))) ?_
      refine DL_cy rfl rfl (op_neq (r := false) _ _ rfl rfl rfl) ?_
      refine DL_c (op_pick _ _ _ rfl (rfl : _ = AV.v (.bool _))) ?_
      refine DL_nil (hK18 _ ?_)
      clear hK18; try clear K18
      refine D_splitC rfl (fun hc89 => ?_) (fun hc89 => ?_)
      · skip
        exact absurd  hc89 (by simp)
      · skip
        refine D_skip (hK17 _ ?_)
        clear hK17; try clear K17
        refine D_seq fun K20 hK20 => ?_
        refine D_seq fun K21 hK21 => ?_
        refine D_le (σ' := mkStI 128 [(5, _), (7, _), (10, _), (13, _)] [] [] []) (by
          refine Le.mkJ [] [] rfl ?_ ?_ trivial trivial ?_
          · exact ⟨(iS rfl), (iF rfl), (iS rfl), (iF rfl), trivial⟩
          · exact trivial
          · kernel_rfl) ?_
        refine D_region ?_
        refine DL_c (op_as _ (rfl : _ = AV.v (.int _ _))) ?_
        refine DL_nil (hK21 _ ?_)
        clear hK21; try clear K21
        refine D_block ?_
        refine D_loopL (α := Nat) (fun w => w ≤ v) 128 [(5, _), (7, _), (10, _), (13, _)] [] (fun w => [(15, .v (.int .i64 (w : Int)))]) (fun w => []) [] [] (fun w => v - w) 0 ?_ (by
          refine Le.mkJ [] [] rfl ?_ ?_ trivial trivial ?_
          · exact ⟨(iS rfl), (iF rfl), (iS rfl), (iF rfl), (lvI (by first | rfl | omega | (simp; done) | (simp; omega) | assumption)), trivial⟩
          · exact trivial
          · kernel_rfl) ?_
        · first | omega | trivial | exact ⟨by omega, by omega⟩
        intro w hw
        refine D_seq fun K22 hK22 => ?_
        refine D_seq fun K23 hK23 => ?_
        refine D_region ?_
        refine DL_c (op_mv _ (rfl : _ = AV.v (.int _ _))) ?_
        refine DL_c (op_mv _ (rfl : _ = AV.sl _ _)) ?_
        refine DL_c (op_lenS _ inferInstance rfl) ?_
        first
          | refine DL_c (op_lss _ _ rfl rfl (by assumption)) ?_
          | refine DL_c (op_lss _ _ rfl rfl rfl) ?_
        refine DL_nil (hK23 _ ?_)
        clear hK23; try clear K23
        refine D_splitC rfl (fun hc93 => ?_) (fun hc93 => ?_)
        · skip
          have hul := upE_len Ps w
          have hRw := hRe w (by omega)
          rw [hRu w (by omega)] at hRw
          have hsm := same_spec (upE Ps w).length (upE Ps w).length ((upE Ps w).map fun (x : Nat) => (x : Int)) ((upE Ps w).map fun (x : Nat) => (x : Int)) (by simp) (by simp) (by omega) (by omega)
          rw [decide_eq_true rfl] at hsm
          refine D_skip (hK22 _ ?_)
          clear hK22; try clear K22
          refine D_seq fun K24 hK24 => ?_
          refine D_block ?_
          refine D_seq fun K25 hK25 => ?_
          refine D_region ?_
          refine DL_c (op_mv _ (rfl : _ = AV.fp _ _)) ?_
          refine DL_c (op_mv _ (rfl : _ = AV.v (.int _ _))) ?_
          refine DL_c (op_callH inferInstance (by repeat' (first | exact argsLv_nil | refine argsLv_cons ?_ ?_ | exact Lv.v | exact lvI (by omega) | exact Lv.sl | exact Lv.fp | exact Lv.nil | refine Lv.agg rfl ?_ | refine Lv.fn rfl ?_ rfl ?_ | exact lv_nil | refine lv_cons ?_ ?_ | exact Lv.z0)) (ancsN_spec hPs hn64 (parW Ps) w) rfl rfl) ?_
          refine DL_c (op_as _ (rfl : _ = AV.sl _ _)) ?_
          refine DL_nil (hK25 _ ?_)
          clear hK25; try clear K25
          refine D_seq fun K26 hK26 => ?_
          refine D_seq fun K27 hK27 => ?_
          refine D_region ?_
          refine DL_c (op_mv _ (rfl : _ = AV.sl _ _)) ?_
          refine DL_c (op_mv _ (rfl : _ = AV.sl _ _)) ?_
          refine DL_c (op_lenS _ inferInstance rfl) ?_
          refine DL_c (op_mv _ (rfl : _ = AV.sl _ _)) ?_
          refine DL_c (op_mv _ (rfl : _ = AV.v (.int _ _))) ?_
          refine DL_c (op_bsF _ _ inferInstance rfl (by rfl) (by simp <;> rfl) (by decide) rfl) ?_
          refine DL_c (op_callH inferInstance (by repeat' (first | exact argsLv_nil | refine argsLv_cons ?_ ?_ | exact Lv.v | exact lvI (by omega) | exact Lv.sl | exact Lv.fp | exact Lv.nil | refine Lv.agg rfl ?_ | refine Lv.fn rfl ?_ rfl ?_ | exact lv_nil | refine lv_cons ?_ ?_ | exact Lv.z0)) (hRw) rfl rfl) ?_
          refine DL_c (op_callH inferInstance (by repeat' (first | exact argsLv_nil | refine argsLv_cons ?_ ?_ | exact Lv.v | exact lvI (by omega) | exact Lv.sl | exact Lv.fp | exact Lv.nil | refine Lv.agg rfl ?_ | refine Lv.fn rfl ?_ rfl ?_ | exact lv_nil | refine lv_cons ?_ ?_ | exact Lv.z0)) (hsm) rfl rfl) ?_
          refine DL_c (op_not _ rfl rfl) ?_
          refine DL_nil (hK27 _ ?_)
          clear hK27; try clear K27
          refine D_splitC rfl (fun hc107 => ?_) (fun hc107 => ?_)
          · skip
            exact absurd  hc107 (by simp)
          · skip
            refine D_skip (hK26 _ ?_)
            clear hK26; try clear K26
            refine D_seq fun K28 hK28 => ?_
            refine D_le (σ' := mkStI 128 [(5, _), (7, _), (10, _), (13, _), (15, _), (16, _)] [] [] []) (by
              refine Le.mkJ [] [] rfl ?_ ?_ trivial trivial ?_
              · exact ⟨(iS rfl), (iF rfl), (iS rfl), (iF rfl), (iV rfl), (iS rfl), trivial⟩
              · exact trivial
              · kernel_rfl) ?_
            refine D_region ?_
            refine DL_c (op_as _ (rfl : _ = AV.v (.int _ _))) ?_
            refine DL_nil (hK28 _ ?_)
            clear hK28; try clear K28
            refine D_block ?_
            refine D_loopL (α := Nat) (fun u => u ≤ v) 128 [(5, _), (7, _), (10, _), (13, _), (15, _), (16, _)] [] (fun u => [(17, .v (.int .i64 (u : Int)))]) (fun u => []) [] [] (fun u => v - u) 0 ?_ (by
              refine Le.mkJ [] [] rfl ?_ ?_ trivial trivial ?_
              · exact ⟨(iS rfl), (iF rfl), (iS rfl), (iF rfl), (iV rfl), (iS rfl), (lvI (by first | rfl | omega | (simp; done) | (simp; omega) | assumption)), trivial⟩
              · exact trivial
              · kernel_rfl) ?_
            · first | omega | trivial | exact ⟨by omega, by omega⟩
            intro u hu
            refine D_seq fun K29 hK29 => ?_
            refine D_seq fun K30 hK30 => ?_
            refine D_region ?_
            refine DL_c (op_mv _ (rfl : _ = AV.v (.int _ _))) ?_
            refine DL_c (op_mv _ (rfl : _ = AV.sl _ _)) ?_
            refine DL_c (op_lenS _ inferInstance rfl) ?_
            first
              | refine DL_c (op_lss _ _ rfl rfl (by assumption)) ?_
              | refine DL_c (op_lss _ _ rfl rfl rfl) ?_
            refine DL_nil (hK30 _ ?_)
            clear hK30; try clear K30
            refine D_splitC rfl (fun hc111 => ?_) (fun hc111 => ?_)
            · skip
              have hmu := hme u w (by omega) (by omega)
              have hlu := hLe u w
              rw [oless_cl (by omega) (by omega)] at hlu
              have hdc : decide (u ∈ upE Ps w) = (decide (u = w) || cl (edg Ps v 0) u w) := by
                rw [Bool.eq_iff_iff]
                simp only [decide_eq_true_eq, Bool.or_eq_true, cl_iff]
                rw [hmu, hPs]
                exact ⟨fun h => h.2, fun h => ⟨by omega, h⟩⟩
              refine D_skip (hK29 _ ?_)
              clear hK29; try clear K29
              refine D_seq fun K31 hK31 => ?_
              refine D_block ?_
              refine D_seq fun K32 hK32 => ?_
              refine D_region ?_
              refine DL_c (op_mv _ (rfl : _ = AV.sl _ _)) ?_
              refine DL_c (op_mv _ (rfl : _ = AV.v (.int _ _))) ?_
              refine DL_c (op_callH inferInstance (by repeat' (first | exact argsLv_nil | refine argsLv_cons ?_ ?_ | exact Lv.v | exact lvI (by omega) | exact Lv.sl | exact Lv.fp | exact Lv.nil | refine Lv.agg rfl ?_ | refine Lv.fn rfl ?_ rfl ?_ | exact lv_nil | refine lv_cons ?_ ?_ | exact Lv.z0)) (hasNN_spec _ (upE Ps w) u rfl (by omega)) rfl rfl) ?_
              refine DL_c (op_mv _ (rfl : _ = AV.v (.int _ _))) ?_
              refine DL_c (op_mv _ (rfl : _ = AV.v (.int _ _))) ?_
              first
                | refine DL_c (op_eql _ _ rfl rfl (by assumption)) ?_
                | refine DL_c (op_eql _ _ rfl rfl rfl) ?_
              refine DL_c (op_mv _ (rfl : _ = AV.v (.bool _))) ?_
              refine DL_caseC (fun hg120 => ?_) (fun hg120 => ?_)
              · skip
                refine DL_cn rfl rfl (by decide) ?_
                refine DL_cn rfl rfl (by decide) ?_
                refine DL_cn rfl rfl (by decide) ?_
                refine DL_cn rfl rfl (by decide) ?_
                refine DL_c (op_pick _ _ _ rfl (rfl : _ = AV.v (.bool _))) ?_
                refine DL_c (op_neB _ _ rfl rfl Try.underlying4 rfl) ?_
                refine DL_nil (hK32 _ ?_)
                clear hK32; try clear K32
                refine D_splitC rfl (fun hc126 => ?_) (fun hc126 => ?_)
                · skip
                  exact absurd  hc126 (by rw [hdc]; first | (rw [decide_eq_true (show u = w by omega)]; simp; done) | (rw [decide_eq_false (show ¬ u = w by omega)]; simp))
                · skip
                  refine D_skip (hK31 _ ?_)
                  clear hK31; try clear K31
                  refine D_le (σ' := mkStI 128 [(5, _), (7, _), (10, _), (13, _), (15, _), (16, _), (17, _)] [] [] []) (by
                    refine Le.mkJ [] [] rfl ?_ ?_ trivial trivial ?_
                    · exact ⟨(iS rfl), (iF rfl), (iS rfl), (iF rfl), (iV rfl), (iS rfl), (iV rfl), trivial⟩
                    · exact trivial
                    · kernel_rfl) ?_
                  refine D_region ?_
                  refine DL_c (op_mv _ (rfl : _ = AV.v (.int _ _))) ?_
                  first
                    | refine DL_c (op_add _ _ rfl rfl (i64w (by omega))) ?_
                    | refine DL_c (op_add _ _ rfl rfl rfl) ?_
                  refine DL_c (op_as _ (rfl : _ = AV.v (.int _ _))) ?_
                  refine DL_nil ?_
                  refine ⟨u + 1, ?_, ?_, ?_⟩
                  · first | omega | trivial | exact ⟨by omega, by omega⟩
                  · skip
                    refine Le.mkJ [] [] rfl ?_ ?_ trivial trivial ?_
                    · exact ⟨(iS rfl), (iF rfl), (iS rfl), (iF rfl), (iV rfl), (iS rfl), (lvI (by first | rfl | omega | (simp; done) | (simp; omega) | assumption)), trivial⟩
                    · exact trivial
                    · kernel_rfl
                  · omega
              · skip
                refine DL_cy rfl rfl (op_mv _ (rfl : _ = AV.fp _ _)) ?_
                refine DL_cy rfl rfl (op_mv _ (rfl : _ = AV.v (.int _ _))) ?_
                refine DL_cy rfl rfl (op_mv _ (rfl : _ = AV.v (.int _ _))) ?_
                refine DL_cy rfl rfl (op_callH inferInstance (by repeat' (first | exact argsLv_nil | refine argsLv_cons ?_ ?_ | exact Lv.v | exact lvI (by omega) | exact Lv.sl | exact Lv.fp | exact Lv.nil | refine Lv.agg rfl ?_ | refine Lv.fn rfl ?_ rfl ?_ | exact lv_nil | refine lv_cons ?_ ?_ | exact Lv.z0)) (hlu) rfl rfl) ?_
                refine DL_c (op_pick _ _ _ rfl (rfl : _ = AV.v (.bool _))) ?_
                refine DL_c (op_neB _ _ rfl rfl Try.underlying4 rfl) ?_
                refine DL_nil (hK32 _ ?_)
                clear hK32; try clear K32
                refine D_splitC rfl (fun hc126 => ?_) (fun hc126 => ?_)
                · skip
                  exact absurd  hc126 (by rw [hdc]; first | (rw [decide_eq_true (show u = w by omega)]; simp; done) | (rw [decide_eq_false (show ¬ u = w by omega)]; simp))
                · skip
                  refine D_skip (hK31 _ ?_)
                  clear hK31; try clear K31
                  refine D_le (σ' := mkStI 128 [(5, _), (7, _), (10, _), (13, _), (15, _), (16, _), (17, _)] [] [] []) (by
                    refine Le.mkJ [] [] rfl ?_ ?_ trivial trivial ?_
                    · exact ⟨(iS rfl), (iF rfl), (iS rfl), (iF rfl), (iV rfl), (iS rfl), (iV rfl), trivial⟩
                    · exact trivial
                    · kernel_rfl) ?_
                  refine D_region ?_
                  refine DL_c (op_mv _ (rfl : _ = AV.v (.int _ _))) ?_
                  first
                    | refine DL_c (op_add _ _ rfl rfl (i64w (by omega))) ?_
                    | refine DL_c (op_add _ _ rfl rfl rfl) ?_
                  refine DL_c (op_as _ (rfl : _ = AV.v (.int _ _))) ?_
                  refine DL_nil ?_
                  refine ⟨u + 1, ?_, ?_, ?_⟩
                  · first | omega | trivial | exact ⟨by omega, by omega⟩
                  · skip
                    refine Le.mkJ [] [] rfl ?_ ?_ trivial trivial ?_
                    · exact ⟨(iS rfl), (iF rfl), (iS rfl), (iF rfl), (iV rfl), (iS rfl), (lvI (by first | rfl | omega | (simp; done) | (simp; omega) | assumption)), trivial⟩
                    · exact trivial
                    · kernel_rfl
                  · omega
            · skip
              refine D_exit ?_
              refine id (hK24 _ ?_)
              clear hK24; try clear K24
              refine D_region ?_
              refine DL_c (op_mv _ (rfl : _ = AV.v (.int _ _))) ?_
              first
                | refine DL_c (op_add _ _ rfl rfl (i64w (by omega))) ?_
                | refine DL_c (op_add _ _ rfl rfl rfl) ?_
              refine DL_c (op_as _ (rfl : _ = AV.v (.int _ _))) ?_
              refine DL_nil ?_
              refine ⟨w + 1, ?_, ?_, ?_⟩
              · first | omega | trivial | exact ⟨by omega, by omega⟩
              · skip
                refine Le.mkJ [] [] rfl ?_ ?_ trivial trivial ?_
                · exact ⟨(iS rfl), (iF rfl), (iS rfl), (iF rfl), (lvI (by first | rfl | omega | (simp; done) | (simp; omega) | assumption)), trivial⟩
                · exact trivial
                · kernel_rfl
              · omega
        · skip
          refine D_exit ?_
          refine id (hK20 _ ?_)
          clear hK20; try clear K20
          refine D_seq fun K33 hK33 => ?_
          refine D_region ?_
          refine DL_c (op_callH inferInstance (by repeat' (first | exact argsLv_nil | refine argsLv_cons ?_ ?_ | exact Lv.v | exact lvI (by omega) | exact Lv.sl | exact Lv.fp | exact Lv.nil | refine Lv.agg rfl ?_ | refine Lv.fn rfl ?_ rfl ?_ | exact lv_nil | refine lv_cons ?_ ?_ | exact Lv.z0)) (livesv_spec) rfl rfl) ?_
          refine DL_c (op_as _ (rfl : _ = AV.v (.bool _))) ?_
          refine DL_nil (hK33 _ ?_)
          clear hK33; try clear K33
          refine D_ret ?_
          refine ret1 (.inr rfl) rfl (.tmp (rfl : _ = AV.v (.bool _))) (Le.out [] [] (lvB ?_) rfl rfl rfl trivial trivial)
          rfl
end Go.Proofs.Ytkbkmngbenohkaa
