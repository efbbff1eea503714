/- The reference's Renamed by the machine. -/
import Derived.Test.YtkbkmngbenohkaaOrV8
set_option linter.unusedSimpArgs false
set_option linter.unusedVariables false
namespace Go.Proofs.Ytkbkmngbenohkaa
open Go.RowKit

theorem nsl_take (l : List Nat) (k : Nat) : (nsl l).take k = nsl (l.take k) := by simp [nsl, isl]
theorem nsl_drop (l : List Nat) (k : Nat) : (nsl l).drop k = nsl (l.drop k) := by simp [nsl, isl]
theorem rn_set {n : Nat} {Ps : List (List Int)} {to : List Nat} (h : Pm n to) {v j : Nat} (hv : v < n) (hj : j < (Ps.getD v []).length) : (rnR n Ps to v (j + 1)).map isl = ((rnR n Ps to v j).map isl).set (to.getD v 0) (isl ((rnR n Ps to v j).getD (to.getD v 0) []) ++ [.v (.int .i64 (tof to ((Ps.getD v []).getD j 0)))]) := by
  rw [rnR_succ h hv hj, List.map_set]
  congr 1
  simp [isl]
theorem rn_zero (n : Nat) (Ps : List (List Int)) (to : List Nat) : (rnR n Ps to 0 0).map isl = List.replicate n [] := by rw [rnR_zero]; simp [isl]
theorem renamed_spec (n : Nat) (Ps : List (List Int)) (hPs : Ps.length = n) (hn : n ≤ 64) (hV : Valid Ps) (hm : ∀ v, (Ps.getD v []).length ≤ 64) (m : Nat) (l : List Int) (hl : l.length = m) (h1 : m ≤ 4611686018427387904) (hr : Rng l) :
    Spec Try.prog 69 (inSt [.sl n (nrows Ps), .sl m (isl l)] []) (outSt (.tup [.sl n (nrows (ren32 Ps (toP l n))), .sl n (nsl (toP l n))]) []) := by
  have hnr : (nrows Ps).length = n := by simp [hPs]
  refine Spec.ofN Try.func69 rfl Try.ntmps69 rfl ?_
  refine D_seq fun K1 hK1 => ?_
  refine D_region ?_
  first
    | refine DL_c (op_as _ (rfl : _ = AV.sl _ _)) ?_
    | refine DL_c (op_as _ (rfl : _ = AV.ref _ _ _)) ?_
    | refine DL_c (op_as _ (rfl : _ = AV.v (.slice _ _ _))) ?_
    | refine DL_c (op_as _ (rfl : _ = AV.z)) ?_
  first
    | refine DL_c (op_as _ (rfl : _ = AV.sl _ _)) ?_
    | refine DL_c (op_as _ (rfl : _ = AV.ref _ _ _)) ?_
    | refine DL_c (op_as _ (rfl : _ = AV.v (.slice _ _ _))) ?_
    | refine DL_c (op_as _ (rfl : _ = AV.z)) ?_
  refine DL_nil (hK1 _ ?_)
  clear hK1; try clear K1
  refine D_seq fun K2 hK2 => ?_
  refine D_region ?_
  refine DL_c (op_asN (6, 0) _ 3 1 rfl rfl) ?_
  refine DL_nil (hK2 _ ?_)
  clear hK2; try clear K2
  refine D_seq fun K3 hK3 => ?_
  refine D_region ?_
  refine DL_c (op_bs (15, 0) _ _ inferInstance rfl (by rfl) (by simp <;> rfl) (by decide) rfl rfl) ?_
  refine DL_c (op_as _ (rfl : _ = AV.ref _ _ _)) ?_
  refine DL_nil (hK3 _ ?_)
  clear hK3; try clear K3
  refine D_seq fun K4 hK4 => ?_
  refine D_seq fun K5 hK5 => ?_
  refine D_region ?_
  refine DL_c (op_as _ (rfl : _ = AV.v (.int _ _))) ?_
  refine DL_nil (hK5 _ ?_)
  clear hK5; try clear K5
  refine D_block ?_
  refine D_loopL (α := Nat) (fun v => v ≤ n) 99 [(0, _), (1, _), (6, _)] [((6, 0), _)] (fun v => [(8, .v (.int .i64 (v : Int))), (7, .ref (15, 0) 0 v)]) (fun v => [((15, 0), .row 3 1 (nsl (List.range v)))]) [] [] (fun v => n - v) 0 ?_ (by
    refine Le.mkJ [] [] rfl ?_ ?_ trivial trivial ?_
    · exact ⟨(iS rfl), (iS rfl), (iR rfl), (lvI (by first | rfl | omega | (simp; done) | (simp; omega) | assumption)), (lvRr rfl (by first | rfl | omega | (simp; done) | (simp; omega) | assumption)), trivial⟩
    · exact ⟨(obE rfl rfl rfl), (obR rfl rfl rfl (by first | rfl | omega | (simp; done) | (simp; omega) | assumption)), trivial⟩
    · kernel_rfl) ?_
  · first | omega | trivial | exact ⟨by omega, by omega⟩
  intro v hv
  refine D_seq fun K6 hK6 => ?_
  refine D_seq fun K7 hK7 => ?_
  refine D_region ?_
  refine DL_c (op_mv _ (rfl : _ = AV.v (.int _ _))) ?_
  refine DL_c (op_mv _ (rfl : _ = AV.sl _ _)) ?_
  refine DL_c (op_lenS _ inferInstance rfl) ?_
  first
    | refine DL_c (op_lss _ _ rfl rfl (by assumption)) ?_
    | refine DL_c (op_lss _ _ rfl rfl rfl) ?_
  refine DL_nil (hK7 _ ?_)
  clear hK7; try clear K7
  refine D_splitC rfl (fun hc19 => ?_) (fun hc19 => ?_)
  · skip
    refine D_skip (hK6 _ ?_)
    clear hK6; try clear K6
    refine D_seq fun K8 hK8 => ?_
    refine D_block ?_
    refine D_region ?_
    refine DL_c (op_mv _ (rfl : _ = AV.ref _ _ _)) ?_
    refine DL_c (op_mv _ (rfl : _ = AV.v (.int _ _))) ?_
    refine DL_c (op_bsF _ _ inferInstance rfl (by rfl) (by simp <;> rfl) (by decide) rfl) ?_
    refine DL_c (op_ap (25, 0) _ _ inferInstance rfl rfl (by first | rfl | omega | (simp only [isl_len, bsl_len, psl_len, mrows_len, nsl_len, ws_len, List.length_map, ul_len, psl_len, isl_len, nrows_len, rnR_len]; omega) | (simp; done) | (simp; omega)) (by first | exact .nil | (refine .sl ?_; first | (simp [isl]; done) | (simp [isl]; omega)) | (refine .ref rfl rfl ?_; first | (simp; done) | (simp; omega))) (by omega) rfl (rfl) (rfl)) ?_
    refine DL_c (op_as _ (rfl : _ = AV.ref _ _ _)) ?_
    refine DL_nil (hK8 _ ?_)
    clear hK8; try clear K8
    refine D_region ?_
    refine DL_c (op_mv _ (rfl : _ = AV.v (.int _ _))) ?_
    first
      | refine DL_c (op_add _ _ rfl rfl (i64w (by omega))) ?_
      | refine DL_c (op_add _ _ rfl rfl rfl) ?_
    refine DL_c (op_as _ (rfl : _ = AV.v (.int _ _))) ?_
    refine DL_nil ?_
    refine ⟨v + 1, ?_, ?_, ?_⟩
    · first | omega | trivial | exact ⟨by omega, by omega⟩
    · skip
      refine Le.mkJ [((15, 0), (25, 0))] [] rfl ?_ ?_ trivial trivial ?_
      · exact ⟨(by repeat' (first | exact Lv.v | exact Lv.sl | exact Lv.fp | exact lvRr (id := (6, 0)) rfl rfl | exact lvPr (id := (6, 0)) rfl | exact lvRr (id := (15, 0)) rfl rfl | exact lvPr (id := (15, 0)) rfl | exact lvRr rfl rfl | exact lvPr rfl | exact Lv.mp | exact Lv.nil | exact Lv.z | exact Lv.dead | refine Lv.agg rfl ?_ | refine Lv.fn rfl ?_ rfl ?_ | refine Lv.tup rfl ?_ | refine Lv.ifc ?_ | exact lv_nil | refine lv_cons ?_ ?_)), (by repeat' (first | exact Lv.v | exact Lv.sl | exact Lv.fp | exact lvRr (id := (6, 0)) rfl rfl | exact lvPr (id := (6, 0)) rfl | exact lvRr (id := (15, 0)) rfl rfl | exact lvPr (id := (15, 0)) rfl | exact lvRr rfl rfl | exact lvPr rfl | exact Lv.mp | exact Lv.nil | exact Lv.z | exact Lv.dead | refine Lv.agg rfl ?_ | refine Lv.fn rfl ?_ rfl ?_ | refine Lv.tup rfl ?_ | refine Lv.ifc ?_ | exact lv_nil | refine lv_cons ?_ ?_)), (lvRr (id := (6, 0)) rfl rfl), (lvI (by first | rfl | omega | (simp; done) | (simp; omega) | assumption)), (lvRr rfl (by first | rfl | omega | (simp; done) | (simp; omega) | assumption)), trivial⟩
      · exact ⟨(obR rfl rfl rfl rfl), (obR rfl rfl rfl (by rw [List.range_succ, ← nsl_append]; rfl)), trivial⟩
      · kernel_rfl
    · omega
  · skip
    obtain rfl : v = n := by omega
    refine D_exit ?_
    refine id (hK4 _ ?_)
    clear hK4; try clear K4
    refine D_seq fun K9 hK9 => ?_
    refine D_seq fun K10 hK10 => ?_
    refine D_region ?_
    refine DL_c (op_as _ (rfl : _ = AV.v (.int _ _))) ?_
    refine DL_nil (hK10 _ ?_)
    clear hK10; try clear K10
    refine D_block ?_
    refine D_loopL (α := Nat) (fun i => i ≤ v) 99 [(0, _), (1, _)] [] (fun i => [(9, .v (.int .i64 (i : Int))), (6, .ref (6, 0) 0 i), (7, .ref (15, 0) 0 (v - i))]) (fun i => [((6, 0), .row 3 1 (nsl (rnS l v i).1)), ((15, 0), .row 3 1 (nsl (rnS l v i).2))]) [] [] (fun i => v - i) 0 ?_ (by
      refine Le.mkJ [] [] rfl ?_ ?_ trivial trivial ?_
      · exact ⟨(iS rfl), (iS rfl), (lvI (by first | rfl | omega | (simp; done) | (simp; omega) | assumption)), (lvRr rfl (by first | rfl | omega | (simp; done) | (simp; omega) | assumption)), (lvRr rfl (by first | rfl | omega | (simp; done) | (simp; omega) | assumption)), trivial⟩
      · exact ⟨(obR rfl rfl rfl (by first | rfl | omega | (simp; done) | (simp; omega) | assumption)), (obR rfl rfl rfl (by first | rfl | omega | (simp; done) | (simp; omega) | assumption)), trivial⟩
      · kernel_rfl) ?_
    · first | omega | trivial | exact ⟨by omega, by omega⟩
    intro i hi
    obtain ⟨hr1, hr2, hr3⟩ := rnS_inv l v i (by omega)
    refine D_seq fun K11 hK11 => ?_
    refine D_seq fun K12 hK12 => ?_
    refine D_region ?_
    refine DL_c (op_mv _ (rfl : _ = AV.ref _ _ _)) ?_
    first
      | refine DL_c (op_lenR _ inferInstance rfl rfl) ?_
      | refine DL_c (op_lenB _ inferInstance rfl rfl) ?_
    first
      | refine DL_c (op_gtr _ _ rfl rfl (by assumption)) ?_
      | refine DL_c (op_gtr _ _ rfl rfl rfl) ?_
    refine DL_nil (hK12 _ ?_)
    clear hK12; try clear K12
    refine D_splitC rfl (fun hc28 => ?_) (fun hc28 => ?_)
    · skip
      have hpk := pk_bd l i ((v - i : Nat) : Int) (by omega)
      obtain ⟨k, hk⟩ := Int.eq_ofNat_of_zero_le hpk.1
      have hkv : k < v - i := by omega
      have hs1 : (rnS l v (i + 1)).1 = (rnS l v i).1 ++ [(rnS l v i).2.getD k 0] := by rw [rnS, hr2, hk, Int.toNat_natCast]
      have hs2 : (rnS l v (i + 1)).2 = (rnS l v i).2.take k ++ (rnS l v i).2.drop (k + 1) := by rw [rnS, hr2, hk, Int.toNat_natCast, List.eraseIdx_eq_take_drop_succ]
      refine D_skip (hK11 _ ?_)
      clear hK11; try clear K11
      refine D_seq fun K13 hK13 => ?_
      refine D_block ?_
      refine D_seq fun K14 hK14 => ?_
      refine D_region ?_
      refine DL_c (op_mv _ (rfl : _ = AV.sl _ _)) ?_
      refine DL_c (op_mv _ (rfl : _ = AV.v (.int _ _))) ?_
      refine DL_c (op_mv _ (rfl : _ = AV.ref _ _ _)) ?_
      first
        | refine DL_c (op_lenR _ inferInstance rfl rfl) ?_
        | refine DL_c (op_lenB _ inferInstance rfl rfl) ?_
      refine DL_c (op_callH inferInstance (by repeat' (first | exact argsLv_nil | refine argsLv_cons ?_ ?_ | exact Lv.v | exact lvI (by omega) | exact Lv.sl | exact Lv.fp | exact Lv.nil | refine Lv.agg rfl ?_ | refine Lv.fn rfl ?_ rfl ?_ | exact lv_nil | refine lv_cons ?_ ?_ | exact Lv.z0)) (hk ▸ pick_spec m l hl h1 hr i ((v - i : Nat) : Int) (by omega) (by omega)) rfl rfl) ?_
      refine DL_c (op_as _ (rfl : _ = AV.v (.int _ _))) ?_
      refine DL_nil (hK14 _ ?_)
      clear hK14; try clear K14
      refine D_seq fun K15 hK15 => ?_
      refine D_region ?_
      refine DL_c (op_mv _ (rfl : _ = AV.ref _ _ _)) ?_
      refine DL_c (op_mv _ (rfl : _ = AV.ref _ _ _)) ?_
      refine DL_c (op_mv _ (rfl : _ = AV.v (.int _ _))) ?_
      refine DL_c (op_ixR _ _ inferInstance rfl rfl rfl k rfl (by omega) (by exact (Nat.zero_add _).trans (Nat.mul_one _))) ?_
      first
        | refine DL_c (op_ldR _ inferInstance rfl rfl (by first | rfl | exact isl_get _ _ (by omega) | exact bsl_get _ _ (by omega) | assumption | exact isl_get _ _ (by omega) | exact nsl_get _ _ (by omega) | exact nrows_get _ _ (by omega)) rfl) ?_
        | refine DL_c (op_ldB _ inferInstance rfl rfl (rfl : _ = some (AV.v (.int _ _)))) ?_
      refine DL_c (op_bsF _ _ inferInstance rfl (by rfl) (by simp <;> rfl) (by decide) rfl) ?_
      refine DL_c (op_ap (42, 0) _ _ inferInstance rfl rfl (by first | rfl | omega | (simp only [isl_len, bsl_len, psl_len, mrows_len, nsl_len, ws_len, List.length_map, ul_len, psl_len, isl_len, nrows_len, rnR_len]; omega) | (simp; done) | (simp; omega)) (by first | exact .nil | (refine .sl ?_; first | (simp [isl]; done) | (simp [isl]; omega)) | (refine .ref rfl rfl ?_; first | (simp; done) | (simp; omega))) (by omega) rfl (rfl) (rfl)) ?_
      refine DL_c (op_as _ (rfl : _ = AV.ref _ _ _)) ?_
      refine DL_nil (hK15 _ ?_)
      clear hK15; try clear K15
      refine D_seq fun K16 hK16 => ?_
      refine D_le (σ' := mkStI 99 [(0, _), (1, _), (6, _), (7, _), (9, _), (10, _)] [((15, 0), _), ((42, 0), _)] [] []) (by
        refine Le.mkJ [] [] rfl ?_ ?_ trivial trivial ?_
        · exact ⟨(iS rfl), (iS rfl), (iR rfl), (iR rfl), (iV rfl), (iV rfl), trivial⟩
        · exact ⟨(obE rfl rfl rfl), (obE rfl rfl rfl), trivial⟩
        · kernel_rfl) ?_
      refine D_region ?_
      first
        | refine DL_c (op_as _ (rfl : _ = AV.sl _ _)) ?_
        | refine DL_c (op_as _ (rfl : _ = AV.ref _ _ _)) ?_
        | refine DL_c (op_as _ (rfl : _ = AV.v (.slice _ _ _))) ?_
        | refine DL_c (op_as _ (rfl : _ = AV.z)) ?_
      refine DL_nil (hK16 _ ?_)
      clear hK16; try clear K16
      refine D_seq fun K17 hK17 => ?_
      refine D_region ?_
      first
        | refine DL_c (op_mv _ (rfl : _ = AV.sl _ _)) ?_
        | refine DL_c (op_mv _ (rfl : _ = AV.ref _ _ _)) ?_
        | refine DL_c (op_mv _ (rfl : _ = AV.v (.slice _ _ _))) ?_
        | refine DL_c (op_mv _ (rfl : _ = AV.z)) ?_
      refine DL_c (op_mv _ (rfl : _ = AV.ref _ _ _)) ?_
      refine DL_c (op_mv _ (rfl : _ = AV.v (.int _ _))) ?_
      refine DL_c (op_slR _ _ _ inferInstance rfl rfl 0 _ .dflt (.lit rfl rfl) (by omega) (by omega) (by first | exact (Nat.zero_add _).trans (Nat.mul_one _) | exact Nat.zero_add _ | rfl | omega) (Nat.sub_zero _)) ?_
      first
        | refine DL_c (op_ap (47, 0) _ _ inferInstance rfl rfl (by first | rfl | omega | (simp only [isl_len, bsl_len, psl_len, mrows_len, nsl_len, ws_len, List.length_map, ul_len, psl_len, isl_len, nrows_len, rnR_len]; omega) | (simp; done) | (simp; omega)) (by first | exact .nil | (refine .sl ?_; first | (simp [isl]; done) | (simp [isl]; omega)) | (refine .ref rfl rfl ?_; first | (simp; done) | (simp; omega))) (by omega) rfl (rfl) (rfl)) ?_
        | refine DL_c (op_ap0 (47, 0) _ _ inferInstance rfl (by first | exact .nil | (refine .sl ?_; first | (simp [isl]; done) | (simp [isl]; omega)) | (refine .ref rfl rfl ?_; first | (simp; done) | (simp; omega))) (by omega) rfl) ?_
      refine DL_c (op_as _ (rfl : _ = AV.ref _ _ _)) ?_
      refine DL_nil (hK17 _ ?_)
      clear hK17; try clear K17
      refine D_region ?_
      refine DL_c (op_mv _ (rfl : _ = AV.ref _ _ _)) ?_
      refine DL_c (op_mv _ (rfl : _ = AV.ref _ _ _)) ?_
      refine DL_c (op_mv _ (rfl : _ = AV.v (.int _ _))) ?_
      first
        | refine DL_c (op_add _ _ rfl rfl (i64w (by omega))) ?_
        | refine DL_c (op_add _ _ rfl rfl rfl) ?_
      refine DL_c (op_slR _ _ _ inferInstance rfl rfl (k + 1) _ (.lit rfl rfl) .dflt (by omega) (by omega) (by exact (Nat.zero_add _).trans (Nat.mul_one _)) rfl) ?_
      refine DL_c (op_ap (53, 0) _ _ inferInstance rfl rfl (by first | rfl | omega | (simp only [isl_len, bsl_len, psl_len, mrows_len, nsl_len, ws_len, List.length_map, ul_len, psl_len, isl_len, nrows_len, rnR_len]; omega) | (simp; done) | (simp; omega)) (by first | exact .nil | (refine .sl ?_; first | (simp [isl]; done) | (simp [isl]; omega)) | (refine .ref rfl rfl ?_; first | (simp; done) | (simp; omega))) (by omega) rfl (rfl) (rfl)) ?_
      refine DL_c (op_as _ (rfl : _ = AV.ref _ _ _)) ?_
      refine DL_nil (hK13 _ ?_)
      clear hK13; try clear K13
      refine D_region ?_
      refine DL_c (op_mv _ (rfl : _ = AV.v (.int _ _))) ?_
      first
        | refine DL_c (op_add _ _ rfl rfl (i64w (by omega))) ?_
        | refine DL_c (op_add _ _ rfl rfl rfl) ?_
      refine DL_c (op_as _ (rfl : _ = AV.v (.int _ _))) ?_
      refine DL_nil ?_
      refine ⟨i + 1, ?_, ?_, ?_⟩
      · first | omega | trivial | exact ⟨by omega, by omega⟩
      · skip
        refine Le.mkJ [((6, 0), (42, 0)), ((15, 0), (53, 0))] [] rfl ?_ ?_ trivial trivial ?_
        · exact ⟨(by repeat' (first | exact Lv.v | exact Lv.sl | exact Lv.fp | exact lvRr (id := (15, 0)) rfl rfl | exact lvPr (id := (15, 0)) rfl | exact lvRr (id := (6, 0)) rfl rfl | exact lvPr (id := (6, 0)) rfl | exact lvRr (id := (15, 0)) rfl rfl | exact lvPr (id := (15, 0)) rfl | exact lvRr rfl rfl | exact lvPr rfl | exact Lv.mp | exact Lv.nil | exact Lv.z | exact Lv.dead | refine Lv.agg rfl ?_ | refine Lv.fn rfl ?_ rfl ?_ | refine Lv.tup rfl ?_ | refine Lv.ifc ?_ | exact lv_nil | refine lv_cons ?_ ?_)), (by repeat' (first | exact Lv.v | exact Lv.sl | exact Lv.fp | exact lvRr (id := (15, 0)) rfl rfl | exact lvPr (id := (15, 0)) rfl | exact lvRr (id := (6, 0)) rfl rfl | exact lvPr (id := (6, 0)) rfl | exact lvRr (id := (15, 0)) rfl rfl | exact lvPr (id := (15, 0)) rfl | exact lvRr rfl rfl | exact lvPr rfl | exact Lv.mp | exact Lv.nil | exact Lv.z | exact Lv.dead | refine Lv.agg rfl ?_ | refine Lv.fn rfl ?_ rfl ?_ | refine Lv.tup rfl ?_ | refine Lv.ifc ?_ | exact lv_nil | refine lv_cons ?_ ?_)), (lvI (by first | rfl | omega | (simp; done) | (simp; omega) | assumption)), (lvRr rfl (by first | rfl | omega | (simp; done) | (simp; omega) | assumption)), (lvRr rfl (by first | rfl | omega | (simp; done) | (simp; omega) | assumption)), trivial⟩
        · exact ⟨(obR rfl rfl rfl (by rw [hs1, ← nsl_append]; rfl)), (obR rfl rfl rfl (by rw [hs2, ← nsl_append, ← nsl_take, ← nsl_drop]; simp; rw [List.take_of_length_le (by rw [List.length_drop, nsl_len, hr2]; omega)])), trivial⟩
        · kernel_rfl
      · omega
    · skip
      obtain rfl : i = v := by omega
      obtain ⟨to, hto⟩ : ∃ to, to = toP l i := ⟨_, rfl⟩
      have hto2 : (rnS l i i).1 = to := hto.symm
      have hpm : Pm i to := hto ▸ toP_pm l i
      have htl := hpm.len
      refine D_exit ?_
      refine id (hK9 _ ?_)
      clear hK9; try clear K9
      refine D_seq fun K18 hK18 => ?_
      refine D_region ?_
      refine DL_c (op_mv _ (rfl : _ = AV.sl _ _)) ?_
      refine DL_c (op_lenS _ inferInstance rfl) ?_
      refine DL_c (op_mkB (56, 0) _ _ inferInstance rfl rfl i rfl rfl (by omega) rfl (rep_nil i)) ?_
      refine DL_c (op_as _ (rfl : _ = AV.ref _ _ _)) ?_
      refine DL_nil (hK18 _ ?_)
      clear hK18; try clear K18
      refine D_seq fun K19 hK19 => ?_
      refine D_seq fun K20 hK20 => ?_
      refine D_le (σ' := mkStB 99 [(0, _), (6, _), (12, _)] [((6, 0), _)] ⟨(56, 0), false, 29, 3, 1000, ((rnR i Ps to 0 0).map isl)⟩ [] []) (by
        refine Le.newB 1000 3 rfl (by kernel_rfl) (fun _ => rfl) (fun _ => rfl) rfl [] rfl ?_ ?_ trivial (by kernel_rfl) rfl ?_
        · exact ⟨(by repeat' (first | exact Lv.v | exact Lv.sl | exact Lv.fp | exact lvRr rfl rfl | exact lvPr rfl | exact Lv.mp | exact Lv.nil | exact Lv.z | exact Lv.dead | refine Lv.agg rfl ?_ | refine Lv.fn rfl ?_ rfl ?_ | refine Lv.tup rfl ?_ | refine Lv.ifc ?_ | exact lv_nil | refine lv_cons ?_ ?_)), (lvRr (id := (6, 0)) rfl rfl), (lvRr (id := (56, 0)) rfl rfl), trivial⟩
        · exact ⟨(obR rfl rfl rfl rfl), trivial⟩
        · exact rn_zero i Ps to) ?_
      refine D_region ?_
      refine DL_c (op_as _ (rfl : _ = AV.v (.int _ _))) ?_
      refine DL_nil (hK20 _ ?_)
      clear hK20; try clear K20
      refine D_block ?_
      refine D_loopLB (α := Nat) (fun u => u ≤ i) 99 [(0, _), (6, _), (12, _)] [((6, 0), _)] (fun u => [(13, .v (.int .i64 (u : Int)))]) (fun u => []) (fun u => ⟨(56, 0), false, 29, 3, 1000, ((rnR i Ps to u 0).map isl)⟩) [] [] (fun u => i - u) 0 ?_ (by
        refine Le.keepB [] [] rfl ?_ ?_ trivial trivial (by kernel_rfl) rfl rfl rfl (fun _ => rfl) (by kernel_rfl) (fun _ => rfl)
        · exact ⟨(by repeat' (first | exact Lv.v | exact Lv.sl | exact Lv.fp | exact lvRr (id := (6, 0)) rfl rfl | exact lvPr (id := (6, 0)) rfl | exact lvRr (id := (56, 0)) rfl rfl | exact lvPr (id := (56, 0)) rfl | exact lvRr rfl rfl | exact lvPr rfl | exact Lv.mp | exact Lv.nil | exact Lv.z | exact Lv.dead | refine Lv.agg rfl ?_ | refine Lv.fn rfl ?_ rfl ?_ | refine Lv.tup rfl ?_ | refine Lv.ifc ?_ | exact lv_nil | refine lv_cons ?_ ?_)), (lvRr (id := (6, 0)) rfl rfl), (lvRr (id := (56, 0)) rfl rfl), (lvI (by first | rfl | omega | (simp; done) | (simp; omega) | assumption)), trivial⟩
        · exact ⟨(obR rfl rfl rfl rfl), trivial⟩) ?_
      · first | omega | trivial | exact ⟨by omega, by omega⟩
      intro u hu
      refine D_seq fun K21 hK21 => ?_
      refine D_seq fun K22 hK22 => ?_
      refine D_region ?_
      refine DL_c (op_mv _ (rfl : _ = AV.v (.int _ _))) ?_
      refine DL_c (op_mv _ (rfl : _ = AV.sl _ _)) ?_
      refine DL_c (op_lenS _ inferInstance rfl) ?_
      first
        | refine DL_c (op_lss _ _ rfl rfl (by assumption)) ?_
        | refine DL_c (op_lss _ _ rfl rfl rfl) ?_
      refine DL_nil (hK22 _ ?_)
      clear hK22; try clear K22
      refine D_splitC rfl (fun hc60 => ?_) (fun hc60 => ?_)
      · skip
        have hul := hm u
        have hdu := hpm.at_lt (v := u) (by omega)
        refine D_skip (hK21 _ ?_)
        clear hK21; try clear K21
        refine D_seq fun K23 hK23 => ?_
        refine D_block ?_
        refine D_seq fun K24 hK24 => ?_
        refine D_region ?_
        refine DL_c (op_as _ (rfl : _ = AV.v (.int _ _))) ?_
        refine DL_nil (hK24 _ ?_)
        clear hK24; try clear K24
        refine D_block ?_
        refine D_loopLB (α := Nat) (fun j => j ≤ (Ps.getD u []).length) 99 [(0, _), (6, _), (12, _), (13, _)] [((6, 0), _)] (fun j => [(14, .v (.int .i64 (j : Int)))]) (fun j => []) (fun j => ⟨(56, 0), false, 29, 3, 1000, ((rnR i Ps to u j).map isl)⟩) [] [] (fun j => (Ps.getD u []).length - j) 0 ?_ (by
          refine Le.keepB [] [] rfl ?_ ?_ trivial trivial (by kernel_rfl) rfl rfl rfl (fun _ => rfl) (by kernel_rfl) (fun _ => rfl)
          · exact ⟨(by repeat' (first | exact Lv.v | exact Lv.sl | exact Lv.fp | exact lvRr (id := (6, 0)) rfl rfl | exact lvPr (id := (6, 0)) rfl | exact lvRr (id := (56, 0)) rfl rfl | exact lvPr (id := (56, 0)) rfl | exact lvRr rfl rfl | exact lvPr rfl | exact Lv.mp | exact Lv.nil | exact Lv.z | exact Lv.dead | refine Lv.agg rfl ?_ | refine Lv.fn rfl ?_ rfl ?_ | refine Lv.tup rfl ?_ | refine Lv.ifc ?_ | exact lv_nil | refine lv_cons ?_ ?_)), (lvRr (id := (6, 0)) rfl rfl), (lvRr (id := (56, 0)) rfl rfl), (by repeat' (first | exact Lv.v | exact Lv.sl | exact Lv.fp | exact lvRr (id := (6, 0)) rfl rfl | exact lvPr (id := (6, 0)) rfl | exact lvRr (id := (56, 0)) rfl rfl | exact lvPr (id := (56, 0)) rfl | exact lvRr rfl rfl | exact lvPr rfl | exact Lv.mp | exact Lv.nil | exact Lv.z | exact Lv.dead | refine Lv.agg rfl ?_ | refine Lv.fn rfl ?_ rfl ?_ | refine Lv.tup rfl ?_ | refine Lv.ifc ?_ | exact lv_nil | refine lv_cons ?_ ?_)), (lvI (by first | rfl | omega | (simp; done) | (simp; omega) | assumption)), trivial⟩
          · exact ⟨(obR rfl rfl rfl rfl), trivial⟩) ?_
        · first | omega | trivial | exact ⟨by omega, by omega⟩
        intro j hj
        have hrl := rnR_len i Ps to u j
        refine D_seq fun K25 hK25 => ?_
        refine D_seq fun K26 hK26 => ?_
        refine D_region ?_
        refine DL_c (op_mv _ (rfl : _ = AV.v (.int _ _))) ?_
        refine DL_c (op_mv _ (rfl : _ = AV.sl _ _)) ?_
        refine DL_c (op_mv _ (rfl : _ = AV.v (.int _ _))) ?_
        refine DL_c (op_ixS _ _ inferInstance rfl rfl u rfl (by omega) (by omega) (Nat.mul_one _)) ?_
        refine DL_c (op_ldF _ inferInstance rfl (by exact nrows_get _ _ (by omega)) rfl) ?_
        first
          | refine DL_c (op_lenS _ inferInstance rfl) ?_
          | refine DL_c (op_lenR _ inferInstance rfl rfl) ?_
          | refine DL_c (op_lenN _ inferInstance rfl) ?_
          | refine DL_c (op_lenB _ inferInstance rfl rfl) ?_
          | refine DL_c (op_lenZ _ inferInstance rfl) ?_
        first
          | refine DL_c (op_lss _ _ rfl rfl (by assumption)) ?_
          | refine DL_c (op_lss _ _ rfl rfl rfl) ?_
        refine DL_nil (hK26 _ ?_)
        clear hK26; try clear K26
        refine D_splitC rfl (fun hc69 => ?_) (fun hc69 => ?_)
        · skip
          have hpb := (hV u (by omega)).2 _ (getD_memI (show j < (Ps.getD u []).length by omega))
          have hgl : ((rnR i Ps to u j).getD (to.getD u 0) []).length = j := by rw [rnR_get hpm (by omega), List.length_map, List.length_take]; omega
          refine D_skip (hK25 _ ?_)
          clear hK25; try clear K25
          refine D_seq fun K27 hK27 => ?_
          refine D_block ?_
          refine D_le (σ' := mkStB 99 [(0, _), (6, _), (12, _), (13, _), (14, _)] [((6, 0), _)] ⟨(56, 0), false, 29, 3, 1000, _⟩ [] []) (by
            refine Le.keepB [] [] rfl ?_ ?_ trivial trivial (by kernel_rfl) rfl rfl rfl (fun _ => rfl) (by kernel_rfl) (fun _ => rfl)
            · exact ⟨(by repeat' (first | exact Lv.v | exact Lv.sl | exact Lv.fp | exact lvRr (id := (6, 0)) rfl rfl | exact lvPr (id := (6, 0)) rfl | exact lvRr (id := (56, 0)) rfl rfl | exact lvPr (id := (56, 0)) rfl | exact lvRr rfl rfl | exact lvPr rfl | exact Lv.mp | exact Lv.nil | exact Lv.z | exact Lv.dead | refine Lv.agg rfl ?_ | refine Lv.fn rfl ?_ rfl ?_ | refine Lv.tup rfl ?_ | refine Lv.ifc ?_ | exact lv_nil | refine lv_cons ?_ ?_)), (lvRr (id := (6, 0)) rfl rfl), (lvRr (id := (56, 0)) rfl rfl), (by repeat' (first | exact Lv.v | exact Lv.sl | exact Lv.fp | exact lvRr (id := (6, 0)) rfl rfl | exact lvPr (id := (6, 0)) rfl | exact lvRr (id := (56, 0)) rfl rfl | exact lvPr (id := (56, 0)) rfl | exact lvRr rfl rfl | exact lvPr rfl | exact Lv.mp | exact Lv.nil | exact Lv.z | exact Lv.dead | refine Lv.agg rfl ?_ | refine Lv.fn rfl ?_ rfl ?_ | refine Lv.tup rfl ?_ | refine Lv.ifc ?_ | exact lv_nil | refine lv_cons ?_ ?_)), (by repeat' (first | exact Lv.v | exact Lv.sl | exact Lv.fp | exact lvRr (id := (6, 0)) rfl rfl | exact lvPr (id := (6, 0)) rfl | exact lvRr (id := (56, 0)) rfl rfl | exact lvPr (id := (56, 0)) rfl | exact lvRr rfl rfl | exact lvPr rfl | exact Lv.mp | exact Lv.nil | exact Lv.z | exact Lv.dead | refine Lv.agg rfl ?_ | refine Lv.fn rfl ?_ rfl ?_ | refine Lv.tup rfl ?_ | refine Lv.ifc ?_ | exact lv_nil | refine lv_cons ?_ ?_)), trivial⟩
            · exact ⟨(obR rfl rfl rfl rfl), trivial⟩) ?_
          refine D_anyL 25 [72, 73, 74, 75, 76, 77, 78, 79, 80, 81, 82, 83, 84, 85, 86, 87, 88, 89, 90, 91, 92, 93, 94, 95, 96] [(1000, to.getD u 0), (95, 0)] (by kernel_rfl) (by kernel_rfl) rfl (nodupO_iff rfl) (rfl : _ = [_, _, _, _, _, _, _, _, _, _, _, _, _, _, _, _, _, _, _, _, _, _, _, _, _]) (rfl : _ = [_]) ?_
          refine any_c (_, []) (fun τ => op_mv _ (rfl : _ = AV.ref _ _ _)) ?_
          refine any_n (rfl : _ = [_]) ?_
          refine any_c (_, []) (fun τ => op_mv _ (rfl : _ = AV.ref _ _ _)) ?_
          refine any_n (rfl : _ = [_, _]) ?_
          refine any_c (_, []) (fun τ => op_mv _ (rfl : _ = AV.v (.int _ _))) ?_
          refine any_n (rfl : _ = [_, _, _]) ?_
          refine any_c (_, []) (fun τ => op_ixR _ _ inferInstance rfl rfl rfl u rfl (by omega) (by exact (Nat.zero_add _).trans (Nat.mul_one _))) ?_
          refine any_n (rfl : _ = [_, _, _, _]) ?_
          refine any_c (_, []) (fun τ => op_ldR _ inferInstance rfl rfl (by exact (nsl_get _ _ (by rw [hto2]; omega)).trans (by rw [hto2])) rfl) ?_
          refine any_n (rfl : _ = [_, _, _, _, _]) ?_
          refine any_c (_, []) (fun τ => op_mv _ (rfl : _ = AV.ref _ _ _)) ?_
          refine any_n (rfl : _ = [_, _, _, _, _, _]) ?_
          refine any_c (_, []) (fun τ => op_mv _ (rfl : _ = AV.ref _ _ _)) ?_
          refine any_n (rfl : _ = [_, _, _, _, _, _, _]) ?_
          refine any_c (_, []) (fun τ => op_mv _ (rfl : _ = AV.v (.int _ _))) ?_
          refine any_n (rfl : _ = [_, _, _, _, _, _, _, _]) ?_
          refine any_c (_, []) (fun τ => op_ixR _ _ inferInstance rfl rfl rfl u rfl (by omega) (by exact (Nat.zero_add _).trans (Nat.mul_one _))) ?_
          refine any_n (rfl : _ = [_, _, _, _, _, _, _, _, _]) ?_
          refine any_c (_, []) (fun τ => op_ldR _ inferInstance rfl rfl (by exact (nsl_get _ _ (by rw [hto2]; omega)).trans (by rw [hto2])) rfl) ?_
          refine any_n (rfl : _ = [_, _, _, _, _, _, _, _, _, _]) ?_
          first
            | refine any_c (_, []) (fun τ => op_ixB _ _ inferInstance rfl rfl rfl _ rfl (by omega) (by first | exact (Nat.zero_add _).trans (Nat.mul_one _) | exact Nat.zero_add _ | rfl | omega)) ?_
            | refine any_c (_, []) (fun τ => op_ixB _ _ inferInstance rfl rfl rfl (Int.toNat _) (Int.toNat_of_nonneg (by omega)).symm (by omega) (by first | exact (Nat.zero_add _).trans (Nat.mul_one _) | exact Nat.zero_add _ | rfl | omega)) ?_
          refine any_n (rfl : _ = [_, _, _, _, _, _, _, _, _, _, _]) ?_
          refine any_c (_, []) (fun τ => op_ldB _ inferInstance rfl rfl (bun_cell (f := 1000) (b := ⟨(56, 0), false, 29, 3, 1000, _⟩) (j := to.getD u 0) (n := ((rnR i Ps to u j).getD (to.getD u 0) []).length) rfl (by first | omega | assumption | (simp only [isl_len, bsl_len, psl_len, mrows_len, nsl_len, ws_len, List.length_map, ul_len, psl_len, isl_len, nrows_len, rnR_len]; omega) | (simp; done) | (simp; omega)) (by first | rfl | assumption | (simp only [isl_len, bsl_len, psl_len, mrows_len, nsl_len, ws_len, List.length_map, ul_len, psl_len, isl_len, nrows_len, rnR_len]; omega) | (simp; done) | (simp; omega) | (rw [irow_get, isl_len])) rfl)) ?_
          refine any_n (rfl : _ = [_, _, _, _, _, _, _, _, _, _, _, _]) ?_
          refine any_c (_, []) (fun τ => op_mv _ (rfl : _ = AV.ref _ _ _)) ?_
          refine any_n (rfl : _ = [_, _, _, _, _, _, _, _, _, _, _, _, _]) ?_
          refine any_c (_, []) (fun τ => op_mv _ (rfl : _ = AV.sl _ _)) ?_
          refine any_n (rfl : _ = [_, _, _, _, _, _, _, _, _, _, _, _, _, _]) ?_
          refine any_c (_, []) (fun τ => op_mv _ (rfl : _ = AV.v (.int _ _))) ?_
          refine any_n (rfl : _ = [_, _, _, _, _, _, _, _, _, _, _, _, _, _, _]) ?_
          refine any_c (_, []) (fun τ => op_ixS _ _ inferInstance rfl rfl u rfl (by omega) (by omega) (Nat.mul_one _)) ?_
          refine any_n (rfl : _ = [_, _, _, _, _, _, _, _, _, _, _, _, _, _, _, _]) ?_
          refine any_c (_, []) (fun τ => op_ldF _ inferInstance rfl (by exact nrows_get _ _ (by omega)) rfl) ?_
          refine any_n (rfl : _ = [_, _, _, _, _, _, _, _, _, _, _, _, _, _, _, _, _]) ?_
          refine any_c (_, []) (fun τ => op_mv _ (rfl : _ = AV.v (.int _ _))) ?_
          refine any_n (rfl : _ = [_, _, _, _, _, _, _, _, _, _, _, _, _, _, _, _, _, _]) ?_
          first
            | refine any_c (_, []) (fun τ => op_ixS _ _ inferInstance rfl rfl _ rfl (by omega) (by first | assumption | decide | (simp only [isl_len, bsl_len, psl_len, mrows_len, nsl_len, ws_len, List.length_map, ul_len, psl_len, isl_len, nrows_len, rnR_len]; omega) | (simp; done) | (simp; omega) | (simp [isl, bsl]; omega)) (by first | exact Nat.mul_one _ | rfl | omega)) ?_
            | refine any_c (_, []) (fun τ => op_ixS _ _ inferInstance rfl rfl (Int.toNat _) (Int.toNat_of_nonneg (by omega)).symm (by omega) (by first | assumption | decide | (simp only [isl_len, bsl_len, psl_len, mrows_len, nsl_len, ws_len, List.length_map, ul_len, psl_len, isl_len, nrows_len, rnR_len]; omega) | (simp; done) | (simp; omega) | (simp [isl, bsl]; omega)) (by first | exact Nat.mul_one _ | rfl | omega)) ?_
            | refine any_c (_, []) (fun τ => op_ixR _ _ inferInstance rfl rfl rfl _ rfl (by omega) (by first | exact (Nat.zero_add _).trans (Nat.mul_one _) | exact Nat.zero_add _ | rfl | omega)) ?_
            | refine any_c (_, []) (fun τ => op_ixR _ _ inferInstance rfl rfl rfl (Int.toNat _) (Int.toNat_of_nonneg (by omega)).symm (by omega) (by first | exact (Nat.zero_add _).trans (Nat.mul_one _) | exact Nat.zero_add _ | rfl | omega)) ?_
            | refine any_c (_, []) (fun τ => op_ixB _ _ inferInstance rfl rfl rfl _ rfl (by omega) (by first | exact (Nat.zero_add _).trans (Nat.mul_one _) | exact Nat.zero_add _ | rfl | omega)) ?_
            | refine any_c (_, []) (fun τ => op_ixB _ _ inferInstance rfl rfl rfl (Int.toNat _) (Int.toNat_of_nonneg (by omega)).symm (by omega) (by first | exact (Nat.zero_add _).trans (Nat.mul_one _) | exact Nat.zero_add _ | rfl | omega)) ?_
          refine any_n (rfl : _ = [_, _, _, _, _, _, _, _, _, _, _, _, _, _, _, _, _, _, _]) ?_
          first
            | refine any_c (_, []) (fun τ => op_ldB _ inferInstance rfl rfl (rfl : _ = some (AV.v (.int _ _)))) ?_
            | refine any_c (_, []) (fun τ => op_ldR _ inferInstance rfl rfl (by first | rfl | exact isl_get _ _ (by omega) | exact bsl_get _ _ (by omega) | assumption | exact isl_get _ _ (by omega) | exact nsl_get _ _ (by omega) | exact nrows_get _ _ (by omega)) rfl) ?_
            | refine any_c (_, []) (fun τ => op_ldF _ inferInstance rfl (by first | rfl | exact isl_get _ _ (by omega) | exact bsl_get _ _ (by omega) | assumption | exact isl_get _ _ (by omega) | exact nsl_get _ _ (by omega) | exact nrows_get _ _ (by omega)) rfl) ?_
          refine any_n (rfl : _ = [_, _, _, _, _, _, _, _, _, _, _, _, _, _, _, _, _, _, _, _]) ?_
          refine any_c (_, []) (fun τ => op_ixR _ _ inferInstance rfl rfl rfl ((Ps.getD u []).getD j 0).toNat (Int.toNat_of_nonneg (by omega)).symm (by omega) (by exact (Nat.zero_add _).trans (Nat.mul_one _))) ?_
          refine any_n (rfl : _ = [_, _, _, _, _, _, _, _, _, _, _, _, _, _, _, _, _, _, _, _, _]) ?_
          refine any_c (_, []) (fun τ => op_ldR _ inferInstance rfl rfl (by exact (nsl_get _ _ (by rw [hto2]; omega)).trans (by rw [hto2])) rfl) ?_
          refine any_n (rfl : _ = [_, _, _, _, _, _, _, _, _, _, _, _, _, _, _, _, _, _, _, _, _, _]) ?_
          refine any_c (_, []) (fun τ => op_bsF _ _ inferInstance rfl (by rfl) (by simp <;> rfl) (by decide) rfl) ?_
          refine any_n (rfl : _ = [_, _, _, _, _, _, _, _, _, _, _, _, _, _, _, _, _, _, _, _, _, _, _]) ?_
          refine any_c (_, [((1000, to.getD u 0), .gone), ((95, 0), _)]) (fun τ => op_apN (95, 0) _ _ inferInstance rfl (mix_own rfl (by exact inO_head) (bun_row (b := ⟨(56, 0), false, 29, 3, 1000, _⟩) rfl (by rfl) rfl (by first | omega | assumption | (simp only [isl_len, bsl_len, psl_len, mrows_len, nsl_len, ws_len, List.length_map, ul_len, psl_len, isl_len, nrows_len, rnR_len]; omega) | (simp; done) | (simp; omega)) (by first | exact irow_get _ _ | rfl))) (by first | rfl | omega | (simp only [isl_len, bsl_len, psl_len, mrows_len, nsl_len, ws_len, List.length_map, ul_len, psl_len, isl_len, nrows_len, rnR_len]; omega) | (simp; done) | (simp; omega)) (by first | exact .nil | (refine .sl ?_; first | (simp [isl]; done) | (simp [isl]; omega)) | (refine .ref rfl rfl ?_; first | (simp; done) | (simp; omega))) (by omega) rfl rfl rfl (rfl) (rfl)) ?_
          refine any_n (rfl : _ = [_, _, _, _, _, _, _, _, _, _, _, _, _, _, _, _, _, _, _, _, _, _, _, _]) ?_
          first
            | refine any_c (_, []) (fun τ => op_ixB _ _ inferInstance rfl rfl rfl _ rfl (by omega) (by first | exact (Nat.zero_add _).trans (Nat.mul_one _) | exact Nat.zero_add _ | rfl | omega)) ?_
            | refine any_c (_, []) (fun τ => op_ixB _ _ inferInstance rfl rfl rfl (Int.toNat _) (Int.toNat_of_nonneg (by omega)).symm (by omega) (by first | exact (Nat.zero_add _).trans (Nat.mul_one _) | exact Nat.zero_add _ | rfl | omega)) ?_
          refine any_n (rfl : _ = [_, _, _, _, _, _, _, _, _, _, _, _, _, _, _, _, _, _, _, _, _, _, _, _, _]) ?_
          refine any_end ⟨rfl, ?_⟩
          refine DL_c (op_stB _ _ inferInstance rfl rfl rfl rfl (by first | (simp only [Bun.cells_len, isl_len, bsl_len, psl_len, mrows_len, nsl_len, ws_len, List.length_map, ul_len, psl_len, isl_len, nrows_len, rnR_len, List.length_cons, List.length_nil]; omega) | (simp [Bun.cells_len]; done) | (simp [Bun.cells_len]; omega)) (putL_one _ _ _ (by first | (simp only [Bun.cells_len, isl_len, bsl_len, psl_len, mrows_len, nsl_len, ws_len, List.length_map, ul_len, psl_len, isl_len, nrows_len, rnR_len, List.length_cons, List.length_nil]; omega) | (simp [Bun.cells_len]; done) | (simp [Bun.cells_len]; omega)))) ?_
          refine DL_nil (hK27 _ ?_)
          clear hK27; try clear K27
          refine D_region ?_
          refine DL_c (op_mv _ (rfl : _ = AV.v (.int _ _))) ?_
          first
            | refine DL_c (op_add _ _ rfl rfl (i64w (by omega))) ?_
            | refine DL_c (op_add _ _ rfl rfl rfl) ?_
          refine DL_c (op_as _ (rfl : _ = AV.v (.int _ _))) ?_
          refine DL_nil ?_
          refine ⟨j + 1, ?_, ?_, ?_⟩
          · first | omega | trivial | exact ⟨by omega, by omega⟩
          · skip
            refine Le.setB ((to.getD u 0)) (95, 0) [] [] rfl ?_ ?_ trivial trivial (by kernel_rfl) (by kernel_rfl) ?_ ?_ rfl rfl rfl rfl (by first | exact fun _ _ => rfl | exact fun j hj => bun_other hj | exact fun j hj => aft_other hj) (by kernel_rfl) (fun _ => rfl)
            · exact ⟨(by repeat' (first | exact Lv.v | exact Lv.sl | exact Lv.fp | exact lvRr (id := (6, 0)) rfl rfl | exact lvPr (id := (6, 0)) rfl | exact lvRr (id := (95, 0)) rfl rfl | exact lvPr (id := (95, 0)) rfl | exact lvRr (id := (56, 0)) rfl rfl | exact lvPr (id := (56, 0)) rfl | exact lvRr rfl rfl | exact lvPr rfl | exact Lv.mp | exact Lv.nil | exact Lv.z | exact Lv.dead | refine Lv.agg rfl ?_ | refine Lv.fn rfl ?_ rfl ?_ | refine Lv.tup rfl ?_ | refine Lv.ifc ?_ | exact lv_nil | refine lv_cons ?_ ?_)), (lvRr (id := (6, 0)) rfl rfl), (lvRr (id := (56, 0)) rfl rfl), (by repeat' (first | exact Lv.v | exact Lv.sl | exact Lv.fp | exact lvRr (id := (6, 0)) rfl rfl | exact lvPr (id := (6, 0)) rfl | exact lvRr (id := (95, 0)) rfl rfl | exact lvPr (id := (95, 0)) rfl | exact lvRr (id := (56, 0)) rfl rfl | exact lvPr (id := (56, 0)) rfl | exact lvRr rfl rfl | exact lvPr rfl | exact Lv.mp | exact Lv.nil | exact Lv.z | exact Lv.dead | refine Lv.agg rfl ?_ | refine Lv.fn rfl ?_ rfl ?_ | refine Lv.tup rfl ?_ | refine Lv.ifc ?_ | exact lv_nil | refine lv_cons ?_ ?_)), (lvI (by first | rfl | omega | (simp; done) | (simp; omega) | assumption)), trivial⟩
            · exact ⟨(obR rfl rfl rfl rfl), trivial⟩
            · first | exact rn_set hpm (by omega) (by omega) | (simp; done)
            · first | exact rn_set hpm (by omega) (by omega) | (simp; done)
          · omega
        · skip
          have hjl : j = (Ps.getD u []).length := by omega
          refine D_exit ?_
          refine id (hK23 _ ?_)
          clear hK23; try clear K23
          refine D_region ?_
          refine DL_c (op_mv _ (rfl : _ = AV.v (.int _ _))) ?_
          first
            | refine DL_c (op_add _ _ rfl rfl (i64w (by omega))) ?_
            | refine DL_c (op_add _ _ rfl rfl rfl) ?_
          refine DL_c (op_as _ (rfl : _ = AV.v (.int _ _))) ?_
          refine DL_nil ?_
          refine ⟨u + 1, ?_, ?_, ?_⟩
          · first | omega | trivial | exact ⟨by omega, by omega⟩
          · skip
            refine Le.keepB [] [] rfl ?_ ?_ trivial trivial (by kernel_rfl) ?_ rfl rfl (fun _ => rfl) (by kernel_rfl) (fun _ => rfl)
            · exact ⟨(by repeat' (first | exact Lv.v | exact Lv.sl | exact Lv.fp | exact lvRr (id := (6, 0)) rfl rfl | exact lvPr (id := (6, 0)) rfl | exact lvRr (id := (56, 0)) rfl rfl | exact lvPr (id := (56, 0)) rfl | exact lvRr rfl rfl | exact lvPr rfl | exact Lv.mp | exact Lv.nil | exact Lv.z | exact Lv.dead | refine Lv.agg rfl ?_ | refine Lv.fn rfl ?_ rfl ?_ | refine Lv.tup rfl ?_ | refine Lv.ifc ?_ | exact lv_nil | refine lv_cons ?_ ?_)), (lvRr (id := (6, 0)) rfl rfl), (lvRr (id := (56, 0)) rfl rfl), (lvI (by first | rfl | omega | (simp; done) | (simp; omega) | assumption)), trivial⟩
            · exact ⟨(obR rfl rfl rfl rfl), trivial⟩
            · rw [hjl, rnR_next]
          · omega
      · skip
        obtain rfl : u = i := by omega
        have hrn : ren32 Ps to = rnR u Ps to u 0 := by unfold ren32; rw [hPs]
        refine D_exit ?_
        refine id (hK19 _ ?_)
        clear hK19; try clear K19
        refine D_seq fun K28 hK28 => ?_
        refine D_le (σ' := mkStI 99 [(6, _), (12, _)] ([((6, 0), _)] ++ [((56, 0), _)]) [] []) (Le.frzFam 1000 rfl ⟨(iR rfl), (iR rfl), trivial⟩ ⟨⟨rfl, ⟨_, rfl, lvO_id _⟩, rfl⟩, frzOuter rfl rfl (fun _ => rfl) (by kernel_rfl) rfl rfl, trivial⟩ (fun _ => rfl) trivial (by kernel_rfl)) ?_
        refine D_le (σ' := mkStI 99 [(6, _), (12, .sl _ _)] [((6, 0), _)] [] []) (Le.mkJ [] [(56, 0)] rfl ⟨(iR rfl), (Lv.frzR rfl rfl (downs_isl _)), trivial⟩ ⟨(obE rfl rfl rfl), trivial⟩ ⟨rfl, trivial⟩ trivial (by kernel_rfl)) ?_
        refine D_region ?_
        refine DL_c (op_mv _ (rfl : _ = AV.sl _ _)) ?_
        refine DL_c (op_mv _ (rfl : _ = AV.ref _ _ _)) ?_
        refine DL_c (op_as _ (rfl : _ = AV.sl _ _)) ?_
        refine DL_c (op_as _ (rfl : _ = AV.ref _ _ _)) ?_
        refine DL_nil (hK28 _ ?_)
        clear hK28; try clear K28
        refine D_ret ?_
        rw [← hto, hrn]
        exact ret2 (.inr rfl) rfl (.tmp (rfl : _ = AV.sl _ _)) (.tmp (rfl : _ = AV.ref _ _ _)) (Le.out [] [(6, 0)] (.tup rfl (lv_cons .sl (lv_cons (frz0 rfl rfl (by rw [nsl_len, hto2]; omega) (by rw [hto2])) lv_nil))) rfl rfl rfl ⟨rfl, trivial⟩ trivial)
end Go.Proofs.Ytkbkmngbenohkaa
