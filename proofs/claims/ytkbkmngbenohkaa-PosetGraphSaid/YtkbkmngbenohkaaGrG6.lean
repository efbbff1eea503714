/- graph.Reach by the machine. -/
import Derived.Test.YtkbkmngbenohkaaGrG5
import Derived.Test.YtkbkmngbenohkaaGrV10
import Derived.Test.YtkbkmngbenohkaaGrM6
set_option linter.unusedSimpArgs false
set_option linter.unusedVariables false
namespace Go.Proofs.Ytkbkmngbenohkaa
open Go.RowKit

abbrev rcO (n : Nat) (S : List (List Int)) (seen : List Bool) : List (Oid × Cells) :=
  [((0, 9), .box 112 [.ref (2, 9) 0 n]), ((1, 9), .box 110 [.fn (.func 95) [] [.fp 0 [.v (.int .i64 (n : Int))], .ptr (0, 9) 0, .fp 0 [.sl n (nrows S)], .ptr (1, 9) 0]]), ((2, 9), .row 4 1 (bsl seen))]
abbrev rcA (n : Nat) (S : List (List Int)) (v : Int) : List AV := [.v (.int .i64 v), .fp 0 [.v (.int .i64 (n : Int))], .ptr (0, 9) 0, .fp 0 [.sl n (nrows S)], .ptr (1, 9) 0]
abbrev rcI : List Oid := [(0, 9), (1, 9), (2, 9)]
theorem visit_seen (n : Nat) (S : List (List Int)) (hn : n ≤ 64) (seen : List Bool) (hs : seen.length = n) (v : Nat) (hv : v < n) (hsv : seen.getD v false = true) :
    Spec Try.prog 95 (inStI (rcA n S v) (rcO n S seen)) (outStI (.tup []) (rcO n S seen) rcI rcI) := by
  refine Spec.ofNI Try.func95 rfl Try.ntmps95 rfl ?_
  refine D_seq fun K1 hK1 => ?_
  refine D_seq fun K2 hK2 => ?_
  refine D_region ?_
  refine DL_c (op_mv _ (rfl : _ = AV.v (.int _ _))) ?_
  first
    | refine DL_c (op_lss _ _ rfl rfl (by assumption)) ?_
    | refine DL_c (op_lss _ _ rfl rfl rfl) ?_
  refine DL_c (op_mv _ (rfl : _ = AV.v (.bool _))) ?_
  refine DL_caseC (fun hg10 => ?_) (fun hg10 => ?_)
  · skip
    refine DL_cn rfl rfl (by decide) ?_
    refine DL_cn rfl rfl (by decide) ?_
    refine DL_cn rfl rfl (by decide) ?_
    refine DL_c (op_pick _ _ _ rfl (rfl : _ = AV.v (.bool _))) ?_
    refine DL_c (op_mv _ (rfl : _ = AV.v (.bool _))) ?_
    refine DL_cn rfl rfl (by decide) ?_
    refine DL_cn rfl rfl (by decide) ?_
    refine DL_cn rfl rfl (by decide) ?_
    refine DL_cn rfl rfl (by decide) ?_
    refine DL_c (op_pick _ _ _ rfl (rfl : _ = AV.v (.bool _))) ?_
    refine DL_nil (hK2 _ ?_)
    clear hK2; try clear K2
    refine D_cT rfl rfl ?_
    refine D_ret ?_
    exact ret0 (.inr rfl) rfl (Le.outI [] [] (.tup rfl lv_nil) rfl rfl rfl trivial ⟨⟨rfl, ⟨_, rfl, lvO_id _⟩, rfl⟩, ⟨rfl, ⟨_, rfl, lvO_id _⟩, rfl⟩, ⟨rfl, ⟨_, rfl, lvO_id _⟩, rfl⟩, trivial⟩ ⟨rfl, rfl, rfl, trivial⟩ rfl)
  · skip
    refine DL_cy rfl rfl (op_mv _ (rfl : _ = AV.v (.int _ _))) ?_
    refine DL_cy rfl rfl (op_ldF _ inferInstance rfl (rfl : _ = some (PV.v (.int .i64 (n : Int)))) rfl) ?_
    first
      | refine DL_cy rfl rfl (op_geq _ _ rfl rfl (by assumption)) ?_
      | refine DL_cy rfl rfl (op_geq _ _ rfl rfl rfl) ?_
    refine DL_c (op_pick _ _ _ rfl (rfl : _ = AV.v (.bool _))) ?_
    refine DL_c (op_mv _ (rfl : _ = AV.v (.bool _))) ?_
    refine DL_caseC (fun hg15 => ?_) (fun hg15 => ?_)
    · skip
      refine DL_cn rfl rfl (by decide) ?_
      refine DL_cn rfl rfl (by decide) ?_
      refine DL_cn rfl rfl (by decide) ?_
      refine DL_cn rfl rfl (by decide) ?_
      refine DL_c (op_pick _ _ _ rfl (rfl : _ = AV.v (.bool _))) ?_
      refine DL_nil (hK2 _ ?_)
      clear hK2; try clear K2
      refine D_cT rfl rfl ?_
      refine D_ret ?_
      exact ret0 (.inr rfl) rfl (Le.outI [] [] (.tup rfl lv_nil) rfl rfl rfl trivial ⟨⟨rfl, ⟨_, rfl, lvO_id _⟩, rfl⟩, ⟨rfl, ⟨_, rfl, lvO_id _⟩, rfl⟩, ⟨rfl, ⟨_, rfl, lvO_id _⟩, rfl⟩, trivial⟩ ⟨rfl, rfl, rfl, trivial⟩ rfl)
    · skip
      first
        | refine DL_cy rfl rfl (op_ldB _ inferInstance rfl rfl (rfl : _ = some (AV.ref _ _ _))) ?_
        | refine DL_cy rfl rfl (op_ldR _ inferInstance rfl rfl (by first | rfl | exact isl_get _ _ (by omega) | exact bsl_get _ _ (by omega) | assumption | exact isl_get _ _ (by omega) | exact nrows_get _ _ (by omega)) rfl) ?_
      refine DL_cy rfl rfl (op_mv _ (rfl : _ = AV.v (.int _ _))) ?_
      refine DL_cy rfl rfl (op_ixR _ _ inferInstance rfl rfl rfl v rfl (by omega) (by exact (Nat.zero_add _).trans (Nat.mul_one _))) ?_
      refine DL_cy rfl rfl (op_ldR _ inferInstance rfl rfl (by exact (bsl_get _ _ (by omega)).trans (by rw [hsv])) rfl) ?_
      refine DL_c (op_pick _ _ _ rfl (rfl : _ = AV.v (.bool _))) ?_
      refine DL_nil (hK2 _ ?_)
      clear hK2; try clear K2
      refine D_splitC rfl (fun hc20 => ?_) (fun hc20 => ?_)
      · skip
        refine D_ret ?_
        exact ret0 (.inr rfl) rfl (Le.outI [] [] (.tup rfl lv_nil) rfl rfl rfl trivial ⟨⟨rfl, ⟨_, rfl, lvO_id _⟩, rfl⟩, ⟨rfl, ⟨_, rfl, lvO_id _⟩, rfl⟩, ⟨rfl, ⟨_, rfl, lvO_id _⟩, rfl⟩, trivial⟩ ⟨rfl, rfl, rfl, trivial⟩ rfl)
      · skip
        exact absurd  hc20 (by simp)
def vfd (S : List (List Int)) (k : Nat) (s : List Bool) (l : List Int) (j : Nat) : List Bool := (l.take j).foldl (fun s w => vis S k s w.toNat) s
theorem vfd_succ {S : List (List Int)} {k : Nat} {s : List Bool} {l : List Int} {j : Nat} (h : j < l.length) : vfd S k s l (j + 1) = vis S k (vfd S k s l j) (l.getD j 0).toNat := by
  unfold vfd; rw [take1 0 h, List.foldl_append]; rfl
theorem vfd_ok {n : Nat} {S : List (List Int)} (hS : ∀ a, a < n → ∀ w ∈ S.getD a [], 0 ≤ w ∧ w < (n : Int)) {k : Nat} {s : List Bool} (hs : s.length = n) (hk : uns s ≤ k) {v : Nat} (hv : v < n) : ∀ j, j ≤ (S.getD v []).length → (vfd S k s (S.getD v []) j).length = n ∧ uns (vfd S k s (S.getD v []) j) ≤ k
  | 0, _ => ⟨hs, hk⟩
  | j + 1, hj => by
    obtain ⟨h1, h2⟩ := vfd_ok hS hs hk hv j (by omega)
    have hb := hS v hv _ (getD_memI (show j < (S.getD v []).length by omega))
    rw [vfd_succ (by omega)]
    obtain ⟨h3, h4⟩ := vis_len hS (k := k) h1 (v := ((S.getD v []).getD j 0).toNat) (by omega) h2
    exact ⟨h3, by omega⟩
theorem visit_new (n : Nat) (S : List (List Int)) (hSl : S.length = n) (hn : n ≤ 64) (hS : ∀ a, a < n → ∀ w ∈ S.getD a [], 0 ≤ w ∧ w < (n : Int)) (hm : ∀ a, a < n → (S.getD a []).length ≤ 1000) (k : Nat)
    (ih : ∀ (seen : List Bool) (v : Nat), seen.length = n → v < n → uns seen ≤ k → Spec Try.prog 95 (inStI (rcA n S v) (rcO n S seen)) (outStI (.tup []) (rcO n S (vis S k seen v)) rcI rcI))
    (seen : List Bool) (hs : seen.length = n) (v : Nat) (hv : v < n) (hsv : seen.getD v false = false) (hu : uns seen ≤ k + 1) :
    Spec Try.prog 95 (inStI (rcA n S v) (rcO n S seen)) (outStI (.tup []) (rcO n S (vis S (k + 1) seen v)) rcI rcI) := by
  have hnr : (nrows S).length = n := by simp [nrows, hSl]
  have hus := uns_set (by omega) hsv
  have hsl : (seen.set v true).length = n := by rw [List.length_set]; exact hs
  have hml := hm v hv
  have hfin : vis S (k + 1) seen v = vfd S k (seen.set v true) (S.getD v []) (S.getD v []).length := by
    rw [vis, if_neg (by rw [hsv]; simp), vfd, List.take_length]
  rw [hfin]
  refine Spec.ofNI Try.func95 rfl Try.ntmps95 rfl ?_
  refine D_seq fun K1 hK1 => ?_
  refine D_seq fun K2 hK2 => ?_
  refine D_region ?_
  refine DL_c (op_mv _ (rfl : _ = AV.v (.int _ _))) ?_
  first
    | refine DL_c (op_lss _ _ rfl rfl (by assumption)) ?_
    | refine DL_c (op_lss _ _ rfl rfl rfl) ?_
  refine DL_c (op_mv _ (rfl : _ = AV.v (.bool _))) ?_
  refine DL_caseC (fun hg10 => ?_) (fun hg10 => ?_)
  · skip
    refine DL_cn rfl rfl (by decide) ?_
    refine DL_cn rfl rfl (by decide) ?_
    refine DL_cn rfl rfl (by decide) ?_
    refine DL_c (op_pick _ _ _ rfl (rfl : _ = AV.v (.bool _))) ?_
    refine DL_c (op_mv _ (rfl : _ = AV.v (.bool _))) ?_
    refine DL_cn rfl rfl (by decide) ?_
    refine DL_cn rfl rfl (by decide) ?_
    refine DL_cn rfl rfl (by decide) ?_
    refine DL_cn rfl rfl (by decide) ?_
    refine DL_c (op_pick _ _ _ rfl (rfl : _ = AV.v (.bool _))) ?_
    refine DL_nil (hK2 _ ?_)
    clear hK2; try clear K2
    refine D_cT rfl rfl ?_
    refine D_ret ?_
    exact absurd hg10 (by omega)
  · skip
    refine DL_cy rfl rfl (op_mv _ (rfl : _ = AV.v (.int _ _))) ?_
    refine DL_cy rfl rfl (op_ldF _ inferInstance rfl (rfl : _ = some (PV.v (.int .i64 (n : Int)))) rfl) ?_
    first
      | refine DL_cy rfl rfl (op_geq _ _ rfl rfl (by assumption)) ?_
      | refine DL_cy rfl rfl (op_geq _ _ rfl rfl rfl) ?_
    refine DL_c (op_pick _ _ _ rfl (rfl : _ = AV.v (.bool _))) ?_
    refine DL_c (op_mv _ (rfl : _ = AV.v (.bool _))) ?_
    refine DL_caseC (fun hg15 => ?_) (fun hg15 => ?_)
    · skip
      refine DL_cn rfl rfl (by decide) ?_
      refine DL_cn rfl rfl (by decide) ?_
      refine DL_cn rfl rfl (by decide) ?_
      refine DL_cn rfl rfl (by decide) ?_
      refine DL_c (op_pick _ _ _ rfl (rfl : _ = AV.v (.bool _))) ?_
      refine DL_nil (hK2 _ ?_)
      clear hK2; try clear K2
      refine D_cT rfl rfl ?_
      refine D_ret ?_
      exact absurd hg15 (by omega)
    · skip
      first
        | refine DL_cy rfl rfl (op_ldB _ inferInstance rfl rfl (rfl : _ = some (AV.ref _ _ _))) ?_
        | refine DL_cy rfl rfl (op_ldR _ inferInstance rfl rfl (by first | rfl | exact isl_get _ _ (by omega) | exact bsl_get _ _ (by omega) | assumption | exact isl_get _ _ (by omega) | exact nrows_get _ _ (by omega)) rfl) ?_
      refine DL_cy rfl rfl (op_mv _ (rfl : _ = AV.v (.int _ _))) ?_
      refine DL_cy rfl rfl (op_ixR _ _ inferInstance rfl rfl rfl v rfl (by omega) (by exact (Nat.zero_add _).trans (Nat.mul_one _))) ?_
      refine DL_cy rfl rfl (op_ldR _ inferInstance rfl rfl (by exact (bsl_get _ _ (by omega)).trans (by rw [hsv])) rfl) ?_
      refine DL_c (op_pick _ _ _ rfl (rfl : _ = AV.v (.bool _))) ?_
      refine DL_nil (hK2 _ ?_)
      clear hK2; try clear K2
      refine D_splitC rfl (fun hc20 => ?_) (fun hc20 => ?_)
      · skip
        exact absurd  hc20 (by simp)
      · skip
        refine D_skip (hK1 _ ?_)
        clear hK1; try clear K1
        refine D_seq fun K3 hK3 => ?_
        refine D_region ?_
        first
          | refine DL_c (op_ldB _ inferInstance rfl rfl (rfl : _ = some (AV.ref _ _ _))) ?_
          | refine DL_c (op_ldR _ inferInstance rfl rfl (by first | rfl | exact isl_get _ _ (by omega) | exact bsl_get _ _ (by omega) | assumption | exact isl_get _ _ (by omega) | exact nrows_get _ _ (by omega)) rfl) ?_
        refine DL_c (op_mv _ (rfl : _ = AV.v (.int _ _))) ?_
        refine DL_c (op_ixR _ _ inferInstance rfl rfl rfl v rfl (by omega) (by exact (Nat.zero_add _).trans (Nat.mul_one _))) ?_
        refine DL_c (op_stR _ _ inferInstance rfl rfl rfl rfl rfl (by rw [bsl_len]; simp only [List.length_cons, List.length_nil]; omega) (bsl_put _ _ _ (by omega))) ?_
        refine DL_nil (hK3 _ ?_)
        clear hK3; try clear K3
        refine D_seq fun K4 hK4 => ?_
        refine D_le (σ' := mkStI 37 [(0, _), (3, _), (4, _)] [((0, 9), _), ((1, 9), _), ((2, 9), _)] [(0, 9), (1, 9), (2, 9)] [(0, 9), (1, 9), (2, 9)]) (by
          refine Le.mkJ [] [] rfl ?_ ?_ trivial ⟨rfl, rfl, rfl, trivial⟩ ?_
          · exact ⟨(iV rfl), (iF rfl), (iP rfl), trivial⟩
          · exact ⟨(obE rfl rfl rfl), (obE rfl rfl rfl), (obE rfl rfl rfl), trivial⟩
          · kernel_rfl) ?_
        refine D_region ?_
        refine DL_c (op_ldF _ inferInstance rfl (rfl : _ = some (PV.sl n (nrows S))) rfl) ?_
        refine DL_c (op_mv _ (rfl : _ = AV.v (.int _ _))) ?_
        refine DL_c (op_ixS _ _ inferInstance rfl rfl v rfl (by omega) (by omega) (Nat.mul_one _)) ?_
        refine DL_c (op_ldF _ inferInstance rfl (by exact nrows_get _ _ (by omega)) rfl) ?_
        first
          | refine DL_c (op_lenS _ inferInstance rfl) ?_
          | refine DL_c (op_lenR _ inferInstance rfl rfl) ?_
          | refine DL_c (op_lenN _ inferInstance rfl) ?_
          | refine DL_c (op_lenB _ inferInstance rfl rfl) ?_
          | refine DL_c (op_lenZ _ inferInstance rfl) ?_
        refine DL_c (op_mv _ (rfl : _ = AV.v (.int _ _))) ?_
        refine DL_nil (hK4 _ ?_)
        clear hK4; try clear K4
        refine D_block ?_
        refine D_loopL (α := Nat) (fun j => j ≤ (S.getD v []).length) 37 [(4, _), (27, _), (28, _)] [((0, 9), _), ((1, 9), _)] (fun j => [(29, .v (.int .i64 (j : Int)))]) (fun j => [((2, 9), .row 4 1 (bsl (vfd S k (seen.set v true) (S.getD v []) j)))]) [(0, 9), (1, 9), (2, 9)] [(0, 9), (1, 9), (2, 9)] (fun j => (S.getD v []).length - j) 0 ?_ (by
          refine Le.mkJ [] [] rfl ?_ ?_ trivial ⟨rfl, rfl, rfl, trivial⟩ ?_
          · exact ⟨(iP rfl), (by first | exact iS rfl | exact iR rfl | exact iV rfl | exact iZ rfl | exact iD rfl), (iV rfl), (lvI (by first | rfl | omega | (simp; done) | (simp; omega) | assumption)), trivial⟩
          · exact ⟨(obE rfl rfl rfl), (obE rfl rfl rfl), (obR rfl rfl rfl (by rfl)), trivial⟩
          · kernel_rfl) ?_
        · first | omega | trivial | exact ⟨by omega, by omega⟩
        intro j hj
        obtain ⟨hf1, hf2⟩ := vfd_ok hS hsl (show uns (seen.set v true) ≤ k by omega) hv j hj
        refine D_seq fun K5 hK5 => ?_
        refine D_region ?_
        first
          | refine DL_c (op_lss _ _ rfl rfl (by assumption)) ?_
          | refine DL_c (op_lss _ _ rfl rfl rfl) ?_
        refine DL_nil (hK5 _ ?_)
        clear hK5; try clear K5
        refine D_seq fun K6 hK6 => ?_
        refine D_splitC rfl (fun hc30 => ?_) (fun hc30 => ?_)
        · skip
          have hb := hS v hv _ (getD_memI (show j < (S.getD v []).length by omega))
          obtain ⟨b, hbe⟩ := Int.eq_ofNat_of_zero_le hb.1
          have hvs := vfd_succ (S := S) (k := k) (s := seen.set v true) (show j < (S.getD v []).length by omega)
          rw [hbe, Int.toNat_natCast] at hvs
          have hih := ih (vfd S k (seen.set v true) (S.getD v []) j) b hf1 (by omega) hf2
          refine D_skip (hK6 _ ?_)
          clear hK6; try clear K6
          refine D_seq fun K7 hK7 => ?_
          refine D_block ?_
          refine D_seq fun K8 hK8 => ?_
          refine D_region ?_
          first
            | refine DL_c (op_ixS _ _ inferInstance rfl rfl _ rfl (by omega) (by first | assumption | decide | (simp only [isl_len, bsl_len, psl_len, mrows_len, nsl_len, ws_len, List.length_map, nxL_len, nxM_len, bsl_len]; omega) | (simp; done) | (simp; omega) | (simp [isl, bsl]; omega)) (by first | exact Nat.mul_one _ | rfl | omega)) ?_
            | refine DL_c (op_ixS _ _ inferInstance rfl rfl (Int.toNat _) (Int.toNat_of_nonneg (by omega)).symm (by omega) (by first | assumption | decide | (simp only [isl_len, bsl_len, psl_len, mrows_len, nsl_len, ws_len, List.length_map, nxL_len, nxM_len, bsl_len]; omega) | (simp; done) | (simp; omega) | (simp [isl, bsl]; omega)) (by first | exact Nat.mul_one _ | rfl | omega)) ?_
            | refine DL_c (op_ixR _ _ inferInstance rfl rfl rfl _ rfl (by omega) (by first | exact (Nat.zero_add _).trans (Nat.mul_one _) | exact Nat.zero_add _ | rfl | omega)) ?_
            | refine DL_c (op_ixR _ _ inferInstance rfl rfl rfl (Int.toNat _) (Int.toNat_of_nonneg (by omega)).symm (by omega) (by first | exact (Nat.zero_add _).trans (Nat.mul_one _) | exact Nat.zero_add _ | rfl | omega)) ?_
            | refine DL_c (op_ixB _ _ inferInstance rfl rfl rfl _ rfl (by omega) (by first | exact (Nat.zero_add _).trans (Nat.mul_one _) | exact Nat.zero_add _ | rfl | omega)) ?_
            | refine DL_c (op_ixB _ _ inferInstance rfl rfl rfl (Int.toNat _) (Int.toNat_of_nonneg (by omega)).symm (by omega) (by first | exact (Nat.zero_add _).trans (Nat.mul_one _) | exact Nat.zero_add _ | rfl | omega)) ?_
          refine DL_c (op_ldF _ inferInstance rfl (by exact (isl_get _ _ (by omega)).trans (by rw [hbe])) rfl) ?_
          refine DL_c (op_as _ (rfl : _ = AV.v (.int _ _))) ?_
          refine DL_nil (hK8 _ ?_)
          clear hK8; try clear K8
          refine D_region ?_
          first
            | refine DL_c (op_ldB _ inferInstance rfl rfl (rfl : _ = some (AV.fn _ _ _))) ?_
            | refine DL_c (op_ldR _ inferInstance rfl rfl (by first | rfl | exact isl_get _ _ (by omega) | exact bsl_get _ _ (by omega) | assumption | exact isl_get _ _ (by omega) | exact nrows_get _ _ (by omega)) rfl) ?_
          refine DL_c (op_mv _ (rfl : _ = AV.v (.int _ _))) ?_
          refine DL_c (op_callRV rfl inferInstance [] ?_ (hih) ⟨⟨rfl, ⟨_, rfl, lvO_id _⟩, rfl⟩, ⟨rfl, ⟨_, rfl, lvO_id _⟩, rfl⟩, ⟨rfl, ⟨_, rfl, lvO_id _⟩, rfl⟩, trivial⟩ ⟨rfl, rfl, rfl, trivial⟩ (by kernel_rfl)) ?_
          · repeat' (first | exact argsR_nil | refine argsR_cons ?_ ?_ | exact Lv.v | exact lvI (by assumption) | exact lvI (by omega) | exact Lv.sl | exact Lv.fp | exact Lv.nil | exact lvRr rfl rfl | exact lvPr rfl | refine Lv.agg rfl ?_ | refine Lv.fn rfl ?_ rfl ?_ | refine Lv.ifc ?_ | exact lv_nil | refine lv_cons ?_ ?_)
          refine DL_nil (hK7 _ ?_)
          clear hK7; try clear K7
          refine D_region ?_
          first
            | refine DL_c (op_add _ _ rfl rfl (i64w (by omega))) ?_
            | refine DL_c (op_add _ _ rfl rfl rfl) ?_
          refine DL_c (op_mv _ (rfl : _ = AV.v (.int _ _))) ?_
          refine DL_nil ?_
          refine ⟨j + 1, ?_, ?_, ?_⟩
          · first | omega | trivial | exact ⟨by omega, by omega⟩
          · skip
            refine Le.mkJ [] [] rfl ?_ ?_ trivial ⟨rfl, rfl, rfl, trivial⟩ ?_
            · exact ⟨(iP rfl), (by first | exact iS rfl | exact iR rfl | exact iV rfl | exact iZ rfl | exact iD rfl), (iV rfl), (lvI (by first | rfl | omega | (simp; done) | (simp; omega) | assumption)), trivial⟩
            · exact ⟨(obE rfl rfl rfl), (obE rfl rfl rfl), (obR rfl rfl rfl (by rw [hvs])), trivial⟩
            · kernel_rfl
          · omega
        · skip
          have hjl : j = (S.getD v []).length := by omega
          refine D_exit ?_
          refine id ?_
          exact ret0 (.inl rfl) rfl (Le.outI [] [] (.tup rfl lv_nil) rfl rfl rfl trivial ⟨⟨rfl, ⟨_, rfl, lvO_id _⟩, rfl⟩, ⟨rfl, ⟨_, rfl, lvO_id _⟩, rfl⟩, ⟨rfl, ⟨_, rfl, .rowE (by rw [hjl])⟩, rfl⟩, trivial⟩ ⟨rfl, rfl, rfl, trivial⟩ rfl)
theorem visit_spec (n : Nat) (S : List (List Int)) (hSl : S.length = n) (hn : n ≤ 64) (hS : ∀ a, a < n → ∀ w ∈ S.getD a [], 0 ≤ w ∧ w < (n : Int)) (hm : ∀ a, a < n → (S.getD a []).length ≤ 1000) : ∀ (k : Nat) (seen : List Bool) (v : Nat), seen.length = n → v < n → uns seen ≤ k →
    Spec Try.prog 95 (inStI (rcA n S v) (rcO n S seen)) (outStI (.tup []) (rcO n S (vis S k seen v)) rcI rcI)
  | 0, seen, v, hs, hv, hk => visit_seen n S hn seen hs v hv (uns_zero (by omega) (by omega))
  | k + 1, seen, v, hs, hv, hk => by
    cases hsv : seen.getD v false with
    | true =>
      have := visit_seen n S hn seen hs v hv hsv
      rw [vis, if_pos hsv]; exact this
    | false => exact visit_new n S hSl hn hS hm k (visit_spec n S hSl hn hS hm k) seen hs v hv hsv hk
/-- All that can be reached from one vertex. -/
def rchL (n : Nat) (S : List (List Int)) (v : Nat) : List Nat := snL (vis S n (List.replicate n false) v) n
end Go.Proofs.Ytkbkmngbenohkaa
