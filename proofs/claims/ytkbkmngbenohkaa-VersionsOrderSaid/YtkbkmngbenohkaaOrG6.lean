/- graph.Reach by the machine. -/
import Derived.Test.YtkbkmngbenohkaaOrG5
import Derived.Test.YtkbkmngbenohkaaOrV10
import Derived.Test.YtkbkmngbenohkaaM6
set_option linter.unusedSimpArgs false
set_option linter.unusedVariables false
namespace Go.Proofs.Ytkbkmngbenohkaa
open Go.RowKit

abbrev rcO (n : Nat) (S : List (List Int)) (seen : List Bool) : List (Oid × Cells) :=
  [((0, 9), .box 112 [.ref (2, 9) 0 n]), ((1, 9), .box 110 [.fn (.func 95) [] [.fp 0 [.v (.int .i64 (n : Int))], .ptr (0, 9) 0, .fp 0 [.sl n (nrows S)], .ptr (1, 9) 0]]), ((2, 9), .row 4 1 (bsl seen))]
abbrev rcA (n : Nat) (S : List (List Int)) (v : Int) : List AV := [.v (.int .i64 v), .fp 0 [.v (.int .i64 (n : Int))], .ptr (0, 9) 0, .fp 0 [.sl n (nrows S)], .ptr (1, 9) 0]
abbrev rcI : List Oid := [(0, 9), (1, 9), (2, 9)]
theorem visit_seen (n : Nat) (S : List (List Int)) (hn : n ≤ 64) (seen : List Bool) (hs : seen.length = n) (v : Nat) (hv : v < n) (hsv : seen.getD v false = true) :
    Spec Try.prog 95 (inStI (rcA n S v) (rcO n S seen)) (outStI (.tup []) (rcO n S seen) rcI rcI) := by
  refine Spec.ofNI Try.func95 rfl Try.ntmps95 rfl ?_
  refine D_seq fun K1 hK1 => ?_
  refine D_seq fun K2 hK2 => ?_
  refine D_region ?_
  refine DL_c (op_mv _ (rfl : _ = AV.v (.int _ _))) ?_
  first
    | refine DL_c (op_lss _ _ rfl rfl (by assumption)) ?_
    | refine DL_c (op_lss _ _ rfl rfl rfl) ?_
  refine DL_c (op_mv _ (rfl : _ = AV.v (.bool _))) ?_
  refine DL_caseC (fun hg10 => ?_) (fun hg10 => ?_)
  · skip
    refine DL_cn rfl rfl (by decide) ?_
    refine DL_cn rfl rfl (by decide) ?_
    refine DL_cn rfl rfl (by decide) ?_
    refine DL_c (op_pick _ _ _ rfl (rfl : _ = AV.v (.bool _))) ?_
    refine DL_c (op_mv _ (rfl : _ = AV.v (.bool _))) ?_
    refine DL_cn rfl rfl (by decide) ?_
    refine DL_cn rfl rfl (by decide) ?_
    refine DL_cn rfl rfl (by decide) ?_
    refine DL_cn rfl rfl (by decide) ?_
    refine DL_c (op_pick _ _ _ rfl (rfl : _ = AV.v (.bool _))) ?_
    refine DL_nil (hK2 _ ?_)
    clear hK2; try clear K2
    refine D_cT rfl rfl ?_
    refine D_ret ?_
    exact ret0 (.inr rfl) rfl (Le.outI [] [] (.tup rfl lv_nil) rfl rfl rfl trivial ⟨⟨rfl, ⟨_, rfl, lvO_id _⟩, rfl⟩, ⟨rfl, ⟨_, rfl, lvO_id _⟩, rfl⟩, ⟨rfl, ⟨_, rfl, lvO_id _⟩, rfl⟩, trivial⟩ ⟨rfl, rfl, rfl, trivial⟩ rfl)
  · skip
    refine DL_cy rfl rfl (op_mv _ (rfl : _ = AV.v (.int _ _))) ?_
    refine DL_cy rfl rfl (op_ldF _ inferInstance rfl (rfl : _ = some (PV.v (.int .i64 (n : Int)))) rfl) ?_
    first
      | refine DL_cy rfl rfl (op_geq _ _ rfl rfl (by assumption)) ?_
      | refine DL_cy rfl rfl (op_geq _ _ rfl rfl rfl) ?_
    refine DL_c (op_pick _ _ _ rfl (rfl : _ = AV.v (.bool _))) ?_
    refine DL_c (op_mv _ (rfl : _ = AV.v (.bool _))) ?_
    refine DL_caseC (fun hg15 => ?_) (fun hg15 => ?_)
    · skip
      refine DL_cn rfl rfl (by decide) ?_
      refine DL_cn rfl rfl (by decide) ?_
      refine DL_cn rfl rfl (by decide) ?_
      refine DL_cn rfl rfl (by decide) ?_
      refine DL_c (op_pick _ _ _ rfl (rfl : _ = AV.v (.bool _))) ?_
      refine DL_nil (hK2 _ ?_)
      clear hK2; try clear K2
      refine D_cT rfl rfl ?_
      refine D_ret ?_
      exact ret0 (.inr rfl) rfl (Le.outI [] [] (.tup rfl lv_nil) rfl rfl rfl trivial ⟨⟨rfl, ⟨_, rfl, lvO_id _⟩, rfl⟩, ⟨rfl, ⟨_, rfl, lvO_id _⟩, rfl⟩, ⟨rfl, ⟨_, rfl, lvO_id _⟩, rfl⟩, trivial⟩ ⟨rfl, rfl, rfl, trivial⟩ rfl)
    · skip
      first
        | refine DL_cy rfl rfl (op_ldB _ inferInstance rfl rfl (rfl : _ = some (AV.ref _ _ _))) ?_
        | refine DL_cy rfl rfl (op_ldR _ inferInstance rfl rfl (by first | rfl | exact isl_get _ _ (by omega) | exact bsl_get _ _ (by omega) | assumption | exact isl_get _ _ (by omega) | exact nrows_get _ _ (by omega)) rfl) ?_
      refine DL_cy rfl rfl (op_mv _ (rfl : _ = AV.v (.int _ _))) ?_
      refine DL_cy rfl rfl (op_ixR _ _ inferInstance rfl rfl rfl v rfl (by omega) (by exact (Nat.zero_add _).trans (Nat.mul_one _))) ?_
      refine DL_cy rfl rfl (op_ldR _ inferInstance rfl rfl (by exact (bsl_get _ _ (by omega)).trans (by rw [hsv])) rfl) ?_
      refine DL_c (op_pick _ _ _ rfl (rfl : _ = AV.v (.bool _))) ?_
      refine DL_nil (hK2 _ ?_)
      clear hK2; try clear K2
      refine D_splitC rfl (fun hc20 => ?_) (fun hc20 => ?_)
      · skip
        refine D_ret ?_
        exact ret0 (.inr rfl) rfl (Le.outI [] [] (.tup rfl lv_nil) rfl rfl rfl trivial ⟨⟨rfl, ⟨_, rfl, lvO_id _⟩, rfl⟩, ⟨rfl, ⟨_, rfl, lvO_id _⟩, rfl⟩, ⟨rfl, ⟨_, rfl, lvO_id _⟩, rfl⟩, trivial⟩ ⟨rfl, rfl, rfl, trivial⟩ rfl)
      · skip
        exact absurd  hc20 (by simp)
def vfd (S : List (List Int)) (k : Nat) (s : List Bool) (l : List Int) (j : Nat) : List Bool := (l.take j).foldl (fun s w => vis S k s w.toNat) s
theorem vfd_succ {S : List (List Int)} {k : Nat} {s : List Bool} {l : List Int} {j : Nat} (h : j < l.length) : vfd S k s l (j + 1) = vis S k (vfd S k s l j) (l.getD j 0).toNat := by
  unfold vfd; rw [take1 0 h, List.foldl_append]; rfl
theorem vfd_ok {n : Nat} {S : List (List Int)} (hS : ∀ a, a < n → ∀ w ∈ S.getD a [], 0 ≤ w ∧ w < (n : Int)) {k : Nat} {s : List Bool} (hs : s.length = n) (hk : uns s ≤ k) {v : Nat} (hv : v < n) : ∀ j, j ≤ (S.getD v []).length → (vfd S k s (S.getD v []) j).length = n ∧ uns (vfd S k s (S.getD v []) j) ≤ k
  | 0, _ => ⟨hs, hk⟩
  | j + 1, hj => by
    obtain ⟨h1, h2⟩ := vfd_ok hS hs hk hv j (by omega)
    have hb := hS v hv _ (getD_memI (show j < (S.getD v []).length by omega))
    rw [vfd_succ (by omega)]
    obtain ⟨h3, h4⟩ := vis_len hS (k := k) h1 (v := ((S.getD v []).getD j 0).toNat) (by omega) h2
    exact ⟨h3, by omega⟩
theorem visit_new (n : Nat) (S : List (List Int)) (hSl : S.length = n) (hn : n ≤ 64) (hS : ∀ a, a < n → ∀ w ∈ S.getD a [], 0 ≤ w ∧ w < (n : Int)) (hm : ∀ a, a < n → (S.getD a []).length ≤ 1000) (k : Nat)
    (ih : ∀ (seen : List Bool) (v : Nat), seen.length = n → v < n → uns seen ≤ k → Spec Try.prog 95 (inStI (rcA n S v) (rcO n S seen)) (outStI (.tup []) (rcO n S (vis S k seen v)) rcI rcI))
    (seen : List Bool) (hs : seen.length = n) (v : Nat) (hv : v < n) (hsv : seen.getD v false = false) (hu : uns seen ≤ k + 1) :
    Spec Try.prog 95 (inStI (rcA n S v) (rcO n S seen)) (outStI (.tup []) (rcO n S (vis S (k + 1) seen v)) rcI rcI) := by
  have hnr : (nrows S).length = n := by simp [nrows, hSl]
  have hus := uns_set (by omega) hsv
  have hsl : (seen.set v true).length = n := by rw [List.length_set]; exact hs
  have hml := hm v hv
  have hfin : vis S (k + 1) seen v = vfd S k (seen.set v true) (S.getD v []) (S.getD v []).length := by
    rw [vis, if_neg (by rw [hsv]; simp), vfd, List.take_length]
  rw [hfin]
  refine Spec.ofNI Try.func95 rfl Try.ntmps95 rfl ?_
  refine D_seq fun K1 hK1 => ?_
  refine D_seq fun K2 hK2 => ?_
  refine D_region ?_
  refine DL_c (op_mv _ (rfl : _ = AV.v (.int _ _))) ?_
  first
    | refine DL_c (op_lss _ _ rfl rfl (by assumption)) ?_
    | refine DL_c (op_lss _ _ rfl rfl rfl) ?_
  refine DL_c (op_mv _ (rfl : _ = AV.v (.bool _))) ?_
  refine DL_caseC (fun hg10 => ?_) (fun hg10 => ?_)
  · skip
    refine DL_cn rfl rfl (by decide) ?_
    refine DL_cn rfl rfl (by decide) ?_
    refine DL_cn rfl rfl (by decide) ?_
    refine DL_c (op_pick _ _ _ rfl (rfl : _ = AV.v (.bool _))) ?_
    refine DL_c (op_mv _ (rfl : _ = AV.v (.bool _))) ?_
    refine DL_cn rfl rfl (by decide) ?_
    refine DL_cn rfl rfl (by decide) ?_
    refine DL_cn rfl rfl (by decide) ?_
    refine DL_cn rfl rfl (by decide) ?_
    refine DL_c (op_pick _ _ _ rfl (rfl : _ = AV.v (.bool _))) ?_
    refine DL_nil (hK2 _ ?_)
    clear hK2; try clear K2
    refine D_cT rfl rfl ?_
    refine D_ret ?_
    exact absurd hg10 (by omega)
  · skip
    refine DL_cy rfl rfl (op_mv _ (rfl : _ = AV.v (.int _ _))) ?_
    refine DL_cy rfl rfl (op_ldF _ inferInstance rfl (rfl : _ = some (PV.v (.int .i64 (n : Int)))) rfl) ?_
    first
      | refine DL_cy rfl rfl (op_geq _ _ rfl rfl (by assumption)) ?_
      | refine DL_cy rfl rfl (op_geq _ _ rfl rfl rfl) ?_
    refine DL_c (op_pick _ _ _ rfl (rfl : _ = AV.v (.bool _))) ?_
    refine DL_c (op_mv _ (rfl : _ = AV.v (.bool _))) ?_
    refine DL_caseC (fun hg15 => ?_) (fun hg15 => ?_)
    · skip
      refine DL_cn rfl rfl (by decide) ?_
      refine DL_cn rfl rfl (by decide) ?_
      refine DL_cn rfl rfl (by decide) ?_
      refine DL_cn rfl rfl (by decide) ?_
      refine DL_c (op_pick _ _ _ rfl (rfl : _ = AV.v (.bool _))) ?_
      refine DL_nil (hK2 _ ?_)
      clear hK2; try clear K2
      refine D_cT rfl rfl ?_
      refine D_ret ?_
      exact absurd hg15 (by omega)
    · skip
      first
        | refine DL_cy rfl rfl (op_ldB _ inferInstance rfl rfl (rfl : _ = some (AV.ref _ _ _))) ?_
        | refine DL_cy rfl rfl (op_ldR _ inferInstance rfl rfl (by first | rfl | exact isl_get _ _ (by omega) | exact bsl_get _ _ (by omega) | assumption | exact isl_get _ _ (by omega) | exact nrows_get _ _ (by omega)) rfl) ?_
      refine DL_cy rfl rfl (op_mv _ (rfl : _ = AV.v (.int _ _))) ?_
      refine DL_cy rfl rfl (op_ixR _ _ inferInstance rfl rfl rfl v rfl (by omega) (by exact (Nat.zero_add _).trans (Nat.mul_one _))) ?_
      refine DL_cy rfl rfl (op_ldR _ inferInstance rfl rfl (by exact (bsl_get _ _ (by omega)).trans (by rw [hsv])) rfl) ?_
      refine DL_c (op_pick _ _ _ rfl (rfl : _ = AV.v (.bool _))) ?_
      refine DL_nil (hK2 _ ?_)
      clear hK2; try clear K2
      refine D_splitC rfl (fun hc20 => ?_) (fun hc20 => ?_)
      · skip
        exact absurd  hc20 (by simp)
      · skip
        refine D_skip (hK1 _ ?_)
        clear hK1; try clear K1
        refine D_seq fun K3 hK3 => ?_
        refine D_region ?_
        first
          | refine DL_c (op_ldB _ inferInstance rfl rfl (rfl : _ = some (AV.ref _ _ _))) ?_
          | refine DL_c (op_ldR _ inferInstance rfl rfl (by first | rfl | exact isl_get _ _ (by omega) | exact bsl_get _ _ (by omega) | assumption | exact isl_get _ _ (by omega) | exact nrows_get _ _ (by omega)) rfl) ?_
        refine DL_c (op_mv _ (rfl : _ = AV.v (.int _ _))) ?_
        refine DL_c (op_ixR _ _ inferInstance rfl rfl rfl v rfl (by omega) (by exact (Nat.zero_add _).trans (Nat.mul_one _))) ?_
        refine DL_c (op_stR _ _ inferInstance rfl rfl rfl rfl rfl (by rw [bsl_len]; simp only [List.length_cons, List.length_nil]; omega) (bsl_put _ _ _ (by omega))) ?_
        refine DL_nil (hK3 _ ?_)
        clear hK3; try clear K3
        refine D_seq fun K4 hK4 => ?_
        refine D_le (σ' := mkStI 37 [(0, _), (3, _), (4, _)] [((0, 9), _), ((1, 9), _), ((2, 9), _)] [(0, 9), (1, 9), (2, 9)] [(0, 9), (1, 9), (2, 9)]) (by
          refine Le.mkJ [] [] rfl ?_ ?_ trivial ⟨rfl, rfl, rfl, trivial⟩ ?_
          · exact ⟨(iV rfl), (iF rfl), (iP rfl), trivial⟩
          · exact ⟨(obE rfl rfl rfl), (obE rfl rfl rfl), (obE rfl rfl rfl), trivial⟩
          · kernel_rfl) ?_
        refine D_region ?_
        refine DL_c (op_ldF _ inferInstance rfl (rfl : _ = some (PV.sl n (nrows S))) rfl) ?_
        refine DL_c (op_mv _ (rfl : _ = AV.v (.int _ _))) ?_
        refine DL_c (op_ixS _ _ inferInstance rfl rfl v rfl (by omega) (by omega) (Nat.mul_one _)) ?_
        refine DL_c (op_ldF _ inferInstance rfl (by exact nrows_get _ _ (by omega)) rfl) ?_
        first
          | refine DL_c (op_lenS _ inferInstance rfl) ?_
          | refine DL_c (op_lenR _ inferInstance rfl rfl) ?_
          | refine DL_c (op_lenN _ inferInstance rfl) ?_
          | refine DL_c (op_lenB _ inferInstance rfl rfl) ?_
          | refine DL_c (op_lenZ _ inferInstance rfl) ?_
        refine DL_c (op_mv _ (rfl : _ = AV.v (.int _ _))) ?_
        refine DL_nil (hK4 _ ?_)
        clear hK4; try clear K4
        refine D_block ?_
        refine D_loopL (α := Nat) (fun j => j ≤ (S.getD v []).length) 37 [(4, _), (27, _), (28, _)] [((0, 9), _), ((1, 9), _)] (fun j => [(29, .v (.int .i64 (j : Int)))]) (fun j => [((2, 9), .row 4 1 (bsl (vfd S k (seen.set v true) (S.getD v []) j)))]) [(0, 9), (1, 9), (2, 9)] [(0, 9), (1, 9), (2, 9)] (fun j => (S.getD v []).length - j) 0 ?_ (by
          refine Le.mkJ [] [] rfl ?_ ?_ trivial ⟨rfl, rfl, rfl, trivial⟩ ?_
          · exact ⟨(iP rfl), (by first | exact iS rfl | exact iR rfl | exact iV rfl | exact iZ rfl | exact iD rfl), (iV rfl), (lvI (by first | rfl | omega | (simp; done) | (simp; omega) | assumption)), trivial⟩
          · exact ⟨(obE rfl rfl rfl), (obE rfl rfl rfl), (obR rfl rfl rfl (by rfl)), trivial⟩
          · kernel_rfl) ?_
        · first | omega | trivial | exact ⟨by omega, by omega⟩
        intro j hj
        obtain ⟨hf1, hf2⟩ := vfd_ok hS hsl (show uns (seen.set v true) ≤ k by omega) hv j hj
        refine D_seq fun K5 hK5 => ?_
        refine D_region ?_
        first
          | refine DL_c (op_lss _ _ rfl rfl (by assumption)) ?_
          | refine DL_c (op_lss _ _ rfl rfl rfl) ?_
        refine DL_nil (hK5 _ ?_)
        clear hK5; try clear K5
        refine D_seq fun K6 hK6 => ?_
        refine D_splitC rfl (fun hc30 => ?_) (fun hc30 => ?_)
        · skip
          have hb := hS v hv _ (getD_memI (show j < (S.getD v []).length by omega))
          obtain ⟨b, hbe⟩ := Int.eq_ofNat_of_zero_le hb.1
          have hvs := vfd_succ (S := S) (k := k) (s := seen.set v true) (show j < (S.getD v []).length by omega)
          rw [hbe, Int.toNat_natCast] at hvs
          have hih := ih (vfd S k (seen.set v true) (S.getD v []) j) b hf1 (by omega) hf2
          refine D_skip (hK6 _ ?_)
          clear hK6; try clear K6
          refine D_seq fun K7 hK7 => ?_
          refine D_block ?_
          refine D_seq fun K8 hK8 => ?_
          refine D_region ?_
          first
            | refine DL_c (op_ixS _ _ inferInstance rfl rfl _ rfl (by omega) (by first | assumption | decide | (simp only [isl_len, bsl_len, psl_len, mrows_len, nsl_len, ws_len, List.length_map, nxL_len, nxM_len, bsl_len]; omega) | (simp; done) | (simp; omega) | (simp [isl, bsl]; omega)) (by first | exact Nat.mul_one _ | rfl | omega)) ?_
            | refine DL_c (op_ixS _ _ inferInstance rfl rfl (Int.toNat _) (Int.toNat_of_nonneg (by omega)).symm (by omega) (by first | assumption | decide | (simp only [isl_len, bsl_len, psl_len, mrows_len, nsl_len, ws_len, List.length_map, nxL_len, nxM_len, bsl_len]; omega) | (simp; done) | (simp; omega) | (simp [isl, bsl]; omega)) (by first | exact Nat.mul_one _ | rfl | omega)) ?_
            | refine DL_c (op_ixR _ _ inferInstance rfl rfl rfl _ rfl (by omega) (by first | exact (Nat.zero_add _).trans (Nat.mul_one _) | exact Nat.zero_add _ | rfl | omega)) ?_
            | refine DL_c (op_ixR _ _ inferInstance rfl rfl rfl (Int.toNat _) (Int.toNat_of_nonneg (by omega)).symm (by omega) (by first | exact (Nat.zero_add _).trans (Nat.mul_one _) | exact Nat.zero_add _ | rfl | omega)) ?_
            | refine DL_c (op_ixB _ _ inferInstance rfl rfl rfl _ rfl (by omega) (by first | exact (Nat.zero_add _).trans (Nat.mul_one _) | exact Nat.zero_add _ | rfl | omega)) ?_
            | refine DL_c (op_ixB _ _ inferInstance rfl rfl rfl (Int.toNat _) (Int.toNat_of_nonneg (by omega)).symm (by omega) (by first | exact (Nat.zero_add _).trans (Nat.mul_one _) | exact Nat.zero_add _ | rfl | omega)) ?_
          refine DL_c (op_ldF _ inferInstance rfl (by exact (isl_get _ _ (by omega)).trans (by rw [hbe])) rfl) ?_
          refine DL_c (op_as _ (rfl : _ = AV.v (.int _ _))) ?_
          refine DL_nil (hK8 _ ?_)
          clear hK8; try clear K8
          refine D_region ?_
          first
            | refine DL_c (op_ldB _ inferInstance rfl rfl (rfl : _ = some (AV.fn _ _ _))) ?_
            | refine DL_c (op_ldR _ inferInstance rfl rfl (by first | rfl | exact isl_get _ _ (by omega) | exact bsl_get _ _ (by omega) | assumption | exact isl_get _ _ (by omega) | exact nrows_get _ _ (by omega)) rfl) ?_
          refine DL_c (op_mv _ (rfl : _ = AV.v (.int _ _))) ?_
          refine DL_c (op_callRV rfl inferInstance [] ?_ (hih) ⟨⟨rfl, ⟨_, rfl, lvO_id _⟩, rfl⟩, ⟨rfl, ⟨_, rfl, lvO_id _⟩, rfl⟩, ⟨rfl, ⟨_, rfl, lvO_id _⟩, rfl⟩, trivial⟩ ⟨rfl, rfl, rfl, trivial⟩ (by kernel_rfl)) ?_
          · repeat' (first | exact argsR_nil | refine argsR_cons ?_ ?_ | exact Lv.v | exact lvI (by assumption) | exact lvI (by omega) | exact Lv.sl | exact Lv.fp | exact Lv.nil | exact lvRr rfl rfl | exact lvPr rfl | refine Lv.agg rfl ?_ | refine Lv.fn rfl ?_ rfl ?_ | refine Lv.ifc ?_ | exact lv_nil | refine lv_cons ?_ ?_)
          refine DL_nil (hK7 _ ?_)
          clear hK7; try clear K7
          refine D_region ?_
          first
            | refine DL_c (op_add _ _ rfl rfl (i64w (by omega))) ?_
            | refine DL_c (op_add _ _ rfl rfl rfl) ?_
          refine DL_c (op_mv _ (rfl : _ = AV.v (.int _ _))) ?_
          refine DL_nil ?_
          refine ⟨j + 1, ?_, ?_, ?_⟩
          · first | omega | trivial | exact ⟨by omega, by omega⟩
          · skip
            refine Le.mkJ [] [] rfl ?_ ?_ trivial ⟨rfl, rfl, rfl, trivial⟩ ?_
            · exact ⟨(iP rfl), (by first | exact iS rfl | exact iR rfl | exact iV rfl | exact iZ rfl | exact iD rfl), (iV rfl), (lvI (by first | rfl | omega | (simp; done) | (simp; omega) | assumption)), trivial⟩
            · exact ⟨(obE rfl rfl rfl), (obE rfl rfl rfl), (obR rfl rfl rfl (by rw [hvs])), trivial⟩
            · kernel_rfl
          · omega
        · skip
          have hjl : j = (S.getD v []).length := by omega
          refine D_exit ?_
          refine id ?_
          exact ret0 (.inl rfl) rfl (Le.outI [] [] (.tup rfl lv_nil) rfl rfl rfl trivial ⟨⟨rfl, ⟨_, rfl, lvO_id _⟩, rfl⟩, ⟨rfl, ⟨_, rfl, lvO_id _⟩, rfl⟩, ⟨rfl, ⟨_, rfl, .rowE (by rw [hjl])⟩, rfl⟩, trivial⟩ ⟨rfl, rfl, rfl, trivial⟩ rfl)
theorem visit_spec (n : Nat) (S : List (List Int)) (hSl : S.length = n) (hn : n ≤ 64) (hS : ∀ a, a < n → ∀ w ∈ S.getD a [], 0 ≤ w ∧ w < (n : Int)) (hm : ∀ a, a < n → (S.getD a []).length ≤ 1000) : ∀ (k : Nat) (seen : List Bool) (v : Nat), seen.length = n → v < n → uns seen ≤ k →
    Spec Try.prog 95 (inStI (rcA n S v) (rcO n S seen)) (outStI (.tup []) (rcO n S (vis S k seen v)) rcI rcI)
  | 0, seen, v, hs, hv, hk => visit_seen n S hn seen hs v hv (uns_zero (by omega) (by omega))
  | k + 1, seen, v, hs, hv, hk => by
    cases hsv : seen.getD v false with
    | true =>
      have := visit_seen n S hn seen hs v hv hsv
      rw [vis, if_pos hsv]; exact this
    | false => exact visit_new n S hSl hn hS hm k (visit_spec n S hSl hn hS hm k) seen hs v hv hsv hk
/-- All that can be reached from one vertex. -/
def rchL (n : Nat) (S : List (List Int)) (v : Nat) : List Nat := snL (vis S n (List.replicate n false) v) n
theorem reach_spec (n : Nat) (hn : n ≤ 64) (m : Nat) (E : Prs) (hm : E.length = m) (h1 : m ≤ 1000000) (hE : inE n E = true) (hS : ∀ a, a < n → (nxt E a).length ≤ 12 ∧ (nxt E a).Nodup) (v : Nat) (hv : v < n) :
    Spec Try.prog 55 (inSt [.v (.int .i64 (n : Int)), .sl m (psl E), .sl 1 (isl [(v : Int)])] []) (outSt (.sl (rchL n (nxS n E) v).length (nsl (rchL n (nxS n E) v))) []) := by
  have hsl : ∀ a, a < n → ((nxS n E).getD a []).length ≤ 1000 := fun a ha => by rw [nxS_get ha, srt_len]; have := (hS a ha).1; omega
  have hsb : ∀ a, a < n → ∀ x ∈ (nxS n E).getD a [], 0 ≤ x ∧ x < (n : Int) := fun a ha x hx => by
    rw [nxS_get ha, (srt_perm _).mem_iff, nxt_mem] at hx
    have := inE_mem hE hx
    exact ⟨this.2.2.1, this.2.2.2⟩
  have hnS : (nxS n E).length = n := nxM_len n E n
  have hsucc := succ_spec n hn m E hm h1 hE hS
  generalize nxS n E = S at hsl hsb hnS hsucc ⊢
  have hvis := visit_spec n S hnS hn hsb hsl n (List.replicate n false) v (by simp) hv (by have := uns_le (List.replicate n false); simpa using this)
  have hvl := (vis_len hsb (k := n) (s := List.replicate n false) (v := v) (by simp) hv (by have := uns_le (List.replicate n false); simpa using this)).1
  unfold rchL
  generalize vis S n (List.replicate n false) v = t at hvis hvl ⊢
  refine Spec.ofN Try.func55 rfl Try.ntmps55 rfl ?_
  refine D_seq fun K1 hK1 => ?_
  refine D_region ?_
  refine DL_c (op_box (3, 0) _ rfl rfl) ?_
  first
    | refine DL_c (op_as _ (rfl : _ = AV.sl _ _)) ?_
    | refine DL_c (op_as _ (rfl : _ = AV.ref _ _ _)) ?_
    | refine DL_c (op_as _ (rfl : _ = AV.v (.slice _ _ _))) ?_
    | refine DL_c (op_as _ (rfl : _ = AV.z)) ?_
  refine DL_nil (hK1 _ ?_)
  clear hK1; try clear K1
  refine D_seq fun K2 hK2 => ?_
  refine D_region ?_
  first
    | refine DL_c (op_ldB _ inferInstance rfl rfl (rfl : _ = some (AV.v (.int _ _)))) ?_
    | refine DL_c (op_ldR _ inferInstance rfl rfl (by first | rfl | exact isl_get _ _ (by omega) | exact bsl_get _ _ (by omega) | assumption | exact isl_get _ _ (by omega) | exact nrows_get _ _ (by omega)) rfl) ?_
  refine DL_c (op_mv _ (rfl : _ = AV.sl _ _)) ?_
  refine DL_c (op_callH inferInstance (by repeat' (first | exact argsLv_nil | refine argsLv_cons ?_ ?_ | exact Lv.v | exact lvI (by omega) | exact Lv.sl | exact Lv.fp | exact Lv.nil | refine Lv.agg rfl ?_ | refine Lv.fn rfl ?_ rfl ?_ | exact lv_nil | refine lv_cons ?_ ?_ | exact Lv.z0)) (hsucc) rfl rfl) ?_
  refine DL_c (op_alloc (7, 0) inferInstance rfl rfl) ?_
  refine DL_c (op_stB _ _ inferInstance rfl rfl rfl rfl (Nat.le_of_ble_eq_true rfl) rfl) ?_
  refine DL_nil (hK2 _ ?_)
  clear hK2; try clear K2
  refine D_seq fun K3 hK3 => ?_
  refine D_region ?_
  first
    | refine DL_c (op_ldB _ inferInstance rfl rfl (rfl : _ = some (AV.v (.int _ _)))) ?_
    | refine DL_c (op_ldR _ inferInstance rfl rfl (by first | rfl | exact isl_get _ _ (by omega) | exact bsl_get _ _ (by omega) | assumption | exact isl_get _ _ (by omega) | exact nrows_get _ _ (by omega)) rfl) ?_
  refine DL_c (op_mk (19, 0) _ _ inferInstance rfl rfl n rfl rfl (by omega) rfl (bsl_falses n)) ?_
  refine DL_c (op_alloc (8, 0) inferInstance rfl rfl) ?_
  refine DL_c (op_stB _ _ inferInstance rfl rfl rfl rfl (Nat.le_of_ble_eq_true rfl) rfl) ?_
  refine DL_nil (hK3 _ ?_)
  clear hK3; try clear K3
  refine D_seq fun K4 hK4 => ?_
  refine D_region ?_
  refine DL_c (op_alloc (9, 0) inferInstance rfl rfl) ?_
  refine DL_nil (hK4 _ ?_)
  clear hK4; try clear K4
  refine D_seq fun K5 hK5 => ?_
  refine D_le (Le.trans (Le.frzPt 7 rfl rfl rfl rfl) (Le.frzPt 3 rfl rfl rfl rfl)) ?_
  refine D_region ?_
  refine DL_c (op_mf _ _ (rfl : _ = []) (rfl : _ = [_, _, _, _])) ?_
  refine DL_c (op_stB _ _ inferInstance rfl rfl rfl rfl (Nat.le_of_ble_eq_true rfl) rfl) ?_
  refine DL_nil (hK5 _ ?_)
  clear hK5; try clear K5
  refine D_seq fun K6 hK6 => ?_
  refine D_seq fun K7 hK7 => ?_
  refine D_region ?_
  refine DL_c (op_mv _ (rfl : _ = AV.sl _ _)) ?_
  refine DL_c (op_lenS _ inferInstance rfl) ?_
  refine DL_c (op_mv _ (rfl : _ = AV.v (.int _ _))) ?_
  refine DL_nil (hK7 _ ?_)
  clear hK7; try clear K7
  refine D_block ?_
  refine D_loopL (α := Nat) (fun j => j ≤ 1) 45 [(8, _), (9, _), (21, _), (22, _)] [((8, 0), _), ((9, 0), _)] (fun j => [(23, .v (.int .i64 (j : Int)))]) (fun j => [((19, 0), .row 4 1 (bsl (if j = 0 then List.replicate n false else t)))]) [] [] (fun j => 1 - j) 0 ?_ (by
    refine Le.mkJ [] [] rfl ?_ ?_ trivial trivial ?_
    · exact ⟨(iP rfl), (iP rfl), (iS rfl), (iV rfl), (lvI (by first | rfl | omega | (simp; done) | (simp; omega) | assumption)), trivial⟩
    · exact ⟨(obE rfl rfl rfl), (obE rfl rfl rfl), (obR rfl rfl rfl (by rfl)), trivial⟩
    · kernel_rfl) ?_
  · first | omega | trivial | exact ⟨by omega, by omega⟩
  intro j hj
  refine D_seq fun K8 hK8 => ?_
  refine D_region ?_
  first
    | refine DL_c (op_lss _ _ rfl rfl (by assumption)) ?_
    | refine DL_c (op_lss _ _ rfl rfl rfl) ?_
  refine DL_nil (hK8 _ ?_)
  clear hK8; try clear K8
  refine D_seq fun K9 hK9 => ?_
  refine D_splitC rfl (fun hc24 => ?_) (fun hc24 => ?_)
  · skip
    obtain rfl : j = 0 := by omega
    refine D_skip (hK9 _ ?_)
    clear hK9; try clear K9
    refine D_seq fun K10 hK10 => ?_
    refine D_block ?_
    refine D_seq fun K11 hK11 => ?_
    refine D_region ?_
    first
      | refine DL_c (op_ixS _ _ inferInstance rfl rfl _ rfl (by omega) (by first | assumption | decide | (simp only [isl_len, bsl_len, psl_len, mrows_len, nsl_len, ws_len, List.length_map, nxL_len, nxM_len, bsl_len]; omega) | (simp; done) | (simp; omega) | (simp [isl, bsl]; omega)) (by first | exact Nat.mul_one _ | rfl | omega)) ?_
      | refine DL_c (op_ixS _ _ inferInstance rfl rfl (Int.toNat _) (Int.toNat_of_nonneg (by omega)).symm (by omega) (by first | assumption | decide | (simp only [isl_len, bsl_len, psl_len, mrows_len, nsl_len, ws_len, List.length_map, nxL_len, nxM_len, bsl_len]; omega) | (simp; done) | (simp; omega) | (simp [isl, bsl]; omega)) (by first | exact Nat.mul_one _ | rfl | omega)) ?_
    refine DL_c (op_ldF _ inferInstance rfl (rfl : _ = some (PV.v (.int .i64 (v : Int)))) rfl) ?_
    refine DL_c (op_as _ (rfl : _ = AV.v (.int _ _))) ?_
    refine DL_nil (hK11 _ ?_)
    clear hK11; try clear K11
    refine D_region ?_
    first
      | refine DL_c (op_ldB _ inferInstance rfl rfl (rfl : _ = some (AV.fn _ _ _))) ?_
      | refine DL_c (op_ldR _ inferInstance rfl rfl (by first | rfl | exact isl_get _ _ (by omega) | exact bsl_get _ _ (by omega) | assumption | exact isl_get _ _ (by omega) | exact nrows_get _ _ (by omega)) rfl) ?_
    refine DL_c (op_mv _ (rfl : _ = AV.v (.int _ _))) ?_
    refine DL_c (op_callRV rfl inferInstance [((0, 9), (8, 0)), ((1, 9), (9, 0)), ((2, 9), (19, 0))] ?_ (hvis) ⟨⟨rfl, ⟨_, rfl, .box rfl (lv_cons (lvRr rfl rfl) lv_nil)⟩, rfl⟩, ⟨rfl, ⟨_, rfl, .box rfl (lv_cons (.fn rfl lv_nil rfl (lv_cons .fp (lv_cons (lvPr rfl) (lv_cons .fp (lv_cons (lvPr rfl) lv_nil))))) lv_nil)⟩, rfl⟩, ⟨rfl, ⟨_, rfl, .rowE rfl⟩, rfl⟩, trivial⟩ ⟨rfl, rfl, rfl, trivial⟩ (by kernel_rfl)) ?_
    · repeat' (first | exact argsR_nil | refine argsR_cons ?_ ?_ | exact Lv.v | exact lvI (by assumption) | exact lvI (by omega) | exact Lv.sl | exact Lv.fp | exact Lv.nil | exact lvRr rfl rfl | exact lvPr rfl | refine Lv.agg rfl ?_ | refine Lv.fn rfl ?_ rfl ?_ | refine Lv.ifc ?_ | exact lv_nil | refine lv_cons ?_ ?_)
    refine DL_nil (hK10 _ ?_)
    clear hK10; try clear K10
    refine D_region ?_
    first
      | refine DL_c (op_add _ _ rfl rfl (i64w (by omega))) ?_
      | refine DL_c (op_add _ _ rfl rfl rfl) ?_
    refine DL_c (op_mv _ (rfl : _ = AV.v (.int _ _))) ?_
    refine DL_nil ?_
    refine ⟨1, ?_, ?_, ?_⟩
    · exact Nat.le_refl 1
    · skip
      refine Le.mkJ [] [] rfl ?_ ?_ trivial trivial ?_
      · exact ⟨(iP rfl), (iP rfl), (iS rfl), (iV rfl), (lvI (by first | rfl | omega | (simp; done) | (simp; omega) | assumption)), trivial⟩
      · exact ⟨(obE rfl rfl rfl), (obE rfl rfl rfl), (obR rfl rfl rfl (by rfl)), trivial⟩
      · kernel_rfl
    · omega
  · skip
    obtain rfl : j = 1 := by omega
    refine D_exit ?_
    refine id (hK6 _ ?_)
    clear hK6; try clear K6
    refine D_seq fun K12 hK12 => ?_
    refine D_region ?_
    refine DL_c (op_asN (12, 0) _ 3 1 rfl rfl) ?_
    refine DL_nil (hK12 _ ?_)
    clear hK12; try clear K12
    refine D_seq fun K13 hK13 => ?_
    refine D_seq fun K14 hK14 => ?_
    refine D_region ?_
    first
      | refine DL_c (op_ldB _ inferInstance rfl rfl (rfl : _ = some (AV.ref _ _ _))) ?_
      | refine DL_c (op_ldR _ inferInstance rfl rfl (by first | rfl | exact isl_get _ _ (by omega) | exact bsl_get _ _ (by omega) | assumption | exact isl_get _ _ (by omega) | exact nrows_get _ _ (by omega)) rfl) ?_
    first
      | refine DL_c (op_lenR _ inferInstance rfl rfl) ?_
      | refine DL_c (op_lenB _ inferInstance rfl rfl) ?_
    refine DL_c (op_mv _ (rfl : _ = AV.v (.int _ _))) ?_
    refine DL_nil (hK14 _ ?_)
    clear hK14; try clear K14
    refine D_block ?_
    refine D_loopL (α := Nat) (fun i => i ≤ n) 45 [(31, _), (32, _)] [((19, 0), _)] (fun i => [(33, .v (.int .i64 (i : Int))), (12, .ref (12, 0) 0 (snL t i).length)]) (fun i => [((12, 0), .row 3 1 (nsl (snL t i)))]) [] [] (fun i => n - i) 0 ?_ (by
      refine Le.mkJ [] [] rfl ?_ ?_ trivial trivial ?_
      · exact ⟨(iR rfl), (iV rfl), (lvI (by first | rfl | omega | (simp; done) | (simp; omega) | assumption)), (lvRr rfl (by first | rfl | omega | (simp; done) | (simp; omega) | assumption)), trivial⟩
      · exact ⟨(obE rfl rfl rfl), (obR rfl rfl rfl (by first | rfl | omega | (simp; done) | (simp; omega) | assumption)), trivial⟩
      · kernel_rfl) ?_
    · first | omega | trivial | exact ⟨by omega, by omega⟩
    intro i hi
    have hsll := snL_len t i
    refine D_seq fun K15 hK15 => ?_
    refine D_region ?_
    first
      | refine DL_c (op_lss _ _ rfl rfl (by assumption)) ?_
      | refine DL_c (op_lss _ _ rfl rfl rfl) ?_
    refine DL_nil (hK15 _ ?_)
    clear hK15; try clear K15
    refine D_seq fun K16 hK16 => ?_
    refine D_splitC rfl (fun hc34 => ?_) (fun hc34 => ?_)
    · skip
      have htl : (if 1 = 0 then List.replicate n false else t) = t := rfl
      refine D_skip (hK16 _ ?_)
      clear hK16; try clear K16
      refine D_seq fun K17 hK17 => ?_
      refine D_block ?_
      refine D_seq fun K18 hK18 => ?_
      refine D_region ?_
      refine DL_c (op_mv _ (rfl : _ = AV.v (.int _ _))) ?_
      refine DL_c (op_ixR _ _ inferInstance rfl rfl rfl i rfl (by omega) (by exact (Nat.zero_add _).trans (Nat.mul_one _))) ?_
      refine DL_c (op_ldR _ inferInstance rfl rfl (by exact bsl_get t i (by omega)) rfl) ?_
      refine DL_c (op_as _ (rfl : _ = AV.v (.int _ _))) ?_
      refine DL_c (op_as _ (rfl : _ = AV.v (.bool _))) ?_
      refine DL_nil (hK18 _ ?_)
      clear hK18; try clear K18
      refine D_seq fun K19 hK19 => ?_
      refine D_region ?_
      refine DL_c (op_mv _ (rfl : _ = AV.v (.bool _))) ?_
      refine DL_nil (hK19 _ ?_)
      clear hK19; try clear K19
      refine D_splitC rfl (fun hc38 => ?_) (fun hc38 => ?_)
      · skip
        have hsy := snL_yes (t := t) (k := i) hc38
        refine D_region ?_
        refine DL_c (op_mv _ (rfl : _ = AV.ref _ _ _)) ?_
        refine DL_c (op_mv _ (rfl : _ = AV.v (.int _ _))) ?_
        refine DL_c (op_bsF _ _ inferInstance rfl (by rfl) (by simp <;> rfl) (by decide) rfl) ?_
        refine DL_c (op_ap (42, 0) _ _ inferInstance rfl rfl (by first | rfl | omega | (simp only [isl_len, bsl_len, psl_len, mrows_len, nsl_len, ws_len, List.length_map, nxL_len, nxM_len, bsl_len]; omega) | (simp; done) | (simp; omega)) (by first | exact .nil | (refine .sl ?_; first | (simp [isl]; done) | (simp [isl]; omega)) | (refine .ref rfl rfl ?_; first | (simp; done) | (simp; omega))) (by omega) rfl (rfl) (rfl)) ?_
        refine DL_c (op_as _ (rfl : _ = AV.ref _ _ _)) ?_
        refine DL_nil (hK17 _ ?_)
        clear hK17; try clear K17
        refine D_region ?_
        first
          | refine DL_c (op_add _ _ rfl rfl (i64w (by omega))) ?_
          | refine DL_c (op_add _ _ rfl rfl rfl) ?_
        refine DL_c (op_mv _ (rfl : _ = AV.v (.int _ _))) ?_
        refine DL_nil ?_
        refine ⟨i + 1, ?_, ?_, ?_⟩
        · first | omega | trivial | exact ⟨by omega, by omega⟩
        · skip
          refine Le.mkJ [((12, 0), (42, 0))] [] rfl ?_ ?_ trivial trivial ?_
          · exact ⟨(lvRr (id := (19, 0)) rfl rfl), (by repeat' (first | exact Lv.v | exact Lv.sl | exact Lv.fp | exact lvRr (id := (19, 0)) rfl rfl | exact lvPr (id := (19, 0)) rfl | exact lvRr (id := (12, 0)) rfl rfl | exact lvPr (id := (12, 0)) rfl | exact lvRr rfl rfl | exact lvPr rfl | exact Lv.mp | exact Lv.nil | exact Lv.z | exact Lv.dead | refine Lv.agg rfl ?_ | refine Lv.fn rfl ?_ rfl ?_ | refine Lv.tup rfl ?_ | refine Lv.ifc ?_ | exact lv_nil | refine lv_cons ?_ ?_)), (lvI (by first | rfl | omega | (first | (rw [hsy, List.length_append]; rfl) | (rw [hsy, ← nsl_append]; rfl)) | (simp; done) | (simp; omega) | assumption)), (lvRr rfl (by first | rfl | omega | (first | (rw [hsy, List.length_append]; rfl) | (rw [hsy, ← nsl_append]; rfl)) | (simp; done) | (simp; omega) | assumption)), trivial⟩
          · exact ⟨(obR rfl rfl rfl rfl), (obR rfl rfl rfl (by first | rfl | omega | (first | (rw [hsy, List.length_append]; rfl) | (rw [hsy, ← nsl_append]; rfl)) | (simp; done) | (simp; omega) | assumption)), trivial⟩
          · kernel_rfl
        · omega
      · skip
        have hsy := snL_no (t := t) (k := i) hc38
        refine D_skip (hK17 _ ?_)
        clear hK17; try clear K17
        refine D_region ?_
        first
          | refine DL_c (op_add _ _ rfl rfl (i64w (by omega))) ?_
          | refine DL_c (op_add _ _ rfl rfl rfl) ?_
        refine DL_c (op_mv _ (rfl : _ = AV.v (.int _ _))) ?_
        refine DL_nil ?_
        refine ⟨i + 1, ?_, ?_, ?_⟩
        · first | omega | trivial | exact ⟨by omega, by omega⟩
        · skip
          refine Le.mkJ [] [] rfl ?_ ?_ trivial trivial ?_
          · exact ⟨(iR rfl), (iV rfl), (lvI (by first | rfl | omega | (rw [hsy]) | (simp; done) | (simp; omega) | assumption)), (lvRr rfl (by first | rfl | omega | (rw [hsy]) | (simp; done) | (simp; omega) | assumption)), trivial⟩
          · exact ⟨(obE rfl rfl rfl), (obR rfl rfl rfl (by first | rfl | omega | (rw [hsy]) | (simp; done) | (simp; omega) | assumption)), trivial⟩
          · kernel_rfl
        · omega
    · skip
      obtain rfl : i = n := by omega
      refine D_exit ?_
      refine id (hK13 _ ?_)
      clear hK13; try clear K13
      refine D_seq fun K20 hK20 => ?_
      refine D_region ?_
      refine DL_c (op_mv _ (rfl : _ = AV.ref _ _ _)) ?_
      refine DL_c (op_as _ (rfl : _ = AV.ref _ _ _)) ?_
      refine DL_nil (hK20 _ ?_)
      clear hK20; try clear K20
      refine D_ret ?_
      exact ret1 (.inr rfl) rfl (.tmp (rfl : _ = AV.ref _ _ _)) (Le.out [] [(12, 0)] (frz0 rfl rfl (by rw [nsl_len]; exact Nat.mul_one _) rfl) rfl rfl rfl ⟨rfl, trivial⟩ trivial)
end Go.Proofs.Ytkbkmngbenohkaa
