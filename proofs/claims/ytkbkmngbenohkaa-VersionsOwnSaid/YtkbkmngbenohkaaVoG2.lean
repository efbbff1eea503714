/- slices.Compact of a list without neighbours that are equal; graph.successors. By the machine. -/
import Derived.Test.YtkbkmngbenohkaaVoG1
import Derived.Test.YtkbkmngbenohkaaVoA10
set_option linter.unusedSimpArgs false
set_option linter.unusedVariables false
namespace Go.Proofs.Ytkbkmngbenohkaa
open Go.RowKit

theorem compact_spec (n : Nat) (L : List Int) (hL : L.length = n) (h1 : n ≤ 4611686018427387904) (hnd : ∀ k, 0 < k → k < n → L.getD k 0 ≠ L.getD (k - 1) 0) :
    Spec Try.prog 122 (inStI [.ref (0, 9) 0 n] [((0, 9), .row 3 1 (isl L))]) (outStI (.ref (0, 8) 0 n) [((0, 8), .row 3 1 (isl L))] [(0, 8)] []) := by
  refine Spec.ofNI Try.func122 rfl Try.ntmps122 rfl ?_
  refine D_seq fun K1 hK1 => ?_
  refine D_region ?_
  first
    | refine DL_c (op_as _ (rfl : _ = AV.sl _ _)) ?_
    | refine DL_c (op_as _ (rfl : _ = AV.ref _ _ _)) ?_
    | refine DL_c (op_as _ (rfl : _ = AV.v (.slice _ _ _))) ?_
    | refine DL_c (op_as _ (rfl : _ = AV.z)) ?_
  refine DL_nil (hK1 _ ?_)
  clear hK1; try clear K1
  refine D_seq fun K2 hK2 => ?_
  refine D_seq fun K3 hK3 => ?_
  refine D_region ?_
  refine DL_c (op_mv _ (rfl : _ = AV.ref _ _ _)) ?_
  first
    | refine DL_c (op_lenR _ inferInstance rfl rfl) ?_
    | refine DL_c (op_lenB _ inferInstance rfl rfl) ?_
  first
    | refine DL_c (op_lss _ _ rfl rfl (by assumption)) ?_
    | refine DL_c (op_lss _ _ rfl rfl rfl) ?_
  refine DL_nil (hK3 _ ?_)
  clear hK3; try clear K3
  refine D_splitC rfl (fun hc8 => ?_) (fun hc8 => ?_)
  · skip
    refine D_seq fun K4 hK4 => ?_
    refine D_region ?_
    refine DL_c (op_mv _ (rfl : _ = AV.ref _ _ _)) ?_
    refine DL_c (op_as _ (rfl : _ = AV.ref _ _ _)) ?_
    refine DL_nil (hK4 _ ?_)
    clear hK4; try clear K4
    refine D_ret ?_
    exact ret1 (.inr rfl) rfl (.tmp (rfl : _ = AV.ref _ _ _)) (Le.outI [((0, 8), (0, 9))] [] (lvRr rfl rfl) rfl rfl rfl trivial ⟨⟨rfl, ⟨_, rfl, .rowE rfl⟩, rfl⟩, trivial⟩ trivial rfl)
  · skip
    refine D_skip (hK2 _ ?_)
    clear hK2; try clear K2
    refine D_seq fun K5 hK5 => ?_
    refine D_seq fun K6 hK6 => ?_
    refine D_region ?_
    refine DL_c (op_as _ (rfl : _ = AV.v (.int _ _))) ?_
    refine DL_nil (hK6 _ ?_)
    clear hK6; try clear K6
    refine D_block ?_
    refine D_loopL (α := Nat) (fun k => 1 ≤ k) 61 [(0, _)] [((0, 9), _)] (fun k => [(3, .v (.int .i64 (k : Int)))]) (fun k => []) [(0, 9)] [(0, 9)] (fun k => n - k) 1 ?_ (by
      refine Le.mkJ [] [] rfl ?_ ?_ trivial ⟨rfl, trivial⟩ ?_
      · exact ⟨(iR rfl), (lvI (by first | rfl | omega | (simp; done) | (simp; omega) | assumption)), trivial⟩
      · exact ⟨(obE rfl rfl rfl), trivial⟩
      · kernel_rfl) ?_
    · first | omega | trivial | exact ⟨by omega, by omega⟩
    intro k hk
    refine D_seq fun K7 hK7 => ?_
    refine D_seq fun K8 hK8 => ?_
    refine D_region ?_
    refine DL_c (op_mv _ (rfl : _ = AV.v (.int _ _))) ?_
    refine DL_c (op_mv _ (rfl : _ = AV.ref _ _ _)) ?_
    first
      | refine DL_c (op_lenR _ inferInstance rfl rfl) ?_
      | refine DL_c (op_lenB _ inferInstance rfl rfl) ?_
    first
      | refine DL_c (op_lss _ _ rfl rfl (by assumption)) ?_
      | refine DL_c (op_lss _ _ rfl rfl rfl) ?_
    refine DL_nil (hK8 _ ?_)
    clear hK8; try clear K8
    refine D_splitC rfl (fun hc13 => ?_) (fun hc13 => ?_)
    · skip
      refine D_skip (hK7 _ ?_)
      clear hK7; try clear K7
      refine D_seq fun K9 hK9 => ?_
      refine D_block ?_
      refine D_seq fun K10 hK10 => ?_
      refine D_le (σ' := mkStI 61 [(0, _), (3, _)] [((0, 9), _)] [(0, 9)] [(0, 9)]) (by
        refine Le.mkJ [] [] rfl ?_ ?_ trivial ⟨rfl, trivial⟩ ?_
        · exact ⟨(iR rfl), (iV rfl), trivial⟩
        · exact ⟨(obE rfl rfl rfl), trivial⟩
        · kernel_rfl) ?_
      refine D_anyL 10 [16, 17, 18, 19, 20, 21, 22, 23, 24, 25] [] (by kernel_rfl) (by kernel_rfl) rfl (nodupO_iff rfl) (rfl : _ = [_, _, _, _, _, _, _, _, _, _]) (rfl : _ = []) ?_
      refine any_c (_, []) (fun τ => op_mv _ (rfl : _ = AV.ref _ _ _)) ?_
      refine any_n (rfl : _ = [_]) ?_
      refine any_c (_, []) (fun τ => op_mv _ (rfl : _ = AV.v (.int _ _))) ?_
      refine any_n (rfl : _ = [_, _]) ?_
      refine any_c (_, []) (fun τ => op_ixR _ _ inferInstance rfl rfl rfl k rfl (by omega) (by exact (Nat.zero_add _).trans (Nat.mul_one _))) ?_
      refine any_n (rfl : _ = [_, _, _]) ?_
      first
        | refine any_c (_, []) (fun τ => op_ldR _ inferInstance rfl rfl (by first | rfl | exact isl_get _ _ (by omega) | exact bsl_get _ _ (by omega) | assumption | exact isl_get _ _ (by omega)) rfl) ?_
        | refine any_c (_, []) (fun τ => op_ldB _ inferInstance rfl rfl (rfl : _ = some (AV.v (.int _ _)))) ?_
      refine any_n (rfl : _ = [_, _, _, _]) ?_
      refine any_c (_, []) (fun τ => op_mv _ (rfl : _ = AV.ref _ _ _)) ?_
      refine any_n (rfl : _ = [_, _, _, _, _]) ?_
      refine any_c (_, []) (fun τ => op_mv _ (rfl : _ = AV.v (.int _ _))) ?_
      refine any_n (rfl : _ = [_, _, _, _, _, _]) ?_
      first
        | refine any_c (_, []) (fun τ => op_sub _ _ rfl rfl (i64w (by omega))) ?_
        | refine any_c (_, []) (fun τ => op_sub _ _ rfl rfl rfl) ?_
      refine any_n (rfl : _ = [_, _, _, _, _, _, _]) ?_
      refine any_c (_, []) (fun τ => op_ixR _ _ inferInstance rfl rfl rfl (k - 1) (by omega) (by omega) (by exact (Nat.zero_add _).trans (Nat.mul_one _))) ?_
      refine any_n (rfl : _ = [_, _, _, _, _, _, _, _]) ?_
      first
        | refine any_c (_, []) (fun τ => op_ldR _ inferInstance rfl rfl (by first | rfl | exact isl_get _ _ (by omega) | exact bsl_get _ _ (by omega) | assumption | exact isl_get _ _ (by omega)) rfl) ?_
        | refine any_c (_, []) (fun τ => op_ldB _ inferInstance rfl rfl (rfl : _ = some (AV.v (.int _ _)))) ?_
      refine any_n (rfl : _ = [_, _, _, _, _, _, _, _, _]) ?_
      first
        | refine any_c (_, []) (fun τ => op_eql _ _ rfl rfl (by assumption)) ?_
        | refine any_c (_, []) (fun τ => op_eql _ _ rfl rfl rfl) ?_
      refine any_n (rfl : _ = [_, _, _, _, _, _, _, _, _, _]) ?_
      refine any_end ⟨rfl, ?_⟩
      refine DL_nil (hK10 _ ?_)
      clear hK10; try clear K10
      refine D_splitC rfl (fun hc25 => ?_) (fun hc25 => ?_)
      · skip
        exact absurd  hc25 (hnd k (by omega) (by omega))
      · skip
        refine D_skip (hK9 _ ?_)
        clear hK9; try clear K9
        refine D_region ?_
        refine DL_c (op_mv _ (rfl : _ = AV.v (.int _ _))) ?_
        first
          | refine DL_c (op_add _ _ rfl rfl (i64w (by omega))) ?_
          | refine DL_c (op_add _ _ rfl rfl rfl) ?_
        refine DL_c (op_as _ (rfl : _ = AV.v (.int _ _))) ?_
        refine DL_nil ?_
        refine ⟨k + 1, ?_, ?_, ?_⟩
        · first | omega | trivial | exact ⟨by omega, by omega⟩
        · skip
          refine Le.mkJ [] [] rfl ?_ ?_ trivial ⟨rfl, trivial⟩ ?_
          · exact ⟨(iR rfl), (lvI (by first | rfl | omega | (simp; done) | (simp; omega) | assumption)), trivial⟩
          · exact ⟨(obE rfl rfl rfl), trivial⟩
          · kernel_rfl
        · omega
    · skip
      refine D_exit ?_
      refine id (hK5 _ ?_)
      clear hK5; try clear K5
      refine D_seq fun K11 hK11 => ?_
      refine D_region ?_
      refine DL_c (op_mv _ (rfl : _ = AV.ref _ _ _)) ?_
      refine DL_c (op_as _ (rfl : _ = AV.ref _ _ _)) ?_
      refine DL_nil (hK11 _ ?_)
      clear hK11; try clear K11
      refine D_ret ?_
      exact ret1 (.inr rfl) rfl (.tmp (rfl : _ = AV.ref _ _ _)) (Le.outI [((0, 8), (0, 9))] [] (lvRr rfl rfl) rfl rfl rfl trivial ⟨⟨rfl, ⟨_, rfl, .rowE rfl⟩, rfl⟩, trivial⟩ trivial rfl)

/-- The sorted successors, those before i done. -/
def nxM (n : Nat) (E : Prs) (i : Nat) : List (List Int) := (List.range n).map fun a => if a < i then srt (nxt E a) else nxt E a
@[simp] theorem nxM_len (n : Nat) (E : Prs) (i : Nat) : (nxM n E i).length = n := by simp [nxM]
theorem nxM_get {n : Nat} {E : Prs} {i a : Nat} (h : a < n) : (nxM n E i).getD a [] = if a < i then srt (nxt E a) else nxt E a := by simp [nxM, List.getD_eq_getElem?_getD, h]
theorem nxM_zero (n : Nat) (E : Prs) : nxM n E 0 = nxL n E E.length := by simp [nxM, nxL]
theorem nxM_succ {n : Nat} {E : Prs} {i : Nat} (h : i < n) : (nxM n E (i + 1)).map isl = ((nxM n E i).map isl).set i (isl (srt (nxt E i))) := by
  rw [← List.map_set]
  congr 1
  apply List.ext_getElem
  · simp
  · intro j h1 h2
    rw [List.getElem_set]
    by_cases hj : i = j
    · subst hj; simp [nxM]
    · rw [if_neg hj]
      simp only [nxM, List.getElem_map, List.getElem_range]
      by_cases h3 : j < i
      · rw [if_pos h3, if_pos (by omega)]
      · rw [if_neg h3, if_neg (by omega)]
abbrev nxS (n : Nat) (E : Prs) : List (List Int) := nxM n E n
theorem srt_strict {L : List Int} (h : L.Nodup) : ∀ k, 0 < k → k < L.length → (srt L).getD k 0 ≠ (srt L).getD (k - 1) 0 := by
  intro k h1 h2 he
  have hn := (srt_perm L).nodup_iff.2 h
  have hl := srt_len L
  rw [getD_at _ _ _ (by omega), getD_at _ _ _ (by omega)] at he
  have := (List.pairwise_iff_getElem.1 hn) (k - 1) k (by omega) (by omega) (by omega)
  exact this he.symm
set_option maxHeartbeats 1000000 in
theorem succ_spec (n : Nat) (hn : n ≤ 64) (m : Nat) (E : Prs) (hm : E.length = m) (h1 : m ≤ 1000000) (hE : inE n E = true) (hS : ∀ a, a < n → (nxt E a).length ≤ 12 ∧ (nxt E a).Nodup) :
    Spec Try.prog 90 (inSt [.v (.int .i64 (n : Int)), .sl m (psl E)] []) (outSt (.sl n (nrows (nxS n E))) []) := by
  refine Spec.ofN Try.func90 rfl Try.ntmps90 rfl ?_
  refine D_seq fun K1 hK1 => ?_
  refine D_region ?_
  first
    | refine DL_c (op_as _ (rfl : _ = AV.sl _ _)) ?_
    | refine DL_c (op_as _ (rfl : _ = AV.ref _ _ _)) ?_
    | refine DL_c (op_as _ (rfl : _ = AV.v (.slice _ _ _))) ?_
    | refine DL_c (op_as _ (rfl : _ = AV.z)) ?_
  refine DL_nil (hK1 _ ?_)
  clear hK1; try clear K1
  refine D_seq fun K2 hK2 => ?_
  refine D_region ?_
  refine DL_c (op_mv _ (rfl : _ = AV.v (.int _ _))) ?_
  refine DL_c (op_mkB (10, 0) _ _ inferInstance rfl rfl n rfl rfl (by omega) rfl (rep_nil n)) ?_
  refine DL_c (op_as _ (rfl : _ = AV.ref _ _ _)) ?_
  refine DL_nil (hK2 _ ?_)
  clear hK2; try clear K2
  refine D_seq fun K3 hK3 => ?_
  refine D_seq fun K4 hK4 => ?_
  refine D_le (σ' := mkStB 51 [(1, _), (5, _)] [] ⟨(10, 0), false, 29, 3, 1000, ((nxL n E 0).map isl)⟩ [] []) (by
    refine Le.newB 1000 3 rfl (by kernel_rfl) (fun _ => rfl) (fun _ => rfl) rfl [] rfl ?_ ?_ trivial (by kernel_rfl) rfl ?_
    · exact ⟨(by repeat' (first | exact Lv.v | exact Lv.sl | exact Lv.fp | exact lvRr rfl rfl | exact lvPr rfl | exact Lv.mp | exact Lv.nil | exact Lv.z | exact Lv.dead | refine Lv.agg rfl ?_ | refine Lv.fn rfl ?_ rfl ?_ | refine Lv.tup rfl ?_ | refine Lv.ifc ?_ | exact lv_nil | refine lv_cons ?_ ?_)), (lvRr (id := (10, 0)) rfl rfl), trivial⟩
    · exact trivial
    · exact rows_zero n E) ?_
  refine D_region ?_
  refine DL_c (op_mv _ (rfl : _ = AV.sl _ _)) ?_
  refine DL_c (op_lenS _ inferInstance rfl) ?_
  refine DL_c (op_mv _ (rfl : _ = AV.v (.int _ _))) ?_
  refine DL_nil (hK4 _ ?_)
  clear hK4; try clear K4
  refine D_block ?_
  refine D_loopLB (α := Nat) (fun k => k ≤ m) 51 [(5, _), (11, _), (12, _)] [] (fun k => [(13, .v (.int .i64 (k : Int)))]) (fun k => []) (fun k => ⟨(10, 0), false, 29, 3, 1000, ((nxL n E k).map isl)⟩) [] [] (fun k => m - k) 0 ?_ (by
    refine Le.keepB [] [] rfl ?_ ?_ trivial trivial (by kernel_rfl) rfl rfl rfl (fun _ => rfl) (by kernel_rfl) (fun _ => rfl)
    · exact ⟨(lvRr (id := (10, 0)) rfl rfl), (by repeat' (first | exact Lv.v | exact Lv.sl | exact Lv.fp | exact lvRr (id := (10, 0)) rfl rfl | exact lvPr (id := (10, 0)) rfl | exact lvRr rfl rfl | exact lvPr rfl | exact Lv.mp | exact Lv.nil | exact Lv.z | exact Lv.dead | refine Lv.agg rfl ?_ | refine Lv.fn rfl ?_ rfl ?_ | refine Lv.tup rfl ?_ | refine Lv.ifc ?_ | exact lv_nil | refine lv_cons ?_ ?_)), (by repeat' (first | exact Lv.v | exact Lv.sl | exact Lv.fp | exact lvRr (id := (10, 0)) rfl rfl | exact lvPr (id := (10, 0)) rfl | exact lvRr rfl rfl | exact lvPr rfl | exact Lv.mp | exact Lv.nil | exact Lv.z | exact Lv.dead | refine Lv.agg rfl ?_ | refine Lv.fn rfl ?_ rfl ?_ | refine Lv.tup rfl ?_ | refine Lv.ifc ?_ | exact lv_nil | refine lv_cons ?_ ?_)), (lvI (by first | rfl | omega | (simp; done) | (simp; omega) | assumption)), trivial⟩
    · exact trivial) ?_
  · first | omega | trivial | exact ⟨by omega, by omega⟩
  intro k hk
  refine D_seq fun K5 hK5 => ?_
  refine D_region ?_
  first
    | refine DL_c (op_lss _ _ rfl rfl (by assumption)) ?_
    | refine DL_c (op_lss _ _ rfl rfl rfl) ?_
  refine DL_nil (hK5 _ ?_)
  clear hK5; try clear K5
  refine D_seq fun K6 hK6 => ?_
  refine D_splitC rfl (fun hc14 => ?_) (fun hc14 => ?_)
  · skip
    have hb := inE_at hE (i := k) (by omega)
    have hnl := nxL_len n E k
    have hxl := nxt_len (E.take k) (E.getD k (0, 0)).1.toNat
    rw [← nxL_get (n := n) (by omega), List.length_take] at hxl
    refine D_skip (hK6 _ ?_)
    clear hK6; try clear K6
    refine D_seq fun K7 hK7 => ?_
    refine D_block ?_
    refine D_seq fun K8 hK8 => ?_
    refine D_region ?_
    first
      | refine DL_c (op_ixS _ _ inferInstance rfl rfl _ rfl (by omega) (by first | assumption | decide | (simp only [isl_len, bsl_len, psl_len, mrows_len, nsl_len, ws_len, List.length_map, nxL_len, nxM_len, wts_len]; omega) | (simp; done) | (simp; omega) | (simp [isl, bsl]; omega)) (by first | exact Nat.mul_one _ | rfl | omega)) ?_
      | refine DL_c (op_ixS _ _ inferInstance rfl rfl (Int.toNat _) (Int.toNat_of_nonneg (by omega)).symm (by omega) (by first | assumption | decide | (simp only [isl_len, bsl_len, psl_len, mrows_len, nsl_len, ws_len, List.length_map, nxL_len, nxM_len, wts_len]; omega) | (simp; done) | (simp; omega) | (simp [isl, bsl]; omega)) (by first | exact Nat.mul_one _ | rfl | omega)) ?_
    refine DL_c (op_ldFA _ inferInstance rfl (by exact psl_geta _ _ (by omega)) rfl) ?_
    refine DL_c (op_alloc (7, 0) inferInstance rfl rfl) ?_
    refine DL_c (op_stB _ _ inferInstance rfl rfl rfl rfl (Nat.le_of_ble_eq_true rfl) rfl) ?_
    refine DL_nil (hK8 _ ?_)
    clear hK8; try clear K8
    refine D_le (σ' := mkStB 51 [(5, _), (7, _), (11, _), (12, _), (13, _)] [((7, 0), _)] ⟨(10, 0), false, 29, 3, 1000, _⟩ [] []) (by
      refine Le.keepB [] [] rfl ?_ ?_ trivial trivial (by kernel_rfl) rfl rfl rfl (fun _ => rfl) (by kernel_rfl) (fun _ => rfl)
      · exact ⟨(lvRr (id := (10, 0)) rfl rfl), (lvPr (id := (7, 0)) rfl), (by repeat' (first | exact Lv.v | exact Lv.sl | exact Lv.fp | exact lvRr (id := (7, 0)) rfl rfl | exact lvPr (id := (7, 0)) rfl | exact lvRr (id := (10, 0)) rfl rfl | exact lvPr (id := (10, 0)) rfl | exact lvRr rfl rfl | exact lvPr rfl | exact Lv.mp | exact Lv.nil | exact Lv.z | exact Lv.dead | refine Lv.agg rfl ?_ | refine Lv.fn rfl ?_ rfl ?_ | refine Lv.tup rfl ?_ | refine Lv.ifc ?_ | exact lv_nil | refine lv_cons ?_ ?_)), (by repeat' (first | exact Lv.v | exact Lv.sl | exact Lv.fp | exact lvRr (id := (7, 0)) rfl rfl | exact lvPr (id := (7, 0)) rfl | exact lvRr (id := (10, 0)) rfl rfl | exact lvPr (id := (10, 0)) rfl | exact lvRr rfl rfl | exact lvPr rfl | exact Lv.mp | exact Lv.nil | exact Lv.z | exact Lv.dead | refine Lv.agg rfl ?_ | refine Lv.fn rfl ?_ rfl ?_ | refine Lv.tup rfl ?_ | refine Lv.ifc ?_ | exact lv_nil | refine lv_cons ?_ ?_)), (by repeat' (first | exact Lv.v | exact Lv.sl | exact Lv.fp | exact lvRr (id := (7, 0)) rfl rfl | exact lvPr (id := (7, 0)) rfl | exact lvRr (id := (10, 0)) rfl rfl | exact lvPr (id := (10, 0)) rfl | exact lvRr rfl rfl | exact lvPr rfl | exact Lv.mp | exact Lv.nil | exact Lv.z | exact Lv.dead | refine Lv.agg rfl ?_ | refine Lv.fn rfl ?_ rfl ?_ | refine Lv.tup rfl ?_ | refine Lv.ifc ?_ | exact lv_nil | refine lv_cons ?_ ?_)), trivial⟩
      · exact ⟨(obB rfl rfl rfl rfl (by repeat' (first | exact Lv.v | exact Lv.sl | exact Lv.fp | exact lvRr (id := (7, 0)) rfl rfl | exact lvPr (id := (7, 0)) rfl | exact lvRr (id := (10, 0)) rfl rfl | exact lvPr (id := (10, 0)) rfl | exact lvRr rfl rfl | exact lvPr rfl | exact Lv.mp | exact Lv.nil | exact Lv.z | exact Lv.dead | refine Lv.agg rfl ?_ | refine Lv.fn rfl ?_ rfl ?_ | refine Lv.tup rfl ?_ | refine Lv.ifc ?_ | exact lv_nil | refine lv_cons ?_ ?_))), trivial⟩) ?_
    refine D_anyL 13 [17, 18, 19, 20, 21, 22, 23, 24, 25, 26, 27, 28, 29] [(1000, (E.getD k (0, 0)).1.toNat), (28, 0)] (by kernel_rfl) (by kernel_rfl) rfl (nodupO_iff rfl) (rfl : _ = [_, _, _, _, _, _, _, _, _, _, _, _, _]) (rfl : _ = [_]) ?_
    refine any_c (_, []) (fun τ => op_mv _ (rfl : _ = AV.ref _ _ _)) ?_
    refine any_n (rfl : _ = [_]) ?_
    refine any_c (_, []) (fun τ => op_ixA _ _ inferInstance rfl rfl rfl 0 rfl (by omega) (by first | exact (Nat.zero_add _).trans (Nat.mul_one _) | exact Nat.zero_add _ | rfl | omega)) ?_
    refine any_n (rfl : _ = [_, _]) ?_
    first
      | refine any_c (_, []) (fun τ => op_ldB _ inferInstance rfl rfl (rfl : _ = some (AV.v (.int _ _)))) ?_
      | refine any_c (_, []) (fun τ => op_ldR _ inferInstance rfl rfl (by first | rfl | exact isl_get _ _ (by omega) | exact bsl_get _ _ (by omega) | assumption | exact isl_get _ _ (by omega)) rfl) ?_
    refine any_n (rfl : _ = [_, _, _]) ?_
    refine any_c (_, []) (fun τ => op_mv _ (rfl : _ = AV.ref _ _ _)) ?_
    refine any_n (rfl : _ = [_, _, _, _]) ?_
    refine any_c (_, []) (fun τ => op_ixA _ _ inferInstance rfl rfl rfl 0 rfl (by omega) (by first | exact (Nat.zero_add _).trans (Nat.mul_one _) | exact Nat.zero_add _ | rfl | omega)) ?_
    refine any_n (rfl : _ = [_, _, _, _, _]) ?_
    first
      | refine any_c (_, []) (fun τ => op_ldB _ inferInstance rfl rfl (rfl : _ = some (AV.v (.int _ _)))) ?_
      | refine any_c (_, []) (fun τ => op_ldR _ inferInstance rfl rfl (by first | rfl | exact isl_get _ _ (by omega) | exact bsl_get _ _ (by omega) | assumption | exact isl_get _ _ (by omega)) rfl) ?_
    refine any_n (rfl : _ = [_, _, _, _, _, _]) ?_
    first
      | refine any_c (_, []) (fun τ => op_ixB _ _ inferInstance rfl rfl rfl _ rfl (by omega) (by first | exact (Nat.zero_add _).trans (Nat.mul_one _) | exact Nat.zero_add _ | rfl | omega)) ?_
      | refine any_c (_, []) (fun τ => op_ixB _ _ inferInstance rfl rfl rfl (Int.toNat _) (Int.toNat_of_nonneg (by omega)).symm (by omega) (by first | exact (Nat.zero_add _).trans (Nat.mul_one _) | exact Nat.zero_add _ | rfl | omega)) ?_
    refine any_n (rfl : _ = [_, _, _, _, _, _, _]) ?_
    refine any_c (_, []) (fun τ => op_ldB _ inferInstance rfl rfl (bun_cell (f := 1000) (b := ⟨(10, 0), false, 29, 3, 1000, _⟩) (j := (E.getD k (0, 0)).1.toNat) (n := ((nxL n E k).getD (E.getD k (0, 0)).1.toNat []).length) rfl (by first | omega | assumption | (simp only [isl_len, bsl_len, psl_len, mrows_len, nsl_len, ws_len, List.length_map, nxL_len, nxM_len, wts_len]; omega) | (simp; done) | (simp; omega)) (by first | rfl | assumption | (simp only [isl_len, bsl_len, psl_len, mrows_len, nsl_len, ws_len, List.length_map, nxL_len, nxM_len, wts_len]; omega) | (simp; done) | (simp; omega) | (rw [irow_get, isl_len]; done) | (rw [irow_get, hgi, isl_len]; done)) rfl)) ?_
    refine any_n (rfl : _ = [_, _, _, _, _, _, _, _]) ?_
    refine any_c (_, []) (fun τ => op_ixA _ _ inferInstance rfl rfl rfl 1 rfl (by omega) (by first | exact (Nat.zero_add _).trans (Nat.mul_one _) | exact Nat.zero_add _ | rfl | omega)) ?_
    refine any_n (rfl : _ = [_, _, _, _, _, _, _, _, _]) ?_
    first
      | refine any_c (_, []) (fun τ => op_ldB _ inferInstance rfl rfl (rfl : _ = some (AV.v (.int _ _)))) ?_
      | refine any_c (_, []) (fun τ => op_ldR _ inferInstance rfl rfl (by first | rfl | exact isl_get _ _ (by omega) | exact bsl_get _ _ (by omega) | assumption | exact isl_get _ _ (by omega)) rfl) ?_
    refine any_n (rfl : _ = [_, _, _, _, _, _, _, _, _, _]) ?_
    refine any_c (_, []) (fun τ => op_bsF _ _ inferInstance rfl (by rfl) (by simp <;> rfl) (by decide) rfl) ?_
    refine any_n (rfl : _ = [_, _, _, _, _, _, _, _, _, _, _]) ?_
    refine any_c (_, [((1000, (E.getD k (0, 0)).1.toNat), .gone), ((28, 0), _)]) (fun τ => op_apN (28, 0) _ _ inferInstance rfl (mix_own rfl (by exact inO_head) (bun_row (b := ⟨(10, 0), false, 29, 3, 1000, _⟩) rfl (by rfl) rfl (by first | omega | assumption | (simp only [isl_len, bsl_len, psl_len, mrows_len, nsl_len, ws_len, List.length_map, nxL_len, nxM_len, wts_len]; omega) | (simp; done) | (simp; omega)) (by first | exact irow_get _ _ | exact (irow_get _ _).trans (congrArg isl hgi) | rfl))) (by first | rfl | omega | (simp only [isl_len, bsl_len, psl_len, mrows_len, nsl_len, ws_len, List.length_map, nxL_len, nxM_len, wts_len]; omega) | (simp; done) | (simp; omega)) (by first | exact .nil | (refine .sl ?_; first | (simp [isl]; done) | (simp [isl]; omega)) | (refine .ref rfl rfl ?_; first | (simp; done) | (simp; omega))) (by omega) rfl rfl rfl (rfl) (rfl)) ?_
    refine any_n (rfl : _ = [_, _, _, _, _, _, _, _, _, _, _, _]) ?_
    first
      | refine any_c (_, []) (fun τ => op_ixB _ _ inferInstance rfl rfl rfl _ rfl (by omega) (by first | exact (Nat.zero_add _).trans (Nat.mul_one _) | exact Nat.zero_add _ | rfl | omega)) ?_
      | refine any_c (_, []) (fun τ => op_ixB _ _ inferInstance rfl rfl rfl (Int.toNat _) (Int.toNat_of_nonneg (by omega)).symm (by omega) (by first | exact (Nat.zero_add _).trans (Nat.mul_one _) | exact Nat.zero_add _ | rfl | omega)) ?_
    refine any_n (rfl : _ = [_, _, _, _, _, _, _, _, _, _, _, _, _]) ?_
    refine any_end ⟨rfl, ?_⟩
    refine DL_c (op_stB _ _ inferInstance rfl rfl rfl rfl (by first | (simp only [Bun.cells_len, isl_len, bsl_len, psl_len, mrows_len, nsl_len, ws_len, List.length_map, nxL_len, nxM_len, wts_len, List.length_cons, List.length_nil]; omega) | (simp [Bun.cells_len]; done) | (simp [Bun.cells_len]; omega)) (putL_one _ _ _ (by first | (simp only [Bun.cells_len, isl_len, bsl_len, psl_len, mrows_len, nsl_len, ws_len, List.length_map, nxL_len, nxM_len, wts_len, List.length_cons, List.length_nil]; omega) | (simp [Bun.cells_len]; done) | (simp [Bun.cells_len]; omega)))) ?_
    refine DL_nil (hK7 _ ?_)
    clear hK7; try clear K7
    refine D_region ?_
    first
      | refine DL_c (op_add _ _ rfl rfl (i64w (by omega))) ?_
      | refine DL_c (op_add _ _ rfl rfl rfl) ?_
    refine DL_c (op_mv _ (rfl : _ = AV.v (.int _ _))) ?_
    refine DL_nil ?_
    refine ⟨k + 1, ?_, ?_, ?_⟩
    · first | omega | trivial | exact ⟨by omega, by omega⟩
    · skip
      refine Le.setB ((E.getD k (0, 0)).1.toNat) (28, 0) [] [] rfl ?_ ?_ trivial trivial (by kernel_rfl) (by kernel_rfl) ?_ ?_ rfl rfl rfl rfl (by first | exact fun _ _ => rfl | exact fun j hj => bun_other hj | exact fun j hj => aft_other hj) (by kernel_rfl) (fun _ => rfl)
      · exact ⟨(lvRr (id := (10, 0)) rfl rfl), (by repeat' (first | exact Lv.v | exact Lv.sl | exact Lv.fp | exact lvRr (id := (7, 0)) rfl rfl | exact lvPr (id := (7, 0)) rfl | exact lvRr (id := (28, 0)) rfl rfl | exact lvPr (id := (28, 0)) rfl | exact lvRr (id := (10, 0)) rfl rfl | exact lvPr (id := (10, 0)) rfl | exact lvRr rfl rfl | exact lvPr rfl | exact Lv.mp | exact Lv.nil | exact Lv.z | exact Lv.dead | refine Lv.agg rfl ?_ | refine Lv.fn rfl ?_ rfl ?_ | refine Lv.tup rfl ?_ | refine Lv.ifc ?_ | exact lv_nil | refine lv_cons ?_ ?_)), (by repeat' (first | exact Lv.v | exact Lv.sl | exact Lv.fp | exact lvRr (id := (7, 0)) rfl rfl | exact lvPr (id := (7, 0)) rfl | exact lvRr (id := (28, 0)) rfl rfl | exact lvPr (id := (28, 0)) rfl | exact lvRr (id := (10, 0)) rfl rfl | exact lvPr (id := (10, 0)) rfl | exact lvRr rfl rfl | exact lvPr rfl | exact Lv.mp | exact Lv.nil | exact Lv.z | exact Lv.dead | refine Lv.agg rfl ?_ | refine Lv.fn rfl ?_ rfl ?_ | refine Lv.tup rfl ?_ | refine Lv.ifc ?_ | exact lv_nil | refine lv_cons ?_ ?_)), (lvI (by first | rfl | omega | (simp; done) | (simp; omega) | assumption)), trivial⟩
      · exact trivial
      · first | exact nx_set hE (by omega) | (simp; done)
      · first | exact nx_set hE (by omega) | (simp; done)
    · omega
  · skip
    obtain rfl : m = k := by omega
    subst hm
    rw [← nxM_zero]
    refine D_exit ?_
    refine id (hK3 _ ?_)
    clear hK3; try clear K3
    refine D_seq fun K9 hK9 => ?_
    refine D_seq fun K10 hK10 => ?_
    refine D_region ?_
    refine DL_c (op_mv _ (rfl : _ = AV.ref _ _ _)) ?_
    first
      | refine DL_c (op_lenR _ inferInstance rfl rfl) ?_
      | refine DL_c (op_lenB _ inferInstance rfl rfl) ?_
    refine DL_c (op_mv _ (rfl : _ = AV.v (.int _ _))) ?_
    refine DL_nil (hK10 _ ?_)
    clear hK10; try clear K10
    refine D_block ?_
    refine D_loopLB (α := Nat) (fun i => i ≤ n) 51 [(5, _), (32, _)] [] (fun i => [(33, .v (.int .i64 (i : Int)))]) (fun i => []) (fun i => ⟨(10, 0), false, 29, 3, 1000, ((nxM n E i).map isl)⟩) [] [] (fun i => n - i) 0 ?_ (by
      refine Le.keepB [] [] rfl ?_ ?_ trivial trivial (by kernel_rfl) rfl rfl rfl (fun _ => rfl) (by kernel_rfl) (fun _ => rfl)
      · exact ⟨(lvRr (id := (10, 0)) rfl rfl), (by repeat' (first | exact Lv.v | exact Lv.sl | exact Lv.fp | exact lvRr (id := (10, 0)) rfl rfl | exact lvPr (id := (10, 0)) rfl | exact lvRr rfl rfl | exact lvPr rfl | exact Lv.mp | exact Lv.nil | exact Lv.z | exact Lv.dead | refine Lv.agg rfl ?_ | refine Lv.fn rfl ?_ rfl ?_ | refine Lv.tup rfl ?_ | refine Lv.ifc ?_ | exact lv_nil | refine lv_cons ?_ ?_)), (lvI (by first | rfl | omega | (simp; done) | (simp; omega) | assumption)), trivial⟩
      · exact trivial) ?_
    · first | omega | trivial | exact ⟨by omega, by omega⟩
    intro i hi
    refine D_seq fun K11 hK11 => ?_
    refine D_region ?_
    first
      | refine DL_c (op_lss _ _ rfl rfl (by assumption)) ?_
      | refine DL_c (op_lss _ _ rfl rfl rfl) ?_
    refine DL_nil (hK11 _ ?_)
    clear hK11; try clear K11
    refine D_seq fun K12 hK12 => ?_
    refine D_splitC rfl (fun hc34 => ?_) (fun hc34 => ?_)
    · skip
      have hsi := hS i (by omega)
      have hgi := nxM_get (E := E) (i := i) (show i < n by omega)
      rw [if_neg (Nat.lt_irrefl i)] at hgi
      have hst := srt_strict hsi.2
      have hlen := srt_len (nxt E i)
      refine D_skip (hK12 _ ?_)
      clear hK12; try clear K12
      refine D_seq fun K13 hK13 => ?_
      refine D_block ?_
      refine D_seq fun K14 hK14 => ?_
      refine D_region ?_
      refine DL_c (op_mv _ (rfl : _ = AV.v (.int _ _))) ?_
      refine DL_c (op_as _ (rfl : _ = AV.v (.int _ _))) ?_
      refine DL_nil (hK14 _ ?_)
      clear hK14; try clear K14
      refine D_seq fun K15 hK15 => ?_
      refine D_region ?_
      refine DL_c (op_mv _ (rfl : _ = AV.ref _ _ _)) ?_
      refine DL_c (op_mv _ (rfl : _ = AV.v (.int _ _))) ?_
      first
        | refine DL_c (op_ixB _ _ inferInstance rfl rfl rfl _ rfl (by omega) (by first | exact (Nat.zero_add _).trans (Nat.mul_one _) | exact Nat.zero_add _ | rfl | omega)) ?_
        | refine DL_c (op_ixB _ _ inferInstance rfl rfl rfl (Int.toNat _) (Int.toNat_of_nonneg (by omega)).symm (by omega) (by first | exact (Nat.zero_add _).trans (Nat.mul_one _) | exact Nat.zero_add _ | rfl | omega)) ?_
      refine DL_c (op_ldB _ inferInstance rfl rfl (bun_cell (f := 1000) (b := ⟨(10, 0), false, 29, 3, 1000, _⟩) (j := i) (n := (nxt E i).length) rfl (by first | omega | assumption | (simp only [isl_len, bsl_len, psl_len, mrows_len, nsl_len, ws_len, List.length_map, nxL_len, nxM_len, wts_len]; omega) | (simp; done) | (simp; omega)) (by first | rfl | assumption | (simp only [isl_len, bsl_len, psl_len, mrows_len, nsl_len, ws_len, List.length_map, nxL_len, nxM_len, wts_len]; omega) | (simp; done) | (simp; omega) | (rw [irow_get, isl_len]; done) | (rw [irow_get, hgi, isl_len]; done)) rfl)) ?_
      refine DL_c (op_callF (id := (1000, i)) inferInstance ?_ (sort_spec (nxt E i).length hsi.1 (nxt E i) rfl) (bun_row (b := ⟨(10, 0), false, 29, 3, 1000, _⟩) rfl (by rfl) rfl (by first | omega | assumption | (simp only [isl_len, bsl_len, psl_len, mrows_len, nsl_len, ws_len, List.length_map, nxL_len, nxM_len, wts_len]; omega) | (simp; done) | (simp; omega)) (by first | exact irow_get _ _ | exact (irow_get _ _).trans (congrArg isl hgi) | rfl)) rfl rfl rfl) ?_
      · repeat' (first | exact argsR_nil | refine argsR_cons ?_ ?_ | exact Lv.v | exact lvI (by assumption) | exact lvI (by omega) | exact Lv.sl | exact Lv.fp | exact Lv.nil | exact lvRr rfl rfl | exact lvPr rfl | refine Lv.agg rfl ?_ | refine Lv.fn rfl ?_ rfl ?_ | refine Lv.ifc ?_ | exact lv_nil | refine lv_cons ?_ ?_)
      refine DL_nil (hK15 _ ?_)
      clear hK15; try clear K15
      refine D_region ?_
      refine DL_c (op_mv _ (rfl : _ = AV.ref _ _ _)) ?_
      refine DL_c (op_mv _ (rfl : _ = AV.v (.int _ _))) ?_
      refine DL_c (op_mv _ (rfl : _ = AV.ref _ _ _)) ?_
      refine DL_c (op_mv _ (rfl : _ = AV.v (.int _ _))) ?_
      first
        | refine DL_c (op_ixB _ _ inferInstance rfl rfl rfl _ rfl (by omega) (by first | exact (Nat.zero_add _).trans (Nat.mul_one _) | exact Nat.zero_add _ | rfl | omega)) ?_
        | refine DL_c (op_ixB _ _ inferInstance rfl rfl rfl (Int.toNat _) (Int.toNat_of_nonneg (by omega)).symm (by omega) (by first | exact (Nat.zero_add _).trans (Nat.mul_one _) | exact Nat.zero_add _ | rfl | omega)) ?_
      refine DL_c (op_ldB _ inferInstance rfl rfl (bun_cell (f := 1000) (b := ⟨(10, 0), false, 29, 3, 1000, _⟩) (j := i) (n := (nxt E i).length) rfl (by first | omega | assumption | (simp only [isl_len, bsl_len, psl_len, mrows_len, nsl_len, ws_len, List.length_map, nxL_len, nxM_len, wts_len]; omega) | (simp; done) | (simp; omega)) (by first | rfl | assumption | (simp only [isl_len, bsl_len, psl_len, mrows_len, nsl_len, ws_len, List.length_map, nxL_len, nxM_len, wts_len]; omega) | (simp; done) | (simp; omega) | (rw [irow_get, isl_len]; done) | (rw [irow_get, hgi, isl_len]; done)) rfl)) ?_
      refine DL_c (op_callR inferInstance [((0, 9), (1000, i)), ((0, 8), (47, 0))] ?_ (compact_spec (nxt E i).length (srt (nxt E i)) hlen (by omega) (by rw [← hlen] at hst ⊢; exact hst)) ⟨⟨rfl, ⟨_, bun_self, .rowE rfl⟩, rfl⟩, trivial⟩ ⟨rfl, trivial⟩ (by kernel_rfl)) ?_
      · repeat' (first | exact argsR_nil | refine argsR_cons ?_ ?_ | exact Lv.v | exact lvI (by assumption) | exact lvI (by omega) | exact Lv.sl | exact Lv.fp | exact Lv.nil | exact lvRr rfl rfl | exact lvPr rfl | refine Lv.agg rfl ?_ | refine Lv.fn rfl ?_ rfl ?_ | refine Lv.ifc ?_ | exact lv_nil | refine lv_cons ?_ ?_)
      first
        | refine DL_c (op_ixB _ _ inferInstance rfl rfl rfl _ rfl (by omega) (by first | exact (Nat.zero_add _).trans (Nat.mul_one _) | exact Nat.zero_add _ | rfl | omega)) ?_
        | refine DL_c (op_ixB _ _ inferInstance rfl rfl rfl (Int.toNat _) (Int.toNat_of_nonneg (by omega)).symm (by omega) (by first | exact (Nat.zero_add _).trans (Nat.mul_one _) | exact Nat.zero_add _ | rfl | omega)) ?_
      refine DL_c (op_stB _ _ inferInstance rfl rfl rfl rfl (by first | (simp only [Bun.cells_len, isl_len, bsl_len, psl_len, mrows_len, nsl_len, ws_len, List.length_map, nxL_len, nxM_len, wts_len, List.length_cons, List.length_nil]; omega) | (simp [Bun.cells_len]; done) | (simp [Bun.cells_len]; omega)) (putL_one _ _ _ (by first | (simp only [Bun.cells_len, isl_len, bsl_len, psl_len, mrows_len, nsl_len, ws_len, List.length_map, nxL_len, nxM_len, wts_len, List.length_cons, List.length_nil]; omega) | (simp [Bun.cells_len]; done) | (simp [Bun.cells_len]; omega)))) ?_
      refine DL_nil (hK13 _ ?_)
      clear hK13; try clear K13
      refine D_region ?_
      first
        | refine DL_c (op_add _ _ rfl rfl (i64w (by omega))) ?_
        | refine DL_c (op_add _ _ rfl rfl rfl) ?_
      refine DL_c (op_mv _ (rfl : _ = AV.v (.int _ _))) ?_
      refine DL_nil ?_
      refine ⟨i + 1, ?_, ?_, ?_⟩
      · first | omega | trivial | exact ⟨by omega, by omega⟩
      · skip
        refine Le.setB (i) (47, 0) [] [] rfl ?_ ?_ trivial trivial (by kernel_rfl) (by kernel_rfl) ?_ ?_ rfl rfl rfl rfl (by first | exact fun _ _ => rfl | exact fun j hj => bun_other hj | exact fun j hj => aft_other hj) (by kernel_rfl) (fun _ => rfl)
        · exact ⟨(lvRr (id := (10, 0)) rfl rfl), (by repeat' (first | exact Lv.v | exact Lv.sl | exact Lv.fp | exact lvRr (id := (47, 0)) rfl rfl | exact lvPr (id := (47, 0)) rfl | exact lvRr (id := (10, 0)) rfl rfl | exact lvPr (id := (10, 0)) rfl | exact lvRr rfl rfl | exact lvPr rfl | exact Lv.mp | exact Lv.nil | exact Lv.z | exact Lv.dead | refine Lv.agg rfl ?_ | refine Lv.fn rfl ?_ rfl ?_ | refine Lv.tup rfl ?_ | refine Lv.ifc ?_ | exact lv_nil | refine lv_cons ?_ ?_)), (lvI (by first | rfl | omega | (simp; done) | (simp; omega) | assumption)), trivial⟩
        · exact trivial
        · first | exact nxM_succ (by omega) | (simp; done) | (simp; omega)
        · first | exact nxM_succ (by omega) | (simp; done) | (simp; omega)
      · omega
    · skip
      obtain rfl : n = i := by omega
      refine D_exit ?_
      refine id (hK9 _ ?_)
      clear hK9; try clear K9
      refine D_seq fun K16 hK16 => ?_
      refine D_le (σ' := mkStI 51 [(5, _)] ([] ++ [((10, 0), _)]) [] []) (Le.frzFam 1000 rfl ⟨(iR rfl), trivial⟩ ⟨frzOuter rfl rfl (fun _ => rfl) (by kernel_rfl) rfl rfl, trivial⟩ (fun _ => rfl) trivial (by kernel_rfl)) ?_
      refine D_le (σ' := mkStI 51 [(5, .sl _ _)] [] [] []) (Le.mkJ [] [(10, 0)] rfl ⟨(Lv.frzR rfl rfl (downs_isl _)), trivial⟩ trivial ⟨rfl, trivial⟩ trivial (by kernel_rfl)) ?_
      refine D_region ?_
      refine DL_c (op_mv _ (rfl : _ = AV.sl _ _)) ?_
      refine DL_c (op_as _ (rfl : _ = AV.sl _ _)) ?_
      refine DL_nil (hK16 _ ?_)
      clear hK16; try clear K16
      refine D_ret ?_
      refine ret1 (.inr rfl) rfl (.tmp (rfl : _ = AV.sl _ _)) (Le.out [] [] (lvS ?_ ?_) rfl rfl rfl trivial trivial)
      all_goals rfl
end Go.Proofs.Ytkbkmngbenohkaa
