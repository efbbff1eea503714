/- container/heap's up, down, Push, Pop over the queue. By the machine. -/
import Derived.Test.YtkbkmngbenohkaaVoG3
set_option linter.unusedSimpArgs false
set_option linter.unusedVariables false
namespace Go.Proofs.Ytkbkmngbenohkaa
open Go.RowKit

theorem tdv {m : Nat} (h : m ≤ 4611686018427387904) : IntKind.i64.wrap (((m : Int) - 1).tdiv 2) = (((m - 1) / 2 : Nat) : Int) := by
  cases m with
  | zero => rfl
  | succ k =>
    have e : ((k + 1 : Nat) : Int) - 1 = (k : Int) := by omega
    rw [e, Int.tdiv_eq_ediv_of_nonneg (by omega), i64w (by omega)]
    simp
theorem heapUp_spec (n : Nat) (L : List Int) (hL : L.length = n) (h1 : n ≤ 1000001) (j : Nat) (hj : j < n) :
    Spec Try.prog 123 (inStI [.ifc 116 (.ptr (0, 9) 0), .v (.int .i64 (j : Int))] (qO n L)) (outStI (.tup []) (qO n (upL L j)) [(0, 9), (1, 9)] [(0, 9), (1, 9)]) := by
  refine Spec.ofNI Try.func123 rfl Try.ntmps123 rfl ?_
  refine D_block ?_
  refine D_loopL (α := Nat × List Int) (fun z => z.1 < n ∧ z.2.length = n ∧ upL z.2 z.1 = upL L j) 23 [(0, _)] [((0, 9), _)] (fun z => [(1, .v (.int .i64 (z.1 : Int)))]) (fun z => [((1, 9), .row 3 1 (isl z.2))]) [(0, 9), (1, 9)] [(0, 9), (1, 9)] (fun z => z.1) (j, L) ?_ (by
    refine Le.mkJ [] [] rfl ?_ ?_ trivial ⟨rfl, rfl, trivial⟩ ?_
    · exact ⟨(iI rfl), (lvI (by first | rfl | omega | (simp; done) | (simp; omega) | assumption)), trivial⟩
    · exact ⟨(obE rfl rfl rfl), (obR rfl rfl rfl (by first | rfl | omega | (simp; done) | (simp; omega) | assumption)), trivial⟩
    · kernel_rfl) ?_
  · exact ⟨hj, hL, rfl⟩
  intro z hz
  obtain ⟨hz1, hzl, hzu⟩ := hz
  refine D_block ?_
  refine D_seq fun K1 hK1 => ?_
  refine D_region ?_
  refine DL_c (op_mv _ (rfl : _ = AV.v (.int _ _))) ?_
  first
    | refine DL_c (op_sub _ _ rfl rfl (i64w (by omega))) ?_
    | refine DL_c (op_sub _ _ rfl rfl rfl) ?_
  refine DL_c (op_quo _ _ rfl rfl (by omega) (tdv (by omega))) ?_
  refine DL_c (op_as _ (rfl : _ = AV.v (.int _ _))) ?_
  refine DL_nil (hK1 _ ?_)
  clear hK1; try clear K1
  refine D_seq fun K2 hK2 => ?_
  refine D_seq fun K3 hK3 => ?_
  refine D_region ?_
  refine DL_c (op_mv _ (rfl : _ = AV.v (.int _ _))) ?_
  refine DL_c (op_mv _ (rfl : _ = AV.v (.int _ _))) ?_
  first
    | refine DL_c (op_eql _ _ rfl rfl (by assumption)) ?_
    | refine DL_c (op_eql _ _ rfl rfl rfl) ?_
  refine DL_c (op_mv _ (rfl : _ = AV.v (.bool _))) ?_
  refine DL_caseC (fun hg11 => ?_) (fun hg11 => ?_)
  · skip
    have hfin : z.2 = upL L j := by rw [← hzu, (by omega : z.1 = 0), upL_zero]
    refine DL_cn rfl rfl (by decide) ?_
    refine DL_cn rfl rfl (by decide) ?_
    refine DL_cn rfl rfl (by decide) ?_
    refine DL_cn rfl rfl (by decide) ?_
    refine DL_cn rfl rfl (by decide) ?_
    refine DL_c (op_pick _ _ _ rfl (rfl : _ = AV.v (.bool _))) ?_
    refine DL_nil (hK3 _ ?_)
    clear hK3; try clear K3
    refine D_cT rfl rfl ?_
    refine D_exit ?_
    refine id ?_
    exact ret0 (.inl rfl) rfl (Le.outI [] [] (.tup rfl lv_nil) rfl rfl rfl trivial ⟨⟨rfl, ⟨_, rfl, .box rfl (lv_cons (lvRr rfl rfl) lv_nil)⟩, rfl⟩, ⟨rfl, ⟨_, rfl, .rowE (by rw [hfin])⟩, rfl⟩, trivial⟩ ⟨rfl, rfl, trivial⟩ rfl)
  · skip
    refine DL_cy rfl rfl (op_mv _ (rfl : _ = AV.ifc _ _)) ?_
    refine DL_cy rfl rfl (op_mv _ (rfl : _ = AV.v (.int _ _))) ?_
    refine DL_cy rfl rfl (op_mv _ (rfl : _ = AV.v (.int _ _))) ?_
    refine DL_cy rfl rfl (op_callBHE (fun o ho => EntersAt.invV inferInstance inferInstance inferInstance ho rfl rfl) (by repeat' (first | exact argsLv_nil | refine argsLv_cons ?_ ?_ | exact Lv.v | exact lvI (by omega) | exact Lv.sl | exact Lv.fp | exact Lv.nil | refine Lv.agg rfl ?_ | refine Lv.fn rfl ?_ rfl ?_ | exact lv_nil | refine lv_cons ?_ ?_ | (refine frz0 rfl rfl ?_ rfl; first | (simp; done) | (simp; omega) | omega) | exact Lv.frzP rfl rfl rfl)) (qless_spec n z.2 hzl (by omega) z.1 ((z.1 - 1) / 2) (by omega) (by omega)) rfl) ?_
    refine DL_cy rfl rfl (op_not _ rfl rfl) ?_
    refine DL_c (op_pick _ _ _ rfl (rfl : _ = AV.v (.bool _))) ?_
    refine DL_nil (hK3 _ ?_)
    clear hK3; try clear K3
    refine D_splitC rfl (fun hc17 => ?_) (fun hc17 => ?_)
    · skip
      have hfin : z.2 = upL L j := by rw [← hzu, upL_no (by omega)]
      refine D_exit ?_
      refine id ?_
      exact ret0 (.inl rfl) rfl (Le.outI [] [] (.tup rfl lv_nil) rfl rfl rfl trivial ⟨⟨rfl, ⟨_, rfl, .box rfl (lv_cons (lvRr rfl rfl) lv_nil)⟩, rfl⟩, ⟨rfl, ⟨_, rfl, .rowE (by rw [hfin])⟩, rfl⟩, trivial⟩ ⟨rfl, rfl, trivial⟩ rfl)
    · skip
      refine D_skip (hK2 _ ?_)
      clear hK2; try clear K2
      refine D_seq fun K4 hK4 => ?_
      refine D_region ?_
      refine DL_c (op_mv _ (rfl : _ = AV.ifc _ _)) ?_
      refine DL_c (op_mv _ (rfl : _ = AV.v (.int _ _))) ?_
      refine DL_c (op_mv _ (rfl : _ = AV.v (.int _ _))) ?_
      refine DL_c (op_callRE (fun o ho => EntersAt.invV inferInstance inferInstance inferInstance ho rfl rfl) [((0, 9), (1, 9))] ?_ (qswap_spec n z.2 hzl (by omega) ((z.1 - 1) / 2) z.1 (by omega) (by omega)) ⟨⟨rfl, ⟨_, rfl, .rowE rfl⟩, rfl⟩, trivial⟩ ⟨rfl, trivial⟩ (by kernel_rfl)) ?_
      · repeat' (first | exact argsR_nil | refine argsR_cons ?_ ?_ | exact Lv.v | exact lvI (by assumption) | exact lvI (by omega) | exact Lv.sl | exact Lv.fp | exact Lv.nil | exact lvRr rfl rfl | exact lvPr rfl | refine Lv.agg rfl ?_ | refine Lv.fn rfl ?_ rfl ?_ | refine Lv.ifc ?_ | exact lv_nil | refine lv_cons ?_ ?_)
      refine DL_nil (hK4 _ ?_)
      clear hK4; try clear K4
      refine D_le (σ' := mkStI 23 [(0, _), (4, _)] [((0, 9), _), ((1, 9), _)] [(0, 9), (1, 9)] [(0, 9), (1, 9)]) (by
        refine Le.mkJ [] [] rfl ?_ ?_ trivial ⟨rfl, rfl, trivial⟩ ?_
        · exact ⟨(iI rfl), (iV rfl), trivial⟩
        · exact ⟨(obE rfl rfl rfl), (obE rfl rfl rfl), trivial⟩
        · kernel_rfl) ?_
      refine D_region ?_
      refine DL_c (op_mv _ (rfl : _ = AV.v (.int _ _))) ?_
      refine DL_c (op_as _ (rfl : _ = AV.v (.int _ _))) ?_
      refine DL_nil ?_
      refine ⟨((z.1 - 1) / 2, sw z.2 ((z.1 - 1) / 2) z.1), ?_, ?_, ?_⟩
      · exact ⟨by simp only; omega, by simp [hzl], (upL_yes (by omega) hc17).symm.trans hzu⟩
      · skip
        refine Le.mkJ [] [] rfl ?_ ?_ trivial ⟨rfl, rfl, trivial⟩ ?_
        · exact ⟨(iI rfl), (lvI (by first | rfl | omega | (simp; done) | (simp; omega) | assumption)), trivial⟩
        · exact ⟨(obE rfl rfl rfl), (obR rfl rfl rfl (by first | rfl | omega | (simp; done) | (simp; omega) | assumption)), trivial⟩
        · kernel_rfl
      · simp only; omega
theorem heapDown_spec (n : Nat) (L : List Int) (hL : L.length = n) (h1 : n ≤ 1000001) (m : Nat) (hm : m < n) :
    Spec Try.prog 124 (inStI [.ifc 116 (.ptr (0, 9) 0), .v (.int .i64 0), .v (.int .i64 (m : Int))] (qO n L)) (outStI .dead (qO n (downL L 0 m)) [(0, 9), (1, 9)] [(0, 9), (1, 9)]) := by
  refine Spec.ofNI Try.func124 rfl Try.ntmps124 rfl ?_
  refine D_seq fun K1 hK1 => ?_
  refine D_region ?_
  refine DL_c (op_as _ (rfl : _ = AV.v (.bool _))) ?_
  refine DL_nil (hK1 _ ?_)
  clear hK1; try clear K1
  refine D_seq fun K2 hK2 => ?_
  refine D_region ?_
  refine DL_c (op_mv _ (rfl : _ = AV.v (.int _ _))) ?_
  refine DL_c (op_as _ (rfl : _ = AV.v (.int _ _))) ?_
  refine DL_nil (hK2 _ ?_)
  clear hK2; try clear K2
  refine D_seq fun K3 hK3 => ?_
  refine D_block ?_
  refine D_loopL (α := Nat × List Int) (fun z => z.1 < n ∧ z.2.length = n ∧ downL z.2 z.1 m = downL L 0 m) 48 [(0, _), (1, _), (2, _)] [((0, 9), _)] (fun z => [(7, .v (.int .i64 (z.1 : Int)))]) (fun z => [((1, 9), .row 3 1 (isl z.2))]) [(0, 9), (1, 9)] [(0, 9), (1, 9)] (fun z => m - z.1) (0, L) ?_ (by
    refine Le.mkJ [] [] rfl ?_ ?_ trivial ⟨rfl, rfl, trivial⟩ ?_
    · exact ⟨(iI rfl), (iV rfl), (iV rfl), (lvI (by first | rfl | omega | (simp; done) | (simp; omega) | assumption)), trivial⟩
    · exact ⟨(obE rfl rfl rfl), (obR rfl rfl rfl (by first | rfl | omega | (simp; done) | (simp; omega) | assumption)), trivial⟩
    · kernel_rfl) ?_
  · exact ⟨by simp only; omega, hL, rfl⟩
  intro z hz
  obtain ⟨hz1, hzl, hzu⟩ := hz
  refine D_block ?_
  refine D_seq fun K4 hK4 => ?_
  refine D_region ?_
  refine DL_c (op_mv _ (rfl : _ = AV.v (.int _ _))) ?_
  first
    | refine DL_c (op_mul _ _ rfl rfl (i64w (by omega))) ?_
    | refine DL_c (op_mul _ _ rfl rfl rfl) ?_
  first
    | refine DL_c (op_add _ _ rfl rfl (i64w (by omega))) ?_
    | refine DL_c (op_add _ _ rfl rfl rfl) ?_
  refine DL_c (op_as _ (rfl : _ = AV.v (.int _ _))) ?_
  refine DL_nil (hK4 _ ?_)
  clear hK4; try clear K4
  refine D_seq fun K5 hK5 => ?_
  refine D_seq fun K6 hK6 => ?_
  refine D_region ?_
  refine DL_c (op_mv _ (rfl : _ = AV.v (.int _ _))) ?_
  refine DL_c (op_mv _ (rfl : _ = AV.v (.int _ _))) ?_
  first
    | refine DL_c (op_geq _ _ rfl rfl (by assumption)) ?_
    | refine DL_c (op_geq _ _ rfl rfl rfl) ?_
  refine DL_c (op_mv _ (rfl : _ = AV.v (.bool _))) ?_
  refine DL_caseC (fun hg18 => ?_) (fun hg18 => ?_)
  · skip
    have hfin : z.2 = downL L 0 m := by rw [← hzu, downL_end (by omega)]
    refine DL_cn rfl rfl (by decide) ?_
    refine DL_cn rfl rfl (by decide) ?_
    refine DL_c (op_pick _ _ _ rfl (rfl : _ = AV.v (.bool _))) ?_
    refine DL_nil (hK6 _ ?_)
    clear hK6; try clear K6
    refine D_cT rfl rfl ?_
    refine D_exit ?_
    refine id (hK3 _ ?_)
    clear hK3; try clear K3
    refine D_seq fun K7 hK7 => ?_
    refine D_region ?_
    refine DL_c (op_mv _ (rfl : _ = AV.v (.int _ _))) ?_
    refine DL_c (op_mv _ (rfl : _ = AV.v (.int _ _))) ?_
    first
      | refine DL_c (op_gtr _ _ rfl rfl (by assumption)) ?_
      | refine DL_c (op_gtr _ _ rfl rfl rfl) ?_
    refine DL_c (op_as _ (rfl : _ = AV.v (.bool _))) ?_
    refine DL_nil (hK7 _ ?_)
    clear hK7; try clear K7
    refine D_ret ?_
    exact ret1 (.inr rfl) rfl (.tmp (rfl : _ = AV.v (.bool _))) (Le.outI [] [] .dead rfl rfl rfl trivial ⟨⟨rfl, ⟨_, rfl, .box rfl (lv_cons (lvRr rfl rfl) lv_nil)⟩, rfl⟩, ⟨rfl, ⟨_, rfl, .rowE (by rw [hfin])⟩, rfl⟩, trivial⟩ ⟨rfl, rfl, trivial⟩ rfl)
  · skip
    refine DL_cy rfl rfl (op_mv _ (rfl : _ = AV.v (.int _ _))) ?_
    first
      | refine DL_cy rfl rfl (op_lss _ _ rfl rfl (by assumption)) ?_
      | refine DL_cy rfl rfl (op_lss _ _ rfl rfl rfl) ?_
    refine DL_c (op_pick _ _ _ rfl (rfl : _ = AV.v (.bool _))) ?_
    refine DL_nil (hK6 _ ?_)
    clear hK6; try clear K6
    refine D_splitC rfl (fun hc21 => ?_) (fun hc21 => ?_)
    · skip
      exact absurd  hc21 (by omega)
    · skip
      refine D_skip (hK5 _ ?_)
      clear hK5; try clear K5
      refine D_seq fun K8 hK8 => ?_
      refine D_region ?_
      refine DL_c (op_mv _ (rfl : _ = AV.v (.int _ _))) ?_
      refine DL_c (op_as _ (rfl : _ = AV.v (.int _ _))) ?_
      refine DL_nil (hK8 _ ?_)
      clear hK8; try clear K8
      refine D_seq fun K9 hK9 => ?_
      refine D_seq fun K10 hK10 => ?_
      refine D_region ?_
      refine DL_c (op_mv _ (rfl : _ = AV.v (.int _ _))) ?_
      first
        | refine DL_c (op_add _ _ rfl rfl (i64w (by omega))) ?_
        | refine DL_c (op_add _ _ rfl rfl rfl) ?_
      refine DL_c (op_as _ (rfl : _ = AV.v (.int _ _))) ?_
      refine DL_nil (hK10 _ ?_)
      clear hK10; try clear K10
      refine D_seq fun K11 hK11 => ?_
      refine D_le (σ' := mkStI 48 [(0, _), (1, _), (2, _), (7, _), (8, _), (9, _), (10, _)] [((0, 9), _), ((1, 9), _)] [(0, 9), (1, 9)] [(0, 9), (1, 9)]) (by
        refine Le.mkJ [] [] rfl ?_ ?_ trivial ⟨rfl, rfl, trivial⟩ ?_
        · exact ⟨(iI rfl), (iV rfl), (iV rfl), (iV rfl), (iV rfl), (iV rfl), (iV rfl), trivial⟩
        · exact ⟨(obE rfl rfl rfl), (obE rfl rfl rfl), trivial⟩
        · kernel_rfl) ?_
      refine D_region ?_
      refine DL_c (op_mv _ (rfl : _ = AV.v (.int _ _))) ?_
      refine DL_c (op_mv _ (rfl : _ = AV.v (.int _ _))) ?_
      first
        | refine DL_c (op_lss _ _ rfl rfl (by assumption)) ?_
        | refine DL_c (op_lss _ _ rfl rfl rfl) ?_
      refine DL_c (op_mv _ (rfl : _ = AV.v (.bool _))) ?_
      refine DL_caseC (fun hg28 => ?_) (fun hg28 => ?_)
      · skip
        refine DL_cy rfl rfl (op_mv _ (rfl : _ = AV.ifc _ _)) ?_
        refine DL_cy rfl rfl (op_mv _ (rfl : _ = AV.v (.int _ _))) ?_
        refine DL_cy rfl rfl (op_mv _ (rfl : _ = AV.v (.int _ _))) ?_
        refine DL_cy rfl rfl (op_callBHE (fun o ho => EntersAt.invV inferInstance inferInstance inferInstance ho rfl rfl) (by repeat' (first | exact argsLv_nil | refine argsLv_cons ?_ ?_ | exact Lv.v | exact lvI (by omega) | exact Lv.sl | exact Lv.fp | exact Lv.nil | refine Lv.agg rfl ?_ | refine Lv.fn rfl ?_ rfl ?_ | exact lv_nil | refine lv_cons ?_ ?_ | (refine frz0 rfl rfl ?_ rfl; first | (simp; done) | (simp; omega) | omega) | exact Lv.frzP rfl rfl rfl)) (qless_spec n z.2 hzl (by omega) (2 * z.1 + 2) (2 * z.1 + 1) (by omega) (by omega)) rfl) ?_
        refine DL_c (op_pick _ _ _ rfl (rfl : _ = AV.v (.bool _))) ?_
        refine DL_nil (hK11 _ ?_)
        clear hK11; try clear K11
        refine D_splitC rfl (fun hc33 => ?_) (fun hc33 => ?_)
        · skip
          have hk : kid z.2 z.1 m = 2 * z.1 + 2 := by unfold kid; rw [if_pos ⟨by omega, hc33⟩]
          refine D_region ?_
          refine DL_c (op_mv _ (rfl : _ = AV.v (.int _ _))) ?_
          refine DL_c (op_as _ (rfl : _ = AV.v (.int _ _))) ?_
          refine DL_nil (hK9 _ ?_)
          clear hK9; try clear K9
          refine D_seq fun K12 hK12 => ?_
          refine D_seq fun K13 hK13 => ?_
          refine D_region ?_
          refine DL_c (op_mv _ (rfl : _ = AV.ifc _ _)) ?_
          refine DL_c (op_mv _ (rfl : _ = AV.v (.int _ _))) ?_
          refine DL_c (op_mv _ (rfl : _ = AV.v (.int _ _))) ?_
          refine DL_c (op_callBHE (fun o ho => EntersAt.invV inferInstance inferInstance inferInstance ho rfl rfl) (by repeat' (first | exact argsLv_nil | refine argsLv_cons ?_ ?_ | exact Lv.v | exact lvI (by omega) | exact Lv.sl | exact Lv.fp | exact Lv.nil | refine Lv.agg rfl ?_ | refine Lv.fn rfl ?_ rfl ?_ | exact lv_nil | refine lv_cons ?_ ?_ | (refine frz0 rfl rfl ?_ rfl; first | (simp; done) | (simp; omega) | omega) | exact Lv.frzP rfl rfl rfl)) (qless_spec n z.2 hzl (by omega) (2 * z.1 + 2) z.1 (by omega) (by omega)) rfl) ?_
          refine DL_c (op_not _ rfl rfl) ?_
          refine DL_nil (hK13 _ ?_)
          clear hK13; try clear K13
          refine D_splitC rfl (fun hc39 => ?_) (fun hc39 => ?_)
          · skip
            have hfin : z.2 = downL L 0 m := by rw [← hzu, downL_no (by rw [hk]; omega)]
            refine D_exit ?_
            refine id (hK3 _ ?_)
            clear hK3; try clear K3
            refine D_seq fun K14 hK14 => ?_
            refine D_le (σ' := mkStI 48 [(1, _), (7, _)] [((0, 9), _), ((1, 9), _)] [(0, 9), (1, 9)] [(0, 9), (1, 9)]) (by
              refine Le.mkJ [] [] rfl ?_ ?_ trivial ⟨rfl, rfl, trivial⟩ ?_
              · exact ⟨(iV rfl), (iV rfl), trivial⟩
              · exact ⟨(obE rfl rfl rfl), (obE rfl rfl rfl), trivial⟩
              · kernel_rfl) ?_
            refine D_region ?_
            refine DL_c (op_mv _ (rfl : _ = AV.v (.int _ _))) ?_
            refine DL_c (op_mv _ (rfl : _ = AV.v (.int _ _))) ?_
            first
              | refine DL_c (op_gtr _ _ rfl rfl (by assumption)) ?_
              | refine DL_c (op_gtr _ _ rfl rfl rfl) ?_
            refine DL_c (op_as _ (rfl : _ = AV.v (.bool _))) ?_
            refine DL_nil (hK14 _ ?_)
            clear hK14; try clear K14
            refine D_ret ?_
            exact ret1 (.inr rfl) rfl (.tmp (rfl : _ = AV.v (.bool _))) (Le.outI [] [] .dead rfl rfl rfl trivial ⟨⟨rfl, ⟨_, rfl, .box rfl (lv_cons (lvRr rfl rfl) lv_nil)⟩, rfl⟩, ⟨rfl, ⟨_, rfl, .rowE (by rw [hfin])⟩, rfl⟩, trivial⟩ ⟨rfl, rfl, trivial⟩ rfl)
          · skip
            refine D_skip (hK12 _ ?_)
            clear hK12; try clear K12
            refine D_seq fun K15 hK15 => ?_
            refine D_le (σ' := mkStI 48 [(0, _), (1, _), (2, _), (7, _), (9, _)] [((0, 9), _), ((1, 9), _)] [(0, 9), (1, 9)] [(0, 9), (1, 9)]) (by
              refine Le.mkJ [] [] rfl ?_ ?_ trivial ⟨rfl, rfl, trivial⟩ ?_
              · exact ⟨(iI rfl), (iV rfl), (iV rfl), (iV rfl), (iV rfl), trivial⟩
              · exact ⟨(obE rfl rfl rfl), (obE rfl rfl rfl), trivial⟩
              · kernel_rfl) ?_
            refine D_region ?_
            refine DL_c (op_mv _ (rfl : _ = AV.ifc _ _)) ?_
            refine DL_c (op_mv _ (rfl : _ = AV.v (.int _ _))) ?_
            refine DL_c (op_mv _ (rfl : _ = AV.v (.int _ _))) ?_
            refine DL_c (op_callRE (fun o ho => EntersAt.invV inferInstance inferInstance inferInstance ho rfl rfl) [((0, 9), (1, 9))] ?_ (qswap_spec n z.2 hzl (by omega) z.1 (2 * z.1 + 2) (by omega) (by omega)) ⟨⟨rfl, ⟨_, rfl, .rowE rfl⟩, rfl⟩, trivial⟩ ⟨rfl, trivial⟩ (by kernel_rfl)) ?_
            · repeat' (first | exact argsR_nil | refine argsR_cons ?_ ?_ | exact Lv.v | exact lvI (by assumption) | exact lvI (by omega) | exact Lv.sl | exact Lv.fp | exact Lv.nil | exact lvRr rfl rfl | exact lvPr rfl | refine Lv.agg rfl ?_ | refine Lv.fn rfl ?_ rfl ?_ | refine Lv.ifc ?_ | exact lv_nil | refine lv_cons ?_ ?_)
            refine DL_nil (hK15 _ ?_)
            clear hK15; try clear K15
            refine D_region ?_
            refine DL_c (op_mv _ (rfl : _ = AV.v (.int _ _))) ?_
            refine DL_c (op_as _ (rfl : _ = AV.v (.int _ _))) ?_
            refine DL_nil ?_
            refine ⟨(2 * z.1 + 2, sw z.2 z.1 (2 * z.1 + 2)), ?_, ?_, ?_⟩
            · exact ⟨by simp only; omega, by simp [hzl], by have h := downL_yes (L := z.2) (i := z.1) (m := m) (by omega) (by rw [hk]; omega); rw [hk] at h; exact h.symm.trans hzu⟩
            · skip
              refine Le.mkJ [] [] rfl ?_ ?_ trivial ⟨rfl, rfl, trivial⟩ ?_
              · exact ⟨(iI rfl), (iV rfl), (iV rfl), (lvI (by first | rfl | omega | (simp; done) | (simp; omega) | assumption)), trivial⟩
              · exact ⟨(obE rfl rfl rfl), (obR rfl rfl rfl (by first | rfl | omega | (simp; done) | (simp; omega) | assumption)), trivial⟩
              · kernel_rfl
            · simp only; omega
        · skip
          have hk : kid z.2 z.1 m = 2 * z.1 + 1 := by unfold kid; rw [if_neg (by omega)]
          refine D_skip (hK9 _ ?_)
          clear hK9; try clear K9
          refine D_seq fun K16 hK16 => ?_
          refine D_seq fun K17 hK17 => ?_
          refine D_region ?_
          refine DL_c (op_mv _ (rfl : _ = AV.ifc _ _)) ?_
          refine DL_c (op_mv _ (rfl : _ = AV.v (.int _ _))) ?_
          refine DL_c (op_mv _ (rfl : _ = AV.v (.int _ _))) ?_
          refine DL_c (op_callBHE (fun o ho => EntersAt.invV inferInstance inferInstance inferInstance ho rfl rfl) (by repeat' (first | exact argsLv_nil | refine argsLv_cons ?_ ?_ | exact Lv.v | exact lvI (by omega) | exact Lv.sl | exact Lv.fp | exact Lv.nil | refine Lv.agg rfl ?_ | refine Lv.fn rfl ?_ rfl ?_ | exact lv_nil | refine lv_cons ?_ ?_ | (refine frz0 rfl rfl ?_ rfl; first | (simp; done) | (simp; omega) | omega) | exact Lv.frzP rfl rfl rfl)) (qless_spec n z.2 hzl (by omega) (2 * z.1 + 1) z.1 (by omega) (by omega)) rfl) ?_
          refine DL_c (op_not _ rfl rfl) ?_
          refine DL_nil (hK17 _ ?_)
          clear hK17; try clear K17
          refine D_splitC rfl (fun hc39 => ?_) (fun hc39 => ?_)
          · skip
            have hfin : z.2 = downL L 0 m := by rw [← hzu, downL_no (by rw [hk]; omega)]
            refine D_exit ?_
            refine id (hK3 _ ?_)
            clear hK3; try clear K3
            refine D_seq fun K18 hK18 => ?_
            refine D_region ?_
            refine DL_c (op_mv _ (rfl : _ = AV.v (.int _ _))) ?_
            refine DL_c (op_mv _ (rfl : _ = AV.v (.int _ _))) ?_
            first
              | refine DL_c (op_gtr _ _ rfl rfl (by assumption)) ?_
              | refine DL_c (op_gtr _ _ rfl rfl rfl) ?_
            refine DL_c (op_as _ (rfl : _ = AV.v (.bool _))) ?_
            refine DL_nil (hK18 _ ?_)
            clear hK18; try clear K18
            refine D_ret ?_
            exact ret1 (.inr rfl) rfl (.tmp (rfl : _ = AV.v (.bool _))) (Le.outI [] [] .dead rfl rfl rfl trivial ⟨⟨rfl, ⟨_, rfl, .box rfl (lv_cons (lvRr rfl rfl) lv_nil)⟩, rfl⟩, ⟨rfl, ⟨_, rfl, .rowE (by rw [hfin])⟩, rfl⟩, trivial⟩ ⟨rfl, rfl, trivial⟩ rfl)
          · skip
            refine D_skip (hK16 _ ?_)
            clear hK16; try clear K16
            refine D_seq fun K19 hK19 => ?_
            refine D_region ?_
            refine DL_c (op_mv _ (rfl : _ = AV.ifc _ _)) ?_
            refine DL_c (op_mv _ (rfl : _ = AV.v (.int _ _))) ?_
            refine DL_c (op_mv _ (rfl : _ = AV.v (.int _ _))) ?_
            refine DL_c (op_callRE (fun o ho => EntersAt.invV inferInstance inferInstance inferInstance ho rfl rfl) [((0, 9), (1, 9))] ?_ (qswap_spec n z.2 hzl (by omega) z.1 (2 * z.1 + 1) (by omega) (by omega)) ⟨⟨rfl, ⟨_, rfl, .rowE rfl⟩, rfl⟩, trivial⟩ ⟨rfl, trivial⟩ (by kernel_rfl)) ?_
            · repeat' (first | exact argsR_nil | refine argsR_cons ?_ ?_ | exact Lv.v | exact lvI (by assumption) | exact lvI (by omega) | exact Lv.sl | exact Lv.fp | exact Lv.nil | exact lvRr rfl rfl | exact lvPr rfl | refine Lv.agg rfl ?_ | refine Lv.fn rfl ?_ rfl ?_ | refine Lv.ifc ?_ | exact lv_nil | refine lv_cons ?_ ?_)
            refine DL_nil (hK19 _ ?_)
            clear hK19; try clear K19
            refine D_le (σ' := mkStI 48 [(0, _), (1, _), (2, _), (9, _)] [((0, 9), _), ((1, 9), _)] [(0, 9), (1, 9)] [(0, 9), (1, 9)]) (by
              refine Le.mkJ [] [] rfl ?_ ?_ trivial ⟨rfl, rfl, trivial⟩ ?_
              · exact ⟨(iI rfl), (iV rfl), (iV rfl), (iV rfl), trivial⟩
              · exact ⟨(obE rfl rfl rfl), (obE rfl rfl rfl), trivial⟩
              · kernel_rfl) ?_
            refine D_region ?_
            refine DL_c (op_mv _ (rfl : _ = AV.v (.int _ _))) ?_
            refine DL_c (op_as _ (rfl : _ = AV.v (.int _ _))) ?_
            refine DL_nil ?_
            refine ⟨(2 * z.1 + 1, sw z.2 z.1 (2 * z.1 + 1)), ?_, ?_, ?_⟩
            · exact ⟨by simp only; omega, by simp [hzl], by have h := downL_yes (L := z.2) (i := z.1) (m := m) (by omega) (by rw [hk]; omega); rw [hk] at h; exact h.symm.trans hzu⟩
            · skip
              refine Le.mkJ [] [] rfl ?_ ?_ trivial ⟨rfl, rfl, trivial⟩ ?_
              · exact ⟨(iI rfl), (iV rfl), (iV rfl), (lvI (by first | rfl | omega | (simp; done) | (simp; omega) | assumption)), trivial⟩
              · exact ⟨(obE rfl rfl rfl), (obR rfl rfl rfl (by first | rfl | omega | (simp; done) | (simp; omega) | assumption)), trivial⟩
              · kernel_rfl
            · simp only; omega
      · skip
        have hk : kid z.2 z.1 m = 2 * z.1 + 1 := by unfold kid; rw [if_neg (by omega)]
        refine DL_cn rfl rfl (by decide) ?_
        refine DL_cn rfl rfl (by decide) ?_
        refine DL_cn rfl rfl (by decide) ?_
        refine DL_cn rfl rfl (by decide) ?_
        refine DL_c (op_pick _ _ _ rfl (rfl : _ = AV.v (.bool _))) ?_
        refine DL_nil (hK11 _ ?_)
        clear hK11; try clear K11
        refine D_cF rfl rfl ?_
        refine D_skip (hK9 _ ?_)
        clear hK9; try clear K9
        refine D_seq fun K20 hK20 => ?_
        refine D_seq fun K21 hK21 => ?_
        refine D_region ?_
        refine DL_c (op_mv _ (rfl : _ = AV.ifc _ _)) ?_
        refine DL_c (op_mv _ (rfl : _ = AV.v (.int _ _))) ?_
        refine DL_c (op_mv _ (rfl : _ = AV.v (.int _ _))) ?_
        refine DL_c (op_callBHE (fun o ho => EntersAt.invV inferInstance inferInstance inferInstance ho rfl rfl) (by repeat' (first | exact argsLv_nil | refine argsLv_cons ?_ ?_ | exact Lv.v | exact lvI (by omega) | exact Lv.sl | exact Lv.fp | exact Lv.nil | refine Lv.agg rfl ?_ | refine Lv.fn rfl ?_ rfl ?_ | exact lv_nil | refine lv_cons ?_ ?_ | (refine frz0 rfl rfl ?_ rfl; first | (simp; done) | (simp; omega) | omega) | exact Lv.frzP rfl rfl rfl)) (qless_spec n z.2 hzl (by omega) (2 * z.1 + 1) z.1 (by omega) (by omega)) rfl) ?_
        refine DL_c (op_not _ rfl rfl) ?_
        refine DL_nil (hK21 _ ?_)
        clear hK21; try clear K21
        refine D_splitC rfl (fun hc39 => ?_) (fun hc39 => ?_)
        · skip
          have hfin : z.2 = downL L 0 m := by rw [← hzu, downL_no (by rw [hk]; omega)]
          refine D_exit ?_
          refine id (hK3 _ ?_)
          clear hK3; try clear K3
          refine D_seq fun K22 hK22 => ?_
          refine D_region ?_
          refine DL_c (op_mv _ (rfl : _ = AV.v (.int _ _))) ?_
          refine DL_c (op_mv _ (rfl : _ = AV.v (.int _ _))) ?_
          first
            | refine DL_c (op_gtr _ _ rfl rfl (by assumption)) ?_
            | refine DL_c (op_gtr _ _ rfl rfl rfl) ?_
          refine DL_c (op_as _ (rfl : _ = AV.v (.bool _))) ?_
          refine DL_nil (hK22 _ ?_)
          clear hK22; try clear K22
          refine D_ret ?_
          exact ret1 (.inr rfl) rfl (.tmp (rfl : _ = AV.v (.bool _))) (Le.outI [] [] .dead rfl rfl rfl trivial ⟨⟨rfl, ⟨_, rfl, .box rfl (lv_cons (lvRr rfl rfl) lv_nil)⟩, rfl⟩, ⟨rfl, ⟨_, rfl, .rowE (by rw [hfin])⟩, rfl⟩, trivial⟩ ⟨rfl, rfl, trivial⟩ rfl)
        · skip
          refine D_skip (hK20 _ ?_)
          clear hK20; try clear K20
          refine D_seq fun K23 hK23 => ?_
          refine D_region ?_
          refine DL_c (op_mv _ (rfl : _ = AV.ifc _ _)) ?_
          refine DL_c (op_mv _ (rfl : _ = AV.v (.int _ _))) ?_
          refine DL_c (op_mv _ (rfl : _ = AV.v (.int _ _))) ?_
          refine DL_c (op_callRE (fun o ho => EntersAt.invV inferInstance inferInstance inferInstance ho rfl rfl) [((0, 9), (1, 9))] ?_ (qswap_spec n z.2 hzl (by omega) z.1 (2 * z.1 + 1) (by omega) (by omega)) ⟨⟨rfl, ⟨_, rfl, .rowE rfl⟩, rfl⟩, trivial⟩ ⟨rfl, trivial⟩ (by kernel_rfl)) ?_
          · repeat' (first | exact argsR_nil | refine argsR_cons ?_ ?_ | exact Lv.v | exact lvI (by assumption) | exact lvI (by omega) | exact Lv.sl | exact Lv.fp | exact Lv.nil | exact lvRr rfl rfl | exact lvPr rfl | refine Lv.agg rfl ?_ | refine Lv.fn rfl ?_ rfl ?_ | refine Lv.ifc ?_ | exact lv_nil | refine lv_cons ?_ ?_)
          refine DL_nil (hK23 _ ?_)
          clear hK23; try clear K23
          refine D_le (σ' := mkStI 48 [(0, _), (1, _), (2, _), (9, _)] [((0, 9), _), ((1, 9), _)] [(0, 9), (1, 9)] [(0, 9), (1, 9)]) (by
            refine Le.mkJ [] [] rfl ?_ ?_ trivial ⟨rfl, rfl, trivial⟩ ?_
            · exact ⟨(iI rfl), (iV rfl), (iV rfl), (iV rfl), trivial⟩
            · exact ⟨(obE rfl rfl rfl), (obE rfl rfl rfl), trivial⟩
            · kernel_rfl) ?_
          refine D_region ?_
          refine DL_c (op_mv _ (rfl : _ = AV.v (.int _ _))) ?_
          refine DL_c (op_as _ (rfl : _ = AV.v (.int _ _))) ?_
          refine DL_nil ?_
          refine ⟨(2 * z.1 + 1, sw z.2 z.1 (2 * z.1 + 1)), ?_, ?_, ?_⟩
          · exact ⟨by simp only; omega, by simp [hzl], by have h := downL_yes (L := z.2) (i := z.1) (m := m) (by omega) (by rw [hk]; omega); rw [hk] at h; exact h.symm.trans hzu⟩
          · skip
            refine Le.mkJ [] [] rfl ?_ ?_ trivial ⟨rfl, rfl, trivial⟩ ?_
            · exact ⟨(iI rfl), (iV rfl), (iV rfl), (lvI (by first | rfl | omega | (simp; done) | (simp; omega) | assumption)), trivial⟩
            · exact ⟨(obE rfl rfl rfl), (obR rfl rfl rfl (by first | rfl | omega | (simp; done) | (simp; omega) | assumption)), trivial⟩
            · kernel_rfl
          · simp only; omega
theorem heapPush_spec (n : Nat) (L : List Int) (hL : L.length = n) (h1 : n ≤ 1000000) (x : Int) :
    Spec Try.prog 92 (inStI [.ifc 116 (.ptr (0, 9) 0), .ifc 3 (.v (.int .i64 x))] (qO n L)) (outStI (.tup []) [((0, 9), .box 117 [.ref (1, 8) 0 (n + 1)]), ((1, 8), .row 3 1 (isl (hpush L x)))] [(0, 9), (1, 8)] [(0, 9)]) := by
  refine Spec.ofNI Try.func92 rfl Try.ntmps92 rfl ?_
  refine D_seq fun K1 hK1 => ?_
  refine D_region ?_
  refine DL_c (op_mv _ (rfl : _ = AV.ifc _ _)) ?_
  refine DL_c (op_mv _ (rfl : _ = AV.ifc _ _)) ?_
  refine DL_c (op_callRE (fun o ho => EntersAt.invP inferInstance ho rfl) [((1, 8), (50, 0))] ?_ (qpush_spec n L hL h1 x) ⟨⟨rfl, ⟨_, rfl, .box rfl (lv_cons (lvRr rfl rfl) lv_nil)⟩, rfl⟩, ⟨rfl, ⟨_, rfl, .rowE rfl⟩, rfl⟩, trivial⟩ ⟨rfl, rfl, trivial⟩ (by kernel_rfl)) ?_
  · repeat' (first | exact argsR_nil | refine argsR_cons ?_ ?_ | exact Lv.v | exact lvI (by assumption) | exact lvI (by omega) | exact Lv.sl | exact Lv.fp | exact Lv.nil | exact lvRr rfl rfl | exact lvPr rfl | refine Lv.agg rfl ?_ | refine Lv.fn rfl ?_ rfl ?_ | refine Lv.ifc ?_ | exact lv_nil | refine lv_cons ?_ ?_)
  refine DL_nil (hK1 _ ?_)
  clear hK1; try clear K1
  refine D_region ?_
  refine DL_c (op_mv _ (rfl : _ = AV.ifc _ _)) ?_
  refine DL_c (op_mv _ (rfl : _ = AV.ifc _ _)) ?_
  refine DL_c (op_callRE (fun o ho => EntersAt.invP inferInstance ho rfl) [((1, 9), (50, 0))] ?_ (qlen_spec (n + 1) (L ++ [x])) ⟨⟨rfl, ⟨_, rfl, .box rfl (lv_cons (lvRr rfl rfl) lv_nil)⟩, rfl⟩, ⟨rfl, ⟨_, rfl, .rowE rfl⟩, rfl⟩, trivial⟩ ⟨rfl, rfl, trivial⟩ (by kernel_rfl)) ?_
  · repeat' (first | exact argsR_nil | refine argsR_cons ?_ ?_ | exact Lv.v | exact lvI (by assumption) | exact lvI (by omega) | exact Lv.sl | exact Lv.fp | exact Lv.nil | exact lvRr rfl rfl | exact lvPr rfl | refine Lv.agg rfl ?_ | refine Lv.fn rfl ?_ rfl ?_ | refine Lv.ifc ?_ | exact lv_nil | refine lv_cons ?_ ?_)
  first
    | refine DL_c (op_sub _ _ rfl rfl (i64w (by omega))) ?_
    | refine DL_c (op_sub _ _ rfl rfl rfl) ?_
  refine DL_c (op_callR inferInstance [((1, 9), (50, 0))] ?_ (heapUp_spec (n + 1) (L ++ [x]) (by simp [hL]) (by omega) n (by omega)) ⟨⟨rfl, ⟨_, rfl, .box rfl (lv_cons (lvRr rfl rfl) lv_nil)⟩, rfl⟩, ⟨rfl, ⟨_, rfl, .rowE rfl⟩, rfl⟩, trivial⟩ ⟨rfl, rfl, trivial⟩ (by kernel_rfl)) ?_
  · repeat' (first | exact argsR_nil | refine argsR_cons ?_ ?_ | exact Lv.v | exact lvI (by assumption) | exact lvI (by omega) | exact Lv.sl | exact Lv.fp | exact Lv.nil | exact lvRr rfl rfl | exact lvPr rfl | refine Lv.agg rfl ?_ | refine Lv.fn rfl ?_ rfl ?_ | refine Lv.ifc ?_ | exact lv_nil | refine lv_cons ?_ ?_)
  refine DL_nil ?_
  exact ret0 (.inl rfl) rfl (Le.outI [((1, 8), (50, 0))] [] (.tup rfl lv_nil) rfl rfl rfl trivial ⟨⟨rfl, ⟨_, rfl, .box rfl (lv_cons (lvRr rfl rfl) lv_nil)⟩, rfl⟩, ⟨rfl, ⟨_, rfl, .rowE (by rw [hpush, hL])⟩, rfl⟩, trivial⟩ ⟨rfl, trivial⟩ rfl)
theorem heapPop_spec (n : Nat) (L : List Int) (hL : L.length = n) (h1 : n ≤ 1000000) (h0 : 0 < n) (hh : HP n L) :
    Spec Try.prog 94 (inStI [.ifc 116 (.ptr (0, 9) 0)] (qO n L)) (outStI (.ifc 3 (.v (.int .i64 (L.getD 0 0)))) (qO (n - 1) (hpop L)) [(0, 9), (1, 9)] [(0, 9), (1, 9)]) := by
  subst hL
  obtain ⟨hp1, hp2, hp3, hp4⟩ := hpop_ok hh h0
  have hdl : (downL (sw L 0 (L.length - 1)) 0 (L.length - 1)).length = L.length := by rw [downL_len _ 0 rfl, sw_len]
  refine Spec.ofNI Try.func94 rfl Try.ntmps94 rfl ?_
  refine D_seq fun K1 hK1 => ?_
  refine D_region ?_
  first
    | refine DL_c (op_as _ (rfl : _ = AV.ifc _ _)) ?_
    | refine DL_c (op_as _ (rfl : _ = AV.v _)) ?_
  refine DL_nil (hK1 _ ?_)
  clear hK1; try clear K1
  refine D_seq fun K2 hK2 => ?_
  refine D_region ?_
  refine DL_c (op_mv _ (rfl : _ = AV.ifc _ _)) ?_
  refine DL_c (op_callRE (fun o ho => EntersAt.invP inferInstance ho rfl) [] ?_ (qlen_spec L.length L) ⟨⟨rfl, ⟨_, rfl, .box rfl (lv_cons (lvRr rfl rfl) lv_nil)⟩, rfl⟩, ⟨rfl, ⟨_, rfl, .rowE rfl⟩, rfl⟩, trivial⟩ ⟨rfl, rfl, trivial⟩ (by kernel_rfl)) ?_
  · repeat' (first | exact argsR_nil | refine argsR_cons ?_ ?_ | exact Lv.v | exact lvI (by assumption) | exact lvI (by omega) | exact Lv.sl | exact Lv.fp | exact Lv.nil | exact lvRr rfl rfl | exact lvPr rfl | refine Lv.agg rfl ?_ | refine Lv.fn rfl ?_ rfl ?_ | refine Lv.ifc ?_ | exact lv_nil | refine lv_cons ?_ ?_)
  first
    | refine DL_c (op_sub _ _ rfl rfl (i64w (by omega))) ?_
    | refine DL_c (op_sub _ _ rfl rfl rfl) ?_
  refine DL_c (op_as _ (rfl : _ = AV.v (.int _ _))) ?_
  refine DL_nil (hK2 _ ?_)
  clear hK2; try clear K2
  refine D_seq fun K3 hK3 => ?_
  refine D_region ?_
  refine DL_c (op_mv _ (rfl : _ = AV.ifc _ _)) ?_
  refine DL_c (op_mv _ (rfl : _ = AV.v (.int _ _))) ?_
  refine DL_c (op_callRE (fun o ho => EntersAt.invV inferInstance inferInstance inferInstance ho rfl rfl) [((0, 9), (1, 9))] ?_ (qswap_spec L.length L rfl (by omega) 0 (L.length - 1) (by omega) (by omega)) ⟨⟨rfl, ⟨_, rfl, .rowE rfl⟩, rfl⟩, trivial⟩ ⟨rfl, trivial⟩ (by kernel_rfl)) ?_
  · repeat' (first | exact argsR_nil | refine argsR_cons ?_ ?_ | exact Lv.v | exact lvI (by assumption) | exact lvI (by omega) | exact Lv.sl | exact Lv.fp | exact Lv.nil | exact lvRr rfl rfl | exact lvPr rfl | refine Lv.agg rfl ?_ | refine Lv.fn rfl ?_ rfl ?_ | refine Lv.ifc ?_ | exact lv_nil | refine lv_cons ?_ ?_)
  refine DL_nil (hK3 _ ?_)
  clear hK3; try clear K3
  refine D_seq fun K4 hK4 => ?_
  refine D_region ?_
  refine DL_c (op_mv _ (rfl : _ = AV.ifc _ _)) ?_
  refine DL_c (op_mv _ (rfl : _ = AV.v (.int _ _))) ?_
  refine DL_c (op_callR inferInstance [] ?_ (heapDown_spec L.length (sw L 0 (L.length - 1)) (by simp) (by omega) (L.length - 1) (by omega)) ⟨⟨rfl, ⟨_, rfl, .box rfl (lv_cons (lvRr rfl rfl) lv_nil)⟩, rfl⟩, ⟨rfl, ⟨_, rfl, .rowE rfl⟩, rfl⟩, trivial⟩ ⟨rfl, rfl, trivial⟩ (by kernel_rfl)) ?_
  · repeat' (first | exact argsR_nil | refine argsR_cons ?_ ?_ | exact Lv.v | exact lvI (by assumption) | exact lvI (by omega) | exact Lv.sl | exact Lv.fp | exact Lv.nil | exact lvRr rfl rfl | exact lvPr rfl | refine Lv.agg rfl ?_ | refine Lv.fn rfl ?_ rfl ?_ | refine Lv.ifc ?_ | exact lv_nil | refine lv_cons ?_ ?_)
  refine DL_nil (hK4 _ ?_)
  clear hK4; try clear K4
  refine D_seq fun K5 hK5 => ?_
  refine D_region ?_
  refine DL_c (op_mv _ (rfl : _ = AV.ifc _ _)) ?_
  refine DL_c (op_callRE (fun o ho => EntersAt.invP inferInstance ho rfl) [] ?_ (qpop_spec L.length (downL (sw L 0 (L.length - 1)) 0 (L.length - 1)) hdl h0 h1) ⟨⟨rfl, ⟨_, rfl, .box rfl (lv_cons (lvRr rfl rfl) lv_nil)⟩, rfl⟩, ⟨rfl, ⟨_, rfl, .rowE rfl⟩, rfl⟩, trivial⟩ ⟨rfl, rfl, trivial⟩ (by kernel_rfl)) ?_
  · repeat' (first | exact argsR_nil | refine argsR_cons ?_ ?_ | exact Lv.v | exact lvI (by assumption) | exact lvI (by omega) | exact Lv.sl | exact Lv.fp | exact Lv.nil | exact lvRr rfl rfl | exact lvPr rfl | refine Lv.agg rfl ?_ | refine Lv.fn rfl ?_ rfl ?_ | refine Lv.ifc ?_ | exact lv_nil | refine lv_cons ?_ ?_)
  refine DL_c (op_as _ (rfl : _ = AV.ifc _ _)) ?_
  refine DL_nil (hK5 _ ?_)
  clear hK5; try clear K5
  refine D_ret ?_
  exact ret1 (.inr rfl) rfl (.tmp (rfl : _ = AV.ifc _ _)) (Le.outI [] [] (.ifc (by rw [← hp4]; exact .v)) rfl rfl rfl trivial ⟨⟨rfl, ⟨_, rfl, .box rfl (lv_cons (lvRr rfl rfl) lv_nil)⟩, rfl⟩, ⟨rfl, ⟨_, rfl, .rowE rfl⟩, rfl⟩, trivial⟩ ⟨rfl, rfl, trivial⟩ rfl)
end Go.Proofs.Ytkbkmngbenohkaa
