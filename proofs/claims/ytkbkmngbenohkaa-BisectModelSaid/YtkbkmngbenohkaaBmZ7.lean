/- Part 7 of the texts that the walk leans on: the machine, the walks, the plain laws. -/
import Derived.Test.YtkbkmngbenohkaaBmZ6
set_option linter.unusedSimpArgs false
set_option linter.unusedVariables false
namespace Go.Proofs.Ytkbkmngbenohkaa
open Go.RowKit

theorem tdv {m : Nat} (h : m ≤ 4611686018427387904) : IntKind.i64.wrap (((m : Int) - 1).tdiv 2) = (((m - 1) / 2 : Nat) : Int) := by
 cases m with
 | zero => rfl
 | succ k =>
  have e : ((k + 1 : Nat) : Int) - 1 = (k : Int) := by omega
  rw [e, Int.tdiv_eq_ediv_of_nonneg (by omega), i64w (by omega)]
  simp
theorem heapUp_spec (n : Nat) (L : List Int) (hL : L.length = n) (h1 : n ≤ 1000001) (j : Nat) (hj : j < n) :
  Spec Try.prog 123 (inStI [.ifc 116 (.ptr (0, 9) 0), .v (.int .i64 (j : Int))] (qO n L)) (outStI (.tup []) (qO n (upL L j)) [(0, 9), (1, 9)] [(0, 9), (1, 9)]) := by
 refine Spec.ofNI Try.func123 rfl Try.ntmps123 rfl ?_
 refine D_block ?_
 refine D_loopL (α := Nat × List Int) (fun z => z.1 < n ∧ z.2.length = n ∧ upL z.2 z.1 = upL L j) 23 [(0, _)] [((0, 9), _)] (fun z => [(1, .v (.int .i64 (z.1 : Int)))]) (fun z => [((1, 9), .row 3 1 (isl z.2))]) [(0, 9), (1, 9)] [(0, 9), (1, 9)] (fun z => z.1) (j, L) ?_ (by
  refine Le.mkJ [] [] rfl ?_ ?_ trivial ⟨rfl, rfl, trivial⟩ ?_
  ·exact ⟨(iI rfl), (lvI (by rfl)), trivial⟩
  ·exact ⟨(obE rfl rfl rfl), (obR rfl rfl rfl (by rfl)), trivial⟩
  ·kernel_rfl) ?_
 ·exact ⟨hj, hL, rfl⟩
 intro z hz
 obtain ⟨hz1, hzl, hzu⟩ := hz
 refine D_block ?_
 refine D_seq fun K1 hK1 => ?_
 refine D_region ?_
 refine DL_c (mvI rfl) ?_
 refine DL_c (op_sub _ _ rfl rfl (i64w (by omega))) ?_
 refine DL_c (op_quo _ _ rfl rfl (by omega) (tdv (by omega))) ?_
 refine DL_c (asI rfl) ?_
 refine DL_nil (hK1 _ ?_)
 clear hK1; try clear K1
 refine D_seq fun K2 hK2 => ?_
 refine D_seq fun K3 hK3 => ?_
 refine D_region ?_
 refine DL_c (mvI rfl) ?_
 refine DL_c (mvI rfl) ?_
 refine DL_c (op_eql _ _ rfl rfl rfl) ?_
 refine DL_c (mvB rfl) ?_
 refine DL_caseC (fun hg11 => ?_) (fun hg11 => ?_)
 ·skip
  have hfin : z.2 = upL L j := by rw [← hzu, (by omega : z.1 = 0), upL_zero]
  refine DL_cn rfl rfl (by decide) ?_
  refine DL_cn rfl rfl (by decide) ?_
  refine DL_cn rfl rfl (by decide) ?_
  refine DL_cn rfl rfl (by decide) ?_
  refine DL_cn rfl rfl (by decide) ?_
  refine DL_c (op_pick _ _ _ rfl (rfl : _ = AV.v (.bool _))) ?_
  refine DL_nil (hK3 _ ?_)
  clear hK3; try clear K3
  refine D_cT rfl rfl ?_
  refine D_exit ?_
  refine id ?_
  exact ret0 (.inl rfl) rfl (Le.outI [] [] (.tup rfl lv_nil) rfl rfl rfl trivial ⟨⟨rfl, ⟨_, rfl, .box rfl (lv_cons (lvRr rfl rfl) lv_nil)⟩, rfl⟩, ⟨rfl, ⟨_, rfl, .rowE (by rw [hfin])⟩, rfl⟩, trivial⟩ ⟨rfl, rfl, trivial⟩ rfl)
 ·skip
  refine DL_cy rfl rfl (op_mv _ (rfl : _ = AV.ifc _ _)) ?_
  refine DL_cy rfl rfl (mvI rfl) ?_
  refine DL_cy rfl rfl (mvI rfl) ?_
  refine DL_cy rfl rfl (op_callBHE (fun o ho => EntersAt.invV inferInstance inferInstance inferInstance ho rfl rfl) (by repeat' (first | exact argsLv_nil | refine argsLv_cons ?_ ?_ | exact Lv.v | (refine frz0 rfl rfl ?_ rfl; (simp; omega)))) (qless_spec n z.2 hzl (by omega) z.1 ((z.1 - 1) / 2) (by omega) (by omega)) rfl) ?_
  refine DL_cy rfl rfl (op_not _ rfl rfl) ?_
  refine DL_c (op_pick _ _ _ rfl (rfl : _ = AV.v (.bool _))) ?_
  refine DL_nil (hK3 _ ?_)
  clear hK3; try clear K3
  refine D_splitC rfl (fun hc17 => ?_) (fun hc17 => ?_)
  ·skip
   have hfin : z.2 = upL L j := by rw [← hzu, upL_no (by omega)]
   refine D_exit ?_
   refine id ?_
   exact ret0 (.inl rfl) rfl (Le.outI [] [] (.tup rfl lv_nil) rfl rfl rfl trivial ⟨⟨rfl, ⟨_, rfl, .box rfl (lv_cons (lvRr rfl rfl) lv_nil)⟩, rfl⟩, ⟨rfl, ⟨_, rfl, .rowE (by rw [hfin])⟩, rfl⟩, trivial⟩ ⟨rfl, rfl, trivial⟩ rfl)
  ·skip
   refine D_skip (hK2 _ ?_)
   clear hK2; try clear K2
   refine D_seq fun K4 hK4 => ?_
   refine D_region ?_
   refine DL_c (op_mv _ (rfl : _ = AV.ifc _ _)) ?_
   refine DL_c (mvI rfl) ?_
   refine DL_c (mvI rfl) ?_
   refine DL_c (op_callRE (fun o ho => EntersAt.invV inferInstance inferInstance inferInstance ho rfl rfl) [((0, 9), (1, 9))] ?_ (qswap_spec n z.2 hzl (by omega) ((z.1 - 1) / 2) z.1 (by omega) (by omega)) ⟨⟨rfl, ⟨_, rfl, .rowE rfl⟩, rfl⟩, trivial⟩ ⟨rfl, trivial⟩ (by kernel_rfl)) ?_
   ·repeat' (first | exact argsR_nil | refine argsR_cons ?_ ?_ | exact Lv.v | exact lvRr rfl rfl)
   refine DL_nil (hK4 _ ?_)
   clear hK4; try clear K4
   refine D_le (σ' := mkStI 23 [(0, _), (4, _)] [((0, 9), _), ((1, 9), _)] [(0, 9), (1, 9)] [(0, 9), (1, 9)]) (by
    refine Le.mkJ [] [] rfl ?_ ?_ trivial ⟨rfl, rfl, trivial⟩ ?_
    ·exact ⟨(iI rfl), (iV rfl), trivial⟩
    ·exact ⟨(obE rfl rfl rfl), (obE rfl rfl rfl), trivial⟩
    ·kernel_rfl) ?_
   refine D_region ?_
   refine DL_c (mvI rfl) ?_
   refine DL_c (asI rfl) ?_
   refine DL_nil ?_
   refine ⟨((z.1 - 1) / 2, sw z.2 ((z.1 - 1) / 2) z.1), ?_, ?_, ?_⟩
   ·exact ⟨by simp only; omega, by simp [hzl], (upL_yes (by omega) hc17).symm.trans hzu⟩
   ·skip
    refine Le.mkJ [] [] rfl ?_ ?_ trivial ⟨rfl, rfl, trivial⟩ ?_
    ·exact ⟨(iI rfl), (lvI (by rfl)), trivial⟩
    ·exact ⟨(obE rfl rfl rfl), (obR rfl rfl rfl (by rfl)), trivial⟩
    ·kernel_rfl
   ·simp only; omega
theorem heapDown_spec (n : Nat) (L : List Int) (hL : L.length = n) (h1 : n ≤ 1000001) (m : Nat) (hm : m < n) :
  Spec Try.prog 124 (inStI [.ifc 116 (.ptr (0, 9) 0), .v (.int .i64 0), .v (.int .i64 (m : Int))] (qO n L)) (outStI .dead (qO n (downL L 0 m)) [(0, 9), (1, 9)] [(0, 9), (1, 9)]) := by
 refine Spec.ofNI Try.func124 rfl Try.ntmps124 rfl ?_
 refine D_seq fun K1 hK1 => ?_
 refine D_region ?_
 refine DL_c (asB rfl) ?_
 refine DL_nil (hK1 _ ?_)
 clear hK1; try clear K1
 refine D_seq fun K2 hK2 => ?_
 refine D_region ?_
 refine DL_c (mvI rfl) ?_
 refine DL_c (asI rfl) ?_
 refine DL_nil (hK2 _ ?_)
 clear hK2; try clear K2
 refine D_seq fun K3 hK3 => ?_
 refine D_block ?_
 refine D_loopL (α := Nat × List Int) (fun z => z.1 < n ∧ z.2.length = n ∧ downL z.2 z.1 m = downL L 0 m) 48 [(0, _), (1, _), (2, _)] [((0, 9), _)] (fun z => [(7, .v (.int .i64 (z.1 : Int)))]) (fun z => [((1, 9), .row 3 1 (isl z.2))]) [(0, 9), (1, 9)] [(0, 9), (1, 9)] (fun z => m - z.1) (0, L) ?_ (by
  refine Le.mkJ [] [] rfl ?_ ?_ trivial ⟨rfl, rfl, trivial⟩ ?_
  ·exact ⟨(iI rfl), (iV rfl), (iV rfl), (lvI (by rfl)), trivial⟩
  ·exact ⟨(obE rfl rfl rfl), (obR rfl rfl rfl (by rfl)), trivial⟩
  ·kernel_rfl) ?_
 ·exact ⟨by simp only; omega, hL, rfl⟩
 intro z hz
 obtain ⟨hz1, hzl, hzu⟩ := hz
 refine D_block ?_
 refine D_seq fun K4 hK4 => ?_
 refine D_region ?_
 refine DL_c (mvI rfl) ?_
 refine DL_c (op_mul _ _ rfl rfl (i64w (by omega))) ?_
 refine DL_c (op_add _ _ rfl rfl (i64w (by omega))) ?_
 refine DL_c (asI rfl) ?_
 refine DL_nil (hK4 _ ?_)
 clear hK4; try clear K4
 refine D_seq fun K5 hK5 => ?_
 refine D_seq fun K6 hK6 => ?_
 refine D_region ?_
 refine DL_c (mvI rfl) ?_
 refine DL_c (mvI rfl) ?_
 refine DL_c (op_geq _ _ rfl rfl rfl) ?_
 refine DL_c (mvB rfl) ?_
 refine DL_caseC (fun hg18 => ?_) (fun hg18 => ?_)
 ·skip
  have hfin : z.2 = downL L 0 m := by rw [← hzu, downL_end (by omega)]
  refine DL_cn rfl rfl (by decide) ?_
  refine DL_cn rfl rfl (by decide) ?_
  refine DL_c (op_pick _ _ _ rfl (rfl : _ = AV.v (.bool _))) ?_
  refine DL_nil (hK6 _ ?_)
  clear hK6; try clear K6
  refine D_cT rfl rfl ?_
  refine D_exit ?_
  refine id (hK3 _ ?_)
  clear hK3; try clear K3
  refine D_seq fun K7 hK7 => ?_
  refine D_region ?_
  refine DL_c (mvI rfl) ?_
  refine DL_c (mvI rfl) ?_
  refine DL_c (op_gtr _ _ rfl rfl rfl) ?_
  refine DL_c (asB rfl) ?_
  refine DL_nil (hK7 _ ?_)
  clear hK7; try clear K7
  refine D_ret ?_
  exact ret1 (.inr rfl) rfl (.tmp (rfl : _ = AV.v (.bool _))) (Le.outI [] [] .dead rfl rfl rfl trivial ⟨⟨rfl, ⟨_, rfl, .box rfl (lv_cons (lvRr rfl rfl) lv_nil)⟩, rfl⟩, ⟨rfl, ⟨_, rfl, .rowE (by rw [hfin])⟩, rfl⟩, trivial⟩ ⟨rfl, rfl, trivial⟩ rfl)
 ·skip
  refine DL_cy rfl rfl (mvI rfl) ?_
  refine DL_cy rfl rfl (op_lss _ _ rfl rfl rfl) ?_
  refine DL_c (op_pick _ _ _ rfl (rfl : _ = AV.v (.bool _))) ?_
  refine DL_nil (hK6 _ ?_)
  clear hK6; try clear K6
  refine D_splitC rfl (fun hc21 => ?_) (fun hc21 => ?_)
  ·skip
   exact absurd  hc21 (by omega)
  ·skip
   refine D_skip (hK5 _ ?_)
   clear hK5; try clear K5
   refine D_seq fun K8 hK8 => ?_
   refine D_region ?_
   refine DL_c (mvI rfl) ?_
   refine DL_c (asI rfl) ?_
   refine DL_nil (hK8 _ ?_)
   clear hK8; try clear K8
   refine D_seq fun K9 hK9 => ?_
   refine D_seq fun K10 hK10 => ?_
   refine D_region ?_
   refine DL_c (mvI rfl) ?_
   refine DL_c (op_add _ _ rfl rfl (i64w (by omega))) ?_
   refine DL_c (asI rfl) ?_
   refine DL_nil (hK10 _ ?_)
   clear hK10; try clear K10
   refine D_seq fun K11 hK11 => ?_
   refine D_le (σ' := mkStI 48 [(0, _), (1, _), (2, _), (7, _), (8, _), (9, _), (10, _)] [((0, 9), _), ((1, 9), _)] [(0, 9), (1, 9)] [(0, 9), (1, 9)]) (by
    refine Le.mkJ [] [] rfl ?_ ?_ trivial ⟨rfl, rfl, trivial⟩ ?_
    ·exact ⟨(iI rfl), (iV rfl), (iV rfl), (iV rfl), (iV rfl), (iV rfl), (iV rfl), trivial⟩
    ·exact ⟨(obE rfl rfl rfl), (obE rfl rfl rfl), trivial⟩
    ·kernel_rfl) ?_
   refine D_region ?_
   refine DL_c (mvI rfl) ?_
   refine DL_c (mvI rfl) ?_
   refine DL_c (op_lss _ _ rfl rfl rfl) ?_
   refine DL_c (mvB rfl) ?_
   refine DL_caseC (fun hg28 => ?_) (fun hg28 => ?_)
   ·skip
    refine DL_cy rfl rfl (op_mv _ (rfl : _ = AV.ifc _ _)) ?_
    refine DL_cy rfl rfl (mvI rfl) ?_
    refine DL_cy rfl rfl (mvI rfl) ?_
    refine DL_cy rfl rfl (op_callBHE (fun o ho => EntersAt.invV inferInstance inferInstance inferInstance ho rfl rfl) (by repeat' (first | exact argsLv_nil | refine argsLv_cons ?_ ?_ | exact Lv.v | (refine frz0 rfl rfl ?_ rfl; (simp; omega)))) (qless_spec n z.2 hzl (by omega) (2 * z.1 + 2) (2 * z.1 + 1) (by omega) (by omega)) rfl) ?_
    refine DL_c (op_pick _ _ _ rfl (rfl : _ = AV.v (.bool _))) ?_
    refine DL_nil (hK11 _ ?_)
    clear hK11; try clear K11
    refine D_splitC rfl (fun hc33 => ?_) (fun hc33 => ?_)
    ·skip
     have hk : kid z.2 z.1 m = 2 * z.1 + 2 := by unfold kid; rw [if_pos ⟨by omega, hc33⟩]
     refine D_region ?_
     refine DL_c (mvI rfl) ?_
     refine DL_c (asI rfl) ?_
     refine DL_nil (hK9 _ ?_)
     clear hK9; try clear K9
     refine D_seq fun K12 hK12 => ?_
     refine D_seq fun K13 hK13 => ?_
     refine D_region ?_
     refine DL_c (op_mv _ (rfl : _ = AV.ifc _ _)) ?_
     refine DL_c (mvI rfl) ?_
     refine DL_c (mvI rfl) ?_
     refine DL_c (op_callBHE (fun o ho => EntersAt.invV inferInstance inferInstance inferInstance ho rfl rfl) (by repeat' (first | exact argsLv_nil | refine argsLv_cons ?_ ?_ | exact Lv.v | (refine frz0 rfl rfl ?_ rfl; (simp; omega)))) (qless_spec n z.2 hzl (by omega) (2 * z.1 + 2) z.1 (by omega) (by omega)) rfl) ?_
     refine DL_c (op_not _ rfl rfl) ?_
     refine DL_nil (hK13 _ ?_)
     clear hK13; try clear K13
     refine D_splitC rfl (fun hc39 => ?_) (fun hc39 => ?_)
     ·skip
      have hfin : z.2 = downL L 0 m := by rw [← hzu, downL_no (by rw [hk]; omega)]
      refine D_exit ?_
      refine id (hK3 _ ?_)
      clear hK3; try clear K3
      refine D_seq fun K14 hK14 => ?_
      refine D_le (σ' := mkStI 48 [(1, _), (7, _)] [((0, 9), _), ((1, 9), _)] [(0, 9), (1, 9)] [(0, 9), (1, 9)]) (by
       refine Le.mkJ [] [] rfl ?_ ?_ trivial ⟨rfl, rfl, trivial⟩ ?_
       ·exact ⟨(iV rfl), (iV rfl), trivial⟩
       ·exact ⟨(obE rfl rfl rfl), (obE rfl rfl rfl), trivial⟩
       ·kernel_rfl) ?_
      refine D_region ?_
      refine DL_c (mvI rfl) ?_
      refine DL_c (mvI rfl) ?_
      refine DL_c (op_gtr _ _ rfl rfl rfl) ?_
      refine DL_c (asB rfl) ?_
      refine DL_nil (hK14 _ ?_)
      clear hK14; try clear K14
      refine D_ret ?_
      exact ret1 (.inr rfl) rfl (.tmp (rfl : _ = AV.v (.bool _))) (Le.outI [] [] .dead rfl rfl rfl trivial ⟨⟨rfl, ⟨_, rfl, .box rfl (lv_cons (lvRr rfl rfl) lv_nil)⟩, rfl⟩, ⟨rfl, ⟨_, rfl, .rowE (by rw [hfin])⟩, rfl⟩, trivial⟩ ⟨rfl, rfl, trivial⟩ rfl)
     ·skip
      refine D_skip (hK12 _ ?_)
      clear hK12; try clear K12
      refine D_seq fun K15 hK15 => ?_
      refine D_le (σ' := mkStI 48 [(0, _), (1, _), (2, _), (7, _), (9, _)] [((0, 9), _), ((1, 9), _)] [(0, 9), (1, 9)] [(0, 9), (1, 9)]) (by
       refine Le.mkJ [] [] rfl ?_ ?_ trivial ⟨rfl, rfl, trivial⟩ ?_
       ·exact ⟨(iI rfl), (iV rfl), (iV rfl), (iV rfl), (iV rfl), trivial⟩
       ·exact ⟨(obE rfl rfl rfl), (obE rfl rfl rfl), trivial⟩
       ·kernel_rfl) ?_
      refine D_region ?_
      refine DL_c (op_mv _ (rfl : _ = AV.ifc _ _)) ?_
      refine DL_c (mvI rfl) ?_
      refine DL_c (mvI rfl) ?_
      refine DL_c (op_callRE (fun o ho => EntersAt.invV inferInstance inferInstance inferInstance ho rfl rfl) [((0, 9), (1, 9))] ?_ (qswap_spec n z.2 hzl (by omega) z.1 (2 * z.1 + 2) (by omega) (by omega)) ⟨⟨rfl, ⟨_, rfl, .rowE rfl⟩, rfl⟩, trivial⟩ ⟨rfl, trivial⟩ (by kernel_rfl)) ?_
      ·repeat' (first | exact argsR_nil | refine argsR_cons ?_ ?_ | exact Lv.v | exact lvRr rfl rfl)
      refine DL_nil (hK15 _ ?_)
      clear hK15; try clear K15
      refine D_region ?_
      refine DL_c (mvI rfl) ?_
      refine DL_c (asI rfl) ?_
      refine DL_nil ?_
      refine ⟨(2 * z.1 + 2, sw z.2 z.1 (2 * z.1 + 2)), ?_, ?_, ?_⟩
      ·exact ⟨by simp only; omega, by simp [hzl], by have h := downL_yes (L := z.2) (i := z.1) (m := m) (by omega) (by rw [hk]; omega); rw [hk] at h; exact h.symm.trans hzu⟩
      ·skip
       refine Le.mkJ [] [] rfl ?_ ?_ trivial ⟨rfl, rfl, trivial⟩ ?_
       ·exact ⟨(iI rfl), (iV rfl), (iV rfl), (lvI (by rfl)), trivial⟩
       ·exact ⟨(obE rfl rfl rfl), (obR rfl rfl rfl (by rfl)), trivial⟩
       ·kernel_rfl
      ·simp only; omega
    ·skip
     have hk : kid z.2 z.1 m = 2 * z.1 + 1 := by unfold kid; rw [if_neg (by omega)]
     refine D_skip (hK9 _ ?_)
     clear hK9; try clear K9
     refine D_seq fun K16 hK16 => ?_
     refine D_seq fun K17 hK17 => ?_
     refine D_region ?_
     refine DL_c (op_mv _ (rfl : _ = AV.ifc _ _)) ?_
     refine DL_c (mvI rfl) ?_
     refine DL_c (mvI rfl) ?_
     refine DL_c (op_callBHE (fun o ho => EntersAt.invV inferInstance inferInstance inferInstance ho rfl rfl) (by repeat' (first | exact argsLv_nil | refine argsLv_cons ?_ ?_ | exact Lv.v | (refine frz0 rfl rfl ?_ rfl; (simp; omega)))) (qless_spec n z.2 hzl (by omega) (2 * z.1 + 1) z.1 (by omega) (by omega)) rfl) ?_
     refine DL_c (op_not _ rfl rfl) ?_
     refine DL_nil (hK17 _ ?_)
     clear hK17; try clear K17
     refine D_splitC rfl (fun hc39 => ?_) (fun hc39 => ?_)
     ·skip
      have hfin : z.2 = downL L 0 m := by rw [← hzu, downL_no (by rw [hk]; omega)]
      refine D_exit ?_
      refine id (hK3 _ ?_)
      clear hK3; try clear K3
      refine D_seq fun K18 hK18 => ?_
      refine D_region ?_
      refine DL_c (mvI rfl) ?_
      refine DL_c (mvI rfl) ?_
      refine DL_c (op_gtr _ _ rfl rfl rfl) ?_
      refine DL_c (asB rfl) ?_
      refine DL_nil (hK18 _ ?_)
      clear hK18; try clear K18
      refine D_ret ?_
      exact ret1 (.inr rfl) rfl (.tmp (rfl : _ = AV.v (.bool _))) (Le.outI [] [] .dead rfl rfl rfl trivial ⟨⟨rfl, ⟨_, rfl, .box rfl (lv_cons (lvRr rfl rfl) lv_nil)⟩, rfl⟩, ⟨rfl, ⟨_, rfl, .rowE (by rw [hfin])⟩, rfl⟩, trivial⟩ ⟨rfl, rfl, trivial⟩ rfl)
     ·skip
      refine D_skip (hK16 _ ?_)
      clear hK16; try clear K16
      refine D_seq fun K19 hK19 => ?_
      refine D_region ?_
      refine DL_c (op_mv _ (rfl : _ = AV.ifc _ _)) ?_
      refine DL_c (mvI rfl) ?_
      refine DL_c (mvI rfl) ?_
      refine DL_c (op_callRE (fun o ho => EntersAt.invV inferInstance inferInstance inferInstance ho rfl rfl) [((0, 9), (1, 9))] ?_ (qswap_spec n z.2 hzl (by omega) z.1 (2 * z.1 + 1) (by omega) (by omega)) ⟨⟨rfl, ⟨_, rfl, .rowE rfl⟩, rfl⟩, trivial⟩ ⟨rfl, trivial⟩ (by kernel_rfl)) ?_
      ·repeat' (first | exact argsR_nil | refine argsR_cons ?_ ?_ | exact Lv.v | exact lvRr rfl rfl)
      refine DL_nil (hK19 _ ?_)
      clear hK19; try clear K19
      refine D_le (σ' := mkStI 48 [(0, _), (1, _), (2, _), (9, _)] [((0, 9), _), ((1, 9), _)] [(0, 9), (1, 9)] [(0, 9), (1, 9)]) (by
       refine Le.mkJ [] [] rfl ?_ ?_ trivial ⟨rfl, rfl, trivial⟩ ?_
       ·exact ⟨(iI rfl), (iV rfl), (iV rfl), (iV rfl), trivial⟩
       ·exact ⟨(obE rfl rfl rfl), (obE rfl rfl rfl), trivial⟩
       ·kernel_rfl) ?_
      refine D_region ?_
      refine DL_c (mvI rfl) ?_
      refine DL_c (asI rfl) ?_
      refine DL_nil ?_
      refine ⟨(2 * z.1 + 1, sw z.2 z.1 (2 * z.1 + 1)), ?_, ?_, ?_⟩
      ·exact ⟨by simp only; omega, by simp [hzl], by have h := downL_yes (L := z.2) (i := z.1) (m := m) (by omega) (by rw [hk]; omega); rw [hk] at h; exact h.symm.trans hzu⟩
      ·skip
       refine Le.mkJ [] [] rfl ?_ ?_ trivial ⟨rfl, rfl, trivial⟩ ?_
       ·exact ⟨(iI rfl), (iV rfl), (iV rfl), (lvI (by rfl)), trivial⟩
       ·exact ⟨(obE rfl rfl rfl), (obR rfl rfl rfl (by rfl)), trivial⟩
       ·kernel_rfl
      ·simp only; omega
   ·skip
    have hk : kid z.2 z.1 m = 2 * z.1 + 1 := by unfold kid; rw [if_neg (by omega)]
    refine DL_cn rfl rfl (by decide) ?_
    refine DL_cn rfl rfl (by decide) ?_
    refine DL_cn rfl rfl (by decide) ?_
    refine DL_cn rfl rfl (by decide) ?_
    refine DL_c (op_pick _ _ _ rfl (rfl : _ = AV.v (.bool _))) ?_
    refine DL_nil (hK11 _ ?_)
    clear hK11; try clear K11
    refine D_cF rfl rfl ?_
    refine D_skip (hK9 _ ?_)
    clear hK9; try clear K9
    refine D_seq fun K20 hK20 => ?_
    refine D_seq fun K21 hK21 => ?_
    refine D_region ?_
    refine DL_c (op_mv _ (rfl : _ = AV.ifc _ _)) ?_
    refine DL_c (mvI rfl) ?_
    refine DL_c (mvI rfl) ?_
    refine DL_c (op_callBHE (fun o ho => EntersAt.invV inferInstance inferInstance inferInstance ho rfl rfl) (by repeat' (first | exact argsLv_nil | refine argsLv_cons ?_ ?_ | exact Lv.v | (refine frz0 rfl rfl ?_ rfl; (simp; omega)))) (qless_spec n z.2 hzl (by omega) (2 * z.1 + 1) z.1 (by omega) (by omega)) rfl) ?_
    refine DL_c (op_not _ rfl rfl) ?_
    refine DL_nil (hK21 _ ?_)
    clear hK21; try clear K21
    refine D_splitC rfl (fun hc39 => ?_) (fun hc39 => ?_)
    ·skip
     have hfin : z.2 = downL L 0 m := by rw [← hzu, downL_no (by rw [hk]; omega)]
     refine D_exit ?_
     refine id (hK3 _ ?_)
     clear hK3; try clear K3
     refine D_seq fun K22 hK22 => ?_
     refine D_region ?_
     refine DL_c (mvI rfl) ?_
     refine DL_c (mvI rfl) ?_
     refine DL_c (op_gtr _ _ rfl rfl rfl) ?_
     refine DL_c (asB rfl) ?_
     refine DL_nil (hK22 _ ?_)
     clear hK22; try clear K22
     refine D_ret ?_
     exact ret1 (.inr rfl) rfl (.tmp (rfl : _ = AV.v (.bool _))) (Le.outI [] [] .dead rfl rfl rfl trivial ⟨⟨rfl, ⟨_, rfl, .box rfl (lv_cons (lvRr rfl rfl) lv_nil)⟩, rfl⟩, ⟨rfl, ⟨_, rfl, .rowE (by rw [hfin])⟩, rfl⟩, trivial⟩ ⟨rfl, rfl, trivial⟩ rfl)
    ·skip
     refine D_skip (hK20 _ ?_)
     clear hK20; try clear K20
     refine D_seq fun K23 hK23 => ?_
     refine D_region ?_
     refine DL_c (op_mv _ (rfl : _ = AV.ifc _ _)) ?_
     refine DL_c (mvI rfl) ?_
     refine DL_c (mvI rfl) ?_
     refine DL_c (op_callRE (fun o ho => EntersAt.invV inferInstance inferInstance inferInstance ho rfl rfl) [((0, 9), (1, 9))] ?_ (qswap_spec n z.2 hzl (by omega) z.1 (2 * z.1 + 1) (by omega) (by omega)) ⟨⟨rfl, ⟨_, rfl, .rowE rfl⟩, rfl⟩, trivial⟩ ⟨rfl, trivial⟩ (by kernel_rfl)) ?_
     ·repeat' (first | exact argsR_nil | refine argsR_cons ?_ ?_ | exact Lv.v | exact lvRr rfl rfl)
     refine DL_nil (hK23 _ ?_)
     clear hK23; try clear K23
     refine D_le (σ' := mkStI 48 [(0, _), (1, _), (2, _), (9, _)] [((0, 9), _), ((1, 9), _)] [(0, 9), (1, 9)] [(0, 9), (1, 9)]) (by
      refine Le.mkJ [] [] rfl ?_ ?_ trivial ⟨rfl, rfl, trivial⟩ ?_
      ·exact ⟨(iI rfl), (iV rfl), (iV rfl), (iV rfl), trivial⟩
      ·exact ⟨(obE rfl rfl rfl), (obE rfl rfl rfl), trivial⟩
      ·kernel_rfl) ?_
     refine D_region ?_
     refine DL_c (mvI rfl) ?_
     refine DL_c (asI rfl) ?_
     refine DL_nil ?_
     refine ⟨(2 * z.1 + 1, sw z.2 z.1 (2 * z.1 + 1)), ?_, ?_, ?_⟩
     ·exact ⟨by simp only; omega, by simp [hzl], by have h := downL_yes (L := z.2) (i := z.1) (m := m) (by omega) (by rw [hk]; omega); rw [hk] at h; exact h.symm.trans hzu⟩
     ·skip
      refine Le.mkJ [] [] rfl ?_ ?_ trivial ⟨rfl, rfl, trivial⟩ ?_
      ·exact ⟨(iI rfl), (iV rfl), (iV rfl), (lvI (by rfl)), trivial⟩
      ·exact ⟨(obE rfl rfl rfl), (obR rfl rfl rfl (by rfl)), trivial⟩
      ·kernel_rfl
     ·simp only; omega
theorem heapPush_spec (n : Nat) (L : List Int) (hL : L.length = n) (h1 : n ≤ 1000000) (x : Int) :
  Spec Try.prog 92 (inStI [.ifc 116 (.ptr (0, 9) 0), .ifc 3 (.v (.int .i64 x))] (qO n L)) (outStI (.tup []) [((0, 9), .box 117 [.ref (1, 8) 0 (n + 1)]), ((1, 8), .row 3 1 (isl (hpush L x)))] [(0, 9), (1, 8)] [(0, 9)]) := by
 refine Spec.ofNI Try.func92 rfl Try.ntmps92 rfl ?_
 refine D_seq fun K1 hK1 => ?_
 refine D_region ?_
 refine DL_c (op_mv _ (rfl : _ = AV.ifc _ _)) ?_
 refine DL_c (op_mv _ (rfl : _ = AV.ifc _ _)) ?_
 refine DL_c (op_callRE (fun o ho => EntersAt.invP inferInstance ho rfl) [((1, 8), (50, 0))] ?_ (qpush_spec n L hL h1 x) ⟨⟨rfl, ⟨_, rfl, .box rfl (lv_cons (lvRr rfl rfl) lv_nil)⟩, rfl⟩, ⟨rfl, ⟨_, rfl, .rowE rfl⟩, rfl⟩, trivial⟩ ⟨rfl, rfl, trivial⟩ (by kernel_rfl)) ?_
 ·repeat' (first | exact argsR_nil | refine argsR_cons ?_ ?_ | exact Lv.v | exact lvPr rfl | refine Lv.ifc ?_)
 refine DL_nil (hK1 _ ?_)
 clear hK1; try clear K1
 refine D_region ?_
 refine DL_c (op_mv _ (rfl : _ = AV.ifc _ _)) ?_
 refine DL_c (op_mv _ (rfl : _ = AV.ifc _ _)) ?_
 refine DL_c (op_callRE (fun o ho => EntersAt.invP inferInstance ho rfl) [((1, 9), (50, 0))] ?_ (qlen_spec (n + 1) (L ++ [x])) ⟨⟨rfl, ⟨_, rfl, .box rfl (lv_cons (lvRr rfl rfl) lv_nil)⟩, rfl⟩, ⟨rfl, ⟨_, rfl, .rowE rfl⟩, rfl⟩, trivial⟩ ⟨rfl, rfl, trivial⟩ (by kernel_rfl)) ?_
 ·repeat' (first | exact argsR_nil | refine argsR_cons ?_ ?_ | exact lvPr rfl)
 refine DL_c (op_sub _ _ rfl rfl (i64w (by omega))) ?_
 refine DL_c (op_callR inferInstance [((1, 9), (50, 0))] ?_ (heapUp_spec (n + 1) (L ++ [x]) (by simp [hL]) (by omega) n (by omega)) ⟨⟨rfl, ⟨_, rfl, .box rfl (lv_cons (lvRr rfl rfl) lv_nil)⟩, rfl⟩, ⟨rfl, ⟨_, rfl, .rowE rfl⟩, rfl⟩, trivial⟩ ⟨rfl, rfl, trivial⟩ (by kernel_rfl)) ?_
 ·repeat' (first | exact argsR_nil | refine argsR_cons ?_ ?_ | exact lvI (by omega) | exact lvPr rfl | refine Lv.ifc ?_)
 refine DL_nil ?_
 exact ret0 (.inl rfl) rfl (Le.outI [((1, 8), (50, 0))] [] (.tup rfl lv_nil) rfl rfl rfl trivial ⟨⟨rfl, ⟨_, rfl, .box rfl (lv_cons (lvRr rfl rfl) lv_nil)⟩, rfl⟩, ⟨rfl, ⟨_, rfl, .rowE (by rw [hpush, hL])⟩, rfl⟩, trivial⟩ ⟨rfl, trivial⟩ rfl)
theorem heapPop_spec (n : Nat) (L : List Int) (hL : L.length = n) (h1 : n ≤ 1000000) (h0 : 0 < n) (hh : HP n L) :
  Spec Try.prog 94 (inStI [.ifc 116 (.ptr (0, 9) 0)] (qO n L)) (outStI (.ifc 3 (.v (.int .i64 (L.getD 0 0)))) (qO (n - 1) (hpop L)) [(0, 9), (1, 9)] [(0, 9), (1, 9)]) := by
 subst hL
 obtain ⟨hp1, hp2, hp3, hp4⟩ := hpop_ok hh h0
 have hdl : (downL (sw L 0 (L.length - 1)) 0 (L.length - 1)).length = L.length := by rw [downL_len _ 0 rfl, sw_len]
 refine Spec.ofNI Try.func94 rfl Try.ntmps94 rfl ?_
 refine D_seq fun K1 hK1 => ?_
 refine D_region ?_
 refine DL_c (op_as _ (rfl : _ = AV.v _)) ?_
 refine DL_nil (hK1 _ ?_)
 clear hK1; try clear K1
 refine D_seq fun K2 hK2 => ?_
 refine D_region ?_
 refine DL_c (op_mv _ (rfl : _ = AV.ifc _ _)) ?_
 refine DL_c (op_callRE (fun o ho => EntersAt.invP inferInstance ho rfl) [] ?_ (qlen_spec L.length L) ⟨⟨rfl, ⟨_, rfl, .box rfl (lv_cons (lvRr rfl rfl) lv_nil)⟩, rfl⟩, ⟨rfl, ⟨_, rfl, .rowE rfl⟩, rfl⟩, trivial⟩ ⟨rfl, rfl, trivial⟩ (by kernel_rfl)) ?_
 ·repeat' (first | exact argsR_nil | refine argsR_cons ?_ ?_ | exact lvPr rfl)
 refine DL_c (op_sub _ _ rfl rfl (i64w (by omega))) ?_
 refine DL_c (asI rfl) ?_
 refine DL_nil (hK2 _ ?_)
 clear hK2; try clear K2
 refine D_seq fun K3 hK3 => ?_
 refine D_region ?_
 refine DL_c (op_mv _ (rfl : _ = AV.ifc _ _)) ?_
 refine DL_c (mvI rfl) ?_
 refine DL_c (op_callRE (fun o ho => EntersAt.invV inferInstance inferInstance inferInstance ho rfl rfl) [((0, 9), (1, 9))] ?_ (qswap_spec L.length L rfl (by omega) 0 (L.length - 1) (by omega) (by omega)) ⟨⟨rfl, ⟨_, rfl, .rowE rfl⟩, rfl⟩, trivial⟩ ⟨rfl, trivial⟩ (by kernel_rfl)) ?_
 ·repeat' (first | exact argsR_nil | refine argsR_cons ?_ ?_ | exact Lv.v | exact lvI (by omega) | exact lvRr rfl rfl)
 refine DL_nil (hK3 _ ?_)
 clear hK3; try clear K3
 refine D_seq fun K4 hK4 => ?_
 refine D_region ?_
 refine DL_c (op_mv _ (rfl : _ = AV.ifc _ _)) ?_
 refine DL_c (mvI rfl) ?_
 refine DL_c (op_callR inferInstance [] ?_ (heapDown_spec L.length (sw L 0 (L.length - 1)) (by simp) (by omega) (L.length - 1) (by omega)) ⟨⟨rfl, ⟨_, rfl, .box rfl (lv_cons (lvRr rfl rfl) lv_nil)⟩, rfl⟩, ⟨rfl, ⟨_, rfl, .rowE rfl⟩, rfl⟩, trivial⟩ ⟨rfl, rfl, trivial⟩ (by kernel_rfl)) ?_
 ·repeat' (first | exact argsR_nil | refine argsR_cons ?_ ?_ | exact Lv.v | exact lvI (by omega) | exact lvPr rfl | refine Lv.ifc ?_)
 refine DL_nil (hK4 _ ?_)
 clear hK4; try clear K4
 refine D_seq fun K5 hK5 => ?_
 refine D_region ?_
 refine DL_c (op_mv _ (rfl : _ = AV.ifc _ _)) ?_
 refine DL_c (op_callRE (fun o ho => EntersAt.invP inferInstance ho rfl) [] ?_ (qpop_spec L.length (downL (sw L 0 (L.length - 1)) 0 (L.length - 1)) hdl h0 h1) ⟨⟨rfl, ⟨_, rfl, .box rfl (lv_cons (lvRr rfl rfl) lv_nil)⟩, rfl⟩, ⟨rfl, ⟨_, rfl, .rowE rfl⟩, rfl⟩, trivial⟩ ⟨rfl, rfl, trivial⟩ (by kernel_rfl)) ?_
 ·repeat' (first | exact argsR_nil | refine argsR_cons ?_ ?_ | exact lvPr rfl)
 refine DL_c (op_as _ (rfl : _ = AV.ifc _ _)) ?_
 refine DL_nil (hK5 _ ?_)
 clear hK5; try clear K5
 refine D_ret ?_
 exact ret1 (.inr rfl) rfl (.tmp (rfl : _ = AV.ifc _ _)) (Le.outI [] [] (.ifc (by rw [← hp4]; exact .v)) rfl rfl rfl trivial ⟨⟨rfl, ⟨_, rfl, .box rfl (lv_cons (lvRr rfl rfl) lv_nil)⟩, rfl⟩, ⟨rfl, ⟨_, rfl, .rowE rfl⟩, rfl⟩, trivial⟩ ⟨rfl, rfl, trivial⟩ rfl)
end Go.Proofs.Ytkbkmngbenohkaa

namespace Go.Proofs.Ytkbkmngbenohkaa
open Go.RowKit

theorem has_spec (n : Nat) (xs : List Int) (x : Int) (hn : xs.length = n) (h1 : n ≤ 4611686018427387904) :
  Spec Try.prog 42 (inSt [.sl n (isl xs), .v (.int .i64 x)] []) (outSt (.v (.bool (decide (x ∈ xs)))) []) := by
 subst hn
 refine Spec.ofN Try.func42 rfl Try.ntmps42 rfl ?_
 refine D_seq fun K1 hK1 => ?_
 refine D_region ?_
 refine DL_c (asB rfl) ?_
 refine DL_nil (hK1 _ ?_)
 clear hK1; try clear K1
 refine D_seq fun K2 hK2 => ?_
 refine D_seq fun K3 hK3 => ?_
 refine D_region ?_
 refine DL_c (asI rfl) ?_
 refine DL_nil (hK3 _ ?_)
 clear hK3; try clear K3
 refine D_block ?_
 refine D_loopL (α := Nat) (fun k => k ≤ xs.length ∧ x ∉ xs.take k) 18 [(0, _), (1, _)] [] (fun k => [(5, .v (.int .i64 (k : Int)))]) (fun k => []) [] [] (fun k => xs.length - k) 0 ?_ (by
  refine Le.mkJ [] [] rfl ?_ ?_ trivial trivial ?_
  ·exact ⟨(by exact iS rfl), (iV rfl), (lvI (by rfl)), trivial⟩
  ·exact trivial
  ·kernel_rfl) ?_
 ·exact ⟨by omega, by simp⟩
 intro k hk
 obtain ⟨hk, ht⟩ := hk
 refine D_seq fun K4 hK4 => ?_
 refine D_seq fun K5 hK5 => ?_
 refine D_region ?_
 refine DL_c (mvI rfl) ?_
 refine DL_c (mvS rfl) ?_
 refine DL_c (op_lenS _ inferInstance rfl) ?_
 refine DL_c (op_lss _ _ rfl rfl rfl) ?_
 refine DL_nil (hK5 _ ?_)
 clear hK5; try clear K5
 refine D_splitC rfl (fun hc9 => ?_) (fun hc9 => ?_)
 ·skip
  have hkx : k < xs.length := by omega
  refine D_skip (hK4 _ ?_)
  clear hK4; try clear K4
  refine D_seq fun K6 hK6 => ?_
  refine D_block ?_
  refine D_seq fun K7 hK7 => ?_
  refine D_region ?_
  refine DL_c (mvS rfl) ?_
  refine DL_c (mvI rfl) ?_
  refine DL_c (op_ixS _ _ inferInstance rfl rfl _ rfl (by omega) (by (simp only [isl_len, bsl_len, psl_len]; omega)) (by exact Nat.mul_one _)) ?_
  refine DL_c (op_ldF _ inferInstance rfl (by exact isl_get _ _ (by omega)) rfl) ?_
  refine DL_c (mvI rfl) ?_
  refine DL_c (op_eql _ _ rfl rfl rfl) ?_
  refine DL_nil (hK7 _ ?_)
  clear hK7; try clear K7
  refine D_splitC rfl (fun hc17 => ?_) (fun hc17 => ?_)
  ·skip
   refine D_seq fun K8 hK8 => ?_
   refine D_region ?_
   refine DL_c (asB rfl) ?_
   refine DL_nil (hK8 _ ?_)
   clear hK8; try clear K8
   refine D_ret ?_
   refine ret1 (.inr rfl) rfl (.tmp (rfl : _ = AV.v (.bool _))) (Le.out [] [] (lvB ?_) rfl rfl rfl trivial trivial)
   rw [getD_at _ _ _ hkx] at hc17
   exact (decide_eq_true (hc17 ▸ List.getElem_mem hkx))
  ·skip
   refine D_skip (hK6 _ ?_)
   clear hK6; try clear K6
   refine D_region ?_
   refine DL_c (mvI rfl) ?_
   refine DL_c (op_add _ _ rfl rfl (i64w (by omega))) ?_
   refine DL_c (asI rfl) ?_
   refine DL_nil ?_
   refine ⟨k + 1, ?_, ?_, ?_⟩
   ·rw [getD_at _ _ _ hkx] at hc17
    rw [List.take_succ_eq_append_getElem hkx]
    simp only [List.mem_append, List.mem_singleton, not_or]
    exact ⟨by omega, ht, fun e => hc17 e.symm⟩
   ·skip
    refine Le.mkJ [] [] rfl ?_ ?_ trivial trivial ?_
    ·exact ⟨(by exact iS rfl), (iV rfl), (lvI (by rfl)), trivial⟩
    ·exact trivial
    ·kernel_rfl
   ·omega
 ·skip
  refine D_exit ?_
  refine id (hK2 _ ?_)
  clear hK2; try clear K2
  refine D_seq fun K9 hK9 => ?_
  refine D_region ?_
  refine DL_c (asB rfl) ?_
  refine DL_nil (hK9 _ ?_)
  clear hK9; try clear K9
  refine D_ret ?_
  refine ret1 (.inr rfl) rfl (.tmp (rfl : _ = AV.v (.bool _))) (Le.out [] [] (lvB ?_) rfl rfl rfl trivial trivial)
  rw [List.take_of_length_le (by omega)] at ht
  exact decide_eq_false ht

theorem u64_of {n : Nat} (h : n < 18446744073709551616) : BitVec.ofInt 64 (n : Int) = BitVec.ofNat 64 n := by
 rw [BitVec.ofInt_natCast]
theorem u64_and (a b : Nat) (ha : a < 18446744073709551616) (hb : b < 18446744073709551616) : IntKind.u64.wrap (BitVec.ofInt IntKind.u64.bits (a : Int) &&& BitVec.ofInt IntKind.u64.bits (b : Int)).toNat = ((a &&& b : Nat) : Int) := by
 show IntKind.u64.wrap (BitVec.ofInt 64 (a : Int) &&& BitVec.ofInt 64 (b : Int)).toNat = _
 rw [u64_of ha, u64_of hb]
 have h : (BitVec.ofNat 64 a &&& BitVec.ofNat 64 b).toNat = a &&& b := by
  rw [BitVec.toNat_and, BitVec.toNat_ofNat, BitVec.toNat_ofNat, Nat.mod_eq_of_lt (by omega), Nat.mod_eq_of_lt (by omega)]
 rw [h, u64w]
 have := Nat.and_le_left (n := a) (m := b)
 omega
theorem u64_or (a b : Nat) (ha : a < 18446744073709551616) (hb : b < 18446744073709551616) : IntKind.u64.wrap (BitVec.ofInt IntKind.u64.bits (a : Int) ||| BitVec.ofInt IntKind.u64.bits (b : Int)).toNat = ((a ||| b : Nat) : Int) := by
 show IntKind.u64.wrap (BitVec.ofInt 64 (a : Int) ||| BitVec.ofInt 64 (b : Int)).toNat = _
 rw [u64_of ha, u64_of hb]
 have h : (BitVec.ofNat 64 a ||| BitVec.ofNat 64 b).toNat = a ||| b := by
  rw [BitVec.toNat_or, BitVec.toNat_ofNat, BitVec.toNat_ofNat, Nat.mod_eq_of_lt (by omega), Nat.mod_eq_of_lt (by omega)]
 rw [h, u64w]
 have := Nat.or_lt_two_pow (x := a) (y := b) (n := 64) (by omega) (by omega)
 omega
theorem u64_shr (a i : Nat) (ha : a < 18446744073709551616) (hi : i < 64) : (a : Int).fdiv (2 ^ min (i : Int).toNat IntKind.u64.bits) = ((a >>> i : Nat) : Int) := by
 have : min (i : Int).toNat IntKind.u64.bits = i := by show min _ 64 = i; rw [Int.toNat_natCast]; omega
 rw [this, Nat.shiftRight_eq_div_pow, Int.fdiv_eq_ediv_of_nonneg _ (by exact Int.le_of_lt (Int.pow_pos (by decide)))]
 simp
theorem u64_shl (i : Nat) (hi : i < 64) : IntKind.u64.wrap (1 * 2 ^ min (i : Int).toNat IntKind.u64.bits) = ((2 ^ i : Nat) : Int) := by
 have : min (i : Int).toNat IntKind.u64.bits = i := by show min _ 64 = i; rw [Int.toNat_natCast]; omega
 rw [this, u64w]
 ·simp
 ·have h := Nat.pow_lt_pow_right (a := 2) (n := 64) (by omega) hi
  have h' : (1 : Int) * 2 ^ i = ((2 ^ i : Nat) : Int) := by simp
  rw [h']
  generalize 2 ^ i = q at *
  omega
theorem bit_lt (i : Nat) (hi : i < 64) : 2 ^ i < 18446744073709551616 := Nat.pow_lt_pow_right (a := 2) (n := 64) (by omega) hi
theorem shr_le (a i : Nat) : a >>> i ≤ a := by rw [Nat.shiftRight_eq_div_pow]; exact Nat.div_le_self _ _
theorem and_one (a : Nat) (i : Nat) : (((a >>> i &&& 1 : Nat) : Int) == 1) = a.testBit i := by
 rw [Nat.testBit, Nat.and_comm]
 have : 1 &&& (a >>> i) < 2 := by have := Nat.and_le_left (n := 1) (m := a >>> i); omega
 generalize 1 &&& (a >>> i) = b at *
 match b, this with
 | 0, _ => rfl
 | 1, _ => rfl
theorem u64_has (w i : Nat) (hw : w < 18446744073709551616) (hi : i < 64) : (IntKind.u64.wrap (BitVec.ofInt IntKind.u64.bits ((w : Int).fdiv (2 ^ min (i : Int).toNat IntKind.u64.bits)) &&& BitVec.ofInt IntKind.u64.bits 1).toNat == 1) = w.testBit i := by
 rw [u64_shr w i hw hi]
 have := u64_and (w >>> i) 1 (by have := shr_le w i; omega) (by omega)
 rw [show ((1 : Nat) : Int) = 1 from rfl] at this
 rw [this]
 exact and_one w i

def ul (l : List Nat) : List PV := l.map fun (x : Nat) => .v (.int .u64 (x : Int))
@[simp] theorem ul_len (l : List Nat) : (ul l).length = l.length := by simp [ul]
theorem ul_get (l : List Nat) (k : Nat) (h : k < l.length) : (ul l)[k]? = some (.v (.int .u64 ((l.getD k 0 : Nat) : Int))) := by simp [ul, h]
def ws (l : List Nat) : List PV := l.map fun w => .sl 1 (ul [w])
@[simp] theorem ws_len (l : List Nat) : (ws l).length = l.length := by simp [ws]
def ord (n : Nat) (ab : List Nat) : List PV := [.v (.int .i64 (n : Int)), .sl ab.length (ws ab)]
structure Words (n : Nat) (ab : List Nat) : Prop where
 len : ab.length = n
 le : n ≤ 64
 lt : ∀ w ∈ ab, w < 18446744073709551616
theorem Words.at {n : Nat} {ab : List Nat} (h : Words n ab) (i : Nat) : ab.getD i 0 < 18446744073709551616 := by
 by_cases hi : i < ab.length
 ·rw [getD_at _ _ _ hi]; exact h.lt _ (List.getElem_mem hi)
 ·rw [List.getD_eq_getElem?_getD, List.getElem?_eq_none (by omega)]; decide
end Go.Proofs.Ytkbkmngbenohkaa

namespace Go.Proofs.Ytkbkmngbenohkaa
open Go.RowKit
instance ar38 : Arr Try.prog 38 2 1 := Arr.of Try.underlying38 (by kernel_rfl)
instance ar187 : Arr Try.prog 187 0 1 := Arr.of Try.underlying187 (by kernel_rfl)
end Go.Proofs.Ytkbkmngbenohkaa

namespace Go.Proofs.Ytkbkmngbenohkaa
open Go.RowKit

abbrev Lt := Nat → Nat → Bool
def cnt (n : Nat) (lt : Lt) (b : Nat) : Nat := ((List.range n).filter fun a => lt a b).length
end Go.Proofs.Ytkbkmngbenohkaa

namespace Go.Proofs.Ytkbkmngbenohkaa
open Go.RowKit

def mrows (M : List (List Bool)) : List PV := M.map fun r => .sl r.length (bsl r)
@[simp] theorem mrows_len (M : List (List Bool)) : (mrows M).length = M.length := by simp [mrows]
def mlt (M : List (List Bool)) : Lt := fun i j => (M.getD i []).getD j false
end Go.Proofs.Ytkbkmngbenohkaa

namespace Go.Proofs.Ytkbkmngbenohkaa
open Go.RowKit

structure Spo (n : Nat) (lt : Lt) : Prop where
 irr : ∀ a, a < n → lt a a = false
 tr : ∀ a b c, a < n → b < n → c < n → lt a b = true → lt b c = true → lt a c = true

def isfree (n : Nat) (lt : Lt) (out : List Nat) (a : Nat) : Bool := !out.contains a && (List.range n).all fun b => !lt b a || out.contains b
def nextf (n : Nat) (lt : Lt) (out : List Nat) : Nat := ((List.range n).find? (isfree n lt out)).getD 0
def lin (n : Nat) (lt : Lt) : Nat → List Nat
 | 0 => []
 | k + 1 => lin n lt k ++ [nextf n lt (lin n lt k)]
@[simp] theorem lin_len (n : Nat) (lt : Lt) : ∀ k, (lin n lt k).length = k
 | 0 => rfl
 | k + 1 => by simp [lin, lin_len n lt k]

theorem pigeon : ∀ (n : Nat) (l : List Nat), (∀ a, a < n → a ∈ l) → n ≤ l.length
 | 0, _, _ => Nat.zero_le _
 | n + 1, l, h => by
  have h1 := pigeon n (l.erase n) fun a ha => (List.mem_erase_of_ne (by omega)).2 (h a (by omega))
  rw [List.length_erase_of_mem (h n (by omega))] at h1
  have : 0 < l.length := List.length_pos_of_mem (h n (by omega))
  omega
theorem filter_lt {p q : Nat → Bool} (y : Nat) (hp : p y = false) (hq : q y = true) : ∀ {l : List Nat}, (∀ x ∈ l, p x = true → q x = true) → y ∈ l → (l.filter p).length < (l.filter q).length
 | [], _, h => by simp at h
 | x :: l, hm, h => by
  have hle : ∀ {l : List Nat}, (∀ x ∈ l, p x = true → q x = true) → (l.filter p).length ≤ (l.filter q).length := by
   intro l
   induction l with
   | nil => intro _; simp
   | cons z l ih =>
    intro hm
    have := ih fun x hx => hm x (List.mem_cons_of_mem _ hx)
    have hz := hm z List.mem_cons_self
    cases hpz : p z <;> cases hqz : q z <;> simp [hpz, hqz] at hz ⊢ <;> omega
  have hm' : ∀ z ∈ l, p z = true → q z = true := fun z hz => hm z (List.mem_cons_of_mem _ hz)
  by_cases hxy : x = y
  ·subst hxy
   have := hle hm'
   simp [hp, hq]; omega
  ·have := filter_lt y hp hq hm' ((List.mem_cons.1 h).resolve_left (Ne.symm hxy))
   have hx := hm x List.mem_cons_self
   cases hpx : p x <;> cases hqx : q x <;> simp [hpx, hqx] at hx ⊢ <;> omega
theorem cnt_lt {n : Nat} {lt : Lt} (hS : Spo n lt) {a b : Nat} (ha : a < n) (hb : b < n) (h : lt b a = true) : cnt n lt b < cnt n lt a :=
 filter_lt (p := fun x => lt x b) (q := fun x => lt x a) b (hS.irr b hb) h (fun x hx hxb => hS.tr x b a (List.mem_range.1 hx) hb ha hxb h) (List.mem_range.2 hb)
theorem free_ex {n : Nat} {lt : Lt} (hS : Spo n lt) (out : List Nat) (h : out.length < n) : ∃ a, a < n ∧ isfree n lt out a = true := by
 have h0 : ∃ a, a < n ∧ a ∉ out := by
  apply Classical.byContradiction
  intro hn
  have := pigeon n out fun a ha => Classical.byContradiction fun h => hn ⟨a, ha, h⟩
  omega
 obtain ⟨a, ha, hno⟩ := h0
 generalize hm : cnt n lt a = m
 induction m using Nat.strongRecOn generalizing a with
 | _ m ih =>
  by_cases hb : ∃ b, b < n ∧ lt b a = true ∧ b ∉ out
  ·obtain ⟨b, h1, h2, h3⟩ := hb
   exact ih _ (hm ▸ cnt_lt hS ha h1 h2) b h1 h3 rfl
  ·refine ⟨a, ha, ?_⟩
   simp only [isfree, Bool.and_eq_true, Bool.not_eq_true', List.all_eq_true, Bool.or_eq_true, List.contains_iff_mem]
   refine ⟨by simpa using hno, fun b hbn => ?_⟩
   have hbn := List.mem_range.1 hbn
   cases hl : lt b a with
   | false => exact .inl rfl
   | true =>
    right
    exact Classical.byContradiction fun h => hb ⟨b, hbn, hl, h⟩
def nsl (l : List Nat) : List PV := isl (l.map fun (x : Nat) => (x : Int))
@[simp] theorem nsl_len (l : List Nat) : (nsl l).length = l.length := by simp [nsl]
theorem nsl_get (l : List Nat) (k : Nat) (h : k < l.length) : (nsl l)[k]? = some (.v (.int .i64 ((l.getD k 0 : Nat) : Int))) := by simp [nsl, isl, h]
theorem nsl_append (a b : List Nat) : nsl a ++ nsl b = nsl (a ++ b) := by simp [nsl, isl]
theorem nsl_put (l : List Nat) (k : Nat) (x : Int) (h : k < l.length) (hx : 0 ≤ x) : nsl (l.set k x.toNat) = putL (nsl l) k [.v (.int .i64 x)] := by
 rw [nsl, nsl, isl_put _ _ _ (by simpa using h), List.map_set, Int.toNat_of_nonneg hx]
end Go.Proofs.Ytkbkmngbenohkaa

namespace Go.Proofs.Ytkbkmngbenohkaa
open Go.RowKit

theorem all_succ {p : Nat → Prop} {i : Nat} (h : ∀ j, j < i → p j) (h2 : p i) : ∀ j, j < i + 1 → p j := by
 intro j hj
 rcases Nat.lt_or_ge j i with h3 | h3
 ·exact h j h3
 ·obtain rfl : j = i := by omega
  exact h2
end Go.Proofs.Ytkbkmngbenohkaa

namespace Go.Proofs.Ytkbkmngbenohkaa
open Go.RowKit

def firstI (p : Int → Bool) : List Int → Int
 | [] => -1
 | x :: l => if p x = true then 0 else (let r := firstI p l; if r < 0 then -1 else r + 1)
theorem firstI_none {p : Int → Bool} : ∀ {l : List Int}, (∀ i, i < l.length → p (l.getD i 0) = false) → firstI p l = -1
 | [], _ => rfl
 | x :: l, h => by
  have h0 : p x = false := h 0 (by simp)
  have h1 : firstI p l = -1 := firstI_none fun i hi => by simpa using h (i + 1) (by simpa using hi)
  simp [firstI, h0, h1]
theorem firstI_at {p : Int → Bool} : ∀ {l : List Int} {i : Nat}, i < l.length → (∀ j, j < i → p (l.getD j 0) = false) → p (l.getD i 0) = true → firstI p l = (i : Int)
 | [], i, h, _, _ => by simp at h
 | x :: l, 0, _, _, h => by
  have : p x = true := by simpa using h
  simp [firstI, this]
 | x :: l, i + 1, h, hn, hy => by
  have h0 : p x = false := by simpa using hn 0 (by omega)
  have h1 : firstI p l = (i : Int) := firstI_at (by simpa using h) (fun j hj => by simpa using hn (j + 1) (by omega)) (by simpa using hy)
  simp only [firstI, h0, h1]
  rw [if_neg (by decide), if_neg (by omega)]; omega
theorem firstI_any {p : Int → Bool} : ∀ {l : List Int}, decide (0 ≤ firstI p l) = l.any p
 | [] => by simp [firstI]
 | x :: l => by
  have ih := firstI_any (p := p) (l := l)
  rw [List.any_cons, ← ih]
  cases h : p x
  ·simp only [firstI, h]
   by_cases h2 : firstI p l < 0
   ·have h3 : ¬ 0 ≤ firstI p l := by omega
    simp [h2, h3]
   ·have h3 : 0 ≤ firstI p l := by omega
    simp [h2, h3]; omega
  ·simp [firstI, h]
theorem indexf_spec (f : FuncId) (C : Cbl Try.prog f) (caps : List AV) (hcp : AV.pures caps = true) (hcw : ∀ ids, AV.withins ids caps = true) (n : Nat) (xs : List Int) (hn : xs.length = n) (h1 : n ≤ 4611686018427387904) (p : Int → Bool)
  (hp : ∀ i, i < xs.length → Spec Try.prog f (inSt (.v (.int .i64 (xs.getD i 0)) :: caps) []) (outSt (.v (.bool (p (xs.getD i 0)))) [])) :
  Spec Try.prog 120 (inSt [.sl n (isl xs), .fn (.func f) [] caps] []) (outSt (.v (.int .i64 (firstI p xs))) []) := by
 refine Spec.ofN Try.func120 rfl Try.ntmps120 rfl ?_
 refine D_seq fun K1 hK1 => ?_
 refine D_region ?_
 refine DL_c (asI rfl) ?_
 refine DL_nil (hK1 _ ?_)
 clear hK1; try clear K1
 refine D_seq fun K2 hK2 => ?_
 refine D_seq fun K3 hK3 => ?_
 refine D_region ?_
 refine DL_c (mvS rfl) ?_
 refine DL_c (op_lenS _ inferInstance rfl) ?_
 refine DL_c (mvI rfl) ?_
 refine DL_nil (hK3 _ ?_)
 clear hK3; try clear K3
 refine D_block ?_
 refine D_loopL (α := Nat) (fun i => i ≤ n ∧ ∀ j, j < i → p (xs.getD j 0) = false) 19 [(0, _), (1, _), (7, _)] [] (fun i => [(8, .v (.int .i64 (i : Int)))]) (fun i => []) [] [] (fun i => n - i) 0 ?_ (by
  refine Le.mkJ [] [] rfl ?_ ?_ trivial trivial ?_
  ·exact ⟨(iS rfl), (by exact iN rfl), (iV rfl), (lvI (by rfl)), trivial⟩
  ·exact trivial
  ·simp [slotsWithin, AV.within, AV.withins, obsWithin, hcw, nodupO, subO]) ?_
 ·exact ⟨by omega, fun j hj => by omega⟩
 intro i hi
 obtain ⟨hi, hno⟩ := hi
 refine D_seq fun K4 hK4 => ?_
 refine D_region ?_
 refine DL_c (op_lss _ _ rfl rfl rfl) ?_
 refine DL_nil (hK4 _ ?_)
 clear hK4; try clear K4
 refine D_seq fun K5 hK5 => ?_
 refine D_splitC rfl (fun hc9 => ?_) (fun hc9 => ?_)
 ·skip
  refine D_skip (hK5 _ ?_)
  clear hK5; try clear K5
  refine D_seq fun K6 hK6 => ?_
  refine D_block ?_
  refine D_seq fun K7 hK7 => ?_
  refine D_region ?_
  refine DL_c (mvI rfl) ?_
  refine DL_c (asI rfl) ?_
  refine DL_nil (hK7 _ ?_)
  clear hK7; try clear K7
  refine D_seq fun K8 hK8 => ?_
  refine D_region ?_
  refine DL_c (op_mv _ (rfl : _ = AV.fn _ _ _)) ?_
  refine DL_c (mvS rfl) ?_
  refine DL_c (mvI rfl) ?_
  refine DL_c (op_ixS _ _ inferInstance rfl rfl _ rfl (by omega) (by (simp only [isl_len, bsl_len, psl_len, mrows_len, nsl_len, ws_len]; omega)) (by exact Nat.mul_one _)) ?_
  refine DL_c (op_ldF _ inferInstance rfl (by exact isl_get _ _ (by omega)) rfl) ?_
  refine DL_c (op_callHV (first := []) (caps := caps) rfl C (argsLv_cons .v (argsLv_pures caps hcp)) (hp i (by omega)) (by simp [AV.pures, AV.pure, hcp]) rfl) ?_
  refine DL_nil (hK8 _ ?_)
  clear hK8; try clear K8
  refine D_splitC rfl (fun hc16 => ?_) (fun hc16 => ?_)
  ·skip
   refine D_seq fun K9 hK9 => ?_
   refine D_region ?_
   refine DL_c (mvI rfl) ?_
   refine DL_c (asI rfl) ?_
   refine DL_nil (hK9 _ ?_)
   clear hK9; try clear K9
   refine D_ret ?_
   refine ret1 (.inr rfl) rfl (.tmp (rfl : _ = AV.v (.int _ _))) (Le.out [] [] (lvI ?_) rfl rfl rfl trivial trivial)
   exact firstI_at (by omega) hno hc16
  ·skip
   refine D_skip (hK6 _ ?_)
   clear hK6; try clear K6
   refine D_region ?_
   refine DL_c (op_add _ _ rfl rfl (i64w (by omega))) ?_
   refine DL_c (mvI rfl) ?_
   refine DL_nil ?_
   refine ⟨i + 1, ?_, ?_, ?_⟩
   ·exact ⟨by omega, all_succ hno hc16⟩
   ·skip
    refine Le.mkJ [] [] rfl ?_ ?_ trivial trivial ?_
    ·exact ⟨(iS rfl), (by exact iN rfl), (iV rfl), (lvI (by rfl)), trivial⟩
    ·exact trivial
    ·simp [slotsWithin, AV.within, AV.withins, obsWithin, hcw, nodupO, subO]
   ·omega
 ·skip
  refine D_exit ?_
  refine id (hK2 _ ?_)
  clear hK2; try clear K2
  refine D_seq fun K10 hK10 => ?_
  refine D_region ?_
  refine DL_c (asI rfl) ?_
  refine DL_nil (hK10 _ ?_)
  clear hK10; try clear K10
  refine D_ret ?_
  refine ret1 (.inr rfl) rfl (.tmp (rfl : _ = AV.v (.int _ _))) (Le.out [] [] (lvI ?_) rfl rfl rfl trivial trivial)
  exact firstI_none fun j hj => hno j (by omega)
theorem containsf_spec (f : FuncId) (C : Cbl Try.prog f) (caps : List AV) (hcp : AV.pures caps = true) (hcw : ∀ ids, AV.withins ids caps = true) (n : Nat) (xs : List Int) (hn : xs.length = n) (h1 : n ≤ 4611686018427387904) (p : Int → Bool)
  (hp : ∀ i, i < xs.length → Spec Try.prog f (inSt (.v (.int .i64 (xs.getD i 0)) :: caps) []) (outSt (.v (.bool (p (xs.getD i 0)))) [])) :
  Spec Try.prog 85 (inSt [.sl n (isl xs), .fn (.func f) [] caps] []) (outSt (.v (.bool (xs.any p))) []) := by
 refine Spec.ofN Try.func85 rfl Try.ntmps85 rfl ?_
 refine D_seq fun K1 hK1 => ?_
 refine D_region ?_
 refine DL_c (asB rfl) ?_
 refine DL_nil (hK1 _ ?_)
 clear hK1; try clear K1
 refine D_seq fun K2 hK2 => ?_
 refine D_region ?_
 refine DL_c (mvS rfl) ?_
 refine DL_c (op_mv _ (rfl : _ = AV.fn _ _ _)) ?_
 refine DL_c (op_callH inferInstance (argsLv_pures [.sl n (isl xs), .fn (.func f) [] caps] (by simp [AV.pures, AV.pure, hcp])) (indexf_spec f C caps hcp hcw n xs hn h1 p hp) (by simp [AV.pures, AV.pure, hcp]) rfl) ?_
 refine DL_c (op_geq _ _ rfl rfl rfl) ?_
 refine DL_c (asB rfl) ?_
 refine DL_nil (hK2 _ ?_)
 clear hK2; try clear K2
 refine D_ret ?_
 refine ret1 (.inr rfl) rfl (.tmp (rfl : _ = AV.v (.bool _))) (Le.out [] [] (lvB ?_) rfl rfl rfl trivial trivial)
 exact firstI_any.symm

end Go.Proofs.Ytkbkmngbenohkaa

namespace Go.Proofs.Ytkbkmngbenohkaa
open Go.RowKit

abbrev Prs := List (Int × Int)
inductive Clo (E : Prs) : Nat → Nat → Prop where
 | one {a b : Nat} (h : ((a : Int), (b : Int)) ∈ E) : Clo E a b
 | more {a b c : Nat} (h : ((a : Int), (b : Int)) ∈ E) (hc : Clo E b c) : Clo E a c
theorem Clo.trans {E : Prs} {a b c : Nat} (h : Clo E a b) (h2 : Clo E b c) : Clo E a c := by
 induction h with
 | one h => exact .more h h2
 | more h _ ih => exact .more h (ih h2)
noncomputable def cl (E : Prs) : Lt := fun a b => @decide (Clo E a b) (Classical.propDecidable _)
theorem cl_iff {E : Prs} {a b : Nat} : cl E a b = true ↔ Clo E a b := by unfold cl; exact @decide_eq_true_iff _ (Classical.propDecidable _)
def inE (n : Nat) (E : Prs) : Bool := E.all fun p => decide (0 ≤ p.1) && decide (p.1 < (n : Int)) && decide (0 ≤ p.2) && decide (p.2 < (n : Int))
theorem inE_mem {n : Nat} {E : Prs} (h : inE n E = true) {p : Int × Int} (hp : p ∈ E) : 0 ≤ p.1 ∧ p.1 < (n : Int) ∧ 0 ≤ p.2 ∧ p.2 < (n : Int) := by
 have := List.all_eq_true.1 h p hp
 simp only [Bool.and_eq_true, decide_eq_true_eq] at this
 omega
theorem inE_at {n : Nat} {E : Prs} (h : inE n E = true) {i : Nat} (hi : i < E.length) : 0 ≤ (E.getD i (0, 0)).1 ∧ (E.getD i (0, 0)).1 < (n : Int) ∧ 0 ≤ (E.getD i (0, 0)).2 ∧ (E.getD i (0, 0)).2 < (n : Int) := by
 refine inE_mem h ?_
 rw [List.getD_eq_getElem?_getD, List.getElem?_eq_getElem hi]; exact List.getElem_mem hi
theorem Clo.lt {n : Nat} {E : Prs} (hE : inE n E = true) {a b : Nat} (h : Clo E a b) : a < n ∧ b < n := by
 induction h with
 | one h => have := inE_mem hE h; simp only at this; omega
 | more h _ ih => have := inE_mem hE h; simp only at this; omega

inductive Pth (E : Prs) (c : Nat) : Nat → Nat → Prop where
 | one {a b : Nat} (h : ((a : Int), (b : Int)) ∈ E) : Pth E c a b
 | via {a b : Nat} (k : Nat) (hk : k < c) (h : Pth E c a k) (h2 : Pth E c k b) : Pth E c a b
theorem Pth.clo {E : Prs} {c a b : Nat} (h : Pth E c a b) : Clo E a b := by
 induction h with
 | one h => exact .one h
 | via _ _ _ _ ih ih2 => exact ih.trans ih2
theorem Clo.pth {n : Nat} {E : Prs} (hE : inE n E = true) {a b : Nat} (h : Clo E a b) : Pth E n a b := by
 induction h with
 | one h => exact .one h
 | more h hc ih => exact .via _ (hc.lt hE).1 (.one h) ih
theorem Pth.zero {E : Prs} {a b : Nat} (h : Pth E 0 a b) : ((a : Int), (b : Int)) ∈ E := by
 cases h with
 | one h => exact h
 | via k hk => omega
theorem Pth.split {E : Prs} {c a b : Nat} (h : Pth E (c + 1) a b) : Pth E c a b ∨ (Pth E c a c ∧ Pth E c c b) := by
 induction h with
 | one h => exact .inl (.one h)
 | via k hk _ _ ih ih2 =>
  by_cases hkc : k = c
  ·subst hkc
   right
   refine ⟨?_, ?_⟩
   ·rcases ih with h | ⟨h, _⟩ <;> exact h
   ·rcases ih2 with h | ⟨_, h⟩ <;> exact h
  ·have hk' : k < c := by omega
   rcases ih with h | ⟨h, h'⟩ <;> rcases ih2 with g | ⟨g, g'⟩
   ·exact .inl (.via k hk' h g)
   ·exact .inr ⟨.via k hk' h g, g'⟩
   ·exact .inr ⟨h, .via k hk' h' g⟩
   ·exact .inr ⟨h, g'⟩

structure Mt (n : Nat) (M : List (List Bool)) : Prop where
 len : M.length = n
 row : ∀ i, i < n → (M.getD i []).length = n
def mset (M : List (List Bool)) (a b : Nat) : List (List Bool) := M.set a ((M.getD a []).set b true)
theorem getD_set {α : Type} (l : List α) (i j : Nat) (x d : α) : (l.set i x).getD j d = if j = i ∧ i < l.length then x else l.getD j d := by
 simp only [List.getD_eq_getElem?_getD, List.getElem?_set]
 by_cases h : i = j
 ·subst h
  by_cases h2 : i < l.length
  ·simp [h2]
  ·simp [h2]
 ·simp [h, Ne.symm h]
theorem Mt.set {n : Nat} {M : List (List Bool)} (h : Mt n M) {a b : Nat} (ha : a < n) (hb : b < n) : Mt n (mset M a b) := by
 refine ⟨by simp [mset, h.len], fun i hi => ?_⟩
 unfold mset
 rw [getD_set]
 split
 ·rw [List.length_set]; exact h.row a ha
 ·exact h.row i hi
theorem mset_lt {n : Nat} {M : List (List Bool)} (h : Mt n M) {a b x y : Nat} (ha : a < n) (hb : b < n) : mlt (mset M a b) x y = ((decide (x = a) && decide (y = b)) || mlt M x y) := by
 unfold mlt mset
 rw [getD_set]
 by_cases hx : x = a
 ·subst hx
  rw [if_pos ⟨rfl, by rw [h.len]; exact ha⟩, getD_set]
  by_cases hy : y = b
  ·subst hy
   rw [if_pos ⟨rfl, by rw [h.row x ha]; exact hb⟩]; simp
  ·rw [if_neg (by simp [hy])]; simp [hy]
 ·rw [if_neg (by simp [hx])]; simp [hx]
def mzero (n : Nat) (k : Nat) : List (List Bool) := List.replicate k (List.replicate n false)
theorem mzero_mt (n : Nat) : Mt n (mzero n n) := ⟨by simp [mzero], fun i hi => by simp [mzero, List.getD_eq_getElem?_getD, List.getElem?_replicate, hi]⟩
theorem mzero_lt (n x y : Nat) : mlt (mzero n n) x y = false := by
 unfold mlt mzero
 simp only [List.getD_eq_getElem?_getD, List.getElem?_replicate]
 by_cases hx : x < n
 ·simp only [hx, if_true, Option.getD_some, List.getElem?_replicate]
  by_cases hy : y < n
  ·simp [hy]
  ·simp [hy]
 ·simp [hx]
structure MPr (n : Nat) (E : Prs) (i : Nat) (M : List (List Bool)) : Prop where
 mt : Mt n M
 at_ : ∀ x y, x < n → y < n → (mlt M x y = true ↔ ((x : Int), (y : Int)) ∈ E.take i)
theorem MPr.zero (n : Nat) (E : Prs) : MPr n E 0 (mzero n n) := ⟨mzero_mt n, fun x y _ _ => by rw [mzero_lt]; simp⟩
theorem MPr.succ {n : Nat} {E : Prs} {i : Nat} {M : List (List Bool)} (h : MPr n E i M) (hE : inE n E = true) (hi : i < E.length) : MPr n E (i + 1) (mset M (E.getD i (0, 0)).1.toNat (E.getD i (0, 0)).2.toNat) := by
 have hb := inE_at hE hi
 have ha1 : (E.getD i (0, 0)).1.toNat < n := by omega
 have hb1 : (E.getD i (0, 0)).2.toNat < n := by omega
 refine ⟨h.mt.set ha1 hb1, fun x y hx hy => ?_⟩
 have hg : E[i] = E.getD i (0, 0) := by simp [List.getD_eq_getElem?_getD, hi]
 rw [mset_lt h.mt ha1 hb1, List.take_add_one, List.getElem?_eq_getElem hi]
 simp only [Bool.or_eq_true, Bool.and_eq_true, decide_eq_true_eq, Option.toList_some, List.mem_append, List.mem_singleton, h.at_ x y hx hy]
 rw [hg]
 constructor
 ·rintro (⟨h1, h2⟩ | h1)
  ·right
   apply Prod.ext
   ·simp only; omega
   ·simp only; omega
  ·exact .inl h1
 ·rintro (h1 | h1)
  ·exact .inr h1
  ·left
   have h2 := congrArg Prod.fst h1
   have h3 := congrArg Prod.snd h1
   simp only at h2 h3
   omega
structure War (n : Nat) (E : Prs) (c a b : Nat) (M : List (List Bool)) : Prop where
 mt : Mt n M
 snd : ∀ x y, x < n → y < n → mlt M x y = true → Clo E x y
 cmp : ∀ x y, x < n → y < n → Pth E c x y → mlt M x y = true
 nxt : ∀ x y, x < n → y < n → (x < a ∨ x = a ∧ y < b) → Pth E (c + 1) x y → mlt M x y = true
theorem War.start {n : Nat} {E : Prs} {M : List (List Bool)} (h : MPr n E E.length M) : War n E 0 0 0 M :=
 ⟨h.mt, fun x y hx hy hm => .one (by have := (h.at_ x y hx hy).1 hm; rwa [List.take_length] at this), fun x y hx hy hp => (h.at_ x y hx hy).2 (by rw [List.take_length]; exact hp.zero), fun x y _ _ hl _ => by omega⟩
theorem War.no {n : Nat} {E : Prs} {c a b : Nat} {M : List (List Bool)} (h : War n E c a b M) (hc : c < n) (ha : a < n) (hb : b < n) (hn : (mlt M a c && mlt M c b) = false) : War n E c a (b + 1) M := by
 refine ⟨h.mt, h.snd, h.cmp, fun x y hx hy hl hp => ?_⟩
 by_cases hxy : x = a ∧ y = b
 ·obtain ⟨rfl, rfl⟩ := hxy
  rcases hp.split with h1 | ⟨h1, h2⟩
  ·exact h.cmp x y hx hy h1
  ·rw [h.cmp x c hx hc h1, h.cmp c y hc hy h2] at hn; cases hn
 ·exact h.nxt x y hx hy (by omega) hp
theorem War.yes {n : Nat} {E : Prs} {c a b : Nat} {M : List (List Bool)} (h : War n E c a b M) (hc : c < n) (ha : a < n) (hb : b < n) (hn : (mlt M a c && mlt M c b) = true) : War n E c a (b + 1) (mset M a b) := by
 rw [Bool.and_eq_true] at hn
 have key : ∀ x y, mlt M x y = true → mlt (mset M a b) x y = true := fun x y hm => by rw [mset_lt h.mt ha hb, hm]; simp
 refine ⟨h.mt.set ha hb, fun x y hx hy hm => ?_, fun x y hx hy hp => key x y (h.cmp x y hx hy hp), fun x y hx hy hl hp => ?_⟩
 ·rw [mset_lt h.mt ha hb] at hm
  simp only [Bool.or_eq_true, Bool.and_eq_true, decide_eq_true_eq] at hm
  rcases hm with ⟨rfl, rfl⟩ | hm
  ·exact (h.snd x c hx hc hn.1).trans (h.snd c y hc hy hn.2)
  ·exact h.snd x y hx hy hm
 ·by_cases hxy : x = a ∧ y = b
  ·obtain ⟨rfl, rfl⟩ := hxy
   rw [mset_lt h.mt ha hb]; simp
  ·exact key x y (h.nxt x y hx hy (by omega) hp)
theorem War.row {n : Nat} {E : Prs} {c a : Nat} {M : List (List Bool)} (h : War n E c a n M) : War n E c (a + 1) 0 M :=
 ⟨h.mt, h.snd, h.cmp, fun x y hx hy hl hp => h.nxt x y hx hy (by omega) hp⟩
noncomputable def cloM (n : Nat) (E : Prs) : List (List Bool) := (List.range n).map fun a => (List.range n).map fun b => cl E a b
theorem cloM_lt {n : Nat} {E : Prs} {a b : Nat} (ha : a < n) (hb : b < n) : mlt (cloM n E) a b = cl E a b := by
 simp [mlt, cloM, List.getD_eq_getElem?_getD, ha, hb]
theorem cloM_mt (n : Nat) (E : Prs) : Mt n (cloM n E) := ⟨by simp [cloM], fun i hi => by simp [cloM, List.getD_eq_getElem?_getD, hi]⟩
theorem Mt.ext {n : Nat} {M M' : List (List Bool)} (h : Mt n M) (h' : Mt n M') (he : ∀ x y, x < n → y < n → mlt M x y = mlt M' x y) : M = M' := by
 apply List.ext_getElem
 ·rw [h.len, h'.len]
 ·intro i h1 h2
  have hi : i < n := by rw [← h.len]; exact h1
  have e1 : M[i] = M.getD i [] := by simp [List.getD_eq_getElem?_getD, h1]
  have e2 : M'[i] = M'.getD i [] := by simp [List.getD_eq_getElem?_getD, h2]
  rw [e1, e2]
  apply List.ext_getElem
  ·rw [h.row i hi, h'.row i hi]
  ·intro j h3 h4
   have hj : j < n := by rw [← h.row i hi]; exact h3
   have := he i j hi hj
   unfold mlt at this
   rw [List.getD_eq_getElem?_getD, List.getElem?_eq_getElem h3, List.getD_eq_getElem?_getD (l := M'.getD i []), List.getElem?_eq_getElem h4] at this
   exact this
theorem War.clo {n : Nat} {E : Prs} {M : List (List Bool)} (h : War n E n 0 0 M) (hE : inE n E = true) : M = cloM n E := by
 refine h.mt.ext (cloM_mt n E) fun x y hx hy => ?_
 rw [cloM_lt hx hy, Bool.eq_iff_iff, cl_iff]
 exact ⟨h.snd x y hx hy, fun hc => h.cmp x y hx hy (hc.pth hE)⟩
end Go.Proofs.Ytkbkmngbenohkaa

namespace Go.Proofs.Ytkbkmngbenohkaa
open Go.RowKit

@[simp] theorem mzero_len (n k : Nat) : (mzero n k).length = k := by simp [mzero]
end Go.Proofs.Ytkbkmngbenohkaa

namespace Go.Proofs.Ytkbkmngbenohkaa
open Go.RowKit

def nxt (E : Prs) (a : Nat) : List Int := (E.filter fun p => p.1 == (a : Int)).map (·.2)
def nxL (n : Nat) (E : Prs) (k : Nat) : List (List Int) := (List.range n).map fun a => nxt (E.take k) a
def cntI (E : Prs) (b : Nat) : Nat := E.countP fun p => p.2 == (b : Int)
def wts (n : Nat) (E : Prs) (k : Nat) : List Int := (List.range n).map fun b => ((cntI (E.take k) b : Nat) : Int)
@[simp] theorem nxL_len (n : Nat) (E : Prs) (k : Nat) : (nxL n E k).length = n := by simp [nxL]
@[simp] theorem wts_len (n : Nat) (E : Prs) (k : Nat) : (wts n E k).length = n := by simp [wts]
theorem nxL_get {n : Nat} {E : Prs} {k a : Nat} (h : a < n) : (nxL n E k).getD a [] = nxt (E.take k) a := by simp [nxL, List.getD_eq_getElem?_getD, h]
theorem wts_get {n : Nat} {E : Prs} {k a : Nat} (h : a < n) : (wts n E k).getD a 0 = ((cntI (E.take k) a : Nat) : Int) := by simp [wts, List.getD_eq_getElem?_getD, h]
theorem nxL_zero (n : Nat) (E : Prs) : nxL n E 0 = List.replicate n [] := by
 apply List.ext_getElem
 ·simp
 ·intro i h1 h2; simp [nxL, nxt]
theorem take_succ' {E : Prs} {k : Nat} (hk : k < E.length) : E.take (k + 1) = E.take k ++ [E.getD k (0, 0)] := by
 rw [List.take_add_one, List.getElem?_eq_getElem hk]; simp [List.getD_eq_getElem?_getD, hk]
theorem nxt_app (E : Prs) (p : Int × Int) (a : Nat) : nxt (E ++ [p]) a = nxt E a ++ (if p.1 = (a : Int) then [p.2] else []) := by
 unfold nxt
 by_cases h : p.1 = (a : Int) <;> simp [h]
theorem nxL_succ {n : Nat} {E : Prs} {k : Nat} (hE : inE n E = true) (hk : k < E.length) : nxL n E (k + 1) = (nxL n E k).set (E.getD k (0, 0)).1.toNat ((nxL n E k).getD (E.getD k (0, 0)).1.toNat [] ++ [(E.getD k (0, 0)).2]) := by
 have hb := inE_at hE hk
 obtain ⟨a, ha⟩ := Int.eq_ofNat_of_zero_le hb.1
 have han : a < n := by omega
 rw [ha, Int.toNat_natCast, nxL_get han]
 apply List.ext_getElem
 ·simp
 ·intro i h1 h2
  have hi : i < n := by simpa using h1
  rw [List.getElem_set]
  simp only [nxL, List.getElem_map, List.getElem_range]
  rw [take_succ' hk, nxt_app, ha]
  by_cases h : a = i
  ·subst h; simp
  ·have h' : ¬ ((a : Int) = (i : Int)) := by omega
   simp [h, h']
def dn (l : List Nat) (x : Int) : Bool := l.any fun y => (y : Int) == x
theorem dn_iff {l : List Nat} {x : Int} : dn l x = true ↔ ∃ y ∈ l, (y : Int) = x := by simp [dn]
def deg (E : Prs) (l : List Nat) (b : Nat) : Nat := E.countP fun p => p.2 == (b : Int) && !dn l p.1
structure KInv (n : Nat) (E : Prs) (k : Nat) (row : List Nat) (W : List Int) : Prop where
 nd : row.Nodup
 lt : ∀ x ∈ row, x < n
 kl : k ≤ row.length
 wl : W.length = n
 w : ∀ b, b < n → W.getD b 0 = ((deg E (row.take k) b : Nat) : Int)
 zero : ∀ b, b < n → (b ∈ row ↔ W.getD b 0 = 0)
 top : ∀ (j x : Nat), row[j]? = some x → ∀ p ∈ E, p.2 = (x : Int) → ∃ (i y : Nat), i < j ∧ row[i]? = some y ∧ p.1 = (y : Int)
def row0 (n : Nat) (E : Prs) (i : Nat) : List Nat := (List.range i).filter fun b => (wts n E E.length).getD b 0 == 0
theorem KInv.start (n : Nat) (E : Prs) : KInv n E 0 (row0 n E n) (wts n E E.length) := by
 refine ⟨List.Pairwise.filter _ List.nodup_range, fun x hx => ?_, Nat.zero_le _, wts_len _ _ _, fun b hb => ?_, fun b hb => ?_, fun j x hj p hp hpx => ?_⟩
 ·simp only [row0, List.mem_filter, List.mem_range] at hx; exact hx.1
 ·rw [wts_get hb, List.take_length]; simp [deg, cntI, dn]
 ·simp only [row0, List.mem_filter, List.mem_range, beq_iff_eq]
  exact ⟨fun h => h.2, fun h => ⟨hb, h⟩⟩
 ·have hx := List.mem_of_getElem? hj
  simp only [row0, List.mem_filter, List.mem_range, beq_iff_eq] at hx
  rw [wts_get hx.1, List.take_length] at hx
  have h0 : cntI E x = 0 := by omega
  have := List.countP_eq_zero.1 h0 p hp
  simp [hpx] at this

theorem countP_sub {α : Type} {P Q : α → Bool} : ∀ {l : List α}, (∀ x, Q x = true → P x = true) → l.countP P ≤ l.countP Q → ∀ x ∈ l, P x = true → Q x = true
 | [], _, _, x, h, _ => by simp at h
 | y :: l, hQ, hle, x, hx, hP => by
  have hmono : l.countP Q ≤ l.countP P := List.countP_mono_left fun x _ h => hQ x h
  rw [List.countP_cons, List.countP_cons] at hle
  have hy : P y = true → Q y = true := by
   intro h
   cases hq : Q y with
   | true => rfl
   | false => rw [h, hq] at hle; simp at hle; omega
  have hle' : l.countP P ≤ l.countP Q := by
   cases hq : Q y with
   | true => rw [hq, hQ y hq] at hle; simpa using hle
   | false =>
    cases hp : P y with
    | true => rw [hy hp] at hq; cases hq
    | false => rw [hq, hp] at hle; simpa using hle
  rcases List.mem_cons.1 hx with rfl | hx
  ·exact hy hP
  ·exact countP_sub hQ hle' x hx hP
theorem countP_part {α : Type} (P Q : α → Bool) : ∀ l : List α, l.countP P = l.countP (fun x => P x && Q x) + l.countP fun x => P x && !Q x
 | [] => rfl
 | y :: l => by
  have := countP_part P Q l
  simp only [List.countP_cons]
  cases P y <;> cases Q y <;> simp <;> omega
theorem nxt_count (E : Prs) (a b : Nat) : (nxt E a).countP (fun x => x == (b : Int)) = E.countP fun p => p.2 == (b : Int) && p.1 == (a : Int) := by
 unfold nxt
 rw [List.countP_map, List.countP_filter]
 rfl
structure IInv (n : Nat) (E : Prs) (k : Nat) (done : List Nat) (a j : Nat) (row : List Nat) (W : List Int) : Prop where
 nd : row.Nodup
 lt : ∀ x ∈ row, x < n
 tk : row.take k = done
 at_ : row[k]? = some a
 wl : W.length = n
 w : ∀ b, b < n → W.getD b 0 + (((nxt E a).take j).countP (fun x => x == (b : Int)) : Nat) = ((deg E done b : Nat) : Int)
 zero : ∀ b, b < n → (b ∈ row ↔ W.getD b 0 = 0)
 top : ∀ (j x : Nat), row[j]? = some x → ∀ p ∈ E, p.2 = (x : Int) → ∃ (i y : Nat), i < j ∧ row[i]? = some y ∧ p.1 = (y : Int)
theorem IInv.start {n : Nat} {E : Prs} {k : Nat} {row : List Nat} {W : List Int} (h : KInv n E k row W) (hk : k < row.length) : IInv n E k (row.take k) (row.getD k 0) 0 row W :=
 ⟨h.nd, h.lt, rfl, by simp [List.getD_eq_getElem?_getD, hk], h.wl, fun b hb => by rw [h.w b hb]; simp, h.zero, h.top⟩
theorem IInv.not_done {n : Nat} {E : Prs} {k : Nat} {done : List Nat} {a j : Nat} {row : List Nat} {W : List Int} (h : IInv n E k done a j row W) : a ∉ done := by
 intro hm
 rw [← h.tk] at hm
 obtain ⟨i, hi, he⟩ := List.getElem_of_mem hm
 rw [List.getElem_take] at he
 rw [List.length_take] at hi
 obtain ⟨hk, hk2⟩ := List.getElem?_eq_some_iff.1 h.at_
 have := (List.nodup_iff_pairwise_ne.1 h.nd)
 have hne := List.pairwise_iff_getElem.1 this i k (by omega) hk (by omega)
 exact hne (he.trans hk2.symm)
theorem IInv.ge {n : Nat} {E : Prs} {k : Nat} {done : List Nat} {a j : Nat} {row : List Nat} {W : List Int} (h : IInv n E k done a j row W) (b : Nat) : ((nxt E a).countP fun x => x == (b : Int)) ≤ deg E done b := by
 rw [nxt_count]
 refine List.countP_mono_left fun p _ hp => ?_
 simp only [Bool.and_eq_true, beq_iff_eq] at hp ⊢
 refine ⟨hp.1, ?_⟩
 cases hd : dn done p.1 with
 | false => rfl
 | true =>
  obtain ⟨y, hy, he⟩ := dn_iff.1 hd
  rw [hp.2] at he
  have : y = a := by omega
  subst this
  exact absurd hy h.not_done
theorem take_count {l : List Int} {j : Nat} (hj : j < l.length) (b : Nat) : (l.take (j + 1)).countP (fun x => x == (b : Int)) = (l.take j).countP (fun x => x == (b : Int)) + (if l.getD j 0 = (b : Int) then 1 else 0) := by
 rw [List.take_add_one, List.getElem?_eq_getElem hj, List.countP_append]
 have : l.getD j 0 = l[j] := by simp [List.getD_eq_getElem?_getD, hj]
 rw [this]
 by_cases h : l[j] = (b : Int) <;> simp [h]
theorem take_count_le (l : List Int) (j : Nat) (b : Nat) : (l.take j).countP (fun x => x == (b : Int)) ≤ l.countP fun x => x == (b : Int) := (List.take_sublist j l).countP_le
theorem nxt_in {n : Nat} {E : Prs} (hE : inE n E = true) {a j : Nat} (hj : j < (nxt E a).length) : 0 ≤ (nxt E a).getD j 0 ∧ (nxt E a).getD j 0 < (n : Int) := by
 have hm : (nxt E a).getD j 0 ∈ nxt E a := by rw [List.getD_eq_getElem?_getD, List.getElem?_eq_getElem hj]; exact List.getElem_mem hj
 generalize (nxt E a).getD j 0 = x at hm
 simp only [nxt, List.mem_map, List.mem_filter] at hm
 obtain ⟨p, ⟨hp, _⟩, rfl⟩ := hm
 have := inE_mem hE hp
 omega
theorem IInv.pos {n : Nat} {E : Prs} {k : Nat} {done : List Nat} {a j : Nat} {row : List Nat} {W : List Int} (h : IInv n E k done a j row W) (hj : j < (nxt E a).length) {b : Nat} (hb : b < n) (he : (nxt E a).getD j 0 = (b : Int)) : 1 ≤ W.getD b 0 := by
 have h1 := h.w b hb
 have h2 := h.ge b
 have h3 := take_count hj b
 rw [if_pos he] at h3
 have h4 := take_count_le (nxt E a) (j + 1) b
 omega
theorem getD_setI (l : List Int) (i j : Nat) (x : Int) : (l.set i x).getD j 0 = if j = i ∧ i < l.length then x else l.getD j 0 := getD_set l i j x 0
theorem IInv.more {n : Nat} {E : Prs} {k : Nat} {done : List Nat} {a j : Nat} {row : List Nat} {W : List Int} (h : IInv n E k done a j row W) (hj : j < (nxt E a).length) {b : Nat} (hb : b < n) (he : (nxt E a).getD j 0 = (b : Int)) (hz : W.getD b 0 - 1 ≠ 0) :
  IInv n E k done a (j + 1) row (W.set b (W.getD b 0 - 1)) := by
 have hp := h.pos hj hb he
 refine ⟨h.nd, h.lt, h.tk, h.at_, by rw [List.length_set]; exact h.wl, fun c hc => ?_, fun c hc => ?_, h.top⟩
 ·rw [getD_setI, take_count hj c, he]
  have h1 := h.w c hc
  by_cases hcb : c = b
  ·subst hcb
   rw [if_pos ⟨rfl, by rw [h.wl]; exact hb⟩, if_pos rfl]; omega
  ·rw [if_neg (by simp [hcb]), if_neg (by omega)]; omega
 ·rw [getD_setI]
  by_cases hcb : c = b
  ·subst hcb
   rw [if_pos ⟨rfl, by rw [h.wl]; exact hb⟩, h.zero c hc]
   omega
  ·rw [if_neg (by simp [hcb])]; exact h.zero c hc
theorem IInv.push {n : Nat} {E : Prs} {k : Nat} {done : List Nat} {a j : Nat} {row : List Nat} {W : List Int} (h : IInv n E k done a j row W) (hj : j < (nxt E a).length) {b : Nat} (hb : b < n) (he : (nxt E a).getD j 0 = (b : Int)) (hz : W.getD b 0 - 1 = 0) :
  IInv n E k done a (j + 1) (row ++ [b]) (W.set b (W.getD b 0 - 1)) := by
 have hp := h.pos hj hb he
 have hnb : b ∉ row := fun hm => by have := (h.zero b hb).1 hm; omega
 obtain ⟨hkl, hka⟩ := List.getElem?_eq_some_iff.1 h.at_
 refine ⟨?_, ?_, by rw [List.take_append_of_le_length (by omega)]; exact h.tk, by rw [List.getElem?_append_left hkl]; exact h.at_, by rw [List.length_set]; exact h.wl, fun c hc => ?_, fun c hc => ?_, fun i x hi p hpE hpx => ?_⟩
 ·rw [List.nodup_append]
  exact ⟨h.nd, by simp, fun x hx y hy => by simp at hy; subst hy; exact fun e => hnb (e ▸ hx)⟩
 ·intro x hx
  rcases List.mem_append.1 hx with hx | hx
  ·exact h.lt x hx
  ·simp at hx; omega
 ·rw [getD_setI, take_count hj c, he]
  have h1 := h.w c hc
  by_cases hcb : c = b
  ·subst hcb
   rw [if_pos ⟨rfl, by rw [h.wl]; exact hb⟩, if_pos rfl]; omega
  ·rw [if_neg (by simp [hcb]), if_neg (by omega)]; omega
 ·rw [getD_setI]
  by_cases hcb : c = b
  ·subst hcb
   rw [if_pos ⟨rfl, by rw [h.wl]; exact hb⟩, hz]
   simp
  ·rw [if_neg (by simp [hcb]), ← h.zero c hc]
   simp [hcb]
 ·by_cases hir : i < row.length
  ·rw [List.getElem?_append_left hir] at hi
   obtain ⟨i', y, h1, h2, h3⟩ := h.top i x hi p hpE hpx
   exact ⟨i', y, h1, by rw [List.getElem?_append_left (by omega)]; exact h2, h3⟩
  ·have hil : i = row.length := by
    have := (List.getElem?_eq_some_iff.1 hi).1
    simp at this; omega
   subst hil
   simp at hi
   subst hi
   -- all that lead to b are done, or are a
   have h1 := h.w b hb
   have h3 := take_count hj b
   rw [if_pos he] at h3
   have h4 := take_count_le (nxt E a) (j + 1) b
   have hle : deg E done b ≤ E.countP fun p => p.2 == (b : Int) && p.1 == (a : Int) := by rw [← nxt_count]; omega
   cases hd : dn done p.1 with
   | true =>
    obtain ⟨y, hy, hye⟩ := dn_iff.1 hd
    rw [← h.tk] at hy
    obtain ⟨i', hi', he'⟩ := List.getElem_of_mem hy
    rw [List.length_take] at hi'
    rw [List.getElem_take] at he'
    exact ⟨i', y, by omega, by rw [List.getElem?_append_left (by omega), List.getElem?_eq_getElem (by omega), he'], hye.symm⟩
   | false =>
    have := countP_sub (P := fun p : Int × Int => p.2 == (b : Int) && !dn done p.1) (Q := fun p => p.2 == (b : Int) && p.1 == (a : Int)) (fun q hq => by
     simp only [Bool.and_eq_true, beq_iff_eq] at hq ⊢
     refine ⟨hq.1, ?_⟩
     cases hd2 : dn done q.1 with
     | false => rfl
     | true =>
      obtain ⟨y, hy, hye⟩ := dn_iff.1 hd2
      rw [hq.2] at hye
      have : y = a := by omega
      subst this
      exact absurd hy h.not_done) hle p hpE (by simp [hpx, hd])
    simp only [Bool.and_eq_true, beq_iff_eq] at this
    exact ⟨k, a, hkl, by rw [List.getElem?_append_left hkl]; exact h.at_, this.2⟩
theorem IInv.done_ {n : Nat} {E : Prs} {k : Nat} {done : List Nat} {a : Nat} {row : List Nat} {W : List Int} (h : IInv n E k done a (nxt E a).length row W) : KInv n E (k + 1) row W := by
 obtain ⟨hkl, hka⟩ := List.getElem?_eq_some_iff.1 h.at_
 refine ⟨h.nd, h.lt, by omega, h.wl, fun b hb => ?_, h.zero, h.top⟩
 have h1 := h.w b hb
 rw [List.take_length, nxt_count] at h1
 have h2 : row.take (k + 1) = done ++ [a] := by rw [List.take_add_one, h.tk, h.at_]; rfl
 rw [h2]
 have h3 := countP_part (fun p : Int × Int => p.2 == (b : Int) && !dn done p.1) (fun p => p.1 == (a : Int)) E
 have h4 : (E.countP fun p => (p.2 == (b : Int) && !dn done p.1) && p.1 == (a : Int)) = E.countP fun p => p.2 == (b : Int) && p.1 == (a : Int) := by
  apply List.countP_congr
  intro p _
  simp only [Bool.and_eq_true, beq_iff_eq, Bool.not_eq_true']
  refine ⟨fun hh => ⟨hh.1.1, hh.2⟩, fun hh => ⟨⟨hh.1, ?_⟩, hh.2⟩⟩
  cases hd : dn done p.1 with
  | false => rfl
  | true =>
   obtain ⟨y, hy, hye⟩ := dn_iff.1 hd
   rw [hh.2] at hye
   have : y = a := by omega
   subst this
   exact absurd hy h.not_done
 have h5 : (E.countP fun p => (p.2 == (b : Int) && !dn done p.1) && !(p.1 == (a : Int))) = deg E (done ++ [a]) b := by
  apply List.countP_congr
  intro p _
  have : dn (done ++ [a]) p.1 = (dn done p.1 || p.1 == (a : Int)) := by
   simp only [dn, List.any_append, List.any_cons, List.any_nil, Bool.or_false]
   congr 1
   rw [Bool.eq_iff_iff]; simp; exact ⟨fun h => h.symm, fun h => h.symm⟩
  rw [this]
  cases dn done p.1 <;> simp
 have h6 : deg E done b = E.countP fun p => p.2 == (b : Int) && !dn done p.1 := rfl
 omega
end Go.Proofs.Ytkbkmngbenohkaa

namespace Go.Proofs.Ytkbkmngbenohkaa
open Go.RowKit

theorem KInv.index {n : Nat} {E : Prs} {k : Nat} {row : List Nat} {W : List Int} (h : KInv n E k row W) {b : Nat} (hb : b ∈ row) : ∃ j : Nat, row[j]? = some b := by
 obtain ⟨j, hj, rfl⟩ := List.getElem_of_mem hb
 exact ⟨j, List.getElem?_eq_getElem hj⟩
theorem KInv.ahead {n : Nat} {E : Prs} {k : Nat} {row : List Nat} {W : List Int} (h : KInv n E k row W) {a b : Nat} (hc : Clo E a b) : ∀ j : Nat, row[j]? = some b → ∃ i : Nat, i < j ∧ row[i]? = some a := by
 induction hc with
 | one he =>
  intro j hj
  obtain ⟨i, y, h1, h2, h3⟩ := h.top j _ hj _ he rfl
  simp only at h3
  exact ⟨i, h1, by rw [h2]; congr 1; omega⟩
 | more he _ ih =>
  intro j hj
  obtain ⟨i, h1, h2⟩ := ih j hj
  obtain ⟨i', y, h3, h4, h5⟩ := h.top i _ h2 _ he rfl
  simp only at h5
  exact ⟨i', by omega, by rw [h4]; congr 1; omega⟩
theorem nodup_idx {row : List Nat} (h : row.Nodup) {i j a : Nat} (hi : row[i]? = some a) (hj : row[j]? = some a) : i = j := by
 obtain ⟨h1, h2⟩ := List.getElem?_eq_some_iff.1 hi
 obtain ⟨h3, h4⟩ := List.getElem?_eq_some_iff.1 hj
 rcases Nat.lt_trichotomy i j with hlt | heq | hlt
 ·exact absurd (h2.trans h4.symm) (List.pairwise_iff_getElem.1 (List.nodup_iff_pairwise_ne.1 h) i j h1 h3 hlt)
 ·exact heq
 ·exact absurd (h4.trans h2.symm) (List.pairwise_iff_getElem.1 (List.nodup_iff_pairwise_ne.1 h) j i h3 h1 hlt)
theorem nodup_le : ∀ (n : Nat) (l : List Nat), l.Nodup → (∀ x ∈ l, x < n) → l.length ≤ n
 | 0, l, _, h => by
  cases l with
  | nil => simp
  | cons x l => exact absurd (h x List.mem_cons_self) (Nat.not_lt_zero _)
 | n + 1, l, hn, h => by
  have := nodup_le n (l.erase n) (hn.erase n) fun x hx => by
   have h1 := h x (List.mem_of_mem_erase hx)
   have h2 : x ≠ n := fun e => by subst e; exact (List.Nodup.not_mem_erase hn) hx
   omega
  have h3 := List.length_erase (a := n) (l := l)
  split at h3 <;> omega
theorem KInv.all {n : Nat} {E : Prs} {k : Nat} {row : List Nat} {W : List Int} (h : KInv n E k row W) (hl : row.length = n) {a : Nat} (ha : a < n) : a ∈ row := by
 apply Classical.byContradiction
 intro hna
 have := nodup_le n (a :: row) (List.nodup_cons.2 ⟨hna, h.nd⟩) fun x hx => by
  rcases List.mem_cons.1 hx with rfl | hx
  ·exact ha
  ·exact h.lt x hx
 simp at this
 omega
theorem spo_cl {n : Nat} {E : Prs} (h : ¬ ∃ a, a < n ∧ Clo E a a) : Spo n (cl E) := by
 refine ⟨fun a ha => ?_, fun a b c _ _ _ h1 h2 => cl_iff.2 ((cl_iff.1 h1).trans (cl_iff.1 h2))⟩
 cases hx : cl E a a with
 | false => rfl
 | true => exact absurd ⟨a, ha, cl_iff.1 hx⟩ h
end Go.Proofs.Ytkbkmngbenohkaa

namespace Go.Proofs.Ytkbkmngbenohkaa
open Go.RowKit

def f1 (s : List (List Nat)) (w : Nat) (b : Int) : Nat := (w ||| 2 ^ b.toNat) ||| (s.getD b.toNat []).getD 0 0
def wd (s : List (List Nat)) (l : List Int) (j : Nat) : Nat := (l.take j).foldl (f1 s) 0
theorem wd_succ {s : List (List Nat)} {l : List Int} {j : Nat} (hj : j < l.length) : wd s l (j + 1) = f1 s (wd s l j) (l.getD j 0) := by
 unfold wd
 rw [List.take_add_one, List.getElem?_eq_getElem hj, List.foldl_append]
 simp [List.getD_eq_getElem?_getD, hj]
def Gd (s : List (List Nat)) : Prop := ∀ a, (s.getD a []).length ≤ 1 ∧ (s.getD a []).getD 0 0 < 18446744073709551616
theorem wd_lt {s : List (List Nat)} (h : Gd s) {l : List Int} (hl : ∀ j, j < l.length → l.getD j 0 < 64) : ∀ j, j ≤ l.length → wd s l j < 18446744073709551616
 | 0, _ => by simp [wd]
 | j + 1, hj => by
  rw [wd_succ (by omega)]
  have h1 := wd_lt h hl j (by omega)
  have h2 := hl j (by omega)
  have h3 := bit_lt (l.getD j 0).toNat (by omega)
  have h4 := (h (l.getD j 0).toNat).2
  rw [show (18446744073709551616 : Nat) = 2 ^ 64 from rfl] at *
  exact Nat.or_lt_two_pow (Nat.or_lt_two_pow h1 h3) h4
def stp (E : Prs) (s : List (List Nat)) (a : Nat) : List (List Nat) := s.set a [wd s (nxt E a) (nxt E a).length]
theorem nxt_lt {n : Nat} {E : Prs} (hE : inE n E = true) (hn : n ≤ 64) (a : Nat) : ∀ j, j < (nxt E a).length → (nxt E a).getD j 0 < 64 := fun j hj => by
 have := nxt_in hE hj; omega
theorem Gd.stp {n : Nat} {E : Prs} (hE : inE n E = true) (hn : n ≤ 64) {s : List (List Nat)} (h : Gd s) (a : Nat) : Gd (stp E s a) := by
 intro b
 unfold Ytkbkmngbenohkaa.stp
 rw [getD_set]
 split
 ·exact ⟨by simp, by simpa using wd_lt h (nxt_lt hE hn a) _ (Nat.le_refl _)⟩
 ·exact h b
def cw (n : Nat) (f : Nat → Bool) : Nat := (List.range n).foldl (fun w b => if f b = true then w ||| 2 ^ b else w) 0
theorem cw_bit (n : Nat) (f : Nat → Bool) (c : Nat) : (cw n f).testBit c = (decide (c < n) && f c) := by
 induction n with
 | zero => simp [cw]
 | succ n ih =>
  have hs : cw (n + 1) f = if f n = true then cw n f ||| 2 ^ n else cw n f := by simp [cw, List.range_succ, List.foldl_append]
  rw [hs]
  by_cases hf : f n = true
  ·rw [if_pos hf, Nat.testBit_or, ih, Nat.testBit_two_pow]
   by_cases hc : c = n
   ·subst hc; simp [hf]
   ·have : (decide (c < n + 1)) = decide (c < n) := by rw [Bool.eq_iff_iff]; simp; omega
    rw [this]
    have h2 : decide (n = c) = false := by simp; omega
    rw [h2, Bool.or_false]
  ·rw [if_neg hf, ih]
   by_cases hc : c = n
   ·subst hc; simp [hf]
   ·have : (decide (c < n + 1)) = decide (c < n) := by rw [Bool.eq_iff_iff]; simp; omega
    rw [this]
theorem cw_lt (n : Nat) (f : Nat → Bool) (hn : n ≤ 64) : cw n f < 18446744073709551616 := by
 rw [show (18446744073709551616 : Nat) = 2 ^ 64 from rfl]
 refine Nat.lt_pow_two_of_testBit _ fun i hi => ?_
 rw [cw_bit]
 have : ¬ i < n := by omega
 simp [this]
theorem nxt_mem {E : Prs} {a : Nat} {x : Int} : x ∈ nxt E a ↔ ((a : Int), x) ∈ E := by
 simp only [nxt, List.mem_map, List.mem_filter, beq_iff_eq]
 constructor
 ·rintro ⟨p, ⟨hp, h1⟩, h2⟩
  have : p = ((a : Int), x) := Prod.ext h1 h2
  rw [← this]; exact hp
 ·intro h; exact ⟨_, ⟨h, rfl⟩, rfl⟩
end Go.Proofs.Ytkbkmngbenohkaa

namespace Go.Proofs.Ytkbkmngbenohkaa
open Go.RowKit

theorem irow_get (M : List (List Int)) (j : Nat) : (M.map isl).getD j [] = isl (M.getD j []) := by
 simp only [List.getD_eq_getElem?_getD, List.getElem?_map]
 cases M[j]? <;> rfl
def nrows (L : List (List Int)) : List PV := L.map fun r => .sl r.length (isl r)
theorem downs_isl (M : List (List Int)) : downs (rowsSl (M.map isl)) = some (nrows M) := by
 rw [downs_rowsSl]
 simp [nrows]
theorem nrows_get (M : List (List Int)) (i : Nat) (h : i < M.length) : (nrows M)[i]? = some (.sl (M.getD i []).length (isl (M.getD i []))) := by simp [nrows, h]
theorem nxt_len (E : Prs) (a : Nat) : (nxt E a).length ≤ E.length := by simp only [nxt, List.length_map]; exact List.length_filter_le _ _
theorem nx_set {n : Nat} {E : Prs} {k : Nat} (hE : inE n E = true) (hk : k < E.length) : (nxL n E (k + 1)).map isl = ((nxL n E k).map isl).set (E.getD k (0, 0)).1.toNat (isl ((nxL n E k).getD (E.getD k (0, 0)).1.toNat []) ++ [.v (.int .i64 (E.getD k (0, 0)).2)]) := by
 rw [nxL_succ hE hk, List.map_set]
 congr 1
 simp [isl]
theorem rows_zero (n : Nat) (E : Prs) : (nxL n E 0).map isl = List.replicate n [] := by rw [nxL_zero]; simp [isl]
theorem getD_mem {l : List Nat} {k : Nat} (h : k < l.length) : l.getD k 0 ∈ l := by
 rw [List.getD_eq_getElem?_getD, List.getElem?_eq_getElem h]; exact List.getElem_mem h
theorem isl_get_set (l : List Int) (k : Nat) (x : Int) (h : k < l.length) : (isl (l.set k x))[k]? = some (.v (.int .i64 x)) := by
 rw [isl_get _ _ (by simpa using h), getD_set]; simp [h]
def scells (s : List (List Nat)) : List AV := s.map fun l => .sl l.length (ul l)
@[simp] theorem scells_len (s : List (List Nat)) : (scells s).length = s.length := by simp [scells]
end Go.Proofs.Ytkbkmngbenohkaa

namespace Go.Proofs.Ytkbkmngbenohkaa
open Go.RowKit

theorem compact_spec (n : Nat) (L : List Int) (hL : L.length = n) (h1 : n ≤ 4611686018427387904) (hnd : ∀ k, 0 < k → k < n → L.getD k 0 ≠ L.getD (k - 1) 0) :
  Spec Try.prog 122 (inStI [.ref (0, 9) 0 n] [((0, 9), .row 3 1 (isl L))]) (outStI (.ref (0, 8) 0 n) [((0, 8), .row 3 1 (isl L))] [(0, 8)] []) := by
 refine Spec.ofNI Try.func122 rfl Try.ntmps122 rfl ?_
 refine D_seq fun K1 hK1 => ?_
 refine D_region ?_
 refine DL_c (op_as _ (rfl : _ = AV.v (.slice _ _ _))) ?_
 refine DL_nil (hK1 _ ?_)
 clear hK1; try clear K1
 refine D_seq fun K2 hK2 => ?_
 refine D_seq fun K3 hK3 => ?_
 refine D_region ?_
 refine DL_c (mvR rfl) ?_
 refine DL_c (op_lenR _ inferInstance rfl rfl) ?_
 refine DL_c (op_lss _ _ rfl rfl rfl) ?_
 refine DL_nil (hK3 _ ?_)
 clear hK3; try clear K3
 refine D_splitC rfl (fun hc8 => ?_) (fun hc8 => ?_)
 ·skip
  refine D_seq fun K4 hK4 => ?_
  refine D_region ?_
  refine DL_c (mvR rfl) ?_
  refine DL_c (asR rfl) ?_
  refine DL_nil (hK4 _ ?_)
  clear hK4; try clear K4
  refine D_ret ?_
  exact ret1 (.inr rfl) rfl (.tmp (rfl : _ = AV.ref _ _ _)) (Le.outI [((0, 8), (0, 9))] [] (lvRr rfl rfl) rfl rfl rfl trivial ⟨⟨rfl, ⟨_, rfl, .rowE rfl⟩, rfl⟩, trivial⟩ trivial rfl)
 ·skip
  refine D_skip (hK2 _ ?_)
  clear hK2; try clear K2
  refine D_seq fun K5 hK5 => ?_
  refine D_seq fun K6 hK6 => ?_
  refine D_region ?_
  refine DL_c (asI rfl) ?_
  refine DL_nil (hK6 _ ?_)
  clear hK6; try clear K6
  refine D_block ?_
  refine D_loopL (α := Nat) (fun k => 1 ≤ k) 61 [(0, _)] [((0, 9), _)] (fun k => [(3, .v (.int .i64 (k : Int)))]) (fun k => []) [(0, 9)] [(0, 9)] (fun k => n - k) 1 ?_ (by
   refine Le.mkJ [] [] rfl ?_ ?_ trivial ⟨rfl, trivial⟩ ?_
   ·exact ⟨(iR rfl), (lvI (by rfl)), trivial⟩
   ·exact ⟨(obE rfl rfl rfl), trivial⟩
   ·kernel_rfl) ?_
  ·omega
  intro k hk
  refine D_seq fun K7 hK7 => ?_
  refine D_seq fun K8 hK8 => ?_
  refine D_region ?_
  refine DL_c (mvI rfl) ?_
  refine DL_c (mvR rfl) ?_
  refine DL_c (op_lenR _ inferInstance rfl rfl) ?_
  refine DL_c (op_lss _ _ rfl rfl rfl) ?_
  refine DL_nil (hK8 _ ?_)
  clear hK8; try clear K8
  refine D_splitC rfl (fun hc13 => ?_) (fun hc13 => ?_)
  ·skip
   refine D_skip (hK7 _ ?_)
   clear hK7; try clear K7
   refine D_seq fun K9 hK9 => ?_
   refine D_block ?_
   refine D_seq fun K10 hK10 => ?_
   refine D_le (σ' := mkStI 61 [(0, _), (3, _)] [((0, 9), _)] [(0, 9)] [(0, 9)]) (by
    refine Le.mkJ [] [] rfl ?_ ?_ trivial ⟨rfl, trivial⟩ ?_
    ·exact ⟨(iR rfl), (iV rfl), trivial⟩
    ·exact ⟨(obE rfl rfl rfl), trivial⟩
    ·kernel_rfl) ?_
   refine D_anyL 10 [16, 17, 18, 19, 20, 21, 22, 23, 24, 25] [] (by kernel_rfl) (by kernel_rfl) rfl (nodupO_iff rfl) (rfl : _ = [_, _, _, _, _, _, _, _, _, _]) (rfl : _ = []) ?_
   refine any_c (_, []) (fun τ => op_mv _ (rfl : _ = AV.ref _ _ _)) ?_
   refine any_n (rfl : _ = [_]) ?_
   refine any_c (_, []) (fun τ => op_mv _ (rfl : _ = AV.v (.int _ _))) ?_
   refine any_n (rfl : _ = [_, _]) ?_
   refine any_c (_, []) (fun τ => op_ixR _ _ inferInstance rfl rfl rfl k rfl (by omega) (by exact (Nat.zero_add _).trans (Nat.mul_one _))) ?_
   refine any_n (rfl : _ = [_, _, _]) ?_
   refine any_c (_, []) (fun τ => op_ldR _ inferInstance rfl rfl (by exact isl_get _ _ (by omega)) rfl) ?_
   refine any_n (rfl : _ = [_, _, _, _]) ?_
   refine any_c (_, []) (fun τ => op_mv _ (rfl : _ = AV.ref _ _ _)) ?_
   refine any_n (rfl : _ = [_, _, _, _, _]) ?_
   refine any_c (_, []) (fun τ => op_mv _ (rfl : _ = AV.v (.int _ _))) ?_
   refine any_n (rfl : _ = [_, _, _, _, _, _]) ?_
   refine any_c (_, []) (fun τ => op_sub _ _ rfl rfl (i64w (by omega))) ?_
   refine any_n (rfl : _ = [_, _, _, _, _, _, _]) ?_
   refine any_c (_, []) (fun τ => op_ixR _ _ inferInstance rfl rfl rfl (k - 1) (by omega) (by omega) (by exact (Nat.zero_add _).trans (Nat.mul_one _))) ?_
   refine any_n (rfl : _ = [_, _, _, _, _, _, _, _]) ?_
   refine any_c (_, []) (fun τ => op_ldR _ inferInstance rfl rfl (by exact isl_get _ _ (by omega)) rfl) ?_
   refine any_n (rfl : _ = [_, _, _, _, _, _, _, _, _]) ?_
   refine any_c (_, []) (fun τ => op_eql _ _ rfl rfl rfl) ?_
   refine any_n (rfl : _ = [_, _, _, _, _, _, _, _, _, _]) ?_
   refine any_end ⟨rfl, ?_⟩
   refine DL_nil (hK10 _ ?_)
   clear hK10; try clear K10
   refine D_splitC rfl (fun hc25 => ?_) (fun hc25 => ?_)
   ·skip
    exact absurd  hc25 (hnd k (by omega) (by omega))
   ·skip
    refine D_skip (hK9 _ ?_)
    clear hK9; try clear K9
    refine D_region ?_
    refine DL_c (mvI rfl) ?_
    refine DL_c (op_add _ _ rfl rfl (i64w (by omega))) ?_
    refine DL_c (asI rfl) ?_
    refine DL_nil ?_
    refine ⟨k + 1, ?_, ?_, ?_⟩
    ·omega
    ·skip
     refine Le.mkJ [] [] rfl ?_ ?_ trivial ⟨rfl, trivial⟩ ?_
     ·exact ⟨(iR rfl), (lvI (by rfl)), trivial⟩
     ·exact ⟨(obE rfl rfl rfl), trivial⟩
     ·kernel_rfl
    ·omega
  ·skip
   refine D_exit ?_
   refine id (hK5 _ ?_)
   clear hK5; try clear K5
   refine D_seq fun K11 hK11 => ?_
   refine D_region ?_
   refine DL_c (mvR rfl) ?_
   refine DL_c (asR rfl) ?_
   refine DL_nil (hK11 _ ?_)
   clear hK11; try clear K11
   refine D_ret ?_
   exact ret1 (.inr rfl) rfl (.tmp (rfl : _ = AV.ref _ _ _)) (Le.outI [((0, 8), (0, 9))] [] (lvRr rfl rfl) rfl rfl rfl trivial ⟨⟨rfl, ⟨_, rfl, .rowE rfl⟩, rfl⟩, trivial⟩ trivial rfl)

def nxM (n : Nat) (E : Prs) (i : Nat) : List (List Int) := (List.range n).map fun a => if a < i then srt (nxt E a) else nxt E a
@[simp] theorem nxM_len (n : Nat) (E : Prs) (i : Nat) : (nxM n E i).length = n := by simp [nxM]
theorem nxM_get {n : Nat} {E : Prs} {i a : Nat} (h : a < n) : (nxM n E i).getD a [] = if a < i then srt (nxt E a) else nxt E a := by simp [nxM, List.getD_eq_getElem?_getD, h]
theorem nxM_zero (n : Nat) (E : Prs) : nxM n E 0 = nxL n E E.length := by simp [nxM, nxL]
theorem nxM_succ {n : Nat} {E : Prs} {i : Nat} (h : i < n) : (nxM n E (i + 1)).map isl = ((nxM n E i).map isl).set i (isl (srt (nxt E i))) := by
 rw [← List.map_set]
 congr 1
 apply List.ext_getElem
 ·simp
 ·intro j h1 h2
  rw [List.getElem_set]
  by_cases hj : i = j
  ·subst hj; simp [nxM]
  ·rw [if_neg hj]
   simp only [nxM, List.getElem_map, List.getElem_range]
   by_cases h3 : j < i
   ·rw [if_pos h3, if_pos (by omega)]
   ·rw [if_neg h3, if_neg (by omega)]
abbrev nxS (n : Nat) (E : Prs) : List (List Int) := nxM n E n
theorem srt_strict {L : List Int} (h : L.Nodup) : ∀ k, 0 < k → k < L.length → (srt L).getD k 0 ≠ (srt L).getD (k - 1) 0 := by
 intro k h1 h2 he
 have hn := (srt_perm L).nodup_iff.2 h
 have hl := srt_len L
 rw [getD_at _ _ _ (by omega), getD_at _ _ _ (by omega)] at he
 have := (List.pairwise_iff_getElem.1 hn) (k - 1) k (by omega) (by omega) (by omega)
 exact this he.symm
set_option maxHeartbeats 1000000 in
theorem succ_spec (n : Nat) (hn : n ≤ 64) (m : Nat) (E : Prs) (hm : E.length = m) (h1 : m ≤ 1000000) (hE : inE n E = true) (hS : ∀ a, a < n → (nxt E a).length ≤ 12 ∧ (nxt E a).Nodup) :
  Spec Try.prog 90 (inSt [.v (.int .i64 (n : Int)), .sl m (psl E)] []) (outSt (.sl n (nrows (nxS n E))) []) := by
 refine Spec.ofN Try.func90 rfl Try.ntmps90 rfl ?_
 refine D_seq fun K1 hK1 => ?_
 refine D_region ?_
 refine DL_c (op_as _ (rfl : _ = AV.v (.slice _ _ _))) ?_
 refine DL_nil (hK1 _ ?_)
 clear hK1; try clear K1
 refine D_seq fun K2 hK2 => ?_
 refine D_region ?_
 refine DL_c (mvI rfl) ?_
 refine DL_c (op_mkB (10, 0) _ _ inferInstance rfl rfl n rfl rfl (by omega) rfl (rep_nil n)) ?_
 refine DL_c (asR rfl) ?_
 refine DL_nil (hK2 _ ?_)
 clear hK2; try clear K2
 refine D_seq fun K3 hK3 => ?_
 refine D_seq fun K4 hK4 => ?_
 refine D_le (σ' := mkStB 51 [(1, _), (5, _)] [] ⟨(10, 0), false, 29, 3, 1000, ((nxL n E 0).map isl)⟩ [] []) (by
  refine Le.newB 1000 3 rfl (by kernel_rfl) (fun _ => rfl) (fun _ => rfl) rfl [] rfl ?_ ?_ trivial (by kernel_rfl) rfl ?_
  ·exact ⟨(by repeat' (exact Lv.sl)), (lvRr (id := (10, 0)) rfl rfl), trivial⟩
  ·exact trivial
  ·exact rows_zero n E) ?_
 refine D_region ?_
 refine DL_c (mvS rfl) ?_
 refine DL_c (op_lenS _ inferInstance rfl) ?_
 refine DL_c (mvI rfl) ?_
 refine DL_nil (hK4 _ ?_)
 clear hK4; try clear K4
 refine D_block ?_
 refine D_loopLB (α := Nat) (fun k => k ≤ m) 51 [(5, _), (11, _), (12, _)] [] (fun k => [(13, .v (.int .i64 (k : Int)))]) (fun k => []) (fun k => ⟨(10, 0), false, 29, 3, 1000, ((nxL n E k).map isl)⟩) [] [] (fun k => m - k) 0 ?_ (by
  refine Le.keepB [] [] rfl ?_ ?_ trivial trivial (by kernel_rfl) rfl rfl rfl (fun _ => rfl) (by kernel_rfl) (fun _ => rfl)
  ·exact ⟨(lvRr (id := (10, 0)) rfl rfl), (by repeat' (exact Lv.sl)), (by repeat' (exact Lv.v)), (lvI (by rfl)), trivial⟩
  ·exact trivial) ?_
 ·omega
 intro k hk
 refine D_seq fun K5 hK5 => ?_
 refine D_region ?_
 refine DL_c (op_lss _ _ rfl rfl rfl) ?_
 refine DL_nil (hK5 _ ?_)
 clear hK5; try clear K5
 refine D_seq fun K6 hK6 => ?_
 refine D_splitC rfl (fun hc14 => ?_) (fun hc14 => ?_)
 ·skip
  have hb := inE_at hE (i := k) (by omega)
  have hnl := nxL_len n E k
  have hxl := nxt_len (E.take k) (E.getD k (0, 0)).1.toNat
  rw [← nxL_get (n := n) (by omega), List.length_take] at hxl
  refine D_skip (hK6 _ ?_)
  clear hK6; try clear K6
  refine D_seq fun K7 hK7 => ?_
  refine D_block ?_
  refine D_seq fun K8 hK8 => ?_
  refine D_region ?_
  refine DL_c (op_ixS _ _ inferInstance rfl rfl _ rfl (by omega) (by (simp only [isl_len, bsl_len, psl_len, mrows_len, nsl_len, ws_len, List.length_map, nxL_len, nxM_len, wts_len]; omega)) (by rfl)) ?_
  refine DL_c (op_ldFA _ inferInstance rfl (by exact psl_geta _ _ (by omega)) rfl) ?_
  refine DL_c (op_alloc (7, 0) inferInstance rfl rfl) ?_
  refine DL_c (op_stB _ _ inferInstance rfl rfl rfl rfl (Nat.le_of_ble_eq_true rfl) rfl) ?_
  refine DL_nil (hK8 _ ?_)
  clear hK8; try clear K8
  refine D_le (σ' := mkStB 51 [(5, _), (7, _), (11, _), (12, _), (13, _)] [((7, 0), _)] ⟨(10, 0), false, 29, 3, 1000, _⟩ [] []) (by
   refine Le.keepB [] [] rfl ?_ ?_ trivial trivial (by kernel_rfl) rfl rfl rfl (fun _ => rfl) (by kernel_rfl) (fun _ => rfl)
   ·exact ⟨(lvRr (id := (10, 0)) rfl rfl), (lvPr (id := (7, 0)) rfl), (by repeat' (exact Lv.sl)), (by repeat' (exact Lv.v)), (by repeat' (exact Lv.v)), trivial⟩
   ·exact ⟨(obB rfl rfl rfl rfl (by repeat' (first | exact Lv.v | exact lv_nil | refine lv_cons ?_ ?_))), trivial⟩) ?_
  refine D_anyL 13 [17, 18, 19, 20, 21, 22, 23, 24, 25, 26, 27, 28, 29] [(1000, (E.getD k (0, 0)).1.toNat), (28, 0)] (by kernel_rfl) (by kernel_rfl) rfl (nodupO_iff rfl) (rfl : _ = [_, _, _, _, _, _, _, _, _, _, _, _, _]) (rfl : _ = [_]) ?_
  refine any_c (_, []) (fun τ => op_mv _ (rfl : _ = AV.ref _ _ _)) ?_
  refine any_n (rfl : _ = [_]) ?_
  refine any_c (_, []) (fun τ => op_ixA _ _ inferInstance rfl rfl rfl 0 rfl (by omega) (by exact (Nat.zero_add _).trans (Nat.mul_one _))) ?_
  refine any_n (rfl : _ = [_, _]) ?_
  refine any_c (_, []) (fun τ => op_ldB _ inferInstance rfl rfl (rfl : _ = some (AV.v (.int _ _)))) ?_
  refine any_n (rfl : _ = [_, _, _]) ?_
  refine any_c (_, []) (fun τ => op_mv _ (rfl : _ = AV.ref _ _ _)) ?_
  refine any_n (rfl : _ = [_, _, _, _]) ?_
  refine any_c (_, []) (fun τ => op_ixA _ _ inferInstance rfl rfl rfl 0 rfl (by omega) (by exact (Nat.zero_add _).trans (Nat.mul_one _))) ?_
  refine any_n (rfl : _ = [_, _, _, _, _]) ?_
  refine any_c (_, []) (fun τ => op_ldB _ inferInstance rfl rfl (rfl : _ = some (AV.v (.int _ _)))) ?_
  refine any_n (rfl : _ = [_, _, _, _, _, _]) ?_
  refine any_c (_, []) (fun τ => op_ixB _ _ inferInstance rfl rfl rfl (Int.toNat _) (Int.toNat_of_nonneg (by omega)).symm (by omega) (by exact (Nat.zero_add _).trans (Nat.mul_one _))) ?_
  refine any_n (rfl : _ = [_, _, _, _, _, _, _]) ?_
  refine any_c (_, []) (fun τ => op_ldB _ inferInstance rfl rfl (bun_cell (f := 1000) (b := ⟨(10, 0), false, 29, 3, 1000, _⟩) (j := (E.getD k (0, 0)).1.toNat) (n := ((nxL n E k).getD (E.getD k (0, 0)).1.toNat []).length) rfl (by (simp only [isl_len, bsl_len, psl_len, mrows_len, nsl_len, ws_len, List.length_map, nxL_len, nxM_len, wts_len]; omega)) (by (rw [irow_get, isl_len]; done)) rfl)) ?_
  refine any_n (rfl : _ = [_, _, _, _, _, _, _, _]) ?_
  refine any_c (_, []) (fun τ => op_ixA _ _ inferInstance rfl rfl rfl 1 rfl (by omega) (by exact (Nat.zero_add _).trans (Nat.mul_one _))) ?_
  refine any_n (rfl : _ = [_, _, _, _, _, _, _, _, _]) ?_
  refine any_c (_, []) (fun τ => op_ldB _ inferInstance rfl rfl (rfl : _ = some (AV.v (.int _ _)))) ?_
  refine any_n (rfl : _ = [_, _, _, _, _, _, _, _, _, _]) ?_
  refine any_c (_, []) (fun τ => op_bsF _ _ inferInstance rfl (by rfl) (by simp <;> rfl) (by decide) rfl) ?_
  refine any_n (rfl : _ = [_, _, _, _, _, _, _, _, _, _, _]) ?_
  refine any_c (_, [((1000, (E.getD k (0, 0)).1.toNat), .gone), ((28, 0), _)]) (fun τ => op_apN (28, 0) _ _ inferInstance rfl (mix_own rfl (by exact inO_head) (bun_row (b := ⟨(10, 0), false, 29, 3, 1000, _⟩) rfl (by rfl) rfl (by (simp only [isl_len, bsl_len, psl_len, mrows_len, nsl_len, ws_len, List.length_map, nxL_len, nxM_len, wts_len]; omega)) (by exact irow_get _ _))) (by (simp only [isl_len, bsl_len, psl_len, mrows_len, nsl_len, ws_len, List.length_map, nxL_len, nxM_len, wts_len]; omega)) (by (refine .sl ?_; (simp [isl]; done))) (by omega) rfl rfl rfl (rfl) (rfl)) ?_
  refine any_n (rfl : _ = [_, _, _, _, _, _, _, _, _, _, _, _]) ?_
  refine any_c (_, []) (fun τ => op_ixB _ _ inferInstance rfl rfl rfl (Int.toNat _) (Int.toNat_of_nonneg (by omega)).symm (by omega) (by exact (Nat.zero_add _).trans (Nat.mul_one _))) ?_
  refine any_n (rfl : _ = [_, _, _, _, _, _, _, _, _, _, _, _, _]) ?_
  refine any_end ⟨rfl, ?_⟩
  refine DL_c (op_stB _ _ inferInstance rfl rfl rfl rfl (by (simp only [Bun.cells_len, isl_len, bsl_len, psl_len, mrows_len, nsl_len, ws_len, List.length_map, nxL_len, nxM_len, wts_len, List.length_cons, List.length_nil]; omega)) (putL_one _ _ _ (by (simp only [Bun.cells_len, isl_len, bsl_len, psl_len, mrows_len, nsl_len, ws_len, List.length_map, nxL_len, nxM_len, wts_len, List.length_cons, List.length_nil]; omega)))) ?_
  refine DL_nil (hK7 _ ?_)
  clear hK7; try clear K7
  refine D_region ?_
  refine DL_c (op_add _ _ rfl rfl (i64w (by omega))) ?_
  refine DL_c (mvI rfl) ?_
  refine DL_nil ?_
  refine ⟨k + 1, ?_, ?_, ?_⟩
  ·omega
  ·skip
   refine Le.setB ((E.getD k (0, 0)).1.toNat) (28, 0) [] [] rfl ?_ ?_ trivial trivial (by kernel_rfl) (by kernel_rfl) ?_ ?_ rfl rfl rfl rfl (by exact fun j hj => bun_other hj) (by kernel_rfl) (fun _ => rfl)
   ·exact ⟨(lvRr (id := (10, 0)) rfl rfl), (by repeat' (exact Lv.sl)), (by repeat' (exact Lv.v)), (lvI (by rfl)), trivial⟩
   ·exact trivial
   ·exact nx_set hE (by omega)
   ·(simp; done)
  ·omega
 ·skip
  obtain rfl : m = k := by omega
  subst hm
  rw [← nxM_zero]
  refine D_exit ?_
  refine id (hK3 _ ?_)
  clear hK3; try clear K3
  refine D_seq fun K9 hK9 => ?_
  refine D_seq fun K10 hK10 => ?_
  refine D_region ?_
  refine DL_c (mvR rfl) ?_
  refine DL_c (op_lenB _ inferInstance rfl rfl) ?_
  refine DL_c (mvI rfl) ?_
  refine DL_nil (hK10 _ ?_)
  clear hK10; try clear K10
  refine D_block ?_
  refine D_loopLB (α := Nat) (fun i => i ≤ n) 51 [(5, _), (32, _)] [] (fun i => [(33, .v (.int .i64 (i : Int)))]) (fun i => []) (fun i => ⟨(10, 0), false, 29, 3, 1000, ((nxM n E i).map isl)⟩) [] [] (fun i => n - i) 0 ?_ (by
   refine Le.keepB [] [] rfl ?_ ?_ trivial trivial (by kernel_rfl) rfl rfl rfl (fun _ => rfl) (by kernel_rfl) (fun _ => rfl)
   ·exact ⟨(lvRr (id := (10, 0)) rfl rfl), (by repeat' (exact Lv.v)), (lvI (by rfl)), trivial⟩
   ·exact trivial) ?_
  ·omega
  intro i hi
  refine D_seq fun K11 hK11 => ?_
  refine D_region ?_
  refine DL_c (op_lss _ _ rfl rfl rfl) ?_
  refine DL_nil (hK11 _ ?_)
  clear hK11; try clear K11
  refine D_seq fun K12 hK12 => ?_
  refine D_splitC rfl (fun hc34 => ?_) (fun hc34 => ?_)
  ·skip
   have hsi := hS i (by omega)
   have hgi := nxM_get (E := E) (i := i) (show i < n by omega)
   rw [if_neg (Nat.lt_irrefl i)] at hgi
   have hst := srt_strict hsi.2
   have hlen := srt_len (nxt E i)
   refine D_skip (hK12 _ ?_)
   clear hK12; try clear K12
   refine D_seq fun K13 hK13 => ?_
   refine D_block ?_
   refine D_seq fun K14 hK14 => ?_
   refine D_region ?_
   refine DL_c (mvI rfl) ?_
   refine DL_c (asI rfl) ?_
   refine DL_nil (hK14 _ ?_)
   clear hK14; try clear K14
   refine D_seq fun K15 hK15 => ?_
   refine D_region ?_
   refine DL_c (mvR rfl) ?_
   refine DL_c (mvI rfl) ?_
   refine DL_c (op_ixB _ _ inferInstance rfl rfl rfl _ rfl (by omega) (by exact (Nat.zero_add _).trans (Nat.mul_one _))) ?_
   refine DL_c (op_ldB _ inferInstance rfl rfl (bun_cell (f := 1000) (b := ⟨(10, 0), false, 29, 3, 1000, _⟩) (j := i) (n := (nxt E i).length) rfl (by (simp only [isl_len, bsl_len, psl_len, mrows_len, nsl_len, ws_len, List.length_map, nxL_len, nxM_len, wts_len]; omega)) (by (rw [irow_get, hgi, isl_len]; done)) rfl)) ?_
   refine DL_c (op_callF (id := (1000, i)) inferInstance ?_ (sort_spec (nxt E i).length hsi.1 (nxt E i) rfl) (bun_row (b := ⟨(10, 0), false, 29, 3, 1000, _⟩) rfl (by rfl) rfl (by (simp only [isl_len, bsl_len, psl_len, mrows_len, nsl_len, ws_len, List.length_map, nxL_len, nxM_len, wts_len]; omega)) (by exact (irow_get _ _).trans (congrArg isl hgi))) rfl rfl rfl) ?_
   ·repeat' (first | exact argsR_nil | refine argsR_cons ?_ ?_ | exact lvRr rfl rfl)
   refine DL_nil (hK15 _ ?_)
   clear hK15; try clear K15
   refine D_region ?_
   refine DL_c (mvR rfl) ?_
   refine DL_c (mvI rfl) ?_
   refine DL_c (mvR rfl) ?_
   refine DL_c (mvI rfl) ?_
   refine DL_c (op_ixB _ _ inferInstance rfl rfl rfl _ rfl (by omega) (by exact (Nat.zero_add _).trans (Nat.mul_one _))) ?_
   refine DL_c (op_ldB _ inferInstance rfl rfl (bun_cell (f := 1000) (b := ⟨(10, 0), false, 29, 3, 1000, _⟩) (j := i) (n := (nxt E i).length) rfl (by (simp only [isl_len, bsl_len, psl_len, mrows_len, nsl_len, ws_len, List.length_map, nxL_len, nxM_len, wts_len]; omega)) (by (rw [irow_get, hgi, isl_len]; done)) rfl)) ?_
   refine DL_c (op_callR inferInstance [((0, 9), (1000, i)), ((0, 8), (47, 0))] ?_ (compact_spec (nxt E i).length (srt (nxt E i)) hlen (by omega) (by rw [← hlen] at hst ⊢; exact hst)) ⟨⟨rfl, ⟨_, bun_self, .rowE rfl⟩, rfl⟩, trivial⟩ ⟨rfl, trivial⟩ (by kernel_rfl)) ?_
   ·repeat' (first | exact argsR_nil | refine argsR_cons ?_ ?_ | exact lvRr rfl rfl)
   refine DL_c (op_ixB _ _ inferInstance rfl rfl rfl _ rfl (by omega) (by exact (Nat.zero_add _).trans (Nat.mul_one _))) ?_
   refine DL_c (op_stB _ _ inferInstance rfl rfl rfl rfl (by (simp only [Bun.cells_len, isl_len, bsl_len, psl_len, mrows_len, nsl_len, ws_len, List.length_map, nxL_len, nxM_len, wts_len, List.length_cons, List.length_nil]; omega)) (putL_one _ _ _ (by (simp only [Bun.cells_len, isl_len, bsl_len, psl_len, mrows_len, nsl_len, ws_len, List.length_map, nxL_len, nxM_len, wts_len, List.length_cons, List.length_nil]; omega)))) ?_
   refine DL_nil (hK13 _ ?_)
   clear hK13; try clear K13
   refine D_region ?_
   refine DL_c (op_add _ _ rfl rfl (i64w (by omega))) ?_
   refine DL_c (mvI rfl) ?_
   refine DL_nil ?_
   refine ⟨i + 1, ?_, ?_, ?_⟩
   ·omega
   ·skip
    refine Le.setB (i) (47, 0) [] [] rfl ?_ ?_ trivial trivial (by kernel_rfl) (by kernel_rfl) ?_ ?_ rfl rfl rfl rfl (by exact fun j hj => aft_other hj) (by kernel_rfl) (fun _ => rfl)
    ·exact ⟨(lvRr (id := (10, 0)) rfl rfl), (by repeat' (exact Lv.v)), (lvI (by rfl)), trivial⟩
    ·exact trivial
    ·exact nxM_succ (by omega)
    ·(simp; done)
   ·omega
  ·skip
   obtain rfl : n = i := by omega
   refine D_exit ?_
   refine id (hK9 _ ?_)
   clear hK9; try clear K9
   refine D_seq fun K16 hK16 => ?_
   refine D_le (σ' := mkStI 51 [(5, _)] ([] ++ [((10, 0), _)]) [] []) (Le.frzFam 1000 rfl ⟨(iR rfl), trivial⟩ ⟨frzOuter rfl rfl (fun _ => rfl) (by kernel_rfl) rfl rfl, trivial⟩ (fun _ => rfl) trivial (by kernel_rfl)) ?_
   refine D_le (σ' := mkStI 51 [(5, .sl _ _)] [] [] []) (Le.mkJ [] [(10, 0)] rfl ⟨(Lv.frzR rfl rfl (downs_isl _)), trivial⟩ trivial ⟨rfl, trivial⟩ trivial (by kernel_rfl)) ?_
   refine D_region ?_
   refine DL_c (mvS rfl) ?_
   refine DL_c (asS rfl) ?_
   refine DL_nil (hK16 _ ?_)
   clear hK16; try clear K16
   refine D_ret ?_
   refine ret1 (.inr rfl) rfl (.tmp (rfl : _ = AV.sl _ _)) (Le.out [] [] (lvS ?_ ?_) rfl rfl rfl trivial trivial)
   all_goals rfl
end Go.Proofs.Ytkbkmngbenohkaa

namespace Go.Proofs.Ytkbkmngbenohkaa
open Go.RowKit

def ind (n : Nat) (S : List (List Int)) (out : List Nat) (b : Nat) : Nat := (List.range n).countP fun a => !out.contains a && (S.getD a []).contains (b : Int)
theorem ind_pop {n : Nat} {S : List (List Int)} {out : List Nat} {a : Nat} (ha : a < n) (hn : a ∉ out) (b : Nat) : ind n S out b = ind n S (out ++ [a]) b + if (b : Int) ∈ S.getD a [] then 1 else 0 := by
  unfold ind
  have e : ∀ l : List Nat, l.Nodup → l.countP (fun x => !out.contains x && (S.getD x []).contains (b : Int)) = l.countP (fun x => !(out ++ [a]).contains x && (S.getD x []).contains (b : Int)) + if a ∈ l ∧ (b : Int) ∈ S.getD a [] then 1 else 0 := by
    intro l hl
    induction l with
    | nil => simp
    | cons x l ih =>
      rw [List.nodup_cons] at hl
      rw [List.countP_cons, List.countP_cons, ih hl.2]
      by_cases hx : x = a
      · subst hx
        have h1 : ¬ (x ∈ l ∧ (b : Int) ∈ S.getD x []) := fun h => hl.1 h.1
        rw [if_neg h1]
        by_cases hb : (b : Int) ∈ S.getD x []
        · simp [hb, hn]
        · have hb' : (S.getD x []).contains (b : Int) = false := by simpa using hb
          simp only [hb', hb, Bool.and_false, and_false, Bool.false_eq_true, if_false]
      · have h1 : (a ∈ x :: l ∧ (b : Int) ∈ S.getD a []) ↔ (a ∈ l ∧ (b : Int) ∈ S.getD a []) := by simp [Ne.symm hx]
        have h2 : (out ++ [a]).contains x = out.contains x := by simp [hx]
        rw [h2]
        simp only [h1]
        omega
  rw [e _ List.nodup_range]
  simp [ha]
structure TI (n : Nat) (S : List (List Int)) (out : List Nat) (H W r : List Int) : Prop where
  nd : out.Nodup
  lt : ∀ x ∈ out, x < n
  wl : W.length = n
  w : ∀ b, b < n → W.getD b 0 = ((ind n S out b + r.count (b : Int) : Nat) : Int)
  zo : ∀ x ∈ out, W.getD x 0 = 0
  h : ∀ b : Nat, b < n → ((b : Int) ∈ H ↔ b ∉ out ∧ W.getD b 0 = 0)
  hn : H.Nodup
  hb : ∀ x ∈ H, 0 ≤ x ∧ x < (n : Int)
  hp : HP H.length H
  rb : ∀ x ∈ r, 0 ≤ x ∧ x < (n : Int)
theorem TI.hlen {n : Nat} {S : List (List Int)} {out : List Nat} {H W r : List Int} (t : TI n S out H W r) : H.length ≤ n := by
  have h1 : (H.map Int.toNat).Nodup := by
    rw [List.nodup_iff_pairwise_ne, List.pairwise_map]
    refine List.Pairwise.imp_of_mem ?_ (List.nodup_iff_pairwise_ne.1 t.hn)
    intro x y hx hy hne he
    have := t.hb x hx
    have := t.hb y hy
    omega
  have h2 : ∀ x ∈ H.map Int.toNat, x < n := by
    intro x hx
    obtain ⟨y, hy, rfl⟩ := List.mem_map.1 hx
    have := t.hb y hy
    omega
  have h3 : ∀ (m : Nat) (l : List Nat), l.Nodup → (∀ x ∈ l, x < m) → l.length ≤ m := by
    intro m
    induction m with
    | zero => intro l _ h; cases l with
      | nil => simp
      | cons x l => exact absurd (h x List.mem_cons_self) (Nat.not_lt_zero _)
    | succ m ih =>
      intro l hn h
      have := ih (l.erase m) (hn.erase m) fun x hx => by
        have h1 := h x (List.mem_of_mem_erase hx)
        have h2 : x ≠ m := fun e => by subst e; exact (List.Nodup.not_mem_erase hn) hx
        omega
      have h3 := List.length_erase (a := m) (l := l)
      split at h3 <;> omega
  have := h3 n _ h1 h2
  simpa using this
theorem TI.pos {n : Nat} {S : List (List Int)} {out : List Nat} {H W r : List Int} {b : Nat} (t : TI n S out H W ((b : Int) :: r)) : b < n ∧ 1 ≤ W.getD b 0 ∧ b ∉ out := by
  have hb := t.rb b List.mem_cons_self
  have hbn : b < n := by omega
  have h1 := t.w b hbn
  rw [List.count_cons_self] at h1
  exact ⟨hbn, by omega, fun hm => by have := t.zo b hm; omega⟩
theorem TI.wset {n : Nat} {S : List (List Int)} {out : List Nat} {H W r : List Int} {b : Nat} (t : TI n S out H W ((b : Int) :: r)) (c : Nat) (hc : c < n) : (W.set b (W.getD b 0 - 1)).getD c 0 = ((ind n S out c + r.count (c : Int) : Nat) : Int) := by
  have h1 := t.w c hc
  have hp := t.pos
  rw [setD, t.wl]
  by_cases hcb : c = b
  · subst hcb
    rw [if_pos ⟨rfl, hc⟩]
    rw [List.count_cons_self] at h1
    omega
  · rw [if_neg (by simp [hcb]), h1, List.count_cons_of_ne (by omega)]
theorem TI.more {n : Nat} {S : List (List Int)} {out : List Nat} {H W r : List Int} {b : Nat} (t : TI n S out H W ((b : Int) :: r)) (hz : W.getD b 0 - 1 ≠ 0) : TI n S out H (W.set b (W.getD b 0 - 1)) r := by
  obtain ⟨hbn, hp, hbo⟩ := t.pos
  refine ⟨t.nd, t.lt, by rw [List.length_set]; exact t.wl, t.wset, fun x hx => ?_, fun c hc => ?_, t.hn, t.hb, t.hp, fun x hx => t.rb x (List.mem_cons_of_mem _ hx)⟩
  · rw [setD, if_neg (fun h : x = b ∧ _ => hbo (h.1 ▸ hx))]; exact t.zo x hx
  · rw [t.h c hc, setD, t.wl]
    by_cases hcb : c = b
    · subst hcb; rw [if_pos ⟨rfl, hc⟩]
      constructor
      · intro h; omega
      · intro h; omega
    · rw [if_neg (by simp [hcb])]
theorem TI.push {n : Nat} {S : List (List Int)} {out : List Nat} {H W r : List Int} {b : Nat} (t : TI n S out H W ((b : Int) :: r)) (hz : W.getD b 0 - 1 = 0) : TI n S out (hpush H b) (W.set b (W.getD b 0 - 1)) r := by
  obtain ⟨hbn, hp, hbo⟩ := t.pos
  obtain ⟨k1, k2⟩ := hpush_ok (v := (b : Int)) t.hp
  have hbH : (b : Int) ∉ H := fun h => by have := (t.h b hbn).1 h; omega
  refine ⟨t.nd, t.lt, by rw [List.length_set]; exact t.wl, t.wset, fun x hx => ?_, fun c hc => ?_, ?_, ?_, by rw [hpush_len t.hp]; exact k1, fun x hx => t.rb x (List.mem_cons_of_mem _ hx)⟩
  · rw [setD, if_neg (fun h : x = b ∧ _ => hbo (h.1 ▸ hx))]; exact t.zo x hx
  · rw [k2.mem_iff, List.mem_append, t.h c hc, setD, t.wl, List.mem_singleton]
    by_cases hcb : c = b
    · subst hcb; rw [if_pos ⟨rfl, hc⟩]
      exact ⟨fun _ => ⟨hbo, hz⟩, fun _ => .inr rfl⟩
    · rw [if_neg (by simp [hcb])]
      constructor
      · rintro (h | h)
        · exact h
        · omega
      · exact fun h => .inl h
  · refine k2.nodup_iff.2 ?_
    rw [List.nodup_append]
    exact ⟨t.hn, by simp, fun x hx y hy => by simp at hy; subst hy; exact fun e => hbH (e ▸ hx)⟩
  · intro x hx
    rw [k2.mem_iff, List.mem_append, List.mem_singleton] at hx
    rcases hx with hx | rfl
    · exact t.hb x hx
    · omega
theorem TI.pop {n : Nat} {S : List (List Int)} {out : List Nat} {H W : List Int} (t : TI n S out H W []) (h0 : 0 < H.length) {a : Nat} (ha : H.getD 0 0 = (a : Int)) (hSn : (S.getD a []).Nodup) (hSb : ∀ x ∈ S.getD a [], 0 ≤ x ∧ x < (n : Int)) :
    a < n ∧ TI n S (out ++ [a]) (hpop H) W (S.getD a []) := by
  obtain ⟨p1, p2, p3, p4⟩ := hpop_ok t.hp h0
  have haH : (a : Int) ∈ H := by rw [p3.mem_iff, ← ha]; exact List.mem_cons_self
  have han : a < n := by have := t.hb _ haH; omega
  obtain ⟨hao, haw⟩ := (t.h a han).1 haH
  have hnd := p3.nodup_iff.1 t.hn
  rw [List.nodup_cons, ha] at hnd
  refine ⟨han, ?_, ?_, t.wl, ?_, ?_, ?_, hnd.2, ?_, by rw [p2]; exact p1, hSb⟩
  · rw [List.nodup_append]
    exact ⟨t.nd, by simp, fun x hx y hy => by simp at hy; subst hy; exact fun e => hao (e ▸ hx)⟩
  · intro x hx
    rcases List.mem_append.1 hx with hx | hx
    · exact t.lt x hx
    · simp at hx; omega
  · intro b hb
    rw [t.w b hb, ind_pop han hao b, List.count_nil]
    congr 1
    by_cases hm : (b : Int) ∈ S.getD a []
    · have := List.nodup_iff_count.1 hSn (b : Int)
      have := List.count_pos_iff.2 hm
      rw [if_pos hm]; omega
    · rw [if_neg hm, List.count_eq_zero.2 hm]
  · intro x hx
    rcases List.mem_append.1 hx with hx | hx
    · exact t.zo x hx
    · simp at hx; subst hx; exact haw
  · intro b hb
    have h1 := t.h b hb
    rw [p3.mem_iff, List.mem_cons, ha] at h1
    constructor
    · intro h
      obtain ⟨h2, h3⟩ := h1.1 (.inr h)
      refine ⟨fun hm => ?_, h3⟩
      rcases List.mem_append.1 hm with hm | hm
      · exact h2 hm
      · simp at hm; subst hm; exact hnd.1 h
    · rintro ⟨h2, h3⟩
      rcases h1.2 ⟨fun hm => h2 (List.mem_append_left _ hm), h3⟩ with h4 | h4
      · exact absurd (by have : b = a := by omega
                         subst this; simp) h2
      · exact h4
  · intro x hx
    exact t.hb x (p3.mem_iff.2 (List.mem_cons_of_mem _ hx))
def nextV (n : Nat) (S : List (List Int)) (out : List Nat) : Option Nat := (List.range n).find? fun v => !out.contains v && ind n S out v == 0
def kahn (n : Nat) (S : List (List Int)) : Nat → List Nat → List Nat
  | 0, out => out
  | k + 1, out => match nextV n S out with
    | none => out
    | some v => kahn n S k (out ++ [v])
theorem TI.next {n : Nat} {S : List (List Int)} {out : List Nat} {H W : List Int} (t : TI n S out H W []) (h0 : 0 < H.length) {a : Nat} (ha : H.getD 0 0 = (a : Int)) : nextV n S out = some a := by
  have hmin : ∀ x ∈ H, (a : Int) ≤ x := by
    intro x hx
    obtain ⟨k, hk, rfl⟩ := List.getElem_of_mem hx
    have := t.hp.min k hk
    rw [ha, getD_at _ _ _ hk] at this
    exact this
  have haH : (a : Int) ∈ H := by rw [← ha, getD_at _ _ _ h0]; exact List.getElem_mem h0
  have han : a < n := by have := t.hb _ haH; omega
  have hin : ∀ b, b < n → ((b : Int) ∈ H ↔ (!out.contains b && ind n S out b == 0) = true) := by
    intro b hb
    rw [t.h b hb, t.w b hb, List.count_nil]
    simp
  unfold nextV
  rw [List.find?_range_eq_some]
  refine ⟨(hin a han).1 haH, by simpa using han, fun j hj => ?_⟩
  cases hc : (!out.contains j && ind n S out j == 0) with
  | false => rfl
  | true =>
    have := hmin _ ((hin j (by omega)).2 hc)
    omega
theorem TI.last {n : Nat} {S : List (List Int)} {out : List Nat} {W : List Int} (t : TI n S out [] W []) : nextV n S out = none := by
  unfold nextV
  rw [List.find?_eq_none]
  intro b hb
  have hb' : b < n := by simpa using hb
  have := t.h b hb'
  rw [t.w b hb', List.count_nil] at this
  simpa using this
end Go.Proofs.Ytkbkmngbenohkaa
