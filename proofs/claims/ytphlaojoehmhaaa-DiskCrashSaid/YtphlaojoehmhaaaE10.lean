/- The disk's functions by the machine: Write, do, Do as one law each. -/
import Derived.Test.YtphlaojoehmhaaaE9
import Derived.Test.YtphlaojoehmhaaaDLib17
set_option linter.unusedSimpArgs false
set_option linter.unusedVariables false
namespace Go.Proofs.Ytphlaojoehmhaaa
open Go.RowKit

theorem write_spec (n m : Nat) (cs : List Int) (ps : List (Int × Int)) (hn : cs.length = n) (hm : ps.length = m) (h1 : n ≤ 1000000) (h2 : m ≤ 1000000) (hok : Ok n ps) (c v : Int) :
    Spec Try.prog 12 (inSt [.agg [.sl n (isl cs), .sl m (wsl ps)], .v (.int .i64 c), .v (.int .i64 v)] []) (outSt (.agg [.sl (step cs ps 0 c v []).1.length (isl (step cs ps 0 c v []).1), .sl (step cs ps 0 c v []).2.length (wsl (step cs ps 0 c v []).2)]) []) := by
  subst hn; subst hm
  by_cases hc : c < 0
  · rw [show step cs ps 0 c v [] = (cs, ps) by simp [step, hc]]
    exact write_neg _ _ cs ps rfl rfl h1 h2 c v hc
  · by_cases hc' : (cs.length : Int) ≤ c
    · rw [show step cs ps 0 c v [] = (cs, ps) by simp [step, hc']]
      exact write_big _ _ cs ps rfl rfl h1 h2 c v (by omega) hc'
    · by_cases h4 : ps.length < 4
      · rw [show step cs ps 0 c v [] = (cs, ps ++ [(c, v)]) by simp [step, hc, hc', h4]]
        have := write_room _ _ cs ps rfl rfl h1 h4 c v (by omega) (by omega)
        rw [show ps.length + 1 = (ps ++ [(c, v)]).length by simp] at this
        exact this
      · rw [show step cs ps 0 c v [] = (app cs ((ps ++ [(c, v)]).take 1), (ps ++ [(c, v)]).drop 1) by simp [step, hc, hc', h4]]
        have := write_full _ _ cs ps rfl rfl h1 h2 (by omega) hok c v (by omega) (by omega)
        show Spec _ _ _ (outSt (.agg [.sl (app cs ((ps ++ [(c, v)]).take 1)).length _, .sl ((ps ++ [(c, v)]).drop 1).length _]) [])
        rw [length_app, show ((ps ++ [(c, v)]).drop 1).length = ps.length by simp]
        exact this
theorem rwrite_spec (n m : Nat) (cs : List Int) (ps : List (Int × Int)) (hn : cs.length = n) (hm : ps.length = m) (h1 : n ≤ 1000000) (h2 : m ≤ 1000000) (hok : Ok n ps) (c v : Int) :
    Spec Try.prog 32 (inSt [.agg [.sl n (isl cs), .sl m (wsl ps)], .v (.int .i64 c), .v (.int .i64 v)] []) (outSt (.agg [.sl (step cs ps 0 c v []).1.length (isl (step cs ps 0 c v []).1), .sl (step cs ps 0 c v []).2.length (wsl (step cs ps 0 c v []).2)]) []) := by
  subst hn; subst hm
  by_cases hc : c < 0
  · rw [show step cs ps 0 c v [] = (cs, ps) by simp [step, hc]]
    exact rwrite_neg _ _ cs ps c v hc
  · by_cases hc' : (cs.length : Int) ≤ c
    · rw [show step cs ps 0 c v [] = (cs, ps) by simp [step, hc']]
      exact rwrite_big _ _ cs ps c v (by omega) hc'
    · by_cases h4 : ps.length < 4
      · rw [show step cs ps 0 c v [] = (cs, ps ++ [(c, v)]) by simp [step, hc, hc', h4]]
        have := rwrite_room cs.length _ cs ps rfl h4 c v (by omega) (by omega)
        rw [show ps.length + 1 = (ps ++ [(c, v)]).length by simp] at this
        exact this
      · rw [show step cs ps 0 c v [] = (app cs ((ps ++ [(c, v)]).take 1), (ps ++ [(c, v)]).drop 1) by simp [step, hc, hc', h4]]
        have := rwrite_full _ _ cs ps rfl rfl h1 h2 (by omega) hok c v (by omega) (by omega)
        show Spec _ _ _ (outSt (.agg [.sl (app cs ((ps ++ [(c, v)]).take 1)).length _, .sl ((ps ++ [(c, v)]).drop 1).length _]) [])
        rw [length_app, show ((ps ++ [(c, v)]).drop 1).length = ps.length by simp]
        exact this
theorem resize_int (n m : Nat) (cs : List Int) (ps : List (Int × Int)) (hn : cs.length = n) (hm : ps.length = m) (h1 : n ≤ 1000000) (h2 : m ≤ 1000000) (hok : Ok n ps) (c : Int) (hc : 0 ≤ c) (hc' : c ≤ 1000000) :
    Spec Try.prog 25 (inSt [.agg [.sl n (isl cs), .sl m (wsl ps)], .v (.int .i64 c)] []) (outSt (.agg [.sl c.toNat (isl (fit (app cs ps) c.toNat)), .sl 0 []]) []) := by
  obtain ⟨k, rfl⟩ := Int.eq_ofNat_of_zero_le hc
  exact resize_spec n m k cs ps hn hm h1 h2 (by omega) hok
theorem rresize_int (n m : Nat) (cs : List Int) (ps : List (Int × Int)) (hn : cs.length = n) (hm : ps.length = m) (h1 : n ≤ 1000000) (h2 : m ≤ 1000000) (hok : Ok n ps) (c : Int) (hc : 0 ≤ c) (hc' : c ≤ 1000000) :
    Spec Try.prog 31 (inSt [.agg [.sl n (isl cs), .sl m (wsl ps)], .v (.int .i64 c)] []) (outSt (.agg [.sl c.toNat (isl (fit (app cs ps) c.toNat)), .sl 0 []]) []) := by
  obtain ⟨k, rfl⟩ := Int.eq_ofNat_of_zero_le hc
  exact rresize_spec n m k cs ps hn hm h1 h2 (by omega) hok
theorem do_spec (n m q : Nat) (cs : List Int) (ps : List (Int × Int)) (d c v : Int) (bs : List Bool) (hn : cs.length = n) (hm : ps.length = m) (hq : bs.length = q) (h1 : n ≤ 1000000) (h2 : m ≤ 1000000) (h3 : q ≤ 9223372036854775807) (hok : Ok n ps) (hd : d = 3 → 0 ≤ c ∧ c ≤ 1000000) :
    Spec Try.prog 17 (inSt [.agg [.sl n (isl cs), .sl m (wsl ps)], .agg [.v (.int .i64 d), .v (.int .i64 c), .v (.int .i64 v), .sl q (bsl bs)]] [])
      (outSt (.agg [.sl (step cs ps d c v bs).1.length (isl (step cs ps d c v bs).1), .sl (step cs ps d c v bs).2.length (wsl (step cs ps d c v bs).2)]) []) := by
  refine Spec.ofN Try.func17 rfl Try.ntmps17 rfl ?_
  refine D_seq fun K1 hK1 => ?_
  refine D_region ?_
  refine DL_c (op_box (2, 0) _ rfl rfl) ?_
  refine DL_c (op_box (3, 0) _ rfl rfl) ?_
  refine DL_c (op_alloc (4, 0) inferInstance rfl rfl) ?_
  refine DL_nil (hK1 _ ?_)
  clear hK1; try clear K1
  refine D_seq fun K2 hK2 => ?_
  refine D_seq fun K3 hK3 => ?_
  refine D_region ?_
  first
    | refine DL_c (op_fldP _ inferInstance rfl rfl rfl) ?_
    | refine DL_c (op_fldF _ inferInstance rfl rfl) ?_
  first
    | refine DL_c (op_ldB _ inferInstance rfl rfl (rfl : _ = some (AV.v (.int _ _)))) ?_
    | refine DL_c (op_ldR _ inferInstance rfl rfl (by first | rfl | exact isl_get _ _ (by omega) | exact bsl_get _ _ (by omega) | exact wsl_get0 _ _ (by omega) | exact wsl_get1 _ _ (by omega) | assumption) rfl) ?_
    | refine DL_c (op_ldF _ inferInstance rfl (by first | rfl | exact isl_get _ _ (by omega) | exact bsl_get _ _ (by omega) | exact wsl_get0 _ _ (by omega) | exact wsl_get1 _ _ (by omega) | assumption) rfl) ?_
  refine DL_nil (hK3 _ ?_)
  clear hK3; try clear K3
  refine D_block ?_
  refine D_seq fun K4 hK4 => ?_
  refine D_region ?_
  refine DL_c (op_eql _ _ rfl rfl rfl) ?_
  refine DL_c (op_as _ (rfl : _ = AV.v (.bool _))) ?_
  refine DL_nil (hK4 _ ?_)
  clear hK4; try clear K4
  refine D_split rfl (fun hc7 => ?_) (fun hc7 => ?_)
  · try simp only [decide_eq_true_eq, decide_eq_false_iff_not, bne_iff_ne, bne_eq_false_iff_eq, beq_iff_eq, beq_eq_false_iff_ne, Bool.not_eq_true', Bool.not_eq_false', ne_eq, Int.not_lt, Int.not_le] at hc7
    refine D_seq fun K5 hK5 => ?_
    refine D_region ?_
    first
      | refine DL_c (op_ldBA _ inferInstance rfl rfl rfl rfl) ?_
      | refine DL_c (op_ldRA _ inferInstance rfl rfl (by first | rfl | assumption) rfl) ?_
      | refine DL_c (op_ldFA _ inferInstance rfl (by first | rfl | assumption) rfl) ?_
    refine DL_c (op_callH inferInstance (by repeat' (first | exact argsLv_nil | refine argsLv_cons ?_ ?_ | exact Lv.v | exact Lv.sl | exact Lv.fp | exact Lv.nil | refine Lv.agg rfl ?_ | exact lv_nil | refine lv_cons ?_ ?_)) (sync_spec n m cs ps hn hm h1 h2 hok) rfl rfl) ?_
    first
      | refine DL_c (op_stB _ _ inferInstance rfl rfl rfl rfl (Nat.le_of_ble_eq_true rfl) rfl) ?_
      | refine DL_c (op_stR _ _ inferInstance rfl rfl rfl rfl rfl (by first | exact Nat.le_of_ble_eq_true rfl | (simp; omega)) rfl) ?_
    refine DL_nil (hK5 _ ?_)
    clear hK5; try clear K5
    refine D_ret ?_
    rw [show step cs ps d c v bs = (app cs ps, []) by simp [step, hc7]]
    refine ret1 (.inr rfl) rfl (.cellA inferInstance rfl rfl rfl) ?_
    exact Le.out [] [] (.agg rfl (lv_cons (lvS (by simp [length_app, hn]) rfl) (lv_cons .sl lv_nil))) rfl rfl rfl trivial trivial
  · try simp only [decide_eq_true_eq, decide_eq_false_iff_not, bne_iff_ne, bne_eq_false_iff_eq, beq_iff_eq, beq_eq_false_iff_ne, Bool.not_eq_true', Bool.not_eq_false', ne_eq, Int.not_lt, Int.not_le] at hc7
    refine D_seq fun K6 hK6 => ?_
    refine D_region ?_
    refine DL_c (op_eql _ _ rfl rfl rfl) ?_
    refine DL_c (op_as _ (rfl : _ = AV.v (.bool _))) ?_
    refine DL_nil (hK6 _ ?_)
    clear hK6; try clear K6
    refine D_split rfl (fun hc11 => ?_) (fun hc11 => ?_)
    · try simp only [decide_eq_true_eq, decide_eq_false_iff_not, bne_iff_ne, bne_eq_false_iff_eq, beq_iff_eq, beq_eq_false_iff_ne, Bool.not_eq_true', Bool.not_eq_false', ne_eq, Int.not_lt, Int.not_le] at hc11
      refine D_seq fun K7 hK7 => ?_
      refine D_region ?_
      first
        | refine DL_c (op_ldBA _ inferInstance rfl rfl rfl rfl) ?_
        | refine DL_c (op_ldRA _ inferInstance rfl rfl (by first | rfl | assumption) rfl) ?_
        | refine DL_c (op_ldFA _ inferInstance rfl (by first | rfl | assumption) rfl) ?_
      first
        | refine DL_c (op_fldP _ inferInstance rfl rfl rfl) ?_
        | refine DL_c (op_fldF _ inferInstance rfl rfl) ?_
      first
        | refine DL_c (op_ldB _ inferInstance rfl rfl (rfl : _ = some (AV.sl _ _))) ?_
        | refine DL_c (op_ldB _ inferInstance rfl rfl (rfl : _ = some (AV.ref _ _ _))) ?_
        | refine DL_c (op_ldB _ inferInstance rfl rfl (rfl : _ = some (AV.v (.slice _ _ _)))) ?_
        | refine DL_c (op_ldR _ inferInstance rfl rfl (by first | rfl | exact isl_get _ _ (by omega) | exact bsl_get _ _ (by omega) | exact wsl_get0 _ _ (by omega) | exact wsl_get1 _ _ (by omega) | assumption) rfl) ?_
        | refine DL_c (op_ldF _ inferInstance rfl (by first | rfl | exact isl_get _ _ (by omega) | exact bsl_get _ _ (by omega) | exact wsl_get0 _ _ (by omega) | exact wsl_get1 _ _ (by omega) | assumption) rfl) ?_
      refine DL_c (op_callH inferInstance (by repeat' (first | exact argsLv_nil | refine argsLv_cons ?_ ?_ | exact Lv.v | exact Lv.sl | exact Lv.fp | exact Lv.nil | refine Lv.agg rfl ?_ | exact lv_nil | refine lv_cons ?_ ?_)) (crash_spec n m q cs ps bs hn hm hq h1 h2 h3 hok) rfl rfl) ?_
      first
        | refine DL_c (op_stB _ _ inferInstance rfl rfl rfl rfl (Nat.le_of_ble_eq_true rfl) rfl) ?_
        | refine DL_c (op_stR _ _ inferInstance rfl rfl rfl rfl rfl (by first | exact Nat.le_of_ble_eq_true rfl | (simp; omega)) rfl) ?_
      refine DL_nil (hK7 _ ?_)
      clear hK7; try clear K7
      refine D_ret ?_
      rw [show step cs ps d c v bs = (app cs (kept ps bs), []) by simp [step, hc11]]
      refine ret1 (.inr rfl) rfl (.cellA inferInstance rfl rfl rfl) ?_
      exact Le.out [] [] (.agg rfl (lv_cons (lvS (by simp [length_app, hn]) rfl) (lv_cons .sl lv_nil))) rfl rfl rfl trivial trivial
    · try simp only [decide_eq_true_eq, decide_eq_false_iff_not, bne_iff_ne, bne_eq_false_iff_eq, beq_iff_eq, beq_eq_false_iff_ne, Bool.not_eq_true', Bool.not_eq_false', ne_eq, Int.not_lt, Int.not_le] at hc11
      refine D_seq fun K8 hK8 => ?_
      refine D_region ?_
      refine DL_c (op_eql _ _ rfl rfl rfl) ?_
      refine DL_c (op_as _ (rfl : _ = AV.v (.bool _))) ?_
      refine DL_nil (hK8 _ ?_)
      clear hK8; try clear K8
      refine D_split rfl (fun hc17 => ?_) (fun hc17 => ?_)
      · try simp only [decide_eq_true_eq, decide_eq_false_iff_not, bne_iff_ne, bne_eq_false_iff_eq, beq_iff_eq, beq_eq_false_iff_ne, Bool.not_eq_true', Bool.not_eq_false', ne_eq, Int.not_lt, Int.not_le] at hc17
        refine D_seq fun K9 hK9 => ?_
        refine D_region ?_
        first
          | refine DL_c (op_ldBA _ inferInstance rfl rfl rfl rfl) ?_
          | refine DL_c (op_ldRA _ inferInstance rfl rfl (by first | rfl | assumption) rfl) ?_
          | refine DL_c (op_ldFA _ inferInstance rfl (by first | rfl | assumption) rfl) ?_
        first
          | refine DL_c (op_fldP _ inferInstance rfl rfl rfl) ?_
          | refine DL_c (op_fldF _ inferInstance rfl rfl) ?_
        first
          | refine DL_c (op_ldB _ inferInstance rfl rfl (rfl : _ = some (AV.v (.int _ _)))) ?_
          | refine DL_c (op_ldR _ inferInstance rfl rfl (by first | rfl | exact isl_get _ _ (by omega) | exact bsl_get _ _ (by omega) | exact wsl_get0 _ _ (by omega) | exact wsl_get1 _ _ (by omega) | assumption) rfl) ?_
          | refine DL_c (op_ldF _ inferInstance rfl (by first | rfl | exact isl_get _ _ (by omega) | exact bsl_get _ _ (by omega) | exact wsl_get0 _ _ (by omega) | exact wsl_get1 _ _ (by omega) | assumption) rfl) ?_
        refine DL_c (op_callH inferInstance (by repeat' (first | exact argsLv_nil | refine argsLv_cons ?_ ?_ | exact Lv.v | exact Lv.sl | exact Lv.fp | exact Lv.nil | refine Lv.agg rfl ?_ | exact lv_nil | refine lv_cons ?_ ?_)) (resize_int n m cs ps hn hm h1 h2 hok c (hd hc17).1 (hd hc17).2) rfl rfl) ?_
        first
          | refine DL_c (op_stB _ _ inferInstance rfl rfl rfl rfl (Nat.le_of_ble_eq_true rfl) rfl) ?_
          | refine DL_c (op_stR _ _ inferInstance rfl rfl rfl rfl rfl (by first | exact Nat.le_of_ble_eq_true rfl | (simp; omega)) rfl) ?_
        refine DL_nil (hK9 _ ?_)
        clear hK9; try clear K9
        refine D_ret ?_
        rw [show step cs ps d c v bs = (fit (app cs ps) c.toNat, []) by simp [step, hc17]]
        refine ret1 (.inr rfl) rfl (.cellA inferInstance rfl rfl rfl) ?_
        exact Le.out [] [] (.agg rfl (lv_cons (lvS (by simp [length_fit]) rfl) (lv_cons .sl lv_nil))) rfl rfl rfl trivial trivial
      · try simp only [decide_eq_true_eq, decide_eq_false_iff_not, bne_iff_ne, bne_eq_false_iff_eq, beq_iff_eq, beq_eq_false_iff_ne, Bool.not_eq_true', Bool.not_eq_false', ne_eq, Int.not_lt, Int.not_le] at hc17
        refine D_skip (hK2 _ ?_)
        clear hK2; try clear K2
        refine D_seq fun K10 hK10 => ?_
        refine D_region ?_
        first
          | refine DL_c (op_ldBA _ inferInstance rfl rfl rfl rfl) ?_
          | refine DL_c (op_ldRA _ inferInstance rfl rfl (by first | rfl | assumption) rfl) ?_
          | refine DL_c (op_ldFA _ inferInstance rfl (by first | rfl | assumption) rfl) ?_
        first
          | refine DL_c (op_fldP _ inferInstance rfl rfl rfl) ?_
          | refine DL_c (op_fldF _ inferInstance rfl rfl) ?_
        first
          | refine DL_c (op_ldB _ inferInstance rfl rfl (rfl : _ = some (AV.v (.int _ _)))) ?_
          | refine DL_c (op_ldR _ inferInstance rfl rfl (by first | rfl | exact isl_get _ _ (by omega) | exact bsl_get _ _ (by omega) | exact wsl_get0 _ _ (by omega) | exact wsl_get1 _ _ (by omega) | assumption) rfl) ?_
          | refine DL_c (op_ldF _ inferInstance rfl (by first | rfl | exact isl_get _ _ (by omega) | exact bsl_get _ _ (by omega) | exact wsl_get0 _ _ (by omega) | exact wsl_get1 _ _ (by omega) | assumption) rfl) ?_
        first
          | refine DL_c (op_fldP _ inferInstance rfl rfl rfl) ?_
          | refine DL_c (op_fldF _ inferInstance rfl rfl) ?_
        first
          | refine DL_c (op_ldB _ inferInstance rfl rfl (rfl : _ = some (AV.v (.int _ _)))) ?_
          | refine DL_c (op_ldR _ inferInstance rfl rfl (by first | rfl | exact isl_get _ _ (by omega) | exact bsl_get _ _ (by omega) | exact wsl_get0 _ _ (by omega) | exact wsl_get1 _ _ (by omega) | assumption) rfl) ?_
          | refine DL_c (op_ldF _ inferInstance rfl (by first | rfl | exact isl_get _ _ (by omega) | exact bsl_get _ _ (by omega) | exact wsl_get0 _ _ (by omega) | exact wsl_get1 _ _ (by omega) | assumption) rfl) ?_
        refine DL_c (op_callH inferInstance (by repeat' (first | exact argsLv_nil | refine argsLv_cons ?_ ?_ | exact Lv.v | exact Lv.sl | exact Lv.fp | exact Lv.nil | refine Lv.agg rfl ?_ | exact lv_nil | refine lv_cons ?_ ?_)) (write_spec n m cs ps hn hm h1 h2 hok c v) rfl rfl) ?_
        first
          | refine DL_c (op_stB _ _ inferInstance rfl rfl rfl rfl (Nat.le_of_ble_eq_true rfl) rfl) ?_
          | refine DL_c (op_stR _ _ inferInstance rfl rfl rfl rfl rfl (by first | exact Nat.le_of_ble_eq_true rfl | (simp; omega)) rfl) ?_
        refine DL_nil (hK10 _ ?_)
        clear hK10; try clear K10
        refine D_ret ?_
        rw [show step cs ps d c v bs = step cs ps 0 c v [] by simp [step, hc7, hc11, hc17]]
        refine ret1 (.inr rfl) rfl (.cellA inferInstance rfl rfl rfl) ?_
        exact Le.out [] [] (.agg rfl (lv_cons .sl (lv_cons .sl lv_nil))) rfl rfl rfl trivial trivial
theorem rdo_spec (n m q : Nat) (cs : List Int) (ps : List (Int × Int)) (d c v : Int) (bs : List Bool) (hn : cs.length = n) (hm : ps.length = m) (hq : bs.length = q) (h1 : n ≤ 1000000) (h2 : m ≤ 1000000) (h3 : q ≤ 9223372036854775807) (hok : Ok n ps) (hd : d = 3 → 0 ≤ c ∧ c ≤ 1000000) :
    Spec Try.prog 18 (inSt [.agg [.sl n (isl cs), .sl m (wsl ps)], .agg [.v (.int .i64 d), .v (.int .i64 c), .v (.int .i64 v), .sl q (bsl bs)]] [])
      (outSt (.agg [.sl (step cs ps d c v bs).1.length (isl (step cs ps d c v bs).1), .sl (step cs ps d c v bs).2.length (wsl (step cs ps d c v bs).2)]) []) := by
  refine Spec.ofN Try.func18 rfl Try.ntmps18 rfl ?_
  refine D_seq fun K1 hK1 => ?_
  refine D_region ?_
  refine DL_c (op_box (2, 0) _ rfl rfl) ?_
  refine DL_c (op_box (3, 0) _ rfl rfl) ?_
  refine DL_c (op_alloc (4, 0) inferInstance rfl rfl) ?_
  refine DL_nil (hK1 _ ?_)
  clear hK1; try clear K1
  refine D_seq fun K2 hK2 => ?_
  refine D_seq fun K3 hK3 => ?_
  refine D_region ?_
  first
    | refine DL_c (op_fldP _ inferInstance rfl rfl rfl) ?_
    | refine DL_c (op_fldF _ inferInstance rfl rfl) ?_
  first
    | refine DL_c (op_ldB _ inferInstance rfl rfl (rfl : _ = some (AV.v (.int _ _)))) ?_
    | refine DL_c (op_ldR _ inferInstance rfl rfl (by first | rfl | exact isl_get _ _ (by omega) | exact bsl_get _ _ (by omega) | exact wsl_get0 _ _ (by omega) | exact wsl_get1 _ _ (by omega) | assumption) rfl) ?_
    | refine DL_c (op_ldF _ inferInstance rfl (by first | rfl | exact isl_get _ _ (by omega) | exact bsl_get _ _ (by omega) | exact wsl_get0 _ _ (by omega) | exact wsl_get1 _ _ (by omega) | assumption) rfl) ?_
  refine DL_nil (hK3 _ ?_)
  clear hK3; try clear K3
  refine D_block ?_
  refine D_seq fun K4 hK4 => ?_
  refine D_region ?_
  refine DL_c (op_eql _ _ rfl rfl rfl) ?_
  refine DL_c (op_as _ (rfl : _ = AV.v (.bool _))) ?_
  refine DL_nil (hK4 _ ?_)
  clear hK4; try clear K4
  refine D_split rfl (fun hc7 => ?_) (fun hc7 => ?_)
  · try simp only [decide_eq_true_eq, decide_eq_false_iff_not, bne_iff_ne, bne_eq_false_iff_eq, beq_iff_eq, beq_eq_false_iff_ne, Bool.not_eq_true', Bool.not_eq_false', ne_eq, Int.not_lt, Int.not_le] at hc7
    refine D_seq fun K5 hK5 => ?_
    refine D_region ?_
    first
      | refine DL_c (op_ldBA _ inferInstance rfl rfl rfl rfl) ?_
      | refine DL_c (op_ldRA _ inferInstance rfl rfl (by first | rfl | assumption) rfl) ?_
      | refine DL_c (op_ldFA _ inferInstance rfl (by first | rfl | assumption) rfl) ?_
    refine DL_c (op_callH inferInstance (by repeat' (first | exact argsLv_nil | refine argsLv_cons ?_ ?_ | exact Lv.v | exact Lv.sl | exact Lv.fp | exact Lv.nil | refine Lv.agg rfl ?_ | exact lv_nil | refine lv_cons ?_ ?_)) (rsync_spec n m cs ps hn hm h1 h2 hok) rfl rfl) ?_
    first
      | refine DL_c (op_stB _ _ inferInstance rfl rfl rfl rfl (Nat.le_of_ble_eq_true rfl) rfl) ?_
      | refine DL_c (op_stR _ _ inferInstance rfl rfl rfl rfl rfl (by first | exact Nat.le_of_ble_eq_true rfl | (simp; omega)) rfl) ?_
    refine DL_nil (hK5 _ ?_)
    clear hK5; try clear K5
    refine D_ret ?_
    rw [show step cs ps d c v bs = (app cs ps, []) by simp [step, hc7]]
    refine ret1 (.inr rfl) rfl (.cellA inferInstance rfl rfl rfl) ?_
    exact Le.out [] [] (.agg rfl (lv_cons (lvS (by simp [length_app, hn]) rfl) (lv_cons .sl lv_nil))) rfl rfl rfl trivial trivial
  · try simp only [decide_eq_true_eq, decide_eq_false_iff_not, bne_iff_ne, bne_eq_false_iff_eq, beq_iff_eq, beq_eq_false_iff_ne, Bool.not_eq_true', Bool.not_eq_false', ne_eq, Int.not_lt, Int.not_le] at hc7
    refine D_seq fun K6 hK6 => ?_
    refine D_region ?_
    refine DL_c (op_eql _ _ rfl rfl rfl) ?_
    refine DL_c (op_as _ (rfl : _ = AV.v (.bool _))) ?_
    refine DL_nil (hK6 _ ?_)
    clear hK6; try clear K6
    refine D_split rfl (fun hc11 => ?_) (fun hc11 => ?_)
    · try simp only [decide_eq_true_eq, decide_eq_false_iff_not, bne_iff_ne, bne_eq_false_iff_eq, beq_iff_eq, beq_eq_false_iff_ne, Bool.not_eq_true', Bool.not_eq_false', ne_eq, Int.not_lt, Int.not_le] at hc11
      refine D_seq fun K7 hK7 => ?_
      refine D_region ?_
      first
        | refine DL_c (op_ldBA _ inferInstance rfl rfl rfl rfl) ?_
        | refine DL_c (op_ldRA _ inferInstance rfl rfl (by first | rfl | assumption) rfl) ?_
        | refine DL_c (op_ldFA _ inferInstance rfl (by first | rfl | assumption) rfl) ?_
      first
        | refine DL_c (op_fldP _ inferInstance rfl rfl rfl) ?_
        | refine DL_c (op_fldF _ inferInstance rfl rfl) ?_
      first
        | refine DL_c (op_ldB _ inferInstance rfl rfl (rfl : _ = some (AV.sl _ _))) ?_
        | refine DL_c (op_ldB _ inferInstance rfl rfl (rfl : _ = some (AV.ref _ _ _))) ?_
        | refine DL_c (op_ldB _ inferInstance rfl rfl (rfl : _ = some (AV.v (.slice _ _ _)))) ?_
        | refine DL_c (op_ldR _ inferInstance rfl rfl (by first | rfl | exact isl_get _ _ (by omega) | exact bsl_get _ _ (by omega) | exact wsl_get0 _ _ (by omega) | exact wsl_get1 _ _ (by omega) | assumption) rfl) ?_
        | refine DL_c (op_ldF _ inferInstance rfl (by first | rfl | exact isl_get _ _ (by omega) | exact bsl_get _ _ (by omega) | exact wsl_get0 _ _ (by omega) | exact wsl_get1 _ _ (by omega) | assumption) rfl) ?_
      refine DL_c (op_callH inferInstance (by repeat' (first | exact argsLv_nil | refine argsLv_cons ?_ ?_ | exact Lv.v | exact Lv.sl | exact Lv.fp | exact Lv.nil | refine Lv.agg rfl ?_ | exact lv_nil | refine lv_cons ?_ ?_)) (rcrash_spec n m q cs ps bs hn hm hq h1 h2 h3 hok) rfl rfl) ?_
      first
        | refine DL_c (op_stB _ _ inferInstance rfl rfl rfl rfl (Nat.le_of_ble_eq_true rfl) rfl) ?_
        | refine DL_c (op_stR _ _ inferInstance rfl rfl rfl rfl rfl (by first | exact Nat.le_of_ble_eq_true rfl | (simp; omega)) rfl) ?_
      refine DL_nil (hK7 _ ?_)
      clear hK7; try clear K7
      refine D_ret ?_
      rw [show step cs ps d c v bs = (app cs (kept ps bs), []) by simp [step, hc11]]
      refine ret1 (.inr rfl) rfl (.cellA inferInstance rfl rfl rfl) ?_
      exact Le.out [] [] (.agg rfl (lv_cons (lvS (by simp [length_app, hn]) rfl) (lv_cons .sl lv_nil))) rfl rfl rfl trivial trivial
    · try simp only [decide_eq_true_eq, decide_eq_false_iff_not, bne_iff_ne, bne_eq_false_iff_eq, beq_iff_eq, beq_eq_false_iff_ne, Bool.not_eq_true', Bool.not_eq_false', ne_eq, Int.not_lt, Int.not_le] at hc11
      refine D_seq fun K8 hK8 => ?_
      refine D_region ?_
      refine DL_c (op_eql _ _ rfl rfl rfl) ?_
      refine DL_c (op_as _ (rfl : _ = AV.v (.bool _))) ?_
      refine DL_nil (hK8 _ ?_)
      clear hK8; try clear K8
      refine D_split rfl (fun hc17 => ?_) (fun hc17 => ?_)
      · try simp only [decide_eq_true_eq, decide_eq_false_iff_not, bne_iff_ne, bne_eq_false_iff_eq, beq_iff_eq, beq_eq_false_iff_ne, Bool.not_eq_true', Bool.not_eq_false', ne_eq, Int.not_lt, Int.not_le] at hc17
        refine D_seq fun K9 hK9 => ?_
        refine D_region ?_
        first
          | refine DL_c (op_ldBA _ inferInstance rfl rfl rfl rfl) ?_
          | refine DL_c (op_ldRA _ inferInstance rfl rfl (by first | rfl | assumption) rfl) ?_
          | refine DL_c (op_ldFA _ inferInstance rfl (by first | rfl | assumption) rfl) ?_
        first
          | refine DL_c (op_fldP _ inferInstance rfl rfl rfl) ?_
          | refine DL_c (op_fldF _ inferInstance rfl rfl) ?_
        first
          | refine DL_c (op_ldB _ inferInstance rfl rfl (rfl : _ = some (AV.v (.int _ _)))) ?_
          | refine DL_c (op_ldR _ inferInstance rfl rfl (by first | rfl | exact isl_get _ _ (by omega) | exact bsl_get _ _ (by omega) | exact wsl_get0 _ _ (by omega) | exact wsl_get1 _ _ (by omega) | assumption) rfl) ?_
          | refine DL_c (op_ldF _ inferInstance rfl (by first | rfl | exact isl_get _ _ (by omega) | exact bsl_get _ _ (by omega) | exact wsl_get0 _ _ (by omega) | exact wsl_get1 _ _ (by omega) | assumption) rfl) ?_
        refine DL_c (op_callH inferInstance (by repeat' (first | exact argsLv_nil | refine argsLv_cons ?_ ?_ | exact Lv.v | exact Lv.sl | exact Lv.fp | exact Lv.nil | refine Lv.agg rfl ?_ | exact lv_nil | refine lv_cons ?_ ?_)) (rresize_int n m cs ps hn hm h1 h2 hok c (hd hc17).1 (hd hc17).2) rfl rfl) ?_
        first
          | refine DL_c (op_stB _ _ inferInstance rfl rfl rfl rfl (Nat.le_of_ble_eq_true rfl) rfl) ?_
          | refine DL_c (op_stR _ _ inferInstance rfl rfl rfl rfl rfl (by first | exact Nat.le_of_ble_eq_true rfl | (simp; omega)) rfl) ?_
        refine DL_nil (hK9 _ ?_)
        clear hK9; try clear K9
        refine D_ret ?_
        rw [show step cs ps d c v bs = (fit (app cs ps) c.toNat, []) by simp [step, hc17]]
        refine ret1 (.inr rfl) rfl (.cellA inferInstance rfl rfl rfl) ?_
        exact Le.out [] [] (.agg rfl (lv_cons (lvS (by simp [length_fit]) rfl) (lv_cons .sl lv_nil))) rfl rfl rfl trivial trivial
      · try simp only [decide_eq_true_eq, decide_eq_false_iff_not, bne_iff_ne, bne_eq_false_iff_eq, beq_iff_eq, beq_eq_false_iff_ne, Bool.not_eq_true', Bool.not_eq_false', ne_eq, Int.not_lt, Int.not_le] at hc17
        refine D_skip (hK2 _ ?_)
        clear hK2; try clear K2
        refine D_seq fun K10 hK10 => ?_
        refine D_region ?_
        first
          | refine DL_c (op_ldBA _ inferInstance rfl rfl rfl rfl) ?_
          | refine DL_c (op_ldRA _ inferInstance rfl rfl (by first | rfl | assumption) rfl) ?_
          | refine DL_c (op_ldFA _ inferInstance rfl (by first | rfl | assumption) rfl) ?_
        first
          | refine DL_c (op_fldP _ inferInstance rfl rfl rfl) ?_
          | refine DL_c (op_fldF _ inferInstance rfl rfl) ?_
        first
          | refine DL_c (op_ldB _ inferInstance rfl rfl (rfl : _ = some (AV.v (.int _ _)))) ?_
          | refine DL_c (op_ldR _ inferInstance rfl rfl (by first | rfl | exact isl_get _ _ (by omega) | exact bsl_get _ _ (by omega) | exact wsl_get0 _ _ (by omega) | exact wsl_get1 _ _ (by omega) | assumption) rfl) ?_
          | refine DL_c (op_ldF _ inferInstance rfl (by first | rfl | exact isl_get _ _ (by omega) | exact bsl_get _ _ (by omega) | exact wsl_get0 _ _ (by omega) | exact wsl_get1 _ _ (by omega) | assumption) rfl) ?_
        first
          | refine DL_c (op_fldP _ inferInstance rfl rfl rfl) ?_
          | refine DL_c (op_fldF _ inferInstance rfl rfl) ?_
        first
          | refine DL_c (op_ldB _ inferInstance rfl rfl (rfl : _ = some (AV.v (.int _ _)))) ?_
          | refine DL_c (op_ldR _ inferInstance rfl rfl (by first | rfl | exact isl_get _ _ (by omega) | exact bsl_get _ _ (by omega) | exact wsl_get0 _ _ (by omega) | exact wsl_get1 _ _ (by omega) | assumption) rfl) ?_
          | refine DL_c (op_ldF _ inferInstance rfl (by first | rfl | exact isl_get _ _ (by omega) | exact bsl_get _ _ (by omega) | exact wsl_get0 _ _ (by omega) | exact wsl_get1 _ _ (by omega) | assumption) rfl) ?_
        refine DL_c (op_callH inferInstance (by repeat' (first | exact argsLv_nil | refine argsLv_cons ?_ ?_ | exact Lv.v | exact Lv.sl | exact Lv.fp | exact Lv.nil | refine Lv.agg rfl ?_ | exact lv_nil | refine lv_cons ?_ ?_)) (rwrite_spec n m cs ps hn hm h1 h2 hok c v) rfl rfl) ?_
        first
          | refine DL_c (op_stB _ _ inferInstance rfl rfl rfl rfl (Nat.le_of_ble_eq_true rfl) rfl) ?_
          | refine DL_c (op_stR _ _ inferInstance rfl rfl rfl rfl rfl (by first | exact Nat.le_of_ble_eq_true rfl | (simp; omega)) rfl) ?_
        refine DL_nil (hK10 _ ?_)
        clear hK10; try clear K10
        refine D_ret ?_
        rw [show step cs ps d c v bs = step cs ps 0 c v [] by simp [step, hc7, hc11, hc17]]
        refine ret1 (.inr rfl) rfl (.cellA inferInstance rfl rfl rfl) ?_
        exact Le.out [] [] (.agg rfl (lv_cons .sl (lv_cons .sl lv_nil))) rfl rfl rfl trivial trivial
end Go.Proofs.Ytphlaojoehmhaaa
